/- The law PicardLongest is true for all systems, boxes, steps and precisions: Longest halves the step until Enclose finds a tube. -/
import Derived.Test.YtdgnpeddgdclhaaGreatDoorM04
import Derived.DeepKeys
set_option linter.unusedSimpArgs false
set_option linter.unusedVariables false
set_option maxHeartbeats 4000000
namespace Go.Proofs.YtdgnpeddgdclhaaGreatDoor
open Go.RowKit Fp Pu
def CC(a b:Nat)(x:Nat):PS:=⟨12,true,[(0,.e (.v (.int .u64 ((((cv a b x).1):Nat):Int)))),(1,.e (.v (.int .u64 ((((cv a b x).2):Nat):Int))))],[]⟩
theorem Mg(a b N:Nat)(ha:a<18446744073709551616)(hb:b<18446744073709551616)(hlo:∀ k,k<N->(cv a b k).2≠0)(hN:(cv a b N).2=0):ae 205 [(.v (.int .u64 (a:Int))),(.v (.int .u64 (b:Int)))] (.v (.int .u64 ((((cv a b N).1):Nat):Int))):=by
 exact tr true Tryz.call205 Tryz.func205 (chain [.s (Sp.upto (CC a b) 0 N (by omega) (fun x hx hltx=>by
    have hb0:=hlo x (by omega);exact aB (chain [tB 6 (DX (hlo x (by omega)):(((((cv a b x).2):Nat):Int) != 0)=true),.a (by omega:0<(((((cv a b x).2):Nat):Int):Int))] <| .e (chain [.o 0 (.int (by first|rfl|omega|(simp only[Nat.add_mul,Nat.one_mul];omega)):PV.le (.e (.v (.int .u64 ((((cv a b x).2):Nat):Int)))) (.e (.v (.int .u64 ((((cv a b (x+1)).1):Nat):Int))))),
  .o 1 (.int (by first|rfl|omega|(simp only[Nat.add_mul,Nat.one_mul];omega)):PV.le (.e (.v (.int .u64 (((((cv a b x).1)%((cv a b x).2)):Nat):Int)))) (.e (.v (.int .u64 ((((cv a b (x+1)).2):Nat):Int)))))] <| .nil)) (by kernel_rfl))
  (fun hx=>by
    exact aB (chain [tB 6 (DW hN:(((((cv a b N).2):Nat):Int) != 0)=false)] <| .nil) (by kernel_rfl)) (by nofun):bA 1 Tryz.f205 (CC a b 0) (.exit 0) ⟨12,true,[(0,.e (.v (.int .u64 ((((cv a b N).1):Nat):Int))))],[]⟩) (chain [.o 0 (.int (by first|rfl|omega|(simp only[Nat.add_mul,Nat.one_mul];omega)):PV.le (.e (.v (.int .u64 (a:Int)))) (.e (.v (.int .u64 ((((cv a b 0).1):Nat):Int))))),
  .o 1 (.int (by first|rfl|omega|(simp only[Nat.add_mul,Nat.one_mul];omega)):PV.le (.e (.v (.int .u64 (b:Int)))) (.e (.v (.int .u64 ((((cv a b 0).2):Nat):Int)))))] <| .nil)] <| .nil) (by kernel_rfl)
theorem Mh(a b:Nat)(ha:a<18446744073709551616)(hb:b<18446744073709551616):ae 205 [(.v (.int .u64 (a:Int))),(.v (.int .u64 (b:Int)))] (.v (.int .u64 (((Nat.gcd a b):Nat):Int))):=by
 obtain⟨N,h1,h2⟩:=Cb b a;have hg:=wb a b N;rw[h2,Nat.gcd_zero_right]at hg;rw[<-hg];exact Mg a b N ha hb h1 h2
theorem size_pos(m:Nat)(h:m<=1073741824):ae 206 [(iP m)] (.v (.int .u64 (m:Int))):=by
 exact tr true Tryz.call206 Tryz.func206 (chain [tF 4 ((m:Int)<0) (by omega),.o 9 (.int (fY _ (by omega)):PV.le (.e (.v (.int .u64 (IntKind.u64.wrap (m:Int))))) (.e (.v (.int .u64 (m:Int)))))] <| .nil) (by kernel_rfl)
theorem RZ(m:Nat)(h0:0<m)(h:m<=1073741824):ae 206 [(iP (-(m:Int)))] (.v (.int .u64 (m:Int))):=by
 exact tr true Tryz.call206 Tryz.func206 (chain [tT 4 ((-(m:Int))<0) (by omega),ar (0-(-(m:Int))) (by omega),.o 6 (.int (by omega):PV.le (.e (iP (0-(-(m:Int))))) (.e (iP m))),
  .o 7 (.int (fY _ (by omega)):PV.le (.e (.v (.int .u64 (IntKind.u64.wrap (m:Int))))) (.e (.v (.int .u64 (m:Int)))))] <| .nil) (by kernel_rfl)
theorem FP(n:Int)(h1:-1073741824<=n)(h2:n<=1073741824):ae 206 [iP n] (.v (.int .u64 (n.natAbs:Int))):=by
 by_cases h:0<=n
 .obtain ⟨m,rfl⟩:=Int.eq_ofNat_of_zero_le h
  exact size_pos m (by omega)
 .obtain ⟨m,rfl⟩:∃ m:Nat,n = -(m:Int):=⟨n.natAbs,by omega⟩
  rw[Int.natAbs_neg,Int.natAbs_natCast];exact RZ m (by omega) (by omega)
theorem kD(g:Nat):((g:Int)==1)=decide (g=1):=by
 by_cases h:g=1
 .subst h;rfl
 .rw [decide_eq_false h];exact beq_eq_false_iff_ne.2 (by omega)
theorem tY(n d:Int):ae 169 [(.agg [(iP n),(iP d)])] (bP (dp n d)):=by
 exact tr true Tryz.call169 Tryz.func169 (.w (1<=d)
  (fun k1=>chain [tB 5 (decide_eq_true k1)] <| .w (d<=1073741824)
   (fun k2=>chain [tB 9 (decide_eq_true k2)] <| .w ((-1073741824)<=n)
    (fun k3=>chain [tB 14 (decide_eq_true k3)] <| .w (n<=1073741824)
     (fun k4=>chain [tB 19 (decide_eq_true k4),.c (FP _ (by omega) (by omega):ae 206 [(iP n)] _),.c (FP _ (by omega) (by omega):ae 206 [(iP d)] _),
      .c (Mh _ _ (by omega) (by omega):ae 205 [(.v (.int .u64 (((Int.natAbs n):Nat):Int))),(.v (.int .u64 (((Int.natAbs d):Nat):Int)))] _)]<|rQ (bP ((((Nat.gcd (Int.natAbs n) (Int.natAbs d)):Nat):Int)==1)) (bP (dp n d)) (by unfold dp;simp[kD,k1,k2,k3,k4]))
     (fun k4=>chain [tB 19 (decide_eq_false k4)]<|rQ (bP false) (bP (dp n d)) (by unfold dp;simp[kD,k1,k2,k3,k4])))
    (fun k3=>chain [tB 14 (decide_eq_false k3)]<|rQ (bP false) (bP (dp n d)) (by unfold dp;simp[kD,k1,k2,k3])))
   (fun k2=>chain [tB 9 (decide_eq_false k2)]<|rQ (bP false) (bP (dp n d)) (by unfold dp;simp[kD,k1,k2])))
  (fun k1=>chain [tB 5 (decide_eq_false k1)]<|rQ (bP false) (bP (dp n d)) (by unfold dp;simp[kD,k1]))) (by kernel_rfl)
theorem DA{lo hi:Dy}{e f:Int}(h:e≠0\/f≠0):ck lo e hi f=an:=if_pos h
theorem OI{lo hi:Dy}{e f:Int}(h:e=0)(k:f=0):ck lo e hi f=⟨lo,hi,false⟩:=if_neg (by rw[h,k];decide)
theorem Ql(n d:Int)(p:Nat)(h:dp n d=true)(hp1:8<=p)(hp2:p<=512):ae 210 [(.agg [(iP n),(iP d)]),(iP p)] (ai (gI n d p)):=by
 obtain⟨r1,r2,r3,r4⟩:=yd h;have v1:=dD (n:=n) (by omega);have v2:=dD (n:=d) (by omega);have d0:(ay d).m≠0:=CN (by omega);exact tr true Tryz.call210 Tryz.func210 (chain [.c (tY _ _:ae 169 [(.agg [(iP n),(iP d)])] _),tB 11 (by rw[h];rfl:(!(dp n d))=false),.c (dB _ (by omega):ae 113 [(iP n)] _),.c (dB _ (by omega):ae 113 [(iP d)] _),
  .c (EJ (ay n) (ay d) p ‹_› ‹_› ‹_› (by omega) (by omega)),.c (dB _ (by omega):ae 113 [(iP n)] _),.c (dB _ (by omega):ae 113 [(iP d)] _),
  .c (EK (ay n) (ay d) p ‹_› ‹_› ‹_› (by omega) (by omega))] <| .w ((fp (ay n) (ay d) p false)=0)
  (fun k1=>chain [tB 36 (bne_eq_false_iff_eq.2 k1)] <| .w ((fp (ay n) (ay d) p true)=0)
   (fun k2=>chain [tB 39 (bne_eq_false_iff_eq.2 k2)]<|rQ (ai (Iv.mk (eu (ay n) (ay d) p false) (eu (ay n) (ay d) p true) false)) (ai (gI n d p)) (by unfold gI;rw[if_pos h,OI k1 k2]))
   (fun k2=>chain [tB 39 (bne_iff_ne.2 k2),.o 41 (.e uS:PV.le (.e (.agg [(bP false),(.v (.slice none 0 0)),(iP 0),(bP false),(.v (.slice none 0 0)),(iP 0),(bP true)])) (.e (ai an)))]<|rQ (ai an) (ai (gI n d p)) (by unfold gI;rw[if_pos h,DA (.inr k2)])))
  (fun k1=>chain [tB 36 (bne_iff_ne.2 k1),.o 41 (.e uS:PV.le (.e (.agg [(bP false),(.v (.slice none 0 0)),(iP 0),(bP false),(.v (.slice none 0 0)),(iP 0),(bP true)])) (.e (ai an)))]<|rQ (ai an) (ai (gI n d p)) (by unfold gI;rw[if_pos h,DA (.inl k1)]))) (by kernel_rfl)
open Go.RowKit Fp Pu
noncomputable def oQ(x:Iv)(p:Nat):Iv:=@dite Iv (x.Valid/\8<=p/\p<=512) (Classical.propDecidable _) (fun h=>Classical.choose (zz h.1 h.2.1 h.2.2)) (fun _=>an)
theorem LD(x:Iv)(p:Nat):(oQ x p).Valid:=by
 unfold oQ;split
 .rename_i h;exact(Classical.choose_spec (zz h.1 h.2.1 h.2.2)).1
 .exact cz
theorem LC(x:Iv)(hx:x.Valid)(p:Nat)(hp1:8<=p)(hp2:p<=512):ae 242 [ai x,iP (p:Int)] (ai (oQ x p)):=by
 unfold oQ;rw[dif_pos ⟨hx,hp1,hp2⟩];exact(Classical.choose_spec (zz hx hp1 hp2)).2
noncomputable def oR(x:Iv)(p:Nat):Iv:=@dite Iv (x.Valid/\8<=p/\p<=512) (Classical.propDecidable _) (fun h=>Classical.choose (zD h.1 h.2.1 h.2.2)) (fun _=>an)
theorem LG(x:Iv)(p:Nat):(oR x p).Valid:=by
 unfold oR;split
 .rename_i h;exact(Classical.choose_spec (zD h.1 h.2.1 h.2.2)).1
 .exact cz
theorem LF(x:Iv)(hx:x.Valid)(p:Nat)(hp1:8<=p)(hp2:p<=512):ae 243 [ai x,iP (p:Int)] (ai (oR x p)):=by
 unfold oR;rw[dif_pos ⟨hx,hp1,hp2⟩];exact(Classical.choose_spec (zD hx hp1 hp2)).2
noncomputable def oV(x:Iv)(p:Nat):Iv:=@dite Iv (x.Valid/\8<=p/\p<=512) (Classical.propDecidable _) (fun h=>Classical.choose (vy h.1 h.2.1 h.2.2)) (fun _=>an)
theorem LI(x:Iv)(p:Nat):(oV x p).Valid:=by
 unfold oV;split
 .rename_i h;exact(Classical.choose_spec (vy h.1 h.2.1 h.2.2)).1
 .exact cz
theorem LH(x:Iv)(hx:x.Valid)(p:Nat)(hp1:8<=p)(hp2:p<=512):ae 244 [ai x,iP (p:Int)] (ai (oV x p)):=by
 unfold oV;rw[dif_pos ⟨hx,hp1,hp2⟩];exact(Classical.choose_spec (vy hx hp1 hp2)).2
noncomputable def oP(x:Iv)(p:Nat):Iv:=@dite Iv (x.Valid/\8<=p/\p<=512) (Classical.propDecidable _) (fun h=>Classical.choose (vu h.1 h.2.1 h.2.2)) (fun _=>an)
theorem LB(x:Iv)(p:Nat):(oP x p).Valid:=by
 unfold oP;split
 .rename_i h;exact(Classical.choose_spec (vu h.1 h.2.1 h.2.2)).1
 .exact cz
theorem LA(x:Iv)(hx:x.Valid)(p:Nat)(hp1:8<=p)(hp2:p<=512):ae 245 [ai x,iP (p:Int)] (ai (oP x p)):=by
 unfold oP;rw[dif_pos ⟨hx,hp1,hp2⟩];exact(Classical.choose_spec (vu hx hp1 hp2)).2
noncomputable def oW(x:Iv)(p:Nat):Iv:=@dite Iv (x.Valid/\8<=p/\p<=512) (Classical.propDecidable _) (fun h=>Classical.choose (w8 h.1 h.2.1 h.2.2)) (fun _=>an)
theorem LK(x:Iv)(p:Nat):(oW x p).Valid:=by
 unfold oW;split
 .rename_i h;exact(Classical.choose_spec (w8 h.1 h.2.1 h.2.2)).1
 .exact cz
theorem LJ(x:Iv)(hx:x.Valid)(p:Nat)(hp1:8<=p)(hp2:p<=512):ae 246 [ai x,iP (p:Int)] (ai (oW x p)):=by
 unfold oW;rw[dif_pos ⟨hx,hp1,hp2⟩];exact(Classical.choose_spec (w8 hx hp1 hp2)).2
open Go.RowKit Fp Pu
def vq(o:dH):Bool:=decide (o.kind<=6)
noncomputable def cR(o:dH)(x y:Iv)(p:Nat):Iv :=
 if o.kind=3 then bj x y p else if o.kind=4 then yV x y p else if o.kind=5 then aU x y p else if o.kind=6 then bU x y p
 else if o.kind=7 then iL x else if o.kind=8 then fV x o.n p else if o.kind=9 then oQ x p else if o.kind=10 then oR x p
 else if o.kind=11 then oV x p else if o.kind=12 then oP x p else if o.kind=13 then oW x p else an
noncomputable def kq(o:dH)(l:List Iv)(p:Nat):Iv:=if o.kind=1 then gI o.cn o.cd p else cR o (l.getD o.a an) (if vq o then l.getD o.b an else an) p
noncomputable def aW(ops:List dH)(xs:List Iv)(p:Nat):Nat->List Iv
 | 0=>xs
 | k+1=>aW ops xs p k++[kq (ops.getD k aZ) (aW ops xs p k) p]
noncomputable def bD(t:fQ)(xs:List Iv)(p:Nat):List Iv:=t.outs.map fun k=>(aW t.ops xs p t.ops.length).getD k an
noncomputable def bX(s:bQ)(x:List Iv)(h:Dy)(b:List Iv)(p:Nat):List Iv :=
 if hasAll (bD s.tape (b++s.params) p)then[]else if hasAll (lh x (bD s.tape (b++s.params) p) h p)then[]else lh x (bD s.tape (b++s.params) p) h p
noncomputable def fS(s:bQ)(x:List Iv)(h:Dy)(b:List Iv)(p:Nat):Bool:=!(bX s x h b p).isEmpty&&(iV x b&&iV (bX s x h b p) b)
theorem zo(ops:List dH)(xs:List Iv)(p:Nat):∀ k,(aW ops xs p k).length=xs.length+k
 | 0=>rfl
 | k+1=>by simp only[aW,List.length_append,zo ops xs p k,List.length_cons,List.length_nil];omega
theorem Hk(o:dH){x y:Iv}(hx:x.Valid)(hy:y.Valid){p:Nat}(hp:1<=p)(hp2:p<=4096):(cR o x y p).Valid:=by
 unfold cR;split
 .exact gO hx hy hp hp2
 split
 .exact gO hx (tG hy) hp hp2
 split
 .exact iJ _ _ hp hp2
 split
 .exact jQ _ _ hp hp2
 split
 .exact tG hx
 split
 .exact PW hx _ hp hp2
 split
 .exact LD _ _
 split
 .exact LG _ _
 split
 .exact LI _ _
 split
 .exact LB _ _
 split
 .exact LK _ _
 .exact cz
theorem Hl(o:dH){l:List Iv}(hl:fl l){p:Nat}(hp:1<=p)(hp2:p<=4096):(kq o l p).Valid:=by
 unfold kq;split
 .exact Rv _ _ hp hp2
 .exact Hk o (hl _) (by split;exact hl _;exact cz) hp hp2
theorem uO(ops:List dH){xs:List Iv}(h:fl xs){p:Nat}(hp:1<=p)(hp2:p<=4096):∀ k,fl (aW ops xs p k)
 | 0=>h
 | k+1=>(uO ops h hp hp2 k).push (Hl _ (uO ops h hp hp2 k) hp hp2)
theorem Ck(t:fQ){xs:List Iv}(h:fl xs){p:Nat}(hp:1<=p)(hp2:p<=4096):fl (bD t xs p):=fun i=>by
 unfold bD;rw[List.getD_eq_getElem?_getD,List.getElem?_map];cases t.outs[i]? with
 | none=>exact cz
 | some k=>exact uO t.ops h hp hp2 _ _
theorem sY(t:fQ)(xs:List Iv)(p:Nat):(bD t xs p).length=t.outs.length:=by simp[bD]
theorem wQ{s:bQ}{x b:List Iv}{h:Dy}{p n:Nat}(hx:bM n x)(hp:1<=p)(hp2:p<=4096)(hne:bX s x h b p≠[]):bM n (bX s x h b p):=by
 unfold bX at hne ⊢;split at hne
 .exact absurd rfl hne
 .rename_i h1
  rw[if_neg h1];split at hne
  .exact absurd rfl hne
  .rename_i h2
   rw[if_neg h2];exact⟨by rw[tf,hx.len],MX (by simpa using h2) (M8 hx.ok.zj hp hp2)⟩
open Go.RowKit Fp Pu
theorem Kj:aX 1=0:=by decide +kernel
theorem Be(e:Int):canon false 1 e=⟨false,1,e⟩:=by
 unfold canon;rw[if_neg (by decide),Kj];simp
def dK(k:Int):Dy:=⟨false,1,k⟩
theorem ze{k:Int}(h1:-100<=k)(h2:k<=100):cW (dK k):=.inr ⟨by show aj 1<=4096;rw[kr];decide,by show -16384<=k;omega,by show k<=16384;omega,by show((aj 1:Nat):Int)+k<=16384;rw[kr];omega⟩
theorem zg{k:Int}(h1:-100<=k)(h2:k<=100):(dK k).Valid:=⟨by have:=gR false 1 k;rwa[Be]at this,ze h1 h2⟩
theorem zf(k:Int):¬(dK k).sign<0:=by
 rw[(fW _).2,eN];show ¬(if false=true then _ else((1:Nat):Rat)*P2 k)<0;rw[if_neg (by decide)];have:=df k
 grind
theorem FM{d:Dy}(h:¬d.sign<0):0<=d.q:=by
 rw[(fW d).2]at h
 grind
noncomputable def e9(s:bQ)(x:List Iv)(h:Dy)(p:Nat)(k:Int):Bool:=fR x (dK k)&&fS s x h (fw x (dK k)) p
def lL(d:Dy):Dy:=bH (canon d.neg d.m (d.e + -3))
def yK(d:Dy):Int:=cQ (canon d.neg d.m (d.e + -3))
def gv(x:List Iv)(p:Nat):Dy:=if rM x p then dr x p x.length else aI
noncomputable def ca(s:bQ)(x:List Iv)(h:Dy)(b:List Iv)(p:Nat):List Iv :=
 if bX s x h b p=[]then[]else
 if rM (dh x (bX s x h b p)) p=false\/(gv (dh x (bX s x h b p)) p).sign=0 then dh x (bX s x h b p)else
 if yK (gv (dh x (bX s x h b p)) p)≠0 then dh x (bX s x h b p)else
 if fR (dh x (bX s x h b p)) (lL (gv (dh x (bX s x h b p)) p))then fw (dh x (bX s x h b p)) (lL (gv (dh x (bX s x h b p)) p))else dh x (bX s x h b p)
noncomputable def b8(s:bQ)(x:List Iv)(h:Dy)(p:Nat):Nat->List Iv
 | 0=>x
 | j+1=>ca s x h (b8 s x h p j) p
theorem Fy(d:Dy):(lL d).Valid:=sF (gR _ _ _)
theorem Fx{d:Dy}(h:0<=d.q):0<=(lL d).q:=by
 unfold lL bH;split
 .rw [fN]
  rw[eN]at h;have p1:=df d.e;have p2:=df (d.e + -3);have m0:(0:Rat)<=(d.m:Rat):=by exact_mod_cast Nat.zero_le d.m
  split
  .rename_i hn
   rw[if_pos hn]at h;have hm:(d.m:Rat)*P2 d.e=0:=by
    have:=Rat.mul_nonneg m0 (Rat.le_of_lt p1)
    grind
   have hm0:(d.m:Rat)=0:=by
    rcases Rat.mul_eq_zero.1 hm with q|q
    .exact q
    .grind
   rw[hm0]
   grind
  .exact Rat.mul_nonneg m0 (Rat.le_of_lt p2)
 .rw [iq];exact Rat.le_refl
theorem GF(x:List Iv)(p:Nat):∀ k,0<=(dr x p k).q
 | 0=>by show 0<=aI.q;rw[iq];exact Rat.le_refl
 | k+1=>by
  have ih:=GF x p k;show 0<=(if 0<aC (bK (x.getD k an) p) (dr x p k)then bK (x.getD k an) p else dr x p k).q;split
  .rename_i h
   have:¬aC (bK (x.getD k an) p) (dr x p k)<=0:=by omega
   rw[eG]at this
   grind
  .exact ih
theorem GG(x:List Iv)(p:Nat):0<=(gv x p).q:=by
 unfold gv;split
 .exact GF x p _
 .rw [iq];exact Rat.le_refl
theorem PZ{d:Dy}(h:0<=d.q):¬d.sign<0:=by
 rw[(fW d).2]
 grind
theorem oh{s:bQ}{x b:List Iv}{h:Dy}{p n:Nat}(hx:bM n x)(hp:1<=p)(hp2:p<=4096)(hne:ca s x h b p≠[]):bM n (ca s x h b p):=by
 unfold ca at hne ⊢;split at hne
 .exact absurd rfl hne
 .rename_i h1
  rw[if_neg h1];have hh:=CI hx (wQ hx hp hp2 h1);split
  .exact hh
  .split
   .exact hh
   .split
    .rename_i hg
     exact wN hh (Fy _) (Fx (GG _ _)) hg
    .exact hh
open Go.RowKit Fp Pu
def Av(a b:List Iv)(g:FuncId)(cap:List E)(i:Nat):PS:=⟨32,false,[(17,.e (iP i)),(16,.e (iP a.length)),(15,.e (ak a)),(1,.e (ak b)),(2,.e (.fn g cap))],[]⟩
def Au(a b:List Iv)(g:FuncId)(cap:List E)(N:Nat)(i:Nat):PS:=⟨32,false,[(17,.e (iP i)),(16,.e (iP a.length)),(15,.e (ak a)),(1,.e (ak b)),(2,.e (.fn g cap))],[]⟩
def AB(x:List Iv)(d:Dy)(i:Nat):PS:=⟨60,true,[(6,.own 6),(28,.e (iP i)),(27,.e (iP x.length)),(26,.e (ak x)),(3,.box 3 0)],[(6,.row true 41 i 7 (bO ((List.range i).map (fun j_=>fu (x.getD j_ an) d)))),(3,.cells 31 (aM d))]⟩
def Az(x:List Iv)(d:Dy)(N:Nat)(i:Nat):PS:=⟨60,true,[(6,.own 6),(28,.e (iP i)),(27,.e (iP x.length)),(26,.e (ak x)),(3,.box 3 0)],[(6,.row true 41 i 7 (bO ((List.range i).map (fun j_=>fu (x.getD j_ an) d)))),(3,.cells 31 (aM d))]⟩
def AA(x:List Iv)(d:Dy)(N:Nat)(i:Nat):PS:=⟨60,true,[(6,.own 6),(28,.e (iP i)),(27,.e (iP x.length)),(26,.e (ak x)),(3,.box 3 0)],[(6,.row true 41 i 7 (bO ((List.range i).map (fun j_=>fu (x.getD j_ an) d)))),(3,.cells 31 (aM d))]⟩
def AD(a b:List Iv)(i:Nat):PS:=⟨30,true,[(5,.own 5),(13,.e (iP i)),(12,.e (iP a.length)),(0,.e (ak a)),(1,.e (ak b))],[(5,.row true 41 i 7 (bO ((List.range i).map (fun j_=>eV (a.getD j_ an) (b.getD j_ an)))))]⟩
def AM(x:List Iv)(p:Nat)(i:Nat):PS:=⟨42,true,[(22,.e (iP i)),(21,.e (iP x.length)),(20,.e (ak x)),(6,.box 6 0),(4,.box 4 0),(1,.e (iP p))],[(6,.cells 31 (aM (dr x p i))),(4,.cells 31 [(bP false),(.v (.slice none 0 0)),(iP 0)])]⟩
def AL(x:List Iv)(p:Nat)(N:Nat)(i:Nat):PS:=⟨42,true,[(22,.e (iP i)),(21,.e (iP x.length)),(20,.e (ak x)),(6,.box 6 0),(4,.box 4 0),(1,.e (iP p))],[(6,.cells 31 (aM (dr x p i))),(4,.cells 31 [(bP false),(.v (.slice none 0 0)),(iP 0)])]⟩
theorem IY(x:Iv)(hx:x.Valid)(xa:x.all=false):ae 155 [(ai x)] (bP false):=by
 exact tr true Tryz.call155 Tryz.func155 (chain [tB 4 (xa:x.all=false),.c (dc x ‹_›)] <| .nil) (by kernel_rfl)
theorem ni(b:List Iv)(h1:1<=b.length)(h8:b.length<=8)(hb:eU b):ae 112 [(ak b)] (bP true):=by
 exact tr true Tryz.call112 Tryz.func112 (chain [tT 5 (1<=(b.length:Int)) (by omega),tT 9 ((b.length:Int)<=8) (by omega),
  .c (nD true _ _ 155 [] (fun _=>false) (fun i hi=>IY _ (hb i hi).1 (hb i hi).2) (by omega) (fun _ _=>rfl):ae 17 [(ak b),(.fn 155 [])] _)] <| .nil) (by kernel_rfl)
theorem AY(a b:List Iv)(a1:1<=a.length)(a8:a.length<=8)(hl:b.length=a.length)(ha:eU a)(hb:eU b):ae 62 [(ak a),(ak b)] (bP true):=by
 exact tr true Tryz.call62 Tryz.func62 (chain [.c (ni _ (by omega) (by omega) ‹_›:ae 112 [(ak a)] _),.c (ni _ (by omega) (by omega) ‹_›:ae 112 [(ak b)] _),
  tB 16 (xy (by omega):((a.length:Int)==(b.length:Int))=true)] <| .nil) (by kernel_rfl)
theorem Aw(a b:List Iv)(g:FuncId)(cap:List E)(f:Nat->Bool)(hl:b.length=a.length)(h8:a.length<=1000)(hp:∀ i,i<a.length->ae g ((ai (a.getD i an))::(ai (b.getD i an))::cap) (bP (f i)))(hlo:∀ i,i<a.length->f i=true):ae 56 [(ak a),(ak b),(.fn g cap)] (bP true):=by
 exact tr false Tryz.call56 Tryz.func56 (chain [tB 14 (nL (by omega):((a.length:Int) != (b.length:Int))=false),
  .s (Sp.upto (Av a b g cap) 0 a.length (by omega) (fun i hi hlti=>by
    exact aB (chain [tT 18 ((i:Int)<(a.length:Int)) (by omega),iX ((i:Int)) (a.length) (by omega),iX ((i:Int)) (b.length) (by omega),
     .c (hp i (by omega):ae g ((ai (a.getD i an))::(ai (b.getD i an))::cap) _),tB 29 (hlo i (by omega):(f i)=true),ar ((i:Int)+1) (by omega)] <| .nil) (by kernel_rfl))
  (fun hi=>by
    exact aB (chain [tF 18 ((a.length:Int)<(a.length:Int)) (by omega)] <| .nil) (by kernel_rfl)) (by nofun):bA 4 Tryz.f56 (Av a b g cap 0) (.exit 0) ⟨32,false,[],[]⟩) .nil] <| .nil) (by kernel_rfl)
theorem Hy(a b:List Iv)(g:FuncId)(cap:List E)(f:Nat->Bool)(hl:b.length=a.length)(h8:a.length<=1000)(hp:∀ i,i<a.length->ae g ((ai (a.getD i an))::(ai (b.getD i an))::cap) (bP (f i)))(N:Nat)(hN0:N<a.length)(hlo:∀ i,i<N->f i=true)(hN:f N=false):ae 56 [(ak a),(ak b),(.fn g cap)] (bP false):=by
 exact tr false Tryz.call56 Tryz.func56 (chain [tB 14 (nL (by omega):((a.length:Int) != (b.length:Int))=false),
  .s (Sp.upto (Au a b g cap N) 0 N (by omega) (fun i hi hlti=>by
    exact aB (chain [tT 18 ((i:Int)<(a.length:Int)) (by omega),iX ((i:Int)) (a.length) (by omega),iX ((i:Int)) (b.length) (by omega),
     .c (hp i (by omega):ae g ((ai (a.getD i an))::(ai (b.getD i an))::cap) _),tB 29 (hlo i (by omega):(f i)=true),ar ((i:Int)+1) (by omega)] <| .nil) (by kernel_rfl))
  (fun hi=>by
    exact aB (chain [tT 18 ((N:Int)<(a.length:Int)) (by omega),iX ((N:Int)) (a.length) (by omega),iX ((N:Int)) (b.length) (by omega),
    .c (hp N (by omega):ae g ((ai (a.getD N an))::(ai (b.getD N an))::cap) _),tB 29 (hN:(f N)=false)] <| .nil) (by kernel_rfl)) (by nofun):bA 4 Tryz.f56 (Au a b g cap N 0) .ret ⟨32,false,[(6,.e (bP false))],[]⟩) .nil] <| .nil) (by kernel_rfl)
theorem Hz(a b:List Iv)(g:FuncId)(cap:List E)(f:Nat->Bool)(hl:b.length=a.length)(h8:a.length<=1000)(hp:∀ i,i<a.length->ae g ((ai (a.getD i an))::(ai (b.getD i an))::cap) (bP (f i))):ae 56 [(ak a),(ak b),(.fn g cap)] (bP ((List.range a.length).all f)):=by
 by_cases h:∃ i,i<a.length/\(!(f i))=true
 .obtain ⟨N,h1,h2,h3⟩:=gG (p:=fun i=>!(f i)) h
  refine(Hy a b g cap f hl h8 hp N h1 (fun i hi=>by simpa using h3 i hi) (by simpa using h2)).res (.of_eq ?_);rw[show(List.range a.length).all f=false from List.all_eq_false.2 ⟨N,List.mem_range.2 h1,by simpa using h2⟩]
 .have hh:∀ i,i<a.length->f i=true:=fun i hi=>by
   cases hf:f i
   .exact absurd ⟨i,hi,by rw[hf];rfl⟩ h
   .rfl
  refine(Aw a b g cap f hl h8 hp hh).res (.of_eq ?_);rw[show(List.range a.length).all f=true from List.all_eq_true.2 fun i hi=>hh i (List.mem_range.1 hi)]
theorem AW(a b:List Iv)(a1:1<=a.length)(a8:a.length<=8)(hl:b.length=a.length)(ha:eU a)(hb:eU b):ae 24 [(ak a),(ak b)] (bP (iV a b)):=by
 exact tr true Tryz.call24 Tryz.func24 (chain [.c (AY _ _ (by omega) (by omega) (by omega) ‹_› ‹_›:ae 62 [(ak a),(ak b)] _),
  .c (Hz a b 63 [] (fun i=>mB (a.getD i an) (b.getD i an)) hl (by omega) (fun i hi=>Ia _ _ (ha i hi).1 (hb i (by omega)).1):ae 56 [(ak a),(ak b),(.fn 63 [])] _)] <| .nil) (by kernel_rfl)
theorem wO{x:Iv}{d:Dy}(h:jv x d=true):cQ (az x.lo (aJ d))=0/\cQ (az x.hi d)=0:=by
 unfold jv at h;rwa[Bool.and_eq_true,decide_eq_true_eq,decide_eq_true_eq]at h
theorem IW(x:List Iv)(d:Dy)(x1:1<=x.length)(x8:x.length<=8)(hx:eU x)(hd:d.Valid)(h0:¬d.sign<0)(hlo:∀ i,i<x.length->jv (x.getD i an) d=true):ae 114 [(ak x),(ag d)] (.aq [ak ((List.range x.length).map (fun j_=>fu (x.getD j_ an) d)),iP 0]):=by
 exact tr true Tryz.call114 Tryz.func114 (chain [.c (ni _ (by omega) (by omega) ‹_›:ae 112 [(ak x)] _),.c (ff _ ‹_›:ae 68 [(ag d)] _),.c (dt _ ‹_›:ae 35 [(ag d)] _),tB 24 (decide_eq_false h0),
  .y 6 6 true 41 7 (bO ((List.range 0).map (fun j_=>fu (x.getD j_ an) d))),
  .s (Sp.upto (AB x d) 0 x.length (by omega) (fun i hi hlti=>by
    obtain⟨w1,w2⟩:=(hx i (by omega)).1.ends;obtain⟨g1,g2⟩:=wO (hlo i (by omega));have hol:=kE (Iv.mk (bH (az (x.getD i an).lo (aJ d))) (bH (az (x.getD i an).hi d)) false);exact aB (chain [tT 29 ((i:Int)<(x.length:Int)) (by omega),iX ((i:Int)) (x.length) (by omega),.c (pX _ _ ‹_› ‹_›:ae 156 [(ag ((x.getD i an).lo)),(ag d)] _),
     .c (pU ((x.getD i an).hi) d ‹_› ‹_›),tB 47 (by rw[g1];rfl:((cQ (az ((x.getD i an).lo) (aJ d))) != 0)=false),tB 50 (by rw[g2];rfl:((cQ (az ((x.getD i an).hi) d)) != 0)=false),
     .o 56 (.e (di _):PV.le (.e (.sl true 1 7 fun i_ j_=>(aE (Iv.mk (bH (az ((x.getD i an).lo) (aJ d))) (bH (az ((x.getD i an).hi) d)) false)).getD (i_*7+j_) (.v (.bool false)))) (.e (ak [(Iv.mk (bH (az ((x.getD i an).lo) (aJ d))) (bH (az ((x.getD i an).hi) d)) false)]))),
     .a (by omega:(i+[(Iv.mk (bH (az ((x.getD i an).lo) (aJ d))) (bH (az ((x.getD i an).hi) d)) false)].length)*88<=140737488355328),ar ((i:Int)+1) (by omega)] <| .e (chain [.b 6 (nE rfl rfl rfl:Bx.le (.row true 41 (i+[(Iv.mk (bH (az ((x.getD i an).lo) (aJ d))) (bH (az ((x.getD i an).hi) d)) false)].length) 7 (fun i_ j_=>if i_<i then(bO ((List.range i).map (fun j_=>fu (x.getD j_ an) d))) i_ j_ else(E.gS (ak [(Iv.mk (bH (az ((x.getD i an).lo) (aJ d))) (bH (az ((x.getD i an).hi) d)) false)])) (i_-i) j_)) (.row true 41 (i+1) 7 (bO ((List.range (i+1)).map (fun j_=>fu (x.getD j_ an) d)))))] <| .nil)) (by kernel_rfl))
  (fun hi=>by
    exact aB (chain [tF 29 ((x.length:Int)<(x.length:Int)) (by omega),.z 6] <| .e (chain [.o 6 (.e (pe (by simp)):PV.le (.e (.sl true x.length 7 (bO ((List.range x.length).map (fun j_=>fu (x.getD j_ an) d))))) (.e (ak ((List.range x.length).map (fun j_=>fu (x.getD j_ an) d)))))] <| .nil)) (by kernel_rfl)) (by nofun):bA 5 Tryz.f114 (AB x d 0) (.exit 0) ⟨60,true,[(6,.e (ak ((List.range x.length).map (fun j_=>fu (x.getD j_ an) d))))],[]⟩) .nil] <| .nil) (by kernel_rfl)
theorem IU(x:List Iv)(d:Dy)(x1:1<=x.length)(x8:x.length<=8)(hx:eU x)(hd:d.Valid)(h0:¬d.sign<0)(N:Nat)(hN0:N<x.length)(hlo:∀ i,i<N->jv (x.getD i an) d=true)(hN:cQ (az (x.getD N an).lo (aJ d))≠0):ae 114 [(ak x),(ag d)] (.aq [.v (.slice none 0 0),iP 9]):=by
 exact tr true Tryz.call114 Tryz.func114 (chain [.c (ni _ (by omega) (by omega) ‹_›:ae 112 [(ak x)] _),.c (ff _ ‹_›:ae 68 [(ag d)] _),.c (dt _ ‹_›:ae 35 [(ag d)] _),tB 24 (decide_eq_false h0),
  .y 6 6 true 41 7 (bO ((List.range 0).map (fun j_=>fu (x.getD j_ an) d))),
  .s (Sp.upto (Az x d N) 0 N (by omega) (fun i hi hlti=>by
    obtain⟨w1,w2⟩:=(hx i (by omega)).1.ends;obtain⟨g1,g2⟩:=wO (hlo i (by omega));have hol:=kE (Iv.mk (bH (az (x.getD i an).lo (aJ d))) (bH (az (x.getD i an).hi d)) false);exact aB (chain [tT 29 ((i:Int)<(x.length:Int)) (by omega),iX ((i:Int)) (x.length) (by omega),.c (pX _ _ ‹_› ‹_›:ae 156 [(ag ((x.getD i an).lo)),(ag d)] _),
     .c (pU ((x.getD i an).hi) d ‹_› ‹_›),tB 47 (by rw[g1];rfl:((cQ (az ((x.getD i an).lo) (aJ d))) != 0)=false),tB 50 (by rw[g2];rfl:((cQ (az ((x.getD i an).hi) d)) != 0)=false),
     .o 56 (.e (di _):PV.le (.e (.sl true 1 7 fun i_ j_=>(aE (Iv.mk (bH (az ((x.getD i an).lo) (aJ d))) (bH (az ((x.getD i an).hi) d)) false)).getD (i_*7+j_) (.v (.bool false)))) (.e (ak [(Iv.mk (bH (az ((x.getD i an).lo) (aJ d))) (bH (az ((x.getD i an).hi) d)) false)]))),
     .a (by omega:(i+[(Iv.mk (bH (az ((x.getD i an).lo) (aJ d))) (bH (az ((x.getD i an).hi) d)) false)].length)*88<=140737488355328),ar ((i:Int)+1) (by omega)] <| .e (chain [.b 6 (nE rfl rfl rfl:Bx.le (.row true 41 (i+[(Iv.mk (bH (az ((x.getD i an).lo) (aJ d))) (bH (az ((x.getD i an).hi) d)) false)].length) 7 (fun i_ j_=>if i_<i then(bO ((List.range i).map (fun j_=>fu (x.getD j_ an) d))) i_ j_ else(E.gS (ak [(Iv.mk (bH (az ((x.getD i an).lo) (aJ d))) (bH (az ((x.getD i an).hi) d)) false)])) (i_-i) j_)) (.row true 41 (i+1) 7 (bO ((List.range (i+1)).map (fun j_=>fu (x.getD j_ an) d)))))] <| .nil)) (by kernel_rfl))
  (fun hi=>by
    obtain⟨w1,w2⟩:=(hx N (by omega)).1.ends;exact aB (chain [tT 29 ((N:Int)<(x.length:Int)) (by omega),iX ((N:Int)) (x.length) (by omega),.c (pX _ _ ‹_› ‹_›:ae 156 [(ag ((x.getD N an).lo)),(ag d)] _),
    .c (pU ((x.getD N an).hi) d ‹_› ‹_›),tB 47 (by simpa using hN:((cQ (az ((x.getD N an).lo) (aJ d))) != 0)=true)] <| .nil) (by kernel_rfl)) (by nofun):bA 5 Tryz.f114 (Az x d N 0) .ret ⟨60,true,[(5,.e (iP 9)),(4,.e (.v (.slice none 0 0)))],[]⟩) .nil] <| .nil) (by kernel_rfl)
theorem IV(x:List Iv)(d:Dy)(x1:1<=x.length)(x8:x.length<=8)(hx:eU x)(hd:d.Valid)(h0:¬d.sign<0)(N:Nat)(hN0:N<x.length)(hlo:∀ i,i<N->jv (x.getD i an) d=true)(hM:cQ (az (x.getD N an).lo (aJ d))=0)(hN:cQ (az (x.getD N an).hi d)≠0):ae 114 [(ak x),(ag d)] (.aq [.v (.slice none 0 0),iP 9]):=by
 exact tr true Tryz.call114 Tryz.func114 (chain [.c (ni _ (by omega) (by omega) ‹_›:ae 112 [(ak x)] _),.c (ff _ ‹_›:ae 68 [(ag d)] _),.c (dt _ ‹_›:ae 35 [(ag d)] _),tB 24 (decide_eq_false h0),
  .y 6 6 true 41 7 (bO ((List.range 0).map (fun j_=>fu (x.getD j_ an) d))),
  .s (Sp.upto (AA x d N) 0 N (by omega) (fun i hi hlti=>by
    obtain⟨w1,w2⟩:=(hx i (by omega)).1.ends;obtain⟨g1,g2⟩:=wO (hlo i (by omega));have hol:=kE (Iv.mk (bH (az (x.getD i an).lo (aJ d))) (bH (az (x.getD i an).hi d)) false);exact aB (chain [tT 29 ((i:Int)<(x.length:Int)) (by omega),iX ((i:Int)) (x.length) (by omega),.c (pX _ _ ‹_› ‹_›:ae 156 [(ag ((x.getD i an).lo)),(ag d)] _),
     .c (pU ((x.getD i an).hi) d ‹_› ‹_›),tB 47 (by rw[g1];rfl:((cQ (az ((x.getD i an).lo) (aJ d))) != 0)=false),tB 50 (by rw[g2];rfl:((cQ (az ((x.getD i an).hi) d)) != 0)=false),
     .o 56 (.e (di _):PV.le (.e (.sl true 1 7 fun i_ j_=>(aE (Iv.mk (bH (az ((x.getD i an).lo) (aJ d))) (bH (az ((x.getD i an).hi) d)) false)).getD (i_*7+j_) (.v (.bool false)))) (.e (ak [(Iv.mk (bH (az ((x.getD i an).lo) (aJ d))) (bH (az ((x.getD i an).hi) d)) false)]))),
     .a (by omega:(i+[(Iv.mk (bH (az ((x.getD i an).lo) (aJ d))) (bH (az ((x.getD i an).hi) d)) false)].length)*88<=140737488355328),ar ((i:Int)+1) (by omega)] <| .e (chain [.b 6 (nE rfl rfl rfl:Bx.le (.row true 41 (i+[(Iv.mk (bH (az ((x.getD i an).lo) (aJ d))) (bH (az ((x.getD i an).hi) d)) false)].length) 7 (fun i_ j_=>if i_<i then(bO ((List.range i).map (fun j_=>fu (x.getD j_ an) d))) i_ j_ else(E.gS (ak [(Iv.mk (bH (az ((x.getD i an).lo) (aJ d))) (bH (az ((x.getD i an).hi) d)) false)])) (i_-i) j_)) (.row true 41 (i+1) 7 (bO ((List.range (i+1)).map (fun j_=>fu (x.getD j_ an) d)))))] <| .nil)) (by kernel_rfl))
  (fun hi=>by
    obtain⟨w1,w2⟩:=(hx N (by omega)).1.ends;exact aB (chain [tT 29 ((N:Int)<(x.length:Int)) (by omega),iX ((N:Int)) (x.length) (by omega),.c (pX _ _ ‹_› ‹_›:ae 156 [(ag ((x.getD N an).lo)),(ag d)] _),
    .c (pU ((x.getD N an).hi) d ‹_› ‹_›),tB 47 (by rw[hM];rfl:((cQ (az ((x.getD N an).lo) (aJ d))) != 0)=false),tB 50 (by simpa using hN:((cQ (az ((x.getD N an).hi) d)) != 0)=true)] <| .nil) (by kernel_rfl)) (by nofun):bA 5 Tryz.f114 (AA x d N 0) .ret ⟨60,true,[(5,.e (iP 9)),(4,.e (.v (.slice none 0 0)))],[]⟩) .nil] <| .nil) (by kernel_rfl)
def mz(x:List Iv)(d:Dy):Int:=if fR x d then 0 else 9
theorem AV(x:List Iv)(d:Dy)(x1:1<=x.length)(x8:x.length<=8)(hx:eU x)(hd:d.Valid)(h0:¬d.sign<0):ae 114 [ak x,ag d] (.aq [ak (fw x d),iP (mz x d)]):=by
 unfold fw mz;cases hg:fR x d with
 | true =>
  rw[if_pos rfl,if_pos rfl];exact IW x d x1 x8 hx hd h0 fun i hi=>List.all_eq_true.1 hg i (List.mem_range.2 hi)
 | false =>
  rw[if_neg (by decide),if_neg (by decide)];obtain⟨i,hi,hb⟩:=List.all_eq_false.1 hg;obtain⟨N,h1,h2,h3⟩:=gG (p:=fun i=>!(jv (x.getD i an) d)) ⟨i,List.mem_range.1 hi,by simpa using hb⟩;have hlo:∀ i,i<N->jv (x.getD i an) d=true:=fun i hi=>by simpa using h3 i hi
  have h2:jv (x.getD N an) d=false:=by simpa using h2
  have key:ae 114 [ak x,ag d] (.aq [.v (.slice none 0 0),iP 9]):=by
   by_cases hM:cQ (az (x.getD N an).lo (aJ d))=0
   .exact IV x d x1 x8 hx hd h0 N h1 hlo hM fun q=>by
     unfold jv at h2;rw[hM,q]at h2;exact absurd h2 (by decide)
   .exact IU x d x1 x8 hx hd h0 N h1 hlo hM
  exact key.res (.aq (.cons (.nil _ _ _) (.cons (.refl _) .nil)))
theorem IX(a b:List Iv)(a1:1<=a.length)(a8:a.length<=8)(hl:b.length=a.length)(ha:eU a)(hb:eU b):ae 115 [(ak a),(ak b)] (ak (dh a b)):=by
 exact tr true Tryz.call115 Tryz.func115 (chain [.c (AY _ _ (by omega) (by omega) (by omega) ‹_› ‹_›:ae 62 [(ak a),(ak b)] _),.y 5 5 true 41 7 (bO ((List.range 0).map (fun j_=>eV (a.getD j_ an) (b.getD j_ an)))),
  .s (Sp.upto (AD a b) 0 a.length (by omega) (fun i hi hlti=>by
    obtain⟨w1,w2⟩:=ha i (by omega);obtain⟨w3,w4⟩:=hb i (by omega);have hol:=kE (eV (a.getD i an) (b.getD i an));exact aB (chain [tT 14 ((i:Int)<(a.length:Int)) (by omega),iX ((i:Int)) (a.length) (by omega),iX ((i:Int)) (b.length) (by omega),
     .c (AE (a.getD i an) (b.getD i an) ‹_› ‹_› ‹_› ‹_›),
     .o 26 (.e (di _):PV.le (.e (.sl true 1 7 fun i_ j_=>(aE (eV (a.getD i an) (b.getD i an))).getD (i_*7+j_) (.v (.bool false)))) (.e (ak [(eV (a.getD i an) (b.getD i an))]))),
     .a (by omega:(i+[(eV (a.getD i an) (b.getD i an))].length)*88<=140737488355328),ar ((i:Int)+1) (by omega)] <| .e (chain [.b 5 (nE rfl rfl rfl:Bx.le (.row true 41 (i+[(eV (a.getD i an) (b.getD i an))].length) 7 (fun i_ j_=>if i_<i then(bO ((List.range i).map (fun j_=>eV (a.getD j_ an) (b.getD j_ an)))) i_ j_ else(E.gS (ak [(eV (a.getD i an) (b.getD i an))])) (i_-i) j_)) (.row true 41 (i+1) 7 (bO ((List.range (i+1)).map (fun j_=>eV (a.getD j_ an) (b.getD j_ an))))))] <| .nil)) (by kernel_rfl))
  (fun hi=>by
    exact aB (chain [tF 14 ((a.length:Int)<(a.length:Int)) (by omega),.z 5] <| .e (chain [.o 5 (.e (pe (by simp)):PV.le (.e (.sl true a.length 7 (bO ((List.range a.length).map (fun j_=>eV (a.getD j_ an) (b.getD j_ an)))))) (.e (ak ((List.range a.length).map (fun j_=>eV (a.getD j_ an) (b.getD j_ an))))))] <| .nil)) (by kernel_rfl)) (by nofun):bA 5 Tryz.f115 (AD a b 0) (.exit 0) ⟨30,true,[(5,.e (ak ((List.range a.length).map (fun j_=>eV (a.getD j_ an) (b.getD j_ an)))))],[]⟩) .nil]<|rR (ak (dh a b)) (.refl _:E.le (ak ((List.range a.length).map (fun j_=>eV (a.getD j_ an) (b.getD j_ an)))) (ak (dh a b)))) (by kernel_rfl)
theorem AX(p:Int):ae 159 [(iP p)] (bP (cw p)):=by
 exact tr true Tryz.call159 Tryz.func159 (.w (8<=p)
  (fun k1=>chain [tB 4 (decide_eq_true k1)]<|rQ (bP (decide (p<=512))) (bP (cw p)) (by unfold cw;simp[k1]))
  (fun k1=>chain [tB 4 (decide_eq_false k1)]<|rQ (bP false) (bP (cw p)) (by unfold cw;simp[k1]))) (by kernel_rfl)
theorem A4:iy [bP false,.v (.slice none 0 0),iP 0] (aM aI):=.cons (.refl _) (.cons nM (.cons (.refl _) .nil))
theorem uT(x:List Iv)(p k:Nat):dr x p (k+1)=if 0<aC (bK (x.getD k an) p) (dr x p k)then bK (x.getD k an) p else dr x p k:=rfl
theorem zw(x:Iv){p:Nat}(hp:1<=p)(hp2:p<=4096):(bK x p).Valid:=dX _ hp hp2 _
theorem uU(x:List Iv){p:Nat}(hp:1<=p)(hp2:p<=4096):∀ k,(dr x p k).Valid
 | 0=>fP
 | k+1=>by
  unfold dr;split
  .exact zw _ hp hp2
  .exact uU x hp hp2 k
theorem I1(x:List Iv)(p:Nat)(x1:1<=x.length)(x8:x.length<=8)(hx:eU x)(hp1:8<=p)(hp2:p<=512)(hlo:∀ i,i<x.length->eP (x.getD i an) p=0):ae 116 [(ak x),(iP p)] (.aq [ag (dr x p x.length),bP true]):=by
 exact tr true Tryz.call116 Tryz.func116 (chain [.c (ni _ (by omega) (by omega) ‹_›:ae 112 [(ak x)] _),.c (AX _:ae 159 [(iP p)] _),tB 16 (fU.2 ⟨by omega,by omega⟩:(cw (p:Int))=true),
  .s (Sp.upto (AM x p) 0 x.length (by omega) (fun i hi hlti=>by
    obtain⟨w1,w2⟩:=hx i (by omega);have hlo_:=hlo i (by omega);have w3:=zw (x.getD i an) (show 1<=p by omega) (show p<=4096 by omega);have w4:=uU x (show 1<=p by omega) (show p<=4096 by omega) i;by_cases hc:0<aC (bK (x.getD i an) p) (dr x p i)
    .have hnx:dr x p (i+1)=bK (x.getD i an) p:=by rw[uT,if_pos hc]
     exact aB (chain [tT 23 ((i:Int)<(x.length:Int)) (by omega),iX ((i:Int)) (x.length) (by omega),.c (fm (x.getD i an) p ‹_› ‹_› (by omega) (by omega)),tB 31 (decide_eq_true hlo_),
      .c (bZ _ _ ‹_› ‹_›:ae 37 [(ag (bK (x.getD i an) p)),(ag (dr x p i))] _),tB 38 (decide_eq_true hc),ar ((i:Int)+1) (by omega)] <| .e (chain [.b 6 (.of_eq (by rw[hnx]):Bx.le (.cells 31 (aM (bK (x.getD i an) p))) (.cells 31 (aM (dr x p (i+1)))))] <| .nil)) (by kernel_rfl)
    .have hnx:dr x p (i+1)=dr x p i:=by rw[uT,if_neg hc]
     exact aB (chain [tT 23 ((i:Int)<(x.length:Int)) (by omega),iX ((i:Int)) (x.length) (by omega),.c (fm (x.getD i an) p ‹_› ‹_› (by omega) (by omega)),tB 31 (decide_eq_true hlo_),
      .c (bZ _ _ ‹_› ‹_›:ae 37 [(ag (bK (x.getD i an) p)),(ag (dr x p i))] _),tB 38 (decide_eq_false hc),ar ((i:Int)+1) (by omega)] <| .e (chain [.b 6 (.of_eq (by rw[hnx]):Bx.le (.cells 31 (aM (dr x p i))) (.cells 31 (aM (dr x p (i+1)))))] <| .nil)) (by kernel_rfl))
  (fun hi=>by
    exact aB (chain [tF 23 ((x.length:Int)<(x.length:Int)) (by omega)] <| .nil) (by kernel_rfl)) (by nofun):bA 5 Tryz.f116 (AM x p 0) (.exit 0) ⟨42,true,[(6,.box 6 0),(4,.box 4 0)],[(6,.cells 31 (aM (dr x p x.length))),(4,.cells 31 [(bP false),(.v (.slice none 0 0)),(iP 0)])]⟩) (chain [.b 6 (.cells (fun _=>rfl) A4:Bx.le (.cells 31 [(bP false),(.v (.slice none 0 0)),(iP 0)]) (.cells 31 (aM (dr x p 0))))] <| .nil)] <| .nil) (by kernel_rfl)
theorem IZ(x:List Iv)(p:Nat)(x1:1<=x.length)(x8:x.length<=8)(hx:eU x)(hp1:8<=p)(hp2:p<=512)(N:Nat)(hN0:N<x.length)(hlo:∀ i,i<N->eP (x.getD i an) p=0)(hN:eP (x.getD N an) p≠0):ae 116 [(ak x),(iP p)] (.aq [ag aI,bP false]):=by
 exact tr true Tryz.call116 Tryz.func116 (chain [.c (ni _ (by omega) (by omega) ‹_›:ae 112 [(ak x)] _),.c (AX _:ae 159 [(iP p)] _),tB 16 (fU.2 ⟨by omega,by omega⟩:(cw (p:Int))=true),
  .s (Sp.upto (AL x p N) 0 N (by omega) (fun i hi hlti=>by
    obtain⟨w1,w2⟩:=hx i (by omega);have hlo_:=hlo i (by omega);have w3:=zw (x.getD i an) (show 1<=p by omega) (show p<=4096 by omega);have w4:=uU x (show 1<=p by omega) (show p<=4096 by omega) i;by_cases hc:0<aC (bK (x.getD i an) p) (dr x p i)
    .have hnx:dr x p (i+1)=bK (x.getD i an) p:=by rw[uT,if_pos hc]
     exact aB (chain [tT 23 ((i:Int)<(x.length:Int)) (by omega),iX ((i:Int)) (x.length) (by omega),.c (fm (x.getD i an) p ‹_› ‹_› (by omega) (by omega)),tB 31 (decide_eq_true hlo_),
      .c (bZ _ _ ‹_› ‹_›:ae 37 [(ag (bK (x.getD i an) p)),(ag (dr x p i))] _),tB 38 (decide_eq_true hc),ar ((i:Int)+1) (by omega)] <| .e (chain [.b 6 (.of_eq (by rw[hnx]):Bx.le (.cells 31 (aM (bK (x.getD i an) p))) (.cells 31 (aM (dr x p (i+1)))))] <| .nil)) (by kernel_rfl)
    .have hnx:dr x p (i+1)=dr x p i:=by rw[uT,if_neg hc]
     exact aB (chain [tT 23 ((i:Int)<(x.length:Int)) (by omega),iX ((i:Int)) (x.length) (by omega),.c (fm (x.getD i an) p ‹_› ‹_› (by omega) (by omega)),tB 31 (decide_eq_true hlo_),
      .c (bZ _ _ ‹_› ‹_›:ae 37 [(ag (bK (x.getD i an) p)),(ag (dr x p i))] _),tB 38 (decide_eq_false hc),ar ((i:Int)+1) (by omega)] <| .e (chain [.b 6 (.of_eq (by rw[hnx]):Bx.le (.cells 31 (aM (dr x p i))) (.cells 31 (aM (dr x p (i+1)))))] <| .nil)) (by kernel_rfl))
  (fun hi=>by
    obtain⟨w1,w2⟩:=hx N (by omega);exact aB (chain [tT 23 ((N:Int)<(x.length:Int)) (by omega),iX ((N:Int)) (x.length) (by omega),.c (fm (x.getD N an) p ‹_› ‹_› (by omega) (by omega)),tB 31 (decide_eq_false hN),
    .o 34 (.e gZ:PV.le (.e (.agg [(bP false),(.v (.slice none 0 0)),(iP 0)])) (.e (ag aI)))] <| .nil) (by kernel_rfl)) (by nofun):bA 5 Tryz.f116 (AL x p N 0) .ret ⟨42,true,[(5,.e (bP false)),(4,.box 4 0)],[(4,.cells 31 (aM aI))]⟩) (chain [.b 6 (.cells (fun _=>rfl) A4:Bx.le (.cells 31 [(bP false),(.v (.slice none 0 0)),(iP 0)]) (.cells 31 (aM (dr x p 0))))] <| .nil)] <| .nil) (by kernel_rfl)
theorem Tk(x:List Iv){p:Nat}(hp:1<=p)(hp2:p<=4096):(gv x p).Valid:=by
 unfold gv;split
 .exact uU x hp hp2 _
 .exact fP
theorem I0(x:List Iv)(p:Nat)(x1:1<=x.length)(x8:x.length<=8)(hx:eU x)(hp1:8<=p)(hp2:p<=512):ae 116 [ak x,iP (p:Int)] (.aq [ag (gv x p),bP (rM x p)]):=by
 unfold gv;cases hw:rM x p with
 | true =>
  rw[if_pos rfl];exact I1 x p x1 x8 hx hp1 hp2 fun i hi=>of_decide_eq_true (List.all_eq_true.1 hw i (List.mem_range.2 hi))
 | false =>
  rw[if_neg (by decide)];obtain⟨i,hi,hb⟩:=List.all_eq_false.1 hw;obtain⟨N,h1,h2,h3⟩:=gG (p:=fun i=>!(decide (eP (x.getD i an) p=0))) ⟨i,List.mem_range.1 hi,by simpa using hb⟩;exact IZ x p x1 x8 hx hp1 hp2 N h1 (fun i hi=>by simpa using h3 i hi) (by simpa using h2)
end Go.Proofs.YtdgnpeddgdclhaaGreatDoor
namespace Go.Proofs.YtdgnpeddgdclhaaGreatDoor.Pu
open Go.RowKit
theorem Fe{bs br:Nat->Prop}{w:World}{xs:List Value}{a:Value}(h:aw bs br w (.agg (xs.map E.v)) a):a = .agg xs.toArray:=by
 generalize he:E.agg (xs.map E.v)=e at h;cases h with
 | agg l vs hl k =>
  cases he;rw[List.length_map]at hl;have:vs=xs:=List.ext_getElem? fun i=>by
   cases hx:xs[i]? with
   | none=>rw[List.getElem?_eq_none_iff]at hx ⊢;omega
   | some x =>
    obtain⟨v,hv⟩:∃ v,vs[i]? = some v:=by
     have hi:i<xs.length:=(List.getElem?_eq_some_iff.1 hx).1;exact⟨vs[i]'(by omega),List.getElem?_eq_getElem (by omega)⟩
    rw[hv,aw.bR (k i (.v x) v (by rw[List.getElem?_map,hx];rfl) hv)]
  rw[this]
 | _=>cases he
theorem xM{P:Program}{t:TypeId}{m D D':Nat}(hm:m<=10000)(hk:P.keyTypeAt m t=true)(hg:P.eqGuardType P.depth t=false){xs ys:List Value}{la lb:List Lit}
  (hx:P.keyLits D t xs=some la) (hy:P.keyLits D' t ys=some lb) (fx:(Value.agg xs.toArray).formed P t=true) (fy:(Value.agg ys.toArray).formed P t=true) {c:Bool} (hc:c=true↔la=lb) :
  eH P .eql t (.agg (xs.map E.v)) (.agg (ys.map E.v)) (.bool c):=by
 intro bs br w a b ox oy ha hb;obtain rfl:=Fe ha;obtain rfl:=Fe hb;constructor
 .simp only[eqGuard,Bool.not_true,Bool.false_eq_true,if_false,Sem.run_bind,run_program,Result.andThen_ok,hg,Bool.not_false,if_true,Sem.run_pure]
 .obtain ⟨r,hr,hiff⟩:=run_equalIn_deep (10000-m) m t hk w _ _ _ _ la lb fx fy (by simpa[Value.cells]using hx) (by simpa[Value.cells]using hy)
  rw[show 10000-m+m=10000 by omega]at hr;have e:r=c:=by rw[Bool.eq_iff_iff,hiff,hc]
  subst e;have:(Op.equal t (.agg xs.toArray) (.agg ys.toArray)).run P w = .ok r w:=hr;simp only[binOp,Sem.run_bind,this,Result.andThen_ok,Sem.run_pure]
end Go.Proofs.YtdgnpeddgdclhaaGreatDoor.Pu
namespace Go.Proofs.YtdgnpeddgdclhaaGreatDoor
open Go.RowKit Fp Pu
theorem Ej{t:TypeId}{m:Nat}(hm:m<=10000)(hk:Tryz.prog.keyTypeAt m t=true)(hg:Tryz.prog.eqGuardType Tryz.prog.depth t=false){xs:List Value}(hx:(Tryz.prog.keyLits 10 t xs).isSome=true)
  (fx:(Value.agg xs.toArray).formed Tryz.prog t=true):eH Tryz.prog .eql t (.agg (xs.map E.v)) (.agg (xs.map E.v)) (.bool true):=by
 obtain⟨l,hl⟩:=Option.isSome_iff_exists.1 hx;exact xM hm hk hg hl hl fx fx (by simp)
theorem tO{a b c d e f:Int}(h:a=0/\b=0/\c=0/\d=0/\e=0/\f=0) :
  eH Tryz.prog .eql 99 (.agg [iP a,iP b,iP c,iP d,iP e,iP f]) (.agg [iP 0,iP 0,iP 0,iP 0,iP 0,iP 0]) (.bool true):=by
 obtain⟨rfl,rfl,rfl,rfl,rfl,rfl⟩:=h;exact Ej (m:=10) (xs:=[.int .i64 0,.int .i64 0,.int .i64 0,.int .i64 0,.int .i64 0,.int .i64 0]) (by decide) (by kernel_rfl) (by kernel_rfl) (by kernel_rfl) (by kernel_rfl)
theorem xL{a b:Int}(h:a=0/\b=0):eH Tryz.prog .eql 97 (.agg [iP a,iP b]) (.agg [iP 0,iP 0]) (.bool true):=by
 obtain⟨rfl,rfl⟩:=h;exact Ej (m:=10) (xs:=[.int .i64 0,.int .i64 0]) (by decide) (by kernel_rfl) (by kernel_rfl) (by kernel_rfl) (by kernel_rfl)
theorem mD{d:Nat}{n:Int}(h:bF .i64 n):Tryz.prog.keyLits (d+1) 3 [.int .i64 n]=some [.int .i64 n]:=by
 have hw:(Lit.int .i64 n).wf=true:=by
  unfold bF at h;simp[Lit.wf,IntKind.min,IntKind.max,IntKind.signed,IntKind.bits];omega
 unfold Program.keyLits;rw[Tryz.underlying3];simp[hw]
theorem EG{a b:Int}(ha:bF .i64 a)(hb:bF .i64 b):Tryz.prog.keyLits 10 97 [.int .i64 a,.int .i64 b]=some [.int .i64 a,.int .i64 b]:=by
 have c1:Tryz.prog.cellsOf 97=2:=by kernel_rfl
 have c2:Tryz.prog.cellsOf 3=1:=by kernel_rfl
 unfold Program.keyLits;rw[Tryz.underlying97];simp[c1,c2,List.mapM_cons,mD ha,mD hb]
theorem Ei{a b:Int}{r:Bool}(ha:bF .i64 a)(hb:bF .i64 b)(h:decide (a=0/\b=0)=r):eH Tryz.prog .eql 97 (.agg [iP a,iP b]) (.agg [iP 0,iP 0]) (.bool r) :=
 xM (m:=10) (xs:=[.int .i64 a,.int .i64 b]) (ys:=[.int .i64 0,.int .i64 0]) (by decide) (by kernel_rfl) (by kernel_rfl) (EG ha hb) (EG (by unfold bF;omega) (by unfold bF;omega)) (by kernel_rfl) (by kernel_rfl) (by subst h;simp)
theorem Pm{a b c d e f a' b' c' d' e' f':Int}{r:Bool}(hx:Tryz.prog.keyLits 10 99 [.int .i64 a,.int .i64 b,.int .i64 c,.int .i64 d,.int .i64 e,.int .i64 f]=some [.int .i64 a,.int .i64 b,.int .i64 c,.int .i64 d,.int .i64 e,.int .i64 f])(hy:Tryz.prog.keyLits 10 99 [.int .i64 a',.int .i64 b',.int .i64 c',.int .i64 d',.int .i64 e',.int .i64 f']=some [.int .i64 a',.int .i64 b',.int .i64 c',.int .i64 d',.int .i64 e',.int .i64 f'])
  (fx:(Value.agg (List.toArray [.int .i64 a,.int .i64 b,.int .i64 c,.int .i64 d,.int .i64 e,.int .i64 f])).formed Tryz.prog 99=true) (fy:(Value.agg (List.toArray [.int .i64 a',.int .i64 b',.int .i64 c',.int .i64 d',.int .i64 e',.int .i64 f'])).formed Tryz.prog 99=true) (h:decide (a=a'/\b=b'/\c=c'/\d=d'/\e=e'/\f=f')=r) :
  eH Tryz.prog .eql 99 (.agg [iP a,iP b,iP c,iP d,iP e,iP f]) (.agg [iP a',iP b',iP c',iP d',iP e',iP f']) (.bool r) :=
 xM (m:=10) (xs:=[.int .i64 a,.int .i64 b,.int .i64 c,.int .i64 d,.int .i64 e,.int .i64 f]) (ys:=[.int .i64 a',.int .i64 b',.int .i64 c',.int .i64 d',.int .i64 e',.int .i64 f']) (by decide) (by kernel_rfl) (by kernel_rfl) hx hy fx fy (by subst h;simp)
open Go.RowKit Fp Pu
theorem Rz{P:Program}(w:World)(t tx ty e:TypeId)(i:TypeInfo)(z:Value)(ht:P.underlying t=some (.slice e))(hx:P.underlying tx=some (.int .i64))(hi:P.info? e=some i)(hz:i.zero=some z)
  (hsize:i.size≠0) (n:Nat) (h0:0<n) (h31:n<=1000000) (h48:n*i.bytes<=281474976710656) :
  (Builtin.append_ #[t,tx] ty #[.slice none 0 0,.int .i64 (n:Int)]).run P w =
   .ok (.slice (some ⟨w.heap.size,0,none⟩) n (grownCap w n 0 e)) (w.drew.alloc (.cells (Builtin.zeroCells z.cells n++Builtin.zeroCells z.cells (grownCap w n 0 e-n)) e)):=by
 have hn:n≠0:=by omega
 have hns:n*i.size≠0:=Nat.mul_ne_zero hn hsize;have h63':¬(9223372036854775807<(n:Int)):=by omega
 have h48':¬(281474976710656<Builtin.nextslicecap n 0*i.bytes):=by rw[nextslicecap_zero h0];omega
 have hw:IntKind.i64.wrap (n:Int)=n:=i64_in _ (by omega) (by omega);have hneg:¬((n:Int)<0):=by omega
 have h48i:¬(281474976710656<(n:Int)*(i.bytes:Int)):=by
  have:(n:Int)*(i.bytes:Int)=((n*i.bytes:Nat):Int):=by simp
  rw[this];omega
 simp[Builtin.append_,run_underlying ht,run_underlying hx,sizeOf,typeInfo,zeroValue,hi,hz,asInt,asIntOf,hw,hneg,h48i,hn,hns,h63',h48',Question.forced,run_firstCells_none,newRow,grownCap]
theorem Tn{P:Program}{w:World}{ops:Array Oper}{rest:List Oper}{o:Oper}{a:Act}{Q:Exit->Act->World->Prop}(hgd:o.guard=none)(s x:Operand)(t tx:TypeId)
  (ho:o.op = .call { callee:=.builtin .append,args:=#[s,x],argTypes:=#[t,tx] })
  (e:TypeId) (i:TypeInfo) (z:Value) (ht:P.underlying t=some (.slice e)) (hx:P.underlying tx=some (.int .i64)) (hi:P.info? e=some i) (hz:i.zero=some z)
  (hsize:i.size≠0) (n:Nat) (h0:0<n) (h31:n<=1000000) (h48:n*i.bytes<=281474976710656) (hs:a.eval s = .slice none 0 0) (hxx:a.eval x = .int .i64 (n:Int))
  (h:wpList P ops Q rest (a.put o.dst (.slice (some ⟨w.heap.size,0,none⟩) n (grownCap w n 0 e))) (w.drew.alloc (.cells (Builtin.zeroCells z.cells n++Builtin.zeroCells z.cells (grownCap w n 0 e-n)) e))):wpList P ops Q (o::rest) a w:=by
 refine wpList_plain hgd fun K hK=>?_
 have hrun:=Rz (P:=P) w t tx o.type e i z ht hx hi hz hsize n h0 h31 h48;unfold Oper.wp;simp[execOp,ho,resolve,invoke,builtin,hs,hxx,hrun,Result.andThen];exact hK _ _ h
theorem Hh(w:World)(o:Obj):Below w.heap.size w (w.alloc o).drew:=⟨rfl,rfl,rfl,by rw[show(w.alloc o).drew.heap=w.heap.push o from rfl,Array.size_push];omega,fun x hx=>Below.heap_alloc w _ x hx⟩
theorem Hj(w:World)(o:Obj):w.heap.size<(w.alloc o).drew.heap.size:=by rw[show(w.alloc o).drew.heap=w.heap.push o from rfl,Array.size_push];omega
theorem Nb:(Tryz.prog.info? 41).map (fun i=>(i.zero,i.size,i.bytes))=some (some (.agg #[.bool false,.slice none 0 0,.int .i64 0,.bool false,.slice none 0 0,.int .i64 0,.bool false]),7,88):=by kernel_rfl
theorem GO(n:Nat):∀ u,u ∈ Builtin.zeroCells (Value.cells (.agg #[.bool false,.slice none 0 0,.int .i64 0,.bool false,.slice none 0 0,.int .i64 0,.bool false])) n->gU u=false:=by
 intro u hu;simp only[Builtin.zeroCells,Array.mem_map,Array.mem_range]at hu;obtain⟨q,hq,rfl⟩:=hu;have hc:Value.cells (.agg #[.bool false,.slice none 0 0,.int .i64 0,.bool false,.slice none 0 0,.int .i64 0,.bool false]) = #[.bool false,.slice none 0 0,.int .i64 0,.bool false,.slice none 0 0,.int .i64 0,.bool false]:=rfl;rw[hc]at hq ⊢
 have hs:(#[Value.bool false,.slice none 0 0,.int .i64 0,.bool false,.slice none 0 0,.int .i64 0,.bool false]:Array Value).size=7:=rfl;rw[hs];have h7:q%7<7:=Nat.mod_lt _ (by decide);generalize q%7=k at h7;rcases k with _|_|_|_|_|_|_|k
 all_goals first|rfl|omega
set_option maxRecDepth 100000 in
theorem MR(n:Nat)(hn:n<=1000000):jj Tryz.prog Tb 175 [.v (.slice none 0 0),iP ((n:Nat):Int)] true 41 0 7 (bO []):=by
 refine⟨Tryz.call175,fun w B vs hK hB hr=>?_⟩;obtain⟨v1,vs,rfl,h1,hr⟩:=hr.cL;obtain⟨v2,vs,rfl,h2,hr⟩:=hr.cL;obtain rfl:=hr.fB;obtain rfl:=aw.bR h1;obtain rfl:=aw.bR h2;show Calls _ _ #[.slice none 0 0,.int .i64 (n:Int)] w _;clear h1 h2 hr hB hK;by_cases h0:n=0
 .subst h0
  go_enter Tryz.func175,Tryz.ntmps175;go_wp2;go_ret;exact⟨_,rfl,Below.refl _ _,fun _ _=>undef,.inl ⟨rfl,rfl⟩,fun x hx=>by simp[Value.ownBlock]at hx,fun i j hi=>absurd hi (Nat.not_lt_zero _)⟩
 .obtain ⟨i,hi,hz,h1,h2⟩:=info_parts Nb
  have hw:IntKind.i64.wrap ((n:Int)-0)=n:=i64_in _ (by omega) (by omega);have hw2:IntKind.i64.wrap (n:Int)=n:=i64_in _ (by omega) (by omega);have e2:decide ((n:Int)<0)=false:=decide_eq_false (by omega);have e3:decide ((0:Int)<(n:Int))=true:=decide_eq_true (by omega);have hcap:n<=grownCap w n 0 41:=grownCap_ge w n 0 _;go_enter Tryz.func175,Tryz.ntmps175
  go_wp2_with (at_builtin;go_must (refine Tn (by rfl) _ _ _ _ (by rfl) _ i _ Tryz.underlying26 Tryz.underlying3 hi hz (by omega) n (by omega) (by omega) (by rw[h2];omega) (by rfl) (by rfl) ?_))
  go_ret;have hz7:(#[Value.bool false,.slice none 0 0,.int .i64 0,.bool false,.slice none 0 0,.int .i64 0,.bool false]:Array Value).size=7:=rfl
  refine⟨_,rfl,Hh w _,fun _ _=>undef,.inr ⟨w.heap.size,grownCap w n 0 41,_,rfl,heap_alloc_new w _,Nat.zero_le _,grownCap_le_maxLen w n 0 _ (by unfold maxLen;omega),?_,fun i j hi=>absurd hi (Nat.not_lt_zero _),fun _ u hu=>?_⟩,fun x hx=>?_,fun i j hi=>absurd hi (Nat.not_lt_zero _)⟩
  .simp only[Array.size_append,size_zeroCells,hz7,<-Nat.add_mul]
   congr 1;omega
  .rcases Array.mem_append.1 hu with hu|hu
   .exact GO _ u hu
   .exact GO _ u hu
  .simp [Value.ownBlock]at hx
   subst hx;exact⟨Nat.le_refl _,Hj w _⟩
open Go.RowKit Fp Pu
abbrev rY(f:FuncId)(args:List E)(nl:Bool)(T:TypeId)(n sz:Nat)(el:Nat->Nat->E):Prop:=jj Tryz.prog Tb f args nl T n sz el
theorem SP{f:FuncId}{fn:Func}{args:List E}{nl:Bool}{T0:TypeId}{n sz:Nat}{el:Nat->Nat->E}(hcall:∀ (vs:Array Value) (w:World),(callFunc f vs).run Tryz.prog w = .ok (.enter f vs) w)
  (hf:Tryz.prog.funcs[f]? = some fn) (t:Tr Tryz.prog Tb) (h:yj TT fn args (.row nl T0 n sz el) t=t.ex fun _=>.a (Bx.le (.row nl T0 n sz el) (.row nl T0 n sz el)) .nil):rY f args nl T0 n sz el :=
 jj.y9 u9 mixed zZ hcall hf t h
open Go.RowKit Fp Pu
def Gf(t:fQ)(x:Nat):PS:=⟨46,true,[(28,.e (iP x)),(27,.e (iP t.ops.length)),(26,.e (cF t.ops)),(1,.box 1 0)],[(1,.cells 25 [(iP t.ins),(cF t.ops),(cD t.outs)])]⟩
def Ga(s:bQ)(x:Nat):PS:=⟨85,true,[(31,.e (iP x)),(30,.e (iP s.tape.ops.length)),(29,.e (cF s.tape.ops)),(3,.box 3 0),(1,.box 1 0)],[(3,.cells 25 [(iP s.tape.ins),(cF s.tape.ops),(cD s.tape.outs)]),(1,.cells 28 [(iP s.tape.ins),(cF s.tape.ops),(cD s.tape.outs),(iP s.au),(ak s.params)])]⟩
noncomputable def Ge(t:fQ)(xs:List Iv)(p:Nat)(x:Nat):PS:=⟨75,true,[(26,.e (iP x)),(25,.e (iP t.ops.length)),(24,.e (cF t.ops)),(7,.own 22),(2,.e (iP p))],[(22,.row true 41 ((aW t.ops xs p x).length) 7 (bO (aW t.ops xs p x)))]⟩
theorem En(k:Nat)(h1:3<=k)(h2:k<=6):ae 209 [(iP k)] (iP 2):=by
 exact tr true Tryz.call209 Tryz.func209 (chain [tB 5 (beq_eq_false_iff_ne.2 (by omega):((k:Int)==1)=false)] <| .w ((k:Int)=3)
  (fun k1=>chain [tB 7 (beq_iff_eq.2 k1)] <| .nil)
  (fun k1=>chain [tB 7 (beq_eq_false_iff_ne.2 k1)] <| .w ((k:Int)=4)
   (fun k2=>chain [tB 8 (beq_iff_eq.2 k2)] <| .nil)
   (fun k2=>chain [tB 8 (beq_eq_false_iff_ne.2 k2)] <| .w ((k:Int)=5)
    (fun k3=>chain [tB 9 (beq_iff_eq.2 k3)] <| .nil)
    (fun k3=>chain [tB 9 (beq_eq_false_iff_ne.2 k3)] <| .w ((k:Int)=6)
     (fun k4=>chain [tB 10 (beq_iff_eq.2 k4)] <| .nil)
     (fun k4=>.x (by omega)))))) (by kernel_rfl)
theorem xP(k:Nat)(h1:7<=k)(h2:k<=13):ae 209 [(iP k)] (iP 1):=by
 exact tr true Tryz.call209 Tryz.func209 (chain [tB 5 (beq_eq_false_iff_ne.2 (by omega):((k:Int)==1)=false),tB 7 (beq_eq_false_iff_ne.2 (by omega):((k:Int)==3)=false),tB 8 (beq_eq_false_iff_ne.2 (by omega):((k:Int)==4)=false),
  tB 9 (beq_eq_false_iff_ne.2 (by omega):((k:Int)==5)=false),tB 10 (beq_eq_false_iff_ne.2 (by omega):((k:Int)==6)=false)] <| .w ((k:Int)=7)
  (fun k1=>chain [tB 12 (beq_iff_eq.2 k1)] <| .nil)
  (fun k1=>chain [tB 12 (beq_eq_false_iff_ne.2 k1)] <| .w ((k:Int)=8)
   (fun k2=>chain [tB 13 (beq_iff_eq.2 k2)] <| .nil)
   (fun k2=>chain [tB 13 (beq_eq_false_iff_ne.2 k2)] <| .w ((k:Int)=9)
    (fun k3=>chain [tB 14 (beq_iff_eq.2 k3)] <| .nil)
    (fun k3=>chain [tB 14 (beq_eq_false_iff_ne.2 k3)] <| .w ((k:Int)=10)
     (fun k4=>chain [tB 15 (beq_iff_eq.2 k4)] <| .nil)
     (fun k4=>chain [tB 15 (beq_eq_false_iff_ne.2 k4)] <| .w ((k:Int)=11)
      (fun k5=>chain [tB 16 (beq_iff_eq.2 k5)] <| .nil)
      (fun k5=>chain [tB 16 (beq_eq_false_iff_ne.2 k5)] <| .w ((k:Int)=12)
       (fun k6=>chain [tB 17 (beq_iff_eq.2 k6)] <| .nil)
       (fun k6=>chain [tB 17 (beq_eq_false_iff_ne.2 k6)] <| .w ((k:Int)=13)
        (fun k7=>chain [tB 18 (beq_iff_eq.2 k7)] <| .nil)
        (fun k7=>.x (by omega))))))))) (by kernel_rfl)
theorem Em(k:Nat)(h1:k=1):ae 209 [(iP k)] (iP 0):=by
 exact tr true Tryz.call209 Tryz.func209 (chain [tB 5 (beq_iff_eq.2 (by omega):((k:Int)==1)=true)] <| .nil) (by kernel_rfl)
theorem Pn{a b:Int}(h:dp a b=true):eH Tryz.prog .eql 97 (.agg [iP a,iP b]) (.agg [iP 0,iP 0]) (.bool false):=by
 obtain⟨h1,h2,h3,h4⟩:=yd h;exact Ei (by unfold bF;omega) (by unfold bF;omega) (decide_eq_false (by omega))
theorem dG.bin{o:dH}{m:Nat}(h:dG o m)(hk1:o.kind≠1)(hk:o.kind<=6):3<=o.kind/\o.a<m/\o.b<m/\o.n=0/\o.cn=0/\o.cd=0:=by
 have h3:=h.k3.resolve_left hk1;have ha:=h.a;have hb:=h.b;have hn:=h.n;have hc:=h.c;rw[if_neg hk1]at ha hc;rw[if_pos ⟨h3,hk⟩]at hb;rw[if_neg (by omega)]at hn;exact⟨h3,ha,hb,hn,hc.1,hc.2⟩
theorem dG.pow{o:dH}{m:Nat}(h:dG o m)(hk:o.kind=8):o.a<m/\o.b=0/\o.n<=16/\o.cn=0/\o.cd=0:=by
 have ha:=h.a;have hb:=h.b;have hn:=h.n;have hc:=h.c;rw[if_neg (by omega)]at ha hb hc;rw[if_pos hk]at hn;exact⟨ha,hb,hn,hc.1,hc.2⟩
theorem dG.un{o:dH}{m:Nat}(h:dG o m)(hk:¬o.kind<=6)(hk8:o.kind≠8):o.kind<=13/\o.a<m/\o.b=0/\o.n=0/\o.cn=0/\o.cd=0:=by
 have ha:=h.a;have hb:=h.b;have hn:=h.n;have hc:=h.c;rw[if_neg (by omega)]at ha hb hc;rw[if_neg hk8]at hn;exact⟨h.qy,ha,hb,hn,hc.1,hc.2⟩
theorem dG.num{o:dH}{m:Nat}(h:dG o m)(hk:o.kind=1):o.a=0/\o.b=0/\o.n=0/\dp o.cn o.cd=true:=by
 have ha:=h.a;have hb:=h.b;have hn:=h.n;have hc:=h.c;rw[if_pos hk]at ha hc;rw[if_neg (by omega)]at hb hn;exact⟨ha,hb,hn,hc⟩
theorem dG.Hb{o:dH}{m:Nat}(h:dG o m)(hk:o.kind≠1):o.a<m:=by
 have ha:=h.a;rwa[if_neg hk]at ha
theorem PN(o:dH)(m:Nat)(h:dG o m)(hk:o.kind=1):ae 234 [(jF o),(iP m)] (bP true):=by
 obtain⟨h2,h3,h4,hrt⟩:=h.num hk;exact tr true Tryz.call234 Tryz.func234 (chain [.c (Em _ (by omega):ae 209 [(iP o.kind)] _),tB 14 (by decide:(decide ((0:Int)<0))=false),tB 17 (by decide:((0:Int)==0)=true),.c (tY o.cn o.cd),tB 20 (hrt:(dp o.cn o.cd)=true),
  tB 26 (beq_eq_false_iff_ne.2 (by omega):((o.kind:Int)==8)=false),tB 37 (by decide:(decide ((0:Int)<0))=false),tB 49 (by decide:(decide ((1:Int)<0))=false),
  .g (tO ⟨by omega,by omega,by omega,by omega,by omega,by omega⟩:eH Tryz.prog .eql 99 (.agg [(iP 0),(iP o.a),(iP o.b),(iP o.n),(iP 0),(iP 0)]) (.agg [(iP 0),(iP 0),(iP 0),(iP 0),(iP 0),(iP 0)]) (.bool true))] <| .nil) (by kernel_rfl)
theorem PM(o:dH)(m:Nat)(h:dG o m)(hk1:o.kind≠1)(hk:o.kind<=6):ae 234 [(jF o),(iP m)] (bP true):=by
 obtain⟨h1,h2,h3,h4,h5,h6⟩:=h.bin hk1 hk;exact tr true Tryz.call234 Tryz.func234 (chain [.c (En _ (by omega) (by omega):ae 209 [(iP o.kind)] _),tB 14 (by decide:(decide ((2:Int)<0))=false),tB 17 (by decide:((2:Int)==0)=false),
  tB 26 (beq_eq_false_iff_ne.2 (by omega):((o.kind:Int)==8)=false),tB 37 (by decide:(decide ((0:Int)<2))=true),tF 40 ((o.a:Int)<0) (by omega),tF 45 ((m:Int)<=(o.a:Int)) (by omega),
  tB 49 (by decide:(decide ((1:Int)<2))=true),tF 52 ((o.b:Int)<0) (by omega),tF 57 ((m:Int)<=(o.b:Int)) (by omega),
  .g (tO ⟨by omega,by omega,by omega,by omega,by omega,by omega⟩:eH Tryz.prog .eql 99 (.agg [(iP 0),(iP 0),(iP 0),(iP o.n),(iP o.cn),(iP o.cd)]) (.agg [(iP 0),(iP 0),(iP 0),(iP 0),(iP 0),(iP 0)]) (.bool true))] <| .nil) (by kernel_rfl)
theorem PQ(o:dH)(m:Nat)(h:dG o m)(hk:o.kind=8):ae 234 [(jF o),(iP m)] (bP true):=by
 obtain⟨h2,h3,h4,h5,h6⟩:=h.pow hk;exact tr true Tryz.call234 Tryz.func234 (chain [.c (xP _ (by omega) (by omega):ae 209 [(iP o.kind)] _),tB 14 (by decide:(decide ((1:Int)<0))=false),tB 17 (by decide:((1:Int)==0)=false),
  tB 26 (beq_iff_eq.2 (by omega):((o.kind:Int)==8)=true),tF 29 ((o.n:Int)<0) (by omega),tF 33 (16<(o.n:Int)) (by omega),tB 37 (by decide:(decide ((0:Int)<1))=true),
  tF 40 ((o.a:Int)<0) (by omega),tF 45 ((m:Int)<=(o.a:Int)) (by omega),tB 49 (by decide:(decide ((1:Int)<1))=false),
  .g (tO ⟨by omega,by omega,by omega,by omega,by omega,by omega⟩:eH Tryz.prog .eql 99 (.agg [(iP 0),(iP 0),(iP o.b),(iP 0),(iP o.cn),(iP o.cd)]) (.agg [(iP 0),(iP 0),(iP 0),(iP 0),(iP 0),(iP 0)]) (.bool true))] <| .nil) (by kernel_rfl)
theorem PR(o:dH)(m:Nat)(h:dG o m)(hk:¬o.kind<=6)(hk8:o.kind≠8):ae 234 [(jF o),(iP m)] (bP true):=by
 obtain⟨h1,h2,h3,h4,h5,h6⟩:=h.un hk hk8;exact tr true Tryz.call234 Tryz.func234 (chain [.c (xP _ (by omega) (by omega):ae 209 [(iP o.kind)] _),tB 14 (by decide:(decide ((1:Int)<0))=false),tB 17 (by decide:((1:Int)==0)=false),
  tB 26 (beq_eq_false_iff_ne.2 (by omega):((o.kind:Int)==8)=false),tB 37 (by decide:(decide ((0:Int)<1))=true),tF 40 ((o.a:Int)<0) (by omega),tF 45 ((m:Int)<=(o.a:Int)) (by omega),
  tB 49 (by decide:(decide ((1:Int)<1))=false),
  .g (tO ⟨by omega,by omega,by omega,by omega,by omega,by omega⟩:eH Tryz.prog .eql 99 (.agg [(iP 0),(iP 0),(iP o.b),(iP o.n),(iP o.cn),(iP o.cd)]) (.agg [(iP 0),(iP 0),(iP 0),(iP 0),(iP 0),(iP 0)]) (.bool true))] <| .nil) (by kernel_rfl)
theorem Si(o:dH)(m:Nat)(h:dG o m)(hk:o.kind=1):ae 133 [(jF o),(iP m)] (bP true):=by
 obtain⟨h2,h3,h4,hrt⟩:=h.num hk;exact tr true Tryz.call133 Tryz.func133 (chain [tF 8 ((o.a:Int)<0) (by omega),tF 12 ((o.b:Int)<0) (by omega),.g (Pn hrt:eH Tryz.prog .eql 97 (.agg [(iP o.cn),(iP o.cd)]) (.agg [(iP 0),(iP 0)]) (.bool false)),
  tB 21 (beq_iff_eq.2 (by omega):((o.kind:Int)==1)=true),.c (tY o.cn o.cd),tB 24 (hrt:(dp o.cn o.cd)=true),tB 28 (beq_iff_eq.2 (by omega):((o.a:Int)==0)=true),
  tB 33 (beq_iff_eq.2 (by omega):((o.b:Int)==0)=true),tB 38 (beq_iff_eq.2 (by omega):((o.n:Int)==0)=true)] <| .nil) (by kernel_rfl)
theorem Sh(o:dH)(m:Nat)(h:dG o m)(hk1:o.kind≠1)(hk:o.kind<=6):ae 133 [(jF o),(iP m)] (bP true):=by
 obtain⟨h1,h2,h3,h4,h5,h6⟩:=h.bin hk1 hk;exact tr true Tryz.call133 Tryz.func133 (chain [tF 8 ((o.a:Int)<0) (by omega),tF 12 ((o.b:Int)<0) (by omega),.g (xL ⟨by omega,by omega⟩:eH Tryz.prog .eql 97 (.agg [(iP o.cn),(iP o.cd)]) (.agg [(iP 0),(iP 0)]) (.bool true)),
  tB 21 (beq_eq_false_iff_ne.2 (by omega):((o.kind:Int)==1)=false)] <| .w ((o.kind:Int)=3)
  (fun k1=>chain [tB 41 (beq_iff_eq.2 k1),tT 50 ((o.a:Int)<(m:Int)) (by omega),tT 56 ((o.b:Int)<(m:Int)) (by omega),tB 61 (beq_iff_eq.2 (by omega):((o.n:Int)==0)=true)] <| .nil)
  (fun k1=>chain [tB 41 (beq_eq_false_iff_ne.2 k1)] <| .w ((o.kind:Int)=4)
   (fun k2=>chain [tB 42 (beq_iff_eq.2 k2),tT 50 ((o.a:Int)<(m:Int)) (by omega),tT 56 ((o.b:Int)<(m:Int)) (by omega),tB 61 (beq_iff_eq.2 (by omega):((o.n:Int)==0)=true)] <| .nil)
   (fun k2=>chain [tB 42 (beq_eq_false_iff_ne.2 k2)] <| .w ((o.kind:Int)=5)
    (fun k3=>chain [tB 43 (beq_iff_eq.2 k3),tT 50 ((o.a:Int)<(m:Int)) (by omega),tT 56 ((o.b:Int)<(m:Int)) (by omega),tB 61 (beq_iff_eq.2 (by omega):((o.n:Int)==0)=true)] <| .nil)
    (fun k3=>chain [tB 43 (beq_eq_false_iff_ne.2 k3)] <| .w ((o.kind:Int)=6)
     (fun k4=>chain [tB 44 (beq_iff_eq.2 k4),tT 50 ((o.a:Int)<(m:Int)) (by omega),tT 56 ((o.b:Int)<(m:Int)) (by omega),tB 61 (beq_iff_eq.2 (by omega):((o.n:Int)==0)=true)] <| .nil)
     (fun k4=>.x (by omega)))))) (by kernel_rfl)
theorem Sk(o:dH)(m:Nat)(h:dG o m)(hk:o.kind=8):ae 133 [(jF o),(iP m)] (bP true):=by
 obtain⟨h2,h3,h4,h5,h6⟩:=h.pow hk;exact tr true Tryz.call133 Tryz.func133 (chain [tF 8 ((o.a:Int)<0) (by omega),tF 12 ((o.b:Int)<0) (by omega),.g (xL ⟨by omega,by omega⟩:eH Tryz.prog .eql 97 (.agg [(iP o.cn),(iP o.cd)]) (.agg [(iP 0),(iP 0)]) (.bool true)),
  tB 21 (beq_eq_false_iff_ne.2 (by omega):((o.kind:Int)==1)=false),tB 41 (beq_eq_false_iff_ne.2 (by omega):((o.kind:Int)==3)=false),
  tB 42 (beq_eq_false_iff_ne.2 (by omega):((o.kind:Int)==4)=false),tB 43 (beq_eq_false_iff_ne.2 (by omega):((o.kind:Int)==5)=false),
  tB 44 (beq_eq_false_iff_ne.2 (by omega):((o.kind:Int)==6)=false),tB 64 (beq_iff_eq.2 (by omega):((o.kind:Int)==8)=true),tT 70 ((o.a:Int)<(m:Int)) (by omega),
  tB 75 (beq_iff_eq.2 (by omega):((o.b:Int)==0)=true),tT 80 (0<=(o.n:Int)) (by omega),tT 85 ((o.n:Int)<=16) (by omega)] <| .nil) (by kernel_rfl)
theorem Sm(o:dH)(m:Nat)(h:dG o m)(hk:¬o.kind<=6)(hk8:o.kind≠8):ae 133 [(jF o),(iP m)] (bP true):=by
 obtain⟨h1,h2,h3,h4,h5,h6⟩:=h.un hk hk8;exact tr true Tryz.call133 Tryz.func133 (chain [tF 8 ((o.a:Int)<0) (by omega),tF 12 ((o.b:Int)<0) (by omega),.g (xL ⟨by omega,by omega⟩:eH Tryz.prog .eql 97 (.agg [(iP o.cn),(iP o.cd)]) (.agg [(iP 0),(iP 0)]) (.bool true)),
  tB 21 (beq_eq_false_iff_ne.2 (by omega):((o.kind:Int)==1)=false),tB 41 (beq_eq_false_iff_ne.2 (by omega):((o.kind:Int)==3)=false),
  tB 42 (beq_eq_false_iff_ne.2 (by omega):((o.kind:Int)==4)=false),tB 43 (beq_eq_false_iff_ne.2 (by omega):((o.kind:Int)==5)=false),
  tB 44 (beq_eq_false_iff_ne.2 (by omega):((o.kind:Int)==6)=false),tB 64 (beq_eq_false_iff_ne.2 (by omega):((o.kind:Int)==8)=false)] <| .w ((o.kind:Int)=7)
  (fun k1=>chain [tB 88 (beq_iff_eq.2 k1),tT 99 ((o.a:Int)<(m:Int)) (by omega),tB 104 (beq_iff_eq.2 (by omega):((o.b:Int)==0)=true),tB 109 (beq_iff_eq.2 (by omega):((o.n:Int)==0)=true)] <| .nil)
  (fun k1=>chain [tB 88 (beq_eq_false_iff_ne.2 k1)] <| .w ((o.kind:Int)=9)
   (fun k2=>chain [tB 89 (beq_iff_eq.2 k2),tT 99 ((o.a:Int)<(m:Int)) (by omega),tB 104 (beq_iff_eq.2 (by omega):((o.b:Int)==0)=true),tB 109 (beq_iff_eq.2 (by omega):((o.n:Int)==0)=true)] <| .nil)
   (fun k2=>chain [tB 89 (beq_eq_false_iff_ne.2 k2)] <| .w ((o.kind:Int)=10)
    (fun k3=>chain [tB 90 (beq_iff_eq.2 k3),tT 99 ((o.a:Int)<(m:Int)) (by omega),tB 104 (beq_iff_eq.2 (by omega):((o.b:Int)==0)=true),tB 109 (beq_iff_eq.2 (by omega):((o.n:Int)==0)=true)] <| .nil)
    (fun k3=>chain [tB 90 (beq_eq_false_iff_ne.2 k3)] <| .w ((o.kind:Int)=11)
     (fun k4=>chain [tB 91 (beq_iff_eq.2 k4),tT 99 ((o.a:Int)<(m:Int)) (by omega),tB 104 (beq_iff_eq.2 (by omega):((o.b:Int)==0)=true),tB 109 (beq_iff_eq.2 (by omega):((o.n:Int)==0)=true)] <| .nil)
     (fun k4=>chain [tB 91 (beq_eq_false_iff_ne.2 k4)] <| .w ((o.kind:Int)=12)
      (fun k5=>chain [tB 92 (beq_iff_eq.2 k5),tT 99 ((o.a:Int)<(m:Int)) (by omega),tB 104 (beq_iff_eq.2 (by omega):((o.b:Int)==0)=true),tB 109 (beq_iff_eq.2 (by omega):((o.n:Int)==0)=true)] <| .nil)
      (fun k5=>chain [tB 92 (beq_eq_false_iff_ne.2 k5)] <| .w ((o.kind:Int)=13)
       (fun k6=>chain [tB 93 (beq_iff_eq.2 k6),tT 99 ((o.a:Int)<(m:Int)) (by omega),tB 104 (beq_iff_eq.2 (by omega):((o.b:Int)==0)=true),tB 109 (beq_iff_eq.2 (by omega):((o.n:Int)==0)=true)] <| .nil)
       (fun k6=>.x (by omega)))))))) (by kernel_rfl)
theorem PO(o:dH)(m:Nat)(h:dG o m):ae 234 [jF o,iP (m:Int)] (bP true):=by
 by_cases hk1:o.kind=1
 .exact PN o m h hk1
 by_cases hk:o.kind<=6
 .exact PM o m h hk1 hk
 .by_cases hk8:o.kind=8
  .exact PQ o m h hk8
  .exact PR o m h hk hk8
theorem Sj(o:dH)(m:Nat)(h:dG o m):ae 133 [jF o,iP (m:Int)] (bP true):=by
 by_cases hk1:o.kind=1
 .exact Si o m h hk1
 by_cases hk:o.kind<=6
 .exact Sh o m h hk1 hk
 .by_cases hk8:o.kind=8
  .exact Sk o m h hk8
  .exact Sm o m h hk hk8
theorem SG(t:fQ)(k:Nat)(hk:k<t.ins+t.ops.length)(h8:t.ins<=8)(h200:t.ops.length<=200):ae 235 [(iP k),(.ref 3 fun j_=>[(iP t.ins),(cF t.ops),(cD t.outs)].getD j_ .any)] (bP false):=by
 exact tr true Tryz.call235 Tryz.func235 (chain [tF 5 ((k:Int)<0) (by omega),ar ((t.ins:Int)+(t.ops.length:Int)) (by omega),tF 14 ((((t.ins+t.ops.length):Nat):Int)<=(k:Int)) (by omega)] <| .nil) (by kernel_rfl)
theorem Gg(t:fQ)(h:oq t):ae 207 [(mW t)] (bP true):=by
 have h8:=h.ins;have hops:=h.ops;have hou:=h.outs;exact tr true Tryz.call207 Tryz.func207 (chain [tF 7 ((t.ins:Int)<0) (by omega),tF 11 (8<(t.ins:Int)) (by omega),tF 17 (200<(t.ops.length:Int)) (by omega),tF 23 (200<(t.outs.length:Int)) (by omega),
  .s (Sp.upto (Gf t) 0 t.ops.length (by omega) (fun x hx hltx=>by
    have hop:=h.op x (by omega);exact aB (chain [tT 29 ((x:Int)<(t.ops.length:Int)) (by omega),iX ((x:Int)) (t.ops.length) (by omega),ar ((t.ins:Int)+(x:Int)) (by omega),
     .c (PO _ _ hop:ae 234 [(jF (t.ops.getD x aZ)),(iP (((t.ins+x):Nat):Int))] _),ar ((x:Int)+1) (by omega)] <| .nil) (by kernel_rfl))
  (fun hx=>by
    exact aB (chain [tF 29 ((t.ops.length:Int)<(t.ops.length:Int)) (by omega)] <| .nil) (by kernel_rfl)) (by nofun):bA 4 Tryz.f207 (Gf t 0) (.exit 0) ⟨46,true,[(1,.box 1 0)],[(1,.cells 25 [(iP t.ins),(cF t.ops),(cD t.outs)])]⟩) .nil,
  .c (wV true _ _ 235 [(.ref 3 fun j_=>[(iP t.ins),(cF t.ops),(cD t.outs)].getD j_ .any)] (fun _=>false) (fun i hi=>SG t _ (h.out i hi) h8 hops) (by omega) (fun _ _=>rfl):ae 134 [(cD t.outs),(.fn 235 [(.ref 3 fun j_=>[(iP t.ins),(cF t.ops),(cD t.outs)].getD j_ .any)])] _)] <| .nil) (by kernel_rfl)
theorem So(t:fQ)(k:Nat)(hk:k<t.ins+t.ops.length)(h8:t.ins<=8)(h200:t.ops.length<=200):ae 135 [(iP k),(.ref 3 fun j_=>[(iP t.ins),(cF t.ops),(cD t.outs)].getD j_ .any)] (bP false):=by
 exact tr true Tryz.call135 Tryz.func135 (chain [tF 5 ((k:Int)<0) (by omega),ar ((t.ins:Int)+(t.ops.length:Int)) (by omega),tF 14 ((((t.ins+t.ops.length):Nat):Int)<=(k:Int)) (by omega)] <| .nil) (by kernel_rfl)
theorem Ss(x:Iv)(hx:x.Valid)(xa:x.all=false):ae 136 [(ai x)] (bP false):=by
 obtain⟨w1,w2,w3⟩:=iE hx xa;exact tr true Tryz.call136 Tryz.func136 (chain [tB 4 (xa:x.all=false),.c (ff _ ‹_›:ae 68 [(ag x.lo)] _),.c (ff _ ‹_›:ae 68 [(ag x.hi)] _),.c (bZ _ _ ‹_› ‹_›:ae 37 [(ag x.lo),(ag x.hi)] _),
  tF 23 (0<(aC x.lo x.hi)) (by omega)] <| .nil) (by kernel_rfl)
theorem y3(s:bQ)(h:c9 s):ae 82 [(a7 s)] (bP true):=by
 have h8:=h.tape.ins;have hops:=h.tape.ops;have hou:=h.tape.outs;have s1:=h.s1;have s4:=h.s4;have ho:=h.outs;have hi:=h.ins;have p4:=h.p4;exact tr true Tryz.call82 Tryz.func82 (chain [tF 10 ((s.tape.ins:Int)<0) (by omega),tF 14 (8<(s.tape.ins:Int)) (by omega),tF 20 (200<(s.tape.ops.length:Int)) (by omega),tF 26 (200<(s.tape.outs.length:Int)) (by omega),
  .s (Sp.upto (Ga s) 0 s.tape.ops.length (by omega) (fun x hx hltx=>by
    have hop:=h.tape.op x (by omega);exact aB (chain [tT 32 ((x:Int)<(s.tape.ops.length:Int)) (by omega),iX ((x:Int)) (s.tape.ops.length) (by omega),ar ((s.tape.ins:Int)+(x:Int)) (by omega),
     .c (Sj _ _ hop:ae 133 [(jF (s.tape.ops.getD x aZ)),(iP (((s.tape.ins+x):Nat):Int))] _),ar ((x:Int)+1) (by omega)] <| .nil) (by kernel_rfl))
  (fun hx=>by
    exact aB (chain [tF 32 ((s.tape.ops.length:Int)<(s.tape.ops.length:Int)) (by omega)] <| .nil) (by kernel_rfl)) (by nofun):bA 5 Tryz.f82 (Ga s 0) (.exit 0) ⟨85,true,[(3,.box 3 0),(1,.box 1 0)],[(3,.cells 25 [(iP s.tape.ins),(cF s.tape.ops),(cD s.tape.outs)]),(1,.cells 28 [(iP s.tape.ins),(cF s.tape.ops),(cD s.tape.outs),(iP s.au),(ak s.params)])]⟩) .nil,
  .c (wV true _ _ 135 [(.ref 3 fun j_=>[(iP s.tape.ins),(cF s.tape.ops),(cD s.tape.outs)].getD j_ .any)] (fun _=>false) (fun i hi=>So s.tape _ (h.tape.out i hi) h8 hops) (by omega) (fun _ _=>rfl):ae 134 [(cD s.tape.outs),(.fn 135 [(.ref 3 fun j_=>[(iP s.tape.ins),(cF s.tape.ops),(cD s.tape.outs)].getD j_ .any)])] _),
  tF 50 ((s.au:Int)<1) (by omega),tF 54 (4<(s.au:Int)) (by omega),tB 62 (nL (by omega):((s.tape.outs.length:Int) != (s.au:Int))=false),
  ar ((s.au:Int)+(s.params.length:Int)) (by omega),tB 73 (nL (by omega):((s.tape.ins:Int) != (((s.au+s.params.length):Nat):Int))=false),
  tF 79 (4<(s.params.length:Int)) (by omega),.c (nD true _ _ 136 [] (fun _=>false) (fun i hi=>Ss _ (h.params i hi).1 (h.params i hi).2) (by omega) (fun _ _=>rfl):ae 17 [(ak s.params),(.fn 136 [])] _)] <| .nil) (by kernel_rfl)
theorem Aj(o:dH)(x y:Iv)(p:Nat)(hx:x.Valid)(hy:y.Valid)(r1:3<=o.kind)(r2:o.kind<=13)(r3:o.n<=16)(hp1:8<=p)(hp2:p<=512):ae 211 [(iP o.kind),(iP o.n),(ai x),(ai y),(iP p)] (ai (cR o x y p)):=by
 exact tr true Tryz.call211 Tryz.func211 (.w ((o.kind:Int)=3)
  (fun k1=>chain [tB 13 (beq_iff_eq.2 k1),.c (o9 x y p ‹_› ‹_› (by omega) (by omega))]<|rQ (ai (bj x y p)) (ai (cR o x y p)) (by unfold cR;simp[show o.kind=3 from by omega]))
  (fun k1=>chain [tB 13 (beq_eq_false_iff_ne.2 k1)] <| .w ((o.kind:Int)=4)
   (fun k2=>chain [tB 19 (beq_iff_eq.2 k2),.c (Nw x y p ‹_› ‹_› (by omega) (by omega))]<|rQ (ai (yV x y p)) (ai (cR o x y p)) (by unfold cR;simp[show ¬o.kind=3 from by omega,show o.kind=4 from by omega]))
   (fun k2=>chain [tB 19 (beq_eq_false_iff_ne.2 k2)] <| .w ((o.kind:Int)=5)
    (fun k3=>chain [tB 25 (beq_iff_eq.2 k3),.c (qx x y p ‹_› ‹_› (by omega) (by omega))]<|rQ (ai (aU x y p)) (ai (cR o x y p)) (by unfold cR;simp[show ¬o.kind=3 from by omega,show ¬o.kind=4 from by omega,show o.kind=5 from by omega]))
    (fun k3=>chain [tB 25 (beq_eq_false_iff_ne.2 k3)] <| .w ((o.kind:Int)=6)
     (fun k4=>chain [tB 31 (beq_iff_eq.2 k4),.c (CU x y p ‹_› ‹_› (by omega) (by omega))]<|rQ (ai (bU x y p)) (ai (cR o x y p)) (by unfold cR;simp[show ¬o.kind=3 from by omega,show ¬o.kind=4 from by omega,show ¬o.kind=5 from by omega,show o.kind=6 from by omega]))
     (fun k4=>chain [tB 31 (beq_eq_false_iff_ne.2 k4)] <| .w ((o.kind:Int)=7)
      (fun k5=>chain [tB 37 (beq_iff_eq.2 k5),.c (C0 x ‹_›)]<|rQ (ai (iL x)) (ai (cR o x y p)) (by unfold cR;simp[show ¬o.kind=3 from by omega,show ¬o.kind=4 from by omega,show ¬o.kind=5 from by omega,show ¬o.kind=6 from by omega,show o.kind=7 from by omega]))
      (fun k5=>chain [tB 37 (beq_eq_false_iff_ne.2 k5)] <| .w ((o.kind:Int)=8)
       (fun k6=>chain [tB 41 (beq_iff_eq.2 k6),.c (Iy _ _ _ ‹_› (by omega) (by omega) (by omega):ae 241 [(ai x),(iP o.n),(iP p)] _)]<|rQ (ai (fV x o.n p)) (ai (cR o x y p)) (by unfold cR;simp[show ¬o.kind=3 from by omega,show ¬o.kind=4 from by omega,show ¬o.kind=5 from by omega,show ¬o.kind=6 from by omega,show ¬o.kind=7 from by omega,show o.kind=8 from by omega]))
       (fun k6=>chain [tB 41 (beq_eq_false_iff_ne.2 k6)] <| .w ((o.kind:Int)=9)
        (fun k7=>chain [tB 47 (beq_iff_eq.2 k7),.c (LC _ ‹_› _ (by omega) (by omega):ae 242 [(ai x),(iP p)] _)]<|rQ (ai (oQ x p)) (ai (cR o x y p)) (by unfold cR;simp[show ¬o.kind=3 from by omega,show ¬o.kind=4 from by omega,show ¬o.kind=5 from by omega,show ¬o.kind=6 from by omega,show ¬o.kind=7 from by omega,show ¬o.kind=8 from by omega,show o.kind=9 from by omega]))
        (fun k7=>chain [tB 47 (beq_eq_false_iff_ne.2 k7)] <| .w ((o.kind:Int)=10)
         (fun k8=>chain [tB 52 (beq_iff_eq.2 k8),.c (LF _ ‹_› _ (by omega) (by omega):ae 243 [(ai x),(iP p)] _)]<|rQ (ai (oR x p)) (ai (cR o x y p)) (by unfold cR;simp[show ¬o.kind=3 from by omega,show ¬o.kind=4 from by omega,show ¬o.kind=5 from by omega,show ¬o.kind=6 from by omega,show ¬o.kind=7 from by omega,show ¬o.kind=8 from by omega,show ¬o.kind=9 from by omega,show o.kind=10 from by omega]))
         (fun k8=>chain [tB 52 (beq_eq_false_iff_ne.2 k8)] <| .w ((o.kind:Int)=11)
          (fun k9=>chain [tB 57 (beq_iff_eq.2 k9),.c (LH _ ‹_› _ (by omega) (by omega):ae 244 [(ai x),(iP p)] _)]<|rQ (ai (oV x p)) (ai (cR o x y p)) (by unfold cR;simp[show ¬o.kind=3 from by omega,show ¬o.kind=4 from by omega,show ¬o.kind=5 from by omega,show ¬o.kind=6 from by omega,show ¬o.kind=7 from by omega,show ¬o.kind=8 from by omega,show ¬o.kind=9 from by omega,show ¬o.kind=10 from by omega,show o.kind=11 from by omega]))
          (fun k9=>chain [tB 57 (beq_eq_false_iff_ne.2 k9)] <| .w ((o.kind:Int)=12)
           (fun k10=>chain [tB 62 (beq_iff_eq.2 k10),.c (LA _ ‹_› _ (by omega) (by omega):ae 245 [(ai x),(iP p)] _)]<|rQ (ai (oP x p)) (ai (cR o x y p)) (by unfold cR;simp[show ¬o.kind=3 from by omega,show ¬o.kind=4 from by omega,show ¬o.kind=5 from by omega,show ¬o.kind=6 from by omega,show ¬o.kind=7 from by omega,show ¬o.kind=8 from by omega,show ¬o.kind=9 from by omega,show ¬o.kind=10 from by omega,show ¬o.kind=11 from by omega,show o.kind=12 from by omega]))
           (fun k10=>chain [tB 62 (beq_eq_false_iff_ne.2 k10)] <| .w ((o.kind:Int)=13)
            (fun k11=>chain [tB 67 (beq_iff_eq.2 k11),.c (LJ _ ‹_› _ (by omega) (by omega):ae 246 [(ai x),(iP p)] _)]<|rQ (ai (oW x p)) (ai (cR o x y p)) (by unfold cR;simp[show ¬o.kind=3 from by omega,show ¬o.kind=4 from by omega,show ¬o.kind=5 from by omega,show ¬o.kind=6 from by omega,show ¬o.kind=7 from by omega,show ¬o.kind=8 from by omega,show ¬o.kind=9 from by omega,show ¬o.kind=10 from by omega,show ¬o.kind=11 from by omega,show ¬o.kind=12 from by omega,show o.kind=13 from by omega]))
            (fun k11=>.x (by omega))))))))))))) (by kernel_rfl)
theorem I2{nl:Bool}{T n n' sz:Nat}{f g h:Nat->Nat->E}(hn:n=n')(hh:∀ i j,i<n->j<sz->g i j=h i j/\(h i j).nr 2=true):Bx.le (.row nl T (0+n) sz fun i j=>if i<0 then f i j else g (i-0) j) (.row nl T n' sz h) :=
 .row (by omega) fun i j hi hj=>by
  have hi':i<n:=by omega
  simp only[Nat.not_lt_zero,if_false,Nat.sub_zero];exact⟨.of_eq (hh i j hi' hj).1,(hh i j hi' hj).2⟩
theorem Hs(r:List Iv)(h0:0<r.length)(hl:r.length<=1000):rY 28 [ak r] true 41 r.length 7 (bO r):=by
 exact SP Tryz.call28 Tryz.func28 (chain [.a (by omega:0<r.length),.bo,.a (by omega:(0+r.length)*88<=140737488355328)] <| .rb (I2 rfl fun i j hi hj=>⟨rfl,tg _ _ hj⟩:Bx.le (.row true 41 (0+r.length) 7 (fun i_ j_=>if i_<0 then(fun i_ j_=>([]:List E).getD (i_*7+j_) (.v (.bool false))) i_ j_ else(E.gS (ak r)) (i_-0) j_)) (.row true 41 r.length 7 (bO r)))) (by kernel_rfl)
theorem zp{T n n' x:Nat}{t:fQ}{xs:List Iv}{p:Nat}{y:Iv}(hn:n=(aW t.ops xs p x).length)(hn':n'=(aW t.ops xs p (x+1)).length)(hy:kq (t.ops.getD x aZ) (aW t.ops xs p x) p=y) :
  Bx.le (.row true T (n+[y].length) 7 fun i j=>if i<n then bO (aW t.ops xs p x) i j else(E.gS (ak [y])) (i-n) j) (.row true T n' 7 (bO (aW t.ops xs p (x+1)))):=by
 subst hn' hy;exact NH hn
theorem Pq{o:dH}{m:Nat}(h:dG o m):o.n<=16:=by
 have:=h.n;split at this<;>omega
theorem SD(t:fQ)(xs:List Iv)(p:Nat)(h:oq t)(h1:1<=xs.length)(hx:xs.length=t.ins)(hv:fl xs)(hp1:8<=p)(hp2:p<=512):ae 173 [(mW t),(ak xs),(iP p)] (ak (aW t.ops xs p t.ops.length)):=by
 have h8:=h.ins;have hops:=h.ops;exact tr true Tryz.call173 Tryz.func173 (chain [.c (Gg _ ‹_›:ae 207 [(mW t)] _),tB 19 (nL hx:((xs.length:Int) != (t.ins:Int))=false),
  .cn (Hs _ (by omega) (by omega):rY 28 [(ak xs)] true 41 xs.length 7 (bO xs)),
  .s (Sp.upto (Ge t xs p) 0 t.ops.length (by omega) (fun x hx hltx=>by
    have hop:=h.op x (by omega);have hvx:=uO t.ops hv (show 1<=p by omega) (show p<=4096 by omega) x;have hln:=zo t.ops xs p x;have w1:=hvx ((t.ops.getD x aZ)).a;by_cases hk1:((t.ops.getD x aZ)).kind=1
    .have hk0:((t.ops.getD x aZ)).kind=1:=hk1
     obtain⟨o1,o2,o3,hrt⟩:=hop.num hk0;have hstep:kq (t.ops.getD x aZ) (aW t.ops xs p x) p=(gI (t.ops.getD x aZ).cn (t.ops.getD x aZ).cd p):=by unfold kq;rw[if_pos hk0]
     have hol:=kE (gI (t.ops.getD x aZ).cn (t.ops.getD x aZ).cd p);exact aB (chain [tT 27 ((x:Int)<(t.ops.length:Int)) (by omega),iX ((x:Int)) (t.ops.length) (by omega),.c (Em _ (by omega):ae 209 [(iP (((t.ops.getD x aZ).kind:Nat):Int))] _),
      tB 50 (by decide:((0:Int)==0)=true),.c (Ql ((t.ops.getD x aZ).cn) ((t.ops.getD x aZ).cd) p ‹_› (by omega) (by omega)),
      .o 71 (.e (di _):PV.le (.e (.sl true 1 7 fun i_ j_=>(aE (gI ((t.ops.getD x aZ).cn) ((t.ops.getD x aZ).cd) p)).getD (i_*7+j_) (.v (.bool false)))) (.e (ak [(gI ((t.ops.getD x aZ).cn) ((t.ops.getD x aZ).cd) p)]))),
      .a (by omega:((aW t.ops xs p x).length+[(gI ((t.ops.getD x aZ).cn) ((t.ops.getD x aZ).cd) p)].length)*88<=140737488355328),ar ((x:Int)+1) (by omega)] <| .e (chain [.b 22 (zp rfl rfl hstep:Bx.le (.row true 41 ((aW t.ops xs p x).length+[(gI ((t.ops.getD x aZ).cn) ((t.ops.getD x aZ).cd) p)].length) 7 (fun i_ j_=>if i_<(aW t.ops xs p x).length then(bO (aW t.ops xs p x)) i_ j_ else(E.gS (ak [(gI ((t.ops.getD x aZ).cn) ((t.ops.getD x aZ).cd) p)])) (i_-(aW t.ops xs p x).length) j_)) (.row true 41 ((aW t.ops xs p (x+1)).length) 7 (bO (aW t.ops xs p (x+1)))))] <| .nil)) (by kernel_rfl)
    .by_cases hk:((t.ops.getD x aZ)).kind<=6
     .have hk9:((t.ops.getD x aZ)).kind≠1:=hk1
      have hk0:((t.ops.getD x aZ)).kind<=6:=hk;have hstep:kq (t.ops.getD x aZ) (aW t.ops xs p x) p=(cR (t.ops.getD x aZ) ((aW t.ops xs p x).getD ((t.ops.getD x aZ).a) an) ((aW t.ops xs p x).getD ((t.ops.getD x aZ).b) an) p):=by unfold kq vq;rw[if_neg hk9,decide_eq_true hk0];rfl
      obtain⟨o1,o2,o3,o4,o5,o6⟩:=hop.bin hk9 hk0;have w2:=hvx ((t.ops.getD x aZ)).b;have o7:=hop.qy;have hol:=kE (cR (t.ops.getD x aZ) ((aW t.ops xs p x).getD ((t.ops.getD x aZ).a) an) ((aW t.ops xs p x).getD ((t.ops.getD x aZ).b) an) p)
      exact aB (chain [tT 27 ((x:Int)<(t.ops.length:Int)) (by omega),iX ((x:Int)) (t.ops.length) (by omega),.c (En _ (by omega) (by omega):ae 209 [(iP (((t.ops.getD x aZ).kind:Nat):Int))] _),
       tB 50 (by decide:((2:Int)==0)=false),tB 56 (by decide:((2:Int)==1)=false),iX ((((t.ops.getD x aZ).a:Nat):Int)) ((aW t.ops xs p x).length) (by omega),
       .a (by omega:(t.ops.getD x aZ).a<(aW t.ops xs p x).length),iX ((((t.ops.getD x aZ).b:Nat):Int)) ((aW t.ops xs p x).length) (by omega),.a (by omega:(t.ops.getD x aZ).b<(aW t.ops xs p x).length),
       .c (Aj (t.ops.getD x aZ) _ _ _ ‹_› ‹_› (by omega) (by omega) (by omega) (by omega) (by omega):ae 211 [(iP (((t.ops.getD x aZ).kind:Nat):Int)),(iP (((t.ops.getD x aZ).n:Nat):Int)),(ai ((aW t.ops xs p x).getD (t.ops.getD x aZ).a an)),(ai ((aW t.ops xs p x).getD (t.ops.getD x aZ).b an)),(iP p)] _),
       .o 71 (.e (di _):PV.le (.e (.sl true 1 7 fun i_ j_=>(aE (cR (t.ops.getD x aZ) ((aW t.ops xs p x).getD (t.ops.getD x aZ).a an) ((aW t.ops xs p x).getD (t.ops.getD x aZ).b an) p)).getD (i_*7+j_) (.v (.bool false)))) (.e (ak [(cR (t.ops.getD x aZ) ((aW t.ops xs p x).getD (t.ops.getD x aZ).a an) ((aW t.ops xs p x).getD (t.ops.getD x aZ).b an) p)]))),
       .a (by omega:((aW t.ops xs p x).length+[(cR (t.ops.getD x aZ) ((aW t.ops xs p x).getD (t.ops.getD x aZ).a an) ((aW t.ops xs p x).getD (t.ops.getD x aZ).b an) p)].length)*88<=140737488355328),
       ar ((x:Int)+1) (by omega)] <| .e (chain [.b 22 (zp rfl rfl hstep:Bx.le (.row true 41 ((aW t.ops xs p x).length+[(cR (t.ops.getD x aZ) ((aW t.ops xs p x).getD (t.ops.getD x aZ).a an) ((aW t.ops xs p x).getD (t.ops.getD x aZ).b an) p)].length) 7 (fun i_ j_=>if i_<(aW t.ops xs p x).length then(bO (aW t.ops xs p x)) i_ j_ else(E.gS (ak [(cR (t.ops.getD x aZ) ((aW t.ops xs p x).getD (t.ops.getD x aZ).a an) ((aW t.ops xs p x).getD (t.ops.getD x aZ).b an) p)])) (i_-(aW t.ops xs p x).length) j_)) (.row true 41 ((aW t.ops xs p (x+1)).length) 7 (bO (aW t.ops xs p (x+1)))))] <| .nil)) (by kernel_rfl)
     .have hk9:((t.ops.getD x aZ)).kind≠1:=hk1
      have hk0:¬((t.ops.getD x aZ)).kind<=6:=hk;have hstep:kq (t.ops.getD x aZ) (aW t.ops xs p x) p=(cR (t.ops.getD x aZ) ((aW t.ops xs p x).getD ((t.ops.getD x aZ).a) an) an p):=by unfold kq vq;rw[if_neg hk9,decide_eq_false hk0];rfl
      have w2:=cz;have o2:=hop.Hb hk9;have o7:=hop.qy;have o8:=Pq hop;have hol:=kE (cR (t.ops.getD x aZ) ((aW t.ops xs p x).getD ((t.ops.getD x aZ).a) an) an p);exact aB (chain [tT 27 ((x:Int)<(t.ops.length:Int)) (by omega),iX ((x:Int)) (t.ops.length) (by omega),.c (xP _ (by omega) (by omega):ae 209 [(iP (((t.ops.getD x aZ).kind:Nat):Int))] _),
       tB 50 (by decide:((1:Int)==0)=false),tB 56 (by decide:((1:Int)==1)=true),iX ((((t.ops.getD x aZ).a:Nat):Int)) ((aW t.ops xs p x).length) (by omega),
       .a (by omega:(t.ops.getD x aZ).a<(aW t.ops xs p x).length),.o 66 (.e uS:PV.le (.e (.agg [(bP false),(.v (.slice none 0 0)),(iP 0),(bP false),(.v (.slice none 0 0)),(iP 0),(bP true)])) (.e (ai an))),
       .c (Aj (t.ops.getD x aZ) _ _ _ ‹_› ‹_› (by omega) (by omega) (by omega) (by omega) (by omega):ae 211 [(iP (((t.ops.getD x aZ).kind:Nat):Int)),(iP (((t.ops.getD x aZ).n:Nat):Int)),(ai ((aW t.ops xs p x).getD (t.ops.getD x aZ).a an)),(ai an),(iP p)] _),
       .o 71 (.e (di _):PV.le (.e (.sl true 1 7 fun i_ j_=>(aE (cR (t.ops.getD x aZ) ((aW t.ops xs p x).getD (t.ops.getD x aZ).a an) an p)).getD (i_*7+j_) (.v (.bool false)))) (.e (ak [(cR (t.ops.getD x aZ) ((aW t.ops xs p x).getD (t.ops.getD x aZ).a an) an p)]))),
       .a (by omega:((aW t.ops xs p x).length+[(cR (t.ops.getD x aZ) ((aW t.ops xs p x).getD (t.ops.getD x aZ).a an) an p)].length)*88<=140737488355328),ar ((x:Int)+1) (by omega)] <| .e (chain [.b 22 (zp rfl rfl hstep:Bx.le (.row true 41 ((aW t.ops xs p x).length+[(cR (t.ops.getD x aZ) ((aW t.ops xs p x).getD (t.ops.getD x aZ).a an) an p)].length) 7 (fun i_ j_=>if i_<(aW t.ops xs p x).length then(bO (aW t.ops xs p x)) i_ j_ else(E.gS (ak [(cR (t.ops.getD x aZ) ((aW t.ops xs p x).getD (t.ops.getD x aZ).a an) an p)])) (i_-(aW t.ops xs p x).length) j_)) (.row true 41 ((aW t.ops xs p (x+1)).length) 7 (bO (aW t.ops xs p (x+1)))))] <| .nil)) (by kernel_rfl))
  (fun hx=>by
    exact aB (chain [tF 27 ((t.ops.length:Int)<(t.ops.length:Int)) (by omega),.z 22] <| .e (chain [.o 7 (.e (pe (by simp)):PV.le (.e (.sl true ((aW t.ops xs p t.ops.length).length) 7 (bO (aW t.ops xs p t.ops.length)))) (.e (ak (aW t.ops xs p t.ops.length))))] <| .nil)) (by kernel_rfl)) (by nofun):bA 5 Tryz.f173 (Ge t xs p 0) (.exit 0) ⟨75,true,[(7,.e (ak (aW t.ops xs p t.ops.length)))],[]⟩) (chain [.b 22 (.of_eq rfl:Bx.le (.row true 41 xs.length 7 (bO xs)) (.row true 41 ((aW t.ops xs p 0).length) 7 (bO (aW t.ops xs p 0))))] <| .nil)] <| .nil) (by kernel_rfl)
open Go.RowKit Fp Pu
def dM(m:List (List Iv)):Nat->List Iv
 | 0=>[]
 | k+1=>dM m k++m.getD k []
theorem vG(m:List (List Iv))(k:Nat):(dM m (k+1)).length=(dM m k).length+(m.getD k []).length:=by simp[dM]
theorem NG{T n n':Nat}{xs r:List Iv}(hn:n=xs.length)(hn':n'=(xs++r).length):Bx.le (.row true T (n+r.length) 7 fun i j=>if i<n then bO xs i j else(E.gS (ak r)) (i-n) j) (.row true T n' 7 (bO (xs++r))):=by
 subst hn hn';refine .row (by simp) fun i j hi hj=>⟨.of_eq ?_,tg _ _ hj⟩
 by_cases h:i<xs.length
 .rw [if_pos h]
  show(aE (xs.getD i an)).getD j .any=(aE ((xs++r).getD i an)).getD j .any;congr 2;simp[List.getD_eq_getElem?_getD,List.getElem?_append_left h]
 .rw [if_neg h]
  show(aE (r.getD (i-xs.length) an)).getD j .any=(aE ((xs++r).getD i an)).getD j .any;congr 2;simp[List.getD_eq_getElem?_getD,List.getElem?_append_right (show xs.length<=i by omega)]
theorem DE(a b:List Iv):E.le (.sl true 2 1 fun i j=>[ak a,ak b].getD (i*1+j) (.v (.bool false))) (fL [a,b]):=.sl fun i j hi hj=>by
 obtain rfl:j=0:=by omega
 obtain rfl|rfl:i=0\/i=1:=by omega
 all_goals exact⟨.refl _,rfl⟩
theorem Rq{n:Nat}:E.le (.sl true n 1 fun k _=>.sl true ((fun _=>0) k) 7 ((fun _ _ _=>.any) k)) (fL (List.replicate n [])):=by
 have h:fL (List.replicate n []) = .sl true n 1 fun i _=>ak ((List.replicate n []).getD i []):=by unfold fL;rw[List.length_replicate]
 rw[h];refine .sl fun i j hi hj=>⟨?_,rfl⟩
 have e:(List.replicate n ([]:List Iv)).getD i []=[]:=by simp[List.getD_eq_getElem?_getD,hi]
 rw[e];exact .sl fun q _ hq _=>absurd hq (Nat.not_lt_zero _)
def Bg(m:List (List Iv))(x:Nat):PS:=⟨36,true,[(11,.e (iP x)),(10,.e (iP m.length)),(9,.e (fL m)),(3,.e (iP (((dM m x).length:Nat):Int))),(0,.e (fL m))],[]⟩
def Bh(m:List (List Iv))(x:Nat):PS:=⟨36,true,[(27,.e (iP x)),(26,.e (iP m.length)),(25,.e (fL m)),(6,.own 24)],[(24,.row true 41 ((dM m x).length) 7 (bO (dM m x)))]⟩
noncomputable def Cz(t:fQ)(xs:List Iv)(p:Nat)(x:Nat):PS:=⟨91,true,[(43,.e (iP x)),(42,.e (iP 0)),(11,.own 41),(10,.e (ak (aW t.ops xs p t.ops.length))),(4,.box 4 0),(3,.e (iP p))],[(41,.rows true 26 41 t.outs.length 7 (fun _=>0) (fun _ _ _=>.any) .none),(4,.cells 25 [(iP t.ins),(cF t.ops),(cD t.outs)])]⟩
noncomputable def Cy(t:fQ)(xs:List Iv)(p:Nat)(x:Nat):PS:=⟨91,true,[(16,.own 16),(77,.e (iP x)),(76,.e (iP t.outs.length)),(75,.e (cD t.outs)),(11,.own 41),(10,.e (ak (aW t.ops xs p t.ops.length)))],[(16,.row true 41 x 7 (bO ((List.range x).map (fun j_=>(aW t.ops xs p t.ops.length).getD (t.outs.getD j_ 0) an)))),(41,.rows true 26 41 t.outs.length 7 (fun _=>0) (fun _ _ _=>.any) .none)]⟩
theorem Kb(m:List (List Iv))(hl:m.length<=1000)(hb:∀ k,k<=m.length->(dM m k).length<=1000):ae 142 [(fL m)] (ak (dM m m.length)):=by
 have hbl:=hb m.length (Nat.le_refl _);exact tr true Tryz.call142 Tryz.func142 (chain [.s (Sp.upto (Bg m) 0 m.length (by omega) (fun x hx hltx=>by
    have hb1:=hb (x+1) (by omega);rw[vG]at hb1;exact aB (chain [tT 12 ((x:Int)<(m.length:Int)) (by omega),iX ((x:Int)) (m.length) (by omega),ar ((((dM m x).length:Nat):Int)+(((m.getD x []).length:Nat):Int)) (by omega),
     tF 20 (((((dM m x).length+(m.getD x []).length):Nat):Int)<0) (by omega),ar ((x:Int)+1) (by omega)] <| .e (chain [.o 3 (.int (by rw[vG]):PV.le (.e (iP ((((dM m x).length+(m.getD x []).length):Nat):Int))) (.e (iP (((dM m (x+1)).length:Nat):Int))))] <| .nil)) (by kernel_rfl))
  (fun hx=>by
    exact aB (chain [tF 12 ((m.length:Int)<(m.length:Int)) (by omega)] <| .nil) (by kernel_rfl)) (by nofun):bA 3 Tryz.f142 (Bg m 0) (.exit 0) ⟨36,true,[(3,.e (iP (((dM m m.length).length:Nat):Int))),(0,.e (fL m))],[]⟩) (chain [.o 3 (.int rfl:PV.le (.e (iP 0)) (.e (iP (((dM m 0).length:Nat):Int))))] <| .nil),
  .cn (MR _ (by omega):rY 175 [(.v (.slice none 0 0)),(iP (((dM m m.length).length:Nat):Int))] true 41 0 7 (bO [])),
  .s (Sp.upto (Bh m) 0 m.length (by omega) (fun x hx hltx=>by
    have hb1:=hb (x+1) (by omega);rw[vG]at hb1
    exact aB (chain [tT 28 ((x:Int)<(m.length:Int)) (by omega),iX ((x:Int)) (m.length) (by omega),.a (by omega:((dM m x).length+(m.getD x []).length)*88<=140737488355328),ar ((x:Int)+1) (by omega)] <| .e (chain [.b 24 (NG rfl rfl:Bx.le (.row true 41 ((dM m x).length+(m.getD x []).length) 7 (fun i_ j_=>if i_<(dM m x).length then(bO (dM m x)) i_ j_ else(E.gS (ak (m.getD x []))) (i_-(dM m x).length) j_)) (.row true 41 ((dM m (x+1)).length) 7 (bO (dM m (x+1)))))] <| .nil)) (by kernel_rfl))
  (fun hx=>by
    exact aB (chain [tF 28 ((m.length:Int)<(m.length:Int)) (by omega),.z 24] <| .e (chain [.o 6 (.e (pe (by simp)):PV.le (.e (.sl true ((dM m m.length).length) 7 (bO (dM m m.length)))) (.e (ak (dM m m.length))))] <| .nil)) (by kernel_rfl)) (by nofun):bA 11 Tryz.f142 (Bh m 0) (.exit 2) ⟨36,true,[(6,.e (ak (dM m m.length)))],[]⟩) (chain [.b 24 (.of_eq rfl:Bx.le (.row true 41 0 7 (bO [])) (.row true 41 ((dM m 0).length) 7 (bO (dM m 0))))] <| .nil)] <| .nil) (by kernel_rfl)
theorem Bu(a b:List Iv)(ha:a.length<=400)(hb:b.length<=400):ae 142 [fL [a,b]] (ak (a++b)):=by
 have e1:dM [a,b] 1=a:=rfl;have e2:dM [a,b] 2=a++b:=rfl;have:=Kb [a,b] (by simp) fun k hk=>by
  have hk:k<=2:=hk;rcases k with _|_|_|k
  .exact Nat.zero_le _
  .rw [e1];omega
  .rw [e2,List.length_append];omega
  .omega
 rwa[show[a,b].length=2 from rfl,e2]at this
theorem wJ(p:Int):ae 140 [(iP p)] (bP (cw p)):=by
 exact tr true Tryz.call140 Tryz.func140 (.w (8<=p)
  (fun k1=>chain [tB 4 (decide_eq_true k1)]<|rQ (bP (decide (p<=512))) (bP (cw p)) (by unfold cw;simp[k1]))
  (fun k1=>chain [tB 4 (decide_eq_false k1)]<|rQ (bP false) (bP (cw p)) (by unfold cw;simp[k1]))) (by kernel_rfl)
theorem Mb(x:Iv)(hx:x.Valid):ae 208 [(ai x)] (bP false):=by
 exact tr true Tryz.call208 Tryz.func208 (chain [.c (dc x ‹_›)] <| .nil) (by kernel_rfl)
theorem Mc(t:fQ)(xs:List Iv)(p:Nat)(h:oq t)(h1:1<=xs.length)(hx:xs.length=t.ins)(hv:fl xs)(hp1:8<=p)(hp2:p<=512):ae 172 [(mW t),(ak xs),(iP p)] (bP true):=by
 have h8:=h.ins;exact tr true Tryz.call172 Tryz.func172 (chain [.c (Gg t ‹_›),tB 14 (xy hx:((xs.length:Int)==(t.ins:Int))=true),.c (wJ _:ae 140 [(iP p)] _),
  tB 18 (fU.2 ⟨by omega,by omega⟩:(cw (p:Int))=true),.c (nD true _ _ 208 [] (fun _=>false) (fun i hi=>Mb _ (hv i)) (by omega) (fun _ _=>rfl):ae 17 [(ak xs),(.fn 208 [])] _)] <| .nil) (by kernel_rfl)
theorem LR(t:fQ)(xs:List Iv)(p:Nat):(List.range t.outs.length).map (fun j=>(aW t.ops xs p t.ops.length).getD (t.outs.getD j 0) an)=bD t xs p:=by
 unfold bD;apply List.ext_getElem?;intro i;rw[List.getElem?_map,List.getElem?_map];by_cases hi:i<t.outs.length
 .rw [List.getElem?_eq_getElem (by simpa using hi),List.getElem?_eq_getElem hi]
  simp[List.getD_eq_getElem?_getD,hi]
 .rw [List.getElem?_eq_none (by simpa using hi),List.getElem?_eq_none (by omega)]
  rfl
theorem CA(t:fQ)(xs:List Iv)(p:Nat)(h:oq t)(h1:1<=xs.length)(hx:xs.length=t.ins)(hv:fl xs)(hp1:8<=p)(hp2:p<=512):ae 141 [(mW t),(ak xs),(iP 0),(iP p)] (.aq [ak (bD t xs p),fL (List.replicate t.outs.length [])]):=by
 have h8:=h.ins;have hops:=h.ops;have hou:=h.outs;exact tr true Tryz.call141 Tryz.func141 (chain [.c (Mc _ _ _ h h1 hx hv (by omega) (by omega):ae 172 [(mW t),(ak xs),(iP p)] _),tB 26 (by decide:(decide ((0:Int)<0))=false),tF 32 ((t.ins:Int)<0) (by omega),
  .c (SD t xs p h h1 hx hv (by omega) (by omega)),.a (by omega:0<=((t.outs.length:Int):Int)/\((t.outs.length:Int):Int)<=((t.outs.length:Int):Int)),
  .a (by omega:((24:Nat):Int)*(t.outs.length:Int)<=281474976710656/\((t.outs.length:Int):Int)<=9223372036854775807),
  .s (Sp.upto (Cz t xs p) 0 0 (by omega) (fun x hx hltx=>by
    exact absurd hltx (Nat.not_lt_zero _))
  (fun hx=>by
    exact aB (chain [tB 44 (by decide:(decide ((0:Int)<0))=false)] <| .nil) (by kernel_rfl)) (by nofun):bA 6 Tryz.f141 (Cz t xs p 0) (.exit 0) ⟨91,true,[(11,.own 41),(10,.e (ak (aW t.ops xs p t.ops.length))),(4,.box 4 0)],[(41,.rows true 26 41 t.outs.length 7 (fun _=>0) (fun _ _ _=>.any) .none),(4,.cells 25 [(iP t.ins),(cF t.ops),(cD t.outs)])]⟩) .nil,
  .y 16 16 true 41 7 (bO ((List.range 0).map (fun j_=>(aW t.ops xs p t.ops.length).getD (t.outs.getD j_ 0) an))),
  .s (Sp.upto (Cy t xs p) 0 t.outs.length (by omega) (fun x hx hltx=>by
    have hot:=h.out x (by omega);have hln:=zo t.ops xs p t.ops.length;have hol:=kE ((aW t.ops xs p t.ops.length).getD (t.outs.getD x 0) an);exact aB (chain [tT 78 ((x:Int)<(t.outs.length:Int)) (by omega),iX ((x:Int)) (t.outs.length) (by omega),iX ((((t.outs.getD x 0):Nat):Int)) ((aW t.ops xs p t.ops.length).length) (by omega),
     .o 86 (.e (di _):PV.le (.e (.sl true 1 7 fun i_ j_=>(aE ((aW t.ops xs p t.ops.length).getD (t.outs.getD x 0) an)).getD (i_*7+j_) (.v (.bool false)))) (.e (ak [((aW t.ops xs p t.ops.length).getD (t.outs.getD x 0) an)]))),
     .a (by omega:(x+[((aW t.ops xs p t.ops.length).getD (t.outs.getD x 0) an)].length)*88<=140737488355328),ar ((x:Int)+1) (by omega)] <| .e (chain [.b 16 (nE rfl rfl rfl:Bx.le (.row true 41 (x+[((aW t.ops xs p t.ops.length).getD (t.outs.getD x 0) an)].length) 7 (fun i_ j_=>if i_<x then(bO ((List.range x).map (fun j_=>(aW t.ops xs p t.ops.length).getD (t.outs.getD j_ 0) an))) i_ j_ else(E.gS (ak [((aW t.ops xs p t.ops.length).getD (t.outs.getD x 0) an)])) (i_-x) j_)) (.row true 41 (x+1) 7 (bO ((List.range (x+1)).map (fun j_=>(aW t.ops xs p t.ops.length).getD (t.outs.getD j_ 0) an)))))] <| .nil)) (by kernel_rfl))
  (fun hx=>by
    exact aB (chain [tF 78 ((t.outs.length:Int)<(t.outs.length:Int)) (by omega),.z 16] <| .e (chain [.o 16 (.e (pe (by simp)):PV.le (.e (.sl true t.outs.length 7 (bO ((List.range t.outs.length).map (fun j_=>(aW t.ops xs p t.ops.length).getD (t.outs.getD j_ 0) an))))) (.e (ak ((List.range t.outs.length).map (fun j_=>(aW t.ops xs p t.ops.length).getD (t.outs.getD j_ 0) an)))))] <| .nil)) (by kernel_rfl)) (by nofun):bA 17 Tryz.f141 (Cy t xs p 0) (.exit 4) ⟨91,true,[(16,.e (ak ((List.range t.outs.length).map (fun j_=>(aW t.ops xs p t.ops.length).getD (t.outs.getD j_ 0) an)))),(11,.own 41)],[(41,.rows true 26 41 t.outs.length 7 (fun _=>0) (fun _ _ _=>.any) .none)]⟩) .nil]<|rR (.aq [ak (bD t xs p),fL (List.replicate t.outs.length [])]) (.aq (.cons (.of_eq (by rw[LR])) (.cons Rq .nil)):E.le (.aq [(ak ((List.range t.outs.length).map (fun j_=>(aW t.ops xs p t.ops.length).getD (t.outs.getD j_ 0) an))),(.sl true t.outs.length 1 fun k_ _=>.sl true ((fun _=>0) k_) 7 ((fun _ _ _=>.any) k_))]) (.aq [ak (bD t xs p),fL (List.replicate t.outs.length [])]))) (by kernel_rfl)
theorem L7(x:Iv):ae 171 [(ai x)] (bP x.all):=by
 exact tr true Tryz.call171 Tryz.func171 (.nil) (by kernel_rfl)
theorem qu(l:List Iv)(hl:l.length<=1000):ae 138 [(ak l)] (bP (hasAll l)):=by
 exact tr true Tryz.call138 Tryz.func138 (chain [.c (w9 true _ _ 171 [] (fun i=>(l.getD i an).all) (fun i hi=>L7 _) (by omega):ae 17 [(ak l),(.fn 171 [])] _)] <| .nil) (by kernel_rfl)
theorem Cv(x:Iv)(hx:x.Valid):ae 139 [(ai x)] (bP false):=by
 exact tr true Tryz.call139 Tryz.func139 (chain [.c (dc x ‹_›)] <| .nil) (by kernel_rfl)
theorem Q3(n:Nat)(hn:n<=1000):ae 143 [fL (List.replicate n []),.fn 138 []] (bP false):=by
 have e:∀ i,i<n->(List.replicate n ([]:List Iv)).getD i []=[]:=fun i hi=>by simp[List.getD_eq_getElem?_getD,hi]
 refine Rm true _ _ 138 [] (fun _=>false) (fun i hi=>?_) (by simpa using by omega) (fun _ _=>rfl);have hi':i<n:=by simpa using hi
 show ae 138 [ak ((List.replicate n []).getD i [])] _;rw[e i hi'];exact qu [] (by simp)
theorem Ea{l:List Iv}(h:eU l):hasAll l=false:=by
 unfold hasAll;rw[List.any_eq_false];intro i hi;rw[(h i (List.mem_range.1 hi)).2];decide
theorem sA{s:bQ}{b:List Iv}(h:c9 s)(hb:bM s.au b):oq s.tape/\1<=(b++s.params).length/\(b++s.params).length=s.tape.ins/\fl (b++s.params):=by
 have h1:=h.s1;have h2:=h.ins;have h3:=hb.len;refine⟨h.tape,?_,?_,hb.ok.zj.append h.params.zj⟩
 .rw [List.length_append];omega
 .rw [List.length_append];omega
theorem L8(s:bQ)(b:List Iv)(p:Nat)(h:c9 s)(hb:bM s.au b)(hp1:8<=p)(hp2:p<=512)(hn:hasAll (bD s.tape (b++s.params) p)=true):ae 85 [(a7 s),(ak b),(iP 0),(iP p)] (.aq [.v (.slice none 0 0),.v (.slice none 0 0),iP 11]):=by
 have s4:=h.s4;have p4:=h.p4;have hlb:=hb.len;have hou:=h.tape.outs;have hna:=Ea hb.ok;have hfl:=sY s.tape (b++s.params) p;obtain⟨f1,f2,f3,f4⟩:=sA h hb;exact tr true Tryz.call85 Tryz.func85 (chain [.c (y3 s ‹_›),tB 21 (nL hb.len:((b.length:Int) != (s.au:Int))=false),.c (qu _ (by omega):ae 138 [(ak b)] _),tB 25 (hna:(hasAll b)=false),
  .c (nD true _ _ 139 [] (fun _=>false) (fun i hi=>Cv _ (hb.ok i hi).1) (by omega) (fun _ _=>rfl):ae 17 [(ak b),(.fn 139 [])] _),.c (wJ _:ae 140 [(iP p)] _),
  tB 32 (fU.2 ⟨by omega,by omega⟩:(cw (p:Int))=true),.o 40 (.e (DE _ _):PV.le (.e (.sl true 2 1 fun i_ j_=>[(ak b),(ak s.params)].getD (i_*1+j_) (.v (.bool false)))) (.e (fL [b,s.params]))),
  .c (Bu b s.params (by omega) (by omega):ae 142 [(fL [b,s.params])] _),.c (CA _ _ _ f1 f2 f3 f4 (by omega) (by omega):ae 141 [(mW s.tape),(ak (b++s.params)),(iP 0),(iP p)] _),
  .c (qu _ (by omega):ae 138 [(ak (bD s.tape (b++s.params) p))] _),tB 48 (hn:(hasAll (bD s.tape (b++s.params) p))=true)] <| .nil) (by kernel_rfl)
theorem L9(s:bQ)(b:List Iv)(p:Nat)(h:c9 s)(hb:bM s.au b)(hp1:8<=p)(hp2:p<=512)(hn:hasAll (bD s.tape (b++s.params) p)=false):ae 85 [(a7 s),(ak b),(iP 0),(iP p)] (.aq [ak (bD s.tape (b++s.params) p),fL (List.replicate s.tape.outs.length []),iP 0]):=by
 have s4:=h.s4;have p4:=h.p4;have hlb:=hb.len;have hou:=h.tape.outs;have hna:=Ea hb.ok;have hfl:=sY s.tape (b++s.params) p;obtain⟨f1,f2,f3,f4⟩:=sA h hb;exact tr true Tryz.call85 Tryz.func85 (chain [.c (y3 s ‹_›),tB 21 (nL hb.len:((b.length:Int) != (s.au:Int))=false),.c (qu _ (by omega):ae 138 [(ak b)] _),tB 25 (hna:(hasAll b)=false),
  .c (nD true _ _ 139 [] (fun _=>false) (fun i hi=>Cv _ (hb.ok i hi).1) (by omega) (fun _ _=>rfl):ae 17 [(ak b),(.fn 139 [])] _),.c (wJ _:ae 140 [(iP p)] _),
  tB 32 (fU.2 ⟨by omega,by omega⟩:(cw (p:Int))=true),.o 40 (.e (DE _ _):PV.le (.e (.sl true 2 1 fun i_ j_=>[(ak b),(ak s.params)].getD (i_*1+j_) (.v (.bool false)))) (.e (fL [b,s.params]))),
  .c (Bu b s.params (by omega) (by omega):ae 142 [(fL [b,s.params])] _),.c (CA _ _ _ f1 f2 f3 f4 (by omega) (by omega):ae 141 [(mW s.tape),(ak (b++s.params)),(iP 0),(iP p)] _),
  .c (qu _ (by omega):ae 138 [(ak (bD s.tape (b++s.params) p))] _),tB 48 (hn:(hasAll (bD s.tape (b++s.params) p))=false),
  .c (Q3 _ (by omega):ae 143 [(fL (List.replicate s.tape.outs.length [])),(.fn 138 [])] _)] <| .nil) (by kernel_rfl)
theorem Ma(s:bQ)(b:List Iv)(p:Nat)(h:c9 s)(hb:bM s.au b)(hp1:8<=p)(hp2:p<=512)(hn:hasAll (bD s.tape (b++s.params) p)=true):ae 43 [(a7 s),(ak b),(iP p)] (.aq [.v (.slice none 0 0),iP 11]):=by
 exact tr true Tryz.call43 Tryz.func43 (chain [.c (L8 _ _ _ h hb hp1 hp2 hn:ae 85 [(a7 s),(ak b),(iP 0),(iP p)] _)] <| .nil) (by kernel_rfl)
theorem Cw(s:bQ)(b:List Iv)(p:Nat)(h:c9 s)(hb:bM s.au b)(hp1:8<=p)(hp2:p<=512)(hn:hasAll (bD s.tape (b++s.params) p)=false):ae 43 [(a7 s),(ak b),(iP p)] (.aq [ak (bD s.tape (b++s.params) p),iP 0]):=by
 exact tr true Tryz.call43 Tryz.func43 (chain [.c (L9 _ _ _ h hb hp1 hp2 hn:ae 85 [(a7 s),(ak b),(iP 0),(iP p)] _)] <| .nil) (by kernel_rfl)
open Go.RowKit Fp Pu
noncomputable def CL(s:bQ)(x:List Iv)(d:Dy)(b:List Iv)(p:Nat)(N:Nat)(i:Nat):PS:=⟨66,true,[(14,.own 14),(42,.e (iP i)),(41,.e (iP x.length)),(13,.box 13 0),(11,.e (ak (bD s.tape (b++s.params) p))),(1,.e (ak x)),(4,.e (iP p))],[(14,.row true 41 i 7 (bO ((List.range i).map (fun j_=>(bj (x.getD j_ an) (aU (cH d) ((bD s.tape (b++s.params) p).getD j_ an) p) p))))),(13,.cells 41 ([(bP false),(.v (.slice none 0 0)),(iP 0)]++aM d++[(bP false)]))]⟩
noncomputable def CM(s:bQ)(x:List Iv)(d:Dy)(b:List Iv)(p:Nat)(i:Nat):PS:=⟨66,true,[(14,.own 14),(42,.e (iP i)),(41,.e (iP x.length)),(13,.box 13 0),(11,.e (ak (bD s.tape (b++s.params) p))),(1,.e (ak x)),(4,.e (iP p))],[(14,.row true 41 i 7 (bO ((List.range i).map (fun j_=>(bj (x.getD j_ an) (aU (cH d) ((bD s.tape (b++s.params) p).getD j_ an) p) p))))),(13,.cells 41 ([(bP false),(.v (.slice none 0 0)),(iP 0)]++aM d++[(bP false)]))]⟩
def BX(s:bQ)(x:List Iv)(d:Dy)(p:Nat)(N:Nat)(k:Nat):PS:=⟨55,true,[(22,.e (iP k)),(10,.gy 64 [(.box 5),(.box 4),(.box 6),(.box 7)]),(7,.box 7 0),(6,.box 6 0),(5,.box 5 0),(4,.box 4 0)],[(7,.cells 3 [(iP p)]),(6,.cells 31 (aM d)),(5,.cells 26 [(ak x)]),(4,.cells 28 [(iP s.tape.ins),(cF s.tape.ops),(cD s.tape.outs),(iP s.au),(ak s.params)])]⟩
def BY(s:bQ)(x:List Iv)(d:Dy)(p:Nat)(k:Nat):PS:=⟨55,true,[(22,.e (iP k)),(10,.gy 64 [(.box 5),(.box 4),(.box 6),(.box 7)]),(7,.box 7 0),(6,.box 6 0),(5,.box 5 0),(4,.box 4 0)],[(7,.cells 3 [(iP p)]),(6,.cells 31 (aM d)),(5,.cells 26 [(ak x)]),(4,.cells 28 [(iP s.tape.ins),(cF s.tape.ops),(cD s.tape.outs),(iP s.au),(ak s.params)])]⟩
noncomputable def B2(s:bQ)(x:List Iv)(d:Dy)(p:Nat)(N:Nat)(j:Nat):PS:=⟨55,true,[(36,.e (iP j)),(14,.e (ak (b8 s x d p j))),(7,.box 7 0),(6,.box 6 0),(5,.box 5 0),(4,.box 4 0)],[(7,.cells 3 [(iP p)]),(6,.cells 31 (aM d)),(5,.cells 26 [(ak x)]),(4,.cells 28 [(iP s.tape.ins),(cF s.tape.ops),(cD s.tape.outs),(iP s.au),(ak s.params)])]⟩
def BZ(s:bQ)(x:List Iv)(d:Dy)(p:Nat)(k:Nat):PS:=⟨55,true,[(22,.e (iP k)),(10,.gy 64 [(.box 5),(.box 4),(.box 6),(.box 7)]),(7,.box 7 0),(6,.box 6 0),(5,.box 5 0),(4,.box 4 0)],[(7,.cells 3 [(iP p)]),(6,.cells 31 (aM d)),(5,.cells 26 [(ak x)]),(4,.cells 28 [(iP s.tape.ins),(cF s.tape.ops),(cD s.tape.outs),(iP s.au),(ak s.params)])]⟩
noncomputable def B3(s:bQ)(x:List Iv)(d:Dy)(p:Nat)(j:Nat):PS:=⟨55,true,[(36,.e (iP j)),(14,.e (ak (b8 s x d p j))),(7,.box 7 0),(6,.box 6 0),(5,.box 5 0),(4,.box 4 0)],[(7,.cells 3 [(iP p)]),(6,.cells 31 (aM d)),(5,.cells 26 [(ak x)]),(4,.cells 28 [(iP s.tape.ins),(cF s.tape.ops),(cD s.tape.outs),(iP s.au),(ak s.params)])]⟩
theorem IC(x:Iv)(hx:x.Valid)(xa:x.all=false):ae 83 [(ai x)] (bP false):=by
 exact tr true Tryz.call83 Tryz.func83 (chain [.c (dc x ‹_›),tB 8 (xa:x.all=false)] <| .nil) (by kernel_rfl)
theorem sw(s:bQ)(b:List Iv)(hb:bM s.au b)(h4:s.au<=4):ae 42 [(a7 s),(ak b)] (bP true):=by
 have hlb:=hb.len;exact tr true Tryz.call42 Tryz.func42 (chain [tB 9 (xy hb.len:((b.length:Int)==(s.au:Int))=true),
  .c (nD true _ _ 83 [] (fun _=>false) (fun i hi=>IC _ (hb.ok i hi).1 (hb.ok i hi).2) (by omega) (fun _ _=>rfl):ae 17 [(ak b),(.fn 83 [])] _)] <| .nil) (by kernel_rfl)
theorem ky(s:bQ)(x:List Iv)(d:Dy)(p:Nat)(h:c9 s)(hx:bM s.au x)(hd:d.Valid)(h0:0<d.sign)(hp1:8<=p)(hp2:p<=512):ae 41 [(a7 s),(ak x),(ag d),(iP p)] (bP true):=by
 have s4:=h.s4;exact tr true Tryz.call41 Tryz.func41 (chain [.c (y3 s ‹_›),.c (sw _ _ hx (by omega):ae 42 [(a7 s),(ak x)] _),.c (ff _ ‹_›:ae 68 [(ag d)] _),.c (dt _ ‹_›:ae 35 [(ag d)] _),
  tB 23 (decide_eq_true h0),tT 27 (8<=(p:Int)) (by omega),tT 31 ((p:Int)<=512) (by omega)] <| .nil) (by kernel_rfl)
theorem M4(s:bQ)(x:List Iv)(d:Dy)(b:List Iv)(p:Nat)(h:c9 s)(hx:bM s.au x)(hd:d.Valid)(h0:0<d.sign)(hb:bM s.au b)(hp1:8<=p)(hp2:p<=512)(hn:hasAll (bD s.tape (b++s.params) p)=true):ae 13 [(a7 s),(ak x),(ag d),(ak b),(iP p)] (.v (.slice none 0 0)):=by
 have s4:=h.s4;exact tr true Tryz.call13 Tryz.func13 (chain [.c (ky _ _ _ _ h hx hd h0 hp1 hp2:ae 41 [(a7 s),(ak x),(ag d),(iP p)] _),.c (sw _ _ hb s4:ae 42 [(a7 s),(ak b)] _),.c (Ma s b p h hb hp1 hp2 hn),
  tB 37 (by decide:((11:Int) != 0)=true)] <| .nil) (by kernel_rfl)
theorem yU(d:Dy):E.le (.agg ([bP false,.v (.slice none 0 0),iP 0]++aM d++[bP false])) (ai (cH d)) :=
 .agg (.cons (.refl _) (.cons nM (.cons (.refl _) (.cons (.refl _) (.cons (.refl _) (.cons (.refl _) (.cons (.refl _) .nil)))))))
theorem M5(s:bQ)(x:List Iv)(d:Dy)(b:List Iv)(p:Nat)(h:c9 s)(hx:bM s.au x)(hd:d.Valid)(h0:0<d.sign)(hb:bM s.au b)(hp1:8<=p)(hp2:p<=512)(hn:hasAll (bD s.tape (b++s.params) p)=false)(N:Nat)(hN0:N<x.length)(hlo:∀ i,i<N->(bj (x.getD i an) (aU (cH d) ((bD s.tape (b++s.params) p).getD i an) p) p).all=false)(hN:(bj (x.getD N an) (aU (cH d) ((bD s.tape (b++s.params) p).getD N an) p) p).all=true):ae 13 [(a7 s),(ak x),(ag d),(ak b),(iP p)] (.v (.slice none 0 0)):=by
 have s4:=h.s4;have hlx:=hx.len;have hou:=h.outs;have hfl:=sY s.tape (b++s.params) p;obtain⟨f1,f2,f3,f4⟩:=sA h hb;have fv:=Ck s.tape f4 (show 1<=p by omega) (show p<=4096 by omega);have hq:0<d.q:=(fW d).1.1 h0;have hst:=FY hd (Rat.le_of_lt hq)
 exact tr true Tryz.call13 Tryz.func13 (chain [.c (ky _ _ _ _ h hx hd h0 hp1 hp2:ae 41 [(a7 s),(ak x),(ag d),(iP p)] _),.c (sw _ _ hb s4:ae 42 [(a7 s),(ak b)] _),.c (Cw s b p h hb hp1 hp2 hn),
  tB 37 (by decide:((0:Int) != 0)=false),.y 14 14 true 41 7 (bO ((List.range 0).map (fun j_=>(bj (x.getD j_ an) (aU (cH d) ((bD s.tape (b++s.params) p).getD j_ an) p) p)))),
  .s (Sp.upto (CL s x d b p N) 0 N (by omega) (fun i hi hlti=>by
    have w1:=(hx.ok i (by omega)).1;have w2:=fv i;have w3:=iJ (cH d) ((bD s.tape (b++s.params) p).getD i an) (show 1<=p by omega) (show p<=4096 by omega);have hol:=kE (bj (x.getD i an) (aU (cH d) ((bD s.tape (b++s.params) p).getD i an) p) p);exact aB (chain [tT 43 ((i:Int)<(x.length:Int)) (by omega),iX ((i:Int)) (x.length) (by omega),
     .o 49 (.e (yU d):PV.le (.e (.agg ([(bP false),(.v (.slice none 0 0)),(iP 0)]++aM d++[(bP false)]))) (.e (ai (cH d)))),iX ((i:Int)) ((bD s.tape (b++s.params) p).length) (by omega),
     .c (qx (cH d) ((bD s.tape (b++s.params) p).getD i an) p ‹_› ‹_› (by omega) (by omega)),
     .c (o9 (x.getD i an) (aU (cH d) ((bD s.tape (b++s.params) p).getD i an) p) p ‹_› ‹_› (by omega) (by omega)),
     tB 59 (hlo i (by omega):(bj (x.getD i an) (aU (cH d) ((bD s.tape (b++s.params) p).getD i an) p) p).all=false),
     .o 62 (.e (di _):PV.le (.e (.sl true 1 7 fun i_ j_=>(aE (bj (x.getD i an) (aU (cH d) ((bD s.tape (b++s.params) p).getD i an) p) p)).getD (i_*7+j_) (.v (.bool false)))) (.e (ak [(bj (x.getD i an) (aU (cH d) ((bD s.tape (b++s.params) p).getD i an) p) p)]))),
     .a (by omega:(i+[(bj (x.getD i an) (aU (cH d) ((bD s.tape (b++s.params) p).getD i an) p) p)].length)*88<=140737488355328),ar ((i:Int)+1) (by omega)] <| .e (chain [.b 14 (nE rfl rfl rfl:Bx.le (.row true 41 (i+[(bj (x.getD i an) (aU (cH d) ((bD s.tape (b++s.params) p).getD i an) p) p)].length) 7 (fun i_ j_=>if i_<i then(bO ((List.range i).map (fun j_=>(bj (x.getD j_ an) (aU (cH d) ((bD s.tape (b++s.params) p).getD j_ an) p) p)))) i_ j_ else(E.gS (ak [(bj (x.getD i an) (aU (cH d) ((bD s.tape (b++s.params) p).getD i an) p) p)])) (i_-i) j_)) (.row true 41 (i+1) 7 (bO ((List.range (i+1)).map (fun j_=>(bj (x.getD j_ an) (aU (cH d) ((bD s.tape (b++s.params) p).getD j_ an) p) p))))))] <| .nil)) (by kernel_rfl))
  (fun hi=>by
    have w1:=(hx.ok N (by omega)).1;have w2:=fv N;have w3:=iJ (cH d) ((bD s.tape (b++s.params) p).getD N an) (show 1<=p by omega) (show p<=4096 by omega);exact aB (chain [tT 43 ((N:Int)<(x.length:Int)) (by omega),iX ((N:Int)) (x.length) (by omega),
    .o 49 (.e (yU d):PV.le (.e (.agg ([(bP false),(.v (.slice none 0 0)),(iP 0)]++aM d++[(bP false)]))) (.e (ai (cH d)))),iX ((N:Int)) ((bD s.tape (b++s.params) p).length) (by omega),
    .c (qx (cH d) ((bD s.tape (b++s.params) p).getD N an) p ‹_› ‹_› (by omega) (by omega)),
    .c (o9 (x.getD N an) (aU (cH d) ((bD s.tape (b++s.params) p).getD N an) p) p ‹_› ‹_› (by omega) (by omega)),
    tB 59 (hN:(bj (x.getD N an) (aU (cH d) ((bD s.tape (b++s.params) p).getD N an) p) p).all=true)] <| .nil) (by kernel_rfl)) (by nofun):bA 9 Tryz.f13 (CL s x d b p N 0) .ret ⟨66,true,[(10,.e (.v (.slice none 0 0)))],[]⟩) .nil] <| .nil) (by kernel_rfl)
theorem M6(s:bQ)(x:List Iv)(d:Dy)(b:List Iv)(p:Nat)(h:c9 s)(hx:bM s.au x)(hd:d.Valid)(h0:0<d.sign)(hb:bM s.au b)(hp1:8<=p)(hp2:p<=512)(hn:hasAll (bD s.tape (b++s.params) p)=false)(hlo:∀ i,i<x.length->(bj (x.getD i an) (aU (cH d) ((bD s.tape (b++s.params) p).getD i an) p) p).all=false):ae 13 [(a7 s),(ak x),(ag d),(ak b),(iP p)] (ak ((List.range x.length).map (fun j_=>(bj (x.getD j_ an) (aU (cH d) ((bD s.tape (b++s.params) p).getD j_ an) p) p)))):=by
 have s4:=h.s4;have hlx:=hx.len;have hou:=h.outs;have hfl:=sY s.tape (b++s.params) p;obtain⟨f1,f2,f3,f4⟩:=sA h hb;have fv:=Ck s.tape f4 (show 1<=p by omega) (show p<=4096 by omega);have hq:0<d.q:=(fW d).1.1 h0;have hst:=FY hd (Rat.le_of_lt hq)
 exact tr true Tryz.call13 Tryz.func13 (chain [.c (ky _ _ _ _ h hx hd h0 hp1 hp2:ae 41 [(a7 s),(ak x),(ag d),(iP p)] _),.c (sw _ _ hb s4:ae 42 [(a7 s),(ak b)] _),.c (Cw s b p h hb hp1 hp2 hn),
  tB 37 (by decide:((0:Int) != 0)=false),.y 14 14 true 41 7 (bO ((List.range 0).map (fun j_=>(bj (x.getD j_ an) (aU (cH d) ((bD s.tape (b++s.params) p).getD j_ an) p) p)))),
  .s (Sp.upto (CM s x d b p) 0 x.length (by omega) (fun i hi hlti=>by
    have w1:=(hx.ok i (by omega)).1;have w2:=fv i;have w3:=iJ (cH d) ((bD s.tape (b++s.params) p).getD i an) (show 1<=p by omega) (show p<=4096 by omega);have hol:=kE (bj (x.getD i an) (aU (cH d) ((bD s.tape (b++s.params) p).getD i an) p) p);exact aB (chain [tT 43 ((i:Int)<(x.length:Int)) (by omega),iX ((i:Int)) (x.length) (by omega),
     .o 49 (.e (yU d):PV.le (.e (.agg ([(bP false),(.v (.slice none 0 0)),(iP 0)]++aM d++[(bP false)]))) (.e (ai (cH d)))),iX ((i:Int)) ((bD s.tape (b++s.params) p).length) (by omega),
     .c (qx (cH d) ((bD s.tape (b++s.params) p).getD i an) p ‹_› ‹_› (by omega) (by omega)),
     .c (o9 (x.getD i an) (aU (cH d) ((bD s.tape (b++s.params) p).getD i an) p) p ‹_› ‹_› (by omega) (by omega)),
     tB 59 (hlo i (by omega):(bj (x.getD i an) (aU (cH d) ((bD s.tape (b++s.params) p).getD i an) p) p).all=false),
     .o 62 (.e (di _):PV.le (.e (.sl true 1 7 fun i_ j_=>(aE (bj (x.getD i an) (aU (cH d) ((bD s.tape (b++s.params) p).getD i an) p) p)).getD (i_*7+j_) (.v (.bool false)))) (.e (ak [(bj (x.getD i an) (aU (cH d) ((bD s.tape (b++s.params) p).getD i an) p) p)]))),
     .a (by omega:(i+[(bj (x.getD i an) (aU (cH d) ((bD s.tape (b++s.params) p).getD i an) p) p)].length)*88<=140737488355328),ar ((i:Int)+1) (by omega)] <| .e (chain [.b 14 (nE rfl rfl rfl:Bx.le (.row true 41 (i+[(bj (x.getD i an) (aU (cH d) ((bD s.tape (b++s.params) p).getD i an) p) p)].length) 7 (fun i_ j_=>if i_<i then(bO ((List.range i).map (fun j_=>(bj (x.getD j_ an) (aU (cH d) ((bD s.tape (b++s.params) p).getD j_ an) p) p)))) i_ j_ else(E.gS (ak [(bj (x.getD i an) (aU (cH d) ((bD s.tape (b++s.params) p).getD i an) p) p)])) (i_-i) j_)) (.row true 41 (i+1) 7 (bO ((List.range (i+1)).map (fun j_=>(bj (x.getD j_ an) (aU (cH d) ((bD s.tape (b++s.params) p).getD j_ an) p) p))))))] <| .nil)) (by kernel_rfl))
  (fun hi=>by
    exact aB (chain [tF 43 ((x.length:Int)<(x.length:Int)) (by omega),.z 14] <| .e (chain [.o 14 (.e (pe (by simp)):PV.le (.e (.sl true x.length 7 (bO ((List.range x.length).map (fun j_=>(bj (x.getD j_ an) (aU (cH d) ((bD s.tape (b++s.params) p).getD j_ an) p) p)))))) (.e (ak ((List.range x.length).map (fun j_=>(bj (x.getD j_ an) (aU (cH d) ((bD s.tape (b++s.params) p).getD j_ an) p) p))))))] <| .nil)) (by kernel_rfl)) (by nofun):bA 9 Tryz.f13 (CM s x d b p 0) (.exit 0) ⟨66,true,[(14,.e (ak ((List.range x.length).map (fun j_=>(bj (x.getD j_ an) (aU (cH d) ((bD s.tape (b++s.params) p).getD j_ an) p) p)))))],[]⟩) .nil] <| .nil) (by kernel_rfl)
theorem s9(s:bQ)(x:List Iv)(d:Dy)(b:List Iv)(p:Nat)(h:c9 s)(hx:bM s.au x)(hd:d.Valid)(h0:0<d.sign)(hb:bM s.au b)(hp1:8<=p)(hp2:p<=512):ae 13 [(a7 s),(ak x),(ag d),(ak b),(iP p)] (ak (bX s x d b p)):=by
 unfold bX;cases hn:hasAll (bD s.tape (b++s.params) p)with
 | true=>rw[if_pos rfl];exact(M4 s x d b p h hx hd h0 hb hp1 hp2 hn).res (.nil _ _ _)
 | false =>
  rw[if_neg (by decide)];cases ha:hasAll (lh x (bD s.tape (b++s.params) p) d p)with
  | true =>
   rw[if_pos rfl];unfold hasAll at ha;rw[List.any_eq_true,tf]at ha;obtain⟨i,hi,hb2⟩:=ha;obtain⟨N,h1,h2,h3⟩:=gG (p:=fun i=>((lh x (bD s.tape (b++s.params) p) d p).getD i an).all) ⟨i,List.mem_range.1 hi,hb2⟩;refine(M5 s x d b p h hx hd h0 hb hp1 hp2 hn N h1 (fun i hi=>?_) ?_).res (.nil _ _ _)
   .have:=h3 i hi;rw[tc (show i<x.length by omega)]at this;exact this
   .rw [tc h1]at h2;exact h2
  | false =>
   rw[if_neg (by decide)];refine M6 s x d b p h hx hd h0 hb hp1 hp2 hn fun i hi=>?_
   unfold hasAll at ha;rw[List.any_eq_false,tf]at ha;have:=ha i (List.mem_range.2 hi);rw[tc hi]at this;exact Bool.eq_false_iff.2 this
theorem MZ(s:bQ)(x:List Iv)(d:Dy)(b:List Iv)(p:Nat)(h:c9 s)(hx:bM s.au x)(hd:d.Valid)(h0:0<d.sign)(hb:bM s.au b)(hp1:8<=p)(hp2:p<=512)(hi:(bX s x d b p)=[]):ae 23 [(a7 s),(ak x),(ag d),(ak b),(iP p)] (bP false):=by
 exact tr true Tryz.call23 Tryz.func23 (chain [.c (s9 _ _ _ _ _ h hx hd h0 hb hp1 hp2:ae 13 [(a7 s),(ak x),(ag d),(ak b),(iP p)] _),tB 20 (by rw[hi];rfl:(decide (0<(((bX s x d b p).length:Nat):Int)))=false)] <| .nil) (by kernel_rfl)
theorem kV{n:Nat}{b:List Iv}(h:bM n b)(h1:1<=n)(h4:n<=4):1<=b.length/\b.length<=4/\eU b:=⟨by rw[h.len];exact h1,by rw[h.len];exact h4,h.ok⟩
theorem M0(s:bQ)(x:List Iv)(d:Dy)(b:List Iv)(p:Nat)(h:c9 s)(hx:bM s.au x)(hd:d.Valid)(h0:0<d.sign)(hb:bM s.au b)(hp1:8<=p)(hp2:p<=512)(hi:(bX s x d b p)≠[]):ae 23 [(a7 s),(ak x),(ag d),(ak b),(iP p)] (bP (iV x b&&iV (bX s x d b p) b)):=by
 have s1:=h.s1;have s4:=h.s4;obtain⟨x1,x4,xo⟩:=kV hx s1 s4;obtain⟨b1,b4,bo⟩:=kV hb s1 s4;have hlx:=hx.len;have hlb:=hb.len;have hio:=wQ hx (show 1<=p by omega) (show p<=4096 by omega) hi;obtain⟨i1,i4,io⟩:=kV hio s1 s4;have hli:=hio.len
 exact tr true Tryz.call23 Tryz.func23 (chain [.c (s9 _ _ _ _ _ h hx hd h0 hb hp1 hp2:ae 13 [(a7 s),(ak x),(ag d),(ak b),(iP p)] _),tT 20 (0<(((bX s x d b p).length:Nat):Int)) (by omega),
  .c (AW x b (by omega) (by omega) (by omega) ‹_› ‹_›)] <| .w (iV x b=true)
  (fun k1=>chain [tB 24 (k1),.c (AW (bX s x d b p) b (by omega) (by omega) (by omega) ‹_› ‹_›)]<|rQ (bP (iV (bX s x d b p) b)) (bP (iV x b&&iV (bX s x d b p) b)) (by simp[k1]))
  (fun k1=>chain [tB 24 (Bool.eq_false_iff.2 k1)]<|rQ (bP false) (bP (iV x b&&iV (bX s x d b p) b)) (by simp[k1]))) (by kernel_rfl)
theorem ny(s:bQ)(x:List Iv)(d:Dy)(b:List Iv)(p:Nat)(h:c9 s)(hx:bM s.au x)(hd:d.Valid)(h0:0<d.sign)(hb:bM s.au b)(hp1:8<=p)(hp2:p<=512):ae 23 [(a7 s),(ak x),(ag d),(ak b),(iP p)] (bP (fS s x d b p)):=by
 unfold fS;by_cases hi:(bX s x d b p)=[]
 .have:=MZ s x d b p h hx hd h0 hb hp1 hp2 hi
  rwa[hi,show(!([]:List Iv).isEmpty&&(iV x b&&iV [] b))=false from rfl]
 .have:=M0 s x d b p h hx hd h0 hb hp1 hp2 hi
  have e:((bX s x d b p)).isEmpty=false:=by
   cases q:(bX s x d b p)with
   | nil=>exact absurd q hi
   | cons _ _=>rfl
  rwa[e,Bool.not_false,Bool.true_and]
theorem SU(k:Int)(h1:-100<=k)(h2:k<=100):ae 36 [ag ⟨false,1,0⟩,iP k] (.aq [ag (dK k),iP 0]):=by
 have:=pW ⟨false,1,0⟩ k pr (by omega) (by omega);have e:canon false 1 (0+k)=dK k:=by rw[Int.zero_add];exact Be k
 have e2:bH (canon false 1 (0+k))=dK k:=by rw[e];exact mo (ze h1 h2)
 have e3:cQ (canon false 1 (0+k))=0:=by rw[e];exact sE (ze h1 h2)
 change ae 36 [ag ⟨false,1,0⟩,iP k] (.aq [ag (bH (canon false 1 (0+k))),iP (cQ (canon false 1 (0+k)))])at this;rwa[e2,e3]at this
theorem MQ(x:List Iv)(d:Dy):(mz x d==0)=fR x d:=by
 unfold mz;cases fR x d<;>rfl
theorem CG(x:List Iv)(k:Int)(x1:1<=x.length)(x8:x.length<=8)(hx:eU x)(k1:-100<=k)(k2:k<=100):ae 65 [(ak x),(iP k)] (.aq [ak (fw x (dK k)),bP (fR x (dK k))]):=by
 have v:=zg k1 k2;have sg:=zf k;exact tr true Tryz.call65 Tryz.func65 (chain [.c (dB _ (by omega):ae 113 [(iP 1)] _),.c (SU _ (by omega) (by omega):ae 36 [(ag (ay 1)),(iP k)] _),tB 16 (by decide:((0:Int) != 0)=false),
  .c (AV _ _ (by omega) (by omega) ‹_› ‹_› ‹_›:ae 114 [(ak x),(ag (dK k))] _)]<|rR (.aq [ak (fw x (dK k)),bP (fR x (dK k))]) (.aq (.cons (.refl _) (.cons (.of_eq (by rw[MQ])) .nil)):E.le (.aq [(ak (fw x (dK k))),(bP ((mz x (dK k))==0))]) (.aq [ak (fw x (dK k)),bP (fR x (dK k))]))) (by kernel_rfl)
theorem Ho(s:bQ)(x:List Iv)(d:Dy)(p:Nat)(h:c9 s)(hx:bM s.au x)(hd:d.Valid)(h0:0<d.sign)(hp1:8<=p)(hp2:p<=512)(k:Int)(k1:-100<=k)(k2:k<=100)(hg:(fR x (dK k))=false):ae 64 [(iP k),(.ref 1 fun j_=>[(ak x)].getD j_ .any),(.ref 5 fun j_=>[(iP s.tape.ins),(cF s.tape.ops),(cD s.tape.outs),(iP s.au),(ak s.params)].getD j_ .any),(.ref 3 fun j_=>[(bP d.neg),(ah (af d.m)),(iP d.e)].getD j_ .any),(.ref 1 fun j_=>[(iP p)].getD j_ .any)] (.aq [ak (fw x (dK k)),bP false]):=by
 have s1:=h.s1;have s4:=h.s4;obtain⟨x1,x4,xo⟩:=kV hx s1 s4;exact tr true Tryz.call64 Tryz.func64 (chain [.c (CG _ _ (by omega) (by omega) xo (by omega) (by omega):ae 65 [(ak x),(iP k)] _),tB 15 (hg:(fR x (dK k))=false)] <| .nil) (by kernel_rfl)
theorem Hp(s:bQ)(x:List Iv)(d:Dy)(p:Nat)(h:c9 s)(hx:bM s.au x)(hd:d.Valid)(h0:0<d.sign)(hp1:8<=p)(hp2:p<=512)(k:Int)(k1:-100<=k)(k2:k<=100)(hg:(fR x (dK k))=true):ae 64 [(iP k),(.ref 1 fun j_=>[(ak x)].getD j_ .any),(.ref 5 fun j_=>[(iP s.tape.ins),(cF s.tape.ops),(cD s.tape.outs),(iP s.au),(ak s.params)].getD j_ .any),(.ref 3 fun j_=>[(bP d.neg),(ah (af d.m)),(iP d.e)].getD j_ .any),(.ref 1 fun j_=>[(iP p)].getD j_ .any)] (.aq [ak (fw x (dK k)),bP (fS s x d (fw x (dK k)) p)]):=by
 have s1:=h.s1;have s4:=h.s4;obtain⟨x1,x4,xo⟩:=kV hx s1 s4;have hb:=wN hx (zg k1 k2) (FM (zf k)) hg;exact tr true Tryz.call64 Tryz.func64 (chain [.c (CG _ _ (by omega) (by omega) xo (by omega) (by omega):ae 65 [(ak x),(iP k)] _),tB 15 (hg:(fR x (dK k))=true),
  .c (ny _ _ _ _ _ h hx hd h0 hb hp1 hp2:ae 23 [(a7 s),(ak x),(ag d),(ak (fw x (dK k))),(iP p)] _)] <| .nil) (by kernel_rfl)
theorem pT(s:bQ)(x:List Iv)(d:Dy)(p:Nat)(h:c9 s)(hx:bM s.au x)(hd:d.Valid)(h0:0<d.sign)(hp1:8<=p)(hp2:p<=512)(k:Int)(k1:-100<=k)(k2:k<=100):ae 64 [(iP k),(.ref 1 fun j_=>[(ak x)].getD j_ .any),(.ref 5 fun j_=>[(iP s.tape.ins),(cF s.tape.ops),(cD s.tape.outs),(iP s.au),(ak s.params)].getD j_ .any),(.ref 3 fun j_=>[(bP d.neg),(ah (af d.m)),(iP d.e)].getD j_ .any),(.ref 1 fun j_=>[(iP p)].getD j_ .any)] (.aq [ak (fw x (dK k)),bP (e9 s x d p k)]):=by
 unfold e9;cases hg:fR x (dK k)with
 | false=>exact Ho s x d p h hx hd h0 hp1 hp2 k k1 k2 hg
 | true=>exact Hp s x d p h hx hd h0 hp1 hp2 k k1 k2 hg
theorem RH(d:Dy)(hd:d.Valid):ae 36 [ag d,iP (-3)] (.aq [ag (lL d),iP (yK d)]):=pW d (-3) hd (by decide) (by decide)
theorem CF{x:List Iv}{d:Dy}:mz x d=0↔fR x d=true:=by
 unfold mz;cases fR x d<;>simp
theorem Tl(s:bQ)(x:List Iv)(d:Dy)(b:List Iv)(p:Nat)(h:c9 s)(hx:bM s.au x)(hd:d.Valid)(h0:0<d.sign)(hb:bM s.au b)(hp1:8<=p)(hp2:p<=512)(hi:(bX s x d b p)=[]):ae 66 [(a7 s),(ak x),(ag d),(ak b),(iP p)] (.v (.slice none 0 0)):=by
 exact tr true Tryz.call66 Tryz.func66 (chain [.c (s9 _ _ _ _ _ h hx hd h0 hb hp1 hp2:ae 13 [(a7 s),(ak x),(ag d),(ak b),(iP p)] _),tB 26 (by rw[hi];rfl:((((bX s x d b p).length:Nat):Int)==0)=true)] <| .nil) (by kernel_rfl)
theorem qE{l:List Iv}(h:l≠[]):((l.length:Int)==0)=false:=dW fun q=>h (List.length_eq_zero_iff.1 q)
theorem Tm(s:bQ)(x:List Iv)(d:Dy)(b:List Iv)(p:Nat)(h:c9 s)(hx:bM s.au x)(hd:d.Valid)(h0:0<d.sign)(hb:bM s.au b)(hp1:8<=p)(hp2:p<=512)(hi:(bX s x d b p)≠[]):ae 66 [(a7 s),(ak x),(ag d),(ak b),(iP p)] (ak (ca s x d b p)):=by
 have s1:=h.s1;have s4:=h.s4;obtain⟨x1,x4,xo⟩:=kV hx s1 s4;obtain⟨b1,b4,bo⟩:=kV hb s1 s4;have hlx:=hx.len;have hlb:=hb.len;have hio:=wQ hx (show 1<=p by omega) (show p<=4096 by omega) hi;obtain⟨i1,i4,io⟩:=kV hio s1 s4;have hli:=hio.len;have hho:=CI hx hio;obtain⟨u1,u4,uo⟩:=kV hho s1 s4
 have wv:=Tk (dh x (bX s x d b p)) (show 1<=p by omega) (show p<=4096 by omega);have sv:=Fy (gv (dh x (bX s x d b p)) p);have sn:=PZ (Fx (GG (dh x (bX s x d b p)) p))
 exact tr true Tryz.call66 Tryz.func66 (chain [.c (s9 _ _ _ _ _ h hx hd h0 hb hp1 hp2:ae 13 [(a7 s),(ak x),(ag d),(ak b),(iP p)] _),tB 26 (qE hi:((((bX s x d b p).length:Nat):Int)==0)=false),
  .c (IX x (bX s x d b p) (by omega) (by omega) (by omega) ‹_› ‹_›),
  .c (I0 _ _ (by omega) (by omega) ‹_› (by omega) (by omega):ae 116 [(ak (dh x (bX s x d b p))),(iP p)] _)] <| .w (rM (dh x (bX s x d b p)) p=true)
  (fun k1=>chain [tB 35 (k1),.c (dt _ ‹_›:ae 35 [(ag (gv (dh x (bX s x d b p)) p))] _)] <| .w ((Dy.sign (gv (dh x (bX s x d b p)) p))=0)
   (fun k2=>chain [tB 41 (beq_iff_eq.2 k2)]<|rQ (ak (dh x (bX s x d b p))) (ak (ca s x d b p)) (by unfold ca;rw[if_neg hi];simp[k1,k2]))
   (fun k2=>chain [tB 41 (beq_eq_false_iff_ne.2 k2),.c (RH _ ‹_›:ae 36 [(ag (gv (dh x (bX s x d b p)) p)),(iP (-3))] _)] <| .w ((yK (gv (dh x (bX s x d b p)) p))=0)
    (fun k3=>chain [tB 50 (bne_eq_false_iff_eq.2 k3),.c (AV _ _ (by omega) (by omega) ‹_› ‹_› ‹_›:ae 114 [(ak (dh x (bX s x d b p))),(ag (lL (gv (dh x (bX s x d b p)) p)))] _)] <| .w ((mz (dh x (bX s x d b p)) (lL (gv (dh x (bX s x d b p)) p)))=0)
     (fun k4=>chain [tB 59 (beq_iff_eq.2 k4)]<|rQ (ak (fw (dh x (bX s x d b p)) (lL (gv (dh x (bX s x d b p)) p)))) (ak (ca s x d b p)) (by unfold ca;rw[if_neg hi];simp[k1,k2,k3,CF.1 k4]))
     (fun k4=>chain [tB 59 (beq_eq_false_iff_ne.2 k4)]<|rQ (ak (dh x (bX s x d b p))) (ak (ca s x d b p)) (by unfold ca;rw[if_neg hi];simp[k1,k2,k3,show ¬fR _ _=true from fun q=>k4 (CF.2 q)])))
    (fun k3=>chain [tB 50 (bne_iff_ne.2 k3)]<|rQ (ak (dh x (bX s x d b p))) (ak (ca s x d b p)) (by unfold ca;rw[if_neg hi];simp[k1,k2,k3]))))
  (fun k1=>chain [tB 35 (Bool.eq_false_iff.2 k1)]<|rQ (ak (dh x (bX s x d b p))) (ak (ca s x d b p)) (by unfold ca;rw[if_neg hi];simp[k1]))) (by kernel_rfl)
theorem rN(s:bQ)(x:List Iv)(d:Dy)(b:List Iv)(p:Nat)(h:c9 s)(hx:bM s.au x)(hd:d.Valid)(h0:0<d.sign)(hb:bM s.au b)(hp1:8<=p)(hp2:p<=512):ae 66 [(a7 s),(ak x),(ag d),(ak b),(iP p)] (ak (ca s x d b p)):=by
 by_cases hi:(bX s x d b p)=[]
 .have:=Tl s x d b p h hx hd h0 hb hp1 hp2 hi
  unfold ca;rw[if_pos hi];exact this.res (.nil _ _ _)
 .exact Tm s x d b p h hx hd h0 hb hp1 hp2 hi
theorem B7(s:bQ)(x:List Iv)(d:Dy)(p:Nat)(h:c9 s)(hx:bM s.au x)(hd:d.Valid)(h0:0<d.sign)(hp1:8<=p)(hp2:p<=512)(N:Nat)(hN0:N<24)(hlo:∀ k:Nat,k<N->e9 s x d p ((k:Int)-20)=false)(hN:e9 s x d p ((N:Int)-20)=true):ae 26 [(a7 s),(ak x),(ag d),(iP p)] (.aq [ak (fw x (dK ((N:Int)-20))),iP 0]):=by
 exact tr true Tryz.call26 Tryz.func26 (chain [.c (ky _ _ _ _ h hx hd h0 hp1 hp2:ae 41 [(a7 s),(ak x),(ag d),(iP p)] _),
  .s (Sp.upto (BX s x d p N) 0 N (by omega) (fun k hk hltk=>by
    exact aB (chain [tT 23 ((k:Int)<24) (by omega),ar ((k:Int)-20) (by omega),
     .c (pT _ _ _ _ h hx hd h0 hp1 hp2 _ (by omega) (by omega):ae 64 [(iP ((k:Int)-20)),(.ref 1 fun j_=>[(ak x)].getD j_ .any),(.ref 5 fun j_=>[(iP s.tape.ins),(cF s.tape.ops),(cD s.tape.outs),(iP s.au),(ak s.params)].getD j_ .any),(.ref 3 fun j_=>[(bP d.neg),(ah (af d.m)),(iP d.e)].getD j_ .any),(.ref 1 fun j_=>[(iP p)].getD j_ .any)] _),
     tB 31 (hlo k (by omega):(e9 s x d p ((k:Int)-20))=false),ar ((k:Int)+1) (by omega)] <| .nil) (by kernel_rfl))
  (fun hk=>by
    exact aB (chain [tT 23 ((N:Int)<24) (by omega),ar ((N:Int)-20) (by omega),
    .c (pT _ _ _ _ h hx hd h0 hp1 hp2 _ (by omega) (by omega):ae 64 [(iP ((N:Int)-20)),(.ref 1 fun j_=>[(ak x)].getD j_ .any),(.ref 5 fun j_=>[(iP s.tape.ins),(cF s.tape.ops),(cD s.tape.outs),(iP s.au),(ak s.params)].getD j_ .any),(.ref 3 fun j_=>[(bP d.neg),(ah (af d.m)),(iP d.e)].getD j_ .any),(.ref 1 fun j_=>[(iP p)].getD j_ .any)] _),
    tB 31 (hN:(e9 s x d p ((N:Int)-20))=true)] <| .nil) (by kernel_rfl)) (by nofun):bA 5 Tryz.f26 (BX s x d p N 0) .ret ⟨55,true,[(9,.e (iP 0)),(8,.e (ak (fw x (dK ((N:Int)-20)))))],[]⟩) .nil] <| .nil) (by kernel_rfl)
theorem KV(s:bQ)(x:List Iv)(d:Dy)(p:Nat)(h:c9 s)(hx:bM s.au x)(hd:d.Valid)(h0:0<d.sign)(hp1:8<=p)(hp2:p<=512)(hlo:∀ k:Nat,k<24->e9 s x d p ((k:Int)-20)=false)(N:Nat)(hN0:N<10)(hbs:∀ j,j<=N->bM s.au (b8 s x d p j))(hw:∀ j,j<N->ca s x d (b8 s x d p j) p≠[]/\fS s x d (ca s x d (b8 s x d p j) p) p=false)(hN:ca s x d (b8 s x d p N) p=[]):ae 26 [(a7 s),(ak x),(ag d),(iP p)] (.aq [.v (.slice none 0 0),iP 12]):=by
 exact tr true Tryz.call26 Tryz.func26 (chain [.c (ky _ _ _ _ h hx hd h0 hp1 hp2:ae 41 [(a7 s),(ak x),(ag d),(iP p)] _),
  .s (Sp.upto (BY s x d p) 0 24 (by omega) (fun k hk hltk=>by
    exact aB (chain [tT 23 ((k:Int)<24) (by omega),ar ((k:Int)-20) (by omega),
     .c (pT _ _ _ _ h hx hd h0 hp1 hp2 _ (by omega) (by omega):ae 64 [(iP ((k:Int)-20)),(.ref 1 fun j_=>[(ak x)].getD j_ .any),(.ref 5 fun j_=>[(iP s.tape.ins),(cF s.tape.ops),(cD s.tape.outs),(iP s.au),(ak s.params)].getD j_ .any),(.ref 3 fun j_=>[(bP d.neg),(ah (af d.m)),(iP d.e)].getD j_ .any),(.ref 1 fun j_=>[(iP p)].getD j_ .any)] _),
     tB 31 (hlo k (by omega):(e9 s x d p ((k:Int)-20))=false),ar ((k:Int)+1) (by omega)] <| .nil) (by kernel_rfl))
  (fun hk=>by
    exact aB (chain [tB 23 (by decide:(decide ((24:Int)<24))=false)] <| .nil) (by kernel_rfl)) (by nofun):bA 5 Tryz.f26 (BY s x d p 0) (.exit 0) ⟨55,true,[(7,.box 7 0),(6,.box 6 0),(5,.box 5 0),(4,.box 4 0)],[(7,.cells 3 [(iP p)]),(6,.cells 31 (aM d)),(5,.cells 26 [(ak x)]),(4,.cells 28 [(iP s.tape.ins),(cF s.tape.ops),(cD s.tape.outs),(iP s.au),(ak s.params)])]⟩) .nil,
  .s (Sp.upto (B2 s x d p N) 0 N (by omega) (fun j hj hltj=>by
    have hbj:=hbs j (by omega);obtain⟨hne,hnh⟩:=hw j (by omega);have hb2:=oh hx (show 1<=p by omega) (show p<=4096 by omega) hne;exact aB (chain [tT 37 ((j:Int)<10) (by omega),.c (rN _ _ _ _ _ h hx hd h0 hbj hp1 hp2:ae 66 [(a7 s),(ak x),(ag d),(ak (b8 s x d p j)),(iP p)] _),
     tB 46 (qE hne:((((ca s x d (b8 s x d p j) p).length:Nat):Int)==0)=false),
     .c (ny _ _ _ _ _ h hx hd h0 hb2 hp1 hp2:ae 23 [(a7 s),(ak x),(ag d),(ak (ca s x d (b8 s x d p j) p)),(iP p)] _),tB 52 (hnh:(fS s x d (ca s x d (b8 s x d p j) p) p)=false),
     ar ((j:Int)+1) (by omega)] <| .e (chain [.o 14 (.e (.of_eq rfl):PV.le (.e (ak (ca s x d (b8 s x d p j) p))) (.e (ak (b8 s x d p (j+1)))))] <| .nil)) (by kernel_rfl))
  (fun hj=>by
    have hbj:=hbs N (Nat.le_refl _);exact aB (chain [tT 37 ((N:Int)<10) (by omega),.c (rN _ _ _ _ _ h hx hd h0 hbj hp1 hp2:ae 66 [(a7 s),(ak x),(ag d),(ak (b8 s x d p N)),(iP p)] _),
    tB 46 (by rw[hN];rfl:((((ca s x d (b8 s x d p N) p).length:Nat):Int)==0)=true)] <| .nil) (by kernel_rfl)) (by nofun):bA 13 Tryz.f26 (B2 s x d p N 0) (.exit 2) ⟨55,true,[],[]⟩) (chain [.o 14 (.e (.of_eq rfl):PV.le (.e (ak x)) (.e (ak (b8 s x d p 0))))] <| .nil)] <| .nil) (by kernel_rfl)
theorem KT(s:bQ)(x:List Iv)(d:Dy)(p:Nat)(h:c9 s)(hx:bM s.au x)(hd:d.Valid)(h0:0<d.sign)(hp1:8<=p)(hp2:p<=512)(hlo:∀ k:Nat,k<24->e9 s x d p ((k:Int)-20)=false)(hbs:∀ j,j<=10->bM s.au (b8 s x d p j))(hw:∀ j,j<10->ca s x d (b8 s x d p j) p≠[]/\fS s x d (ca s x d (b8 s x d p j) p) p=false):ae 26 [(a7 s),(ak x),(ag d),(iP p)] (.aq [.v (.slice none 0 0),iP 12]):=by
 exact tr true Tryz.call26 Tryz.func26 (chain [.c (ky _ _ _ _ h hx hd h0 hp1 hp2:ae 41 [(a7 s),(ak x),(ag d),(iP p)] _),
  .s (Sp.upto (BZ s x d p) 0 24 (by omega) (fun k hk hltk=>by
    exact aB (chain [tT 23 ((k:Int)<24) (by omega),ar ((k:Int)-20) (by omega),
     .c (pT _ _ _ _ h hx hd h0 hp1 hp2 _ (by omega) (by omega):ae 64 [(iP ((k:Int)-20)),(.ref 1 fun j_=>[(ak x)].getD j_ .any),(.ref 5 fun j_=>[(iP s.tape.ins),(cF s.tape.ops),(cD s.tape.outs),(iP s.au),(ak s.params)].getD j_ .any),(.ref 3 fun j_=>[(bP d.neg),(ah (af d.m)),(iP d.e)].getD j_ .any),(.ref 1 fun j_=>[(iP p)].getD j_ .any)] _),
     tB 31 (hlo k (by omega):(e9 s x d p ((k:Int)-20))=false),ar ((k:Int)+1) (by omega)] <| .nil) (by kernel_rfl))
  (fun hk=>by
    exact aB (chain [tB 23 (by decide:(decide ((24:Int)<24))=false)] <| .nil) (by kernel_rfl)) (by nofun):bA 5 Tryz.f26 (BZ s x d p 0) (.exit 0) ⟨55,true,[(7,.box 7 0),(6,.box 6 0),(5,.box 5 0),(4,.box 4 0)],[(7,.cells 3 [(iP p)]),(6,.cells 31 (aM d)),(5,.cells 26 [(ak x)]),(4,.cells 28 [(iP s.tape.ins),(cF s.tape.ops),(cD s.tape.outs),(iP s.au),(ak s.params)])]⟩) .nil,
  .s (Sp.upto (B3 s x d p) 0 10 (by omega) (fun j hj hltj=>by
    have hbj:=hbs j (by omega);obtain⟨hne,hnh⟩:=hw j (by omega);have hb2:=oh hx (show 1<=p by omega) (show p<=4096 by omega) hne;exact aB (chain [tT 37 ((j:Int)<10) (by omega),.c (rN _ _ _ _ _ h hx hd h0 hbj hp1 hp2:ae 66 [(a7 s),(ak x),(ag d),(ak (b8 s x d p j)),(iP p)] _),
     tB 46 (qE hne:((((ca s x d (b8 s x d p j) p).length:Nat):Int)==0)=false),
     .c (ny _ _ _ _ _ h hx hd h0 hb2 hp1 hp2:ae 23 [(a7 s),(ak x),(ag d),(ak (ca s x d (b8 s x d p j) p)),(iP p)] _),tB 52 (hnh:(fS s x d (ca s x d (b8 s x d p j) p) p)=false),
     ar ((j:Int)+1) (by omega)] <| .e (chain [.o 14 (.e (.of_eq rfl):PV.le (.e (ak (ca s x d (b8 s x d p j) p))) (.e (ak (b8 s x d p (j+1)))))] <| .nil)) (by kernel_rfl))
  (fun hj=>by
    exact aB (chain [tB 37 (by decide:(decide ((10:Int)<10))=false)] <| .nil) (by kernel_rfl)) (by nofun):bA 13 Tryz.f26 (B3 s x d p 0) (.exit 2) ⟨55,true,[],[]⟩) (chain [.o 14 (.e (.of_eq rfl):PV.le (.e (ak x)) (.e (ak (b8 s x d p 0))))] <| .nil)] <| .nil) (by kernel_rfl)
open Go.RowKit Fp Pu
def B0(s:bQ)(x:List Iv)(d:Dy)(p:Nat)(k:Nat):PS:=⟨55,true,[(22,.e (iP k)),(10,.gy 64 [(.box 5),(.box 4),(.box 6),(.box 7)]),(7,.box 7 0),(6,.box 6 0),(5,.box 5 0),(4,.box 4 0)],[(7,.cells 3 [(iP p)]),(6,.cells 31 (aM d)),(5,.cells 26 [(ak x)]),(4,.cells 28 [(iP s.tape.ins),(cF s.tape.ops),(cD s.tape.outs),(iP s.au),(ak s.params)])]⟩
noncomputable def B4(s:bQ)(x:List Iv)(d:Dy)(p:Nat)(N:Nat)(j:Nat):PS:=⟨55,true,[(36,.e (iP j)),(14,.e (ak (b8 s x d p j))),(7,.box 7 0),(6,.box 6 0),(5,.box 5 0),(4,.box 4 0)],[(7,.cells 3 [(iP p)]),(6,.cells 31 (aM d)),(5,.cells 26 [(ak x)]),(4,.cells 28 [(iP s.tape.ins),(cF s.tape.ops),(cD s.tape.outs),(iP s.au),(ak s.params)])]⟩
theorem KU(s:bQ)(x:List Iv)(d:Dy)(p:Nat)(h:c9 s)(hx:bM s.au x)(hd:d.Valid)(h0:0<d.sign)(hp1:8<=p)(hp2:p<=512)(hlo:∀ k:Nat,k<24->e9 s x d p ((k:Int)-20)=false)(N:Nat)(hN0:N<10)(hbs:∀ j,j<=N->bM s.au (b8 s x d p j))(hw:∀ j,j<N->ca s x d (b8 s x d p j) p≠[]/\fS s x d (ca s x d (b8 s x d p j) p) p=false)(hne:ca s x d (b8 s x d p N) p≠[])(hN:fS s x d (ca s x d (b8 s x d p N) p) p=true):ae 26 [(a7 s),(ak x),(ag d),(iP p)] (.aq [ak (ca s x d (b8 s x d p N) p),iP 0]):=by
 have hbN:=hbs N (Nat.le_refl _);have hb2:=oh hx (show 1<=p by omega) (show p<=4096 by omega) hne;exact tr true Tryz.call26 Tryz.func26 (chain [.c (ky s x d p h hx hd h0 hp1 hp2),
  .s (Sp.upto (B0 s x d p) 0 24 (by omega) (fun k hk hltk=>by
    exact aB (chain [tT 23 ((k:Int)<24) (by omega),ar ((k:Int)-20) (by omega),
     .c (pT _ _ _ _ h hx hd h0 hp1 hp2 _ (by omega) (by omega):ae 64 [(iP ((k:Int)-20)),(.ref 1 fun j_=>[(ak x)].getD j_ .any),(.ref 5 fun j_=>[(iP s.tape.ins),(cF s.tape.ops),(cD s.tape.outs),(iP s.au),(ak s.params)].getD j_ .any),(.ref 3 fun j_=>[(bP d.neg),(ah (af d.m)),(iP d.e)].getD j_ .any),(.ref 1 fun j_=>[(iP p)].getD j_ .any)] _),
     tB 31 (hlo k (by omega):(e9 s x d p ((k:Int)-20))=false),ar ((k:Int)+1) (by omega)] <| .nil) (by kernel_rfl))
  (fun hk=>by
    exact aB (chain [tB 23 (by decide:(decide ((24:Int)<24))=false)] <| .nil) (by kernel_rfl)) (by nofun):bA 5 Tryz.f26 (B0 s x d p 0) (.exit 0) ⟨55,true,[(7,.box 7 0),(6,.box 6 0),(5,.box 5 0),(4,.box 4 0)],[(7,.cells 3 [(iP p)]),(6,.cells 31 (aM d)),(5,.cells 26 [(ak x)]),(4,.cells 28 [(iP s.tape.ins),(cF s.tape.ops),(cD s.tape.outs),(iP s.au),(ak s.params)])]⟩) .nil,
  .s (Sp.upto (B4 s x d p N) 0 N (by omega) (fun j hj hltj=>by
    have hbj:=hbs j (by omega);obtain⟨hne,hnh⟩:=hw j (by omega);have hb2:=oh hx (show 1<=p by omega) (show p<=4096 by omega) hne;exact aB (chain [tT 37 ((j:Int)<10) (by omega),.c (rN s x d (b8 s x d p j) p h hx hd h0 hbj hp1 hp2),tB 46 (qE hne:((((ca s x d (b8 s x d p j) p).length:Nat):Int)==0)=false),
     .c (ny s x d (ca s x d (b8 s x d p j) p) p h hx hd h0 hb2 hp1 hp2),tB 52 (hnh:(fS s x d (ca s x d (b8 s x d p j) p) p)=false),ar ((j:Int)+1) (by omega)] <| .e (chain [.o 14 (.e (.of_eq rfl):PV.le (.e (ak (ca s x d (b8 s x d p j) p))) (.e (ak (b8 s x d p (j+1)))))] <| .nil)) (by kernel_rfl))
  (fun hj=>by
    have hbj:=hbs N (Nat.le_refl _);have hb2:=oh hx (show 1<=p by omega) (show p<=4096 by omega) hne;exact aB (chain [tT 37 ((N:Int)<10) (by omega),.c (rN s x d (b8 s x d p N) p h hx hd h0 hbj hp1 hp2),tB 46 (qE hne:((((ca s x d (b8 s x d p N) p).length:Nat):Int)==0)=false),
    .c (ny s x d (ca s x d (b8 s x d p N) p) p h hx hd h0 hb2 hp1 hp2),tB 52 (hN:(fS s x d (ca s x d (b8 s x d p N) p) p)=true)] <| .nil) (by kernel_rfl)) (by nofun):bA 13 Tryz.f26 (B4 s x d p N 0) .ret ⟨55,true,[(9,.e (iP 0)),(8,.e (ak (ca s x d (b8 s x d p N) p)))],[]⟩) (chain [.o 14 (.e (.of_eq rfl):PV.le (.e (ak x)) (.e (ak (b8 s x d p 0))))] <| .nil)] <| .nil) (by kernel_rfl)
def B5:Option (List Iv)->E
 | some b=>.aq [ak b,iP 0]
 | none=>.aq [.v (.slice none 0 0),iP 12]
theorem B6(s:bQ)(x:List Iv)(d:Dy)(p:Nat)(h:c9 s)(hx:bM s.au x)(hd:d.Valid)(h0:0<d.sign)(hp1:8<=p)(hp2:p<=512):∃ o,ae 26 [(a7 s),(ak x),(ag d),(iP p)] (B5 o)/\(∀ b,o=some b->bM s.au b/\fS s x d b p=true)/\(o=none->∀ k:Nat,k<24->e9 s x d p ((k:Int)-20)=false):=by
 have p1:1<=p:=by omega
 have p2:p<=4096:=by omega
 by_cases ha:∃ N:Nat,N<24/\e9 s x d p ((N:Int)-20)=true
 .obtain ⟨N,n1,n2,n3⟩:=gG (p:=fun N=>e9 s x d p ((N:Int)-20)) ha
  refine⟨some _,B7 s x d p h hx hd h0 hp1 hp2 N n1 (fun k hk=>n3 k hk) n2,fun b hb=>?_,fun q=>by cases q⟩;cases hb;have n4:=n2;unfold e9 at n4;rw[Bool.and_eq_true]at n4;exact⟨wN hx (zg (k:=(N:Int)-20) (by omega) (by omega)) (FM (zf _)) n4.1,n4.2⟩
 .have hlo:∀ k:Nat,k<24->e9 s x d p ((k:Int)-20)=false:=fun k hk=>by
   cases hc:e9 s x d p ((k:Int)-20)with
   | false=>rfl
   | true=>exact absurd ⟨k,hk,hc⟩ ha
  have hbs:∀ N,(∀ j,j<N->ca s x d (b8 s x d p j) p≠[])->∀ j,j<=N->bM s.au (b8 s x d p j):=fun N hne j hj=>by
   rcases j with _|j
   .exact hx
   .exact oh hx p1 p2 (hne j (by omega))
  by_cases h10:∃ N:Nat,N<10/\decide (ca s x d (b8 s x d p N) p=[]\/fS s x d (ca s x d (b8 s x d p N) p) p=true)=true
  .obtain ⟨N,n1,n2,n3⟩:=gG h10
   have hw:∀ j,j<N->ca s x d (b8 s x d p j) p≠[]/\fS s x d (ca s x d (b8 s x d p j) p) p=false:=fun j hj=>by
    have:=of_decide_eq_false (n3 j hj);exact⟨fun q=>this (.inl q),Bool.eq_false_iff.2 fun q=>this (.inr q)⟩
   have hb:=hbs N fun j hj=>(hw j hj).1
   by_cases he:ca s x d (b8 s x d p N) p=[]
   .exact ⟨none,KV s x d p h hx hd h0 hp1 hp2 hlo N n1 hb hw he,(fun b q=>by cases q),fun _=>hlo⟩
   .have hN:=(of_decide_eq_true n2).resolve_left he
    refine⟨some _,KU s x d p h hx hd h0 hp1 hp2 hlo N n1 hb hw he hN,fun b q=>?_,fun q=>by cases q⟩;cases q;exact⟨oh hx p1 p2 he,hN⟩
  .have hw:∀ j,j<10->ca s x d (b8 s x d p j) p≠[]/\fS s x d (ca s x d (b8 s x d p j) p) p=false:=fun j hj =>
    ⟨fun q=>h10 ⟨j,hj,decide_eq_true (.inl q)⟩,Bool.eq_false_iff.2 fun q=>h10 ⟨j,hj,decide_eq_true (.inr q)⟩⟩
   exact⟨none,KT s x d p h hx hd h0 hp1 hp2 hlo (hbs 10 fun j hj=>(hw j hj).1) hw,(fun b q=>by cases q),fun _=>hlo⟩
open Go.RowKit Fp Pu
structure eo where
 kind:Int
 a:Int
 b:Int
 n:Int
 cn:Int
 cd:Int
structure bk where
 ins:Int
 ops:List eo
 outs:List Int
 au:Int
 params:List RI
def b6:eo:=⟨0,0,0,0,0,0⟩
def lK(o:eo):List E:=[iP o.kind,iP o.a,iP o.b,iP o.n,iP o.cn,iP o.cd]
def gp(o:eo):E:=.agg (lK o)
def bJ(l:List eo):E:=.sl true l.length 6 fun i j=>(lK (l.getD i b6)).getD j .any
def bN(l:List Int):E:=.sl true l.length 1 fun i _=>iP (l.getD i 0)
def yG(s:bk):List E:=[iP s.ins,bJ s.ops,bN s.outs,iP s.au,bE s.params]
def cj(s:bk):E:=.agg (yG s)
structure eo.Good(o:eo):Prop where
 kind:bF .i64 o.kind
 a:bF .i64 o.a
 b:bF .i64 o.b
 n:bF .i64 o.n
 cn:bF .i64 o.cn
 cd:bF .i64 o.cd
structure bk.Good(s:bk):Prop where
 ins:bF .i64 s.ins
 ops:∀ i,(s.ops.getD i b6).Good
 outs:∀ i,bF .i64 (s.outs.getD i 0)
 au:bF .i64 s.au
 params:∀ i,(s.params.getD i aR).Good
structure bk.Small(s:bk):Prop where
 ops:s.ops.length<=1000
 outs:s.outs.length<=1000
 params:s.params.length<=1000
def aL(o:eo)(m:Int):Bool :=
 if o.kind=1 then dp o.cn o.cd&&decide (o.a=0/\o.b=0/\o.n=0)
 else if 3<=o.kind/\o.kind<=6 then decide (o.cn=0/\o.cd=0/\0<=o.a/\o.a<m/\0<=o.b/\o.b<m/\o.n=0)
 else if o.kind=8 then decide (o.cn=0/\o.cd=0/\0<=o.a/\o.a<m/\o.b=0/\0<=o.n/\o.n<=16)
 else if o.kind=7\/9<=o.kind/\o.kind<=13 then decide (o.cn=0/\o.cd=0/\0<=o.a/\o.a<m/\o.b=0/\o.n=0)
 else false
def yB(s:bk):Bool:=(List.range s.ops.length).all fun i=>aL (s.ops.getD i b6) (s.ins+(i:Int))
def kF(s:bk)(k:Int):Bool:=decide (0<=k/\k<s.ins+(s.ops.length:Int))
def kJ(s:bk):Bool:=(List.range s.outs.length).all fun i=>kF s (s.outs.getD i 0)
noncomputable def dE(x:RI):Bool:=okB x && !x.all
noncomputable def pD(s:bk):Bool:=(List.range s.params.length).all fun i=>dE (s.params.getD i aR)
noncomputable def cU(s:bk):Bool:=decide (0<=s.ins/\s.ins<=8/\s.ops.length<=200/\s.outs.length<=200)&&yB s&&kJ s
 && decide (1<=s.au/\s.au<=4/\(s.outs.length:Int)=s.au/\s.ins=s.au+(s.params.length:Int)/\s.params.length<=4)&&pD s
noncomputable def gP(n:Int)(b:List RI):Bool:=decide ((b.length:Int)=n)&&(List.range b.length).all fun i=>dE (b.getD i aR)
noncomputable def kI(d:RD):Bool:=@decide d.Ok (Classical.propDecidable _)
theorem jI{d:RD}:kI d=true↔d.Ok:=@decide_eq_true_iff _ (Classical.propDecidable _)
noncomputable def dg(s:bk)(x:List RI)(h:RD)(p:Int):Bool:=cU s&&gP s.au x&&kI h&&decide (0<h.dy.sign)&&decide (8<=p/\p<=512)
theorem pS{n:Nat}{f:Nat->Bool}(h:¬(List.range n).all f=true):∃ N,N<n/\(!f N)=true/\∀ k,k<N->(!f k)=false:=by
 refine gG ?_;apply Classical.byContradiction;intro q;apply h;refine List.all_eq_true.2 fun i hi=>?_
 cases hf:f i with
 | true=>rfl
 | false=>exact absurd ⟨i,List.mem_range.1 hi,by rw[hf];rfl⟩ q
theorem Ah{n:Nat}{f:Nat->Bool}:((List.range n).any fun i=>!f i) = !((List.range n).all f):=by
 rw[Bool.eq_iff_iff];simp
theorem Rt{s:bk}(h:¬(0<=s.ins/\s.ins<=8/\s.ops.length<=200/\s.outs.length<=200/\1<=s.au/\s.au<=4/\(s.outs.length:Int)=s.au/\s.params.length<=4/\s.ins=s.au+(s.params.length:Int))):cU s=false:=by
 refine Bool.eq_false_iff.2 fun q=>h ?_
 unfold cU at q;simp only[Bool.and_eq_true,decide_eq_true_eq]at q;obtain⟨⟨⟨⟨a,_⟩,_⟩,b⟩,_⟩:=q;exact⟨a.1,a.2.1,a.2.2.1,a.2.2.2,b.1,b.2.1,b.2.2.1,b.2.2.2.2,b.2.2.2.1⟩
def eo.v(o:eo):dH:=⟨o.kind.toNat,o.a.toNat,o.b.toNat,o.n.toNat,o.cn,o.cd⟩
def bk.v(s:bk):bQ:=⟨⟨s.ins.toNat,s.ops.map eo.v,s.outs.map Int.toNat⟩,s.au.toNat,s.params.map RI.iv⟩
theorem dG.of{k a b n m:Nat}{cn cd:Int}(k3:k=1\/3<=k)(qy:k<=13)(ha:k=1->a=0)(ha':¬k=1->a<m)(hb:3<=k/\k<=6->b<m)(hb':¬(3<=k/\k<=6)->b=0)
  (hn:k=8->n<=16) (hn':¬k=8->n=0) (hc:k=1->dp cn cd=true) (hc':¬k=1->cn=0/\cd=0):dG ⟨k,a,b,n,cn,cd⟩ m:=by
 refine⟨k3,qy,?_,?_,?_,?_⟩
 .show if k=1 then a=0 else a<m
  split<;>simp_all
 .show if 3<=k/\k<=6 then b<m else b=0
  split
  .rename_i h;exact hb h
  .rename_i h;exact hb' h
 .show if k=8 then n<=16 else n=0
  split
  .rename_i h;exact hn h
  .rename_i h;exact hn' h
 .show if k=1 then dp cn cd=true else cn=0/\cd=0
  split
  .rename_i h;exact hc h
  .rename_i h;exact hc' h
theorem Rf{o:eo}{m:Nat}(h:aL o (m:Int)=true):dG o.v m/\0<=o.kind/\0<=o.a/\0<=o.b/\0<=o.n:=by
 obtain⟨k,a,b,n,cn,cd⟩:=o;unfold aL at h;simp only at h;show dG ⟨k.toNat,a.toNat,b.toNat,n.toNat,cn,cd⟩ m/\0<=k/\0<=a/\0<=b/\0<=n;split at h
 .rename_i hk
  rw[Bool.and_eq_true,decide_eq_true_eq]at h;obtain⟨hr,h1,h2,h3⟩:=h;exact⟨dG.of (by omega) (by omega) (by omega) (by omega) (by omega) (by omega) (by omega) (by omega) (fun _=>hr) (by omega),by omega,by omega,by omega,by omega⟩
 .rename_i hk1
  split at h
  .rename_i hk
   have h:=of_decide_eq_true h;exact⟨dG.of (by omega) (by omega) (by omega) (by omega) (by omega) (by omega) (by omega) (by omega) (by omega) (by omega),by omega,by omega,by omega,by omega⟩
  .split at h
   .rename_i hk
    have h:=of_decide_eq_true h;exact⟨dG.of (by omega) (by omega) (by omega) (by omega) (by omega) (by omega) (by omega) (by omega) (by omega) (by omega),by omega,by omega,by omega,by omega⟩
   .split at h
    .rename_i hk8 hk
     have h:=of_decide_eq_true h;exact⟨dG.of (by omega) (by omega) (by omega) (by omega) (by omega) (by omega) (by omega) (by omega) (by omega) (by omega),by omega,by omega,by omega,by omega⟩
    .cases h
theorem Rh{o:eo}(h1:0<=o.kind)(h2:0<=o.a)(h3:0<=o.b)(h4:0<=o.n):tS o.v=lK o:=by
 obtain⟨k,a,b,n,cn,cd⟩:=o;simp only[tS,lK,eo.v]at *
 rw[Int.toNat_of_nonneg h1,Int.toNat_of_nonneg h2,Int.toNat_of_nonneg h3,Int.toNat_of_nonneg h4]
theorem Ru{s:bk}(g:s.Good)(h:cU s=true):c9 s.v/\cj s=a7 s.v:=by
 unfold cU at h;simp only[Bool.and_eq_true,decide_eq_true_eq]at h;obtain⟨⟨⟨⟨⟨i0,i8,l1,l2⟩,ho⟩,hu⟩,s1,s4,e1,e2,p4⟩,hp⟩:=h;have ho:=List.all_eq_true.1 ho;have hu:=List.all_eq_true.1 hu;have hp:=List.all_eq_true.1 hp;have opAt:∀ i,i<s.ops.length->(s.ops.map eo.v).getD i aZ=(s.ops.getD i b6).v:=fun i hi=>by simp[List.getD_eq_getElem?_getD,hi]
 have ouAt:∀ i,i<s.outs.length->(s.outs.map Int.toNat).getD i 0=(s.outs.getD i 0).toNat:=fun i hi=>by simp[List.getD_eq_getElem?_getD,hi]
 have paAt:∀ i,i<s.params.length->(s.params.map RI.iv).getD i an=(s.params.getD i aR).iv:=fun i hi=>by simp[List.getD_eq_getElem?_getD,hi]
 have op:∀ i,i<s.ops.length->dG (s.ops.getD i b6).v (s.ins.toNat+i)/\0<=(s.ops.getD i b6).kind/\0<=(s.ops.getD i b6).a/\0<=(s.ops.getD i b6).b/\0<=(s.ops.getD i b6).n:=fun i hi=>by
  have:=ho i (List.mem_range.2 hi);exact Rf (by rwa[show((s.ins.toNat+i:Nat):Int)=s.ins+(i:Int)by omega])
 have ou:∀ i,i<s.outs.length->0<=s.outs.getD i 0/\s.outs.getD i 0<s.ins+(s.ops.length:Int):=fun i hi=>of_decide_eq_true (hu i (List.mem_range.2 hi))
 have pa:∀ i,i<s.params.length->(s.params.getD i aR).Ok/\(s.params.getD i aR).all=false:=fun i hi=>by
  have:=hp i (List.mem_range.2 hi);unfold dE at this;rw[Bool.and_eq_true]at this;exact⟨im.1 this.1,by simpa using this.2⟩
 refine⟨⟨⟨?_,?_,?_,?_,?_⟩,?_,?_,?_,?_,?_,?_⟩,?_⟩
 .show s.ins.toNat<=8;omega
 .show (s.ops.map eo.v).length<=200;rw[List.length_map];exact l1
 .show (s.outs.map Int.toNat).length<=200;rw[List.length_map];exact l2
 .intro i hi
  have hi:i<s.ops.length:=by simpa[bk.v]using hi
  show dG ((s.ops.map eo.v).getD i aZ) (s.ins.toNat+i);rw[opAt i hi];exact(op i hi).1
 .intro i hi
  have hi:i<s.outs.length:=by simpa[bk.v]using hi
  show(s.outs.map Int.toNat).getD i 0<s.ins.toNat+(s.ops.map eo.v).length;rw[ouAt i hi,List.length_map];have:=ou i hi;omega
 .show 1<=s.au.toNat;omega
 .show s.au.toNat<=4;omega
 .show (s.outs.map Int.toNat).length=s.au.toNat;rw[List.length_map];omega
 .show s.ins.toNat=s.au.toNat+(s.params.map RI.iv).length;rw[List.length_map];omega
 .show (s.params.map RI.iv).length<=4;rw[List.length_map];exact p4
 .intro i hi
  have hi:i<s.params.length:=by simpa[bk.v]using hi
  show((s.params.map RI.iv).getD i an).Valid/\((s.params.map RI.iv).getD i an).all=false;rw[paAt i hi];exact⟨(pa i hi).1.valid,(pa i hi).2⟩
 .have e1:iP s.ins=iP ((s.ins.toNat:Nat):Int):=by rw[Int.toNat_of_nonneg i0]
  have e2:iP s.au=iP ((s.au.toNat:Nat):Int):=by rw[Int.toNat_of_nonneg (show 0<=s.au by omega)]
  have e3:bJ s.ops=cF (s.ops.map eo.v):=by
   unfold bJ cF;rw[List.length_map];congr 1;funext i j;by_cases hi:i<s.ops.length
   .rw [opAt i hi]
    obtain⟨_,h1,h2,h3,h4⟩:=op i hi;rw[Rh h1 h2 h3 h4]
   .have a1:s.ops.getD i b6=b6:=by rw[List.getD_eq_getElem?_getD,List.getElem?_eq_none (by omega)];rfl
    have a2:(s.ops.map eo.v).getD i aZ=aZ:=by rw[List.getD_eq_getElem?_getD,List.getElem?_eq_none (by rw[List.length_map];omega)];rfl
    rw[a1,a2];rfl
  have e4:bN s.outs=cD (s.outs.map Int.toNat):=by
   unfold bN cD;rw[List.length_map];congr 1;funext i j;by_cases hi:i<s.outs.length
   .rw [ouAt i hi,Int.toNat_of_nonneg (ou i hi).1]
   .rw [List.getD_eq_getElem?_getD,List.getElem?_eq_none (by omega),List.getD_eq_getElem?_getD (l:=s.outs.map Int.toNat),List.getElem?_eq_none (by rw[List.length_map];omega)]
    rfl
  have e5:bE s.params=ak (s.params.map RI.iv):=by
   rw[<-C6];congr 1;apply List.ext_getElem?;intro i;unfold nU;rw[List.getElem?_map,List.getElem?_map];by_cases hi:i<s.params.length
   .have h1:=(pa i hi).1
    have g1:=g.params i;rw[List.getElem?_eq_getElem hi];rw[List.getD_eq_getElem?_getD,List.getElem?_eq_getElem hi]at h1 g1;exact congrArg some (RI.Ok.eq (x:=s.params[i]) h1 g1).symm
   .rw [List.getElem?_eq_none (by omega)];rfl
  show E.agg [iP s.ins,bJ s.ops,bN s.outs,iP s.au,bE s.params]=_;rw[e1,e2,e3,e4,e5];rfl
open Go.RowKit Fp Pu
def Fm(s:bk)(N:Nat)(x:Nat):PS:=⟨85,true,[(31,.e (iP x)),(30,.e (iP s.ops.length)),(29,.e (bJ s.ops)),(3,.box 3 0),(1,.box 1 0)],[(3,.cells 25 [(iP s.ins),(bJ s.ops),(bN s.outs)]),(1,.cells 28 [(iP s.ins),(bJ s.ops),(bN s.outs),(iP s.au),(bE s.params)])]⟩
def Fo(s:bk)(x:Nat):PS:=⟨85,true,[(31,.e (iP x)),(30,.e (iP s.ops.length)),(29,.e (bJ s.ops)),(3,.box 3 0),(1,.box 1 0)],[(3,.cells 25 [(iP s.ins),(bJ s.ops),(bN s.outs)]),(1,.cells 28 [(iP s.ins),(bJ s.ops),(bN s.outs),(iP s.au),(bE s.params)])]⟩
def Fq(s:bk)(x:Nat):PS:=⟨85,true,[(31,.e (iP x)),(30,.e (iP s.ops.length)),(29,.e (bJ s.ops)),(3,.box 3 0),(1,.box 1 0)],[(3,.cells 25 [(iP s.ins),(bJ s.ops),(bN s.outs)]),(1,.cells 28 [(iP s.ins),(bJ s.ops),(bN s.outs),(iP s.au),(bE s.params)])]⟩
def Fs(s:bk)(x:Nat):PS:=⟨85,true,[(31,.e (iP x)),(30,.e (iP s.ops.length)),(29,.e (bJ s.ops)),(3,.box 3 0),(1,.box 1 0)],[(3,.cells 25 [(iP s.ins),(bJ s.ops),(bN s.outs)]),(1,.cells 28 [(iP s.ins),(bJ s.ops),(bN s.outs),(iP s.au),(bE s.params)])]⟩
theorem bV{a b:Bool}(h:a=true↔b=true):a=b:=Bool.eq_iff_iff.2 h
theorem bL{a b:Bool}(h:a=b):bP a=bP b:=h▸rfl
theorem qV(o:eo)(m:Int)(g:o.Good):ae 133 [(gp o),(iP m)] (bP (aL o m)):=by
 exact tr true Tryz.call133 Tryz.func133 (.w (o.a<0)
  (fun k1=>chain [tB 8 (decide_eq_true k1)]<|rQ (bP false) (bP (aL o m)) (bL (by simp_all[aL,cN]<;>(repeat' split)<;>intros<;>omega)))
  (fun k1=>chain [tB 8 (decide_eq_false k1)] <| .w (o.b<0)
   (fun k2=>chain [tB 12 (decide_eq_true k2)]<|rQ (bP false) (bP (aL o m)) (bL (by simp_all[aL,cN]<;>(repeat' split)<;>intros<;>omega)))
   (fun k2=>chain [tB 12 (decide_eq_false k2),.g (Ei g.cn g.cd rfl:eH Tryz.prog .eql 97 (.agg [(iP o.cn),(iP o.cd)]) (.agg [(iP 0),(iP 0)]) (.bool (decide (o.cn=0/\o.cd=0))))] <| .w (o.kind=1)
    (fun k3=>chain [tB 21 (beq_iff_eq.2 k3),.c (tY o.cn o.cd)] <| .w (dp o.cn o.cd=true)
     (fun k4=>chain [tB 24 (k4)] <| .w (o.a=0)
      (fun k5=>chain [tB 28 (beq_iff_eq.2 k5)] <| .w (o.b=0)
       (fun k6=>chain [tB 33 (beq_iff_eq.2 k6)]<|rQ (bP (o.n==0)) (bP (aL o m)) (bL (by simp_all[aL,cN]<;>(repeat' split)<;>intros<;>omega)))
       (fun k6=>chain [tB 33 (beq_eq_false_iff_ne.2 k6)]<|rQ (bP false) (bP (aL o m)) (bL (by simp_all[aL,cN]<;>(repeat' split)<;>intros<;>omega))))
      (fun k5=>chain [tB 28 (beq_eq_false_iff_ne.2 k5)]<|rQ (bP false) (bP (aL o m)) (bL (by simp_all[aL,cN]<;>(repeat' split)<;>intros<;>omega))))
     (fun k4=>chain [tB 24 (Bool.eq_false_iff.2 k4)]<|rQ (bP false) (bP (aL o m)) (bL (by simp_all[aL,cN]<;>(repeat' split)<;>intros<;>omega))))
    (fun k3=>.w (3<=o.kind/\o.kind<=6)
     (fun k4=>.w (o.cn=0/\o.cd=0)
      (fun k5=>chain [tB 17 (decide_eq_true k5),tB 21 (beq_eq_false_iff_ne.2 k3),
       .j 80 ⟨111,true,[(40,.e (bP (decide (3<=o.kind/\o.kind<=6)))),(19,.e (iP o.kind)),(5,.e (bP true)),(2,.box 2 0),(1,.e (iP m))],[(2,.cells 99 [(iP o.kind),(iP o.a),(iP o.b),(iP o.n),(iP o.cn),(iP o.cd)])]⟩
   (.w (o.kind=3)
    (fun m1=>chain [.v 40 (.bool (beq_iff_eq.2 m1))] <| .e (chain [tB 40 (bV (by simp<;>omega):true=(decide (3<=o.kind/\o.kind<=6)))] <| .nil))
    (fun m1=>chain [.v 40 (.bool (beq_eq_false_iff_ne.2 m1))] <| .w (o.kind=4)
     (fun m2=>chain [tB 42 (beq_iff_eq.2 m2)] <| .e (chain [tB 40 (bV (by simp<;>omega):true=(decide (3<=o.kind/\o.kind<=6)))] <| .nil))
     (fun m2=>chain [tB 42 (beq_eq_false_iff_ne.2 m2)] <| .w (o.kind=5)
      (fun m3=>chain [tB 43 (beq_iff_eq.2 m3)] <| .e (chain [tB 40 (bV (by simp<;>omega):true=(decide (3<=o.kind/\o.kind<=6)))] <| .nil))
      (fun m3=>chain [tB 43 (beq_eq_false_iff_ne.2 m3)] <| .e (chain [tB 40 (bV (by simp<;>omega):(o.kind==6)=(decide (3<=o.kind/\o.kind<=6)))] <| .nil))))),
       .v 40 (.bool (decide_eq_true k4))] <| .w (o.a<m)
       (fun k6=>chain [tB 50 (decide_eq_true k6)] <| .w (o.b<m)
        (fun k7=>chain [tB 56 (decide_eq_true k7)]<|rQ (bP (o.n==0)) (bP (aL o m)) (bL (by simp_all[aL,cN]<;>(repeat' split)<;>intros<;>omega)))
        (fun k7=>chain [tB 56 (decide_eq_false k7)]<|rQ (bP false) (bP (aL o m)) (bL (by simp_all[aL,cN]<;>(repeat' split)<;>intros<;>omega))))
       (fun k6=>chain [tB 50 (decide_eq_false k6)]<|rQ (bP false) (bP (aL o m)) (bL (by simp_all[aL,cN]<;>(repeat' split)<;>intros<;>omega))))
      (fun k5=>chain [tB 17 (decide_eq_false k5),tB 21 (beq_eq_false_iff_ne.2 k3),
       .j 80 ⟨111,true,[(40,.e (bP (decide (3<=o.kind/\o.kind<=6)))),(19,.e (iP o.kind)),(5,.e (bP false)),(2,.box 2 0),(1,.e (iP m))],[(2,.cells 99 [(iP o.kind),(iP o.a),(iP o.b),(iP o.n),(iP o.cn),(iP o.cd)])]⟩
   (.w (o.kind=3)
    (fun m1=>chain [.v 40 (.bool (beq_iff_eq.2 m1))] <| .e (chain [tB 40 (bV (by simp<;>omega):true=(decide (3<=o.kind/\o.kind<=6)))] <| .nil))
    (fun m1=>chain [.v 40 (.bool (beq_eq_false_iff_ne.2 m1))] <| .w (o.kind=4)
     (fun m2=>chain [tB 42 (beq_iff_eq.2 m2)] <| .e (chain [tB 40 (bV (by simp<;>omega):true=(decide (3<=o.kind/\o.kind<=6)))] <| .nil))
     (fun m2=>chain [tB 42 (beq_eq_false_iff_ne.2 m2)] <| .w (o.kind=5)
      (fun m3=>chain [tB 43 (beq_iff_eq.2 m3)] <| .e (chain [tB 40 (bV (by simp<;>omega):true=(decide (3<=o.kind/\o.kind<=6)))] <| .nil))
      (fun m3=>chain [tB 43 (beq_eq_false_iff_ne.2 m3)] <| .e (chain [tB 40 (bV (by simp<;>omega):(o.kind==6)=(decide (3<=o.kind/\o.kind<=6)))] <| .nil))))),
       .v 40 (.bool (decide_eq_true k4))]<|rQ (bP false) (bP (aL o m)) (bL (by simp_all[aL,cN]<;>(repeat' split)<;>intros<;>omega))))
     (fun k4=>.w (o.kind=8)
      (fun k5=>.w (o.cn=0/\o.cd=0)
       (fun k6=>chain [tB 17 (decide_eq_true k6),tB 21 (beq_eq_false_iff_ne.2 k3),
        .j 80 ⟨111,true,[(40,.e (bP (decide (3<=o.kind/\o.kind<=6)))),(19,.e (iP o.kind)),(5,.e (bP true)),(2,.box 2 0),(1,.e (iP m))],[(2,.cells 99 [(iP o.kind),(iP o.a),(iP o.b),(iP o.n),(iP o.cn),(iP o.cd)])]⟩
   (.w (o.kind=3)
    (fun m1=>chain [.v 40 (.bool (beq_iff_eq.2 m1))] <| .e (chain [tB 40 (bV (by simp<;>omega):true=(decide (3<=o.kind/\o.kind<=6)))] <| .nil))
    (fun m1=>chain [.v 40 (.bool (beq_eq_false_iff_ne.2 m1))] <| .w (o.kind=4)
     (fun m2=>chain [tB 42 (beq_iff_eq.2 m2)] <| .e (chain [tB 40 (bV (by simp<;>omega):true=(decide (3<=o.kind/\o.kind<=6)))] <| .nil))
     (fun m2=>chain [tB 42 (beq_eq_false_iff_ne.2 m2)] <| .w (o.kind=5)
      (fun m3=>chain [tB 43 (beq_iff_eq.2 m3)] <| .e (chain [tB 40 (bV (by simp<;>omega):true=(decide (3<=o.kind/\o.kind<=6)))] <| .nil))
      (fun m3=>chain [tB 43 (beq_eq_false_iff_ne.2 m3)] <| .e (chain [tB 40 (bV (by simp<;>omega):(o.kind==6)=(decide (3<=o.kind/\o.kind<=6)))] <| .nil))))),
        .v 40 (.bool (decide_eq_false k4)),tB 64 (beq_iff_eq.2 k5)] <| .w (o.a<m)
        (fun k7=>chain [tB 70 (decide_eq_true k7)] <| .w (o.b=0)
         (fun k8=>chain [tB 75 (beq_iff_eq.2 k8)] <| .w (0<=o.n)
          (fun k9=>chain [tB 80 (decide_eq_true k9)]<|rQ (bP (decide (o.n<=16))) (bP (aL o m)) (bL (by simp_all[aL,cN]<;>(repeat' split)<;>intros<;>omega)))
          (fun k9=>chain [tB 80 (decide_eq_false k9)]<|rQ (bP false) (bP (aL o m)) (bL (by simp_all[aL,cN]<;>(repeat' split)<;>intros<;>omega))))
         (fun k8=>chain [tB 75 (beq_eq_false_iff_ne.2 k8)]<|rQ (bP false) (bP (aL o m)) (bL (by simp_all[aL,cN]<;>(repeat' split)<;>intros<;>omega))))
        (fun k7=>chain [tB 70 (decide_eq_false k7)]<|rQ (bP false) (bP (aL o m)) (bL (by simp_all[aL,cN]<;>(repeat' split)<;>intros<;>omega))))
       (fun k6=>chain [tB 17 (decide_eq_false k6),tB 21 (beq_eq_false_iff_ne.2 k3),
        .j 80 ⟨111,true,[(40,.e (bP (decide (3<=o.kind/\o.kind<=6)))),(19,.e (iP o.kind)),(5,.e (bP false)),(2,.box 2 0),(1,.e (iP m))],[(2,.cells 99 [(iP o.kind),(iP o.a),(iP o.b),(iP o.n),(iP o.cn),(iP o.cd)])]⟩
   (.w (o.kind=3)
    (fun m1=>chain [.v 40 (.bool (beq_iff_eq.2 m1))] <| .e (chain [tB 40 (bV (by simp<;>omega):true=(decide (3<=o.kind/\o.kind<=6)))] <| .nil))
    (fun m1=>chain [.v 40 (.bool (beq_eq_false_iff_ne.2 m1))] <| .w (o.kind=4)
     (fun m2=>chain [tB 42 (beq_iff_eq.2 m2)] <| .e (chain [tB 40 (bV (by simp<;>omega):true=(decide (3<=o.kind/\o.kind<=6)))] <| .nil))
     (fun m2=>chain [tB 42 (beq_eq_false_iff_ne.2 m2)] <| .w (o.kind=5)
      (fun m3=>chain [tB 43 (beq_iff_eq.2 m3)] <| .e (chain [tB 40 (bV (by simp<;>omega):true=(decide (3<=o.kind/\o.kind<=6)))] <| .nil))
      (fun m3=>chain [tB 43 (beq_eq_false_iff_ne.2 m3)] <| .e (chain [tB 40 (bV (by simp<;>omega):(o.kind==6)=(decide (3<=o.kind/\o.kind<=6)))] <| .nil))))),
        .v 40 (.bool (decide_eq_false k4)),tB 64 (beq_iff_eq.2 k5)]<|rQ (bP false) (bP (aL o m)) (bL (by simp_all[aL,cN]<;>(repeat' split)<;>intros<;>omega))))
      (fun k5=>.w (o.kind=7\/9<=o.kind/\o.kind<=13)
       (fun k6=>.w (o.cn=0/\o.cd=0)
        (fun k7=>chain [tB 17 (decide_eq_true k7),tB 21 (beq_eq_false_iff_ne.2 k3),
         .j 80 ⟨111,true,[(40,.e (bP (decide (3<=o.kind/\o.kind<=6)))),(19,.e (iP o.kind)),(5,.e (bP true)),(2,.box 2 0),(1,.e (iP m))],[(2,.cells 99 [(iP o.kind),(iP o.a),(iP o.b),(iP o.n),(iP o.cn),(iP o.cd)])]⟩
   (.w (o.kind=3)
    (fun m1=>chain [.v 40 (.bool (beq_iff_eq.2 m1))] <| .e (chain [tB 40 (bV (by simp<;>omega):true=(decide (3<=o.kind/\o.kind<=6)))] <| .nil))
    (fun m1=>chain [.v 40 (.bool (beq_eq_false_iff_ne.2 m1))] <| .w (o.kind=4)
     (fun m2=>chain [tB 42 (beq_iff_eq.2 m2)] <| .e (chain [tB 40 (bV (by simp<;>omega):true=(decide (3<=o.kind/\o.kind<=6)))] <| .nil))
     (fun m2=>chain [tB 42 (beq_eq_false_iff_ne.2 m2)] <| .w (o.kind=5)
      (fun m3=>chain [tB 43 (beq_iff_eq.2 m3)] <| .e (chain [tB 40 (bV (by simp<;>omega):true=(decide (3<=o.kind/\o.kind<=6)))] <| .nil))
      (fun m3=>chain [tB 43 (beq_eq_false_iff_ne.2 m3)] <| .e (chain [tB 40 (bV (by simp<;>omega):(o.kind==6)=(decide (3<=o.kind/\o.kind<=6)))] <| .nil))))),
         .v 40 (.bool (decide_eq_false k4)),tB 64 (beq_eq_false_iff_ne.2 k5),
         .j 174 ⟨111,true,[(87,.e (bP (decide (o.kind=7\/9<=o.kind/\o.kind<=13)))),(5,.e (bP true)),(2,.box 2 0),(1,.e (iP m))],[(2,.cells 99 [(iP o.kind),(iP o.a),(iP o.b),(iP o.n),(iP o.cn),(iP o.cd)])]⟩
   (.w (o.kind=7)
    (fun m1=>chain [.v 87 (.bool (beq_iff_eq.2 m1))] <| .e (chain [tB 87 (bV (by simp<;>omega):true=(decide (o.kind=7\/9<=o.kind/\o.kind<=13)))] <| .nil))
    (fun m1=>chain [.v 87 (.bool (beq_eq_false_iff_ne.2 m1))] <| .w (o.kind=9)
     (fun m2=>chain [tB 89 (beq_iff_eq.2 m2)] <| .e (chain [tB 87 (bV (by simp<;>omega):true=(decide (o.kind=7\/9<=o.kind/\o.kind<=13)))] <| .nil))
     (fun m2=>chain [tB 89 (beq_eq_false_iff_ne.2 m2)] <| .w (o.kind=10)
      (fun m3=>chain [tB 90 (beq_iff_eq.2 m3)] <| .e (chain [tB 87 (bV (by simp<;>omega):true=(decide (o.kind=7\/9<=o.kind/\o.kind<=13)))] <| .nil))
      (fun m3=>chain [tB 90 (beq_eq_false_iff_ne.2 m3)] <| .w (o.kind=11)
       (fun m4=>chain [tB 91 (beq_iff_eq.2 m4)] <| .e (chain [tB 87 (bV (by simp<;>omega):true=(decide (o.kind=7\/9<=o.kind/\o.kind<=13)))] <| .nil))
       (fun m4=>chain [tB 91 (beq_eq_false_iff_ne.2 m4)] <| .w (o.kind=12)
        (fun m5=>chain [tB 92 (beq_iff_eq.2 m5)] <| .e (chain [tB 87 (bV (by simp<;>omega):true=(decide (o.kind=7\/9<=o.kind/\o.kind<=13)))] <| .nil))
        (fun m5=>chain [tB 92 (beq_eq_false_iff_ne.2 m5)] <| .e (chain [tB 87 (bV (by simp<;>omega):(o.kind==13)=(decide (o.kind=7\/9<=o.kind/\o.kind<=13)))] <| .nil))))))),
         .v 87 (.bool (decide_eq_true k6))] <| .w (o.a<m)
         (fun k8=>chain [tB 99 (decide_eq_true k8)] <| .w (o.b=0)
          (fun k9=>chain [tB 104 (beq_iff_eq.2 k9)]<|rQ (bP (o.n==0)) (bP (aL o m)) (bL (by simp_all[aL,cN]<;>(repeat' split)<;>intros<;>omega)))
          (fun k9=>chain [tB 104 (beq_eq_false_iff_ne.2 k9)]<|rQ (bP false) (bP (aL o m)) (bL (by simp_all[aL,cN]<;>(repeat' split)<;>intros<;>omega))))
         (fun k8=>chain [tB 99 (decide_eq_false k8)]<|rQ (bP false) (bP (aL o m)) (bL (by simp_all[aL,cN]<;>(repeat' split)<;>intros<;>omega))))
        (fun k7=>chain [tB 17 (decide_eq_false k7),tB 21 (beq_eq_false_iff_ne.2 k3),
         .j 80 ⟨111,true,[(40,.e (bP (decide (3<=o.kind/\o.kind<=6)))),(19,.e (iP o.kind)),(5,.e (bP false)),(2,.box 2 0),(1,.e (iP m))],[(2,.cells 99 [(iP o.kind),(iP o.a),(iP o.b),(iP o.n),(iP o.cn),(iP o.cd)])]⟩
   (.w (o.kind=3)
    (fun m1=>chain [.v 40 (.bool (beq_iff_eq.2 m1))] <| .e (chain [tB 40 (bV (by simp<;>omega):true=(decide (3<=o.kind/\o.kind<=6)))] <| .nil))
    (fun m1=>chain [.v 40 (.bool (beq_eq_false_iff_ne.2 m1))] <| .w (o.kind=4)
     (fun m2=>chain [tB 42 (beq_iff_eq.2 m2)] <| .e (chain [tB 40 (bV (by simp<;>omega):true=(decide (3<=o.kind/\o.kind<=6)))] <| .nil))
     (fun m2=>chain [tB 42 (beq_eq_false_iff_ne.2 m2)] <| .w (o.kind=5)
      (fun m3=>chain [tB 43 (beq_iff_eq.2 m3)] <| .e (chain [tB 40 (bV (by simp<;>omega):true=(decide (3<=o.kind/\o.kind<=6)))] <| .nil))
      (fun m3=>chain [tB 43 (beq_eq_false_iff_ne.2 m3)] <| .e (chain [tB 40 (bV (by simp<;>omega):(o.kind==6)=(decide (3<=o.kind/\o.kind<=6)))] <| .nil))))),
         .v 40 (.bool (decide_eq_false k4)),tB 64 (beq_eq_false_iff_ne.2 k5),
         .j 174 ⟨111,true,[(87,.e (bP (decide (o.kind=7\/9<=o.kind/\o.kind<=13)))),(5,.e (bP false)),(2,.box 2 0),(1,.e (iP m))],[(2,.cells 99 [(iP o.kind),(iP o.a),(iP o.b),(iP o.n),(iP o.cn),(iP o.cd)])]⟩
   (.w (o.kind=7)
    (fun m1=>chain [.v 87 (.bool (beq_iff_eq.2 m1))] <| .e (chain [tB 87 (bV (by simp<;>omega):true=(decide (o.kind=7\/9<=o.kind/\o.kind<=13)))] <| .nil))
    (fun m1=>chain [.v 87 (.bool (beq_eq_false_iff_ne.2 m1))] <| .w (o.kind=9)
     (fun m2=>chain [tB 89 (beq_iff_eq.2 m2)] <| .e (chain [tB 87 (bV (by simp<;>omega):true=(decide (o.kind=7\/9<=o.kind/\o.kind<=13)))] <| .nil))
     (fun m2=>chain [tB 89 (beq_eq_false_iff_ne.2 m2)] <| .w (o.kind=10)
      (fun m3=>chain [tB 90 (beq_iff_eq.2 m3)] <| .e (chain [tB 87 (bV (by simp<;>omega):true=(decide (o.kind=7\/9<=o.kind/\o.kind<=13)))] <| .nil))
      (fun m3=>chain [tB 90 (beq_eq_false_iff_ne.2 m3)] <| .w (o.kind=11)
       (fun m4=>chain [tB 91 (beq_iff_eq.2 m4)] <| .e (chain [tB 87 (bV (by simp<;>omega):true=(decide (o.kind=7\/9<=o.kind/\o.kind<=13)))] <| .nil))
       (fun m4=>chain [tB 91 (beq_eq_false_iff_ne.2 m4)] <| .w (o.kind=12)
        (fun m5=>chain [tB 92 (beq_iff_eq.2 m5)] <| .e (chain [tB 87 (bV (by simp<;>omega):true=(decide (o.kind=7\/9<=o.kind/\o.kind<=13)))] <| .nil))
        (fun m5=>chain [tB 92 (beq_eq_false_iff_ne.2 m5)] <| .e (chain [tB 87 (bV (by simp<;>omega):(o.kind==13)=(decide (o.kind=7\/9<=o.kind/\o.kind<=13)))] <| .nil))))))),
         .v 87 (.bool (decide_eq_true k6))]<|rQ (bP false) (bP (aL o m)) (bL (by simp_all[aL,cN]<;>(repeat' split)<;>intros<;>omega))))
       (fun k6=>chain [tB 21 (beq_eq_false_iff_ne.2 k3),
        .j 80 ⟨111,true,[(40,.e (bP (decide (3<=o.kind/\o.kind<=6)))),(19,.e (iP o.kind)),(5,.e (bP (decide (o.cn=0/\o.cd=0)))),(2,.box 2 0),(1,.e (iP m))],[(2,.cells 99 [(iP o.kind),(iP o.a),(iP o.b),(iP o.n),(iP o.cn),(iP o.cd)])]⟩
   (.w (o.kind=3)
    (fun m1=>chain [.v 40 (.bool (beq_iff_eq.2 m1))] <| .e (chain [tB 40 (bV (by simp<;>omega):true=(decide (3<=o.kind/\o.kind<=6)))] <| .nil))
    (fun m1=>chain [.v 40 (.bool (beq_eq_false_iff_ne.2 m1))] <| .w (o.kind=4)
     (fun m2=>chain [tB 42 (beq_iff_eq.2 m2)] <| .e (chain [tB 40 (bV (by simp<;>omega):true=(decide (3<=o.kind/\o.kind<=6)))] <| .nil))
     (fun m2=>chain [tB 42 (beq_eq_false_iff_ne.2 m2)] <| .w (o.kind=5)
      (fun m3=>chain [tB 43 (beq_iff_eq.2 m3)] <| .e (chain [tB 40 (bV (by simp<;>omega):true=(decide (3<=o.kind/\o.kind<=6)))] <| .nil))
      (fun m3=>chain [tB 43 (beq_eq_false_iff_ne.2 m3)] <| .e (chain [tB 40 (bV (by simp<;>omega):(o.kind==6)=(decide (3<=o.kind/\o.kind<=6)))] <| .nil))))),
        .v 40 (.bool (decide_eq_false k4)),tB 64 (beq_eq_false_iff_ne.2 k5),
        .j 174 ⟨111,true,[(87,.e (bP (decide (o.kind=7\/9<=o.kind/\o.kind<=13)))),(5,.e (bP (decide (o.cn=0/\o.cd=0)))),(2,.box 2 0),(1,.e (iP m))],[(2,.cells 99 [(iP o.kind),(iP o.a),(iP o.b),(iP o.n),(iP o.cn),(iP o.cd)])]⟩
   (.w (o.kind=7)
    (fun m1=>chain [.v 87 (.bool (beq_iff_eq.2 m1))] <| .e (chain [tB 87 (bV (by simp<;>omega):true=(decide (o.kind=7\/9<=o.kind/\o.kind<=13)))] <| .nil))
    (fun m1=>chain [.v 87 (.bool (beq_eq_false_iff_ne.2 m1))] <| .w (o.kind=9)
     (fun m2=>chain [tB 89 (beq_iff_eq.2 m2)] <| .e (chain [tB 87 (bV (by simp<;>omega):true=(decide (o.kind=7\/9<=o.kind/\o.kind<=13)))] <| .nil))
     (fun m2=>chain [tB 89 (beq_eq_false_iff_ne.2 m2)] <| .w (o.kind=10)
      (fun m3=>chain [tB 90 (beq_iff_eq.2 m3)] <| .e (chain [tB 87 (bV (by simp<;>omega):true=(decide (o.kind=7\/9<=o.kind/\o.kind<=13)))] <| .nil))
      (fun m3=>chain [tB 90 (beq_eq_false_iff_ne.2 m3)] <| .w (o.kind=11)
       (fun m4=>chain [tB 91 (beq_iff_eq.2 m4)] <| .e (chain [tB 87 (bV (by simp<;>omega):true=(decide (o.kind=7\/9<=o.kind/\o.kind<=13)))] <| .nil))
       (fun m4=>chain [tB 91 (beq_eq_false_iff_ne.2 m4)] <| .w (o.kind=12)
        (fun m5=>chain [tB 92 (beq_iff_eq.2 m5)] <| .e (chain [tB 87 (bV (by simp<;>omega):true=(decide (o.kind=7\/9<=o.kind/\o.kind<=13)))] <| .nil))
        (fun m5=>chain [tB 92 (beq_eq_false_iff_ne.2 m5)] <| .e (chain [tB 87 (bV (by simp<;>omega):(o.kind==13)=(decide (o.kind=7\/9<=o.kind/\o.kind<=13)))] <| .nil))))))),
        .v 87 (.bool (decide_eq_false k6))]<|rQ (bP false) (bP (aL o m)) (bL (by simp_all[aL,cN]<;>(repeat' split)<;>intros<;>omega))))))))) (by kernel_rfl)
theorem Sn(s:bk)(g:s.Good)(k:Int)(h0:0<=s.ins)(h8:s.ins<=8)(l2:s.ops.length<=200):ae 135 [(iP k),(.ref 3 fun j_=>[(iP s.ins),(bJ s.ops),(bN s.outs)].getD j_ .any)] (bP (!kF s k)):=by
 exact tr true Tryz.call135 Tryz.func135 (.w (k<0)
  (fun k1=>chain [tB 5 (decide_eq_true k1)]<|rQ (bP true) (bP (!kF s k)) (bL (by unfold kF;rw[Bool.eq_iff_iff];simp_all)))
  (fun k1=>chain [tB 5 (decide_eq_false k1),ar (s.ins+(s.ops.length:Int)) (by omega)]<|rQ (bP (decide ((s.ins+(s.ops.length:Int))<=k))) (bP (!kF s k)) (bL (by unfold kF;rw[Bool.eq_iff_iff];simp_all)))) (by kernel_rfl)
theorem Sr(x:RI)(g:x.Good):ae 136 [(fE x)] (bP (!dE x)):=by
 have ga:=g.lo;have gb:=g.hi;by_cases ha:x.all=true
 .have e:dE x=false:=by unfold dE;rw[ha];simp
  rw[e];exact tr true Tryz.call136 Tryz.func136 (chain [tB 4 (ha:x.all=true)] <| .nil) (by kernel_rfl)
 .replace ha:x.all=false:=by simpa using ha
  by_cases h1:x.lo.Ok
  .by_cases h2:x.hi.Ok
   .have v1:=h1.valid
    have v2:=h2.valid;have e1:fE x=ai x.iv:=by rw[<-tl,show x.iv.raw=x by show RI.mk x.lo.dy.raw x.hi.dy.raw x.all=x;rw[h1.eq ga,h2.eq gb]]
    rw[e1];by_cases h3:aC x.lo.dy x.hi.dy<=0
    .have e:dE x=true:=by unfold dE;rw[im.2 (.inr ⟨ha,h1,h2,h3⟩),ha];rfl
     rw[e];exact tr true Tryz.call136 Tryz.func136 (chain [tB 4 (ha:x.iv.all=false),.c (ff _ ‹_›:ae 68 [(ag x.iv.lo)] _),.c (ff _ ‹_›:ae 68 [(ag x.iv.hi)] _),
      .c (bZ _ _ ‹_› ‹_›:ae 37 [(ag x.iv.lo),(ag x.iv.hi)] _),tF 23 (0<(aC x.iv.lo x.iv.hi)) (by show ¬0<aC x.lo.dy x.hi.dy;omega)] <| .nil) (by kernel_rfl)
    .have e:dE x=false:=by unfold dE;rw[show okB x=false by simpa using fun q=>(im.1 q).elim (fun q=>by rw[ha]at q;exact Bool.noConfusion q.1) fun q=>h3 q.2.2.2];rfl
     rw[e];exact tr true Tryz.call136 Tryz.func136 (chain [tB 4 (ha:x.iv.all=false),.c (ff _ ‹_›:ae 68 [(ag x.iv.lo)] _),.c (ff _ ‹_›:ae 68 [(ag x.iv.hi)] _),
      .c (bZ _ _ ‹_› ‹_›:ae 37 [(ag x.iv.lo),(ag x.iv.hi)] _),tT 23 (0<(aC x.iv.lo x.iv.hi)) (by show 0<aC x.lo.dy x.hi.dy;omega)] <| .nil) (by kernel_rfl)
   .have e:dE x=false:=by unfold dE;rw[show okB x=false by simpa using fun q=>(im.1 q).elim (fun q=>by rw[ha]at q;exact Bool.noConfusion q.1) fun q=>h2 q.2.2.1];rfl
    rw[e];exact tr true Tryz.call136 Tryz.func136 (chain [tB 4 (ha:x.all=false),.c (ns _ ‹_› true (by simp[h1]):ae 68 [(cO x.lo)] _),.c (ns _ ‹_› false (by simp[h2]):ae 68 [(cO x.hi)] _)] <| .nil) (by kernel_rfl)
  .have e:dE x=false:=by unfold dE;rw[show okB x=false by simpa using fun q=>(im.1 q).elim (fun q=>by rw[ha]at q;exact Bool.noConfusion q.1) fun q=>h1 q.2.1];rfl
   rw[e];exact tr true Tryz.call136 Tryz.func136 (chain [tB 4 (ha:x.all=false),.c (ns _ ‹_› false (by simp[h1]):ae 68 [(cO x.lo)] _)] <| .nil) (by kernel_rfl)
theorem ID(x:RI)(g:x.Good):ae 83 [(fE x)] (bP (!dE x)):=by
 exact tr true Tryz.call83 Tryz.func83 (chain [.c (Ny _ g:ae 84 [(fE x)] _)] <| .w (okB x=true)
  (fun k1=>chain [tB 4 (k1)]<|rQ (bP x.all) (bP (!dE x)) (bL (by unfold dE;simp_all)))
  (fun k1=>chain [tB 4 (Bool.eq_false_iff.2 k1)]<|rQ (bP true) (bP (!dE x)) (bL (by unfold dE;simp_all)))) (by kernel_rfl)
theorem xR(s:bk)(h0:0<=s.ins)(h8:s.ins<=8)(l2:s.ops.length<=200)(lu:s.outs.length<=200)(g:s.Good):ae 134 [bN s.outs,.fn 135 [(.ref 3 fun j_=>[(iP s.ins),(bJ s.ops),(bN s.outs)].getD j_ .any)]] (bP (!kJ s)):=by
 have:=Nh true s.outs.length (fun i _=>iP (s.outs.getD i 0)) 135 [(.ref 3 fun j_=>[(iP s.ins),(bJ s.ops),(bN s.outs)].getD j_ .any)] (fun i=>!kF s (s.outs.getD i 0)) (fun i _=>Sn s g _ h0 h8 l2) (show s.outs.length<=1000000 by omega);rwa[Ah]at this
theorem Eo(f:FuncId)(l:List RI)(hf:∀ i,ae f [fE (l.getD i aR)] (bP (!dE (l.getD i aR))))(hl:l.length<=1000):ae 17 [bE l,.fn f []] (bP (!((List.range l.length).all fun i=>dE (l.getD i aR)))):=by
 have:=w9 true l.length (fun i j=>(lJ (l.getD i aR)).getD j .any) f [] (fun i=>!dE (l.getD i aR)) (fun i _=>hf i) (show l.length<=1000000 by omega);rwa[Ah]at this
theorem St(s:bk)(g:s.Good)(sm:s.Small)(hc:¬(0<=s.ins/\s.ins<=8/\s.ops.length<=200/\s.outs.length<=200)):ae 82 [(cj s)] (bP false):=by
 exact tr true Tryz.call82 Tryz.func82 (.w (s.ins<0)
  (fun k1=>chain [tB 10 (decide_eq_true k1)] <| .nil)
  (fun k1=>chain [tB 10 (decide_eq_false k1)] <| .w (8<s.ins)
   (fun k2=>chain [tB 14 (decide_eq_true k2)] <| .nil)
   (fun k2=>chain [tB 14 (decide_eq_false k2)] <| .w (200<(s.ops.length:Int))
    (fun k3=>chain [tB 20 (decide_eq_true k3)] <| .nil)
    (fun k3=>chain [tB 20 (decide_eq_false k3)] <| .w (200<(s.outs.length:Int))
     (fun k4=>chain [tB 26 (decide_eq_true k4)] <| .nil)
     (fun k4=>.x (by omega)))))) (by kernel_rfl)
theorem Su(s:bk)(g:s.Good)(sm:s.Small)(i0:0<=s.ins)(i8:s.ins<=8)(l1:s.ops.length<=200)(l2:s.outs.length<=200)(N:Nat)(hN0:N<s.ops.length)(hlo:∀ k,k<N->(aL (s.ops.getD k b6) (s.ins+(k:Int)))=true)(hN:(aL (s.ops.getD N b6) (s.ins+(N:Int)))=false):ae 82 [(cj s)] (bP false):=by
 exact tr true Tryz.call82 Tryz.func82 (chain [tF 10 (s.ins<0) (by omega),tF 14 (8<s.ins) (by omega),tF 20 (200<(s.ops.length:Int)) (by omega),tF 26 (200<(s.outs.length:Int)) (by omega),
  .s (Sp.upto (Fm s N) 0 N (by omega) (fun x hx hltx=>by
    have hgo:=g.ops x;exact aB (chain [tT 32 ((x:Int)<(s.ops.length:Int)) (by omega),iX ((x:Int)) (s.ops.length) (by omega),ar (s.ins+(x:Int)) (by omega),
     .c (qV _ _ hgo:ae 133 [(gp (s.ops.getD x b6)),(iP (s.ins+(x:Int)))] _),tB 42 (by rw[hlo x (by omega)];rfl:(!(aL (s.ops.getD x b6) (s.ins+(x:Int))))=false),
     ar ((x:Int)+1) (by omega)] <| .nil) (by kernel_rfl))
  (fun hx=>by
    have hgo:=g.ops N;exact aB (chain [tT 32 ((N:Int)<(s.ops.length:Int)) (by omega),iX ((N:Int)) (s.ops.length) (by omega),ar (s.ins+(N:Int)) (by omega),
    .c (qV _ _ hgo:ae 133 [(gp (s.ops.getD N b6)),(iP (s.ins+(N:Int)))] _),tB 42 (by rw[hN];rfl:(!(aL (s.ops.getD N b6) (s.ins+(N:Int))))=true)] <| .nil) (by kernel_rfl)) (by nofun):bA 5 Tryz.f82 (Fm s N 0) .ret ⟨85,true,[(2,.e (bP false))],[]⟩) .nil] <| .nil) (by kernel_rfl)
theorem Sv(s:bk)(g:s.Good)(sm:s.Small)(i0:0<=s.ins)(i8:s.ins<=8)(l1:s.ops.length<=200)(l2:s.outs.length<=200)(hlo:∀ k,k<s.ops.length->(aL (s.ops.getD k b6) (s.ins+(k:Int)))=true)(hu:kJ s=false):ae 82 [(cj s)] (bP false):=by
 exact tr true Tryz.call82 Tryz.func82 (chain [tF 10 (s.ins<0) (by omega),tF 14 (8<s.ins) (by omega),tF 20 (200<(s.ops.length:Int)) (by omega),tF 26 (200<(s.outs.length:Int)) (by omega),
  .s (Sp.upto (Fo s) 0 s.ops.length (by omega) (fun x hx hltx=>by
    have hgo:=g.ops x;exact aB (chain [tT 32 ((x:Int)<(s.ops.length:Int)) (by omega),iX ((x:Int)) (s.ops.length) (by omega),ar (s.ins+(x:Int)) (by omega),
     .c (qV _ _ hgo:ae 133 [(gp (s.ops.getD x b6)),(iP (s.ins+(x:Int)))] _),tB 42 (by rw[hlo x (by omega)];rfl:(!(aL (s.ops.getD x b6) (s.ins+(x:Int))))=false),
     ar ((x:Int)+1) (by omega)] <| .nil) (by kernel_rfl))
  (fun hx=>by
    exact aB (chain [tF 32 ((s.ops.length:Int)<(s.ops.length:Int)) (by omega)] <| .nil) (by kernel_rfl)) (by nofun):bA 5 Tryz.f82 (Fo s 0) (.exit 0) ⟨85,true,[(3,.box 3 0),(1,.box 1 0)],[(3,.cells 25 [(iP s.ins),(bJ s.ops),(bN s.outs)]),(1,.cells 28 [(iP s.ins),(bJ s.ops),(bN s.outs),(iP s.au),(bE s.params)])]⟩) .nil,
  .c (xR s (by omega) (by omega) (by omega) (by omega) g:ae 134 [(bN s.outs),(.fn 135 [(.ref 3 fun j_=>[(iP s.ins),(bJ s.ops),(bN s.outs)].getD j_ .any)])] _),tB 47 (by rw[hu];rfl:(!(kJ s))=true)] <| .nil) (by kernel_rfl)
theorem Sw(s:bk)(g:s.Good)(sm:s.Small)(i0:0<=s.ins)(i8:s.ins<=8)(l1:s.ops.length<=200)(l2:s.outs.length<=200)(hlo:∀ k,k<s.ops.length->(aL (s.ops.getD k b6) (s.ins+(k:Int)))=true)(hu:kJ s=true)(hc:¬(1<=s.au/\s.au<=4/\(s.outs.length:Int)=s.au/\s.ins=s.au+(s.params.length:Int)/\s.params.length<=4)):ae 82 [(cj s)] (bP false):=by
 have sp:=sm.params;exact tr true Tryz.call82 Tryz.func82 (chain [tF 10 (s.ins<0) (by omega),tF 14 (8<s.ins) (by omega),tF 20 (200<(s.ops.length:Int)) (by omega),tF 26 (200<(s.outs.length:Int)) (by omega),
  .s (Sp.upto (Fq s) 0 s.ops.length (by omega) (fun x hx hltx=>by
    have hgo:=g.ops x;exact aB (chain [tT 32 ((x:Int)<(s.ops.length:Int)) (by omega),iX ((x:Int)) (s.ops.length) (by omega),ar (s.ins+(x:Int)) (by omega),
     .c (qV _ _ hgo:ae 133 [(gp (s.ops.getD x b6)),(iP (s.ins+(x:Int)))] _),tB 42 (by rw[hlo x (by omega)];rfl:(!(aL (s.ops.getD x b6) (s.ins+(x:Int))))=false),
     ar ((x:Int)+1) (by omega)] <| .nil) (by kernel_rfl))
  (fun hx=>by
    exact aB (chain [tF 32 ((s.ops.length:Int)<(s.ops.length:Int)) (by omega)] <| .nil) (by kernel_rfl)) (by nofun):bA 5 Tryz.f82 (Fq s 0) (.exit 0) ⟨85,true,[(3,.box 3 0),(1,.box 1 0)],[(3,.cells 25 [(iP s.ins),(bJ s.ops),(bN s.outs)]),(1,.cells 28 [(iP s.ins),(bJ s.ops),(bN s.outs),(iP s.au),(bE s.params)])]⟩) .nil,
  .c (xR s (by omega) (by omega) (by omega) (by omega) g:ae 134 [(bN s.outs),(.fn 135 [(.ref 3 fun j_=>[(iP s.ins),(bJ s.ops),(bN s.outs)].getD j_ .any)])] _),tB 47 (by rw[hu];rfl:(!(kJ s))=false)] <| .w (s.au<1)
  (fun k1=>chain [tB 50 (decide_eq_true k1)] <| .nil)
  (fun k1=>chain [tB 50 (decide_eq_false k1)] <| .w (4<s.au)
   (fun k2=>chain [tB 54 (decide_eq_true k2)] <| .nil)
   (fun k2=>chain [tB 54 (decide_eq_false k2)] <| .w ((s.outs.length:Int)=s.au)
    (fun k3=>chain [tB 62 (bne_eq_false_iff_eq.2 k3),ar (s.au+(s.params.length:Int)) (by omega)] <| .w (s.ins=(s.au+(s.params.length:Int)))
     (fun k4=>chain [tB 73 (bne_eq_false_iff_eq.2 k4)] <| .w (4<(s.params.length:Int))
      (fun k5=>chain [tB 79 (decide_eq_true k5)] <| .nil)
      (fun k5=>.x (by omega)))
     (fun k4=>chain [tB 73 (bne_iff_ne.2 k4)] <| .nil))
    (fun k3=>chain [tB 62 (bne_iff_ne.2 k3)] <| .nil)))) (by kernel_rfl)
theorem Sx(s:bk)(g:s.Good)(sm:s.Small)(i0:0<=s.ins)(i8:s.ins<=8)(l1:s.ops.length<=200)(l2:s.outs.length<=200)(hlo:∀ k,k<s.ops.length->(aL (s.ops.getD k b6) (s.ins+(k:Int)))=true)(hu:kJ s=true)(s1:1<=s.au)(s4:s.au<=4)(e1:(s.outs.length:Int)=s.au)(e2:s.ins=s.au+(s.params.length:Int))(p4:s.params.length<=4):ae 82 [(cj s)] (bP (pD s)):=by
 have sp:=sm.params;exact tr true Tryz.call82 Tryz.func82 (chain [tF 10 (s.ins<0) (by omega),tF 14 (8<s.ins) (by omega),tF 20 (200<(s.ops.length:Int)) (by omega),tF 26 (200<(s.outs.length:Int)) (by omega),
  .s (Sp.upto (Fs s) 0 s.ops.length (by omega) (fun x hx hltx=>by
    have hgo:=g.ops x;exact aB (chain [tT 32 ((x:Int)<(s.ops.length:Int)) (by omega),iX ((x:Int)) (s.ops.length) (by omega),ar (s.ins+(x:Int)) (by omega),
     .c (qV _ _ hgo:ae 133 [(gp (s.ops.getD x b6)),(iP (s.ins+(x:Int)))] _),tB 42 (by rw[hlo x (by omega)];rfl:(!(aL (s.ops.getD x b6) (s.ins+(x:Int))))=false),
     ar ((x:Int)+1) (by omega)] <| .nil) (by kernel_rfl))
  (fun hx=>by
    exact aB (chain [tF 32 ((s.ops.length:Int)<(s.ops.length:Int)) (by omega)] <| .nil) (by kernel_rfl)) (by nofun):bA 5 Tryz.f82 (Fs s 0) (.exit 0) ⟨85,true,[(3,.box 3 0),(1,.box 1 0)],[(3,.cells 25 [(iP s.ins),(bJ s.ops),(bN s.outs)]),(1,.cells 28 [(iP s.ins),(bJ s.ops),(bN s.outs),(iP s.au),(bE s.params)])]⟩) .nil,
  .c (xR s (by omega) (by omega) (by omega) (by omega) g:ae 134 [(bN s.outs),(.fn 135 [(.ref 3 fun j_=>[(iP s.ins),(bJ s.ops),(bN s.outs)].getD j_ .any)])] _),tB 47 (by rw[hu];rfl:(!(kJ s))=false),
  tF 50 (s.au<1) (by omega),tF 54 (4<s.au) (by omega),tB 62 (by simp[e1]:((s.outs.length:Int) != s.au)=false),ar (s.au+(s.params.length:Int)) (by omega),
  tB 73 (by simp[e2]:(s.ins != (s.au+(s.params.length:Int)))=false),tF 79 (4<(s.params.length:Int)) (by omega),
  .c (Eo 136 s.params (fun i=>Sr _ (g.params i)) (by omega):ae 17 [(bE s.params),(.fn 136 [])] _)]<|rQ (bP (!(!(pD s)))) (bP (pD s)) (bL (by simp))) (by kernel_rfl)
theorem F9(s:bk)(g:s.Good)(sm:s.Small):ae 82 [cj s] (bP (cU s)):=by
 by_cases c1:0<=s.ins/\s.ins<=8/\s.ops.length<=200/\s.outs.length<=200
 rotate_left
 .rw [show cU s=false by unfold cU;rw[decide_eq_false c1];rfl]
  exact St s g sm c1
 obtain⟨i0,i8,l1,l2⟩:=c1;by_cases c2:yB s=true
 rotate_left
 .rw [show cU s=false by unfold cU;rw[Bool.eq_false_iff.2 c2];simp]
  obtain⟨N,n1,n2,n3⟩:=pS c2;exact Su s g sm i0 i8 l1 l2 N n1 (fun k hk=>by simpa using n3 k hk) (by simpa using n2)
 have hlo:∀ k,k<s.ops.length->aL (s.ops.getD k b6) (s.ins+(k:Int))=true:=fun k hk=>List.all_eq_true.1 c2 k (List.mem_range.2 hk)
 cases hu:kJ s with
 | false =>
  rw[show cU s=false by unfold cU;rw[hu];simp];exact Sv s g sm i0 i8 l1 l2 hlo hu
 | true =>
  by_cases c3:1<=s.au/\s.au<=4/\(s.outs.length:Int)=s.au/\s.ins=s.au+(s.params.length:Int)/\s.params.length<=4
  .rw [show cU s=pD s by unfold cU;rw[decide_eq_true (⟨i0,i8,l1,l2⟩:_/\_),c2,hu,decide_eq_true c3];simp]
   obtain⟨s1,s4,e1,e2,p4⟩:=c3;exact Sx s g sm i0 i8 l1 l2 hlo hu s1 s4 e1 e2 p4
  .rw [show cU s=false by unfold cU;rw[decide_eq_false c3];simp]
   exact Sw s g sm i0 i8 l1 l2 hlo hu c3
theorem AR(s:bk)(b:List RI)(gb:∀ i,(b.getD i aR).Good)(hbl:b.length<=1000):ae 42 [(cj s),(bE b)] (bP (gP s.au b)):=by
 exact tr true Tryz.call42 Tryz.func42 (.w ((b.length:Int)=s.au)
  (fun k1=>chain [tB 9 (beq_iff_eq.2 k1),.c (Eo 83 b (fun i=>ID _ (gb i)) hbl:ae 17 [(bE b),(.fn 83 [])] _)]<|rQ (bP (!(!((List.range b.length).all fun i=>dE (b.getD i aR))))) (bP (gP s.au b)) (bL (by unfold gP;simp[k1])))
  (fun k1=>chain [tB 9 (beq_eq_false_iff_ne.2 k1)]<|rQ (bP false) (bP (gP s.au b)) (bL (by unfold gP;simp[k1])))) (by kernel_rfl)
theorem LU(s:bk)(g:s.Good)(sm:s.Small)(x:List RI)(gx:∀ i,(x.getD i aR).Good)(hxl:x.length<=1000)(d:RD)(gd:d.Good)(p:Int)(hd:¬d.Ok):ae 41 [(cj s),(bE x),(cO d),(iP p)] (bP (dg s x d p)):=by
 have hdk:kI d=false:=Bool.eq_false_iff.2 fun q=>hd (jI.1 q)
 exact tr true Tryz.call41 Tryz.func41 (chain [.c (F9 _ g sm:ae 82 [(cj s)] _)] <| .w (cU s=true)
  (fun k1=>chain [tB 10 (k1),.c (AR _ _ gx hxl:ae 42 [(cj s),(bE x)] _)] <| .w (gP s.au x=true)
   (fun k2=>chain [tB 14 (k2),.c (ns _ ‹_› false (by simp[hd]):ae 68 [(cO d)] _)]<|rQ (bP false) (bP (dg s x d p)) (bL (by unfold dg;simp[hdk,k1,k2])))
   (fun k2=>chain [tB 14 (Bool.eq_false_iff.2 k2)]<|rQ (bP false) (bP (dg s x d p)) (bL (by unfold dg;simp[hdk,k1,k2]))))
  (fun k1=>chain [tB 10 (Bool.eq_false_iff.2 k1)]<|rQ (bP false) (bP (dg s x d p)) (bL (by unfold dg;simp[hdk,k1])))) (by kernel_rfl)
theorem LW(s:bk)(g:s.Good)(sm:s.Small)(x:List RI)(gx:∀ i,(x.getD i aR).Good)(hxl:x.length<=1000)(d:RD)(gd:d.Good)(p:Int)(hd:d.Ok):ae 41 [(cj s),(bE x),(ag d.dy),(iP p)] (bP (dg s x d p)):=by
 have hdk:kI d=true:=jI.2 hd;have hv:=hd.valid;exact tr true Tryz.call41 Tryz.func41 (chain [.c (F9 _ g sm:ae 82 [(cj s)] _)] <| .w (cU s=true)
  (fun k1=>chain [tB 10 (k1),.c (AR _ _ gx hxl:ae 42 [(cj s),(bE x)] _)] <| .w (gP s.au x=true)
   (fun k2=>chain [tB 14 (k2),.c (ff _ ‹_›:ae 68 [(ag d.dy)] _),.c (dt _ ‹_›:ae 35 [(ag d.dy)] _)] <| .w (0<(Dy.sign d.dy))
    (fun k3=>chain [tB 23 (decide_eq_true k3)] <| .w (8<=p)
     (fun k4=>chain [tB 27 (decide_eq_true k4)]<|rQ (bP (decide (p<=512))) (bP (dg s x d p)) (bL (by unfold dg;simp[hdk,k1,k2,k3,k4])))
     (fun k4=>chain [tB 27 (decide_eq_false k4)]<|rQ (bP false) (bP (dg s x d p)) (bL (by unfold dg;simp[hdk,k1,k2,k3,k4]))))
    (fun k3=>chain [tB 23 (decide_eq_false k3)]<|rQ (bP false) (bP (dg s x d p)) (bL (by unfold dg;simp[hdk,k1,k2,k3]))))
   (fun k2=>chain [tB 14 (Bool.eq_false_iff.2 k2)]<|rQ (bP false) (bP (dg s x d p)) (bL (by unfold dg;simp[hdk,k1,k2]))))
  (fun k1=>chain [tB 10 (Bool.eq_false_iff.2 k1)]<|rQ (bP false) (bP (dg s x d p)) (bL (by unfold dg;simp[hdk,k1])))) (by kernel_rfl)
theorem LV(s:bk)(g:s.Good)(sm:s.Small)(x:List RI)(gx:∀ i,(x.getD i aR).Good)(hxl:x.length<=1000)(d:RD)(gd:d.Good)(p:Int):ae 41 [cj s,bE x,cO d,iP p] (bP (dg s x d p)):=by
 by_cases hd:d.Ok
 .have:=LW s g sm x gx hxl d gd p hd
  rwa[<-vS,hd.eq gd]at this
 .exact LU s g sm x gx hxl d gd p hd
open Go.RowKit Fp Pu
theorem Ek{a b c d e f:Int}(ha:bF .i64 a)(hb:bF .i64 b)(hc:bF .i64 c)(hd:bF .i64 d)(he:bF .i64 e)(hf:bF .i64 f) :
  Tryz.prog.keyLits 10 99 [.int .i64 a,.int .i64 b,.int .i64 c,.int .i64 d,.int .i64 e,.int .i64 f]=some [.int .i64 a,.int .i64 b,.int .i64 c,.int .i64 d,.int .i64 e,.int .i64 f]:=by
 have c1:Tryz.prog.cellsOf 99=6:=by kernel_rfl
 have c2:Tryz.prog.cellsOf 3=1:=by kernel_rfl
 have c3:Tryz.prog.cellsOf 97=2:=by kernel_rfl
 have r:Tryz.prog.keyLits 9 97 [.int .i64 e,.int .i64 f]=some [.int .i64 e,.int .i64 f]:=by
  unfold Program.keyLits;rw[Tryz.underlying97];simp[c3,c2,List.mapM_cons,mD he,mD hf]
 unfold Program.keyLits;rw[Tryz.underlying99];simp[c1,c2,c3,List.mapM_cons,mD ha,mD hb,mD hc,mD hd,r]
theorem tR{a b c d e f a' b' c' d' e' f':Int}(ha:bF .i64 a)(hb:bF .i64 b)(hc:bF .i64 c)(hd:bF .i64 d)(he:bF .i64 e)(hf:bF .i64 f)
  (ha':bF .i64 a') (hb':bF .i64 b') (hc':bF .i64 c') (hd':bF .i64 d') (he':bF .i64 e') (hf':bF .i64 f') :
  eH Tryz.prog .eql 99 (.agg [iP a,iP b,iP c,iP d,iP e,iP f]) (.agg [iP a',iP b',iP c',iP d',iP e',iP f']) (.bool (decide (a=a'/\b=b'/\c=c'/\d=d'/\e=e'/\f=f'))) :=
 Pm (Ek ha hb hc hd he hf) (Ek ha' hb' hc' hd' he' hf') (by kernel_rfl) (by kernel_rfl) rfl
theorem jc:bF .i64 0:=by unfold bF;decide
theorem S2{d:Int}(h0:0<=d)(h:d<=1073741824):IntKind.u64.wrap d=((d.natAbs:Nat):Int):=by rw[IntKind.wrap_u64];omega
open Go.RowKit Fp Pu
theorem Br{a b:Nat}:0<=bG a b↔b<=a:=by
 unfold bG;split
 .simp;omega
 .split<;>simp<;>omega
theorem ED(m n:Nat)(hl:(af m).length<=1000)(hn:n<=65536):ae 148 [ah (af m),iP (n:Int)] (ah (af (m*2^n))) :=
 qZ (cE m) Tryz.call148 (fun A c w h _=>QI A c (af m) n w h hl hn) fun A c B w e w' h hB r=>by rw[bc]at r;exact rl B w e w' hB r
theorem Qi(m n:Nat)(hl:(af m).length<=3000)(hn:(af n).length<=3000):ae 149 [ah (af m),ah (af n)] (ah (af (m+n))) :=
 mI (cE m) (cE n) Tryz.call149 (fun A c B d w h k _=>QN A B c d (af m) (af n) w h k hl hn) fun B w e w' hB r=>by rw[bc,bc]at r;exact rl B w e w' hB r
theorem EF(m n:Nat)(hl:(af m).length<=3000)(hn:n<=m):ae 151 [ah (af m),ah (af n)] (ah (af (m-n))) :=
 mI (cE m) (cE n) Tryz.call151 (fun A c B d w h k _=>QJ A B c d (af m) (af n) w h k hl (cK hn) (by rw[bc,bc];exact hn)) fun B w e w' hB r=>by rw[bc,bc]at r;exact rl B w e w' hB r
theorem Qh(m n:Nat)(hl:(af m).length<=3000)(hn:(af n).length<=3000):ae 150 [ah (af m),ah (af n)] (iP (bG m n)):=by
 refine mI (cE m) (cE n) Tryz.call150 (fun A c B d w h k _=>Fa A B c d (af m) (af n) w h k (jg _) (jg _) (by omega) (by omega)) ?_;rw[bc,bc];exact rv
theorem QU(a b:Dy)(ha:me a)(hb:me b):ae 98 [(ag a),(ag b)] (ag (az a b)):=by
 obtain⟨ha1,ha2,ha3⟩:=ha;obtain⟨hb1,hb2,hb3⟩:=hb;have ba:=nf ha1;have bb:=nf hb1;obtain⟨k,hk⟩:∃ k,min a.e b.e=k:=⟨_,rfl⟩
 exact tr true Tryz.call98 Tryz.func98 (.w ((((af a.m).length:Nat):Int)=0)
  (fun k1=>by
   have a0:a.m=0:=iF.1 (by omega);exact chain [tB 11 (beq_iff_eq.2 k1)]<|rQ (ag b) (ag (az a b)) (by rw[show az a b=b by unfold az;rw[if_pos a0]]))
  (fun k1=>by
   have a0:a.m≠0:=fun h=>k1 (by rw[iF.2 h];rfl)
   exact chain [tB 11 (beq_eq_false_iff_ne.2 k1)] <| .w ((((af b.m).length:Nat):Int)=0)
    (fun k2=>by
     have b0:b.m=0:=iF.1 (by omega);exact chain [tB 16 (beq_iff_eq.2 k2)]<|rQ (ag a) (ag (az a b)) (by rw[show az a b=a by unfold az;rw[if_neg a0,if_pos b0]]))
    (fun k2=>by
     have b0:b.m≠0:=fun h=>k2 (by rw[iF.2 h];rfl)
     have hX:(af (a.m*2^((a.e-k).toNat))).length<=1400:=ej (by rw[fI a0];omega);have hY:(af (b.m*2^((b.e-k).toNat))).length<=1400:=ej (by rw[fI b0];omega);have hP:=N4 hX hY;have hM:(af ((a.m*2^((a.e-k).toNat))-(b.m*2^((b.e-k).toNat)))).length<=1400:=Nat.le_trans (cK (Nat.sub_le _ _)) hX
     have hN:(af ((b.m*2^((b.e-k).toNat))-(a.m*2^((a.e-k).toNat)))).length<=1400:=Nat.le_trans (cK (Nat.sub_le _ _)) hY;exact chain [tB 16 (beq_eq_false_iff_ne.2 k2),.o 22 (.int (by rw[<-hk];split<;>omega):PV.le (.e (iP (if b.e<a.e then b.e else a.e))) (.e (iP k))),ar (a.e-k) (by omega),
      .o 28 (.int (by omega):PV.le (.e (iP (a.e-k))) (.e (iP ((((a.e-k).toNat):Nat):Int)))),.c (ED _ _ (by omega) (by omega):ae 148 [(ah (af a.m)),(iP ((((a.e-k).toNat):Nat):Int))] _),ar (b.e-k) (by omega),
      .o 35 (.int (by omega):PV.le (.e (iP (b.e-k))) (.e (iP ((((b.e-k).toNat):Nat):Int)))),.c (ED _ _ (by omega) (by omega):ae 148 [(ah (af b.m)),(iP ((((b.e-k).toNat):Nat):Int))] _)] <| .w (a.neg=b.neg)
      (fun k3=>chain [tB 41 (beq_iff_eq.2 k3),.c (Qi _ _ (by omega) (by omega):ae 149 [(ah (af (a.m*2^((a.e-k).toNat)))),(ah (af (b.m*2^((b.e-k).toNat))))] _),
       .c (yp _ _ _ (by omega) (by omega) (by omega):ae 76 [(bP a.neg),(ah (af ((a.m*2^((a.e-k).toNat))+(b.m*2^((b.e-k).toNat))))),(iP k)] _)]<|rQ (ag (canon a.neg ((a.m*2^((a.e-k).toNat))+(b.m*2^((b.e-k).toNat))) k)) (ag (az a b)) (by have h:=F5 (s:=a.neg) a0 b0 hk;rw[show(⟨a.neg,b.m,b.e⟩:Dy)=b by rw[k3]]at h;exact congrArg ag h.symm))
      (fun k3=>chain [tB 41 (beq_eq_false_iff_ne.2 k3),.c (Qh _ _ (by omega) (by omega):ae 150 [(ah (af (a.m*2^((a.e-k).toNat)))),(ah (af (b.m*2^((b.e-k).toNat))))] _)] <| .w (0<=(bG (a.m*2^((a.e-k).toNat)) (b.m*2^((b.e-k).toNat))))
       (fun k4=>by
        have hc:(b.m*2^((b.e-k).toNat))<=(a.m*2^((a.e-k).toNat)):=Br.1 k4;exact chain [tB 52 (decide_eq_true k4),.c (EF _ _ (by omega) (by omega):ae 151 [(ah (af (a.m*2^((a.e-k).toNat)))),(ah (af (b.m*2^((b.e-k).toNat))))] _),
         .c (yp _ _ _ (by omega) (by omega) (by omega):ae 76 [(bP a.neg),(ah (af ((a.m*2^((a.e-k).toNat))-(b.m*2^((b.e-k).toNat))))),(iP k)] _)]<|rQ (ag (canon a.neg ((a.m*2^((a.e-k).toNat))-(b.m*2^((b.e-k).toNat))) k)) (ag (az a b)) (congrArg ag (F3 (s:=a.neg) (t:=b.neg) a0 b0 hk k3 hc).symm))
       (fun k4=>by
        have hc:(a.m*2^((a.e-k).toNat))<(b.m*2^((b.e-k).toNat)):=Nat.lt_of_not_le fun h=>k4 (Br.2 h)
        exact chain [tB 52 (decide_eq_false k4),.c (EF _ _ (by omega) (by omega):ae 151 [(ah (af (b.m*2^((b.e-k).toNat)))),(ah (af (a.m*2^((a.e-k).toNat))))] _),
         .c (yp _ _ _ (by omega) (by omega) (by omega):ae 76 [(bP b.neg),(ah (af ((b.m*2^((b.e-k).toNat))-(a.m*2^((a.e-k).toNat))))),(iP k)] _)]<|rQ (ag (canon b.neg ((b.m*2^((b.e-k).toNat))-(a.m*2^((a.e-k).toNat))) k)) (ag (az a b)) (congrArg ag (F4 (s:=a.neg) (t:=b.neg) a0 b0 hk k3 hc).symm)))))) (by kernel_rfl)
theorem E9(a b:Dy)(ha:me a)(hb:me b):ae 53 [(ag a),(ag b)] (iP (aC a b)):=by
 have hn:me (aJ b):=⟨hb.len,hb.lo,hb.hi⟩
 exact tr true Tryz.call53 Tryz.func53 (chain [.c (ue _:ae 47 [(ag a)] _),.c (ue _:ae 47 [(ag b)] _)] <| .w ((Dy.sign a)=(Dy.sign b))
  (fun k1=>chain [tB 13 (bne_eq_false_iff_eq.2 k1)] <| .w ((Dy.sign a)=0)
   (fun k2=>chain [tB 18 (beq_iff_eq.2 k2)]<|rQ (iP 0) (iP (aC a b)) (by rw[oJ,if_neg (by simpa using k1),if_pos k2]))
   (fun k2=>chain [tB 18 (beq_eq_false_iff_ne.2 k2),.c (uf _ ha:ae 97 [(ag a)] _),.c (uf _ hb:ae 97 [(ag b)] _)] <| .w ((Dy.top a)=(Dy.top b))
    (fun k3=>chain [tB 23 (bne_eq_false_iff_eq.2 k3),.c (QL _:ae 99 [(ag b)] _),.c (QU _ _ ha hn:ae 98 [(ag a),(ag (aJ b))] _),.c (ue _:ae 47 [(ag (az a (aJ b)))] _)]<|rQ (iP (Dy.sign (az a (aJ b)))) (iP (aC a b)) (by rw[oJ,if_neg (by simpa using k1),if_neg k2,if_neg (by simpa using k3)]))
    (fun k3=>chain [tB 23 (bne_iff_ne.2 k3),.c (uf _ ha:ae 97 [(ag a)] _),.c (uf _ hb:ae 97 [(ag b)] _)] <| .w ((decide ((Dy.top a)<(Dy.top b)))=(decide (0<(Dy.sign a))))
     (fun k4=>chain [tB 31 (beq_iff_eq.2 k4)]<|rQ (iP (-1)) (iP (aC a b)) (by rw[oJ,if_neg (by simpa using k1),if_neg k2,if_pos k3,if_pos (by simpa using k4)]))
     (fun k4=>chain [tB 31 (beq_eq_false_iff_ne.2 k4)]<|rQ (iP 1) (iP (aC a b)) (by rw[oJ,if_neg (by simpa using k1),if_neg k2,if_pos k3,if_neg (by simpa using k4)])))))
  (fun k1=>chain [tB 13 (bne_iff_ne.2 k1)] <| .w ((Dy.sign a)<(Dy.sign b))
   (fun k2=>chain [tB 16 (decide_eq_true k2)]<|rQ (iP (-1)) (iP (aC a b)) (by rw[oJ,if_pos k1,if_pos k2]))
   (fun k2=>chain [tB 16 (decide_eq_false k2)]<|rQ (iP 1) (iP (aC a b)) (by rw[oJ,if_pos k1,if_neg k2])))) (by kernel_rfl)
open Go.RowKit Fp Pu
def CB(a b:Nat)(x:Nat):PS:=⟨12,true,[(0,.e (.v (.int .u64 ((((cv a b x).1):Nat):Int)))),(1,.e (.v (.int .u64 ((((cv a b x).2):Nat):Int))))],[]⟩
def EW(s:bk)(N:Nat)(x:Nat):PS:=⟨131,true,[(4,.e (iP x)),(3,.box 3 0),(1,.box 1 0)],[(3,.cells 25 [(iP s.ins),(bJ s.ops),(bN s.outs)]),(1,.cells 28 [(iP s.ins),(bJ s.ops),(bN s.outs),(iP s.au),(bE s.params)])]⟩
def ER(s:bk)(x:Nat):PS:=⟨131,true,[(4,.e (iP x)),(3,.box 3 0),(1,.box 1 0)],[(3,.cells 25 [(iP s.ins),(bJ s.ops),(bN s.outs)]),(1,.cells 28 [(iP s.ins),(bJ s.ops),(bN s.outs),(iP s.au),(bE s.params)])]⟩
def EX(s:bk)(N:Nat)(x:Nat):PS:=⟨131,true,[(5,.e (iP x)),(3,.box 3 0),(1,.box 1 0)],[(3,.cells 25 [(iP s.ins),(bJ s.ops),(bN s.outs)]),(1,.cells 28 [(iP s.ins),(bJ s.ops),(bN s.outs),(iP s.au),(bE s.params)])]⟩
def ES(s:bk)(x:Nat):PS:=⟨131,true,[(4,.e (iP x)),(3,.box 3 0),(1,.box 1 0)],[(3,.cells 25 [(iP s.ins),(bJ s.ops),(bN s.outs)]),(1,.cells 28 [(iP s.ins),(bJ s.ops),(bN s.outs),(iP s.au),(bE s.params)])]⟩
def EY(s:bk)(N:Nat)(x:Nat):PS:=⟨131,true,[(5,.e (iP x)),(3,.box 3 0),(1,.box 1 0)],[(3,.cells 25 [(iP s.ins),(bJ s.ops),(bN s.outs)]),(1,.cells 28 [(iP s.ins),(bJ s.ops),(bN s.outs),(iP s.au),(bE s.params)])]⟩
def ET(s:bk)(x:Nat):PS:=⟨131,true,[(4,.e (iP x)),(3,.box 3 0),(1,.box 1 0)],[(3,.cells 25 [(iP s.ins),(bJ s.ops),(bN s.outs)]),(1,.cells 28 [(iP s.ins),(bJ s.ops),(bN s.outs),(iP s.au),(bE s.params)])]⟩
def EZ(s:bk)(x:Nat):PS:=⟨131,true,[(5,.e (iP x)),(3,.box 3 0),(1,.box 1 0)],[(3,.cells 25 [(iP s.ins),(bJ s.ops),(bN s.outs)]),(1,.cells 28 [(iP s.ins),(bJ s.ops),(bN s.outs),(iP s.au),(bE s.params)])]⟩
def E3(s:bk)(N:Nat)(x:Nat):PS:=⟨131,true,[(6,.e (iP x)),(1,.box 1 0)],[(1,.cells 28 [(iP s.ins),(bJ s.ops),(bN s.outs),(iP s.au),(bE s.params)])]⟩
def EU(s:bk)(x:Nat):PS:=⟨131,true,[(4,.e (iP x)),(3,.box 3 0),(1,.box 1 0)],[(3,.cells 25 [(iP s.ins),(bJ s.ops),(bN s.outs)]),(1,.cells 28 [(iP s.ins),(bJ s.ops),(bN s.outs),(iP s.au),(bE s.params)])]⟩
def E4(s:bk)(x:Nat):PS:=⟨131,true,[(5,.e (iP x)),(3,.box 3 0),(1,.box 1 0)],[(3,.cells 25 [(iP s.ins),(bJ s.ops),(bN s.outs)]),(1,.cells 28 [(iP s.ins),(bJ s.ops),(bN s.outs),(iP s.au),(bE s.params)])]⟩
def E5(s:bk)(N:Nat)(x:Nat):PS:=⟨131,true,[(6,.e (iP x)),(1,.box 1 0)],[(1,.cells 28 [(iP s.ins),(bJ s.ops),(bN s.outs),(iP s.au),(bE s.params)])]⟩
def EV(s:bk)(x:Nat):PS:=⟨131,true,[(4,.e (iP x)),(3,.box 3 0),(1,.box 1 0)],[(3,.cells 25 [(iP s.ins),(bJ s.ops),(bN s.outs)]),(1,.cells 28 [(iP s.ins),(bJ s.ops),(bN s.outs),(iP s.au),(bE s.params)])]⟩
def E6(s:bk)(x:Nat):PS:=⟨131,true,[(5,.e (iP x)),(3,.box 3 0),(1,.box 1 0)],[(3,.cells 25 [(iP s.ins),(bJ s.ops),(bN s.outs)]),(1,.cells 28 [(iP s.ins),(bJ s.ops),(bN s.outs),(iP s.au),(bE s.params)])]⟩
def E7(s:bk)(x:Nat):PS:=⟨131,true,[(6,.e (iP x)),(1,.box 1 0)],[(1,.cells 28 [(iP s.ins),(bJ s.ops),(bN s.outs),(iP s.au),(bE s.params)])]⟩
def Ey(s:bk)(b:List RI)(N:Nat)(x:Nat):PS:=⟨35,true,[(5,.e (iP x)),(1,.e (bE b))],[]⟩
def Ez(s:bk)(b:List RI)(N:Nat)(x:Nat):PS:=⟨35,true,[(5,.e (iP x)),(1,.e (bE b))],[]⟩
def EA(s:bk)(b:List RI)(x:Nat):PS:=⟨35,true,[(5,.e (iP x)),(1,.e (bE b))],[]⟩
theorem Me(a b N:Nat)(ha:a<18446744073709551616)(hb:b<18446744073709551616)(hlo:∀ k,k<N->(cv a b k).2≠0)(hN:(cv a b N).2=0):ae 182 [(.v (.int .u64 (a:Int))),(.v (.int .u64 (b:Int)))] (.v (.int .u64 ((((cv a b N).1):Nat):Int))):=by
 exact tr true Tryz.call182 Tryz.func182 (chain [.s (Sp.upto (CB a b) 0 N (by omega) (fun x hx hltx=>by
    have hb0:=hlo x (by omega);exact aB (chain [tB 6 (DX (hlo x (by omega)):(((((cv a b x).2):Nat):Int) != 0)=true),.a (by omega:0<(((((cv a b x).2):Nat):Int):Int))] <| .e (chain [.o 0 (.int (by first|rfl|omega|(simp only[Nat.add_mul,Nat.one_mul];omega)):PV.le (.e (.v (.int .u64 ((((cv a b x).2):Nat):Int)))) (.e (.v (.int .u64 ((((cv a b (x+1)).1):Nat):Int))))),
  .o 1 (.int (by first|rfl|omega|(simp only[Nat.add_mul,Nat.one_mul];omega)):PV.le (.e (.v (.int .u64 (((((cv a b x).1)%((cv a b x).2)):Nat):Int)))) (.e (.v (.int .u64 ((((cv a b (x+1)).2):Nat):Int)))))] <| .nil)) (by kernel_rfl))
  (fun hx=>by
    exact aB (chain [tB 6 (DW hN:(((((cv a b N).2):Nat):Int) != 0)=false)] <| .nil) (by kernel_rfl)) (by nofun):bA 1 Tryz.f182 (CB a b 0) (.exit 0) ⟨12,true,[(0,.e (.v (.int .u64 ((((cv a b N).1):Nat):Int))))],[]⟩) (chain [.o 0 (.int (by first|rfl|omega|(simp only[Nat.add_mul,Nat.one_mul];omega)):PV.le (.e (.v (.int .u64 (a:Int)))) (.e (.v (.int .u64 ((((cv a b 0).1):Nat):Int))))),
  .o 1 (.int (by first|rfl|omega|(simp only[Nat.add_mul,Nat.one_mul];omega)):PV.le (.e (.v (.int .u64 (b:Int)))) (.e (.v (.int .u64 ((((cv a b 0).2):Nat):Int)))))] <| .nil)] <| .nil) (by kernel_rfl)
theorem Mf(a b:Nat)(ha:a<18446744073709551616)(hb:b<18446744073709551616):ae 182 [(.v (.int .u64 (a:Int))),(.v (.int .u64 (b:Int)))] (.v (.int .u64 (((Nat.gcd a b):Nat):Int))):=by
 obtain⟨N,h1,h2⟩:=Cb b a;have hg:=wb a b N;rw[h2,Nat.gcd_zero_right]at hg;rw[<-hg];exact Me a b N ha hb h1 h2
theorem RY(m:Nat)(h:m<=1073741824):ae 183 [(iP m)] (.v (.int .u64 (m:Int))):=by
 exact tr true Tryz.call183 Tryz.func183 (chain [tF 4 ((m:Int)<0) (by omega),.o 11 (.int (fY _ (by omega)):PV.le (.e (.v (.int .u64 (IntKind.u64.wrap (m:Int))))) (.e (.v (.int .u64 (m:Int)))))] <| .nil) (by kernel_rfl)
theorem RW(m:Nat)(h0:0<m)(h:m<=1073741824):ae 183 [(iP (-(m:Int)))] (.v (.int .u64 (m:Int))):=by
 exact tr true Tryz.call183 Tryz.func183 (chain [tT 4 ((-(m:Int))<0) (by omega),ar ((-(m:Int))+1) (by omega),ar (0-((-(m:Int))+1)) (by omega),
  .o 7 (.int (by omega):PV.le (.e (iP (0-((-(m:Int))+1)))) (.e (iP (((m-1):Nat):Int)))),
  .o 8 (.int (fY _ (by omega)):PV.le (.e (.v (.int .u64 (IntKind.u64.wrap (((m-1):Nat):Int))))) (.e (.v (.int .u64 (((m-1):Nat):Int))))),mP ((((m-1):Nat):Int)+1) (by omega)]<|rQ (.v (.int .u64 ((((m-1)+1):Nat):Int))) (.v (.int .u64 (m:Int))) (by rw[show m-1+1=m by omega])) (by kernel_rfl)
theorem RX(n:Int)(h1:-1073741824<=n)(h2:n<=1073741824):ae 183 [iP n] (.v (.int .u64 (n.natAbs:Int))):=by
 by_cases h:0<=n
 .obtain ⟨m,rfl⟩:=Int.eq_ofNat_of_zero_le h
  exact RY m (by omega)
 .obtain ⟨m,rfl⟩:∃ m:Nat,n = -(m:Int):=⟨n.natAbs,by omega⟩
  rw[Int.natAbs_neg,Int.natAbs_natCast];exact RW m (by omega) (by omega)
theorem Qk(n d:Int):ae 146 [(.agg [(iP n),(iP d)])] (bP (dp n d)):=by
 exact tr true Tryz.call146 Tryz.func146 (.w (1<=d)
  (fun k1=>chain [tB 5 (decide_eq_true k1)] <| .w (d<=1073741824)
   (fun k2=>chain [tB 9 (decide_eq_true k2)] <| .w ((-1073741824)<=n)
    (fun k3=>chain [tB 14 (decide_eq_true k3)] <| .w (n<=1073741824)
     (fun k4=>chain [tB 19 (decide_eq_true k4),.c (RX _ (by omega) (by omega):ae 183 [(iP n)] _),.o 27 (.int (S2 (by omega) (by omega)):PV.le (.e (.v (.int .u64 (IntKind.u64.wrap d)))) (.e (.v (.int .u64 (((Int.natAbs d):Nat):Int))))),
      .c (Mf _ _ (by omega) (by omega):ae 182 [(.v (.int .u64 (((Int.natAbs n):Nat):Int))),(.v (.int .u64 (((Int.natAbs d):Nat):Int)))] _)]<|rQ (bP ((((Nat.gcd (Int.natAbs n) (Int.natAbs d)):Nat):Int)==1)) (bP (dp n d)) (by unfold dp;simp[kD,k1,k2,k3,k4]))
     (fun k4=>chain [tB 19 (decide_eq_false k4)]<|rQ (bP false) (bP (dp n d)) (by unfold dp;simp[kD,k1,k2,k3,k4])))
    (fun k3=>chain [tB 14 (decide_eq_false k3)]<|rQ (bP false) (bP (dp n d)) (by unfold dp;simp[kD,k1,k2,k3])))
   (fun k2=>chain [tB 9 (decide_eq_false k2)]<|rQ (bP false) (bP (dp n d)) (by unfold dp;simp[kD,k1,k2])))
  (fun k1=>chain [tB 5 (decide_eq_false k1)]<|rQ (bP false) (bP (dp n d)) (by unfold dp;simp[kD,k1]))) (by kernel_rfl)
theorem nQ(o:eo)(m:Int)(g:o.Good):ae 95 [(gp o),(iP m)] (bP (aL o m)):=by
 exact tr true Tryz.call95 Tryz.func95 (.w (o.kind=1)
  (fun k1=>chain [tB 13 (beq_iff_eq.2 k1),.c (Qk _ _:ae 146 [(.agg [(iP o.cn),(iP o.cd)])] _)] <| .w (dp o.cn o.cd=true)
   (fun k2=>chain [tB 19 (k2),tB 47 (by decide:(decide ((0:Int)<0))=false),tB 52 (by decide:(decide ((1:Int)<0))=false),
    .g (tR g.kind g.a g.b g.n g.cn g.cd g.kind jc jc jc g.cn g.cd:eH Tryz.prog .eql 99 (gp o) (.agg [(iP o.kind),(iP 0),(iP 0),(iP 0),(iP o.cn),(iP o.cd)]) (.bool (decide (o.kind=o.kind/\o.a=0/\o.b=0/\o.n=0/\o.cn=o.cn/\o.cd=o.cd))))] <| .w (o.kind=o.kind/\o.a=0/\o.b=0/\o.n=0/\o.cn=o.cn/\o.cd=o.cd)
    (fun k3=>chain [tB 58 (decide_eq_true k3),tB 61 (by decide:((0:Int)==0)=true)]<|rQ (bP true) (bP (aL o m)) (bL (by simp_all[aL,cN]<;>(repeat' split)<;>intros<;>omega)))
    (fun k3=>chain [tB 58 (decide_eq_false k3)]<|rQ (bP false) (bP (aL o m)) (bL (by simp_all[aL,cN]<;>(repeat' split)<;>intros<;>omega))))
   (fun k2=>chain [tB 19 (Bool.eq_false_iff.2 k2)]<|rQ (bP false) (bP (aL o m)) (bL (by simp_all[aL,cN]<;>(repeat' split)<;>intros<;>omega))))
  (fun k1=>chain [tB 13 (beq_eq_false_iff_ne.2 k1),
   .j 42 ⟨85,true,[(21,.e (bP (decide (3<=o.kind/\o.kind<=6)))),(11,.e (iP o.kind)),(6,.box 6 0),(2,.box 2 0),(1,.e (iP m))],[(6,.cells 99 [(iP o.kind),(iP 0),(iP 0),(iP 0),(iP 0),(iP 0)]),(2,.cells 99 [(iP o.kind),(iP o.a),(iP o.b),(iP o.n),(iP o.cn),(iP o.cd)])]⟩
   (.w (o.kind=3)
    (fun m1=>chain [.v 21 (.bool (beq_iff_eq.2 m1))] <| .e (chain [tB 21 (bV (by simp<;>omega):true=(decide (3<=o.kind/\o.kind<=6)))] <| .nil))
    (fun m1=>chain [.v 21 (.bool (beq_eq_false_iff_ne.2 m1))] <| .w (o.kind=4)
     (fun m2=>chain [tB 23 (beq_iff_eq.2 m2)] <| .e (chain [tB 21 (bV (by simp<;>omega):true=(decide (3<=o.kind/\o.kind<=6)))] <| .nil))
     (fun m2=>chain [tB 23 (beq_eq_false_iff_ne.2 m2)] <| .w (o.kind=5)
      (fun m3=>chain [tB 24 (beq_iff_eq.2 m3)] <| .e (chain [tB 21 (bV (by simp<;>omega):true=(decide (3<=o.kind/\o.kind<=6)))] <| .nil))
      (fun m3=>chain [tB 24 (beq_eq_false_iff_ne.2 m3)] <| .e (chain [tB 21 (bV (by simp<;>omega):(o.kind==6)=(decide (3<=o.kind/\o.kind<=6)))] <| .nil)))))] <| .w (3<=o.kind/\o.kind<=6)
   (fun k2=>chain [.v 21 (.bool (decide_eq_true k2)),tB 47 (by decide:(decide ((0:Int)<2))=true),tB 52 (by decide:(decide ((1:Int)<2))=true),
    .g (tR g.kind g.a g.b g.n g.cn g.cd g.kind g.a g.b jc jc jc:eH Tryz.prog .eql 99 (gp o) (.agg [(iP o.kind),(iP o.a),(iP o.b),(iP 0),(iP 0),(iP 0)]) (.bool (decide (o.kind=o.kind/\o.a=o.a/\o.b=o.b/\o.n=0/\o.cn=0/\o.cd=0))))] <| .w (o.kind=o.kind/\o.a=o.a/\o.b=o.b/\o.n=0/\o.cn=0/\o.cd=0)
    (fun k3=>chain [tB 58 (decide_eq_true k3),tB 61 (by decide:((2:Int)==0)=false)] <| .w (0<=o.a)
     (fun k4=>chain [tB 65 (decide_eq_true k4)] <| .w (o.a<m)
      (fun k5=>chain [tB 70 (decide_eq_true k5)] <| .w (0<=o.b)
       (fun k6=>chain [tB 75 (decide_eq_true k6)]<|rQ (bP (decide (o.b<m))) (bP (aL o m)) (bL (by simp_all[aL,cN]<;>(repeat' split)<;>intros<;>omega)))
       (fun k6=>chain [tB 75 (decide_eq_false k6)]<|rQ (bP false) (bP (aL o m)) (bL (by simp_all[aL,cN]<;>(repeat' split)<;>intros<;>omega))))
      (fun k5=>chain [tB 70 (decide_eq_false k5)]<|rQ (bP false) (bP (aL o m)) (bL (by simp_all[aL,cN]<;>(repeat' split)<;>intros<;>omega))))
     (fun k4=>chain [tB 65 (decide_eq_false k4)]<|rQ (bP false) (bP (aL o m)) (bL (by simp_all[aL,cN]<;>(repeat' split)<;>intros<;>omega))))
    (fun k3=>chain [tB 58 (decide_eq_false k3)]<|rQ (bP false) (bP (aL o m)) (bL (by simp_all[aL,cN]<;>(repeat' split)<;>intros<;>omega))))
   (fun k2=>chain [.v 21 (.bool (decide_eq_false k2)),
    .j 52 ⟨85,true,[(26,.e (bP (decide (o.kind=7\/9<=o.kind/\o.kind<=13)))),(11,.e (iP o.kind)),(6,.box 6 0),(2,.box 2 0),(1,.e (iP m))],[(6,.cells 99 [(iP o.kind),(iP 0),(iP 0),(iP 0),(iP 0),(iP 0)]),(2,.cells 99 [(iP o.kind),(iP o.a),(iP o.b),(iP o.n),(iP o.cn),(iP o.cd)])]⟩
   (.w (o.kind=7)
    (fun m1=>chain [.v 26 (.bool (beq_iff_eq.2 m1))] <| .e (chain [tB 26 (bV (by simp<;>omega):true=(decide (o.kind=7\/9<=o.kind/\o.kind<=13)))] <| .nil))
    (fun m1=>chain [.v 26 (.bool (beq_eq_false_iff_ne.2 m1))] <| .w (o.kind=9)
     (fun m2=>chain [tB 28 (beq_iff_eq.2 m2)] <| .e (chain [tB 26 (bV (by simp<;>omega):true=(decide (o.kind=7\/9<=o.kind/\o.kind<=13)))] <| .nil))
     (fun m2=>chain [tB 28 (beq_eq_false_iff_ne.2 m2)] <| .w (o.kind=10)
      (fun m3=>chain [tB 29 (beq_iff_eq.2 m3)] <| .e (chain [tB 26 (bV (by simp<;>omega):true=(decide (o.kind=7\/9<=o.kind/\o.kind<=13)))] <| .nil))
      (fun m3=>chain [tB 29 (beq_eq_false_iff_ne.2 m3)] <| .w (o.kind=11)
       (fun m4=>chain [tB 30 (beq_iff_eq.2 m4)] <| .e (chain [tB 26 (bV (by simp<;>omega):true=(decide (o.kind=7\/9<=o.kind/\o.kind<=13)))] <| .nil))
       (fun m4=>chain [tB 30 (beq_eq_false_iff_ne.2 m4)] <| .w (o.kind=12)
        (fun m5=>chain [tB 31 (beq_iff_eq.2 m5)] <| .e (chain [tB 26 (bV (by simp<;>omega):true=(decide (o.kind=7\/9<=o.kind/\o.kind<=13)))] <| .nil))
        (fun m5=>chain [tB 31 (beq_eq_false_iff_ne.2 m5)] <| .e (chain [tB 26 (bV (by simp<;>omega):(o.kind==13)=(decide (o.kind=7\/9<=o.kind/\o.kind<=13)))] <| .nil)))))))] <| .w (o.kind=7\/9<=o.kind/\o.kind<=13)
    (fun k3=>chain [.v 26 (.bool (decide_eq_true k3)),tB 47 (by decide:(decide ((0:Int)<1))=true),tB 52 (by decide:(decide ((1:Int)<1))=false),
     .g (tR g.kind g.a g.b g.n g.cn g.cd g.kind g.a jc jc jc jc:eH Tryz.prog .eql 99 (gp o) (.agg [(iP o.kind),(iP o.a),(iP 0),(iP 0),(iP 0),(iP 0)]) (.bool (decide (o.kind=o.kind/\o.a=o.a/\o.b=0/\o.n=0/\o.cn=0/\o.cd=0))))] <| .w (o.kind=o.kind/\o.a=o.a/\o.b=0/\o.n=0/\o.cn=0/\o.cd=0)
     (fun k4=>chain [tB 58 (decide_eq_true k4),tB 61 (by decide:((1:Int)==0)=false)] <| .w (0<=o.a)
      (fun k5=>chain [tB 65 (decide_eq_true k5)] <| .w (o.a<m)
       (fun k6=>chain [tB 70 (decide_eq_true k6)] <| .w (0<=o.b)
        (fun k7=>chain [tB 75 (decide_eq_true k7)]<|rQ (bP (decide (o.b<m))) (bP (aL o m)) (bL (by simp_all[aL,cN]<;>(repeat' split)<;>intros<;>omega)))
        (fun k7=>chain [tB 75 (decide_eq_false k7)]<|rQ (bP false) (bP (aL o m)) (bL (by simp_all[aL,cN]<;>(repeat' split)<;>intros<;>omega))))
       (fun k6=>chain [tB 70 (decide_eq_false k6)]<|rQ (bP false) (bP (aL o m)) (bL (by simp_all[aL,cN]<;>(repeat' split)<;>intros<;>omega))))
      (fun k5=>chain [tB 65 (decide_eq_false k5)]<|rQ (bP false) (bP (aL o m)) (bL (by simp_all[aL,cN]<;>(repeat' split)<;>intros<;>omega))))
     (fun k4=>chain [tB 58 (decide_eq_false k4)]<|rQ (bP false) (bP (aL o m)) (bL (by simp_all[aL,cN]<;>(repeat' split)<;>intros<;>omega))))
    (fun k3=>chain [.v 26 (.bool (decide_eq_false k3))] <| .w (o.kind=8)
     (fun k4=>chain [tB 34 (beq_iff_eq.2 k4)] <| .w (o.n<0)
      (fun k5=>chain [tB 40 (decide_eq_true k5)]<|rQ (bP false) (bP (aL o m)) (bL (by simp_all[aL,cN]<;>(repeat' split)<;>intros<;>omega)))
      (fun k5=>chain [tB 40 (decide_eq_false k5)] <| .w (16<o.n)
       (fun k6=>chain [tB 44 (decide_eq_true k6)]<|rQ (bP false) (bP (aL o m)) (bL (by simp_all[aL,cN]<;>(repeat' split)<;>intros<;>omega)))
       (fun k6=>chain [tB 44 (decide_eq_false k6),tB 47 (by decide:(decide ((0:Int)<1))=true),tB 52 (by decide:(decide ((1:Int)<1))=false),
        .g (tR g.kind g.a g.b g.n g.cn g.cd g.kind g.a jc g.n jc jc:eH Tryz.prog .eql 99 (gp o) (.agg [(iP o.kind),(iP o.a),(iP 0),(iP o.n),(iP 0),(iP 0)]) (.bool (decide (o.kind=o.kind/\o.a=o.a/\o.b=0/\o.n=o.n/\o.cn=0/\o.cd=0))))] <| .w (o.kind=o.kind/\o.a=o.a/\o.b=0/\o.n=o.n/\o.cn=0/\o.cd=0)
        (fun k7=>chain [tB 58 (decide_eq_true k7),tB 61 (by decide:((1:Int)==0)=false)] <| .w (0<=o.a)
         (fun k8=>chain [tB 65 (decide_eq_true k8)] <| .w (o.a<m)
          (fun k9=>chain [tB 70 (decide_eq_true k9)] <| .w (0<=o.b)
           (fun k10=>chain [tB 75 (decide_eq_true k10)]<|rQ (bP (decide (o.b<m))) (bP (aL o m)) (bL (by simp_all[aL,cN]<;>(repeat' split)<;>intros<;>omega)))
           (fun k10=>chain [tB 75 (decide_eq_false k10)]<|rQ (bP false) (bP (aL o m)) (bL (by simp_all[aL,cN]<;>(repeat' split)<;>intros<;>omega))))
          (fun k9=>chain [tB 70 (decide_eq_false k9)]<|rQ (bP false) (bP (aL o m)) (bL (by simp_all[aL,cN]<;>(repeat' split)<;>intros<;>omega))))
         (fun k8=>chain [tB 65 (decide_eq_false k8)]<|rQ (bP false) (bP (aL o m)) (bL (by simp_all[aL,cN]<;>(repeat' split)<;>intros<;>omega))))
        (fun k7=>chain [tB 58 (decide_eq_false k7)]<|rQ (bP false) (bP (aL o m)) (bL (by simp_all[aL,cN]<;>(repeat' split)<;>intros<;>omega))))))
     (fun k4=>chain [tB 34 (beq_eq_false_iff_ne.2 k4)]<|rQ (bP false) (bP (aL o m)) (bL (by simp_all[aL,cN]<;>(repeat' split)<;>intros<;>omega))))))) (by kernel_rfl)
theorem DT(L:List Nat):((L.length:Int)=0)↔L=[]:=by rw[<-List.length_eq_zero_iff];omega
def zB(d:RD):Bool:=!d.neg&&decide (d.L=[])&&(d.e==0)
theorem rS{d:RD}:zB d=true↔d.Zero:=by simp[zB,RD.Zero,and_assoc]
theorem rj(d:RD):ae 52 [(cO d)] (bP (zB d)):=by
 exact tr true Tryz.call52 Tryz.func52 (.w (d.neg=true)
  (fun k1=>chain [tB 4 (k1)]<|rQ (bP false) (bP (zB d)) (by simp[zB,k1]))
  (fun k1=>chain [tB 4 (Bool.eq_false_iff.2 k1)] <| .w ((d.L.length:Int)=0)
   (fun k2=>chain [tB 10 (beq_iff_eq.2 k2)]<|rQ (bP (d.e==0)) (bP (zB d)) (by simp[zB,k1,show d.L=[]from(DT _).1 k2]))
   (fun k2=>chain [tB 10 (beq_eq_false_iff_ne.2 k2)]<|rQ (bP false) (bP (zB d)) (by simp[zB,k1,show ¬d.L=[]from fun q=>k2 ((DT _).2 q)])))) (by kernel_rfl)
theorem mN(x:RI)(g:x.Good):ae 19 [(fE x)] (bP (okB x)):=by
 have ga:=g.lo;have gb:=g.hi;by_cases ha:x.all=true
 .have nb:∀ q:x.all=false,False:=fun q=>by rw[ha]at q;cases q
  by_cases h1:x.lo.Zero
  .by_cases h2:x.hi.Zero
   .rw [im.2 (.inl ⟨ha,h1,h2⟩)]
    exact tr true Tryz.call19 Tryz.func19 (chain [tB 4 (ha:x.all=true),.c (rj _:ae 52 [(cO x.lo)] _),tB 7 (rS.2 h1:(zB x.lo)=true),.c (rj _:ae 52 [(cO x.hi)] _),tB 11 (rS.2 h2:(zB x.hi)=true)] <| .nil) (by kernel_rfl)
   .have e:okB x=false:=by simpa using fun q=>(im.1 q).elim (fun q=>h2 q.2.2) fun q=>nb q.1
    rw[e];exact tr true Tryz.call19 Tryz.func19 (chain [tB 4 (ha:x.all=true),.c (rj _:ae 52 [(cO x.lo)] _),tB 7 (rS.2 h1:(zB x.lo)=true),.c (rj _:ae 52 [(cO x.hi)] _),tB 11 (Bool.eq_false_iff.2 fun q=>h2 (rS.1 q):(zB x.hi)=false)] <| .nil) (by kernel_rfl)
  .have e:okB x=false:=by simpa using fun q=>(im.1 q).elim (fun q=>h1 q.2.1) fun q=>nb q.1
   rw[e];exact tr true Tryz.call19 Tryz.func19 (chain [tB 4 (ha:x.all=true),.c (rj _:ae 52 [(cO x.lo)] _),tB 7 (Bool.eq_false_iff.2 fun q=>h1 (rS.1 q):(zB x.lo)=false)] <| .nil) (by kernel_rfl)
 .replace ha:x.all=false:=by simpa using ha
  by_cases h1:x.lo.Ok
  .by_cases h2:x.hi.Ok
   .have v1:=h1.valid
    have v2:=h2.valid;have e1:fE x=ai x.iv:=by rw[<-tl,show x.iv.raw=x by show RI.mk x.lo.dy.raw x.hi.dy.raw x.all=x;rw[h1.eq ga,h2.eq gb]]
    rw[e1];by_cases h3:aC x.lo.dy x.hi.dy<=0
    .rw [im.2 (.inr ⟨ha,h1,h2,h3⟩)]
     exact tr true Tryz.call19 Tryz.func19 (chain [tB 4 (ha:x.iv.all=false),.c (rn _ ‹_›:ae 46 [(ag x.iv.lo)] _),.c (rn _ ‹_›:ae 46 [(ag x.iv.hi)] _),.c (E9 x.iv.lo x.iv.hi v1.tE v2.tE),tB 27 (decide_eq_true h3)] <| .nil) (by kernel_rfl)
    .have e:okB x=false:=by simpa using fun q=>(im.1 q).elim (fun q=>by rw[ha]at q;exact Bool.noConfusion q.1) fun q=>h3 q.2.2.2
     rw[e];exact tr true Tryz.call19 Tryz.func19 (chain [tB 4 (ha:x.iv.all=false),.c (rn _ ‹_›:ae 46 [(ag x.iv.lo)] _),.c (rn _ ‹_›:ae 46 [(ag x.iv.hi)] _),.c (E9 x.iv.lo x.iv.hi v1.tE v2.tE),tB 27 (decide_eq_false h3)] <| .nil) (by kernel_rfl)
   .have e:okB x=false:=by simpa using fun q=>(im.1 q).elim (fun q=>by rw[ha]at q;exact Bool.noConfusion q.1) fun q=>h2 q.2.2.1
    rw[e];exact tr true Tryz.call19 Tryz.func19 (chain [tB 4 (ha:x.all=false),.c (ug _ ‹_› _ jI:ae 46 [(cO x.lo)] _),tB 15 (jI.2 h1:(kI x.lo)=true),.c (ug _ ‹_› _ jI:ae 46 [(cO x.hi)] _),
     tB 19 (Bool.eq_false_iff.2 fun q=>h2 (jI.1 q):(kI x.hi)=false)] <| .nil) (by kernel_rfl)
  .have e:okB x=false:=by simpa using fun q=>(im.1 q).elim (fun q=>by rw[ha]at q;exact Bool.noConfusion q.1) fun q=>h1 q.2.1
   rw[e];exact tr true Tryz.call19 Tryz.func19 (chain [tB 4 (ha:x.all=false),.c (ug _ ‹_› _ jI:ae 46 [(cO x.lo)] _),tB 15 (Bool.eq_false_iff.2 fun q=>h1 (jI.1 q):(kI x.lo)=false)] <| .nil) (by kernel_rfl)
theorem P3(s:bk)(g:s.Good)(sm:s.Small)(hc:¬(0<=s.ins/\s.ins<=8/\s.ops.length<=200/\s.outs.length<=200/\1<=s.au/\s.au<=4/\(s.outs.length:Int)=s.au/\s.params.length<=4/\s.ins=s.au+(s.params.length:Int))):ae 49 [(cj s)] (bP false):=by
 have sp:=sm.params;have so:=sm.outs;have sq:=sm.ops;exact tr true Tryz.call49 Tryz.func49 (.w (s.ins<0)
  (fun k1=>chain [tB 11 (decide_eq_true k1)] <| .nil)
  (fun k1=>chain [tB 11 (decide_eq_false k1)] <| .w (8<s.ins)
   (fun k2=>chain [tB 15 (decide_eq_true k2)] <| .nil)
   (fun k2=>chain [tB 15 (decide_eq_false k2)] <| .w (200<(s.ops.length:Int))
    (fun k3=>chain [tB 21 (decide_eq_true k3)] <| .nil)
    (fun k3=>chain [tB 21 (decide_eq_false k3)] <| .w (200<(s.outs.length:Int))
     (fun k4=>chain [tB 27 (decide_eq_true k4)] <| .nil)
     (fun k4=>chain [tB 27 (decide_eq_false k4)] <| .w (s.au<1)
      (fun k5=>chain [tB 32 (decide_eq_true k5)] <| .nil)
      (fun k5=>chain [tB 32 (decide_eq_false k5)] <| .w (4<s.au)
       (fun k6=>chain [tB 37 (decide_eq_true k6)] <| .nil)
       (fun k6=>chain [tB 37 (decide_eq_false k6)] <| .w ((s.outs.length:Int)=s.au)
        (fun k7=>chain [tB 45 (bne_eq_false_iff_eq.2 k7)] <| .w (4<(s.params.length:Int))
         (fun k8=>chain [tB 51 (decide_eq_true k8)] <| .nil)
         (fun k8=>chain [tB 51 (decide_eq_false k8),ar (s.au+(s.params.length:Int)) (by omega)] <| .w (s.ins=(s.au+(s.params.length:Int)))
          (fun k9=>.x (by exact absurd ⟨by omega,by omega,by omega,by omega,by omega,by omega,by omega,by omega,by omega⟩ hc))
          (fun k9=>chain [tB 62 (bne_iff_ne.2 k9)] <| .nil)))
        (fun k7=>chain [tB 45 (bne_iff_ne.2 k7)] <| .nil)))))))) (by kernel_rfl)
theorem P4(s:bk)(g:s.Good)(sm:s.Small)(i0:0<=s.ins)(i8:s.ins<=8)(l1:s.ops.length<=200)(l2:s.outs.length<=200)(s1:1<=s.au)(s4:s.au<=4)(e1:(s.outs.length:Int)=s.au)(e2:s.ins=s.au+(s.params.length:Int))(p4:s.params.length<=4)(N:Nat)(hN0:N<s.ops.length)(hlo:∀ k,k<N->(aL (s.ops.getD k b6) (s.ins+(k:Int)))=true)(hN:(aL (s.ops.getD N b6) (s.ins+(N:Int)))=false):ae 49 [(cj s)] (bP false):=by
 have sp:=sm.params;have so:=sm.outs;have sq:=sm.ops;exact tr true Tryz.call49 Tryz.func49 (chain [tF 11 (s.ins<0) (by omega),tF 15 (8<s.ins) (by omega),tF 21 (200<(s.ops.length:Int)) (by omega),tF 27 (200<(s.outs.length:Int)) (by omega),tF 32 (s.au<1) (by omega),tF 37 (4<s.au) (by omega),
  tB 45 (by simp[e1]:((s.outs.length:Int) != s.au)=false),tF 51 (4<(s.params.length:Int)) (by omega),ar (s.au+(s.params.length:Int)) (by omega),
  tB 62 (by simp[e2]:(s.ins != (s.au+(s.params.length:Int)))=false),
  .s (Sp.upto (EW s N) 0 N (by omega) (fun x hx hltx=>by
    have hgo:=g.ops x;exact aB (chain [tT 68 ((x:Int)<(s.ops.length:Int)) (by omega),iX ((x:Int)) (s.ops.length) (by omega),ar (s.ins+(x:Int)) (by omega),
     .c (nQ _ _ hgo:ae 95 [(gp (s.ops.getD x b6)),(iP (s.ins+(x:Int)))] _),tB 81 (by rw[hlo x (by omega)];rfl:(!(aL (s.ops.getD x b6) (s.ins+(x:Int))))=false),
     ar ((x:Int)+1) (by omega)] <| .nil) (by kernel_rfl))
  (fun hx=>by
    have hgo:=g.ops N;exact aB (chain [tT 68 ((N:Int)<(s.ops.length:Int)) (by omega),iX ((N:Int)) (s.ops.length) (by omega),ar (s.ins+(N:Int)) (by omega),
    .c (nQ _ _ hgo:ae 95 [(gp (s.ops.getD N b6)),(iP (s.ins+(N:Int)))] _),tB 81 (by rw[hN];rfl:(!(aL (s.ops.getD N b6) (s.ins+(N:Int))))=true)] <| .nil) (by kernel_rfl)) (by nofun):bA 5 Tryz.f49 (EW s N 0) .ret ⟨131,true,[(2,.e (bP false))],[]⟩) .nil] <| .nil) (by kernel_rfl)
theorem P5(s:bk)(g:s.Good)(sm:s.Small)(i0:0<=s.ins)(i8:s.ins<=8)(l1:s.ops.length<=200)(l2:s.outs.length<=200)(s1:1<=s.au)(s4:s.au<=4)(e1:(s.outs.length:Int)=s.au)(e2:s.ins=s.au+(s.params.length:Int))(p4:s.params.length<=4)(hlo:∀ k,k<s.ops.length->(aL (s.ops.getD k b6) (s.ins+(k:Int)))=true)(N:Nat)(hN0:N<s.outs.length)(hou:∀ k,k<N->0<=(s.outs.getD k 0)/\(s.outs.getD k 0)<s.ins+(s.ops.length:Int))(hN:(s.outs.getD N 0)<0):ae 49 [(cj s)] (bP false):=by
 have sp:=sm.params;have so:=sm.outs;have sq:=sm.ops;exact tr true Tryz.call49 Tryz.func49 (chain [tF 11 (s.ins<0) (by omega),tF 15 (8<s.ins) (by omega),tF 21 (200<(s.ops.length:Int)) (by omega),tF 27 (200<(s.outs.length:Int)) (by omega),tF 32 (s.au<1) (by omega),tF 37 (4<s.au) (by omega),
  tB 45 (by simp[e1]:((s.outs.length:Int) != s.au)=false),tF 51 (4<(s.params.length:Int)) (by omega),ar (s.au+(s.params.length:Int)) (by omega),
  tB 62 (by simp[e2]:(s.ins != (s.au+(s.params.length:Int)))=false),
  .s (Sp.upto (ER s) 0 s.ops.length (by omega) (fun x hx hltx=>by
    have hgo:=g.ops x;exact aB (chain [tT 68 ((x:Int)<(s.ops.length:Int)) (by omega),iX ((x:Int)) (s.ops.length) (by omega),ar (s.ins+(x:Int)) (by omega),
     .c (nQ _ _ hgo:ae 95 [(gp (s.ops.getD x b6)),(iP (s.ins+(x:Int)))] _),tB 81 (by rw[hlo x (by omega)];rfl:(!(aL (s.ops.getD x b6) (s.ins+(x:Int))))=false),
     ar ((x:Int)+1) (by omega)] <| .nil) (by kernel_rfl))
  (fun hx=>by
    exact aB (chain [tF 68 ((s.ops.length:Int)<(s.ops.length:Int)) (by omega)] <| .nil) (by kernel_rfl)) (by nofun):bA 5 Tryz.f49 (ER s 0) (.exit 0) ⟨131,true,[(3,.box 3 0),(1,.box 1 0)],[(3,.cells 25 [(iP s.ins),(bJ s.ops),(bN s.outs)]),(1,.cells 28 [(iP s.ins),(bJ s.ops),(bN s.outs),(iP s.au),(bE s.params)])]⟩) .nil,
  .s (Sp.upto (EX s N) 0 N (by omega) (fun x hx hltx=>by
    have hox:=hou x (by omega);exact aB (chain [tT 86 ((x:Int)<(s.outs.length:Int)) (by omega),iX ((x:Int)) (s.outs.length) (by omega),tF 94 ((s.outs.getD x 0)<0) (by omega),iX ((x:Int)) (s.outs.length) (by omega),
     ar (s.ins+(s.ops.length:Int)) (by omega),tF 107 ((s.ins+(s.ops.length:Int))<=(s.outs.getD x 0)) (by omega),ar ((x:Int)+1) (by omega)] <| .nil) (by kernel_rfl))
  (fun hx=>by
    exact aB (chain [tT 86 ((N:Int)<(s.outs.length:Int)) (by omega),iX ((N:Int)) (s.outs.length) (by omega),tB 94 (decide_eq_true hN)] <| .nil) (by kernel_rfl)) (by nofun):bA 10 Tryz.f49 (EX s N 0) .ret ⟨131,true,[(2,.e (bP false))],[]⟩) .nil] <| .nil) (by kernel_rfl)
theorem P6(s:bk)(g:s.Good)(sm:s.Small)(i0:0<=s.ins)(i8:s.ins<=8)(l1:s.ops.length<=200)(l2:s.outs.length<=200)(s1:1<=s.au)(s4:s.au<=4)(e1:(s.outs.length:Int)=s.au)(e2:s.ins=s.au+(s.params.length:Int))(p4:s.params.length<=4)(hlo:∀ k,k<s.ops.length->(aL (s.ops.getD k b6) (s.ins+(k:Int)))=true)(N:Nat)(hN0:N<s.outs.length)(hou:∀ k,k<N->0<=(s.outs.getD k 0)/\(s.outs.getD k 0)<s.ins+(s.ops.length:Int))(hN:0<=(s.outs.getD N 0))(hM:s.ins+(s.ops.length:Int)<=(s.outs.getD N 0)):ae 49 [(cj s)] (bP false):=by
 have sp:=sm.params;have so:=sm.outs;have sq:=sm.ops;exact tr true Tryz.call49 Tryz.func49 (chain [tF 11 (s.ins<0) (by omega),tF 15 (8<s.ins) (by omega),tF 21 (200<(s.ops.length:Int)) (by omega),tF 27 (200<(s.outs.length:Int)) (by omega),tF 32 (s.au<1) (by omega),tF 37 (4<s.au) (by omega),
  tB 45 (by simp[e1]:((s.outs.length:Int) != s.au)=false),tF 51 (4<(s.params.length:Int)) (by omega),ar (s.au+(s.params.length:Int)) (by omega),
  tB 62 (by simp[e2]:(s.ins != (s.au+(s.params.length:Int)))=false),
  .s (Sp.upto (ES s) 0 s.ops.length (by omega) (fun x hx hltx=>by
    have hgo:=g.ops x;exact aB (chain [tT 68 ((x:Int)<(s.ops.length:Int)) (by omega),iX ((x:Int)) (s.ops.length) (by omega),ar (s.ins+(x:Int)) (by omega),
     .c (nQ _ _ hgo:ae 95 [(gp (s.ops.getD x b6)),(iP (s.ins+(x:Int)))] _),tB 81 (by rw[hlo x (by omega)];rfl:(!(aL (s.ops.getD x b6) (s.ins+(x:Int))))=false),
     ar ((x:Int)+1) (by omega)] <| .nil) (by kernel_rfl))
  (fun hx=>by
    exact aB (chain [tF 68 ((s.ops.length:Int)<(s.ops.length:Int)) (by omega)] <| .nil) (by kernel_rfl)) (by nofun):bA 5 Tryz.f49 (ES s 0) (.exit 0) ⟨131,true,[(3,.box 3 0),(1,.box 1 0)],[(3,.cells 25 [(iP s.ins),(bJ s.ops),(bN s.outs)]),(1,.cells 28 [(iP s.ins),(bJ s.ops),(bN s.outs),(iP s.au),(bE s.params)])]⟩) .nil,
  .s (Sp.upto (EY s N) 0 N (by omega) (fun x hx hltx=>by
    have hox:=hou x (by omega);exact aB (chain [tT 86 ((x:Int)<(s.outs.length:Int)) (by omega),iX ((x:Int)) (s.outs.length) (by omega),tF 94 ((s.outs.getD x 0)<0) (by omega),iX ((x:Int)) (s.outs.length) (by omega),
     ar (s.ins+(s.ops.length:Int)) (by omega),tF 107 ((s.ins+(s.ops.length:Int))<=(s.outs.getD x 0)) (by omega),ar ((x:Int)+1) (by omega)] <| .nil) (by kernel_rfl))
  (fun hx=>by
    exact aB (chain [tT 86 ((N:Int)<(s.outs.length:Int)) (by omega),iX ((N:Int)) (s.outs.length) (by omega),tF 94 ((s.outs.getD N 0)<0) (by omega),iX ((N:Int)) (s.outs.length) (by omega),
    ar (s.ins+(s.ops.length:Int)) (by omega),tB 107 (decide_eq_true hM)] <| .nil) (by kernel_rfl)) (by nofun):bA 10 Tryz.f49 (EY s N 0) .ret ⟨131,true,[(2,.e (bP false))],[]⟩) .nil] <| .nil) (by kernel_rfl)
theorem P7(s:bk)(g:s.Good)(sm:s.Small)(i0:0<=s.ins)(i8:s.ins<=8)(l1:s.ops.length<=200)(l2:s.outs.length<=200)(s1:1<=s.au)(s4:s.au<=4)(e1:(s.outs.length:Int)=s.au)(e2:s.ins=s.au+(s.params.length:Int))(p4:s.params.length<=4)(hlo:∀ k,k<s.ops.length->(aL (s.ops.getD k b6) (s.ins+(k:Int)))=true)(hou:∀ k,k<s.outs.length->0<=(s.outs.getD k 0)/\(s.outs.getD k 0)<s.ins+(s.ops.length:Int))(N:Nat)(hN0:N<s.params.length)(hpa:∀ k,k<N->okB (s.params.getD k aR)=true/\(s.params.getD k aR).all=false)(hN:(s.params.getD N aR).all=true):ae 49 [(cj s)] (bP false):=by
 have sp:=sm.params;have so:=sm.outs;have sq:=sm.ops;exact tr true Tryz.call49 Tryz.func49 (chain [tF 11 (s.ins<0) (by omega),tF 15 (8<s.ins) (by omega),tF 21 (200<(s.ops.length:Int)) (by omega),tF 27 (200<(s.outs.length:Int)) (by omega),tF 32 (s.au<1) (by omega),tF 37 (4<s.au) (by omega),
  tB 45 (by simp[e1]:((s.outs.length:Int) != s.au)=false),tF 51 (4<(s.params.length:Int)) (by omega),ar (s.au+(s.params.length:Int)) (by omega),
  tB 62 (by simp[e2]:(s.ins != (s.au+(s.params.length:Int)))=false),
  .s (Sp.upto (ET s) 0 s.ops.length (by omega) (fun x hx hltx=>by
    have hgo:=g.ops x;exact aB (chain [tT 68 ((x:Int)<(s.ops.length:Int)) (by omega),iX ((x:Int)) (s.ops.length) (by omega),ar (s.ins+(x:Int)) (by omega),
     .c (nQ _ _ hgo:ae 95 [(gp (s.ops.getD x b6)),(iP (s.ins+(x:Int)))] _),tB 81 (by rw[hlo x (by omega)];rfl:(!(aL (s.ops.getD x b6) (s.ins+(x:Int))))=false),
     ar ((x:Int)+1) (by omega)] <| .nil) (by kernel_rfl))
  (fun hx=>by
    exact aB (chain [tF 68 ((s.ops.length:Int)<(s.ops.length:Int)) (by omega)] <| .nil) (by kernel_rfl)) (by nofun):bA 5 Tryz.f49 (ET s 0) (.exit 0) ⟨131,true,[(3,.box 3 0),(1,.box 1 0)],[(3,.cells 25 [(iP s.ins),(bJ s.ops),(bN s.outs)]),(1,.cells 28 [(iP s.ins),(bJ s.ops),(bN s.outs),(iP s.au),(bE s.params)])]⟩) .nil,
  .s (Sp.upto (EZ s) 0 s.outs.length (by omega) (fun x hx hltx=>by
    have hox:=hou x (by omega);exact aB (chain [tT 86 ((x:Int)<(s.outs.length:Int)) (by omega),iX ((x:Int)) (s.outs.length) (by omega),tF 94 ((s.outs.getD x 0)<0) (by omega),iX ((x:Int)) (s.outs.length) (by omega),
     ar (s.ins+(s.ops.length:Int)) (by omega),tF 107 ((s.ins+(s.ops.length:Int))<=(s.outs.getD x 0)) (by omega),ar ((x:Int)+1) (by omega)] <| .nil) (by kernel_rfl))
  (fun hx=>by
    exact aB (chain [tF 86 ((s.outs.length:Int)<(s.outs.length:Int)) (by omega)] <| .nil) (by kernel_rfl)) (by nofun):bA 10 Tryz.f49 (EZ s 0) (.exit 2) ⟨131,true,[(1,.box 1 0)],[(1,.cells 28 [(iP s.ins),(bJ s.ops),(bN s.outs),(iP s.au),(bE s.params)])]⟩) .nil,
  .s (Sp.upto (E3 s N) 0 N (by omega) (fun x hx hltx=>by
    have hgx:=g.params x;exact aB (chain [tT 113 ((x:Int)<(s.params.length:Int)) (by omega),iX ((x:Int)) (s.params.length) (by omega),tB 121 ((hpa x (by omega)).2:(s.params.getD x aR).all=false),
     iX ((x:Int)) (s.params.length) (by omega),.c (mN _ ‹_›:ae 19 [(fE (s.params.getD x aR))] _),tB 129 (by rw[(hpa x (by omega)).1];rfl:(!(okB (s.params.getD x aR)))=false),
     ar ((x:Int)+1) (by omega)] <| .nil) (by kernel_rfl))
  (fun hx=>by
    have hgx:=g.params N;exact aB (chain [tT 113 ((N:Int)<(s.params.length:Int)) (by omega),iX ((N:Int)) (s.params.length) (by omega),tB 121 (hN:(s.params.getD N aR).all=true)] <| .nil) (by kernel_rfl)) (by nofun):bA 15 Tryz.f49 (E3 s N 0) .ret ⟨131,true,[(2,.e (bP false))],[]⟩) .nil] <| .nil) (by kernel_rfl)
theorem P8(s:bk)(g:s.Good)(sm:s.Small)(i0:0<=s.ins)(i8:s.ins<=8)(l1:s.ops.length<=200)(l2:s.outs.length<=200)(s1:1<=s.au)(s4:s.au<=4)(e1:(s.outs.length:Int)=s.au)(e2:s.ins=s.au+(s.params.length:Int))(p4:s.params.length<=4)(hlo:∀ k,k<s.ops.length->(aL (s.ops.getD k b6) (s.ins+(k:Int)))=true)(hou:∀ k,k<s.outs.length->0<=(s.outs.getD k 0)/\(s.outs.getD k 0)<s.ins+(s.ops.length:Int))(N:Nat)(hN0:N<s.params.length)(hpa:∀ k,k<N->okB (s.params.getD k aR)=true/\(s.params.getD k aR).all=false)(hN:(s.params.getD N aR).all=false)(hM:okB (s.params.getD N aR)=false):ae 49 [(cj s)] (bP false):=by
 have sp:=sm.params;have so:=sm.outs;have sq:=sm.ops;exact tr true Tryz.call49 Tryz.func49 (chain [tF 11 (s.ins<0) (by omega),tF 15 (8<s.ins) (by omega),tF 21 (200<(s.ops.length:Int)) (by omega),tF 27 (200<(s.outs.length:Int)) (by omega),tF 32 (s.au<1) (by omega),tF 37 (4<s.au) (by omega),
  tB 45 (by simp[e1]:((s.outs.length:Int) != s.au)=false),tF 51 (4<(s.params.length:Int)) (by omega),ar (s.au+(s.params.length:Int)) (by omega),
  tB 62 (by simp[e2]:(s.ins != (s.au+(s.params.length:Int)))=false),
  .s (Sp.upto (EU s) 0 s.ops.length (by omega) (fun x hx hltx=>by
    have hgo:=g.ops x;exact aB (chain [tT 68 ((x:Int)<(s.ops.length:Int)) (by omega),iX ((x:Int)) (s.ops.length) (by omega),ar (s.ins+(x:Int)) (by omega),
     .c (nQ _ _ hgo:ae 95 [(gp (s.ops.getD x b6)),(iP (s.ins+(x:Int)))] _),tB 81 (by rw[hlo x (by omega)];rfl:(!(aL (s.ops.getD x b6) (s.ins+(x:Int))))=false),
     ar ((x:Int)+1) (by omega)] <| .nil) (by kernel_rfl))
  (fun hx=>by
    exact aB (chain [tF 68 ((s.ops.length:Int)<(s.ops.length:Int)) (by omega)] <| .nil) (by kernel_rfl)) (by nofun):bA 5 Tryz.f49 (EU s 0) (.exit 0) ⟨131,true,[(3,.box 3 0),(1,.box 1 0)],[(3,.cells 25 [(iP s.ins),(bJ s.ops),(bN s.outs)]),(1,.cells 28 [(iP s.ins),(bJ s.ops),(bN s.outs),(iP s.au),(bE s.params)])]⟩) .nil,
  .s (Sp.upto (E4 s) 0 s.outs.length (by omega) (fun x hx hltx=>by
    have hox:=hou x (by omega);exact aB (chain [tT 86 ((x:Int)<(s.outs.length:Int)) (by omega),iX ((x:Int)) (s.outs.length) (by omega),tF 94 ((s.outs.getD x 0)<0) (by omega),iX ((x:Int)) (s.outs.length) (by omega),
     ar (s.ins+(s.ops.length:Int)) (by omega),tF 107 ((s.ins+(s.ops.length:Int))<=(s.outs.getD x 0)) (by omega),ar ((x:Int)+1) (by omega)] <| .nil) (by kernel_rfl))
  (fun hx=>by
    exact aB (chain [tF 86 ((s.outs.length:Int)<(s.outs.length:Int)) (by omega)] <| .nil) (by kernel_rfl)) (by nofun):bA 10 Tryz.f49 (E4 s 0) (.exit 2) ⟨131,true,[(1,.box 1 0)],[(1,.cells 28 [(iP s.ins),(bJ s.ops),(bN s.outs),(iP s.au),(bE s.params)])]⟩) .nil,
  .s (Sp.upto (E5 s N) 0 N (by omega) (fun x hx hltx=>by
    have hgx:=g.params x;exact aB (chain [tT 113 ((x:Int)<(s.params.length:Int)) (by omega),iX ((x:Int)) (s.params.length) (by omega),tB 121 ((hpa x (by omega)).2:(s.params.getD x aR).all=false),
     iX ((x:Int)) (s.params.length) (by omega),.c (mN _ ‹_›:ae 19 [(fE (s.params.getD x aR))] _),tB 129 (by rw[(hpa x (by omega)).1];rfl:(!(okB (s.params.getD x aR)))=false),
     ar ((x:Int)+1) (by omega)] <| .nil) (by kernel_rfl))
  (fun hx=>by
    have hgx:=g.params N;exact aB (chain [tT 113 ((N:Int)<(s.params.length:Int)) (by omega),iX ((N:Int)) (s.params.length) (by omega),tB 121 (hN:(s.params.getD N aR).all=false),iX ((N:Int)) (s.params.length) (by omega),
    .c (mN _ ‹_›:ae 19 [(fE (s.params.getD N aR))] _),tB 129 (by rw[hM];rfl:(!(okB (s.params.getD N aR)))=true)] <| .nil) (by kernel_rfl)) (by nofun):bA 15 Tryz.f49 (E5 s N 0) .ret ⟨131,true,[(2,.e (bP false))],[]⟩) .nil] <| .nil) (by kernel_rfl)
theorem P9(s:bk)(g:s.Good)(sm:s.Small)(i0:0<=s.ins)(i8:s.ins<=8)(l1:s.ops.length<=200)(l2:s.outs.length<=200)(s1:1<=s.au)(s4:s.au<=4)(e1:(s.outs.length:Int)=s.au)(e2:s.ins=s.au+(s.params.length:Int))(p4:s.params.length<=4)(hlo:∀ k,k<s.ops.length->(aL (s.ops.getD k b6) (s.ins+(k:Int)))=true)(hou:∀ k,k<s.outs.length->0<=(s.outs.getD k 0)/\(s.outs.getD k 0)<s.ins+(s.ops.length:Int))(hpa:∀ k,k<s.params.length->okB (s.params.getD k aR)=true/\(s.params.getD k aR).all=false):ae 49 [(cj s)] (bP true):=by
 have sp:=sm.params;have so:=sm.outs;have sq:=sm.ops;exact tr true Tryz.call49 Tryz.func49 (chain [tF 11 (s.ins<0) (by omega),tF 15 (8<s.ins) (by omega),tF 21 (200<(s.ops.length:Int)) (by omega),tF 27 (200<(s.outs.length:Int)) (by omega),tF 32 (s.au<1) (by omega),tF 37 (4<s.au) (by omega),
  tB 45 (by simp[e1]:((s.outs.length:Int) != s.au)=false),tF 51 (4<(s.params.length:Int)) (by omega),ar (s.au+(s.params.length:Int)) (by omega),
  tB 62 (by simp[e2]:(s.ins != (s.au+(s.params.length:Int)))=false),
  .s (Sp.upto (EV s) 0 s.ops.length (by omega) (fun x hx hltx=>by
    have hgo:=g.ops x;exact aB (chain [tT 68 ((x:Int)<(s.ops.length:Int)) (by omega),iX ((x:Int)) (s.ops.length) (by omega),ar (s.ins+(x:Int)) (by omega),
     .c (nQ _ _ hgo:ae 95 [(gp (s.ops.getD x b6)),(iP (s.ins+(x:Int)))] _),tB 81 (by rw[hlo x (by omega)];rfl:(!(aL (s.ops.getD x b6) (s.ins+(x:Int))))=false),
     ar ((x:Int)+1) (by omega)] <| .nil) (by kernel_rfl))
  (fun hx=>by
    exact aB (chain [tF 68 ((s.ops.length:Int)<(s.ops.length:Int)) (by omega)] <| .nil) (by kernel_rfl)) (by nofun):bA 5 Tryz.f49 (EV s 0) (.exit 0) ⟨131,true,[(3,.box 3 0),(1,.box 1 0)],[(3,.cells 25 [(iP s.ins),(bJ s.ops),(bN s.outs)]),(1,.cells 28 [(iP s.ins),(bJ s.ops),(bN s.outs),(iP s.au),(bE s.params)])]⟩) .nil,
  .s (Sp.upto (E6 s) 0 s.outs.length (by omega) (fun x hx hltx=>by
    have hox:=hou x (by omega);exact aB (chain [tT 86 ((x:Int)<(s.outs.length:Int)) (by omega),iX ((x:Int)) (s.outs.length) (by omega),tF 94 ((s.outs.getD x 0)<0) (by omega),iX ((x:Int)) (s.outs.length) (by omega),
     ar (s.ins+(s.ops.length:Int)) (by omega),tF 107 ((s.ins+(s.ops.length:Int))<=(s.outs.getD x 0)) (by omega),ar ((x:Int)+1) (by omega)] <| .nil) (by kernel_rfl))
  (fun hx=>by
    exact aB (chain [tF 86 ((s.outs.length:Int)<(s.outs.length:Int)) (by omega)] <| .nil) (by kernel_rfl)) (by nofun):bA 10 Tryz.f49 (E6 s 0) (.exit 2) ⟨131,true,[(1,.box 1 0)],[(1,.cells 28 [(iP s.ins),(bJ s.ops),(bN s.outs),(iP s.au),(bE s.params)])]⟩) .nil,
  .s (Sp.upto (E7 s) 0 s.params.length (by omega) (fun x hx hltx=>by
    have hgx:=g.params x;exact aB (chain [tT 113 ((x:Int)<(s.params.length:Int)) (by omega),iX ((x:Int)) (s.params.length) (by omega),tB 121 ((hpa x (by omega)).2:(s.params.getD x aR).all=false),
     iX ((x:Int)) (s.params.length) (by omega),.c (mN _ ‹_›:ae 19 [(fE (s.params.getD x aR))] _),tB 129 (by rw[(hpa x (by omega)).1];rfl:(!(okB (s.params.getD x aR)))=false),
     ar ((x:Int)+1) (by omega)] <| .nil) (by kernel_rfl))
  (fun hx=>by
    exact aB (chain [tF 113 ((s.params.length:Int)<(s.params.length:Int)) (by omega)] <| .nil) (by kernel_rfl)) (by nofun):bA 15 Tryz.f49 (E7 s 0) (.exit 4) ⟨131,true,[],[]⟩) .nil] <| .nil) (by kernel_rfl)
theorem ri(s:bk)(g:s.Good)(sm:s.Small):ae 49 [cj s] (bP (cU s)):=by
 by_cases hc:0<=s.ins/\s.ins<=8/\s.ops.length<=200/\s.outs.length<=200/\1<=s.au/\s.au<=4/\(s.outs.length:Int)=s.au/\s.params.length<=4/\s.ins=s.au+(s.params.length:Int)
 rotate_left
 .rw [show cU s=false from Rt hc]
  exact P3 s g sm hc
 obtain⟨i0,i8,l1,l2,s1,s4,e1,p4,e2⟩:=hc;by_cases c2:yB s=true
 rotate_left
 .rw [show cU s=false by unfold cU;rw[Bool.eq_false_iff.2 c2];simp]
  obtain⟨N,n1,n2,n3⟩:=pS c2;exact P4 s g sm i0 i8 l1 l2 s1 s4 e1 e2 p4 N n1 (fun k hk=>by simpa using n3 k hk) (by simpa using n2)
 have hlo:∀ k,k<s.ops.length->aL (s.ops.getD k b6) (s.ins+(k:Int))=true:=fun k hk=>List.all_eq_true.1 c2 k (List.mem_range.2 hk)
 by_cases c3:kJ s=true
 rotate_left
 .rw [show cU s=false by unfold cU;rw[Bool.eq_false_iff.2 c3];simp]
  obtain⟨N,n1,n2,n3⟩:=pS c3;have hou:∀ k,k<N->0<=s.outs.getD k 0/\s.outs.getD k 0<s.ins+(s.ops.length:Int):=fun k hk=>by simpa[kF]using n3 k hk
  have hN:¬(0<=s.outs.getD N 0/\s.outs.getD N 0<s.ins+(s.ops.length:Int)):=fun q=>by
   rw[show kF s (s.outs.getD N 0)=true from decide_eq_true q]at n2;cases n2
  by_cases h0:s.outs.getD N 0<0
  .exact P5 s g sm i0 i8 l1 l2 s1 s4 e1 e2 p4 hlo N n1 hou h0
  .exact P6 s g sm i0 i8 l1 l2 s1 s4 e1 e2 p4 hlo N n1 hou (by omega) (by omega)
 have hou:∀ k,k<s.outs.length->0<=s.outs.getD k 0/\s.outs.getD k 0<s.ins+(s.ops.length:Int):=fun k hk=>by simpa[kF]using List.all_eq_true.1 c3 k (List.mem_range.2 hk)
 by_cases c4:pD s=true
 .rw [show cU s=true by unfold cU;rw[decide_eq_true (⟨i0,i8,l1,l2⟩:_/\_),c2,c3,decide_eq_true (⟨s1,s4,e1,e2,p4⟩:_/\_),c4];rfl]
  exact P9 s g sm i0 i8 l1 l2 s1 s4 e1 e2 p4 hlo hou fun k hk=>by simpa[dE]using List.all_eq_true.1 c4 k (List.mem_range.2 hk)
 .rw [show cU s=false by unfold cU;rw[Bool.eq_false_iff.2 c4];simp]
  obtain⟨N,n1,n2,n3⟩:=pS c4;have hpa:∀ k,k<N->okB (s.params.getD k aR)=true/\(s.params.getD k aR).all=false:=fun k hk=>by simpa[dE]using n3 k hk
  cases ha:(s.params.getD N aR).all with
  | true=>exact P7 s g sm i0 i8 l1 l2 s1 s4 e1 e2 p4 hlo hou N n1 hpa ha
  | false=>exact P8 s g sm i0 i8 l1 l2 s1 s4 e1 e2 p4 hlo hou N n1 hpa ha (by
   cases hk:okB (s.params.getD N aR)with
   | false=>rfl
   | true=>rw[show dE (s.params.getD N aR)=true by unfold dE;rw[hk,ha];rfl]at n2;cases n2)
theorem Qa(s:bk)(g:s.Good)(sm:s.Small)(b:List RI)(gb:∀ i,(b.getD i aR).Good)(hbl:b.length<=1000)(hs:cU s=false):ae 15 [(cj s),(bE b)] (bP false):=by
 exact tr true Tryz.call15 Tryz.func15 (chain [.c (ri _ g sm:ae 49 [(cj s)] _),tB 8 (by rw[hs];rfl:(!(cU s))=true)] <| .nil) (by kernel_rfl)
theorem Qb(s:bk)(g:s.Good)(sm:s.Small)(b:List RI)(gb:∀ i,(b.getD i aR).Good)(hbl:b.length<=1000)(hs:cU s=true)(hl:¬(b.length:Int)=s.au):ae 15 [(cj s),(bE b)] (bP false):=by
 exact tr true Tryz.call15 Tryz.func15 (chain [.c (ri _ g sm:ae 49 [(cj s)] _),tB 8 (by rw[hs];rfl:(!(cU s))=false),tB 14 (by simpa using hl:((b.length:Int) != s.au)=true)] <| .nil) (by kernel_rfl)
theorem Qc(s:bk)(g:s.Good)(sm:s.Small)(b:List RI)(gb:∀ i,(b.getD i aR).Good)(hbl:b.length<=1000)(hs:cU s=true)(hl:(b.length:Int)=s.au)(N:Nat)(hN0:N<b.length)(hpa:∀ k,k<N->okB (b.getD k aR)=true/\(b.getD k aR).all=false)(hN:(b.getD N aR).all=true):ae 15 [(cj s),(bE b)] (bP false):=by
 exact tr true Tryz.call15 Tryz.func15 (chain [.c (ri _ g sm:ae 49 [(cj s)] _),tB 8 (by rw[hs];rfl:(!(cU s))=false),tB 14 (by simp[hl]:((b.length:Int) != s.au)=false),
  .s (Sp.upto (Ey s b N) 0 N (by omega) (fun x hx hltx=>by
    have hgx:=gb x;exact aB (chain [tT 19 ((x:Int)<(b.length:Int)) (by omega),iX ((x:Int)) (b.length) (by omega),tB 26 ((hpa x (by omega)).2:(b.getD x aR).all=false),iX ((x:Int)) (b.length) (by omega),
     .c (mN _ ‹_›:ae 19 [(fE (b.getD x aR))] _),tB 33 (by rw[(hpa x (by omega)).1];rfl:(!(okB (b.getD x aR)))=false),ar ((x:Int)+1) (by omega)] <| .nil) (by kernel_rfl))
  (fun hx=>by
    have hgx:=gb N;exact aB (chain [tT 19 ((N:Int)<(b.length:Int)) (by omega),iX ((N:Int)) (b.length) (by omega),tB 26 (hN:(b.getD N aR).all=true)] <| .nil) (by kernel_rfl)) (by nofun):bA 4 Tryz.f15 (Ey s b N 0) .ret ⟨35,true,[(4,.e (bP false))],[]⟩) .nil] <| .nil) (by kernel_rfl)
theorem Qd(s:bk)(g:s.Good)(sm:s.Small)(b:List RI)(gb:∀ i,(b.getD i aR).Good)(hbl:b.length<=1000)(hs:cU s=true)(hl:(b.length:Int)=s.au)(N:Nat)(hN0:N<b.length)(hpa:∀ k,k<N->okB (b.getD k aR)=true/\(b.getD k aR).all=false)(hN:(b.getD N aR).all=false)(hM:okB (b.getD N aR)=false):ae 15 [(cj s),(bE b)] (bP false):=by
 exact tr true Tryz.call15 Tryz.func15 (chain [.c (ri _ g sm:ae 49 [(cj s)] _),tB 8 (by rw[hs];rfl:(!(cU s))=false),tB 14 (by simp[hl]:((b.length:Int) != s.au)=false),
  .s (Sp.upto (Ez s b N) 0 N (by omega) (fun x hx hltx=>by
    have hgx:=gb x;exact aB (chain [tT 19 ((x:Int)<(b.length:Int)) (by omega),iX ((x:Int)) (b.length) (by omega),tB 26 ((hpa x (by omega)).2:(b.getD x aR).all=false),iX ((x:Int)) (b.length) (by omega),
     .c (mN _ ‹_›:ae 19 [(fE (b.getD x aR))] _),tB 33 (by rw[(hpa x (by omega)).1];rfl:(!(okB (b.getD x aR)))=false),ar ((x:Int)+1) (by omega)] <| .nil) (by kernel_rfl))
  (fun hx=>by
    have hgx:=gb N;exact aB (chain [tT 19 ((N:Int)<(b.length:Int)) (by omega),iX ((N:Int)) (b.length) (by omega),tB 26 (hN:(b.getD N aR).all=false),iX ((N:Int)) (b.length) (by omega),
    .c (mN _ ‹_›:ae 19 [(fE (b.getD N aR))] _),tB 33 (by rw[hM];rfl:(!(okB (b.getD N aR)))=true)] <| .nil) (by kernel_rfl)) (by nofun):bA 4 Tryz.f15 (Ez s b N 0) .ret ⟨35,true,[(4,.e (bP false))],[]⟩) .nil] <| .nil) (by kernel_rfl)
theorem Qe(s:bk)(g:s.Good)(sm:s.Small)(b:List RI)(gb:∀ i,(b.getD i aR).Good)(hbl:b.length<=1000)(hs:cU s=true)(hl:(b.length:Int)=s.au)(hpa:∀ k,k<b.length->okB (b.getD k aR)=true/\(b.getD k aR).all=false):ae 15 [(cj s),(bE b)] (bP true):=by
 exact tr true Tryz.call15 Tryz.func15 (chain [.c (ri _ g sm:ae 49 [(cj s)] _),tB 8 (by rw[hs];rfl:(!(cU s))=false),tB 14 (by simp[hl]:((b.length:Int) != s.au)=false),
  .s (Sp.upto (EA s b) 0 b.length (by omega) (fun x hx hltx=>by
    have hgx:=gb x;exact aB (chain [tT 19 ((x:Int)<(b.length:Int)) (by omega),iX ((x:Int)) (b.length) (by omega),tB 26 ((hpa x (by omega)).2:(b.getD x aR).all=false),iX ((x:Int)) (b.length) (by omega),
     .c (mN _ ‹_›:ae 19 [(fE (b.getD x aR))] _),tB 33 (by rw[(hpa x (by omega)).1];rfl:(!(okB (b.getD x aR)))=false),ar ((x:Int)+1) (by omega)] <| .nil) (by kernel_rfl))
  (fun hx=>by
    exact aB (chain [tF 19 ((b.length:Int)<(b.length:Int)) (by omega)] <| .nil) (by kernel_rfl)) (by nofun):bA 4 Tryz.f15 (EA s b 0) (.exit 0) ⟨35,true,[],[]⟩) .nil] <| .nil) (by kernel_rfl)
noncomputable def kU(s:bk)(b:List RI):Bool:=cU s&&gP s.au b
theorem EB(s:bk)(g:s.Good)(sm:s.Small)(b:List RI)(gb:∀ i,(b.getD i aR).Good)(hbl:b.length<=1000):ae 15 [cj s,bE b] (bP (kU s b)):=by
 unfold kU;cases hs:cU s with
 | false=>exact Qa s g sm b gb hbl hs
 | true =>
  rw[Bool.true_and];by_cases hl:(b.length:Int)=s.au
  rotate_left
  .rw [show gP s.au b=false by unfold gP;rw[decide_eq_false hl];rfl]
   exact Qb s g sm b gb hbl hs hl
  by_cases c4:((List.range b.length).all fun i=>dE (b.getD i aR))=true
  .rw [show gP s.au b=true by unfold gP;rw[decide_eq_true hl,c4];rfl]
   exact Qe s g sm b gb hbl hs hl fun k hk=>by simpa[dE]using List.all_eq_true.1 c4 k (List.mem_range.2 hk)
  .rw [show gP s.au b=false by unfold gP;rw[Bool.eq_false_iff.2 c4];simp]
   obtain⟨N,n1,n2,n3⟩:=pS c4;have hpa:∀ k,k<N->okB (b.getD k aR)=true/\(b.getD k aR).all=false:=fun k hk=>by simpa[dE]using n3 k hk
   cases ha:(b.getD N aR).all with
   | true=>exact Qc s g sm b gb hbl hs hl N n1 hpa ha
   | false=>exact Qd s g sm b gb hbl hs hl N n1 hpa ha (by
    cases hk:okB (b.getD N aR)with
    | false=>rfl
    | true=>rw[show dE (b.getD N aR)=true by unfold dE;rw[hk,ha];rfl]at n2;cases n2)
theorem re(p:Int):cw p=decide (8<=p/\p<=512):=by
 rw[Bool.eq_iff_iff,fU,decide_eq_true_eq]
theorem Qf(s:bk)(g:s.Good)(sm:s.Small)(x:List RI)(gx:∀ i,(x.getD i aR).Good)(hxl:x.length<=1000)(d:RD)(gd:d.Good)(p:Int)(hd:¬d.Ok):ae 14 [(cj s),(bE x),(cO d),(iP p)] (bP (dg s x d p)):=by
 have hdk:kI d=false:=Bool.eq_false_iff.2 fun q=>hd (jI.1 q)
 exact tr true Tryz.call14 Tryz.func14 (chain [.c (EB _ g sm _ gx hxl:ae 15 [(cj s),(bE x)] _)] <| .w (kU s x=true)
  (fun k1=>chain [tB 11 (k1),.c (ug _ ‹_› _ jI:ae 46 [(cO d)] _),tB 14 (hdk:(kI d)=false)]<|rQ (bP false) (bP (dg s x d p)) (bL (by simp_all[dg,kU,re]<;>intros<;>omega)))
  (fun k1=>chain [tB 11 (Bool.eq_false_iff.2 k1)]<|rQ (bP false) (bP (dg s x d p)) (bL (by simp_all[dg,kU,re]<;>intros<;>omega)))) (by kernel_rfl)
theorem Qg(s:bk)(g:s.Good)(sm:s.Small)(x:List RI)(gx:∀ i,(x.getD i aR).Good)(hxl:x.length<=1000)(d:RD)(gd:d.Good)(p:Int)(hd:d.Ok):ae 14 [(cj s),(bE x),(ag d.dy),(iP p)] (bP (dg s x d p)):=by
 have hdk:kI d=true:=jI.2 hd;have hv:=hd.valid;exact tr true Tryz.call14 Tryz.func14 (chain [.c (EB _ g sm _ gx hxl:ae 15 [(cj s),(bE x)] _)] <| .w (kU s x=true)
  (fun k1=>chain [tB 11 (k1),.c (rn _ ‹_›:ae 46 [(ag d.dy)] _),.c (ue _:ae 47 [(ag d.dy)] _)] <| .w (0<(Dy.sign d.dy))
   (fun k2=>chain [tB 19 (decide_eq_true k2),.c (QO _:ae 48 [(iP p)] _)]<|rQ (bP (cw p)) (bP (dg s x d p)) (bL (by simp_all[dg,kU,re]<;>intros<;>omega)))
   (fun k2=>chain [tB 19 (decide_eq_false k2)]<|rQ (bP false) (bP (dg s x d p)) (bL (by simp_all[dg,kU,re]<;>intros<;>omega))))
  (fun k1=>chain [tB 11 (Bool.eq_false_iff.2 k1)]<|rQ (bP false) (bP (dg s x d p)) (bL (by simp_all[dg,kU,re]<;>intros<;>omega)))) (by kernel_rfl)
theorem EC(s:bk)(g:s.Good)(sm:s.Small)(x:List RI)(gx:∀ i,(x.getD i aR).Good)(hxl:x.length<=1000)(d:RD)(gd:d.Good)(p:Int):ae 14 [cj s,bE x,cO d,iP p] (bP (dg s x d p)):=by
 by_cases hd:d.Ok
 .have:=Qg s g sm x gx hxl d gd p hd
  rwa[<-vS,hd.eq gd]at this
 .exact Qf s g sm x gx hxl d gd p hd
open Go.RowKit Fp Pu
def fX:bQ:=⟨⟨1,[],[0]⟩,1,[]⟩
theorem yZ:c9 fX:=by
 refine⟨⟨by decide,by decide,by decide,fun i hi=>absurd hi (Nat.not_lt_zero i),fun i hi=>?_⟩,by decide,by decide,rfl,rfl,by decide,fun i hi=>absurd hi (Nat.not_lt_zero i)⟩;have hi:i<1:=hi;obtain rfl:i=0:=by omega
 decide
theorem RV{B:Iv}(v:B.Valid)(a:B.all=false):bM 1 [B]:=⟨rfl,fun i hi=>by
 have hi:i<1:=hi;obtain rfl:i=0:=by omega
 exact⟨v,a⟩⟩
abbrev ie:List Iv:=[⟨bT 1 0,bT 1 0,false⟩]
abbrev iC:Dy:=bT 1 (-2)
abbrev sV:List Iv:=[⟨bT 2 (-1),bT 3 (-1),false⟩]
abbrev sW:List Iv:=[⟨bT 4 (-2),bT 5 (-2),false⟩]
theorem Ll:∀ k:Nat,k<19->e9 fX ie iC 60 ((k:Int)-20)=false:=by
 have h:((List.range 19).all fun k:Nat=>!(e9 fX ie iC 60 ((k:Int)-20)))=true:=by decide +kernel
 intro k hk;simpa using List.all_eq_true.1 h k (List.mem_range.2 hk)
theorem Lm:e9 fX ie iC 60 (((19:Nat):Int)-20)=true:=by decide +kernel
theorem Lj:(fw ie (dK (((19:Nat):Int)-20))).length=1:=by decide +kernel
theorem Lh:fS fX ie iC sV 60=true:=by decide +kernel
theorem Li:fS fX ie iC sW 60=false:=by decide +kernel
theorem wD{a b e:Int}(h1:a.natAbs<4294967296)(h2:b.natAbs<4294967296)(h3:-1000<=e)(h4:e<=1000)(h:aC (bT a e) (bT b e)<=0):bM 1 [⟨bT a e,bT b e,false⟩] :=
 RV (.inr ⟨rfl,pZ h1 h3 h4,pZ h2 h3 h4,h⟩) rfl
theorem wC:bM 1 ie:=wD (by decide) (by decide) (by decide) (by decide) (by decide +kernel)
theorem K8:bM 1 sV:=wD (by decide) (by decide) (by decide) (by decide) (by decide +kernel)
theorem K9:bM 1 sW:=wD (by decide) (by decide) (by decide) (by decide) (by decide +kernel)
theorem wB:iC.Valid:=pZ (by decide) (by decide) (by decide)
theorem wA:0<iC.sign:=by decide +kernel
open Go.RowKit Fp Pu
theorem qB(n e:Int)(h1:n.natAbs<4294967296)(h2:-1000<=e)(h3:e<=1000):ae 39 [(iP n),(iP e)] (ag (bT n e)):=by
 have hrg:cW (canon (Dy.neg (ay n)) (Dy.m (ay n)) ((Dy.e (ay n))+e)):=by rw[Ba];exact(pZ h1 h2 h3).range
 exact tr true Tryz.call39 Tryz.func39 (chain [.c (QF _ (by omega):ae 81 [(iP n)] _),.c (QQ _ _ (dD (by omega)) (by omega) (by omega) hrg:ae 31 [(ag (ay n)),(iP e)] _)]<|rQ (ag (canon (Dy.neg (ay n)) (Dy.m (ay n)) ((Dy.e (ay n))+e))) (ag (bT n e)) (by rw[Ba])) (by kernel_rfl)
theorem xg(a b e:Int)(h1:a.natAbs<4294967296)(h4:b.natAbs<4294967296)(h2:-1000<=e)(h3:e<=1000):ae 38 [(iP a),(iP b),(iP e)] (ai (Iv.mk (bT a e) (bT b e) false)):=by
 exact tr true Tryz.call38 Tryz.func38 (chain [.c (qB _ _ (by omega) (by omega) (by omega):ae 39 [(iP a),(iP e)] _),.c (qB _ _ (by omega) (by omega) (by omega):ae 39 [(iP b),(iP e)] _)] <| .nil) (by kernel_rfl)
theorem yY:E.le (.agg [iP 1,.v (.slice none 0 0),.sl true 1 1 fun i j=>[iP 0].getD (i*1+j) (.v (.bool false)),iP 1,.v (.slice none 0 0)]) (a7 fX) :=
 .agg (.cons (.refl _) (.cons (.nil _ _ _) (.cons (.sl fun i j hi hj=>by
  obtain rfl:i=0:=by omega
  obtain rfl:j=0:=by omega
  exact⟨.of_eq rfl,rfl⟩) (.cons (.refl _) (.cons (.nil _ _ _) .nil)))))
theorem Lc:ae 26 [a7 fX,ak ie,ag iC,iP 60] (.aq [ak (fw ie (dK (((19:Nat):Int)-20))),iP 0]) :=
 B7 fX ie iC 60 yZ wC wB wA (by decide) (by decide) 19 (by decide) Ll Lm
theorem Ld:ae 23 [a7 fX,ak ie,ag iC,ak sV,iP 60] (bP true):=by
 have:=ny fX ie iC sV 60 yZ wC wB wA K8 (by decide) (by decide);rwa[Lh]at this
theorem Le:ae 23 [a7 fX,ak ie,ag iC,ak sW,iP 60] (bP false):=by
 have:=ny fX ie iC sW 60 yZ wC wB wA K9 (by decide) (by decide);rwa[Li]at this
theorem qA  : ae 9 [] (bP true):=by
 exact tr true Tryz.call9 Tryz.func9 (chain [.c (xg _ _ _ (by decide) (by decide) (by decide) (by decide):ae 38 [(iP 1),(iP 1),(iP 0)] _),
  .o 9 (.e (di _):PV.le (.e (.sl true 1 7 fun i_ j_=>(aE (Iv.mk (bT 1 0) (bT 1 0) false)).getD (i_*7+j_) (.v (.bool false)))) (.e (ak [(Iv.mk (bT 1 0) (bT 1 0) false)]))),
  .o 11 (.e yY:PV.le (.e (.agg [(iP 1),(.v (.slice none 0 0)),(.sl true 1 1 fun i_ j_=>[(iP 0)].getD (i_*1+j_) (.v (.bool false))),(iP 1),(.v (.slice none 0 0))])) (.e (a7 fX))),
  .c (qB _ _ (by decide) (by decide) (by decide):ae 39 [(iP 1),(iP (-2))] _),.c (Lc:ae 26 [(a7 fX),(ak [(Iv.mk (bT 1 0) (bT 1 0) false)]),(ag (bT 1 (-2))),(iP 60)] _),
  .o 17 (.e yY:PV.le (.e (.agg [(iP 1),(.v (.slice none 0 0)),(.sl true 1 1 fun i_ j_=>[(iP 0)].getD (i_*1+j_) (.v (.bool false))),(iP 1),(.v (.slice none 0 0))])) (.e (a7 fX))),
  .c (qB _ _ (by decide) (by decide) (by decide):ae 39 [(iP 1),(iP (-2))] _),.c (xg _ _ _ (by decide) (by decide) (by decide) (by decide):ae 38 [(iP 2),(iP 3),(iP (-1))] _),
  .o 21 (.e (di _):PV.le (.e (.sl true 1 7 fun i_ j_=>(aE (Iv.mk (bT 2 (-1)) (bT 3 (-1)) false)).getD (i_*7+j_) (.v (.bool false)))) (.e (ak [(Iv.mk (bT 2 (-1)) (bT 3 (-1)) false)]))),
  .c (Ld:ae 23 [(a7 fX),(ak [(Iv.mk (bT 1 0) (bT 1 0) false)]),(ag (bT 1 (-2))),(ak [(Iv.mk (bT 2 (-1)) (bT 3 (-1)) false)]),(iP 60)] _),
  .o 24 (.e yY:PV.le (.e (.agg [(iP 1),(.v (.slice none 0 0)),(.sl true 1 1 fun i_ j_=>[(iP 0)].getD (i_*1+j_) (.v (.bool false))),(iP 1),(.v (.slice none 0 0))])) (.e (a7 fX))),
  .c (qB _ _ (by decide) (by decide) (by decide):ae 39 [(iP 1),(iP (-2))] _),.c (xg _ _ _ (by decide) (by decide) (by decide) (by decide):ae 38 [(iP 4),(iP 5),(iP (-2))] _),
  .o 28 (.e (di _):PV.le (.e (.sl true 1 7 fun i_ j_=>(aE (Iv.mk (bT 4 (-2)) (bT 5 (-2)) false)).getD (i_*7+j_) (.v (.bool false)))) (.e (ak [(Iv.mk (bT 4 (-2)) (bT 5 (-2)) false)]))),
  .c (Le:ae 23 [(a7 fX),(ak [(Iv.mk (bT 1 0) (bT 1 0) false)]),(ag (bT 1 (-2))),(ak [(Iv.mk (bT 4 (-2)) (bT 5 (-2)) false)]),(iP 60)] _),tB 34 (by decide:((0:Int)==0)=true),
  tB 39 (by rw[Lj];rfl:((((fw ie (dK (((19:Nat):Int)-20))).length:Nat):Int)==1)=true)] <| .nil) (by kernel_rfl)
def eW(d:RD):Bool:=decide (20<d.L.length)||(decide (300<d.e)||decide (d.e < -300))
def lp(x:RI):Bool:=eW x.lo||eW x.hi
def iw(l:List RI):Bool:=decide (l.length<=8) && !((List.range l.length).any fun i=>lp (l.getD i aR))
def ij(s:bk):Bool:=decide (s.ops.length<=60)&&(decide (s.outs.length<=8)&&iw s.params)
theorem yP{l:List RI}(h:iw l=true):l.length<=8:=by
 unfold iw at h;rw[Bool.and_eq_true,decide_eq_true_eq]at h;exact h.1
theorem Cj{s:bk}(h:ij s=true):s.Small:=by
 unfold ij at h;rw[Bool.and_eq_true,Bool.and_eq_true,decide_eq_true_eq,decide_eq_true_eq]at h;have:=yP h.2.2;exact⟨by omega,by omega,by omega⟩
theorem qC(d:RD):ae 12 [(cO d)] (bP (eW d)):=by
 exact tr true Tryz.call12 Tryz.func12 (.w (20<(d.L.length:Int))
  (fun k1=>chain [tB 6 (decide_eq_true k1)]<|rR (bP (eW d)) (by
      exact .of_eq (by
       have:eW d=true:=by unfold eW;simp[show 20<d.L.length from by omega]
       rw[this]):E.le (bP true) (bP (eW d))))
  (fun k1=>chain [tB 6 (decide_eq_false k1)] <| .w (300<d.e)
   (fun k2=>chain [tB 10 (decide_eq_true k2)]<|rR (bP (eW d)) (by
      exact .of_eq (by
       have:eW d=true:=by unfold eW;simp[show ¬20<d.L.length from by omega,k2]
       rw[this]):E.le (bP true) (bP (eW d))))
   (fun k2=>chain [tB 10 (decide_eq_false k2)]<|rR (bP (eW d)) (by
      exact .of_eq (by
       have:eW d=(decide (d.e<(-300))):=by unfold eW;simp[show ¬20<d.L.length from by omega,k2]
       rw[this]):E.le (bP (decide (d.e<(-300)))) (bP (eW d)))))) (by kernel_rfl)
theorem NP(x:RI):ae 40 [(fE x)] (bP (lp x)):=by
 exact tr true Tryz.call40 Tryz.func40 (chain [.c (qC x.lo:ae 12 [(cO x.lo)] _)] <| .w (eW x.lo=true)
  (fun k1=>chain [tB 5 (k1)]<|rQ (bP true) (bP (lp x)) (bL (by simp_all[lp])))
  (fun k1=>chain [tB 5 (Bool.eq_false_iff.2 k1),.c (qC x.hi:ae 12 [(cO x.hi)] _)]<|rQ (bP (eW x.hi)) (bP (lp x)) (bL (by simp_all[lp])))) (by kernel_rfl)
theorem NL(l:List RI)(hl:l.length<=1000):ae 17 [bE l,.fn 40 []] (bP ((List.range l.length).any fun i=>lp (l.getD i aR))) :=
 w9 true l.length (fun i j=>(lJ (l.getD i aR)).getD j .any) 40 [] (fun i=>lp (l.getD i aR)) (fun i _=>NP _) (by omega)
theorem tp(l:List RI):ae 11 [(bE l)] (bP (iw l)):=by
 exact tr true Tryz.call11 Tryz.func11 (.w ((l.length:Int)<=8)
  (fun k1=>chain [tB 5 (decide_eq_true k1),.c (NL l (by omega):ae 17 [(bE l),(.fn 40 [])] _)]<|rQ (bP (!((List.range l.length).any fun i=>lp (l.getD i aR)))) (bP (iw l)) (bL (by unfold iw;simp[show l.length<=8 from by omega])))
  (fun k1=>chain [tB 5 (decide_eq_false k1)]<|rQ (bP false) (bP (iw l)) (bL (by unfold iw;simp[show ¬l.length<=8 from by omega])))) (by kernel_rfl)
theorem xf(s:bk):ae 10 [(cj s)] (bP (ij s)):=by
 exact tr true Tryz.call10 Tryz.func10 (.w ((s.ops.length:Int)<=60)
  (fun k1=>chain [tB 7 (decide_eq_true k1)] <| .w ((s.outs.length:Int)<=8)
   (fun k2=>chain [tB 13 (decide_eq_true k2),.c (tp _:ae 11 [(bE s.params)] _)]<|rQ (bP (iw s.params)) (bP (ij s)) (bL (by unfold ij;simp[show s.ops.length<=60 from by omega,show s.outs.length<=8 from by omega])))
   (fun k2=>chain [tB 13 (decide_eq_false k2)]<|rQ (bP false) (bP (ij s)) (bL (by unfold ij;simp[show s.ops.length<=60 from by omega,show ¬s.outs.length<=8 from by omega]))))
  (fun k1=>chain [tB 7 (decide_eq_false k1)]<|rQ (bP false) (bP (ij s)) (bL (by unfold ij;simp[show ¬s.ops.length<=60 from by omega])))) (by kernel_rfl)
theorem Qj(x:Iv)(hx:x.Valid):ae 58 [(ai x),(ai x)] (bP true):=by
 obtain⟨w1,w2⟩:=hx.ends;exact tr true Tryz.call58 Tryz.func58 (chain [tB 9 (by simp:(x.all==x.all)=true),.c (Fb _ _ true ⟨fun _=>rfl,fun _=>rfl⟩ (by have:=w1.af;omega) (by have:=w1.af;omega):ae 101 [(ag x.lo),(ag x.lo)] _),
  .c (Fb _ _ true ⟨fun _=>rfl,fun _=>rfl⟩ (by have:=w2.af;omega) (by have:=w2.af;omega):ae 101 [(ag x.hi),(ag x.hi)] _)] <| .nil) (by kernel_rfl)
theorem NM(x:Iv)(hx:x.Valid):ae 57 [(ai x),(ai x)] (bP true):=by
 exact tr true Tryz.call57 Tryz.func57 (.w (x.all=true)
  (fun k1=>chain [tB 6 (k1),tB 9 (k1)] <| .nil)
  (fun k1=>chain [tB 6 (Bool.eq_false_iff.2 k1),.c (Qj _ ‹_›:ae 58 [(ai x),(ai x)] _)] <| .nil)) (by kernel_rfl)
theorem NO(b:List Iv)(hb:eU b)(h8:b.length<=8):ae 21 [(ak b),(ak b)] (bP true):=by
 exact tr true Tryz.call21 Tryz.func21 (chain [.c (Aw b b 57 [] (fun _=>true) rfl (by omega) (fun i hi=>NM _ (hb i hi).1) (fun _ _=>rfl))] <| .nil) (by kernel_rfl)
noncomputable def ic(s:bQ)(x:List Iv)(d:Dy)(p:Nat):Option (List Iv):=@dite (Option (List Iv)) (c9 s/\bM s.au x/\d.Valid/\0<d.sign/\8<=p/\p<=512) (Classical.propDecidable _) (fun h=>Classical.choose (B6 s x d p h.1 h.2.1 h.2.2.1 h.2.2.2.1 h.2.2.2.2.1 h.2.2.2.2.2)) (fun _=>none)
theorem k0(s:bQ)(x:List Iv)(d:Dy)(p:Nat)(h:c9 s)(hx:bM s.au x)(hd:d.Valid)(h0:0<d.sign)(hp1:8<=p)(hp2:p<=512):ae 26 [a7 s,ak x,ag d,iP (p:Int)] (B5 (ic s x d p))/\(∀ b,ic s x d p=some b->bM s.au b/\fS s x d b p=true)/\(ic s x d p=none->∀ k:Nat,k<24->e9 s x d p ((k:Int)-20)=false):=by
 have hh:c9 s/\bM s.au x/\d.Valid/\0<d.sign/\8<=p/\p<=512:=⟨h,hx,hd,h0,hp1,hp2⟩
 unfold ic;rw[dif_pos hh];exact Classical.choose_spec (B6 s x d p h hx hd h0 hp1 hp2)
theorem J5(d:Dy):aC d d=0:=by
 unfold aC;rw[if_neg (Int.lt_irrefl _),if_neg (Int.lt_irrefl _)]
def cY(d:Dy)(k:Nat):Dy:=bH (canon d.neg d.m (d.e+(0-(k:Int))))
def eB(d:Dy)(k:Nat):Int:=cQ (canon d.neg d.m (d.e+(0-(k:Int))))
theorem kK(d:Dy)(k:Nat):(cY d k).Valid:=sF (gR _ _ _)
theorem lO{d:Dy}(h:0<d.sign){k:Nat}(he:eB d k=0):0<(cY d k).sign:=by
 have hr:cW (canon d.neg d.m (d.e+(0-(k:Int)))):=Classical.byContradiction fun q=>by unfold eB at he;rw[qb q]at he;cases he
 unfold cY;rw[mo hr];rw[(fW _).1]at h ⊢;rw[fN];rw[eN]at h;have p1:=df d.e;have p2:=df (d.e+(0-(k:Int)));have m0:(0:Rat)<=(d.m:Rat):=Rat.natCast_nonneg;split
 .rename_i hn
  rw[if_pos hn]at h;have:=Rat.mul_nonneg m0 (Rat.le_of_lt p1)
  grind
 .rename_i hn
  rw[if_neg hn]at h;have hm:(0:Rat)<(d.m:Rat):=by
   by_cases q:(d.m:Rat)=0
   .rw [q]at h;grind
   .grind
  exact Rat.mul_pos hm p2
theorem kN(d:Dy)(hd:d.Valid)(k:Nat)(hk:k<=1000):ae 36 [ag d,iP (0-(k:Int))] (.aq [ag (cY d k),iP (eB d k)]):=pW d _ hd (by omega) (by omega)
theorem LX{s:bk}(g:s.Good){x:List RI}(gx:∀ i,(x.getD i aR).Good){d:RD}(gd:d.Good){p:Int}(h:dg s x d p=true):c9 s.v/\bM s.v.au (x.map RI.iv)/\d.dy.Valid/\0<d.dy.sign/\8<=p/\p<=512/\cj s=a7 s.v/\bE x=ak (x.map RI.iv)/\cO d=ag d.dy:=by
 unfold dg at h;simp only[Bool.and_eq_true,decide_eq_true_eq]at h;obtain⟨⟨⟨⟨h1,h2⟩,h3⟩,h4⟩,h5⟩:=h;obtain⟨o1,o2⟩:=Ru g h1;have h3:=jI.1 h3;unfold gP at h2;rw[Bool.and_eq_true,decide_eq_true_eq]at h2;obtain⟨b1,b2⟩:=h2;have pa:∀ i,i<x.length->(x.getD i aR).Ok/\(x.getD i aR).all=false:=fun i hi=>by
  have:=List.all_eq_true.1 b2 i (List.mem_range.2 hi);unfold dE at this;rw[Bool.and_eq_true]at this;exact⟨im.1 this.1,by simpa using this.2⟩
 have at_:∀ i,i<x.length->(x.map RI.iv).getD i an=(x.getD i aR).iv:=fun i hi=>by simp[List.getD_eq_getElem?_getD,hi]
 have s1:=o1.s1;refine⟨o1,⟨by rw[List.length_map];show x.length=s.au.toNat;omega,fun i hi=>?_⟩,h3.valid,h4,h5.1,h5.2,o2,?_,?_⟩
 .have hi:i<x.length:=by simpa using hi
  rw[at_ i hi];exact⟨(pa i hi).1.valid,(pa i hi).2⟩
 .rw [<-C6]
  congr 1;apply List.ext_getElem?;intro i;unfold nU;rw[List.getElem?_map,List.getElem?_map];by_cases hi:i<x.length
  .have h1:=(pa i hi).1
   have g1:=gx i;rw[List.getElem?_eq_getElem hi];rw[List.getD_eq_getElem?_getD,List.getElem?_eq_getElem hi]at h1 g1;exact congrArg some (RI.Ok.eq (x:=x[i]) h1 g1).symm
  .rw [List.getElem?_eq_none (by omega)];rfl
 .rw [<-vS,h3.eq gd]
open Go.RowKit Fp Pu
def De(s:bQ)(x_:List Iv)(d:Dy)(p:Nat)(N:Nat)(i:Nat):PS:=⟨49,true,[(23,.e (iP i)),(8,.box 8 0),(6,.box 6 0),(4,.box 4 0),(1,.e (ak x_)),(3,.e (iP p))],[(8,.cells 31 [(bP false),(.v (.slice none 0 0)),(iP 0)]),(6,.cells 31 (aM d)),(4,.cells 28 [(iP s.tape.ins),(cF s.tape.ops),(cD s.tape.outs),(iP s.au),(ak s.params)])]⟩
def Di(s:bQ)(x_:List Iv)(d:Dy)(p:Nat)(N:Nat)(i:Nat):PS:=⟨49,true,[(23,.e (iP i)),(8,.box 8 0),(6,.box 6 0),(4,.box 4 0),(1,.e (ak x_)),(3,.e (iP p))],[(8,.cells 31 [(bP false),(.v (.slice none 0 0)),(iP 0)]),(6,.cells 31 (aM d)),(4,.cells 28 [(iP s.tape.ins),(cF s.tape.ops),(cD s.tape.outs),(iP s.au),(ak s.params)])]⟩
def Dd(s:bQ)(x_:List Iv)(d:Dy)(p:Nat)(i:Nat):PS:=⟨49,true,[(23,.e (iP i)),(8,.box 8 0),(6,.box 6 0),(4,.box 4 0),(1,.e (ak x_)),(3,.e (iP p))],[(8,.cells 31 [(bP false),(.v (.slice none 0 0)),(iP 0)]),(6,.cells 31 (aM d)),(4,.cells 28 [(iP s.tape.ins),(cF s.tape.ops),(cD s.tape.outs),(iP s.au),(ak s.params)])]⟩
def Dg(s:bQ)(x_:List Iv)(d:Dy)(p:Nat)(N:Nat)(b:List Iv)(i:Nat):PS:=⟨110,true,[(62,.e (iP i)),(11,.e (iP 0)),(10,.e (ak b)),(9,.box 9 0),(6,.box 6 0),(4,.box 4 0),(1,.e (ak x_)),(3,.e (iP p))],[(9,.cells 31 (aM (cY d N))),(6,.cells 31 (aM d)),(4,.cells 28 [(iP s.tape.ins),(cF s.tape.ops),(cD s.tape.outs),(iP s.au),(ak s.params)])]⟩
def Dh(s:bQ)(x_:List Iv)(d:Dy)(p:Nat)(N:Nat)(i:Nat):PS:=⟨110,true,[(62,.e (iP i)),(11,.e (iP 12)),(10,.e (.v (.slice none 0 0))),(9,.box 9 0),(6,.box 6 0),(4,.box 4 0),(1,.e (ak x_)),(3,.e (iP p))],[(9,.cells 31 (aM aI)),(6,.cells 31 (aM d)),(4,.cells 28 [(iP s.tape.ins),(cF s.tape.ops),(cD s.tape.outs),(iP s.au),(ak s.params)])]⟩
def Df(s:bQ)(x_:List Iv)(d:Dy)(p:Nat)(i:Nat):PS:=⟨110,true,[(62,.e (iP i)),(11,.e (iP 12)),(10,.e (.v (.slice none 0 0))),(9,.box 9 0),(6,.box 6 0),(4,.box 4 0),(1,.e (ak x_)),(3,.e (iP p))],[(9,.cells 31 (aM aI)),(6,.cells 31 (aM d)),(4,.cells 28 [(iP s.tape.ins),(cF s.tape.ops),(cD s.tape.outs),(iP s.au),(ak s.params)])]⟩
theorem Oq(s:bk)(g:s.Good)(sm:s.Small)(x:List RI)(gx:∀ i,(x.getD i aR).Good)(hxl:x.length<=1000)(d:RD)(gd:d.Good)(p:Int)(hf:dg s x d p=false):ae 34 [(cj s),(bE x),(cO d),(iP p)] (.aq [ag aI,.v (.slice none 0 0),iP 1]):=by
 exact tr true Tryz.call34 Tryz.func34 (chain [.c (by rw[<-hf];exact LV s g sm x gx hxl d gd p:ae 41 [(cj s),(bE x),(cO d),(iP p)] (bP false)),.o 22 (.e gZ:PV.le (.e (.agg [(bP false),(.v (.slice none 0 0)),(iP 0)])) (.e (ag aI)))]<|rR (.aq [ag aI,.v (.slice none 0 0),iP 1]) (.aq (.cons (by first|exact .refl _|exact gZ) (.cons (.refl _) (.cons (.refl _) .nil))):E.le (.aq [(ag aI),(.v (.slice none 0 0)),(iP 1)]) (.aq [ag aI,.v (.slice none 0 0),iP 1]))) (by kernel_rfl)
theorem Ov(s:bQ)(x_:List Iv)(d:Dy)(p:Nat)(h:c9 s)(hx:bM s.au x_)(hd:d.Valid)(h0:0<d.sign)(hp1:8<=p)(hp2:p<=512)(N:Nat)(hN0:N<31)(hlo:∀ k,k<N->eB d k=0/\ic s x_ (cY d k) p=none)(he:eB d N=0)(b:List Iv)(hn:ic s x_ (cY d N) p=some b):ae 34 [(a7 s),(ak x_),(ag d),(iP p)] (.aq [ag (cY d N),ak b,iP 0]):=by
 exact tr true Tryz.call34 Tryz.func34 (chain [.c (ky s x_ d p h hx hd h0 hp1 hp2),
  .s (Sp.upto (De s x_ d p N) 0 N (by omega) (fun i hi hlti=>by
    obtain⟨he,hn⟩:=hlo i (by omega);have hE:=(k0 s x_ (cY d i) p h hx (kK d i) (lO h0 he) hp1 hp2).1;rw[hn]at hE;exact aB (chain [tT 24 ((i:Int)<31) (by omega),ar (0-(i:Int)) (by omega),.c (kN d hd i (by omega):ae 36 [(ag d),(iP (0-(i:Int)))] _),tB 34 (by rw[he];rfl:((eB d i) != 0)=false),
     .c (hE:ae 26 [(a7 s),(ak x_),(ag (cY d i)),(iP p)] _),tB 44 (by decide:((12:Int)==0)=false),ar ((i:Int)+1) (by omega)] <| .nil) (by kernel_rfl))
  (fun hi=>by
    have hE:=(k0 s x_ (cY d N) p h hx (kK d N) (lO h0 he) hp1 hp2).1;rw[hn]at hE;exact aB (chain [tT 24 ((N:Int)<31) (by omega),ar (0-(N:Int)) (by omega),.c (kN d hd N (by omega):ae 36 [(ag d),(iP (0-(N:Int)))] _),tB 34 (by rw[he];rfl:((eB d N) != 0)=false),
    .c (hE:ae 26 [(a7 s),(ak x_),(ag (cY d N)),(iP p)] _),tB 44 (by decide:((0:Int)==0)=true)] <| .nil) (by kernel_rfl)) (by nofun):bA 4 Tryz.f34 (De s x_ d p N 0) .ret ⟨49,true,[(10,.e (iP 0)),(9,.e (ak b)),(8,.box 8 0)],[(8,.cells 31 (aM (cY d N)))]⟩) .nil] <| .nil) (by kernel_rfl)
theorem OD(s:bQ)(x_:List Iv)(d:Dy)(p:Nat)(h:c9 s)(hx:bM s.au x_)(hd:d.Valid)(h0:0<d.sign)(hp1:8<=p)(hp2:p<=512)(N:Nat)(hN0:N<31)(hlo:∀ k,k<N->eB d k=0/\ic s x_ (cY d k) p=none)(he:¬eB d N=0):ae 34 [(a7 s),(ak x_),(ag d),(iP p)] (.aq [ag aI,.v (.slice none 0 0),iP 12]):=by
 exact tr true Tryz.call34 Tryz.func34 (chain [.c (ky s x_ d p h hx hd h0 hp1 hp2),
  .s (Sp.upto (Di s x_ d p N) 0 N (by omega) (fun i hi hlti=>by
    obtain⟨he,hn⟩:=hlo i (by omega);have hE:=(k0 s x_ (cY d i) p h hx (kK d i) (lO h0 he) hp1 hp2).1;rw[hn]at hE;exact aB (chain [tT 24 ((i:Int)<31) (by omega),ar (0-(i:Int)) (by omega),.c (kN d hd i (by omega):ae 36 [(ag d),(iP (0-(i:Int)))] _),tB 34 (by rw[he];rfl:((eB d i) != 0)=false),
     .c (hE:ae 26 [(a7 s),(ak x_),(ag (cY d i)),(iP p)] _),tB 44 (by decide:((12:Int)==0)=false),ar ((i:Int)+1) (by omega)] <| .nil) (by kernel_rfl))
  (fun hi=>by
    exact aB (chain [tT 24 ((N:Int)<31) (by omega),ar (0-(N:Int)) (by omega),.c (kN d hd N (by omega):ae 36 [(ag d),(iP (0-(N:Int)))] _),tB 34 (by simpa using he:((eB d N) != 0)=true)] <| .nil) (by kernel_rfl)) (by nofun):bA 4 Tryz.f34 (Di s x_ d p N 0) (.exit 0) ⟨49,true,[(8,.box 8 0)],[(8,.cells 31 [(bP false),(.v (.slice none 0 0)),(iP 0)])]⟩) .nil,
  .o 48 (.e gZ:PV.le (.e (.agg [(bP false),(.v (.slice none 0 0)),(iP 0)])) (.e (ag aI)))]<|rR (.aq [ag aI,.v (.slice none 0 0),iP 12]) (.aq (.cons (by first|exact .refl _|exact gZ) (.cons (.refl _) (.cons (.refl _) .nil))):E.le (.aq [(ag aI),(.v (.slice none 0 0)),(iP 12)]) (.aq [ag aI,.v (.slice none 0 0),iP 12]))) (by kernel_rfl)
theorem Ou(s:bQ)(x_:List Iv)(d:Dy)(p:Nat)(h:c9 s)(hx:bM s.au x_)(hd:d.Valid)(h0:0<d.sign)(hp1:8<=p)(hp2:p<=512)(hlo:∀ k,k<31->eB d k=0/\ic s x_ (cY d k) p=none):ae 34 [(a7 s),(ak x_),(ag d),(iP p)] (.aq [ag aI,.v (.slice none 0 0),iP 12]):=by
 exact tr true Tryz.call34 Tryz.func34 (chain [.c (ky s x_ d p h hx hd h0 hp1 hp2),
  .s (Sp.upto (Dd s x_ d p) 0 31 (by omega) (fun i hi hlti=>by
    obtain⟨he,hn⟩:=hlo i (by omega);have hE:=(k0 s x_ (cY d i) p h hx (kK d i) (lO h0 he) hp1 hp2).1;rw[hn]at hE;exact aB (chain [tT 24 ((i:Int)<31) (by omega),ar (0-(i:Int)) (by omega),.c (kN d hd i (by omega):ae 36 [(ag d),(iP (0-(i:Int)))] _),tB 34 (by rw[he];rfl:((eB d i) != 0)=false),
     .c (hE:ae 26 [(a7 s),(ak x_),(ag (cY d i)),(iP p)] _),tB 44 (by decide:((12:Int)==0)=false),ar ((i:Int)+1) (by omega)] <| .nil) (by kernel_rfl))
  (fun hi=>by
    exact aB (chain [tB 24 (by decide:(decide ((31:Int)<31))=false)] <| .nil) (by kernel_rfl)) (by nofun):bA 4 Tryz.f34 (Dd s x_ d p 0) (.exit 0) ⟨49,true,[(8,.box 8 0)],[(8,.cells 31 [(bP false),(.v (.slice none 0 0)),(iP 0)])]⟩) .nil,
  .o 48 (.e gZ:PV.le (.e (.agg [(bP false),(.v (.slice none 0 0)),(iP 0)])) (.e (ag aI)))]<|rR (.aq [ag aI,.v (.slice none 0 0),iP 12]) (.aq (.cons (by first|exact .refl _|exact gZ) (.cons (.refl _) (.cons (.refl _) .nil))):E.le (.aq [(ag aI),(.v (.slice none 0 0)),(iP 12)]) (.aq [ag aI,.v (.slice none 0 0),iP 12]))) (by kernel_rfl)
theorem Oj(s:bk)(x:List RI)(d:RD)(p:Int)(g:s.Good)(gx:∀ i,(x.getD i aR).Good)(gd:d.Good)(hE:(¬ij s=true\/¬iw x=true\/eW d=true\/100<p)):ae 8 [(cj s),(bE x),(cO d),(iP p)] (bP true):=by
 exact tr true Tryz.call8 Tryz.func8 (chain [.c qA,.c (xf s)] <| .w (ij s=true)
  (fun k1=>chain [tB 20 (k1),.c (tp x)] <| .w (iw x=true)
   (fun k2=>chain [tB 24 (k2),.c (qC d)] <| .w (eW d=true)
    (fun k3=>chain [tB 29 (k3)] <| .nil)
    (fun k3=>chain [tB 29 (Bool.eq_false_iff.2 k3)] <| .w (100<p)
     (fun k4=>chain [tB 33 (decide_eq_true k4)] <| .nil)
     (fun k4=>.x (by rcases hE with q|q|q|q<;>first|contradiction|omega))))
   (fun k2=>chain [tB 24 (Bool.eq_false_iff.2 k2)] <| .nil))
  (fun k1=>chain [tB 20 (Bool.eq_false_iff.2 k1)] <| .nil)) (by kernel_rfl)
theorem Om(s:bk)(x:List RI)(d:RD)(p:Int)(g:s.Good)(gx:∀ i,(x.getD i aR).Good)(gd:d.Good)(h1:ij s=true)(h2:iw x=true)(h3:eW d=false)(h4:p<=100)(hf:dg s x d p=false):ae 8 [(cj s),(bE x),(cO d),(iP p)] (bP true):=by
 have sm:=Cj h1;have hxl:x.length<=1000:=by have:=yP h2;omega
 have zv:=fP;exact tr true Tryz.call8 Tryz.func8 (chain [.c qA,.c (xf s),tB 21 (by rw[h1];rfl:(!(ij s))=false),.c (tp x),tB 25 (by rw[h2];rfl:(!(iw x))=false),.c (qC d),tB 29 (h3:(eW d)=false),tF 33 (100<p) (by omega),
  .c (Oq s g sm x gx hxl d gd p hf:ae 34 [(cj s),(bE x),(cO d),(iP p)] _),.c (by rw[<-hf];exact EC s g sm x gx hxl d gd p:ae 14 [(cj s),(bE x),(cO d),(iP p)] (bP false)),
  tB 51 (by decide:((1:Int)==1)=true),tB 55 (by decide:((0:Int)==0)=true),.c (dt _ ‹_›:ae 35 [(ag aI)] _),tB 60 (rfl:((Dy.sign aI)==0)=true)] <| .nil) (by kernel_rfl)
theorem Ol(s:bQ)(x_:List Iv)(d:Dy)(p:Nat)(h:c9 s)(hx:bM s.au x_)(hd:d.Valid)(h0:0<d.sign)(hp1:8<=p)(hp2:p<=512)(p100:p<=100)(hfew:ae 10 [a7 s] (bP true))(hshort:ae 11 [ak x_] (bP true))(hlong:ae 12 [ag d] (bP false))(hcase:ae 14 [a7 s,ak x_,ag d,iP (p:Int)] (bP true))(N:Nat)(hN0:N<31)(hlo:∀ k,k<N->eB d k=0/\ic s x_ (cY d k) p=none)(he:eB d N=0)(b:List Iv)(hn:ic s x_ (cY d N) p=some b):ae 8 [(a7 s),(ak x_),(ag d),(iP p)] (bP true):=by
 have hob:=(k0 s x_ (cY d N) p h hx (kK d N) (lO h0 he) hp1 hp2).2.1 b hn;have vb:=hob.1.ok;have lb:=hob.1.len;have s4:=h.s4;have sv:=kK d N;exact tr true Tryz.call8 Tryz.func8 (chain [.c qA,.c (hfew:ae 10 [(a7 s)] _),.c (hshort:ae 11 [(ak x_)] _),.c (hlong:ae 12 [(ag d)] _),tF 33 (100<(p:Int)) (by omega),
  .c (Ov s x_ d p h hx hd h0 hp1 hp2 N hN0 hlo he b hn:ae 34 [(a7 s),(ak x_),(ag d),(iP p)] _),.c (hcase:ae 14 [(a7 s),(ak x_),(ag d),(iP p)] _),
  .s (Sp.upto (Dg s x_ d p N b) 0 N (by omega) (fun i hi hlti=>by
    obtain⟨he,hn⟩:=hlo i (by omega);have hE:=(k0 s x_ (cY d i) p h hx (kK d i) (lO h0 he) hp1 hp2).1;rw[hn]at hE;exact aB (chain [tT 63 ((i:Int)<31) (by omega),ar (0-(i:Int)) (by omega),.c (kN d hd i (by omega):ae 36 [(ag d),(iP (0-(i:Int)))] _),tB 73 (by rw[he];rfl:((eB d i) != 0)=false),
     .c (hE:ae 26 [(a7 s),(ak x_),(ag (cY d i)),(iP p)] _),tB 83 (by decide:((12:Int)==0)=false),ar ((i:Int)+1) (by omega)] <| .nil) (by kernel_rfl))
  (fun hi=>by
    have hE:=(k0 s x_ (cY d N) p h hx (kK d N) (lO h0 he) hp1 hp2).1;rw[hn]at hE;exact aB (chain [tT 63 ((N:Int)<31) (by omega),ar (0-(N:Int)) (by omega),.c (kN d hd N (by omega):ae 36 [(ag d),(iP (0-(N:Int)))] _),tB 73 (by rw[he];rfl:((eB d N) != 0)=false),
    .c (hE:ae 26 [(a7 s),(ak x_),(ag (cY d N)),(iP p)] _),tB 83 (by decide:((0:Int)==0)=true),tB 85 (by decide:((0:Int)==0)=true),
    .c (bZ _ _ ‹_› ‹_›:ae 37 [(ag (cY d N)),(ag (cY d N))] _),tB 90 (by rw[J5];rfl:((aC (cY d N) (cY d N))==0)=true),.c (NO b ‹_› (by omega))] <| .nil) (by kernel_rfl)) (by nofun):bA 9 Tryz.f8 (Dg s x_ d p N b 0) .ret ⟨110,true,[(8,.e (bP true))],[]⟩) .nil] <| .nil) (by kernel_rfl)
theorem On(s:bQ)(x_:List Iv)(d:Dy)(p:Nat)(h:c9 s)(hx:bM s.au x_)(hd:d.Valid)(h0:0<d.sign)(hp1:8<=p)(hp2:p<=512)(p100:p<=100)(hfew:ae 10 [a7 s] (bP true))(hshort:ae 11 [ak x_] (bP true))(hlong:ae 12 [ag d] (bP false))(hcase:ae 14 [a7 s,ak x_,ag d,iP (p:Int)] (bP true))(N:Nat)(hN0:N<31)(hlo:∀ k,k<N->eB d k=0/\ic s x_ (cY d k) p=none)(he:¬eB d N=0):ae 8 [(a7 s),(ak x_),(ag d),(iP p)] (bP true):=by
 have zv:=fP;exact tr true Tryz.call8 Tryz.func8 (chain [.c qA,.c (hfew:ae 10 [(a7 s)] _),.c (hshort:ae 11 [(ak x_)] _),.c (hlong:ae 12 [(ag d)] _),tF 33 (100<(p:Int)) (by omega),
  .c (OD s x_ d p h hx hd h0 hp1 hp2 N hN0 hlo he:ae 34 [(a7 s),(ak x_),(ag d),(iP p)] _),.c (hcase:ae 14 [(a7 s),(ak x_),(ag d),(iP p)] _),
  .s (Sp.upto (Dh s x_ d p N) 0 N (by omega) (fun i hi hlti=>by
    obtain⟨he,hn⟩:=hlo i (by omega);have hE:=(k0 s x_ (cY d i) p h hx (kK d i) (lO h0 he) hp1 hp2).1;rw[hn]at hE;exact aB (chain [tT 63 ((i:Int)<31) (by omega),ar (0-(i:Int)) (by omega),.c (kN d hd i (by omega):ae 36 [(ag d),(iP (0-(i:Int)))] _),tB 73 (by rw[he];rfl:((eB d i) != 0)=false),
     .c (hE:ae 26 [(a7 s),(ak x_),(ag (cY d i)),(iP p)] _),tB 83 (by decide:((12:Int)==0)=false),ar ((i:Int)+1) (by omega)] <| .nil) (by kernel_rfl))
  (fun hi=>by
    exact aB (chain [tT 63 ((N:Int)<31) (by omega),ar (0-(N:Int)) (by omega),.c (kN d hd N (by omega):ae 36 [(ag d),(iP (0-(N:Int)))] _),tB 73 (by simpa using he:((eB d N) != 0)=true)] <| .nil) (by kernel_rfl)) (by nofun):bA 9 Tryz.f8 (Dh s x_ d p N 0) (.exit 0) ⟨110,true,[(11,.e (iP 12)),(10,.e (.v (.slice none 0 0))),(9,.box 9 0)],[(9,.cells 31 (aM aI))]⟩) .nil,
  tB 99 (by decide:((12:Int)==12)=true),tB 103 (by decide:((0:Int)==0)=true),.c (dt _ ‹_›:ae 35 [(ag aI)] _),tB 108 (rfl:((Dy.sign aI)==0)=true)] <| .nil) (by kernel_rfl)
theorem Oi(s:bQ)(x_:List Iv)(d:Dy)(p:Nat)(h:c9 s)(hx:bM s.au x_)(hd:d.Valid)(h0:0<d.sign)(hp1:8<=p)(hp2:p<=512)(p100:p<=100)(hfew:ae 10 [a7 s] (bP true))(hshort:ae 11 [ak x_] (bP true))(hlong:ae 12 [ag d] (bP false))(hcase:ae 14 [a7 s,ak x_,ag d,iP (p:Int)] (bP true))(hlo:∀ k,k<31->eB d k=0/\ic s x_ (cY d k) p=none):ae 8 [(a7 s),(ak x_),(ag d),(iP p)] (bP true):=by
 have zv:=fP;exact tr true Tryz.call8 Tryz.func8 (chain [.c qA,.c (hfew:ae 10 [(a7 s)] _),.c (hshort:ae 11 [(ak x_)] _),.c (hlong:ae 12 [(ag d)] _),tF 33 (100<(p:Int)) (by omega),
  .c (Ou s x_ d p h hx hd h0 hp1 hp2 hlo:ae 34 [(a7 s),(ak x_),(ag d),(iP p)] _),.c (hcase:ae 14 [(a7 s),(ak x_),(ag d),(iP p)] _),
  .s (Sp.upto (Df s x_ d p) 0 31 (by omega) (fun i hi hlti=>by
    obtain⟨he,hn⟩:=hlo i (by omega);have hE:=(k0 s x_ (cY d i) p h hx (kK d i) (lO h0 he) hp1 hp2).1;rw[hn]at hE;exact aB (chain [tT 63 ((i:Int)<31) (by omega),ar (0-(i:Int)) (by omega),.c (kN d hd i (by omega):ae 36 [(ag d),(iP (0-(i:Int)))] _),tB 73 (by rw[he];rfl:((eB d i) != 0)=false),
     .c (hE:ae 26 [(a7 s),(ak x_),(ag (cY d i)),(iP p)] _),tB 83 (by decide:((12:Int)==0)=false),ar ((i:Int)+1) (by omega)] <| .nil) (by kernel_rfl))
  (fun hi=>by
    exact aB (chain [tB 63 (by decide:(decide ((31:Int)<31))=false)] <| .nil) (by kernel_rfl)) (by nofun):bA 9 Tryz.f8 (Df s x_ d p 0) (.exit 0) ⟨110,true,[(11,.e (iP 12)),(10,.e (.v (.slice none 0 0))),(9,.box 9 0)],[(9,.cells 31 (aM aI))]⟩) .nil,
  tB 99 (by decide:((12:Int)==12)=true),tB 103 (by decide:((0:Int)==0)=true),.c (dt _ ‹_›:ae 35 [(ag aI)] _),tB 108 (rfl:((Dy.sign aI)==0)=true)] <| .nil) (by kernel_rfl)
theorem Oo(s:bQ)(x_:List Iv)(d:Dy)(p:Nat)(h:c9 s)(hx:bM s.au x_)(hd:d.Valid)(h0:0<d.sign)(hp1:8<=p)(hp2:p<=512)(p100:p<=100)(hfew:ae 10 [a7 s] (bP true))(hshort:ae 11 [ak x_] (bP true))(hlong:ae 12 [ag d] (bP false))(hcase:ae 14 [a7 s,ak x_,ag d,iP (p:Int)] (bP true)):ae 8 [a7 s,ak x_,ag d,iP (p:Int)] (bP true):=by
 by_cases hq:∃ N,N<31/\decide (¬eB d N=0\/ic s x_ (cY d N) p≠none)=true
 .obtain ⟨N,n1,n2,n3⟩:=gG hq
  have hlo:∀ k,k<N->eB d k=0/\ic s x_ (cY d k) p=none:=fun k hk=>by
   have:=of_decide_eq_false (n3 k hk);exact⟨Classical.byContradiction fun q=>this (.inl q),Classical.byContradiction fun q=>this (.inr q)⟩
  by_cases he:eB d N=0
  .cases hn:ic s x_ (cY d N) p with
   | none=>exact absurd (of_decide_eq_true n2) fun q=>q.elim (fun q=>q he) fun q=>q hn
   | some b=>exact Ol s x_ d p h hx hd h0 hp1 hp2 p100 hfew hshort hlong hcase N n1 hlo he b hn
  .exact On s x_ d p h hx hd h0 hp1 hp2 p100 hfew hshort hlong hcase N n1 hlo he
 .exact Oi s x_ d p h hx hd h0 hp1 hp2 p100 hfew hshort hlong hcase fun k hk =>
   ⟨Classical.byContradiction fun q=>hq ⟨k,hk,decide_eq_true (.inl q)⟩,Classical.byContradiction fun q=>hq ⟨k,hk,decide_eq_true (.inr q)⟩⟩
theorem NQ(s:bk)(x:List RI)(d:RD)(p:Int)(g:s.Good)(gx0:∀ y,y ∈ x->y.Good)(gd:d.Good):ae 8 [cj s,bE x,cO d,iP p] (bP true):=by
 have gx:∀ i,(x.getD i aR).Good:=fun i=>by
  by_cases hi:i<x.length
  .rw [List.getD_eq_getElem?_getD,List.getElem?_eq_getElem hi];exact gx0 _ (List.getElem_mem hi)
  .rw [List.getD_eq_getElem?_getD,List.getElem?_eq_none (by omega)];exact ur
 by_cases hE:(¬ij s=true\/¬iw x=true\/eW d=true\/100<p)
 .exact Oj s x d p g gx gd hE
 have h1:ij s=true:=Classical.byContradiction fun q=>hE (.inl q)
 have h2:iw x=true:=Classical.byContradiction fun q=>hE (.inr (.inl q))
 have h3:eW d=false:=Bool.eq_false_iff.2 fun q=>hE (.inr (.inr (.inl q)))
 have h4:p<=100:=Int.not_lt.1 fun q=>hE (.inr (.inr (.inr q)))
 cases hf:dg s x d p with
 | false=>exact Om s x d p g gx gd h1 h2 h3 h4 hf
 | true =>
  have sm:=Cj h1;have hxl:x.length<=1000:=by have:=yP h2;omega
  obtain⟨o1,o2,o3,o4,p1,p2,e1,e2,e3⟩:=LX g gx gd hf;have c1:=xf s;have c2:=tp x;have c3:=qC d;have c4:=EC s g sm x gx hxl d gd p;rw[h1,e1]at c1;rw[h2,e2]at c2;rw[h3,e3]at c3;rw[hf,e1,e2,e3]at c4;rw[e1,e2,e3];obtain⟨q,rfl⟩:=Int.eq_ofNat_of_zero_le (show 0<=p by omega)
  exact Oo s.v (x.map RI.iv) d.dy q o1 o2 o3 o4 (by omega) (by omega) (by omega) c1 c2 c3 c4
open Go.ChangeShapes Go.WideShapes Go.ChangeAt Go.RowKit Fp Pu
theorem Qv{W:World}{x:RD}{cs:Array Value}(h:zK W x cs.toList):aw dm dm W (cO x) (.agg cs):=by
 obtain⟨_,hl,h⟩:=h;have:=aw.agg (bs:=dm) (br:=dm) (w:=W) (yh x) cs.toList (by rw[hl];rfl) (fun i p v h1 h2=>by
  have hi:i<3:=by have:=(List.getElem?_eq_some_iff.1 h2).1;omega
  obtain⟨v',h3,h4⟩:=h i hi;rw[h2]at h3;cases h3;rw[List.getD_eq_getElem?_getD,h1]at h4;exact h4)
 unfold cO;exact this
open Go.ChangeShapes Go.WideShapes Go.ChangeAt Go.RowKit Fp Pu
def uY(W:World)(o:eo)(cs:List Value):Prop:=o.Good/\cs.length=6/\∀ j,j<6->∃ v,cs[j]? = some v/\aw dm dm W ((lK o).getD j .any) v
theorem N8{α:Type}{l:List α}(h:l.length=2):∃ a b,l=[a,b]:=by
 rcases l with _|⟨a,_|⟨b,_|⟨c,l⟩⟩⟩<;>simp at h
 exact⟨a,b,rfl⟩
theorem N9{α:Type}{l:List α}(h:l.length=5):∃ a b c d e,l=[a,b,c,d,e]:=by
 rcases l with _|⟨a,_|⟨b,_|⟨c,_|⟨d,_|⟨e,_|⟨f,l⟩⟩⟩⟩⟩⟩<;>simp at h
 exact⟨a,b,c,d,e,rfl⟩
theorem Oa{α:Type}{l:List α}(h:l.length=6):∃ a b c d e f,l=[a,b,c,d,e,f]:=by
 rcases l with _|⟨a,_|⟨b,_|⟨c,_|⟨d,_|⟨e,_|⟨f,_|⟨g,l⟩⟩⟩⟩⟩⟩⟩<;>simp at h
 exact⟨a,b,c,d,e,f,rfl⟩
section
variable {H:Type} {enc:TypeId×Value->H} {W:World} {fuel:Nat} {cs:List Value} {x:DataW H×List MemPlace}
theorem mH(h:DataW.trod enc Tryz.prog W 0 (fun _=>true) true fuel 3 cs=some x):∃ z,cs=[.int .i64 z]/\bF .i64 z:=by
 obtain⟨z,hz,_,hw⟩:=DataW.trod_int Tryz.underlying3 h;exact⟨z,hz,GD hw⟩
theorem Pv(h:DataW.trod enc Tryz.prog W 0 (fun _=>true) true fuel 97 cs=some x):∃ n d,cs=[.int .i64 n,.int .i64 d]/\bF .i64 n/\bF .i64 d:=by
 obtain⟨xs,n,rfl,rfl,hl,hxl,hf⟩:=DataW.trod_struct Tryz.underlying97 h;have hC:Tryz.prog.cellsOf 97=2:=by kernel_rfl
 have hI:Tryz.prog.cellsOf 3=1:=by kernel_rfl
 rw[hC]at hl;obtain⟨c0,c1,rfl⟩:=N8 hl;have h0:=hf 0 _ rfl;have h1:=hf 1 _ rfl;simp only[List.getElem_toArray,List.getElem_cons_zero,List.getElem_cons_succ]at h0 h1;simp only[hI,List.drop_zero,List.drop_succ_cons,List.take_succ_cons,List.take_zero]at h0 h1;rw[List.getElem?_eq_getElem (by rw[hxl];decide)]at h0 h1;obtain⟨z0,e0,w0⟩:=mH h0;obtain⟨z1,e1,w1⟩:=mH h1;simp at e0 e1
 subst e0 e1;exact⟨z0,z1,rfl,w0,w1⟩
theorem Px(h:DataW.trod enc Tryz.prog W 0 (fun _=>true) true fuel 99 cs=some x):∃ o,uY W o cs:=by
 obtain⟨xs,n,rfl,rfl,hl,hxl,hf⟩:=DataW.trod_struct Tryz.underlying99 h;have hC:Tryz.prog.cellsOf 99=6:=by kernel_rfl
 have hR:Tryz.prog.cellsOf 97=2:=by kernel_rfl
 have hI:Tryz.prog.cellsOf 3=1:=by kernel_rfl
 rw[hC]at hl;obtain⟨c0,c1,c2,c3,c4,c5,rfl⟩:=Oa hl;have h0:=hf 0 _ rfl;have h1:=hf 1 _ rfl;have h2:=hf 2 _ rfl;have h3:=hf 3 _ rfl;have h4:=hf 4 _ rfl;simp only[List.getElem_toArray,List.getElem_cons_zero,List.getElem_cons_succ]at h0 h1 h2 h3 h4;simp only[hI,hR,List.drop_zero,List.drop_succ_cons,List.take_succ_cons,List.take_zero]at h0 h1 h2 h3 h4
 rw[List.getElem?_eq_getElem (by rw[hxl];decide)]at h0 h1 h2 h3 h4;obtain⟨z0,e0,w0⟩:=mH h0;obtain⟨z1,e1,w1⟩:=mH h1;obtain⟨z2,e2,w2⟩:=mH h2;obtain⟨z3,e3,w3⟩:=mH h3;obtain⟨z4,z5,e4,w4,w5⟩:=Pv h4;simp at e0 e1 e2 e3 e4;obtain⟨e4,e5⟩:=e4;subst e0 e1 e2 e3 e4 e5;refine⟨⟨z0,z1,z2,z3,z4,z5⟩,⟨w0,w1,w2,w3,w4,w5⟩,rfl,fun j hj=>?_⟩;rcases j with _|_|_|_|_|_|j
 all_goals first|exact⟨_,rfl,.v _⟩|omega
theorem Rg(o:eo)(j:Nat)(hj:j<6):((lK o).getD j .any).one=true/\(((lK o).getD j .any).dv=true)/\((lK o).getD j .any).nr 2=true:=by
 rcases j with _|_|_|_|_|_|j
 all_goals first|exact⟨rfl,rfl,rfl⟩|omega
theorem Py(h:DataW.trod enc Tryz.prog W 0 (fun _=>true) true fuel 22 cs=some x) :
  ∃ l v,cs=[v]/\(∀ y,y ∈ l->y.Good)/\aw dm dm W (bJ l) v:=by
 have hC:Tryz.prog.cellsOf 99=6:=by kernel_rfl
 rcases Deep.open_slice Tryz.underlying22 h with⟨rfl,_⟩|⟨a,len,cap,m,n,D,Pl,rfl,hb,hl,hm,hmm,rfl,hx⟩
 .exact ⟨[],_,rfl,(fun y hy=>by cases hy),.sl true 0 6 _ none 0 (fun _ _=>.bool false) (Nat.le_refl _) (by decide) (fun _=>rfl) (fun i j hi=>absurd hi (Nat.not_lt_zero i)) (fun i j hi=>absurd hi (Nat.not_lt_zero i)) (fun i j hi=>absurd hi (Nat.not_lt_zero i)) (fun i j hi=>absurd hi (Nat.not_lt_zero i))⟩
 .simp only[if_true]at hmm
  subst hmm;have ex:∀ i,∃ y:eo,i<len->∃ cs',W.cells? 0 (a.add (i*6)) 6=some cs'/\uY W y cs':=by
   intro i;by_cases hi:i<len
   .obtain ⟨cs',h1,h2⟩:=hx i (by omega)
    rw[hC]at h1;obtain⟨y,hy⟩:=Px h2;exact⟨y,fun _=>⟨cs',h1,hy⟩⟩
   .exact ⟨b6,fun h=>absurd h hi⟩
  let X:Nat->eo:=fun i=>Classical.choose (ex i)
  have hX:∀ i,i<len->∃ cs',W.cells? 0 (a.add (i*6)) 6=some cs'/\uY W (X i) cs':=fun i=>Classical.choose_spec (ex i)
  have hlen:((List.range len).map X).length=len:=by simp
  refine⟨(List.range len).map X,_,rfl,?_,?_⟩
  .intro y hy
   obtain⟨i,hi,rfl⟩:=List.mem_map.1 hy;obtain⟨cs',_,h2⟩:=hX i (List.mem_range.1 hi);exact h2.1
  .have hget:∀ i,i<len->((List.range len).map X).getD i b6=X i:=by
    intro i hi;rw[List.getD_eq_getElem?_getD,List.getElem?_map,List.getElem?_range hi];rfl
   have:=yr (W:=W) (a:=a) (len:=len) (cap:=m) (nl:=true) (fun i j=>(lK (((List.range len).map X).getD i b6)).getD j .any) hl hm (show 0<6 by decide)
    (fun i j _ hj=>let⟨h1,h2,h3⟩:=Rg (((List.range len).map X).getD i b6) j hj;⟨h1,fun _=>h2,h3⟩)
    (fun i hi=>by
     obtain⟨cs',h1,h2,_,h3⟩:=hX i hi;exact⟨cs',h1,fun j hj=>by rw[hget i hi];exact h3 j hj⟩)
   unfold bJ;rw[hlen];exact this
theorem Re:b6.Good:=by constructor<;>(show bF .i64 0;unfold bF;decide)
theorem wL{α:Type}{P:α->Prop}{l:List α}{d:α}(h:∀ y,y ∈ l->P y)(hd:P d)(i:Nat):P (l.getD i d):=by
 by_cases hi:i<l.length
 .rw [List.getD_eq_getElem?_getD,List.getElem?_eq_getElem hi];exact h _ (List.getElem_mem hi)
 .rw [List.getD_eq_getElem?_getD,List.getElem?_eq_none (by omega)];exact hd
def zL(W:World)(s:bk)(cs:List Value):Prop:=s.Good/\cs.length=5/\∀ j,j<5->∃ v,cs[j]? = some v/\aw dm dm W ((yG s).getD j .any) v
theorem PA(h:DataW.trod enc Tryz.prog W 0 (fun _=>true) true fuel 25 cs=some x) :
  ∃ (n:Int) (ops:List eo) (outs:List Int) (v w:Value),cs=[.int .i64 n,v,w]/\bF .i64 n/\(∀ y,y ∈ ops->y.Good)/\(∀ z,z ∈ outs->bF .i64 z)/\aw dm dm W (bJ ops) v/\aw dm dm W (bN outs) w:=by
 obtain⟨xs,n,rfl,rfl,hl,hxl,hf⟩:=DataW.trod_struct Tryz.underlying25 h;have hC:Tryz.prog.cellsOf 25=3:=by kernel_rfl
 have hI:Tryz.prog.cellsOf 3=1:=by kernel_rfl
 have hO:Tryz.prog.cellsOf 22=1:=by kernel_rfl
 have hU:Tryz.prog.cellsOf 23=1:=by kernel_rfl
 rw[hC]at hl;obtain⟨c0,c1,c2,rfl⟩:=Dp hl;have h0:=hf 0 _ rfl;have h1:=hf 1 _ rfl;have h2:=hf 2 _ rfl;simp only[List.getElem_toArray,List.getElem_cons_zero,List.getElem_cons_succ]at h0 h1 h2;simp only[hI,hO,hU,List.drop_zero,List.drop_succ_cons,List.take_succ_cons,List.take_zero]at h0 h1 h2;rw[List.getElem?_eq_getElem (by rw[hxl];decide)]at h0 h1 h2;obtain⟨z0,e0,w0⟩:=mH h0
 obtain⟨ops,v,e1,g1,r1⟩:=Py h1;obtain⟨outs,w,e2,g2,r2⟩:=Ps (k:=.i64) (fun _=>rfl) Tryz.underlying23 Tryz.underlying3 hI h2;simp at e0 e1 e2;subst e0 e1 e2;exact⟨z0,ops,outs,_,_,rfl,w0,g1,g2,r1,r2⟩
theorem Pz(h:DataW.trod enc Tryz.prog W 0 (fun _=>true) true fuel 28 cs=some x)(hlt:∀ p ∈ x.2,p.block<W.heap.size):∃ s,zL W s cs:=by
 obtain⟨xs,n,rfl,rfl,hl,hxl,hf⟩:=DataW.trod_struct Tryz.underlying28 h;have hC:Tryz.prog.cellsOf 28=5:=by kernel_rfl
 have hT:Tryz.prog.cellsOf 25=3:=by kernel_rfl
 have hI:Tryz.prog.cellsOf 3=1:=by kernel_rfl
 have hP:Tryz.prog.cellsOf 26=1:=by kernel_rfl
 rw[hC]at hl;obtain⟨c0,c1,c2,c3,c4,rfl⟩:=N9 hl;have h0:=hf 0 _ rfl;have h1:=hf 1 _ rfl;have h2:=hf 2 _ rfl;simp only[List.getElem_toArray,List.getElem_cons_zero,List.getElem_cons_succ]at h0 h1 h2;simp only[hT,hI,hP,List.drop_zero,List.drop_succ_cons,List.take_succ_cons,List.take_zero]at h0 h1 h2;rw[List.getElem?_eq_getElem (by rw[hxl];decide)]at h0 h1 h2
 obtain⟨z0,ops,outs,v,w,e0,w0,g1,g2,r1,r2⟩:=PA h0;obtain⟨z1,e1,w1⟩:=mH h1;obtain⟨ps,u,e2,g3,r3⟩:=El h2 (fun p hp=>hlt p (List.mem_flatMap.2 ⟨_,List.getElem_mem _,hp⟩));simp at e0 e1 e2;obtain⟨e0,e0b,e0c⟩:=e0;subst e0 e0b e0c e1 e2;refine⟨⟨z0,ops,outs,z1,ps⟩,⟨w0,wL g1 Re,wL g2 (by unfold bF;decide),w1,wL g3 ur⟩,rfl,fun j hj=>?_⟩
 rcases j with _|_|_|_|_|j
 .exact ⟨_,rfl,.v _⟩
 .exact ⟨_,rfl,r1⟩
 .exact ⟨_,rfl,r2⟩
 .exact ⟨_,rfl,.v _⟩
 .exact ⟨_,rfl,r3⟩
 .omega
end
theorem Sy{W:World}{x:bk}{cs:Array Value}(h:zL W x cs.toList):aw dm dm W (cj x) (.agg cs):=by
 obtain⟨_,hl,h⟩:=h;have:=aw.agg (bs:=dm) (br:=dm) (w:=W) (yG x) cs.toList (by rw[hl];rfl) (fun i p v h1 h2=>by
  have hi:i<5:=by have:=(List.getElem?_eq_some_iff.1 h2).1;omega
  obtain⟨v',h3,h4⟩:=h i hi;rw[h2]at h3;cases h3;rw[List.getD_eq_getElem?_getD,h1]at h4;exact h4)
 unfold cj;exact this
open Go.ChangeShapes Go.WideShapes Go.ChangeAt Go.RowKit Fp Pu
def La:Value:=.agg #[.bool false,.slice none 0 0,.int .i64 0]
def Lb{H:Type}:DataW H:=.agg [.lit (.bool false),.nil,.lit (.int .i64 0)]
def Lf:Value:=.agg #[.int .i64 0,.slice none 0 0,.slice none 0 0,.int .i64 0,.slice none 0 0]
def Lg{H:Type}:DataW H:=.agg [.agg [.lit (.int .i64 0),.nil,.nil],.lit (.int .i64 0),.nil]
def nI:Array Value:=#[Lf,.slice none 0 0,La,.int .i64 0]
set_option maxRecDepth 100000 in
theorem Ot(H:Type)(enc:TypeId×Value->H)(W:World)(base:Nat)(args:Array Value)(ds gs:List (DataW H))(before:List MemPlace)
  (hval:∀ (j:Nat) t v,Tryz.f8.params[j]? = some t->args[j]? = some v->Value.okWide Tryz.prog W .any base t v)
  (hW:DataW.Whole enc Tryz.prog Tryz.f8.params.toList Rows.picardLongestSpec.vars false W args.toList ds gs before) (hL:laidMetH Tryz.prog Rows.picardLongestRow.laid W) :
  Calls Tryz.prog 8 args W fun e W'=>∃ v,e = .returned v/\Rows.picardLongestSpec.post enc Tryz.prog Tryz.f8 false true false false W args v W':=by
 have hW':=hW;obtain⟨p,q,hA0,hV,rfl,hfz,hnd⟩:=hW;have hA:DataW.TrodAll enc Tryz.prog W 0 (fun _=>true) true Tryz.f8.params.toList args.toList ds p:=hA0;rw[Tryz.params8]at hA hval;obtain⟨v0,vs0,d0,ds0,p0,q0,hvs,rfl,rfl,h0,hA0⟩:=trodAll_cons hA;obtain⟨v1,vs1,d1,ds1,p1,q1,rfl,rfl,rfl,h1,hA1⟩:=trodAll_cons hA0;obtain⟨v2,vs2,d2,ds2,p2,q2,rfl,rfl,rfl,h2,hA2⟩:=trodAll_cons hA1
 obtain⟨v3,vs3,d3,ds3,p3,q3,rfl,rfl,rfl,h3,hA3⟩:=trodAll_cons hA2;obtain⟨rfl,rfl,rfl⟩:=trodAll_nil hA3;obtain rfl:args = #[v0,v1,v2,v3]:=by cases args;simp_all
 obtain⟨rfl,rfl⟩:=trodVars_none hV;obtain⟨cs0,rfl,hsz0⟩:=okWide_struct Tryz.underlying28 (hval 0 28 v0 rfl rfl);obtain⟨a1,len1,cap1,rfl⟩:=okWide_slice Tryz.underlying26 (hval 1 26 v1 rfl rfl);obtain⟨cs2,rfl,hsz2⟩:=okWide_struct Tryz.underlying31 (hval 2 31 v2 rfl rfl);obtain⟨x3,rfl,rfl,rfl,b3⟩:=open_int Tryz.underlying3 (hval 3 3 v3 rfl rfl) h3;have h0k:=h0;obtain⟨fuel0,hf0⟩:=h0;have h1k:=h1
 obtain⟨fuel1,hf1⟩:=h1;have h2k:=h2;obtain⟨fuel2,hf2⟩:=h2;clear hA0;have hlt0:∀ x ∈ p0,x.block<W.heap.size:=fun x hx=>hW'.lt x (by simp[hx])
 have hlt1:∀ x ∈ p1,x.block<W.heap.size:=fun x hx=>hW'.lt x (by simp[hx])
 have hlt2:∀ x ∈ p2,x.block<W.heap.size:=fun x hx=>hW'.lt x (by simp[hx])
 obtain⟨x0,g0⟩:=Pz hf0 hlt0;obtain⟨x1,w1,hv1,g1,r1⟩:=El hf1 hlt1;obtain rfl:Value.slice a1 len1 cap1=w1:=by
  have:(Value.slice a1 len1 cap1).cells.toList=[Value.slice a1 len1 cap1]:=rfl;rw[this]at hv1;simpa using hv1
 obtain⟨x2,g2⟩:=xO hf2 hlt2;have hrun:=(NQ x0 x1 x2 x3 g0.1 g1 g2.1).run W dm [.agg cs0,.slice a1 len1 cap1,.agg cs2,.int .i64 x3] (SH rfl hL) (fun _ h=>h.elim) (.cons (Sy (cs:=cs0) g0) (.cons r1 (.cons (Qv (cs:=cs2) g2) (.cons (.v _) (.nil _ _ _)))));refine hrun.mono fun r W' ⟨v,hr,hb,hrep⟩=>?_
 obtain rfl:=aw.bR hrep;subst hr;refine⟨_,rfl,_,_,_,[],p0++(p1++(p2++([]))),[],hW',?_,?_,rfl,hb.frame _,fun h=>by cases h⟩
 .exact trodAll_mk1 (shut_bool Tryz.underlying4 _)
 .exact ⟨p0,_,(Below.trod laidOut (by kernel_rfl) (of_decide_eq_true (by kernel_rfl)) h0k hb hlt0),⟨p1,_,(Below.trod laidOut (by kernel_rfl) (of_decide_eq_true (by kernel_rfl)) h1k hb hlt1),⟨p2,_,(Below.trod laidOut (by kernel_rfl) (of_decide_eq_true (by kernel_rfl)) h2k hb hlt2),trodAll_mk1 (Below.trod laidOut (by kernel_rfl) (of_decide_eq_true (by kernel_rfl)) h3 hb (fun _ h=>by cases h)),rfl⟩,rfl⟩,rfl⟩
theorem Oz(os:Os):laidMet Tryz.prog Rows.picardLongestRow.laid ((xh os nI).forCall (fun _ _=>0) ⟨#[],nI,[]⟩).memory :=
 laidMet_of_run' 8 (by kernel_rfl) (by kernel_rfl)
theorem OC(os:Os){H:Type}(enc:TypeId×Value->H):∃ places,DataW.whole enc Tryz.prog ((xh os nI).forCall (fun _ _=>0) ⟨#[],nI,[]⟩).memory Tryz.f8.params.toList Rows.picardLongestSpec.vars false nI.toList 8=some ([Lg,.nil,Lb,.lit (.int .i64 0)],[],places) :=
 ⟨[],by kernel_rfl⟩
set_option maxRecDepth 100000 in
theorem Oy(os:Os)(started:os.Started)(H:Type)(enc:TypeId×Value->H)(F:Stop.Interp) :
  ReturnsInHanded {} Tryz.checked os 8 .any ((OpenSpec.ofChange Rows.picardLongestSpec).preRow enc Tryz.prog Tryz.f8 Rows.picardLongestRow.domain false Rows.picardLongestRow.laid) (((OpenSpec.ofChange Rows.picardLongestSpec).at F).post enc Tryz.prog Tryz.f8 false true false false):=by
 obtain⟨places,hx⟩:=OC os enc;refine returnsInHanded_of_row (C:=Tryz.checked) (s:=OpenSpec.ofChange Rows.picardLongestSpec) own started (by kernel_rfl) Tryz.func8
  (witness_row_at (enc:=enc) (C:=Tryz.checked) false (xh os nI) nI rfl (by kernel_rfl) (by kernel_rfl) (by kernel_rfl)
   (OpenSpec.preRow_of_cond 8 hx (by kernel_rfl) (fun k hk=>by cases hk) (by kernel_rfl) (Oz os))) ?_
 intro W base args ds gs before hval hW _ _ _ hL _ _;exact Ot H enc W base args ds gs before hval hW hL
set_option maxHeartbeats 100000000 in
theorem Ox:joinedFacts Tryz.prog 8 Tryz.f8 (OpenSpec.ofChange Rows.picardLongestSpec).bare Rows.picardLongestRow=true:=by
 unfold joinedFacts;simp only[Bool.and_eq_true]
 and_intros<;>decide +kernel
theorem OE:Rows.PicardLongestSaid :=
 OpenClaim.holds_of_cond 8 Tryz.f8 rfl rfl rfl rfl rfl rfl rfl ⟨rfl,rfl,rfl,rfl,rfl⟩ rfl rfl rfl rfl rfl (by kernel_rfl) Tryz.func8 Ox
  (of_decide_eq_true (by kernel_rfl)) (by unfold Func.isWrapper;first|(rw[if_pos (by decide +kernel)];kernel_rfl)|(rw[if_neg (by decide +kernel)];exact⟨rfl,rfl⟩))
  (fun os started H enc _ F=>by rw[OpenClaim.pre_eq_preRow];exact Oy os started H enc F)
theorem OB (f:FuncId) (fn:Func) (hf:Tryz.pinned.checked.prog.funcNamed "flowpipe/flowpipelaw28.PicardLongest" = some f) (hfn:Tryz.pinned.checked.prog.funcs[f]? = some fn) :
  false=Tryz.pinned.checked.prog.looks []/\∀ (j:Nat) t,fn.params[j]? = some t->Tryz.pinned.checked.prog.wantsStandIn t=false:=by
 obtain rfl:f=8:=Option.some.inj ((show Tryz.prog.funcNamed "flowpipe/flowpipelaw28.PicardLongest" = some 8 by kernel_rfl).symm.trans hf) |>.symm
 obtain rfl:fn=Tryz.f8:=(Option.some.inj (Tryz.func8.symm.trans hfn)).symm;refine⟨by kernel_rfl,fun j t ht=>?_⟩;rw[Tryz.params8]at ht;have:t=28\/t=26\/t=31\/t=3:=by
  have:=Array.mem_of_getElem? ht;simp only[List.mem_toArray,List.mem_cons,List.not_mem_nil,or_false]at this;rcases this with h|h|h|h<;>subst h<;>simp
 rcases this with rfl|rfl|rfl|rfl
 .exact (show Tryz.prog.wantsStandIn 28=false by kernel_rfl)
 .exact (show Tryz.prog.wantsStandIn 26=false by kernel_rfl)
 .exact (show Tryz.prog.wantsStandIn 31=false by kernel_rfl)
 .exact (show Tryz.prog.wantsStandIn 3=false by kernel_rfl)
theorem longest_card:Rows.PicardLongestCardSaid :=
 Claim7.holds_tied_plain_at .later [] _ _ _ _ OE (fun _ h=>by cases h) (by kernel_rfl) (fun _ h=>by cases h) picardLongest_row_tie rfl ⟨rfl,rfl⟩ (by kernel_rfl) rfl OB (ML L3 rfl)
end Go.Proofs.YtdgnpeddgdclhaaGreatDoor
