/- The law PicardEncloses is true for all systems, boxes, steps and precisions: what Enclose returns is a tube, and it finds one if a grown box is one. -/
import Derived.Test.YtdgnpeddgdclhaaGreatDoorM04
import Derived.DeepKeys
set_option linter.unusedSimpArgs false
set_option linter.unusedVariables false
set_option maxHeartbeats 4000000
namespace Go.Proofs.YtdgnpeddgdclhaaGreatDoor
open Go.RowKit Fp Pu
def CG(a b:Nat)(x:Nat):PS:=⟨12,true,[(0,.e (.v (.int .u64 ((((cz a b x).1):Nat):Int)))),(1,.e (.v (.int .u64 ((((cz a b x).2):Nat):Int))))],[]⟩
theorem My(a b N:Nat)(ha:a<18446744073709551616)(hb:b<18446744073709551616)(hlo:∀ k,k<N->(cz a b k).2≠0)(hN:(cz a b N).2=0):ae 205 [(.v (.int .u64 (a:Int))),(.v (.int .u64 (b:Int)))] (.v (.int .u64 ((((cz a b N).1):Nat):Int))):=by
 exact tr true Tryz.call205 Tryz.func205 (chain [.s (Sp.upto (CG a b) 0 N (by omega) (fun x hx hltx=>by
    have hb0:=hlo x (by omega);exact aB (chain [tB 6 (DU (hlo x (by omega)):(((((cz a b x).2):Nat):Int) != 0)=true),.a (by omega:0<(((((cz a b x).2):Nat):Int):Int))] <| .e (chain [.o 0 (.int (by first|rfl|omega|(simp only[Nat.add_mul,Nat.one_mul];omega)):PV.le (.e (.v (.int .u64 ((((cz a b x).2):Nat):Int)))) (.e (.v (.int .u64 ((((cz a b (x+1)).1):Nat):Int))))),
  .o 1 (.int (by first|rfl|omega|(simp only[Nat.add_mul,Nat.one_mul];omega)):PV.le (.e (.v (.int .u64 (((((cz a b x).1)%((cz a b x).2)):Nat):Int)))) (.e (.v (.int .u64 ((((cz a b (x+1)).2):Nat):Int)))))] <| .nil)) (by kernel_rfl))
  (fun hx=>by
    exact aB (chain [tB 6 (DT hN:(((((cz a b N).2):Nat):Int) != 0)=false)] <| .nil) (by kernel_rfl)) (by nofun):bD 1 Tryz.f205 (CG a b 0) (.exit 0) ⟨12,true,[(0,.e (.v (.int .u64 ((((cz a b N).1):Nat):Int))))],[]⟩) (chain [.o 0 (.int (by first|rfl|omega|(simp only[Nat.add_mul,Nat.one_mul];omega)):PV.le (.e (.v (.int .u64 (a:Int)))) (.e (.v (.int .u64 ((((cz a b 0).1):Nat):Int))))),
  .o 1 (.int (by first|rfl|omega|(simp only[Nat.add_mul,Nat.one_mul];omega)):PV.le (.e (.v (.int .u64 (b:Int)))) (.e (.v (.int .u64 ((((cz a b 0).2):Nat):Int)))))] <| .nil)] <| .nil) (by kernel_rfl)
theorem Mz(a b:Nat)(ha:a<18446744073709551616)(hb:b<18446744073709551616):ae 205 [(.v (.int .u64 (a:Int))),(.v (.int .u64 (b:Int)))] (.v (.int .u64 (((Nat.gcd a b):Nat):Int))):=by
 obtain⟨N,h1,h2⟩:=Cf b a;have hg:=wh a b N;rw[h2,Nat.gcd_zero_right]at hg;rw[<-hg];exact My a b N ha hb h1 h2
theorem size_pos(m:Nat)(h:m<=1073741824):ae 206 [(iP m)] (.v (.int .u64 (m:Int))):=by
 exact tr true Tryz.call206 Tryz.func206 (chain [tF 4 ((m:Int)<0) (by omega),.o 9 (.int (fW _ (by omega)):PV.le (.e (.v (.int .u64 (IntKind.u64.wrap (m:Int))))) (.e (.v (.int .u64 (m:Int)))))] <| .nil) (by kernel_rfl)
theorem R9(m:Nat)(h0:0<m)(h:m<=1073741824):ae 206 [(iP (-(m:Int)))] (.v (.int .u64 (m:Int))):=by
 exact tr true Tryz.call206 Tryz.func206 (chain [tT 4 ((-(m:Int))<0) (by omega),ar (0-(-(m:Int))) (by omega),.o 6 (.int (by omega):PV.le (.e (iP (0-(-(m:Int))))) (.e (iP m))),
  .o 7 (.int (fW _ (by omega)):PV.le (.e (.v (.int .u64 (IntKind.u64.wrap (m:Int))))) (.e (.v (.int .u64 (m:Int)))))] <| .nil) (by kernel_rfl)
theorem FU(n:Int)(h1:-1073741824<=n)(h2:n<=1073741824):ae 206 [iP n] (.v (.int .u64 (n.natAbs:Int))):=by
 by_cases h:0<=n
 .obtain ⟨m,rfl⟩:=Int.eq_ofNat_of_zero_le h
  exact size_pos m (by omega)
 .obtain ⟨m,rfl⟩:∃ m:Nat,n = -(m:Int):=⟨n.natAbs,by omega⟩
  rw[Int.natAbs_neg,Int.natAbs_natCast];exact R9 m (by omega) (by omega)
theorem kE(g:Nat):((g:Int)==1)=decide (g=1):=by
 by_cases h:g=1
 .subst h;rfl
 .rw [decide_eq_false h];exact beq_eq_false_iff_ne.2 (by omega)
theorem ub(n d:Int):ae 169 [(.agg [(iP n),(iP d)])] (bP (dm n d)):=by
 exact tr true Tryz.call169 Tryz.func169 (.w (1<=d)
  (fun k1=>chain [tB 5 (decide_eq_true k1)] <| .w (d<=1073741824)
   (fun k2=>chain [tB 9 (decide_eq_true k2)] <| .w ((-1073741824)<=n)
    (fun k3=>chain [tB 14 (decide_eq_true k3)] <| .w (n<=1073741824)
     (fun k4=>chain [tB 19 (decide_eq_true k4),.c (FU _ (by omega) (by omega):ae 206 [(iP n)] _),.c (FU _ (by omega) (by omega):ae 206 [(iP d)] _),
      .c (Mz _ _ (by omega) (by omega):ae 205 [(.v (.int .u64 (((Int.natAbs n):Nat):Int))),(.v (.int .u64 (((Int.natAbs d):Nat):Int)))] _)]<|rQ (bP ((((Nat.gcd (Int.natAbs n) (Int.natAbs d)):Nat):Int)==1)) (bP (dm n d)) (by unfold dm;simp[kE,k1,k2,k3,k4]))
     (fun k4=>chain [tB 19 (decide_eq_false k4)]<|rQ (bP false) (bP (dm n d)) (by unfold dm;simp[kE,k1,k2,k3,k4])))
    (fun k3=>chain [tB 14 (decide_eq_false k3)]<|rQ (bP false) (bP (dm n d)) (by unfold dm;simp[kE,k1,k2,k3])))
   (fun k2=>chain [tB 9 (decide_eq_false k2)]<|rQ (bP false) (bP (dm n d)) (by unfold dm;simp[kE,k1,k2])))
  (fun k1=>chain [tB 5 (decide_eq_false k1)]<|rQ (bP false) (bP (dm n d)) (by unfold dm;simp[kE,k1]))) (by kernel_rfl)
theorem Dx{lo hi:Dy}{e f:Int}(h:e≠0\/f≠0):ck lo e hi f=aj:=if_pos h
theorem OM{lo hi:Dy}{e f:Int}(h:e=0)(k:f=0):ck lo e hi f=⟨lo,hi,false⟩:=if_neg (by rw[h,k];decide)
theorem Qx(n d:Int)(p:Nat)(h:dm n d=true)(hp1:8<=p)(hp2:p<=512):ae 210 [(.agg [(iP n),(iP d)]),(iP p)] (ai (gH n d p)):=by
 obtain⟨r1,r2,r3,r4⟩:=yg h;have v1:=dD (n:=n) (by omega);have v2:=dD (n:=d) (by omega);have d0:(az d).m≠0:=CR (by omega);exact tr true Tryz.call210 Tryz.func210 (chain [.c (ub _ _:ae 169 [(.agg [(iP n),(iP d)])] _),tB 11 (by rw[h];rfl:(!(dm n d))=false),.c (dB _ (by omega):ae 113 [(iP n)] _),.c (dB _ (by omega):ae 113 [(iP d)] _),
  .c (EN (az n) (az d) p ‹_› ‹_› ‹_› (by omega) (by omega)),.c (dB _ (by omega):ae 113 [(iP n)] _),.c (dB _ (by omega):ae 113 [(iP d)] _),
  .c (EO (az n) (az d) p ‹_› ‹_› ‹_› (by omega) (by omega))] <| .w ((fw (az n) (az d) p false)=0)
  (fun k1=>chain [tB 36 (bne_eq_false_iff_eq.2 k1)] <| .w ((fw (az n) (az d) p true)=0)
   (fun k2=>chain [tB 39 (bne_eq_false_iff_eq.2 k2)]<|rQ (ai (Iv.mk (ev (az n) (az d) p false) (ev (az n) (az d) p true) false)) (ai (gH n d p)) (by unfold gH;rw[if_pos h,OM k1 k2]))
   (fun k2=>chain [tB 39 (bne_iff_ne.2 k2),.o 41 (.e uV:PV.le (.e (.agg [(bP false),(.v (.slice none 0 0)),(iP 0),(bP false),(.v (.slice none 0 0)),(iP 0),(bP true)])) (.e (ai aj)))]<|rQ (ai aj) (ai (gH n d p)) (by unfold gH;rw[if_pos h,Dx (.inr k2)])))
  (fun k1=>chain [tB 36 (bne_iff_ne.2 k1),.o 41 (.e uV:PV.le (.e (.agg [(bP false),(.v (.slice none 0 0)),(iP 0),(bP false),(.v (.slice none 0 0)),(iP 0),(bP true)])) (.e (ai aj)))]<|rQ (ai aj) (ai (gH n d p)) (by unfold gH;rw[if_pos h,Dx (.inl k1)]))) (by kernel_rfl)
open Go.RowKit Fp Pu
noncomputable def oO(x:Iv)(p:Nat):Iv:=@dite Iv (x.Valid/\8<=p/\p<=512) (Classical.propDecidable _) (fun h=>Classical.choose (zD h.1 h.2.1 h.2.2)) (fun _=>aj)
theorem LY(x:Iv)(p:Nat):(oO x p).Valid:=by
 unfold oO;split
 .rename_i h;exact(Classical.choose_spec (zD h.1 h.2.1 h.2.2)).1
 .exact cC
theorem LX(x:Iv)(hx:x.Valid)(p:Nat)(hp1:8<=p)(hp2:p<=512):ae 242 [ai x,iP (p:Int)] (ai (oO x p)):=by
 unfold oO;rw[dif_pos ⟨hx,hp1,hp2⟩];exact(Classical.choose_spec (zD hx hp1 hp2)).2
noncomputable def oP(x:Iv)(p:Nat):Iv:=@dite Iv (x.Valid/\8<=p/\p<=512) (Classical.propDecidable _) (fun h=>Classical.choose (zF h.1 h.2.1 h.2.2)) (fun _=>aj)
theorem L3(x:Iv)(p:Nat):(oP x p).Valid:=by
 unfold oP;split
 .rename_i h;exact(Classical.choose_spec (zF h.1 h.2.1 h.2.2)).1
 .exact cC
theorem LZ(x:Iv)(hx:x.Valid)(p:Nat)(hp1:8<=p)(hp2:p<=512):ae 243 [ai x,iP (p:Int)] (ai (oP x p)):=by
 unfold oP;rw[dif_pos ⟨hx,hp1,hp2⟩];exact(Classical.choose_spec (zF hx hp1 hp2)).2
noncomputable def oQ(x:Iv)(p:Nat):Iv:=@dite Iv (x.Valid/\8<=p/\p<=512) (Classical.propDecidable _) (fun h=>Classical.choose (vD h.1 h.2.1 h.2.2)) (fun _=>aj)
theorem L5(x:Iv)(p:Nat):(oQ x p).Valid:=by
 unfold oQ;split
 .rename_i h;exact(Classical.choose_spec (vD h.1 h.2.1 h.2.2)).1
 .exact cC
theorem L4(x:Iv)(hx:x.Valid)(p:Nat)(hp1:8<=p)(hp2:p<=512):ae 244 [ai x,iP (p:Int)] (ai (oQ x p)):=by
 unfold oQ;rw[dif_pos ⟨hx,hp1,hp2⟩];exact(Classical.choose_spec (vD hx hp1 hp2)).2
noncomputable def oN(x:Iv)(p:Nat):Iv:=@dite Iv (x.Valid/\8<=p/\p<=512) (Classical.propDecidable _) (fun h=>Classical.choose (vy h.1 h.2.1 h.2.2)) (fun _=>aj)
theorem LW(x:Iv)(p:Nat):(oN x p).Valid:=by
 unfold oN;split
 .rename_i h;exact(Classical.choose_spec (vy h.1 h.2.1 h.2.2)).1
 .exact cC
theorem LV(x:Iv)(hx:x.Valid)(p:Nat)(hp1:8<=p)(hp2:p<=512):ae 245 [ai x,iP (p:Int)] (ai (oN x p)):=by
 unfold oN;rw[dif_pos ⟨hx,hp1,hp2⟩];exact(Classical.choose_spec (vy hx hp1 hp2)).2
noncomputable def oR(x:Iv)(p:Nat):Iv:=@dite Iv (x.Valid/\8<=p/\p<=512) (Classical.propDecidable _) (fun h=>Classical.choose (w8 h.1 h.2.1 h.2.2)) (fun _=>aj)
theorem L7(x:Iv)(p:Nat):(oR x p).Valid:=by
 unfold oR;split
 .rename_i h;exact(Classical.choose_spec (w8 h.1 h.2.1 h.2.2)).1
 .exact cC
theorem L6(x:Iv)(hx:x.Valid)(p:Nat)(hp1:8<=p)(hp2:p<=512):ae 246 [ai x,iP (p:Int)] (ai (oR x p)):=by
 unfold oR;rw[dif_pos ⟨hx,hp1,hp2⟩];exact(Classical.choose_spec (w8 hx hp1 hp2)).2
open Go.RowKit Fp Pu
def vv(o:dH):Bool:=decide (o.kind<=6)
noncomputable def cQ(o:dH)(x y:Iv)(p:Nat):Iv :=
 if o.kind=3 then bj x y p else if o.kind=4 then yZ x y p else if o.kind=5 then aV x y p else if o.kind=6 then bT x y p
 else if o.kind=7 then iI x else if o.kind=8 then fT x o.n p else if o.kind=9 then oO x p else if o.kind=10 then oP x p
 else if o.kind=11 then oQ x p else if o.kind=12 then oN x p else if o.kind=13 then oR x p else aj
noncomputable def kp(o:dH)(l:List Iv)(p:Nat):Iv:=if o.kind=1 then gH o.cn o.cd p else cQ o (l.getD o.a aj) (if vv o then l.getD o.b aj else aj) p
noncomputable def aX(ops:List dH)(xs:List Iv)(p:Nat):Nat->List Iv
 | 0=>xs
 | k+1=>aX ops xs p k++[kp (ops.getD k a6) (aX ops xs p k) p]
noncomputable def bF(t:fO)(xs:List Iv)(p:Nat):List Iv:=t.outs.map fun k=>(aX t.ops xs p t.ops.length).getD k aj
noncomputable def bY(s:bU)(x:List Iv)(h:Dy)(b:List Iv)(p:Nat):List Iv :=
 if hasAll (bF s.tape (b++s.params) p)then[]else if hasAll (lf x (bF s.tape (b++s.params) p) h p)then[]else lf x (bF s.tape (b++s.params) p) h p
noncomputable def fK(s:bU)(x:List Iv)(h:Dy)(b:List Iv)(p:Nat):Bool:=!(bY s x h b p).isEmpty&&(iS x b&&iS (bY s x h b p) b)
theorem zw(ops:List dH)(xs:List Iv)(p:Nat):∀ k,(aX ops xs p k).length=xs.length+k
 | 0=>rfl
 | k+1=>by simp only[aX,List.length_append,zw ops xs p k,List.length_cons,List.length_nil];omega
theorem Hp(o:dH){x y:Iv}(hx:x.Valid)(hy:y.Valid){p:Nat}(hp:1<=p)(hp2:p<=4096):(cQ o x y p).Valid:=by
 unfold cQ;split
 .exact gO hx hy hp hp2
 split
 .exact gO hx (tI hy) hp hp2
 split
 .exact iG _ _ hp hp2
 split
 .exact jP _ _ hp hp2
 split
 .exact tI hx
 split
 .exact P0 hx _ hp hp2
 split
 .exact LY _ _
 split
 .exact L3 _ _
 split
 .exact L5 _ _
 split
 .exact LW _ _
 split
 .exact L7 _ _
 .exact cC
theorem Hq(o:dH){l:List Iv}(hl:fm l){p:Nat}(hp:1<=p)(hp2:p<=4096):(kp o l p).Valid:=by
 unfold kp;split
 .exact RJ _ _ hp hp2
 .exact Hp o (hl _) (by split;exact hl _;exact cC) hp hp2
theorem uR(ops:List dH){xs:List Iv}(h:fm xs){p:Nat}(hp:1<=p)(hp2:p<=4096):∀ k,fm (aX ops xs p k)
 | 0=>h
 | k+1=>(uR ops h hp hp2 k).push (Hq _ (uR ops h hp hp2 k) hp hp2)
theorem Co(t:fO){xs:List Iv}(h:fm xs){p:Nat}(hp:1<=p)(hp2:p<=4096):fm (bF t xs p):=fun i=>by
 unfold bF;rw[List.getD_eq_getElem?_getD,List.getElem?_map];cases t.outs[i]? with
 | none=>exact cC
 | some k=>exact uR t.ops h hp hp2 _ _
theorem s5(t:fO)(xs:List Iv)(p:Nat):(bF t xs p).length=t.outs.length:=by simp[bF]
theorem wQ{s:bU}{x b:List Iv}{h:Dy}{p n:Nat}(hx:bO n x)(hp:1<=p)(hp2:p<=4096)(hne:bY s x h b p≠[]):bO n (bY s x h b p):=by
 unfold bY at hne ⊢;split at hne
 .exact absurd rfl hne
 .rename_i h1
  rw[if_neg h1];split at hne
  .exact absurd rfl hne
  .rename_i h2
   rw[if_neg h2];exact⟨by rw[tl,hx.len],Nj (by simpa using h2) (Nv hx.ok.zp hp hp2)⟩
open Go.RowKit Fp Pu
theorem Kp:aY 1=0:=by decide +kernel
theorem Bg(e:Int):canon false 1 e=⟨false,1,e⟩:=by
 unfold canon;rw[if_neg (by decide),Kp];simp
def cP(k:Int):Dy:=⟨false,1,k⟩
theorem zi{k:Int}(h1:-100<=k)(h2:k<=100):cY (cP k):=.inr ⟨by show ak 1<=4096;rw[kq];decide,by show -16384<=k;omega,by show k<=16384;omega,by show((ak 1:Nat):Int)+k<=16384;rw[kq];omega⟩
theorem pJ{k:Int}(h1:-100<=k)(h2:k<=100):(cP k).Valid:=⟨by have:=gY false 1 k;rwa[Bg]at this,zi h1 h2⟩
theorem uL(k:Int):¬(cP k).sign<0:=by
 rw[(gl _).2,e9];show ¬(if false=true then _ else((1:Nat):Rat)*P2 k)<0;rw[if_neg (by decide)];have:=dt k
 grind
theorem yU{d:Dy}(h:¬d.sign<0):0<=d.q:=by
 rw[(gl d).2]at h
 grind
noncomputable def eV(s:bU)(x:List Iv)(h:Dy)(p:Nat)(k:Int):Bool:=eG x (cP k)&&fK s x h (ey x (cP k)) p
def lJ(d:Dy):Dy:=aO (canon d.neg d.m (d.e + -3))
def yN(d:Dy):Int:=bV (canon d.neg d.m (d.e + -3))
def gr(x:List Iv)(p:Nat):Dy:=if rN x p then dr x p x.length else aT
noncomputable def cg(s:bU)(x:List Iv)(h:Dy)(b:List Iv)(p:Nat):List Iv :=
 if bY s x h b p=[]then[]else
 if rN (dh x (bY s x h b p)) p=false\/(gr (dh x (bY s x h b p)) p).sign=0 then dh x (bY s x h b p)else
 if yN (gr (dh x (bY s x h b p)) p)≠0 then dh x (bY s x h b p)else
 if eG (dh x (bY s x h b p)) (lJ (gr (dh x (bY s x h b p)) p))then ey (dh x (bY s x h b p)) (lJ (gr (dh x (bY s x h b p)) p))else dh x (bY s x h b p)
noncomputable def b8(s:bU)(x:List Iv)(h:Dy)(p:Nat):Nat->List Iv
 | 0=>x
 | j+1=>cg s x h (b8 s x h p j) p
theorem FD(d:Dy):(lJ d).Valid:=vK (gY _ _ _)
theorem FC{d:Dy}(h:0<=d.q):0<=(lJ d).q:=by
 unfold lJ aO;split
 .rw [fU]
  rw[e9]at h;have p1:=dt d.e;have p2:=dt (d.e + -3);have m0:(0:Rat)<=(d.m:Rat):=by exact_mod_cast Nat.zero_le d.m
  split
  .rename_i hn
   rw[if_pos hn]at h;have hm:(d.m:Rat)*P2 d.e=0:=by
    have:=Rat.mul_nonneg m0 (Rat.le_of_lt p1)
    grind
   have hm0:(d.m:Rat)=0:=by
    rcases Rat.mul_eq_zero.1 hm with q|q
    .exact q
    .grind
   rw[hm0]
   grind
  .exact Rat.mul_nonneg m0 (Rat.le_of_lt p2)
 .rw [ik];exact Rat.le_refl
theorem GK(x:List Iv)(p:Nat):∀ k,0<=(dr x p k).q
 | 0=>by show 0<=aT.q;rw[ik];exact Rat.le_refl
 | k+1=>by
  have ih:=GK x p k;show 0<=(if 0<aD (bL (x.getD k aj) p) (dr x p k)then bL (x.getD k aj) p else dr x p k).q;split
  .rename_i h
   have:¬aD (bL (x.getD k aj) p) (dr x p k)<=0:=by omega
   rw[eI]at this
   grind
  .exact ih
theorem GL(x:List Iv)(p:Nat):0<=(gr x p).q:=by
 unfold gr;split
 .exact GK x p _
 .rw [ik];exact Rat.le_refl
theorem P5{d:Dy}(h:0<=d.q):¬d.sign<0:=by
 rw[(gl d).2]
 grind
theorem oe{s:bU}{x b:List Iv}{h:Dy}{p n:Nat}(hx:bO n x)(hp:1<=p)(hp2:p<=4096)(hne:cg s x h b p≠[]):bO n (cg s x h b p):=by
 unfold cg at hne ⊢;split at hne
 .exact absurd rfl hne
 .rename_i h1
  rw[if_neg h1];have hh:=CM hx (wQ hx hp hp2 h1);split
  .exact hh
  .split
   .exact hh
   .split
    .rename_i hg
     exact tg hh (FD _) (FC (GL _ _)) hg
    .exact hh
open Go.RowKit Fp Pu
def Az(a b:List Iv)(g:FuncId)(cap:List E)(i:Nat):PS:=⟨32,false,[(17,.e (iP i)),(16,.e (iP a.length)),(15,.e (an a)),(1,.e (an b)),(2,.e (.fn g cap))],[]⟩
def Aw(a b:List Iv)(g:FuncId)(cap:List E)(N:Nat)(i:Nat):PS:=⟨32,false,[(17,.e (iP i)),(16,.e (iP a.length)),(15,.e (an a)),(1,.e (an b)),(2,.e (.fn g cap))],[]⟩
def AE(x:List Iv)(d:Dy)(i:Nat):PS:=⟨60,true,[(6,.own 6),(28,.e (iP i)),(27,.e (iP x.length)),(26,.e (an x)),(3,.box 3 0)],[(6,.row true 41 i 7 (bA ((List.range i).map (fun j_=>dg (x.getD j_ aj) d)))),(3,.cells 31 (aQ d))]⟩
def AB(x:List Iv)(d:Dy)(N:Nat)(i:Nat):PS:=⟨60,true,[(6,.own 6),(28,.e (iP i)),(27,.e (iP x.length)),(26,.e (an x)),(3,.box 3 0)],[(6,.row true 41 i 7 (bA ((List.range i).map (fun j_=>dg (x.getD j_ aj) d)))),(3,.cells 31 (aQ d))]⟩
def AD(x:List Iv)(d:Dy)(N:Nat)(i:Nat):PS:=⟨60,true,[(6,.own 6),(28,.e (iP i)),(27,.e (iP x.length)),(26,.e (an x)),(3,.box 3 0)],[(6,.row true 41 i 7 (bA ((List.range i).map (fun j_=>dg (x.getD j_ aj) d)))),(3,.cells 31 (aQ d))]⟩
def AF(a b:List Iv)(i:Nat):PS:=⟨30,true,[(5,.own 5),(13,.e (iP i)),(12,.e (iP a.length)),(0,.e (an a)),(1,.e (an b))],[(5,.row true 41 i 7 (bA ((List.range i).map (fun j_=>eW (a.getD j_ aj) (b.getD j_ aj)))))]⟩
def AO(x:List Iv)(p:Nat)(i:Nat):PS:=⟨42,true,[(22,.e (iP i)),(21,.e (iP x.length)),(20,.e (an x)),(6,.box 6 0),(4,.box 4 0),(1,.e (iP p))],[(6,.cells 31 (aQ (dr x p i))),(4,.cells 31 [(bP false),(.v (.slice none 0 0)),(iP 0)])]⟩
def AN(x:List Iv)(p:Nat)(N:Nat)(i:Nat):PS:=⟨42,true,[(22,.e (iP i)),(21,.e (iP x.length)),(20,.e (an x)),(6,.box 6 0),(4,.box 4 0),(1,.e (iP p))],[(6,.cells 31 (aQ (dr x p i))),(4,.cells 31 [(bP false),(.v (.slice none 0 0)),(iP 0)])]⟩
theorem I4(x:Iv)(hx:x.Valid)(xa:x.all=false):ae 155 [(ai x)] (bP false):=by
 exact tr true Tryz.call155 Tryz.func155 (chain [tB 4 (xa:x.all=false),.c (dc x ‹_›)] <| .nil) (by kernel_rfl)
theorem ng(b:List Iv)(h1:1<=b.length)(h8:b.length<=8)(hb:dM b):ae 112 [(an b)] (bP true):=by
 exact tr true Tryz.call112 Tryz.func112 (chain [tT 5 (1<=(b.length:Int)) (by omega),tT 9 ((b.length:Int)<=8) (by omega),
  .c (nC true _ _ 155 [] (fun _=>false) (fun i hi=>I4 _ (hb i hi).1 (hb i hi).2) (by omega) (fun _ _=>rfl):ae 17 [(an b),(.fn 155 [])] _)] <| .nil) (by kernel_rfl)
theorem A5(a b:List Iv)(a1:1<=a.length)(a8:a.length<=8)(hl:b.length=a.length)(ha:dM a)(hb:dM b):ae 62 [(an a),(an b)] (bP true):=by
 exact tr true Tryz.call62 Tryz.func62 (chain [.c (ng _ (by omega) (by omega) ‹_›:ae 112 [(an a)] _),.c (ng _ (by omega) (by omega) ‹_›:ae 112 [(an b)] _),
  tB 16 (xy (by omega):((a.length:Int)==(b.length:Int))=true)] <| .nil) (by kernel_rfl)
theorem AA(a b:List Iv)(g:FuncId)(cap:List E)(f:Nat->Bool)(hl:b.length=a.length)(h8:a.length<=1000)(hp:∀ i,i<a.length->ae g ((ai (a.getD i aj))::(ai (b.getD i aj))::cap) (bP (f i)))(hlo:∀ i,i<a.length->f i=true):ae 56 [(an a),(an b),(.fn g cap)] (bP true):=by
 exact tr false Tryz.call56 Tryz.func56 (chain [tB 14 (nJ (by omega):((a.length:Int) != (b.length:Int))=false),
  .s (Sp.upto (Az a b g cap) 0 a.length (by omega) (fun i hi hlti=>by
    exact aB (chain [tT 18 ((i:Int)<(a.length:Int)) (by omega),iX ((i:Int)) (a.length) (by omega),iX ((i:Int)) (b.length) (by omega),
     .c (hp i (by omega):ae g ((ai (a.getD i aj))::(ai (b.getD i aj))::cap) _),tB 29 (hlo i (by omega):(f i)=true),ar ((i:Int)+1) (by omega)] <| .nil) (by kernel_rfl))
  (fun hi=>by
    exact aB (chain [tF 18 ((a.length:Int)<(a.length:Int)) (by omega)] <| .nil) (by kernel_rfl)) (by nofun):bD 4 Tryz.f56 (Az a b g cap 0) (.exit 0) ⟨32,false,[],[]⟩) .nil] <| .nil) (by kernel_rfl)
theorem H9(a b:List Iv)(g:FuncId)(cap:List E)(f:Nat->Bool)(hl:b.length=a.length)(h8:a.length<=1000)(hp:∀ i,i<a.length->ae g ((ai (a.getD i aj))::(ai (b.getD i aj))::cap) (bP (f i)))(N:Nat)(hN0:N<a.length)(hlo:∀ i,i<N->f i=true)(hN:f N=false):ae 56 [(an a),(an b),(.fn g cap)] (bP false):=by
 exact tr false Tryz.call56 Tryz.func56 (chain [tB 14 (nJ (by omega):((a.length:Int) != (b.length:Int))=false),
  .s (Sp.upto (Aw a b g cap N) 0 N (by omega) (fun i hi hlti=>by
    exact aB (chain [tT 18 ((i:Int)<(a.length:Int)) (by omega),iX ((i:Int)) (a.length) (by omega),iX ((i:Int)) (b.length) (by omega),
     .c (hp i (by omega):ae g ((ai (a.getD i aj))::(ai (b.getD i aj))::cap) _),tB 29 (hlo i (by omega):(f i)=true),ar ((i:Int)+1) (by omega)] <| .nil) (by kernel_rfl))
  (fun hi=>by
    exact aB (chain [tT 18 ((N:Int)<(a.length:Int)) (by omega),iX ((N:Int)) (a.length) (by omega),iX ((N:Int)) (b.length) (by omega),
    .c (hp N (by omega):ae g ((ai (a.getD N aj))::(ai (b.getD N aj))::cap) _),tB 29 (hN:(f N)=false)] <| .nil) (by kernel_rfl)) (by nofun):bD 4 Tryz.f56 (Aw a b g cap N 0) .ret ⟨32,false,[(6,.e (bP false))],[]⟩) .nil] <| .nil) (by kernel_rfl)
theorem Ia(a b:List Iv)(g:FuncId)(cap:List E)(f:Nat->Bool)(hl:b.length=a.length)(h8:a.length<=1000)(hp:∀ i,i<a.length->ae g ((ai (a.getD i aj))::(ai (b.getD i aj))::cap) (bP (f i))):ae 56 [(an a),(an b),(.fn g cap)] (bP ((List.range a.length).all f)):=by
 by_cases h:∃ i,i<a.length/\(!(f i))=true
 .obtain ⟨N,h1,h2,h3⟩:=gF (p:=fun i=>!(f i)) h
  refine(H9 a b g cap f hl h8 hp N h1 (fun i hi=>by simpa using h3 i hi) (by simpa using h2)).res (.of_eq ?_);rw[show(List.range a.length).all f=false from List.all_eq_false.2 ⟨N,List.mem_range.2 h1,by simpa using h2⟩]
 .have hh:∀ i,i<a.length->f i=true:=fun i hi=>by
   cases hf:f i
   .exact absurd ⟨i,hi,by rw[hf];rfl⟩ h
   .rfl
  refine(AA a b g cap f hl h8 hp hh).res (.of_eq ?_);rw[show(List.range a.length).all f=true from List.all_eq_true.2 fun i hi=>hh i (List.mem_range.1 hi)]
theorem AY(a b:List Iv)(a1:1<=a.length)(a8:a.length<=8)(hl:b.length=a.length)(ha:dM a)(hb:dM b):ae 24 [(an a),(an b)] (bP (iS a b)):=by
 exact tr true Tryz.call24 Tryz.func24 (chain [.c (A5 _ _ (by omega) (by omega) (by omega) ‹_› ‹_›:ae 62 [(an a),(an b)] _),
  .c (Ia a b 63 [] (fun i=>mz (a.getD i aj) (b.getD i aj)) hl (by omega) (fun i hi=>Ih _ _ (ha i hi).1 (hb i (by omega)).1):ae 56 [(an a),(an b),(.fn 63 [])] _)] <| .nil) (by kernel_rfl)
theorem oY{x:Iv}{d:Dy}(h:fQ x d=true):bV (av x.lo (aC d))=0/\bV (av x.hi d)=0:=by
 unfold fQ at h;rwa[Bool.and_eq_true,decide_eq_true_eq,decide_eq_true_eq]at h
theorem I2(x:List Iv)(d:Dy)(x1:1<=x.length)(x8:x.length<=8)(hx:dM x)(hd:d.Valid)(h0:¬d.sign<0)(hlo:∀ i,i<x.length->fQ (x.getD i aj) d=true):ae 114 [(an x),(ag d)] (.aq [an ((List.range x.length).map (fun j_=>dg (x.getD j_ aj) d)),iP 0]):=by
 exact tr true Tryz.call114 Tryz.func114 (chain [.c (ng _ (by omega) (by omega) ‹_›:ae 112 [(an x)] _),.c (fg _ ‹_›:ae 68 [(ag d)] _),.c (dJ _ ‹_›:ae 35 [(ag d)] _),tB 24 (decide_eq_false h0),
  .y 6 6 true 41 7 (bA ((List.range 0).map (fun j_=>dg (x.getD j_ aj) d))),
  .s (Sp.upto (AE x d) 0 x.length (by omega) (fun i hi hlti=>by
    obtain⟨w1,w2⟩:=(hx i (by omega)).1.ends;obtain⟨g1,g2⟩:=oY (hlo i (by omega));have hol:=iY (Iv.mk (aO (av (x.getD i aj).lo (aC d))) (aO (av (x.getD i aj).hi d)) false);exact aB (chain [tT 29 ((i:Int)<(x.length:Int)) (by omega),iX ((i:Int)) (x.length) (by omega),.c (pV _ _ ‹_› ‹_›:ae 156 [(ag ((x.getD i aj).lo)),(ag d)] _),
     .c (pT ((x.getD i aj).hi) d ‹_› ‹_›),tB 47 (by rw[g1];rfl:((bV (av ((x.getD i aj).lo) (aC d))) != 0)=false),tB 50 (by rw[g2];rfl:((bV (av ((x.getD i aj).hi) d)) != 0)=false),
     .o 56 (.e (cR _):PV.le (.e (.sl true 1 7 fun i_ j_=>(aF (Iv.mk (aO (av ((x.getD i aj).lo) (aC d))) (aO (av ((x.getD i aj).hi) d)) false)).getD (i_*7+j_) (.v (.bool false)))) (.e (an [(Iv.mk (aO (av ((x.getD i aj).lo) (aC d))) (aO (av ((x.getD i aj).hi) d)) false)]))),
     .a (by omega:(i+[(Iv.mk (aO (av ((x.getD i aj).lo) (aC d))) (aO (av ((x.getD i aj).hi) d)) false)].length)*88<=140737488355328),ar ((i:Int)+1) (by omega)] <| .e (chain [.b 6 (kz rfl rfl rfl:Bx.le (.row true 41 (i+[(Iv.mk (aO (av ((x.getD i aj).lo) (aC d))) (aO (av ((x.getD i aj).hi) d)) false)].length) 7 (fun i_ j_=>if i_<i then(bA ((List.range i).map (fun j_=>dg (x.getD j_ aj) d))) i_ j_ else(E.fP (an [(Iv.mk (aO (av ((x.getD i aj).lo) (aC d))) (aO (av ((x.getD i aj).hi) d)) false)])) (i_-i) j_)) (.row true 41 (i+1) 7 (bA ((List.range (i+1)).map (fun j_=>dg (x.getD j_ aj) d)))))] <| .nil)) (by kernel_rfl))
  (fun hi=>by
    exact aB (chain [tF 29 ((x.length:Int)<(x.length:Int)) (by omega),.z 6] <| .e (chain [.o 6 (.e (nD (by simp)):PV.le (.e (.sl true x.length 7 (bA ((List.range x.length).map (fun j_=>dg (x.getD j_ aj) d))))) (.e (an ((List.range x.length).map (fun j_=>dg (x.getD j_ aj) d)))))] <| .nil)) (by kernel_rfl)) (by nofun):bD 5 Tryz.f114 (AE x d 0) (.exit 0) ⟨60,true,[(6,.e (an ((List.range x.length).map (fun j_=>dg (x.getD j_ aj) d))))],[]⟩) .nil] <| .nil) (by kernel_rfl)
theorem I0(x:List Iv)(d:Dy)(x1:1<=x.length)(x8:x.length<=8)(hx:dM x)(hd:d.Valid)(h0:¬d.sign<0)(N:Nat)(hN0:N<x.length)(hlo:∀ i,i<N->fQ (x.getD i aj) d=true)(hN:bV (av (x.getD N aj).lo (aC d))≠0):ae 114 [(an x),(ag d)] (.aq [.v (.slice none 0 0),iP 9]):=by
 exact tr true Tryz.call114 Tryz.func114 (chain [.c (ng _ (by omega) (by omega) ‹_›:ae 112 [(an x)] _),.c (fg _ ‹_›:ae 68 [(ag d)] _),.c (dJ _ ‹_›:ae 35 [(ag d)] _),tB 24 (decide_eq_false h0),
  .y 6 6 true 41 7 (bA ((List.range 0).map (fun j_=>dg (x.getD j_ aj) d))),
  .s (Sp.upto (AB x d N) 0 N (by omega) (fun i hi hlti=>by
    obtain⟨w1,w2⟩:=(hx i (by omega)).1.ends;obtain⟨g1,g2⟩:=oY (hlo i (by omega));have hol:=iY (Iv.mk (aO (av (x.getD i aj).lo (aC d))) (aO (av (x.getD i aj).hi d)) false);exact aB (chain [tT 29 ((i:Int)<(x.length:Int)) (by omega),iX ((i:Int)) (x.length) (by omega),.c (pV _ _ ‹_› ‹_›:ae 156 [(ag ((x.getD i aj).lo)),(ag d)] _),
     .c (pT ((x.getD i aj).hi) d ‹_› ‹_›),tB 47 (by rw[g1];rfl:((bV (av ((x.getD i aj).lo) (aC d))) != 0)=false),tB 50 (by rw[g2];rfl:((bV (av ((x.getD i aj).hi) d)) != 0)=false),
     .o 56 (.e (cR _):PV.le (.e (.sl true 1 7 fun i_ j_=>(aF (Iv.mk (aO (av ((x.getD i aj).lo) (aC d))) (aO (av ((x.getD i aj).hi) d)) false)).getD (i_*7+j_) (.v (.bool false)))) (.e (an [(Iv.mk (aO (av ((x.getD i aj).lo) (aC d))) (aO (av ((x.getD i aj).hi) d)) false)]))),
     .a (by omega:(i+[(Iv.mk (aO (av ((x.getD i aj).lo) (aC d))) (aO (av ((x.getD i aj).hi) d)) false)].length)*88<=140737488355328),ar ((i:Int)+1) (by omega)] <| .e (chain [.b 6 (kz rfl rfl rfl:Bx.le (.row true 41 (i+[(Iv.mk (aO (av ((x.getD i aj).lo) (aC d))) (aO (av ((x.getD i aj).hi) d)) false)].length) 7 (fun i_ j_=>if i_<i then(bA ((List.range i).map (fun j_=>dg (x.getD j_ aj) d))) i_ j_ else(E.fP (an [(Iv.mk (aO (av ((x.getD i aj).lo) (aC d))) (aO (av ((x.getD i aj).hi) d)) false)])) (i_-i) j_)) (.row true 41 (i+1) 7 (bA ((List.range (i+1)).map (fun j_=>dg (x.getD j_ aj) d)))))] <| .nil)) (by kernel_rfl))
  (fun hi=>by
    obtain⟨w1,w2⟩:=(hx N (by omega)).1.ends;exact aB (chain [tT 29 ((N:Int)<(x.length:Int)) (by omega),iX ((N:Int)) (x.length) (by omega),.c (pV _ _ ‹_› ‹_›:ae 156 [(ag ((x.getD N aj).lo)),(ag d)] _),
    .c (pT ((x.getD N aj).hi) d ‹_› ‹_›),tB 47 (by simpa using hN:((bV (av ((x.getD N aj).lo) (aC d))) != 0)=true)] <| .nil) (by kernel_rfl)) (by nofun):bD 5 Tryz.f114 (AB x d N 0) .ret ⟨60,true,[(5,.e (iP 9)),(4,.e (.v (.slice none 0 0)))],[]⟩) .nil] <| .nil) (by kernel_rfl)
theorem I1(x:List Iv)(d:Dy)(x1:1<=x.length)(x8:x.length<=8)(hx:dM x)(hd:d.Valid)(h0:¬d.sign<0)(N:Nat)(hN0:N<x.length)(hlo:∀ i,i<N->fQ (x.getD i aj) d=true)(hM:bV (av (x.getD N aj).lo (aC d))=0)(hN:bV (av (x.getD N aj).hi d)≠0):ae 114 [(an x),(ag d)] (.aq [.v (.slice none 0 0),iP 9]):=by
 exact tr true Tryz.call114 Tryz.func114 (chain [.c (ng _ (by omega) (by omega) ‹_›:ae 112 [(an x)] _),.c (fg _ ‹_›:ae 68 [(ag d)] _),.c (dJ _ ‹_›:ae 35 [(ag d)] _),tB 24 (decide_eq_false h0),
  .y 6 6 true 41 7 (bA ((List.range 0).map (fun j_=>dg (x.getD j_ aj) d))),
  .s (Sp.upto (AD x d N) 0 N (by omega) (fun i hi hlti=>by
    obtain⟨w1,w2⟩:=(hx i (by omega)).1.ends;obtain⟨g1,g2⟩:=oY (hlo i (by omega));have hol:=iY (Iv.mk (aO (av (x.getD i aj).lo (aC d))) (aO (av (x.getD i aj).hi d)) false);exact aB (chain [tT 29 ((i:Int)<(x.length:Int)) (by omega),iX ((i:Int)) (x.length) (by omega),.c (pV _ _ ‹_› ‹_›:ae 156 [(ag ((x.getD i aj).lo)),(ag d)] _),
     .c (pT ((x.getD i aj).hi) d ‹_› ‹_›),tB 47 (by rw[g1];rfl:((bV (av ((x.getD i aj).lo) (aC d))) != 0)=false),tB 50 (by rw[g2];rfl:((bV (av ((x.getD i aj).hi) d)) != 0)=false),
     .o 56 (.e (cR _):PV.le (.e (.sl true 1 7 fun i_ j_=>(aF (Iv.mk (aO (av ((x.getD i aj).lo) (aC d))) (aO (av ((x.getD i aj).hi) d)) false)).getD (i_*7+j_) (.v (.bool false)))) (.e (an [(Iv.mk (aO (av ((x.getD i aj).lo) (aC d))) (aO (av ((x.getD i aj).hi) d)) false)]))),
     .a (by omega:(i+[(Iv.mk (aO (av ((x.getD i aj).lo) (aC d))) (aO (av ((x.getD i aj).hi) d)) false)].length)*88<=140737488355328),ar ((i:Int)+1) (by omega)] <| .e (chain [.b 6 (kz rfl rfl rfl:Bx.le (.row true 41 (i+[(Iv.mk (aO (av ((x.getD i aj).lo) (aC d))) (aO (av ((x.getD i aj).hi) d)) false)].length) 7 (fun i_ j_=>if i_<i then(bA ((List.range i).map (fun j_=>dg (x.getD j_ aj) d))) i_ j_ else(E.fP (an [(Iv.mk (aO (av ((x.getD i aj).lo) (aC d))) (aO (av ((x.getD i aj).hi) d)) false)])) (i_-i) j_)) (.row true 41 (i+1) 7 (bA ((List.range (i+1)).map (fun j_=>dg (x.getD j_ aj) d)))))] <| .nil)) (by kernel_rfl))
  (fun hi=>by
    obtain⟨w1,w2⟩:=(hx N (by omega)).1.ends;exact aB (chain [tT 29 ((N:Int)<(x.length:Int)) (by omega),iX ((N:Int)) (x.length) (by omega),.c (pV _ _ ‹_› ‹_›:ae 156 [(ag ((x.getD N aj).lo)),(ag d)] _),
    .c (pT ((x.getD N aj).hi) d ‹_› ‹_›),tB 47 (by rw[hM];rfl:((bV (av ((x.getD N aj).lo) (aC d))) != 0)=false),tB 50 (by simpa using hN:((bV (av ((x.getD N aj).hi) d)) != 0)=true)] <| .nil) (by kernel_rfl)) (by nofun):bD 5 Tryz.f114 (AD x d N 0) .ret ⟨60,true,[(5,.e (iP 9)),(4,.e (.v (.slice none 0 0)))],[]⟩) .nil] <| .nil) (by kernel_rfl)
def mw(x:List Iv)(d:Dy):Int:=if eG x d then 0 else 9
theorem AX(x:List Iv)(d:Dy)(x1:1<=x.length)(x8:x.length<=8)(hx:dM x)(hd:d.Valid)(h0:¬d.sign<0):ae 114 [an x,ag d] (.aq [an (ey x d),iP (mw x d)]):=by
 unfold ey mw;cases hg:eG x d with
 | true =>
  rw[if_pos rfl,if_pos rfl];exact I2 x d x1 x8 hx hd h0 fun i hi=>List.all_eq_true.1 hg i (List.mem_range.2 hi)
 | false =>
  rw[if_neg (by decide),if_neg (by decide)];obtain⟨i,hi,hb⟩:=List.all_eq_false.1 hg;obtain⟨N,h1,h2,h3⟩:=gF (p:=fun i=>!(fQ (x.getD i aj) d)) ⟨i,List.mem_range.1 hi,by simpa using hb⟩;have hlo:∀ i,i<N->fQ (x.getD i aj) d=true:=fun i hi=>by simpa using h3 i hi
  have h2:fQ (x.getD N aj) d=false:=by simpa using h2
  have key:ae 114 [an x,ag d] (.aq [.v (.slice none 0 0),iP 9]):=by
   by_cases hM:bV (av (x.getD N aj).lo (aC d))=0
   .exact I1 x d x1 x8 hx hd h0 N h1 hlo hM fun q=>by
     unfold fQ at h2;rw[hM,q]at h2;exact absurd h2 (by decide)
   .exact I0 x d x1 x8 hx hd h0 N h1 hlo hM
  exact key.res (.aq (.cons (.nil _ _ _) (.cons (.refl _) .nil)))
theorem I3(a b:List Iv)(a1:1<=a.length)(a8:a.length<=8)(hl:b.length=a.length)(ha:dM a)(hb:dM b):ae 115 [(an a),(an b)] (an (dh a b)):=by
 exact tr true Tryz.call115 Tryz.func115 (chain [.c (A5 _ _ (by omega) (by omega) (by omega) ‹_› ‹_›:ae 62 [(an a),(an b)] _),.y 5 5 true 41 7 (bA ((List.range 0).map (fun j_=>eW (a.getD j_ aj) (b.getD j_ aj)))),
  .s (Sp.upto (AF a b) 0 a.length (by omega) (fun i hi hlti=>by
    obtain⟨w1,w2⟩:=ha i (by omega);obtain⟨w3,w4⟩:=hb i (by omega);have hol:=iY (eW (a.getD i aj) (b.getD i aj));exact aB (chain [tT 14 ((i:Int)<(a.length:Int)) (by omega),iX ((i:Int)) (a.length) (by omega),iX ((i:Int)) (b.length) (by omega),
     .c (AG (a.getD i aj) (b.getD i aj) ‹_› ‹_› ‹_› ‹_›),
     .o 26 (.e (cR _):PV.le (.e (.sl true 1 7 fun i_ j_=>(aF (eW (a.getD i aj) (b.getD i aj))).getD (i_*7+j_) (.v (.bool false)))) (.e (an [(eW (a.getD i aj) (b.getD i aj))]))),
     .a (by omega:(i+[(eW (a.getD i aj) (b.getD i aj))].length)*88<=140737488355328),ar ((i:Int)+1) (by omega)] <| .e (chain [.b 5 (kz rfl rfl rfl:Bx.le (.row true 41 (i+[(eW (a.getD i aj) (b.getD i aj))].length) 7 (fun i_ j_=>if i_<i then(bA ((List.range i).map (fun j_=>eW (a.getD j_ aj) (b.getD j_ aj)))) i_ j_ else(E.fP (an [(eW (a.getD i aj) (b.getD i aj))])) (i_-i) j_)) (.row true 41 (i+1) 7 (bA ((List.range (i+1)).map (fun j_=>eW (a.getD j_ aj) (b.getD j_ aj))))))] <| .nil)) (by kernel_rfl))
  (fun hi=>by
    exact aB (chain [tF 14 ((a.length:Int)<(a.length:Int)) (by omega),.z 5] <| .e (chain [.o 5 (.e (nD (by simp)):PV.le (.e (.sl true a.length 7 (bA ((List.range a.length).map (fun j_=>eW (a.getD j_ aj) (b.getD j_ aj)))))) (.e (an ((List.range a.length).map (fun j_=>eW (a.getD j_ aj) (b.getD j_ aj))))))] <| .nil)) (by kernel_rfl)) (by nofun):bD 5 Tryz.f115 (AF a b 0) (.exit 0) ⟨30,true,[(5,.e (an ((List.range a.length).map (fun j_=>eW (a.getD j_ aj) (b.getD j_ aj)))))],[]⟩) .nil]<|rR (an (dh a b)) (.refl _:E.le (an ((List.range a.length).map (fun j_=>eW (a.getD j_ aj) (b.getD j_ aj)))) (an (dh a b)))) (by kernel_rfl)
theorem A4(p:Int):ae 159 [(iP p)] (bP (cB p)):=by
 exact tr true Tryz.call159 Tryz.func159 (.w (8<=p)
  (fun k1=>chain [tB 4 (decide_eq_true k1)]<|rQ (bP (decide (p<=512))) (bP (cB p)) (by unfold cB;simp[k1]))
  (fun k1=>chain [tB 4 (decide_eq_false k1)]<|rQ (bP false) (bP (cB p)) (by unfold cB;simp[k1]))) (by kernel_rfl)
theorem A6:iu [bP false,.v (.slice none 0 0),iP 0] (aQ aT):=.cons (.refl _) (.cons nK (.cons (.refl _) .nil))
theorem uW(x:List Iv)(p k:Nat):dr x p (k+1)=if 0<aD (bL (x.getD k aj) p) (dr x p k)then bL (x.getD k aj) p else dr x p k:=rfl
theorem zC(x:Iv){p:Nat}(hp:1<=p)(hp2:p<=4096):(bL x p).Valid:=ef _ hp hp2 _
theorem uX(x:List Iv){p:Nat}(hp:1<=p)(hp2:p<=4096):∀ k,(dr x p k).Valid
 | 0=>gL
 | k+1=>by
  unfold dr;split
  .exact zC _ hp hp2
  .exact uX x hp hp2 k
theorem I7(x:List Iv)(p:Nat)(x1:1<=x.length)(x8:x.length<=8)(hx:dM x)(hp1:8<=p)(hp2:p<=512)(hlo:∀ i,i<x.length->eR (x.getD i aj) p=0):ae 116 [(an x),(iP p)] (.aq [ag (dr x p x.length),bP true]):=by
 exact tr true Tryz.call116 Tryz.func116 (chain [.c (ng _ (by omega) (by omega) ‹_›:ae 112 [(an x)] _),.c (A4 _:ae 159 [(iP p)] _),tB 16 (fS.2 ⟨by omega,by omega⟩:(cB (p:Int))=true),
  .s (Sp.upto (AO x p) 0 x.length (by omega) (fun i hi hlti=>by
    obtain⟨w1,w2⟩:=hx i (by omega);have hlo_:=hlo i (by omega);have w3:=zC (x.getD i aj) (show 1<=p by omega) (show p<=4096 by omega);have w4:=uX x (show 1<=p by omega) (show p<=4096 by omega) i;by_cases hc:0<aD (bL (x.getD i aj) p) (dr x p i)
    .have hnx:dr x p (i+1)=bL (x.getD i aj) p:=by rw[uW,if_pos hc]
     exact aB (chain [tT 23 ((i:Int)<(x.length:Int)) (by omega),iX ((i:Int)) (x.length) (by omega),.c (fo (x.getD i aj) p ‹_› ‹_› (by omega) (by omega)),tB 31 (decide_eq_true hlo_),
      .c (b9 _ _ ‹_› ‹_›:ae 37 [(ag (bL (x.getD i aj) p)),(ag (dr x p i))] _),tB 38 (decide_eq_true hc),ar ((i:Int)+1) (by omega)] <| .e (chain [.b 6 (.of_eq (by rw[hnx]):Bx.le (.cells 31 (aQ (bL (x.getD i aj) p))) (.cells 31 (aQ (dr x p (i+1)))))] <| .nil)) (by kernel_rfl)
    .have hnx:dr x p (i+1)=dr x p i:=by rw[uW,if_neg hc]
     exact aB (chain [tT 23 ((i:Int)<(x.length:Int)) (by omega),iX ((i:Int)) (x.length) (by omega),.c (fo (x.getD i aj) p ‹_› ‹_› (by omega) (by omega)),tB 31 (decide_eq_true hlo_),
      .c (b9 _ _ ‹_› ‹_›:ae 37 [(ag (bL (x.getD i aj) p)),(ag (dr x p i))] _),tB 38 (decide_eq_false hc),ar ((i:Int)+1) (by omega)] <| .e (chain [.b 6 (.of_eq (by rw[hnx]):Bx.le (.cells 31 (aQ (dr x p i))) (.cells 31 (aQ (dr x p (i+1)))))] <| .nil)) (by kernel_rfl))
  (fun hi=>by
    exact aB (chain [tF 23 ((x.length:Int)<(x.length:Int)) (by omega)] <| .nil) (by kernel_rfl)) (by nofun):bD 5 Tryz.f116 (AO x p 0) (.exit 0) ⟨42,true,[(6,.box 6 0),(4,.box 4 0)],[(6,.cells 31 (aQ (dr x p x.length))),(4,.cells 31 [(bP false),(.v (.slice none 0 0)),(iP 0)])]⟩) (chain [.b 6 (.cells (fun _=>rfl) A6:Bx.le (.cells 31 [(bP false),(.v (.slice none 0 0)),(iP 0)]) (.cells 31 (aQ (dr x p 0))))] <| .nil)] <| .nil) (by kernel_rfl)
theorem I5(x:List Iv)(p:Nat)(x1:1<=x.length)(x8:x.length<=8)(hx:dM x)(hp1:8<=p)(hp2:p<=512)(N:Nat)(hN0:N<x.length)(hlo:∀ i,i<N->eR (x.getD i aj) p=0)(hN:eR (x.getD N aj) p≠0):ae 116 [(an x),(iP p)] (.aq [ag aT,bP false]):=by
 exact tr true Tryz.call116 Tryz.func116 (chain [.c (ng _ (by omega) (by omega) ‹_›:ae 112 [(an x)] _),.c (A4 _:ae 159 [(iP p)] _),tB 16 (fS.2 ⟨by omega,by omega⟩:(cB (p:Int))=true),
  .s (Sp.upto (AN x p N) 0 N (by omega) (fun i hi hlti=>by
    obtain⟨w1,w2⟩:=hx i (by omega);have hlo_:=hlo i (by omega);have w3:=zC (x.getD i aj) (show 1<=p by omega) (show p<=4096 by omega);have w4:=uX x (show 1<=p by omega) (show p<=4096 by omega) i;by_cases hc:0<aD (bL (x.getD i aj) p) (dr x p i)
    .have hnx:dr x p (i+1)=bL (x.getD i aj) p:=by rw[uW,if_pos hc]
     exact aB (chain [tT 23 ((i:Int)<(x.length:Int)) (by omega),iX ((i:Int)) (x.length) (by omega),.c (fo (x.getD i aj) p ‹_› ‹_› (by omega) (by omega)),tB 31 (decide_eq_true hlo_),
      .c (b9 _ _ ‹_› ‹_›:ae 37 [(ag (bL (x.getD i aj) p)),(ag (dr x p i))] _),tB 38 (decide_eq_true hc),ar ((i:Int)+1) (by omega)] <| .e (chain [.b 6 (.of_eq (by rw[hnx]):Bx.le (.cells 31 (aQ (bL (x.getD i aj) p))) (.cells 31 (aQ (dr x p (i+1)))))] <| .nil)) (by kernel_rfl)
    .have hnx:dr x p (i+1)=dr x p i:=by rw[uW,if_neg hc]
     exact aB (chain [tT 23 ((i:Int)<(x.length:Int)) (by omega),iX ((i:Int)) (x.length) (by omega),.c (fo (x.getD i aj) p ‹_› ‹_› (by omega) (by omega)),tB 31 (decide_eq_true hlo_),
      .c (b9 _ _ ‹_› ‹_›:ae 37 [(ag (bL (x.getD i aj) p)),(ag (dr x p i))] _),tB 38 (decide_eq_false hc),ar ((i:Int)+1) (by omega)] <| .e (chain [.b 6 (.of_eq (by rw[hnx]):Bx.le (.cells 31 (aQ (dr x p i))) (.cells 31 (aQ (dr x p (i+1)))))] <| .nil)) (by kernel_rfl))
  (fun hi=>by
    obtain⟨w1,w2⟩:=hx N (by omega);exact aB (chain [tT 23 ((N:Int)<(x.length:Int)) (by omega),iX ((N:Int)) (x.length) (by omega),.c (fo (x.getD N aj) p ‹_› ‹_› (by omega) (by omega)),tB 31 (decide_eq_false hN),
    .o 34 (.e kf:PV.le (.e (.agg [(bP false),(.v (.slice none 0 0)),(iP 0)])) (.e (ag aT)))] <| .nil) (by kernel_rfl)) (by nofun):bD 5 Tryz.f116 (AN x p N 0) .ret ⟨42,true,[(5,.e (bP false)),(4,.box 4 0)],[(4,.cells 31 (aQ aT))]⟩) (chain [.b 6 (.cells (fun _=>rfl) A6:Bx.le (.cells 31 [(bP false),(.v (.slice none 0 0)),(iP 0)]) (.cells 31 (aQ (dr x p 0))))] <| .nil)] <| .nil) (by kernel_rfl)
theorem Tx(x:List Iv){p:Nat}(hp:1<=p)(hp2:p<=4096):(gr x p).Valid:=by
 unfold gr;split
 .exact uX x hp hp2 _
 .exact gL
theorem I6(x:List Iv)(p:Nat)(x1:1<=x.length)(x8:x.length<=8)(hx:dM x)(hp1:8<=p)(hp2:p<=512):ae 116 [an x,iP (p:Int)] (.aq [ag (gr x p),bP (rN x p)]):=by
 unfold gr;cases hw:rN x p with
 | true =>
  rw[if_pos rfl];exact I7 x p x1 x8 hx hp1 hp2 fun i hi=>of_decide_eq_true (List.all_eq_true.1 hw i (List.mem_range.2 hi))
 | false =>
  rw[if_neg (by decide)];obtain⟨i,hi,hb⟩:=List.all_eq_false.1 hw;obtain⟨N,h1,h2,h3⟩:=gF (p:=fun i=>!(decide (eR (x.getD i aj) p=0))) ⟨i,List.mem_range.1 hi,by simpa using hb⟩;exact I5 x p x1 x8 hx hp1 hp2 N h1 (fun i hi=>by simpa using h3 i hi) (by simpa using h2)
end Go.Proofs.YtdgnpeddgdclhaaGreatDoor
namespace Go.Proofs.YtdgnpeddgdclhaaGreatDoor.Pu
open Go.RowKit
theorem Fj{bs br:Nat->Prop}{w:World}{xs:List Value}{a:Value}(h:ax bs br w (.agg (xs.map E.v)) a):a = .agg xs.toArray:=by
 generalize he:E.agg (xs.map E.v)=e at h;cases h with
 | agg l vs hl k =>
  cases he;rw[List.length_map]at hl;have:vs=xs:=List.ext_getElem? fun i=>by
   cases hx:xs[i]? with
   | none=>rw[List.getElem?_eq_none_iff]at hx ⊢;omega
   | some x =>
    obtain⟨v,hv⟩:∃ v,vs[i]? = some v:=by
     have hi:i<xs.length:=(List.getElem?_eq_some_iff.1 hx).1;exact⟨vs[i]'(by omega),List.getElem?_eq_getElem (by omega)⟩
    rw[hv,ax.bQ (k i (.v x) v (by rw[List.getElem?_map,hx];rfl) hv)]
  rw[this]
 | _=>cases he
theorem xM{P:Program}{t:TypeId}{m D D':Nat}(hm:m<=10000)(hk:P.keyTypeAt m t=true)(hg:P.eqGuardType P.depth t=false){xs ys:List Value}{la lb:List Lit}
  (hx:P.keyLits D t xs=some la) (hy:P.keyLits D' t ys=some lb) (fx:(Value.agg xs.toArray).formed P t=true) (fy:(Value.agg ys.toArray).formed P t=true) {c:Bool} (hc:c=true↔la=lb) :
  eJ P .eql t (.agg (xs.map E.v)) (.agg (ys.map E.v)) (.bool c):=by
 intro bs br w a b ox oy ha hb;obtain rfl:=Fj ha;obtain rfl:=Fj hb;constructor
 .simp only[eqGuard,Bool.not_true,Bool.false_eq_true,if_false,Sem.run_bind,run_program,Result.andThen_ok,hg,Bool.not_false,if_true,Sem.run_pure]
 .obtain ⟨r,hr,hiff⟩:=run_equalIn_deep (10000-m) m t hk w _ _ _ _ la lb fx fy (by simpa[Value.cells]using hx) (by simpa[Value.cells]using hy)
  rw[show 10000-m+m=10000 by omega]at hr;have e:r=c:=by rw[Bool.eq_iff_iff,hiff,hc]
  subst e;have:(Op.equal t (.agg xs.toArray) (.agg ys.toArray)).run P w = .ok r w:=hr;simp only[binOp,Sem.run_bind,this,Result.andThen_ok,Sem.run_pure]
end Go.Proofs.YtdgnpeddgdclhaaGreatDoor.Pu
namespace Go.Proofs.YtdgnpeddgdclhaaGreatDoor
open Go.RowKit Fp Pu
theorem Ei{t:TypeId}{m:Nat}(hm:m<=10000)(hk:Tryz.prog.keyTypeAt m t=true)(hg:Tryz.prog.eqGuardType Tryz.prog.depth t=false){xs:List Value}(hx:(Tryz.prog.keyLits 10 t xs).isSome=true)
  (fx:(Value.agg xs.toArray).formed Tryz.prog t=true):eJ Tryz.prog .eql t (.agg (xs.map E.v)) (.agg (xs.map E.v)) (.bool true):=by
 obtain⟨l,hl⟩:=Option.isSome_iff_exists.1 hx;exact xM hm hk hg hl hl fx fx (by simp)
theorem tU{a b c d e f:Int}(h:a=0/\b=0/\c=0/\d=0/\e=0/\f=0) :
  eJ Tryz.prog .eql 99 (.agg [iP a,iP b,iP c,iP d,iP e,iP f]) (.agg [iP 0,iP 0,iP 0,iP 0,iP 0,iP 0]) (.bool true):=by
 obtain⟨rfl,rfl,rfl,rfl,rfl,rfl⟩:=h;exact Ei (m:=10) (xs:=[.int .i64 0,.int .i64 0,.int .i64 0,.int .i64 0,.int .i64 0,.int .i64 0]) (by decide) (by kernel_rfl) (by kernel_rfl) (by kernel_rfl) (by kernel_rfl)
theorem xL{a b:Int}(h:a=0/\b=0):eJ Tryz.prog .eql 97 (.agg [iP a,iP b]) (.agg [iP 0,iP 0]) (.bool true):=by
 obtain⟨rfl,rfl⟩:=h;exact Ei (m:=10) (xs:=[.int .i64 0,.int .i64 0]) (by decide) (by kernel_rfl) (by kernel_rfl) (by kernel_rfl) (by kernel_rfl)
theorem mB{d:Nat}{n:Int}(h:bG .i64 n):Tryz.prog.keyLits (d+1) 3 [.int .i64 n]=some [.int .i64 n]:=by
 have hw:(Lit.int .i64 n).wf=true:=by
  unfold bG at h;simp[Lit.wf,IntKind.min,IntKind.max,IntKind.signed,IntKind.bits];omega
 unfold Program.keyLits;rw[Tryz.underlying3];simp[hw]
theorem EK{a b:Int}(ha:bG .i64 a)(hb:bG .i64 b):Tryz.prog.keyLits 10 97 [.int .i64 a,.int .i64 b]=some [.int .i64 a,.int .i64 b]:=by
 have c1:Tryz.prog.cellsOf 97=2:=by kernel_rfl
 have c2:Tryz.prog.cellsOf 3=1:=by kernel_rfl
 unfold Program.keyLits;rw[Tryz.underlying97];simp[c1,c2,List.mapM_cons,mB ha,mB hb]
theorem Eh{a b:Int}{r:Bool}(ha:bG .i64 a)(hb:bG .i64 b)(h:decide (a=0/\b=0)=r):eJ Tryz.prog .eql 97 (.agg [iP a,iP b]) (.agg [iP 0,iP 0]) (.bool r) :=
 xM (m:=10) (xs:=[.int .i64 a,.int .i64 b]) (ys:=[.int .i64 0,.int .i64 0]) (by decide) (by kernel_rfl) (by kernel_rfl) (EK ha hb) (EK (by unfold bG;omega) (by unfold bG;omega)) (by kernel_rfl) (by kernel_rfl) (by subst h;simp)
theorem Pq{a b c d e f a' b' c' d' e' f':Int}{r:Bool}(hx:Tryz.prog.keyLits 10 99 [.int .i64 a,.int .i64 b,.int .i64 c,.int .i64 d,.int .i64 e,.int .i64 f]=some [.int .i64 a,.int .i64 b,.int .i64 c,.int .i64 d,.int .i64 e,.int .i64 f])(hy:Tryz.prog.keyLits 10 99 [.int .i64 a',.int .i64 b',.int .i64 c',.int .i64 d',.int .i64 e',.int .i64 f']=some [.int .i64 a',.int .i64 b',.int .i64 c',.int .i64 d',.int .i64 e',.int .i64 f'])
  (fx:(Value.agg (List.toArray [.int .i64 a,.int .i64 b,.int .i64 c,.int .i64 d,.int .i64 e,.int .i64 f])).formed Tryz.prog 99=true) (fy:(Value.agg (List.toArray [.int .i64 a',.int .i64 b',.int .i64 c',.int .i64 d',.int .i64 e',.int .i64 f'])).formed Tryz.prog 99=true) (h:decide (a=a'/\b=b'/\c=c'/\d=d'/\e=e'/\f=f')=r) :
  eJ Tryz.prog .eql 99 (.agg [iP a,iP b,iP c,iP d,iP e,iP f]) (.agg [iP a',iP b',iP c',iP d',iP e',iP f']) (.bool r) :=
 xM (m:=10) (xs:=[.int .i64 a,.int .i64 b,.int .i64 c,.int .i64 d,.int .i64 e,.int .i64 f]) (ys:=[.int .i64 a',.int .i64 b',.int .i64 c',.int .i64 d',.int .i64 e',.int .i64 f']) (by decide) (by kernel_rfl) (by kernel_rfl) hx hy fx fy (by subst h;simp)
open Go.RowKit Fp Pu
theorem RL{P:Program}(w:World)(t tx ty e:TypeId)(i:TypeInfo)(z:Value)(ht:P.underlying t=some (.slice e))(hx:P.underlying tx=some (.int .i64))(hi:P.info? e=some i)(hz:i.zero=some z)
  (hsize:i.size≠0) (n:Nat) (h0:0<n) (h31:n<=1000000) (h48:n*i.bytes<=281474976710656) :
  (Builtin.append_ #[t,tx] ty #[.slice none 0 0,.int .i64 (n:Int)]).run P w =
   .ok (.slice (some ⟨w.heap.size,0,none⟩) n (grownCap w n 0 e)) (w.drew.alloc (.cells (Builtin.zeroCells z.cells n++Builtin.zeroCells z.cells (grownCap w n 0 e-n)) e)):=by
 have hn:n≠0:=by omega
 have hns:n*i.size≠0:=Nat.mul_ne_zero hn hsize;have h63':¬(9223372036854775807<(n:Int)):=by omega
 have h48':¬(281474976710656<Builtin.nextslicecap n 0*i.bytes):=by rw[nextslicecap_zero h0];omega
 have hw:IntKind.i64.wrap (n:Int)=n:=i64_in _ (by omega) (by omega);have hneg:¬((n:Int)<0):=by omega
 have h48i:¬(281474976710656<(n:Int)*(i.bytes:Int)):=by
  have:(n:Int)*(i.bytes:Int)=((n*i.bytes:Nat):Int):=by simp
  rw[this];omega
 simp[Builtin.append_,run_underlying ht,run_underlying hx,sizeOf,typeInfo,zeroValue,hi,hz,asInt,asIntOf,hw,hneg,h48i,hn,hns,h63',h48',Question.forced,run_firstCells_none,newRow,grownCap]
theorem TA{P:Program}{w:World}{ops:Array Oper}{rest:List Oper}{o:Oper}{a:Act}{Q:Exit->Act->World->Prop}(hgd:o.guard=none)(s x:Operand)(t tx:TypeId)
  (ho:o.op = .call { callee:=.builtin .append,args:=#[s,x],argTypes:=#[t,tx] })
  (e:TypeId) (i:TypeInfo) (z:Value) (ht:P.underlying t=some (.slice e)) (hx:P.underlying tx=some (.int .i64)) (hi:P.info? e=some i) (hz:i.zero=some z)
  (hsize:i.size≠0) (n:Nat) (h0:0<n) (h31:n<=1000000) (h48:n*i.bytes<=281474976710656) (hs:a.eval s = .slice none 0 0) (hxx:a.eval x = .int .i64 (n:Int))
  (h:wpList P ops Q rest (a.put o.dst (.slice (some ⟨w.heap.size,0,none⟩) n (grownCap w n 0 e))) (w.drew.alloc (.cells (Builtin.zeroCells z.cells n++Builtin.zeroCells z.cells (grownCap w n 0 e-n)) e))):wpList P ops Q (o::rest) a w:=by
 refine wpList_plain hgd fun K hK=>?_
 have hrun:=RL (P:=P) w t tx o.type e i z ht hx hi hz hsize n h0 h31 h48;unfold Oper.wp;simp[execOp,ho,resolve,invoke,builtin,hs,hxx,hrun,Result.andThen];exact hK _ _ h
theorem Hn(w:World)(o:Obj):Below w.heap.size w (w.alloc o).drew:=⟨rfl,rfl,rfl,by rw[show(w.alloc o).drew.heap=w.heap.push o from rfl,Array.size_push];omega,fun x hx=>Below.heap_alloc w _ x hx⟩
theorem Ho(w:World)(o:Obj):w.heap.size<(w.alloc o).drew.heap.size:=by rw[show(w.alloc o).drew.heap=w.heap.push o from rfl,Array.size_push];omega
theorem Ny:(Tryz.prog.info? 41).map (fun i=>(i.zero,i.size,i.bytes))=some (some (.agg #[.bool false,.slice none 0 0,.int .i64 0,.bool false,.slice none 0 0,.int .i64 0,.bool false]),7,88):=by kernel_rfl
theorem GU(n:Nat):∀ u,u ∈ Builtin.zeroCells (Value.cells (.agg #[.bool false,.slice none 0 0,.int .i64 0,.bool false,.slice none 0 0,.int .i64 0,.bool false])) n->gS u=false:=by
 intro u hu;simp only[Builtin.zeroCells,Array.mem_map,Array.mem_range]at hu;obtain⟨q,hq,rfl⟩:=hu;have hc:Value.cells (.agg #[.bool false,.slice none 0 0,.int .i64 0,.bool false,.slice none 0 0,.int .i64 0,.bool false]) = #[.bool false,.slice none 0 0,.int .i64 0,.bool false,.slice none 0 0,.int .i64 0,.bool false]:=rfl;rw[hc]at hq ⊢
 have hs:(#[Value.bool false,.slice none 0 0,.int .i64 0,.bool false,.slice none 0 0,.int .i64 0,.bool false]:Array Value).size=7:=rfl;rw[hs];have h7:q%7<7:=Nat.mod_lt _ (by decide);generalize q%7=k at h7;rcases k with _|_|_|_|_|_|_|k
 all_goals first|rfl|omega
set_option maxRecDepth 100000 in
theorem Na(n:Nat)(hn:n<=1000000):ji Tryz.prog Tb 175 [.v (.slice none 0 0),iP ((n:Nat):Int)] true 41 0 7 (bA []):=by
 refine⟨Tryz.call175,fun w B vs hK hB hr=>?_⟩;obtain⟨v1,vs,rfl,h1,hr⟩:=hr.cK;obtain⟨v2,vs,rfl,h2,hr⟩:=hr.cK;obtain rfl:=hr.fB;obtain rfl:=ax.bQ h1;obtain rfl:=ax.bQ h2;show Calls _ _ #[.slice none 0 0,.int .i64 (n:Int)] w _;clear h1 h2 hr hB hK;by_cases h0:n=0
 .subst h0
  go_enter Tryz.func175,Tryz.ntmps175;go_wp2;go_ret;exact⟨_,rfl,Below.refl _ _,fun _ _=>undef,.inl ⟨rfl,rfl⟩,fun x hx=>by simp[Value.ownBlock]at hx,fun i j hi=>absurd hi (Nat.not_lt_zero _)⟩
 .obtain ⟨i,hi,hz,h1,h2⟩:=info_parts Ny
  have hw:IntKind.i64.wrap ((n:Int)-0)=n:=i64_in _ (by omega) (by omega);have hw2:IntKind.i64.wrap (n:Int)=n:=i64_in _ (by omega) (by omega);have e2:decide ((n:Int)<0)=false:=decide_eq_false (by omega);have e3:decide ((0:Int)<(n:Int))=true:=decide_eq_true (by omega);have hcap:n<=grownCap w n 0 41:=grownCap_ge w n 0 _;go_enter Tryz.func175,Tryz.ntmps175
  go_wp2_with (at_builtin;go_must (refine TA (by rfl) _ _ _ _ (by rfl) _ i _ Tryz.underlying26 Tryz.underlying3 hi hz (by omega) n (by omega) (by omega) (by rw[h2];omega) (by rfl) (by rfl) ?_))
  go_ret;have hz7:(#[Value.bool false,.slice none 0 0,.int .i64 0,.bool false,.slice none 0 0,.int .i64 0,.bool false]:Array Value).size=7:=rfl
  refine⟨_,rfl,Hn w _,fun _ _=>undef,.inr ⟨w.heap.size,grownCap w n 0 41,_,rfl,heap_alloc_new w _,Nat.zero_le _,grownCap_le_maxLen w n 0 _ (by unfold maxLen;omega),?_,fun i j hi=>absurd hi (Nat.not_lt_zero _),fun _ u hu=>?_⟩,fun x hx=>?_,fun i j hi=>absurd hi (Nat.not_lt_zero _)⟩
  .simp only[Array.size_append,size_zeroCells,hz7,<-Nat.add_mul]
   congr 1;omega
  .rcases Array.mem_append.1 hu with hu|hu
   .exact GU _ u hu
   .exact GU _ u hu
  .simp [Value.ownBlock]at hx
   subst hx;exact⟨Nat.le_refl _,Ho w _⟩
open Go.RowKit Fp Pu
abbrev rZ(f:FuncId)(args:List E)(nl:Bool)(T:TypeId)(n sz:Nat)(el:Nat->Nat->E):Prop:=ji Tryz.prog Tb f args nl T n sz el
theorem S2{f:FuncId}{fn:Func}{args:List E}{nl:Bool}{T0:TypeId}{n sz:Nat}{el:Nat->Nat->E}(hcall:∀ (vs:Array Value) (w:World),(callFunc f vs).run Tryz.prog w = .ok (.enter f vs) w)
  (hf:Tryz.prog.funcs[f]? = some fn) (t:Tr Tryz.prog Tb) (h:yo TT fn args (.row nl T0 n sz el) t=t.ex fun _=>.a (Bx.le (.row nl T0 n sz el) (.row nl T0 n sz el)) .nil):rZ f args nl T0 n sz el :=
 ji.zh ve mixed Aa hcall hf t h
open Go.RowKit Fp Pu
def Gk(t:fO)(x:Nat):PS:=⟨46,true,[(28,.e (iP x)),(27,.e (iP t.ops.length)),(26,.e (cU t.ops)),(1,.box 1 0)],[(1,.cells 25 [(iP t.ins),(cU t.ops),(cT t.outs)])]⟩
def Gg(s:bU)(x:Nat):PS:=⟨85,true,[(31,.e (iP x)),(30,.e (iP s.tape.ops.length)),(29,.e (cU s.tape.ops)),(3,.box 3 0),(1,.box 1 0)],[(3,.cells 25 [(iP s.tape.ins),(cU s.tape.ops),(cT s.tape.outs)]),(1,.cells 28 [(iP s.tape.ins),(cU s.tape.ops),(cT s.tape.outs),(iP s.au),(an s.params)])]⟩
noncomputable def Gj(t:fO)(xs:List Iv)(p:Nat)(x:Nat):PS:=⟨75,true,[(26,.e (iP x)),(25,.e (iP t.ops.length)),(24,.e (cU t.ops)),(7,.own 22),(2,.e (iP p))],[(22,.row true 41 ((aX t.ops xs p x).length) 7 (bA (aX t.ops xs p x)))]⟩
theorem Em(k:Nat)(h1:3<=k)(h2:k<=6):ae 209 [(iP k)] (iP 2):=by
 exact tr true Tryz.call209 Tryz.func209 (chain [tB 5 (beq_eq_false_iff_ne.2 (by omega):((k:Int)==1)=false)] <| .w ((k:Int)=3)
  (fun k1=>chain [tB 7 (beq_iff_eq.2 k1)] <| .nil)
  (fun k1=>chain [tB 7 (beq_eq_false_iff_ne.2 k1)] <| .w ((k:Int)=4)
   (fun k2=>chain [tB 8 (beq_iff_eq.2 k2)] <| .nil)
   (fun k2=>chain [tB 8 (beq_eq_false_iff_ne.2 k2)] <| .w ((k:Int)=5)
    (fun k3=>chain [tB 9 (beq_iff_eq.2 k3)] <| .nil)
    (fun k3=>chain [tB 9 (beq_eq_false_iff_ne.2 k3)] <| .w ((k:Int)=6)
     (fun k4=>chain [tB 10 (beq_iff_eq.2 k4)] <| .nil)
     (fun k4=>.x (by omega)))))) (by kernel_rfl)
theorem xP(k:Nat)(h1:7<=k)(h2:k<=13):ae 209 [(iP k)] (iP 1):=by
 exact tr true Tryz.call209 Tryz.func209 (chain [tB 5 (beq_eq_false_iff_ne.2 (by omega):((k:Int)==1)=false),tB 7 (beq_eq_false_iff_ne.2 (by omega):((k:Int)==3)=false),tB 8 (beq_eq_false_iff_ne.2 (by omega):((k:Int)==4)=false),
  tB 9 (beq_eq_false_iff_ne.2 (by omega):((k:Int)==5)=false),tB 10 (beq_eq_false_iff_ne.2 (by omega):((k:Int)==6)=false)] <| .w ((k:Int)=7)
  (fun k1=>chain [tB 12 (beq_iff_eq.2 k1)] <| .nil)
  (fun k1=>chain [tB 12 (beq_eq_false_iff_ne.2 k1)] <| .w ((k:Int)=8)
   (fun k2=>chain [tB 13 (beq_iff_eq.2 k2)] <| .nil)
   (fun k2=>chain [tB 13 (beq_eq_false_iff_ne.2 k2)] <| .w ((k:Int)=9)
    (fun k3=>chain [tB 14 (beq_iff_eq.2 k3)] <| .nil)
    (fun k3=>chain [tB 14 (beq_eq_false_iff_ne.2 k3)] <| .w ((k:Int)=10)
     (fun k4=>chain [tB 15 (beq_iff_eq.2 k4)] <| .nil)
     (fun k4=>chain [tB 15 (beq_eq_false_iff_ne.2 k4)] <| .w ((k:Int)=11)
      (fun k5=>chain [tB 16 (beq_iff_eq.2 k5)] <| .nil)
      (fun k5=>chain [tB 16 (beq_eq_false_iff_ne.2 k5)] <| .w ((k:Int)=12)
       (fun k6=>chain [tB 17 (beq_iff_eq.2 k6)] <| .nil)
       (fun k6=>chain [tB 17 (beq_eq_false_iff_ne.2 k6)] <| .w ((k:Int)=13)
        (fun k7=>chain [tB 18 (beq_iff_eq.2 k7)] <| .nil)
        (fun k7=>.x (by omega))))))))) (by kernel_rfl)
theorem El(k:Nat)(h1:k=1):ae 209 [(iP k)] (iP 0):=by
 exact tr true Tryz.call209 Tryz.func209 (chain [tB 5 (beq_iff_eq.2 (by omega):((k:Int)==1)=true)] <| .nil) (by kernel_rfl)
theorem Pr{a b:Int}(h:dm a b=true):eJ Tryz.prog .eql 97 (.agg [iP a,iP b]) (.agg [iP 0,iP 0]) (.bool false):=by
 obtain⟨h1,h2,h3,h4⟩:=yg h;exact Eh (by unfold bG;omega) (by unfold bG;omega) (decide_eq_false (by omega))
theorem dG.bin{o:dH}{m:Nat}(h:dG o m)(hk1:o.kind≠1)(hk:o.kind<=6):3<=o.kind/\o.a<m/\o.b<m/\o.n=0/\o.cn=0/\o.cd=0:=by
 have h3:=h.k3.resolve_left hk1;have ha:=h.a;have hb:=h.b;have hn:=h.n;have hc:=h.c;rw[if_neg hk1]at ha hc;rw[if_pos ⟨h3,hk⟩]at hb;rw[if_neg (by omega)]at hn;exact⟨h3,ha,hb,hn,hc.1,hc.2⟩
theorem dG.pow{o:dH}{m:Nat}(h:dG o m)(hk:o.kind=8):o.a<m/\o.b=0/\o.n<=16/\o.cn=0/\o.cd=0:=by
 have ha:=h.a;have hb:=h.b;have hn:=h.n;have hc:=h.c;rw[if_neg (by omega)]at ha hb hc;rw[if_pos hk]at hn;exact⟨ha,hb,hn,hc.1,hc.2⟩
theorem dG.un{o:dH}{m:Nat}(h:dG o m)(hk:¬o.kind<=6)(hk8:o.kind≠8):o.kind<=13/\o.a<m/\o.b=0/\o.n=0/\o.cn=0/\o.cd=0:=by
 have ha:=h.a;have hb:=h.b;have hn:=h.n;have hc:=h.c;rw[if_neg (by omega)]at ha hb hc;rw[if_neg hk8]at hn;exact⟨h.qx,ha,hb,hn,hc.1,hc.2⟩
theorem dG.num{o:dH}{m:Nat}(h:dG o m)(hk:o.kind=1):o.a=0/\o.b=0/\o.n=0/\dm o.cn o.cd=true:=by
 have ha:=h.a;have hb:=h.b;have hn:=h.n;have hc:=h.c;rw[if_pos hk]at ha hc;rw[if_neg (by omega)]at hb hn;exact⟨ha,hb,hn,hc⟩
theorem dG.Hg{o:dH}{m:Nat}(h:dG o m)(hk:o.kind≠1):o.a<m:=by
 have ha:=h.a;rwa[if_neg hk]at ha
theorem PT(o:dH)(m:Nat)(h:dG o m)(hk:o.kind=1):ae 234 [(jE o),(iP m)] (bP true):=by
 obtain⟨h2,h3,h4,hrt⟩:=h.num hk;exact tr true Tryz.call234 Tryz.func234 (chain [.c (El _ (by omega):ae 209 [(iP o.kind)] _),tB 14 (by decide:(decide ((0:Int)<0))=false),tB 17 (by decide:((0:Int)==0)=true),.c (ub o.cn o.cd),tB 20 (hrt:(dm o.cn o.cd)=true),
  tB 26 (beq_eq_false_iff_ne.2 (by omega):((o.kind:Int)==8)=false),tB 37 (by decide:(decide ((0:Int)<0))=false),tB 49 (by decide:(decide ((1:Int)<0))=false),
  .g (tU ⟨by omega,by omega,by omega,by omega,by omega,by omega⟩:eJ Tryz.prog .eql 99 (.agg [(iP 0),(iP o.a),(iP o.b),(iP o.n),(iP 0),(iP 0)]) (.agg [(iP 0),(iP 0),(iP 0),(iP 0),(iP 0),(iP 0)]) (.bool true))] <| .nil) (by kernel_rfl)
theorem PR(o:dH)(m:Nat)(h:dG o m)(hk1:o.kind≠1)(hk:o.kind<=6):ae 234 [(jE o),(iP m)] (bP true):=by
 obtain⟨h1,h2,h3,h4,h5,h6⟩:=h.bin hk1 hk;exact tr true Tryz.call234 Tryz.func234 (chain [.c (Em _ (by omega) (by omega):ae 209 [(iP o.kind)] _),tB 14 (by decide:(decide ((2:Int)<0))=false),tB 17 (by decide:((2:Int)==0)=false),
  tB 26 (beq_eq_false_iff_ne.2 (by omega):((o.kind:Int)==8)=false),tB 37 (by decide:(decide ((0:Int)<2))=true),tF 40 ((o.a:Int)<0) (by omega),tF 45 ((m:Int)<=(o.a:Int)) (by omega),
  tB 49 (by decide:(decide ((1:Int)<2))=true),tF 52 ((o.b:Int)<0) (by omega),tF 57 ((m:Int)<=(o.b:Int)) (by omega),
  .g (tU ⟨by omega,by omega,by omega,by omega,by omega,by omega⟩:eJ Tryz.prog .eql 99 (.agg [(iP 0),(iP 0),(iP 0),(iP o.n),(iP o.cn),(iP o.cd)]) (.agg [(iP 0),(iP 0),(iP 0),(iP 0),(iP 0),(iP 0)]) (.bool true))] <| .nil) (by kernel_rfl)
theorem PW(o:dH)(m:Nat)(h:dG o m)(hk:o.kind=8):ae 234 [(jE o),(iP m)] (bP true):=by
 obtain⟨h2,h3,h4,h5,h6⟩:=h.pow hk;exact tr true Tryz.call234 Tryz.func234 (chain [.c (xP _ (by omega) (by omega):ae 209 [(iP o.kind)] _),tB 14 (by decide:(decide ((1:Int)<0))=false),tB 17 (by decide:((1:Int)==0)=false),
  tB 26 (beq_iff_eq.2 (by omega):((o.kind:Int)==8)=true),tF 29 ((o.n:Int)<0) (by omega),tF 33 (16<(o.n:Int)) (by omega),tB 37 (by decide:(decide ((0:Int)<1))=true),
  tF 40 ((o.a:Int)<0) (by omega),tF 45 ((m:Int)<=(o.a:Int)) (by omega),tB 49 (by decide:(decide ((1:Int)<1))=false),
  .g (tU ⟨by omega,by omega,by omega,by omega,by omega,by omega⟩:eJ Tryz.prog .eql 99 (.agg [(iP 0),(iP 0),(iP o.b),(iP 0),(iP o.cn),(iP o.cd)]) (.agg [(iP 0),(iP 0),(iP 0),(iP 0),(iP 0),(iP 0)]) (.bool true))] <| .nil) (by kernel_rfl)
theorem PX(o:dH)(m:Nat)(h:dG o m)(hk:¬o.kind<=6)(hk8:o.kind≠8):ae 234 [(jE o),(iP m)] (bP true):=by
 obtain⟨h1,h2,h3,h4,h5,h6⟩:=h.un hk hk8;exact tr true Tryz.call234 Tryz.func234 (chain [.c (xP _ (by omega) (by omega):ae 209 [(iP o.kind)] _),tB 14 (by decide:(decide ((1:Int)<0))=false),tB 17 (by decide:((1:Int)==0)=false),
  tB 26 (beq_eq_false_iff_ne.2 (by omega):((o.kind:Int)==8)=false),tB 37 (by decide:(decide ((0:Int)<1))=true),tF 40 ((o.a:Int)<0) (by omega),tF 45 ((m:Int)<=(o.a:Int)) (by omega),
  tB 49 (by decide:(decide ((1:Int)<1))=false),
  .g (tU ⟨by omega,by omega,by omega,by omega,by omega,by omega⟩:eJ Tryz.prog .eql 99 (.agg [(iP 0),(iP 0),(iP o.b),(iP o.n),(iP o.cn),(iP o.cd)]) (.agg [(iP 0),(iP 0),(iP 0),(iP 0),(iP 0),(iP 0)]) (.bool true))] <| .nil) (by kernel_rfl)
theorem Sv(o:dH)(m:Nat)(h:dG o m)(hk:o.kind=1):ae 133 [(jE o),(iP m)] (bP true):=by
 obtain⟨h2,h3,h4,hrt⟩:=h.num hk;exact tr true Tryz.call133 Tryz.func133 (chain [tF 8 ((o.a:Int)<0) (by omega),tF 12 ((o.b:Int)<0) (by omega),.g (Pr hrt:eJ Tryz.prog .eql 97 (.agg [(iP o.cn),(iP o.cd)]) (.agg [(iP 0),(iP 0)]) (.bool false)),
  tB 21 (beq_iff_eq.2 (by omega):((o.kind:Int)==1)=true),.c (ub o.cn o.cd),tB 24 (hrt:(dm o.cn o.cd)=true),tB 28 (beq_iff_eq.2 (by omega):((o.a:Int)==0)=true),
  tB 33 (beq_iff_eq.2 (by omega):((o.b:Int)==0)=true),tB 38 (beq_iff_eq.2 (by omega):((o.n:Int)==0)=true)] <| .nil) (by kernel_rfl)
theorem Su(o:dH)(m:Nat)(h:dG o m)(hk1:o.kind≠1)(hk:o.kind<=6):ae 133 [(jE o),(iP m)] (bP true):=by
 obtain⟨h1,h2,h3,h4,h5,h6⟩:=h.bin hk1 hk;exact tr true Tryz.call133 Tryz.func133 (chain [tF 8 ((o.a:Int)<0) (by omega),tF 12 ((o.b:Int)<0) (by omega),.g (xL ⟨by omega,by omega⟩:eJ Tryz.prog .eql 97 (.agg [(iP o.cn),(iP o.cd)]) (.agg [(iP 0),(iP 0)]) (.bool true)),
  tB 21 (beq_eq_false_iff_ne.2 (by omega):((o.kind:Int)==1)=false)] <| .w ((o.kind:Int)=3)
  (fun k1=>chain [tB 41 (beq_iff_eq.2 k1),tT 50 ((o.a:Int)<(m:Int)) (by omega),tT 56 ((o.b:Int)<(m:Int)) (by omega),tB 61 (beq_iff_eq.2 (by omega):((o.n:Int)==0)=true)] <| .nil)
  (fun k1=>chain [tB 41 (beq_eq_false_iff_ne.2 k1)] <| .w ((o.kind:Int)=4)
   (fun k2=>chain [tB 42 (beq_iff_eq.2 k2),tT 50 ((o.a:Int)<(m:Int)) (by omega),tT 56 ((o.b:Int)<(m:Int)) (by omega),tB 61 (beq_iff_eq.2 (by omega):((o.n:Int)==0)=true)] <| .nil)
   (fun k2=>chain [tB 42 (beq_eq_false_iff_ne.2 k2)] <| .w ((o.kind:Int)=5)
    (fun k3=>chain [tB 43 (beq_iff_eq.2 k3),tT 50 ((o.a:Int)<(m:Int)) (by omega),tT 56 ((o.b:Int)<(m:Int)) (by omega),tB 61 (beq_iff_eq.2 (by omega):((o.n:Int)==0)=true)] <| .nil)
    (fun k3=>chain [tB 43 (beq_eq_false_iff_ne.2 k3)] <| .w ((o.kind:Int)=6)
     (fun k4=>chain [tB 44 (beq_iff_eq.2 k4),tT 50 ((o.a:Int)<(m:Int)) (by omega),tT 56 ((o.b:Int)<(m:Int)) (by omega),tB 61 (beq_iff_eq.2 (by omega):((o.n:Int)==0)=true)] <| .nil)
     (fun k4=>.x (by omega)))))) (by kernel_rfl)
theorem Sx(o:dH)(m:Nat)(h:dG o m)(hk:o.kind=8):ae 133 [(jE o),(iP m)] (bP true):=by
 obtain⟨h2,h3,h4,h5,h6⟩:=h.pow hk;exact tr true Tryz.call133 Tryz.func133 (chain [tF 8 ((o.a:Int)<0) (by omega),tF 12 ((o.b:Int)<0) (by omega),.g (xL ⟨by omega,by omega⟩:eJ Tryz.prog .eql 97 (.agg [(iP o.cn),(iP o.cd)]) (.agg [(iP 0),(iP 0)]) (.bool true)),
  tB 21 (beq_eq_false_iff_ne.2 (by omega):((o.kind:Int)==1)=false),tB 41 (beq_eq_false_iff_ne.2 (by omega):((o.kind:Int)==3)=false),
  tB 42 (beq_eq_false_iff_ne.2 (by omega):((o.kind:Int)==4)=false),tB 43 (beq_eq_false_iff_ne.2 (by omega):((o.kind:Int)==5)=false),
  tB 44 (beq_eq_false_iff_ne.2 (by omega):((o.kind:Int)==6)=false),tB 64 (beq_iff_eq.2 (by omega):((o.kind:Int)==8)=true),tT 70 ((o.a:Int)<(m:Int)) (by omega),
  tB 75 (beq_iff_eq.2 (by omega):((o.b:Int)==0)=true),tT 80 (0<=(o.n:Int)) (by omega),tT 85 ((o.n:Int)<=16) (by omega)] <| .nil) (by kernel_rfl)
theorem Sy(o:dH)(m:Nat)(h:dG o m)(hk:¬o.kind<=6)(hk8:o.kind≠8):ae 133 [(jE o),(iP m)] (bP true):=by
 obtain⟨h1,h2,h3,h4,h5,h6⟩:=h.un hk hk8;exact tr true Tryz.call133 Tryz.func133 (chain [tF 8 ((o.a:Int)<0) (by omega),tF 12 ((o.b:Int)<0) (by omega),.g (xL ⟨by omega,by omega⟩:eJ Tryz.prog .eql 97 (.agg [(iP o.cn),(iP o.cd)]) (.agg [(iP 0),(iP 0)]) (.bool true)),
  tB 21 (beq_eq_false_iff_ne.2 (by omega):((o.kind:Int)==1)=false),tB 41 (beq_eq_false_iff_ne.2 (by omega):((o.kind:Int)==3)=false),
  tB 42 (beq_eq_false_iff_ne.2 (by omega):((o.kind:Int)==4)=false),tB 43 (beq_eq_false_iff_ne.2 (by omega):((o.kind:Int)==5)=false),
  tB 44 (beq_eq_false_iff_ne.2 (by omega):((o.kind:Int)==6)=false),tB 64 (beq_eq_false_iff_ne.2 (by omega):((o.kind:Int)==8)=false)] <| .w ((o.kind:Int)=7)
  (fun k1=>chain [tB 88 (beq_iff_eq.2 k1),tT 99 ((o.a:Int)<(m:Int)) (by omega),tB 104 (beq_iff_eq.2 (by omega):((o.b:Int)==0)=true),tB 109 (beq_iff_eq.2 (by omega):((o.n:Int)==0)=true)] <| .nil)
  (fun k1=>chain [tB 88 (beq_eq_false_iff_ne.2 k1)] <| .w ((o.kind:Int)=9)
   (fun k2=>chain [tB 89 (beq_iff_eq.2 k2),tT 99 ((o.a:Int)<(m:Int)) (by omega),tB 104 (beq_iff_eq.2 (by omega):((o.b:Int)==0)=true),tB 109 (beq_iff_eq.2 (by omega):((o.n:Int)==0)=true)] <| .nil)
   (fun k2=>chain [tB 89 (beq_eq_false_iff_ne.2 k2)] <| .w ((o.kind:Int)=10)
    (fun k3=>chain [tB 90 (beq_iff_eq.2 k3),tT 99 ((o.a:Int)<(m:Int)) (by omega),tB 104 (beq_iff_eq.2 (by omega):((o.b:Int)==0)=true),tB 109 (beq_iff_eq.2 (by omega):((o.n:Int)==0)=true)] <| .nil)
    (fun k3=>chain [tB 90 (beq_eq_false_iff_ne.2 k3)] <| .w ((o.kind:Int)=11)
     (fun k4=>chain [tB 91 (beq_iff_eq.2 k4),tT 99 ((o.a:Int)<(m:Int)) (by omega),tB 104 (beq_iff_eq.2 (by omega):((o.b:Int)==0)=true),tB 109 (beq_iff_eq.2 (by omega):((o.n:Int)==0)=true)] <| .nil)
     (fun k4=>chain [tB 91 (beq_eq_false_iff_ne.2 k4)] <| .w ((o.kind:Int)=12)
      (fun k5=>chain [tB 92 (beq_iff_eq.2 k5),tT 99 ((o.a:Int)<(m:Int)) (by omega),tB 104 (beq_iff_eq.2 (by omega):((o.b:Int)==0)=true),tB 109 (beq_iff_eq.2 (by omega):((o.n:Int)==0)=true)] <| .nil)
      (fun k5=>chain [tB 92 (beq_eq_false_iff_ne.2 k5)] <| .w ((o.kind:Int)=13)
       (fun k6=>chain [tB 93 (beq_iff_eq.2 k6),tT 99 ((o.a:Int)<(m:Int)) (by omega),tB 104 (beq_iff_eq.2 (by omega):((o.b:Int)==0)=true),tB 109 (beq_iff_eq.2 (by omega):((o.n:Int)==0)=true)] <| .nil)
       (fun k6=>.x (by omega)))))))) (by kernel_rfl)
theorem PU(o:dH)(m:Nat)(h:dG o m):ae 234 [jE o,iP (m:Int)] (bP true):=by
 by_cases hk1:o.kind=1
 .exact PT o m h hk1
 by_cases hk:o.kind<=6
 .exact PR o m h hk1 hk
 .by_cases hk8:o.kind=8
  .exact PW o m h hk8
  .exact PX o m h hk hk8
theorem Sw(o:dH)(m:Nat)(h:dG o m):ae 133 [jE o,iP (m:Int)] (bP true):=by
 by_cases hk1:o.kind=1
 .exact Sv o m h hk1
 by_cases hk:o.kind<=6
 .exact Su o m h hk1 hk
 .by_cases hk8:o.kind=8
  .exact Sx o m h hk8
  .exact Sy o m h hk hk8
theorem SR(t:fO)(k:Nat)(hk:k<t.ins+t.ops.length)(h8:t.ins<=8)(h200:t.ops.length<=200):ae 235 [(iP k),(.ref 3 fun j_=>[(iP t.ins),(cU t.ops),(cT t.outs)].getD j_ .any)] (bP false):=by
 exact tr true Tryz.call235 Tryz.func235 (chain [tF 5 ((k:Int)<0) (by omega),ar ((t.ins:Int)+(t.ops.length:Int)) (by omega),tF 14 ((((t.ins+t.ops.length):Nat):Int)<=(k:Int)) (by omega)] <| .nil) (by kernel_rfl)
theorem Gl(t:fO)(h:om t):ae 207 [(mU t)] (bP true):=by
 have h8:=h.ins;have hops:=h.ops;have hou:=h.outs;exact tr true Tryz.call207 Tryz.func207 (chain [tF 7 ((t.ins:Int)<0) (by omega),tF 11 (8<(t.ins:Int)) (by omega),tF 17 (200<(t.ops.length:Int)) (by omega),tF 23 (200<(t.outs.length:Int)) (by omega),
  .s (Sp.upto (Gk t) 0 t.ops.length (by omega) (fun x hx hltx=>by
    have hop:=h.op x (by omega);exact aB (chain [tT 29 ((x:Int)<(t.ops.length:Int)) (by omega),iX ((x:Int)) (t.ops.length) (by omega),ar ((t.ins:Int)+(x:Int)) (by omega),
     .c (PU _ _ hop:ae 234 [(jE (t.ops.getD x a6)),(iP (((t.ins+x):Nat):Int))] _),ar ((x:Int)+1) (by omega)] <| .nil) (by kernel_rfl))
  (fun hx=>by
    exact aB (chain [tF 29 ((t.ops.length:Int)<(t.ops.length:Int)) (by omega)] <| .nil) (by kernel_rfl)) (by nofun):bD 4 Tryz.f207 (Gk t 0) (.exit 0) ⟨46,true,[(1,.box 1 0)],[(1,.cells 25 [(iP t.ins),(cU t.ops),(cT t.outs)])]⟩) .nil,
  .c (wV true _ _ 235 [(.ref 3 fun j_=>[(iP t.ins),(cU t.ops),(cT t.outs)].getD j_ .any)] (fun _=>false) (fun i hi=>SR t _ (h.out i hi) h8 hops) (by omega) (fun _ _=>rfl):ae 134 [(cT t.outs),(.fn 235 [(.ref 3 fun j_=>[(iP t.ins),(cU t.ops),(cT t.outs)].getD j_ .any)])] _)] <| .nil) (by kernel_rfl)
theorem SA(t:fO)(k:Nat)(hk:k<t.ins+t.ops.length)(h8:t.ins<=8)(h200:t.ops.length<=200):ae 135 [(iP k),(.ref 3 fun j_=>[(iP t.ins),(cU t.ops),(cT t.outs)].getD j_ .any)] (bP false):=by
 exact tr true Tryz.call135 Tryz.func135 (chain [tF 5 ((k:Int)<0) (by omega),ar ((t.ins:Int)+(t.ops.length:Int)) (by omega),tF 14 ((((t.ins+t.ops.length):Nat):Int)<=(k:Int)) (by omega)] <| .nil) (by kernel_rfl)
theorem SC(x:Iv)(hx:x.Valid)(xa:x.all=false):ae 136 [(ai x)] (bP false):=by
 obtain⟨w1,w2,w3⟩:=iB hx xa;exact tr true Tryz.call136 Tryz.func136 (chain [tB 4 (xa:x.all=false),.c (fg _ ‹_›:ae 68 [(ag x.lo)] _),.c (fg _ ‹_›:ae 68 [(ag x.hi)] _),.c (b9 _ _ ‹_› ‹_›:ae 37 [(ag x.lo),(ag x.hi)] _),
  tF 23 (0<(aD x.lo x.hi)) (by omega)] <| .nil) (by kernel_rfl)
theorem y7(s:bU)(h:dp s):ae 82 [(bw s)] (bP true):=by
 have h8:=h.tape.ins;have hops:=h.tape.ops;have hou:=h.tape.outs;have s1:=h.s1;have s4:=h.s4;have ho:=h.outs;have hi:=h.ins;have p4:=h.p4;exact tr true Tryz.call82 Tryz.func82 (chain [tF 10 ((s.tape.ins:Int)<0) (by omega),tF 14 (8<(s.tape.ins:Int)) (by omega),tF 20 (200<(s.tape.ops.length:Int)) (by omega),tF 26 (200<(s.tape.outs.length:Int)) (by omega),
  .s (Sp.upto (Gg s) 0 s.tape.ops.length (by omega) (fun x hx hltx=>by
    have hop:=h.tape.op x (by omega);exact aB (chain [tT 32 ((x:Int)<(s.tape.ops.length:Int)) (by omega),iX ((x:Int)) (s.tape.ops.length) (by omega),ar ((s.tape.ins:Int)+(x:Int)) (by omega),
     .c (Sw _ _ hop:ae 133 [(jE (s.tape.ops.getD x a6)),(iP (((s.tape.ins+x):Nat):Int))] _),ar ((x:Int)+1) (by omega)] <| .nil) (by kernel_rfl))
  (fun hx=>by
    exact aB (chain [tF 32 ((s.tape.ops.length:Int)<(s.tape.ops.length:Int)) (by omega)] <| .nil) (by kernel_rfl)) (by nofun):bD 5 Tryz.f82 (Gg s 0) (.exit 0) ⟨85,true,[(3,.box 3 0),(1,.box 1 0)],[(3,.cells 25 [(iP s.tape.ins),(cU s.tape.ops),(cT s.tape.outs)]),(1,.cells 28 [(iP s.tape.ins),(cU s.tape.ops),(cT s.tape.outs),(iP s.au),(an s.params)])]⟩) .nil,
  .c (wV true _ _ 135 [(.ref 3 fun j_=>[(iP s.tape.ins),(cU s.tape.ops),(cT s.tape.outs)].getD j_ .any)] (fun _=>false) (fun i hi=>SA s.tape _ (h.tape.out i hi) h8 hops) (by omega) (fun _ _=>rfl):ae 134 [(cT s.tape.outs),(.fn 135 [(.ref 3 fun j_=>[(iP s.tape.ins),(cU s.tape.ops),(cT s.tape.outs)].getD j_ .any)])] _),
  tF 50 ((s.au:Int)<1) (by omega),tF 54 (4<(s.au:Int)) (by omega),tB 62 (nJ (by omega):((s.tape.outs.length:Int) != (s.au:Int))=false),
  ar ((s.au:Int)+(s.params.length:Int)) (by omega),tB 73 (nJ (by omega):((s.tape.ins:Int) != (((s.au+s.params.length):Nat):Int))=false),
  tF 79 (4<(s.params.length:Int)) (by omega),.c (nC true _ _ 136 [] (fun _=>false) (fun i hi=>SC _ (h.params i hi).1 (h.params i hi).2) (by omega) (fun _ _=>rfl):ae 17 [(an s.params),(.fn 136 [])] _)] <| .nil) (by kernel_rfl)
theorem Al(o:dH)(x y:Iv)(p:Nat)(hx:x.Valid)(hy:y.Valid)(r1:3<=o.kind)(r2:o.kind<=13)(r3:o.n<=16)(hp1:8<=p)(hp2:p<=512):ae 211 [(iP o.kind),(iP o.n),(ai x),(ai y),(iP p)] (ai (cQ o x y p)):=by
 exact tr true Tryz.call211 Tryz.func211 (.w ((o.kind:Int)=3)
  (fun k1=>chain [tB 13 (beq_iff_eq.2 k1),.c (o0 x y p ‹_› ‹_› (by omega) (by omega))]<|rQ (ai (bj x y p)) (ai (cQ o x y p)) (by unfold cQ;simp[show o.kind=3 from by omega]))
  (fun k1=>chain [tB 13 (beq_eq_false_iff_ne.2 k1)] <| .w ((o.kind:Int)=4)
   (fun k2=>chain [tB 19 (beq_iff_eq.2 k2),.c (NT x y p ‹_› ‹_› (by omega) (by omega))]<|rQ (ai (yZ x y p)) (ai (cQ o x y p)) (by unfold cQ;simp[show ¬o.kind=3 from by omega,show o.kind=4 from by omega]))
   (fun k2=>chain [tB 19 (beq_eq_false_iff_ne.2 k2)] <| .w ((o.kind:Int)=5)
    (fun k3=>chain [tB 25 (beq_iff_eq.2 k3),.c (qv x y p ‹_› ‹_› (by omega) (by omega))]<|rQ (ai (aV x y p)) (ai (cQ o x y p)) (by unfold cQ;simp[show ¬o.kind=3 from by omega,show ¬o.kind=4 from by omega,show o.kind=5 from by omega]))
    (fun k3=>chain [tB 25 (beq_eq_false_iff_ne.2 k3)] <| .w ((o.kind:Int)=6)
     (fun k4=>chain [tB 31 (beq_iff_eq.2 k4),.c (CZ x y p ‹_› ‹_› (by omega) (by omega))]<|rQ (ai (bT x y p)) (ai (cQ o x y p)) (by unfold cQ;simp[show ¬o.kind=3 from by omega,show ¬o.kind=4 from by omega,show ¬o.kind=5 from by omega,show o.kind=6 from by omega]))
     (fun k4=>chain [tB 31 (beq_eq_false_iff_ne.2 k4)] <| .w ((o.kind:Int)=7)
      (fun k5=>chain [tB 37 (beq_iff_eq.2 k5),.c (C4 x ‹_›)]<|rQ (ai (iI x)) (ai (cQ o x y p)) (by unfold cQ;simp[show ¬o.kind=3 from by omega,show ¬o.kind=4 from by omega,show ¬o.kind=5 from by omega,show ¬o.kind=6 from by omega,show o.kind=7 from by omega]))
      (fun k5=>chain [tB 37 (beq_eq_false_iff_ne.2 k5)] <| .w ((o.kind:Int)=8)
       (fun k6=>chain [tB 41 (beq_iff_eq.2 k6),.c (ID _ _ _ ‹_› (by omega) (by omega) (by omega):ae 241 [(ai x),(iP o.n),(iP p)] _)]<|rQ (ai (fT x o.n p)) (ai (cQ o x y p)) (by unfold cQ;simp[show ¬o.kind=3 from by omega,show ¬o.kind=4 from by omega,show ¬o.kind=5 from by omega,show ¬o.kind=6 from by omega,show ¬o.kind=7 from by omega,show o.kind=8 from by omega]))
       (fun k6=>chain [tB 41 (beq_eq_false_iff_ne.2 k6)] <| .w ((o.kind:Int)=9)
        (fun k7=>chain [tB 47 (beq_iff_eq.2 k7),.c (LX _ ‹_› _ (by omega) (by omega):ae 242 [(ai x),(iP p)] _)]<|rQ (ai (oO x p)) (ai (cQ o x y p)) (by unfold cQ;simp[show ¬o.kind=3 from by omega,show ¬o.kind=4 from by omega,show ¬o.kind=5 from by omega,show ¬o.kind=6 from by omega,show ¬o.kind=7 from by omega,show ¬o.kind=8 from by omega,show o.kind=9 from by omega]))
        (fun k7=>chain [tB 47 (beq_eq_false_iff_ne.2 k7)] <| .w ((o.kind:Int)=10)
         (fun k8=>chain [tB 52 (beq_iff_eq.2 k8),.c (LZ _ ‹_› _ (by omega) (by omega):ae 243 [(ai x),(iP p)] _)]<|rQ (ai (oP x p)) (ai (cQ o x y p)) (by unfold cQ;simp[show ¬o.kind=3 from by omega,show ¬o.kind=4 from by omega,show ¬o.kind=5 from by omega,show ¬o.kind=6 from by omega,show ¬o.kind=7 from by omega,show ¬o.kind=8 from by omega,show ¬o.kind=9 from by omega,show o.kind=10 from by omega]))
         (fun k8=>chain [tB 52 (beq_eq_false_iff_ne.2 k8)] <| .w ((o.kind:Int)=11)
          (fun k9=>chain [tB 57 (beq_iff_eq.2 k9),.c (L4 _ ‹_› _ (by omega) (by omega):ae 244 [(ai x),(iP p)] _)]<|rQ (ai (oQ x p)) (ai (cQ o x y p)) (by unfold cQ;simp[show ¬o.kind=3 from by omega,show ¬o.kind=4 from by omega,show ¬o.kind=5 from by omega,show ¬o.kind=6 from by omega,show ¬o.kind=7 from by omega,show ¬o.kind=8 from by omega,show ¬o.kind=9 from by omega,show ¬o.kind=10 from by omega,show o.kind=11 from by omega]))
          (fun k9=>chain [tB 57 (beq_eq_false_iff_ne.2 k9)] <| .w ((o.kind:Int)=12)
           (fun k10=>chain [tB 62 (beq_iff_eq.2 k10),.c (LV _ ‹_› _ (by omega) (by omega):ae 245 [(ai x),(iP p)] _)]<|rQ (ai (oN x p)) (ai (cQ o x y p)) (by unfold cQ;simp[show ¬o.kind=3 from by omega,show ¬o.kind=4 from by omega,show ¬o.kind=5 from by omega,show ¬o.kind=6 from by omega,show ¬o.kind=7 from by omega,show ¬o.kind=8 from by omega,show ¬o.kind=9 from by omega,show ¬o.kind=10 from by omega,show ¬o.kind=11 from by omega,show o.kind=12 from by omega]))
           (fun k10=>chain [tB 62 (beq_eq_false_iff_ne.2 k10)] <| .w ((o.kind:Int)=13)
            (fun k11=>chain [tB 67 (beq_iff_eq.2 k11),.c (L6 _ ‹_› _ (by omega) (by omega):ae 246 [(ai x),(iP p)] _)]<|rQ (ai (oR x p)) (ai (cQ o x y p)) (by unfold cQ;simp[show ¬o.kind=3 from by omega,show ¬o.kind=4 from by omega,show ¬o.kind=5 from by omega,show ¬o.kind=6 from by omega,show ¬o.kind=7 from by omega,show ¬o.kind=8 from by omega,show ¬o.kind=9 from by omega,show ¬o.kind=10 from by omega,show ¬o.kind=11 from by omega,show ¬o.kind=12 from by omega,show o.kind=13 from by omega]))
            (fun k11=>.x (by omega))))))))))))) (by kernel_rfl)
theorem I8{nl:Bool}{T n n' sz:Nat}{f g h:Nat->Nat->E}(hn:n=n')(hh:∀ i j,i<n->j<sz->g i j=h i j/\(h i j).nr 2=true):Bx.le (.row nl T (0+n) sz fun i j=>if i<0 then f i j else g (i-0) j) (.row nl T n' sz h) :=
 .row (by omega) fun i j hi hj=>by
  have hi':i<n:=by omega
  simp only[Nat.not_lt_zero,if_false,Nat.sub_zero];exact⟨.of_eq (hh i j hi' hj).1,(hh i j hi' hj).2⟩
theorem Hy(r:List Iv)(h0:0<r.length)(hl:r.length<=1000):rZ 28 [an r] true 41 r.length 7 (bA r):=by
 exact S2 Tryz.call28 Tryz.func28 (chain [.a (by omega:0<r.length),.bo,.a (by omega:(0+r.length)*88<=140737488355328)] <| .rb (I8 rfl fun i j hi hj=>⟨rfl,tn _ _ hj⟩:Bx.le (.row true 41 (0+r.length) 7 (fun i_ j_=>if i_<0 then(fun i_ j_=>([]:List E).getD (i_*7+j_) (.v (.bool false))) i_ j_ else(E.fP (an r)) (i_-0) j_)) (.row true 41 r.length 7 (bA r)))) (by kernel_rfl)
theorem zz{T n n' x:Nat}{t:fO}{xs:List Iv}{p:Nat}{y:Iv}(hn:n=(aX t.ops xs p x).length)(hn':n'=(aX t.ops xs p (x+1)).length)(hy:kp (t.ops.getD x a6) (aX t.ops xs p x) p=y) :
  Bx.le (.row true T (n+[y].length) 7 fun i j=>if i<n then bA (aX t.ops xs p x) i j else(E.fP (an [y])) (i-n) j) (.row true T n' 7 (bA (aX t.ops xs p (x+1)))):=by
 subst hn' hy;exact N8 hn
theorem Pv{o:dH}{m:Nat}(h:dG o m):o.n<=16:=by
 have:=h.n;split at this<;>omega
theorem SO(t:fO)(xs:List Iv)(p:Nat)(h:om t)(h1:1<=xs.length)(hx:xs.length=t.ins)(hv:fm xs)(hp1:8<=p)(hp2:p<=512):ae 173 [(mU t),(an xs),(iP p)] (an (aX t.ops xs p t.ops.length)):=by
 have h8:=h.ins;have hops:=h.ops;exact tr true Tryz.call173 Tryz.func173 (chain [.c (Gl _ ‹_›:ae 207 [(mU t)] _),tB 19 (nJ hx:((xs.length:Int) != (t.ins:Int))=false),
  .cn (Hy _ (by omega) (by omega):rZ 28 [(an xs)] true 41 xs.length 7 (bA xs)),
  .s (Sp.upto (Gj t xs p) 0 t.ops.length (by omega) (fun x hx hltx=>by
    have hop:=h.op x (by omega);have hvx:=uR t.ops hv (show 1<=p by omega) (show p<=4096 by omega) x;have hln:=zw t.ops xs p x;have w1:=hvx ((t.ops.getD x a6)).a;by_cases hk1:((t.ops.getD x a6)).kind=1
    .have hk0:((t.ops.getD x a6)).kind=1:=hk1
     obtain⟨o1,o2,o3,hrt⟩:=hop.num hk0;have hstep:kp (t.ops.getD x a6) (aX t.ops xs p x) p=(gH (t.ops.getD x a6).cn (t.ops.getD x a6).cd p):=by unfold kp;rw[if_pos hk0]
     have hol:=iY (gH (t.ops.getD x a6).cn (t.ops.getD x a6).cd p);exact aB (chain [tT 27 ((x:Int)<(t.ops.length:Int)) (by omega),iX ((x:Int)) (t.ops.length) (by omega),.c (El _ (by omega):ae 209 [(iP (((t.ops.getD x a6).kind:Nat):Int))] _),
      tB 50 (by decide:((0:Int)==0)=true),.c (Qx ((t.ops.getD x a6).cn) ((t.ops.getD x a6).cd) p ‹_› (by omega) (by omega)),
      .o 71 (.e (cR _):PV.le (.e (.sl true 1 7 fun i_ j_=>(aF (gH ((t.ops.getD x a6).cn) ((t.ops.getD x a6).cd) p)).getD (i_*7+j_) (.v (.bool false)))) (.e (an [(gH ((t.ops.getD x a6).cn) ((t.ops.getD x a6).cd) p)]))),
      .a (by omega:((aX t.ops xs p x).length+[(gH ((t.ops.getD x a6).cn) ((t.ops.getD x a6).cd) p)].length)*88<=140737488355328),ar ((x:Int)+1) (by omega)] <| .e (chain [.b 22 (zz rfl rfl hstep:Bx.le (.row true 41 ((aX t.ops xs p x).length+[(gH ((t.ops.getD x a6).cn) ((t.ops.getD x a6).cd) p)].length) 7 (fun i_ j_=>if i_<(aX t.ops xs p x).length then(bA (aX t.ops xs p x)) i_ j_ else(E.fP (an [(gH ((t.ops.getD x a6).cn) ((t.ops.getD x a6).cd) p)])) (i_-(aX t.ops xs p x).length) j_)) (.row true 41 ((aX t.ops xs p (x+1)).length) 7 (bA (aX t.ops xs p (x+1)))))] <| .nil)) (by kernel_rfl)
    .by_cases hk:((t.ops.getD x a6)).kind<=6
     .have hk9:((t.ops.getD x a6)).kind≠1:=hk1
      have hk0:((t.ops.getD x a6)).kind<=6:=hk;have hstep:kp (t.ops.getD x a6) (aX t.ops xs p x) p=(cQ (t.ops.getD x a6) ((aX t.ops xs p x).getD ((t.ops.getD x a6).a) aj) ((aX t.ops xs p x).getD ((t.ops.getD x a6).b) aj) p):=by unfold kp vv;rw[if_neg hk9,decide_eq_true hk0];rfl
      obtain⟨o1,o2,o3,o4,o5,o6⟩:=hop.bin hk9 hk0;have w2:=hvx ((t.ops.getD x a6)).b;have o7:=hop.qx;have hol:=iY (cQ (t.ops.getD x a6) ((aX t.ops xs p x).getD ((t.ops.getD x a6).a) aj) ((aX t.ops xs p x).getD ((t.ops.getD x a6).b) aj) p)
      exact aB (chain [tT 27 ((x:Int)<(t.ops.length:Int)) (by omega),iX ((x:Int)) (t.ops.length) (by omega),.c (Em _ (by omega) (by omega):ae 209 [(iP (((t.ops.getD x a6).kind:Nat):Int))] _),
       tB 50 (by decide:((2:Int)==0)=false),tB 56 (by decide:((2:Int)==1)=false),iX ((((t.ops.getD x a6).a:Nat):Int)) ((aX t.ops xs p x).length) (by omega),
       .a (by omega:(t.ops.getD x a6).a<(aX t.ops xs p x).length),iX ((((t.ops.getD x a6).b:Nat):Int)) ((aX t.ops xs p x).length) (by omega),.a (by omega:(t.ops.getD x a6).b<(aX t.ops xs p x).length),
       .c (Al (t.ops.getD x a6) _ _ _ ‹_› ‹_› (by omega) (by omega) (by omega) (by omega) (by omega):ae 211 [(iP (((t.ops.getD x a6).kind:Nat):Int)),(iP (((t.ops.getD x a6).n:Nat):Int)),(ai ((aX t.ops xs p x).getD (t.ops.getD x a6).a aj)),(ai ((aX t.ops xs p x).getD (t.ops.getD x a6).b aj)),(iP p)] _),
       .o 71 (.e (cR _):PV.le (.e (.sl true 1 7 fun i_ j_=>(aF (cQ (t.ops.getD x a6) ((aX t.ops xs p x).getD (t.ops.getD x a6).a aj) ((aX t.ops xs p x).getD (t.ops.getD x a6).b aj) p)).getD (i_*7+j_) (.v (.bool false)))) (.e (an [(cQ (t.ops.getD x a6) ((aX t.ops xs p x).getD (t.ops.getD x a6).a aj) ((aX t.ops xs p x).getD (t.ops.getD x a6).b aj) p)]))),
       .a (by omega:((aX t.ops xs p x).length+[(cQ (t.ops.getD x a6) ((aX t.ops xs p x).getD (t.ops.getD x a6).a aj) ((aX t.ops xs p x).getD (t.ops.getD x a6).b aj) p)].length)*88<=140737488355328),
       ar ((x:Int)+1) (by omega)] <| .e (chain [.b 22 (zz rfl rfl hstep:Bx.le (.row true 41 ((aX t.ops xs p x).length+[(cQ (t.ops.getD x a6) ((aX t.ops xs p x).getD (t.ops.getD x a6).a aj) ((aX t.ops xs p x).getD (t.ops.getD x a6).b aj) p)].length) 7 (fun i_ j_=>if i_<(aX t.ops xs p x).length then(bA (aX t.ops xs p x)) i_ j_ else(E.fP (an [(cQ (t.ops.getD x a6) ((aX t.ops xs p x).getD (t.ops.getD x a6).a aj) ((aX t.ops xs p x).getD (t.ops.getD x a6).b aj) p)])) (i_-(aX t.ops xs p x).length) j_)) (.row true 41 ((aX t.ops xs p (x+1)).length) 7 (bA (aX t.ops xs p (x+1)))))] <| .nil)) (by kernel_rfl)
     .have hk9:((t.ops.getD x a6)).kind≠1:=hk1
      have hk0:¬((t.ops.getD x a6)).kind<=6:=hk;have hstep:kp (t.ops.getD x a6) (aX t.ops xs p x) p=(cQ (t.ops.getD x a6) ((aX t.ops xs p x).getD ((t.ops.getD x a6).a) aj) aj p):=by unfold kp vv;rw[if_neg hk9,decide_eq_false hk0];rfl
      have w2:=cC;have o2:=hop.Hg hk9;have o7:=hop.qx;have o8:=Pv hop;have hol:=iY (cQ (t.ops.getD x a6) ((aX t.ops xs p x).getD ((t.ops.getD x a6).a) aj) aj p);exact aB (chain [tT 27 ((x:Int)<(t.ops.length:Int)) (by omega),iX ((x:Int)) (t.ops.length) (by omega),.c (xP _ (by omega) (by omega):ae 209 [(iP (((t.ops.getD x a6).kind:Nat):Int))] _),
       tB 50 (by decide:((1:Int)==0)=false),tB 56 (by decide:((1:Int)==1)=true),iX ((((t.ops.getD x a6).a:Nat):Int)) ((aX t.ops xs p x).length) (by omega),
       .a (by omega:(t.ops.getD x a6).a<(aX t.ops xs p x).length),.o 66 (.e uV:PV.le (.e (.agg [(bP false),(.v (.slice none 0 0)),(iP 0),(bP false),(.v (.slice none 0 0)),(iP 0),(bP true)])) (.e (ai aj))),
       .c (Al (t.ops.getD x a6) _ _ _ ‹_› ‹_› (by omega) (by omega) (by omega) (by omega) (by omega):ae 211 [(iP (((t.ops.getD x a6).kind:Nat):Int)),(iP (((t.ops.getD x a6).n:Nat):Int)),(ai ((aX t.ops xs p x).getD (t.ops.getD x a6).a aj)),(ai aj),(iP p)] _),
       .o 71 (.e (cR _):PV.le (.e (.sl true 1 7 fun i_ j_=>(aF (cQ (t.ops.getD x a6) ((aX t.ops xs p x).getD (t.ops.getD x a6).a aj) aj p)).getD (i_*7+j_) (.v (.bool false)))) (.e (an [(cQ (t.ops.getD x a6) ((aX t.ops xs p x).getD (t.ops.getD x a6).a aj) aj p)]))),
       .a (by omega:((aX t.ops xs p x).length+[(cQ (t.ops.getD x a6) ((aX t.ops xs p x).getD (t.ops.getD x a6).a aj) aj p)].length)*88<=140737488355328),ar ((x:Int)+1) (by omega)] <| .e (chain [.b 22 (zz rfl rfl hstep:Bx.le (.row true 41 ((aX t.ops xs p x).length+[(cQ (t.ops.getD x a6) ((aX t.ops xs p x).getD (t.ops.getD x a6).a aj) aj p)].length) 7 (fun i_ j_=>if i_<(aX t.ops xs p x).length then(bA (aX t.ops xs p x)) i_ j_ else(E.fP (an [(cQ (t.ops.getD x a6) ((aX t.ops xs p x).getD (t.ops.getD x a6).a aj) aj p)])) (i_-(aX t.ops xs p x).length) j_)) (.row true 41 ((aX t.ops xs p (x+1)).length) 7 (bA (aX t.ops xs p (x+1)))))] <| .nil)) (by kernel_rfl))
  (fun hx=>by
    exact aB (chain [tF 27 ((t.ops.length:Int)<(t.ops.length:Int)) (by omega),.z 22] <| .e (chain [.o 7 (.e (nD (by simp)):PV.le (.e (.sl true ((aX t.ops xs p t.ops.length).length) 7 (bA (aX t.ops xs p t.ops.length)))) (.e (an (aX t.ops xs p t.ops.length))))] <| .nil)) (by kernel_rfl)) (by nofun):bD 5 Tryz.f173 (Gj t xs p 0) (.exit 0) ⟨75,true,[(7,.e (an (aX t.ops xs p t.ops.length)))],[]⟩) (chain [.b 22 (.of_eq rfl:Bx.le (.row true 41 xs.length 7 (bA xs)) (.row true 41 ((aX t.ops xs p 0).length) 7 (bA (aX t.ops xs p 0))))] <| .nil)] <| .nil) (by kernel_rfl)
open Go.RowKit Fp Pu
def dN(m:List (List Iv)):Nat->List Iv
 | 0=>[]
 | k+1=>dN m k++m.getD k []
theorem vJ(m:List (List Iv))(k:Nat):(dN m (k+1)).length=(dN m k).length+(m.getD k []).length:=by simp[dN]
theorem N7{T n n':Nat}{xs r:List Iv}(hn:n=xs.length)(hn':n'=(xs++r).length):Bx.le (.row true T (n+r.length) 7 fun i j=>if i<n then bA xs i j else(E.fP (an r)) (i-n) j) (.row true T n' 7 (bA (xs++r))):=by
 subst hn hn';refine .row (by simp) fun i j hi hj=>⟨.of_eq ?_,tn _ _ hj⟩
 by_cases h:i<xs.length
 .rw [if_pos h]
  show(aF (xs.getD i aj)).getD j .any=(aF ((xs++r).getD i aj)).getD j .any;congr 2;simp[List.getD_eq_getElem?_getD,List.getElem?_append_left h]
 .rw [if_neg h]
  show(aF (r.getD (i-xs.length) aj)).getD j .any=(aF ((xs++r).getD i aj)).getD j .any;congr 2;simp[List.getD_eq_getElem?_getD,List.getElem?_append_right (show xs.length<=i by omega)]
theorem DB(a b:List Iv):E.le (.sl true 2 1 fun i j=>[an a,an b].getD (i*1+j) (.v (.bool false))) (fL [a,b]):=.sl fun i j hi hj=>by
 obtain rfl:j=0:=by omega
 obtain rfl|rfl:i=0\/i=1:=by omega
 all_goals exact⟨.refl _,rfl⟩
theorem RC{n:Nat}:E.le (.sl true n 1 fun k _=>.sl true ((fun _=>0) k) 7 ((fun _ _ _=>.any) k)) (fL (List.replicate n [])):=by
 have h:fL (List.replicate n []) = .sl true n 1 fun i _=>an ((List.replicate n []).getD i []):=by unfold fL;rw[List.length_replicate]
 rw[h];refine .sl fun i j hi hj=>⟨?_,rfl⟩
 have e:(List.replicate n ([]:List Iv)).getD i []=[]:=by simp[List.getD_eq_getElem?_getD,hi]
 rw[e];exact .sl fun q _ hq _=>absurd hq (Nat.not_lt_zero _)
def Bi(m:List (List Iv))(x:Nat):PS:=⟨36,true,[(11,.e (iP x)),(10,.e (iP m.length)),(9,.e (fL m)),(3,.e (iP (((dN m x).length:Nat):Int))),(0,.e (fL m))],[]⟩
def Bj(m:List (List Iv))(x:Nat):PS:=⟨36,true,[(27,.e (iP x)),(26,.e (iP m.length)),(25,.e (fL m)),(6,.own 24)],[(24,.row true 41 ((dN m x).length) 7 (bA (dN m x)))]⟩
noncomputable def CD(t:fO)(xs:List Iv)(p:Nat)(x:Nat):PS:=⟨91,true,[(43,.e (iP x)),(42,.e (iP 0)),(11,.own 41),(10,.e (an (aX t.ops xs p t.ops.length))),(4,.box 4 0),(3,.e (iP p))],[(41,.rows true 26 41 t.outs.length 7 (fun _=>0) (fun _ _ _=>.any) .none),(4,.cells 25 [(iP t.ins),(cU t.ops),(cT t.outs)])]⟩
noncomputable def CC(t:fO)(xs:List Iv)(p:Nat)(x:Nat):PS:=⟨91,true,[(16,.own 16),(77,.e (iP x)),(76,.e (iP t.outs.length)),(75,.e (cT t.outs)),(11,.own 41),(10,.e (an (aX t.ops xs p t.ops.length)))],[(16,.row true 41 x 7 (bA ((List.range x).map (fun j_=>(aX t.ops xs p t.ops.length).getD (t.outs.getD j_ 0) aj)))),(41,.rows true 26 41 t.outs.length 7 (fun _=>0) (fun _ _ _=>.any) .none)]⟩
theorem Ki(m:List (List Iv))(hl:m.length<=1000)(hb:∀ k,k<=m.length->(dN m k).length<=1000):ae 142 [(fL m)] (an (dN m m.length)):=by
 have hbl:=hb m.length (Nat.le_refl _);exact tr true Tryz.call142 Tryz.func142 (chain [.s (Sp.upto (Bi m) 0 m.length (by omega) (fun x hx hltx=>by
    have hb1:=hb (x+1) (by omega);rw[vJ]at hb1;exact aB (chain [tT 12 ((x:Int)<(m.length:Int)) (by omega),iX ((x:Int)) (m.length) (by omega),ar ((((dN m x).length:Nat):Int)+(((m.getD x []).length:Nat):Int)) (by omega),
     tF 20 (((((dN m x).length+(m.getD x []).length):Nat):Int)<0) (by omega),ar ((x:Int)+1) (by omega)] <| .e (chain [.o 3 (.int (by rw[vJ]):PV.le (.e (iP ((((dN m x).length+(m.getD x []).length):Nat):Int))) (.e (iP (((dN m (x+1)).length:Nat):Int))))] <| .nil)) (by kernel_rfl))
  (fun hx=>by
    exact aB (chain [tF 12 ((m.length:Int)<(m.length:Int)) (by omega)] <| .nil) (by kernel_rfl)) (by nofun):bD 3 Tryz.f142 (Bi m 0) (.exit 0) ⟨36,true,[(3,.e (iP (((dN m m.length).length:Nat):Int))),(0,.e (fL m))],[]⟩) (chain [.o 3 (.int rfl:PV.le (.e (iP 0)) (.e (iP (((dN m 0).length:Nat):Int))))] <| .nil),
  .cn (Na _ (by omega):rZ 175 [(.v (.slice none 0 0)),(iP (((dN m m.length).length:Nat):Int))] true 41 0 7 (bA [])),
  .s (Sp.upto (Bj m) 0 m.length (by omega) (fun x hx hltx=>by
    have hb1:=hb (x+1) (by omega);rw[vJ]at hb1
    exact aB (chain [tT 28 ((x:Int)<(m.length:Int)) (by omega),iX ((x:Int)) (m.length) (by omega),.a (by omega:((dN m x).length+(m.getD x []).length)*88<=140737488355328),ar ((x:Int)+1) (by omega)] <| .e (chain [.b 24 (N7 rfl rfl:Bx.le (.row true 41 ((dN m x).length+(m.getD x []).length) 7 (fun i_ j_=>if i_<(dN m x).length then(bA (dN m x)) i_ j_ else(E.fP (an (m.getD x []))) (i_-(dN m x).length) j_)) (.row true 41 ((dN m (x+1)).length) 7 (bA (dN m (x+1)))))] <| .nil)) (by kernel_rfl))
  (fun hx=>by
    exact aB (chain [tF 28 ((m.length:Int)<(m.length:Int)) (by omega),.z 24] <| .e (chain [.o 6 (.e (nD (by simp)):PV.le (.e (.sl true ((dN m m.length).length) 7 (bA (dN m m.length)))) (.e (an (dN m m.length))))] <| .nil)) (by kernel_rfl)) (by nofun):bD 11 Tryz.f142 (Bj m 0) (.exit 2) ⟨36,true,[(6,.e (an (dN m m.length)))],[]⟩) (chain [.b 24 (.of_eq rfl:Bx.le (.row true 41 0 7 (bA [])) (.row true 41 ((dN m 0).length) 7 (bA (dN m 0))))] <| .nil)] <| .nil) (by kernel_rfl)
theorem Bw(a b:List Iv)(ha:a.length<=400)(hb:b.length<=400):ae 142 [fL [a,b]] (an (a++b)):=by
 have e1:dN [a,b] 1=a:=rfl;have e2:dN [a,b] 2=a++b:=rfl;have:=Ki [a,b] (by simp) fun k hk=>by
  have hk:k<=2:=hk;rcases k with _|_|_|k
  .exact Nat.zero_le _
  .rw [e1];omega
  .rw [e2,List.length_append];omega
  .omega
 rwa[show[a,b].length=2 from rfl,e2]at this
theorem wL(p:Int):ae 140 [(iP p)] (bP (cB p)):=by
 exact tr true Tryz.call140 Tryz.func140 (.w (8<=p)
  (fun k1=>chain [tB 4 (decide_eq_true k1)]<|rQ (bP (decide (p<=512))) (bP (cB p)) (by unfold cB;simp[k1]))
  (fun k1=>chain [tB 4 (decide_eq_false k1)]<|rQ (bP false) (bP (cB p)) (by unfold cB;simp[k1]))) (by kernel_rfl)
theorem Mt(x:Iv)(hx:x.Valid):ae 208 [(ai x)] (bP false):=by
 exact tr true Tryz.call208 Tryz.func208 (chain [.c (dc x ‹_›)] <| .nil) (by kernel_rfl)
theorem Mu(t:fO)(xs:List Iv)(p:Nat)(h:om t)(h1:1<=xs.length)(hx:xs.length=t.ins)(hv:fm xs)(hp1:8<=p)(hp2:p<=512):ae 172 [(mU t),(an xs),(iP p)] (bP true):=by
 have h8:=h.ins;exact tr true Tryz.call172 Tryz.func172 (chain [.c (Gl t ‹_›),tB 14 (xy hx:((xs.length:Int)==(t.ins:Int))=true),.c (wL _:ae 140 [(iP p)] _),
  tB 18 (fS.2 ⟨by omega,by omega⟩:(cB (p:Int))=true),.c (nC true _ _ 208 [] (fun _=>false) (fun i hi=>Mt _ (hv i)) (by omega) (fun _ _=>rfl):ae 17 [(an xs),(.fn 208 [])] _)] <| .nil) (by kernel_rfl)
theorem Md(t:fO)(xs:List Iv)(p:Nat):(List.range t.outs.length).map (fun j=>(aX t.ops xs p t.ops.length).getD (t.outs.getD j 0) aj)=bF t xs p:=by
 unfold bF;apply List.ext_getElem?;intro i;rw[List.getElem?_map,List.getElem?_map];by_cases hi:i<t.outs.length
 .rw [List.getElem?_eq_getElem (by simpa using hi),List.getElem?_eq_getElem hi]
  simp[List.getD_eq_getElem?_getD,hi]
 .rw [List.getElem?_eq_none (by simpa using hi),List.getElem?_eq_none (by omega)]
  rfl
theorem CE(t:fO)(xs:List Iv)(p:Nat)(h:om t)(h1:1<=xs.length)(hx:xs.length=t.ins)(hv:fm xs)(hp1:8<=p)(hp2:p<=512):ae 141 [(mU t),(an xs),(iP 0),(iP p)] (.aq [an (bF t xs p),fL (List.replicate t.outs.length [])]):=by
 have h8:=h.ins;have hops:=h.ops;have hou:=h.outs;exact tr true Tryz.call141 Tryz.func141 (chain [.c (Mu _ _ _ h h1 hx hv (by omega) (by omega):ae 172 [(mU t),(an xs),(iP p)] _),tB 26 (by decide:(decide ((0:Int)<0))=false),tF 32 ((t.ins:Int)<0) (by omega),
  .c (SO t xs p h h1 hx hv (by omega) (by omega)),.a (by omega:0<=((t.outs.length:Int):Int)/\((t.outs.length:Int):Int)<=((t.outs.length:Int):Int)),
  .a (by omega:((24:Nat):Int)*(t.outs.length:Int)<=281474976710656/\((t.outs.length:Int):Int)<=9223372036854775807),
  .s (Sp.upto (CD t xs p) 0 0 (by omega) (fun x hx hltx=>by
    exact absurd hltx (Nat.not_lt_zero _))
  (fun hx=>by
    exact aB (chain [tB 44 (by decide:(decide ((0:Int)<0))=false)] <| .nil) (by kernel_rfl)) (by nofun):bD 6 Tryz.f141 (CD t xs p 0) (.exit 0) ⟨91,true,[(11,.own 41),(10,.e (an (aX t.ops xs p t.ops.length))),(4,.box 4 0)],[(41,.rows true 26 41 t.outs.length 7 (fun _=>0) (fun _ _ _=>.any) .none),(4,.cells 25 [(iP t.ins),(cU t.ops),(cT t.outs)])]⟩) .nil,
  .y 16 16 true 41 7 (bA ((List.range 0).map (fun j_=>(aX t.ops xs p t.ops.length).getD (t.outs.getD j_ 0) aj))),
  .s (Sp.upto (CC t xs p) 0 t.outs.length (by omega) (fun x hx hltx=>by
    have hot:=h.out x (by omega);have hln:=zw t.ops xs p t.ops.length;have hol:=iY ((aX t.ops xs p t.ops.length).getD (t.outs.getD x 0) aj);exact aB (chain [tT 78 ((x:Int)<(t.outs.length:Int)) (by omega),iX ((x:Int)) (t.outs.length) (by omega),iX ((((t.outs.getD x 0):Nat):Int)) ((aX t.ops xs p t.ops.length).length) (by omega),
     .o 86 (.e (cR _):PV.le (.e (.sl true 1 7 fun i_ j_=>(aF ((aX t.ops xs p t.ops.length).getD (t.outs.getD x 0) aj)).getD (i_*7+j_) (.v (.bool false)))) (.e (an [((aX t.ops xs p t.ops.length).getD (t.outs.getD x 0) aj)]))),
     .a (by omega:(x+[((aX t.ops xs p t.ops.length).getD (t.outs.getD x 0) aj)].length)*88<=140737488355328),ar ((x:Int)+1) (by omega)] <| .e (chain [.b 16 (kz rfl rfl rfl:Bx.le (.row true 41 (x+[((aX t.ops xs p t.ops.length).getD (t.outs.getD x 0) aj)].length) 7 (fun i_ j_=>if i_<x then(bA ((List.range x).map (fun j_=>(aX t.ops xs p t.ops.length).getD (t.outs.getD j_ 0) aj))) i_ j_ else(E.fP (an [((aX t.ops xs p t.ops.length).getD (t.outs.getD x 0) aj)])) (i_-x) j_)) (.row true 41 (x+1) 7 (bA ((List.range (x+1)).map (fun j_=>(aX t.ops xs p t.ops.length).getD (t.outs.getD j_ 0) aj)))))] <| .nil)) (by kernel_rfl))
  (fun hx=>by
    exact aB (chain [tF 78 ((t.outs.length:Int)<(t.outs.length:Int)) (by omega),.z 16] <| .e (chain [.o 16 (.e (nD (by simp)):PV.le (.e (.sl true t.outs.length 7 (bA ((List.range t.outs.length).map (fun j_=>(aX t.ops xs p t.ops.length).getD (t.outs.getD j_ 0) aj))))) (.e (an ((List.range t.outs.length).map (fun j_=>(aX t.ops xs p t.ops.length).getD (t.outs.getD j_ 0) aj)))))] <| .nil)) (by kernel_rfl)) (by nofun):bD 17 Tryz.f141 (CC t xs p 0) (.exit 4) ⟨91,true,[(16,.e (an ((List.range t.outs.length).map (fun j_=>(aX t.ops xs p t.ops.length).getD (t.outs.getD j_ 0) aj)))),(11,.own 41)],[(41,.rows true 26 41 t.outs.length 7 (fun _=>0) (fun _ _ _=>.any) .none)]⟩) .nil]<|rR (.aq [an (bF t xs p),fL (List.replicate t.outs.length [])]) (.aq (.cons (.of_eq (by rw[Md])) (.cons RC .nil)):E.le (.aq [(an ((List.range t.outs.length).map (fun j_=>(aX t.ops xs p t.ops.length).getD (t.outs.getD j_ 0) aj))),(.sl true t.outs.length 1 fun k_ _=>.sl true ((fun _=>0) k_) 7 ((fun _ _ _=>.any) k_))]) (.aq [an (bF t xs p),fL (List.replicate t.outs.length [])]))) (by kernel_rfl)
theorem Mp(x:Iv):ae 171 [(ai x)] (bP x.all):=by
 exact tr true Tryz.call171 Tryz.func171 (.nil) (by kernel_rfl)
theorem qs(l:List Iv)(hl:l.length<=1000):ae 138 [(an l)] (bP (hasAll l)):=by
 exact tr true Tryz.call138 Tryz.func138 (chain [.c (w9 true _ _ 171 [] (fun i=>(l.getD i aj).all) (fun i hi=>Mp _) (by omega):ae 17 [(an l),(.fn 171 [])] _)] <| .nil) (by kernel_rfl)
theorem Cz(x:Iv)(hx:x.Valid):ae 139 [(ai x)] (bP false):=by
 exact tr true Tryz.call139 Tryz.func139 (chain [.c (dc x ‹_›)] <| .nil) (by kernel_rfl)
theorem Rd(n:Nat)(hn:n<=1000):ae 143 [fL (List.replicate n []),.fn 138 []] (bP false):=by
 have e:∀ i,i<n->(List.replicate n ([]:List Iv)).getD i []=[]:=fun i hi=>by simp[List.getD_eq_getElem?_getD,hi]
 refine Ry true _ _ 138 [] (fun _=>false) (fun i hi=>?_) (by simpa using by omega) (fun _ _=>rfl);have hi':i<n:=by simpa using hi
 show ae 138 [an ((List.replicate n []).getD i [])] _;rw[e i hi'];exact qs [] (by simp)
theorem D8{l:List Iv}(h:dM l):hasAll l=false:=by
 unfold hasAll;rw[List.any_eq_false];intro i hi;rw[(h i (List.mem_range.1 hi)).2];decide
theorem sC{s:bU}{b:List Iv}(h:dp s)(hb:bO s.au b):om s.tape/\1<=(b++s.params).length/\(b++s.params).length=s.tape.ins/\fm (b++s.params):=by
 have h1:=h.s1;have h2:=h.ins;have h3:=hb.len;refine⟨h.tape,?_,?_,hb.ok.zp.append h.params.zp⟩
 .rw [List.length_append];omega
 .rw [List.length_append];omega
theorem Mq(s:bU)(b:List Iv)(p:Nat)(h:dp s)(hb:bO s.au b)(hp1:8<=p)(hp2:p<=512)(hn:hasAll (bF s.tape (b++s.params) p)=true):ae 85 [(bw s),(an b),(iP 0),(iP p)] (.aq [.v (.slice none 0 0),.v (.slice none 0 0),iP 11]):=by
 have s4:=h.s4;have p4:=h.p4;have hlb:=hb.len;have hou:=h.tape.outs;have hna:=D8 hb.ok;have hfl:=s5 s.tape (b++s.params) p;obtain⟨f1,f2,f3,f4⟩:=sC h hb;exact tr true Tryz.call85 Tryz.func85 (chain [.c (y7 s ‹_›),tB 21 (nJ hb.len:((b.length:Int) != (s.au:Int))=false),.c (qs _ (by omega):ae 138 [(an b)] _),tB 25 (hna:(hasAll b)=false),
  .c (nC true _ _ 139 [] (fun _=>false) (fun i hi=>Cz _ (hb.ok i hi).1) (by omega) (fun _ _=>rfl):ae 17 [(an b),(.fn 139 [])] _),.c (wL _:ae 140 [(iP p)] _),
  tB 32 (fS.2 ⟨by omega,by omega⟩:(cB (p:Int))=true),.o 40 (.e (DB _ _):PV.le (.e (.sl true 2 1 fun i_ j_=>[(an b),(an s.params)].getD (i_*1+j_) (.v (.bool false)))) (.e (fL [b,s.params]))),
  .c (Bw b s.params (by omega) (by omega):ae 142 [(fL [b,s.params])] _),.c (CE _ _ _ f1 f2 f3 f4 (by omega) (by omega):ae 141 [(mU s.tape),(an (b++s.params)),(iP 0),(iP p)] _),
  .c (qs _ (by omega):ae 138 [(an (bF s.tape (b++s.params) p))] _),tB 48 (hn:(hasAll (bF s.tape (b++s.params) p))=true)] <| .nil) (by kernel_rfl)
theorem Mr(s:bU)(b:List Iv)(p:Nat)(h:dp s)(hb:bO s.au b)(hp1:8<=p)(hp2:p<=512)(hn:hasAll (bF s.tape (b++s.params) p)=false):ae 85 [(bw s),(an b),(iP 0),(iP p)] (.aq [an (bF s.tape (b++s.params) p),fL (List.replicate s.tape.outs.length []),iP 0]):=by
 have s4:=h.s4;have p4:=h.p4;have hlb:=hb.len;have hou:=h.tape.outs;have hna:=D8 hb.ok;have hfl:=s5 s.tape (b++s.params) p;obtain⟨f1,f2,f3,f4⟩:=sC h hb;exact tr true Tryz.call85 Tryz.func85 (chain [.c (y7 s ‹_›),tB 21 (nJ hb.len:((b.length:Int) != (s.au:Int))=false),.c (qs _ (by omega):ae 138 [(an b)] _),tB 25 (hna:(hasAll b)=false),
  .c (nC true _ _ 139 [] (fun _=>false) (fun i hi=>Cz _ (hb.ok i hi).1) (by omega) (fun _ _=>rfl):ae 17 [(an b),(.fn 139 [])] _),.c (wL _:ae 140 [(iP p)] _),
  tB 32 (fS.2 ⟨by omega,by omega⟩:(cB (p:Int))=true),.o 40 (.e (DB _ _):PV.le (.e (.sl true 2 1 fun i_ j_=>[(an b),(an s.params)].getD (i_*1+j_) (.v (.bool false)))) (.e (fL [b,s.params]))),
  .c (Bw b s.params (by omega) (by omega):ae 142 [(fL [b,s.params])] _),.c (CE _ _ _ f1 f2 f3 f4 (by omega) (by omega):ae 141 [(mU s.tape),(an (b++s.params)),(iP 0),(iP p)] _),
  .c (qs _ (by omega):ae 138 [(an (bF s.tape (b++s.params) p))] _),tB 48 (hn:(hasAll (bF s.tape (b++s.params) p))=false),
  .c (Rd _ (by omega):ae 143 [(fL (List.replicate s.tape.outs.length [])),(.fn 138 [])] _)] <| .nil) (by kernel_rfl)
theorem Ms(s:bU)(b:List Iv)(p:Nat)(h:dp s)(hb:bO s.au b)(hp1:8<=p)(hp2:p<=512)(hn:hasAll (bF s.tape (b++s.params) p)=true):ae 43 [(bw s),(an b),(iP p)] (.aq [.v (.slice none 0 0),iP 11]):=by
 exact tr true Tryz.call43 Tryz.func43 (chain [.c (Mq _ _ _ h hb hp1 hp2 hn:ae 85 [(bw s),(an b),(iP 0),(iP p)] _)] <| .nil) (by kernel_rfl)
theorem CA(s:bU)(b:List Iv)(p:Nat)(h:dp s)(hb:bO s.au b)(hp1:8<=p)(hp2:p<=512)(hn:hasAll (bF s.tape (b++s.params) p)=false):ae 43 [(bw s),(an b),(iP p)] (.aq [an (bF s.tape (b++s.params) p),iP 0]):=by
 exact tr true Tryz.call43 Tryz.func43 (chain [.c (Mr _ _ _ h hb hp1 hp2 hn:ae 85 [(bw s),(an b),(iP 0),(iP p)] _)] <| .nil) (by kernel_rfl)
open Go.RowKit Fp Pu
noncomputable def CP(s:bU)(x:List Iv)(d:Dy)(b:List Iv)(p:Nat)(N:Nat)(i:Nat):PS:=⟨66,true,[(14,.own 14),(42,.e (iP i)),(41,.e (iP x.length)),(13,.box 13 0),(11,.e (an (bF s.tape (b++s.params) p))),(1,.e (an x)),(4,.e (iP p))],[(14,.row true 41 i 7 (bA ((List.range i).map (fun j_=>(bj (x.getD j_ aj) (aV (cG d) ((bF s.tape (b++s.params) p).getD j_ aj) p) p))))),(13,.cells 41 ([(bP false),(.v (.slice none 0 0)),(iP 0)]++aQ d++[(bP false)]))]⟩
noncomputable def CQ(s:bU)(x:List Iv)(d:Dy)(b:List Iv)(p:Nat)(i:Nat):PS:=⟨66,true,[(14,.own 14),(42,.e (iP i)),(41,.e (iP x.length)),(13,.box 13 0),(11,.e (an (bF s.tape (b++s.params) p))),(1,.e (an x)),(4,.e (iP p))],[(14,.row true 41 i 7 (bA ((List.range i).map (fun j_=>(bj (x.getD j_ aj) (aV (cG d) ((bF s.tape (b++s.params) p).getD j_ aj) p) p))))),(13,.cells 41 ([(bP false),(.v (.slice none 0 0)),(iP 0)]++aQ d++[(bP false)]))]⟩
def BZ(s:bU)(x:List Iv)(d:Dy)(p:Nat)(N:Nat)(k:Nat):PS:=⟨55,true,[(22,.e (iP k)),(10,.gw 64 [(.box 5),(.box 4),(.box 6),(.box 7)]),(7,.box 7 0),(6,.box 6 0),(5,.box 5 0),(4,.box 4 0)],[(7,.cells 3 [(iP p)]),(6,.cells 31 (aQ d)),(5,.cells 26 [(an x)]),(4,.cells 28 [(iP s.tape.ins),(cU s.tape.ops),(cT s.tape.outs),(iP s.au),(an s.params)])]⟩
def B0(s:bU)(x:List Iv)(d:Dy)(p:Nat)(k:Nat):PS:=⟨55,true,[(22,.e (iP k)),(10,.gw 64 [(.box 5),(.box 4),(.box 6),(.box 7)]),(7,.box 7 0),(6,.box 6 0),(5,.box 5 0),(4,.box 4 0)],[(7,.cells 3 [(iP p)]),(6,.cells 31 (aQ d)),(5,.cells 26 [(an x)]),(4,.cells 28 [(iP s.tape.ins),(cU s.tape.ops),(cT s.tape.outs),(iP s.au),(an s.params)])]⟩
noncomputable def B4(s:bU)(x:List Iv)(d:Dy)(p:Nat)(N:Nat)(j:Nat):PS:=⟨55,true,[(36,.e (iP j)),(14,.e (an (b8 s x d p j))),(7,.box 7 0),(6,.box 6 0),(5,.box 5 0),(4,.box 4 0)],[(7,.cells 3 [(iP p)]),(6,.cells 31 (aQ d)),(5,.cells 26 [(an x)]),(4,.cells 28 [(iP s.tape.ins),(cU s.tape.ops),(cT s.tape.outs),(iP s.au),(an s.params)])]⟩
def B2(s:bU)(x:List Iv)(d:Dy)(p:Nat)(k:Nat):PS:=⟨55,true,[(22,.e (iP k)),(10,.gw 64 [(.box 5),(.box 4),(.box 6),(.box 7)]),(7,.box 7 0),(6,.box 6 0),(5,.box 5 0),(4,.box 4 0)],[(7,.cells 3 [(iP p)]),(6,.cells 31 (aQ d)),(5,.cells 26 [(an x)]),(4,.cells 28 [(iP s.tape.ins),(cU s.tape.ops),(cT s.tape.outs),(iP s.au),(an s.params)])]⟩
noncomputable def B5(s:bU)(x:List Iv)(d:Dy)(p:Nat)(j:Nat):PS:=⟨55,true,[(36,.e (iP j)),(14,.e (an (b8 s x d p j))),(7,.box 7 0),(6,.box 6 0),(5,.box 5 0),(4,.box 4 0)],[(7,.cells 3 [(iP p)]),(6,.cells 31 (aQ d)),(5,.cells 26 [(an x)]),(4,.cells 28 [(iP s.tape.ins),(cU s.tape.ops),(cT s.tape.outs),(iP s.au),(an s.params)])]⟩
theorem IH(x:Iv)(hx:x.Valid)(xa:x.all=false):ae 83 [(ai x)] (bP false):=by
 exact tr true Tryz.call83 Tryz.func83 (chain [.c (dc x ‹_›),tB 8 (xa:x.all=false)] <| .nil) (by kernel_rfl)
theorem sy(s:bU)(b:List Iv)(hb:bO s.au b)(h4:s.au<=4):ae 42 [(bw s),(an b)] (bP true):=by
 have hlb:=hb.len;exact tr true Tryz.call42 Tryz.func42 (chain [tB 9 (xy hb.len:((b.length:Int)==(s.au:Int))=true),
  .c (nC true _ _ 83 [] (fun _=>false) (fun i hi=>IH _ (hb.ok i hi).1 (hb.ok i hi).2) (by omega) (fun _ _=>rfl):ae 17 [(an b),(.fn 83 [])] _)] <| .nil) (by kernel_rfl)
theorem mr(s:bU)(x:List Iv)(d:Dy)(p:Nat)(h:dp s)(hx:bO s.au x)(hd:d.Valid)(h0:0<d.sign)(hp1:8<=p)(hp2:p<=512):ae 41 [(bw s),(an x),(ag d),(iP p)] (bP true):=by
 have s4:=h.s4;exact tr true Tryz.call41 Tryz.func41 (chain [.c (y7 s ‹_›),.c (sy _ _ hx (by omega):ae 42 [(bw s),(an x)] _),.c (fg _ ‹_›:ae 68 [(ag d)] _),.c (dJ _ ‹_›:ae 35 [(ag d)] _),
  tB 23 (decide_eq_true h0),tT 27 (8<=(p:Int)) (by omega),tT 31 ((p:Int)<=512) (by omega)] <| .nil) (by kernel_rfl)
theorem Nr(s:bU)(x:List Iv)(d:Dy)(b:List Iv)(p:Nat)(h:dp s)(hx:bO s.au x)(hd:d.Valid)(h0:0<d.sign)(hb:bO s.au b)(hp1:8<=p)(hp2:p<=512)(hn:hasAll (bF s.tape (b++s.params) p)=true):ae 13 [(bw s),(an x),(ag d),(an b),(iP p)] (.v (.slice none 0 0)):=by
 have s4:=h.s4;exact tr true Tryz.call13 Tryz.func13 (chain [.c (mr _ _ _ _ h hx hd h0 hp1 hp2:ae 41 [(bw s),(an x),(ag d),(iP p)] _),.c (sy _ _ hb s4:ae 42 [(bw s),(an b)] _),.c (Ms s b p h hb hp1 hp2 hn),
  tB 37 (by decide:((11:Int) != 0)=true)] <| .nil) (by kernel_rfl)
theorem yY(d:Dy):E.le (.agg ([bP false,.v (.slice none 0 0),iP 0]++aQ d++[bP false])) (ai (cG d)) :=
 .agg (.cons (.refl _) (.cons nK (.cons (.refl _) (.cons (.refl _) (.cons (.refl _) (.cons (.refl _) (.cons (.refl _) .nil)))))))
theorem Ns(s:bU)(x:List Iv)(d:Dy)(b:List Iv)(p:Nat)(h:dp s)(hx:bO s.au x)(hd:d.Valid)(h0:0<d.sign)(hb:bO s.au b)(hp1:8<=p)(hp2:p<=512)(hn:hasAll (bF s.tape (b++s.params) p)=false)(N:Nat)(hN0:N<x.length)(hlo:∀ i,i<N->(bj (x.getD i aj) (aV (cG d) ((bF s.tape (b++s.params) p).getD i aj) p) p).all=false)(hN:(bj (x.getD N aj) (aV (cG d) ((bF s.tape (b++s.params) p).getD N aj) p) p).all=true):ae 13 [(bw s),(an x),(ag d),(an b),(iP p)] (.v (.slice none 0 0)):=by
 have s4:=h.s4;have hlx:=hx.len;have hou:=h.outs;have hfl:=s5 s.tape (b++s.params) p;obtain⟨f1,f2,f3,f4⟩:=sC h hb;have fv:=Co s.tape f4 (show 1<=p by omega) (show p<=4096 by omega);have hq:0<d.q:=(gl d).1.1 h0;have hst:=F2 hd (Rat.le_of_lt hq)
 exact tr true Tryz.call13 Tryz.func13 (chain [.c (mr _ _ _ _ h hx hd h0 hp1 hp2:ae 41 [(bw s),(an x),(ag d),(iP p)] _),.c (sy _ _ hb s4:ae 42 [(bw s),(an b)] _),.c (CA s b p h hb hp1 hp2 hn),
  tB 37 (by decide:((0:Int) != 0)=false),.y 14 14 true 41 7 (bA ((List.range 0).map (fun j_=>(bj (x.getD j_ aj) (aV (cG d) ((bF s.tape (b++s.params) p).getD j_ aj) p) p)))),
  .s (Sp.upto (CP s x d b p N) 0 N (by omega) (fun i hi hlti=>by
    have w1:=(hx.ok i (by omega)).1;have w2:=fv i;have w3:=iG (cG d) ((bF s.tape (b++s.params) p).getD i aj) (show 1<=p by omega) (show p<=4096 by omega);have hol:=iY (bj (x.getD i aj) (aV (cG d) ((bF s.tape (b++s.params) p).getD i aj) p) p);exact aB (chain [tT 43 ((i:Int)<(x.length:Int)) (by omega),iX ((i:Int)) (x.length) (by omega),
     .o 49 (.e (yY d):PV.le (.e (.agg ([(bP false),(.v (.slice none 0 0)),(iP 0)]++aQ d++[(bP false)]))) (.e (ai (cG d)))),iX ((i:Int)) ((bF s.tape (b++s.params) p).length) (by omega),
     .c (qv (cG d) ((bF s.tape (b++s.params) p).getD i aj) p ‹_› ‹_› (by omega) (by omega)),
     .c (o0 (x.getD i aj) (aV (cG d) ((bF s.tape (b++s.params) p).getD i aj) p) p ‹_› ‹_› (by omega) (by omega)),
     tB 59 (hlo i (by omega):(bj (x.getD i aj) (aV (cG d) ((bF s.tape (b++s.params) p).getD i aj) p) p).all=false),
     .o 62 (.e (cR _):PV.le (.e (.sl true 1 7 fun i_ j_=>(aF (bj (x.getD i aj) (aV (cG d) ((bF s.tape (b++s.params) p).getD i aj) p) p)).getD (i_*7+j_) (.v (.bool false)))) (.e (an [(bj (x.getD i aj) (aV (cG d) ((bF s.tape (b++s.params) p).getD i aj) p) p)]))),
     .a (by omega:(i+[(bj (x.getD i aj) (aV (cG d) ((bF s.tape (b++s.params) p).getD i aj) p) p)].length)*88<=140737488355328),ar ((i:Int)+1) (by omega)] <| .e (chain [.b 14 (kz rfl rfl rfl:Bx.le (.row true 41 (i+[(bj (x.getD i aj) (aV (cG d) ((bF s.tape (b++s.params) p).getD i aj) p) p)].length) 7 (fun i_ j_=>if i_<i then(bA ((List.range i).map (fun j_=>(bj (x.getD j_ aj) (aV (cG d) ((bF s.tape (b++s.params) p).getD j_ aj) p) p)))) i_ j_ else(E.fP (an [(bj (x.getD i aj) (aV (cG d) ((bF s.tape (b++s.params) p).getD i aj) p) p)])) (i_-i) j_)) (.row true 41 (i+1) 7 (bA ((List.range (i+1)).map (fun j_=>(bj (x.getD j_ aj) (aV (cG d) ((bF s.tape (b++s.params) p).getD j_ aj) p) p))))))] <| .nil)) (by kernel_rfl))
  (fun hi=>by
    have w1:=(hx.ok N (by omega)).1;have w2:=fv N;have w3:=iG (cG d) ((bF s.tape (b++s.params) p).getD N aj) (show 1<=p by omega) (show p<=4096 by omega);exact aB (chain [tT 43 ((N:Int)<(x.length:Int)) (by omega),iX ((N:Int)) (x.length) (by omega),
    .o 49 (.e (yY d):PV.le (.e (.agg ([(bP false),(.v (.slice none 0 0)),(iP 0)]++aQ d++[(bP false)]))) (.e (ai (cG d)))),iX ((N:Int)) ((bF s.tape (b++s.params) p).length) (by omega),
    .c (qv (cG d) ((bF s.tape (b++s.params) p).getD N aj) p ‹_› ‹_› (by omega) (by omega)),
    .c (o0 (x.getD N aj) (aV (cG d) ((bF s.tape (b++s.params) p).getD N aj) p) p ‹_› ‹_› (by omega) (by omega)),
    tB 59 (hN:(bj (x.getD N aj) (aV (cG d) ((bF s.tape (b++s.params) p).getD N aj) p) p).all=true)] <| .nil) (by kernel_rfl)) (by nofun):bD 9 Tryz.f13 (CP s x d b p N 0) .ret ⟨66,true,[(10,.e (.v (.slice none 0 0)))],[]⟩) .nil] <| .nil) (by kernel_rfl)
theorem Nt(s:bU)(x:List Iv)(d:Dy)(b:List Iv)(p:Nat)(h:dp s)(hx:bO s.au x)(hd:d.Valid)(h0:0<d.sign)(hb:bO s.au b)(hp1:8<=p)(hp2:p<=512)(hn:hasAll (bF s.tape (b++s.params) p)=false)(hlo:∀ i,i<x.length->(bj (x.getD i aj) (aV (cG d) ((bF s.tape (b++s.params) p).getD i aj) p) p).all=false):ae 13 [(bw s),(an x),(ag d),(an b),(iP p)] (an ((List.range x.length).map (fun j_=>(bj (x.getD j_ aj) (aV (cG d) ((bF s.tape (b++s.params) p).getD j_ aj) p) p)))):=by
 have s4:=h.s4;have hlx:=hx.len;have hou:=h.outs;have hfl:=s5 s.tape (b++s.params) p;obtain⟨f1,f2,f3,f4⟩:=sC h hb;have fv:=Co s.tape f4 (show 1<=p by omega) (show p<=4096 by omega);have hq:0<d.q:=(gl d).1.1 h0;have hst:=F2 hd (Rat.le_of_lt hq)
 exact tr true Tryz.call13 Tryz.func13 (chain [.c (mr _ _ _ _ h hx hd h0 hp1 hp2:ae 41 [(bw s),(an x),(ag d),(iP p)] _),.c (sy _ _ hb s4:ae 42 [(bw s),(an b)] _),.c (CA s b p h hb hp1 hp2 hn),
  tB 37 (by decide:((0:Int) != 0)=false),.y 14 14 true 41 7 (bA ((List.range 0).map (fun j_=>(bj (x.getD j_ aj) (aV (cG d) ((bF s.tape (b++s.params) p).getD j_ aj) p) p)))),
  .s (Sp.upto (CQ s x d b p) 0 x.length (by omega) (fun i hi hlti=>by
    have w1:=(hx.ok i (by omega)).1;have w2:=fv i;have w3:=iG (cG d) ((bF s.tape (b++s.params) p).getD i aj) (show 1<=p by omega) (show p<=4096 by omega);have hol:=iY (bj (x.getD i aj) (aV (cG d) ((bF s.tape (b++s.params) p).getD i aj) p) p);exact aB (chain [tT 43 ((i:Int)<(x.length:Int)) (by omega),iX ((i:Int)) (x.length) (by omega),
     .o 49 (.e (yY d):PV.le (.e (.agg ([(bP false),(.v (.slice none 0 0)),(iP 0)]++aQ d++[(bP false)]))) (.e (ai (cG d)))),iX ((i:Int)) ((bF s.tape (b++s.params) p).length) (by omega),
     .c (qv (cG d) ((bF s.tape (b++s.params) p).getD i aj) p ‹_› ‹_› (by omega) (by omega)),
     .c (o0 (x.getD i aj) (aV (cG d) ((bF s.tape (b++s.params) p).getD i aj) p) p ‹_› ‹_› (by omega) (by omega)),
     tB 59 (hlo i (by omega):(bj (x.getD i aj) (aV (cG d) ((bF s.tape (b++s.params) p).getD i aj) p) p).all=false),
     .o 62 (.e (cR _):PV.le (.e (.sl true 1 7 fun i_ j_=>(aF (bj (x.getD i aj) (aV (cG d) ((bF s.tape (b++s.params) p).getD i aj) p) p)).getD (i_*7+j_) (.v (.bool false)))) (.e (an [(bj (x.getD i aj) (aV (cG d) ((bF s.tape (b++s.params) p).getD i aj) p) p)]))),
     .a (by omega:(i+[(bj (x.getD i aj) (aV (cG d) ((bF s.tape (b++s.params) p).getD i aj) p) p)].length)*88<=140737488355328),ar ((i:Int)+1) (by omega)] <| .e (chain [.b 14 (kz rfl rfl rfl:Bx.le (.row true 41 (i+[(bj (x.getD i aj) (aV (cG d) ((bF s.tape (b++s.params) p).getD i aj) p) p)].length) 7 (fun i_ j_=>if i_<i then(bA ((List.range i).map (fun j_=>(bj (x.getD j_ aj) (aV (cG d) ((bF s.tape (b++s.params) p).getD j_ aj) p) p)))) i_ j_ else(E.fP (an [(bj (x.getD i aj) (aV (cG d) ((bF s.tape (b++s.params) p).getD i aj) p) p)])) (i_-i) j_)) (.row true 41 (i+1) 7 (bA ((List.range (i+1)).map (fun j_=>(bj (x.getD j_ aj) (aV (cG d) ((bF s.tape (b++s.params) p).getD j_ aj) p) p))))))] <| .nil)) (by kernel_rfl))
  (fun hi=>by
    exact aB (chain [tF 43 ((x.length:Int)<(x.length:Int)) (by omega),.z 14] <| .e (chain [.o 14 (.e (nD (by simp)):PV.le (.e (.sl true x.length 7 (bA ((List.range x.length).map (fun j_=>(bj (x.getD j_ aj) (aV (cG d) ((bF s.tape (b++s.params) p).getD j_ aj) p) p)))))) (.e (an ((List.range x.length).map (fun j_=>(bj (x.getD j_ aj) (aV (cG d) ((bF s.tape (b++s.params) p).getD j_ aj) p) p))))))] <| .nil)) (by kernel_rfl)) (by nofun):bD 9 Tryz.f13 (CQ s x d b p 0) (.exit 0) ⟨66,true,[(14,.e (an ((List.range x.length).map (fun j_=>(bj (x.getD j_ aj) (aV (cG d) ((bF s.tape (b++s.params) p).getD j_ aj) p) p)))))],[]⟩) .nil] <| .nil) (by kernel_rfl)
theorem th(s:bU)(x:List Iv)(d:Dy)(b:List Iv)(p:Nat)(h:dp s)(hx:bO s.au x)(hd:d.Valid)(h0:0<d.sign)(hb:bO s.au b)(hp1:8<=p)(hp2:p<=512):ae 13 [(bw s),(an x),(ag d),(an b),(iP p)] (an (bY s x d b p)):=by
 unfold bY;cases hn:hasAll (bF s.tape (b++s.params) p)with
 | true=>rw[if_pos rfl];exact(Nr s x d b p h hx hd h0 hb hp1 hp2 hn).res (.nil _ _ _)
 | false =>
  rw[if_neg (by decide)];cases ha:hasAll (lf x (bF s.tape (b++s.params) p) d p)with
  | true =>
   rw[if_pos rfl];unfold hasAll at ha;rw[List.any_eq_true,tl]at ha;obtain⟨i,hi,hb2⟩:=ha;obtain⟨N,h1,h2,h3⟩:=gF (p:=fun i=>((lf x (bF s.tape (b++s.params) p) d p).getD i aj).all) ⟨i,List.mem_range.1 hi,hb2⟩;refine(Ns s x d b p h hx hd h0 hb hp1 hp2 hn N h1 (fun i hi=>?_) ?_).res (.nil _ _ _)
   .have:=h3 i hi;rw[tk (show i<x.length by omega)]at this;exact this
   .rw [tk h1]at h2;exact h2
  | false =>
   rw[if_neg (by decide)];refine Nt s x d b p h hx hd h0 hb hp1 hp2 hn fun i hi=>?_
   unfold hasAll at ha;rw[List.any_eq_false,tl]at ha;have:=ha i (List.mem_range.2 hi);rw[tk hi]at this;exact Bool.eq_false_iff.2 this
theorem Nl(s:bU)(x:List Iv)(d:Dy)(b:List Iv)(p:Nat)(h:dp s)(hx:bO s.au x)(hd:d.Valid)(h0:0<d.sign)(hb:bO s.au b)(hp1:8<=p)(hp2:p<=512)(hi:(bY s x d b p)=[]):ae 23 [(bw s),(an x),(ag d),(an b),(iP p)] (bP false):=by
 exact tr true Tryz.call23 Tryz.func23 (chain [.c (th _ _ _ _ _ h hx hd h0 hb hp1 hp2:ae 13 [(bw s),(an x),(ag d),(an b),(iP p)] _),tB 20 (by rw[hi];rfl:(decide (0<(((bY s x d b p).length:Nat):Int)))=false)] <| .nil) (by kernel_rfl)
theorem kr{n:Nat}{b:List Iv}(h:bO n b)(h1:1<=n)(h4:n<=4):1<=b.length/\b.length<=4/\dM b:=⟨by rw[h.len];exact h1,by rw[h.len];exact h4,h.ok⟩
theorem Nn(s:bU)(x:List Iv)(d:Dy)(b:List Iv)(p:Nat)(h:dp s)(hx:bO s.au x)(hd:d.Valid)(h0:0<d.sign)(hb:bO s.au b)(hp1:8<=p)(hp2:p<=512)(hi:(bY s x d b p)≠[]):ae 23 [(bw s),(an x),(ag d),(an b),(iP p)] (bP (iS x b&&iS (bY s x d b p) b)):=by
 have s1:=h.s1;have s4:=h.s4;obtain⟨x1,x4,xo⟩:=kr hx s1 s4;obtain⟨b1,b4,bo⟩:=kr hb s1 s4;have hlx:=hx.len;have hlb:=hb.len;have hio:=wQ hx (show 1<=p by omega) (show p<=4096 by omega) hi;obtain⟨i1,i4,io⟩:=kr hio s1 s4;have hli:=hio.len
 exact tr true Tryz.call23 Tryz.func23 (chain [.c (th _ _ _ _ _ h hx hd h0 hb hp1 hp2:ae 13 [(bw s),(an x),(ag d),(an b),(iP p)] _),tT 20 (0<(((bY s x d b p).length:Nat):Int)) (by omega),
  .c (AY x b (by omega) (by omega) (by omega) ‹_› ‹_›)] <| .w (iS x b=true)
  (fun k1=>chain [tB 24 (k1),.c (AY (bY s x d b p) b (by omega) (by omega) (by omega) ‹_› ‹_›)]<|rQ (bP (iS (bY s x d b p) b)) (bP (iS x b&&iS (bY s x d b p) b)) (by simp[k1]))
  (fun k1=>chain [tB 24 (Bool.eq_false_iff.2 k1)]<|rQ (bP false) (bP (iS x b&&iS (bY s x d b p) b)) (by simp[k1]))) (by kernel_rfl)
theorem k0(s:bU)(x:List Iv)(d:Dy)(b:List Iv)(p:Nat)(h:dp s)(hx:bO s.au x)(hd:d.Valid)(h0:0<d.sign)(hb:bO s.au b)(hp1:8<=p)(hp2:p<=512):ae 23 [(bw s),(an x),(ag d),(an b),(iP p)] (bP (fK s x d b p)):=by
 unfold fK;by_cases hi:(bY s x d b p)=[]
 .have:=Nl s x d b p h hx hd h0 hb hp1 hp2 hi
  rwa[hi,show(!([]:List Iv).isEmpty&&(iS x b&&iS [] b))=false from rfl]
 .have:=Nn s x d b p h hx hd h0 hb hp1 hp2 hi
  have e:((bY s x d b p)).isEmpty=false:=by
   cases q:(bY s x d b p)with
   | nil=>exact absurd q hi
   | cons _ _=>rfl
  rwa[e,Bool.not_false,Bool.true_and]
theorem S5(k:Int)(h1:-100<=k)(h2:k<=100):ae 36 [ag ⟨false,1,0⟩,iP k] (.aq [ag (cP k),iP 0]):=by
 have:=sx ⟨false,1,0⟩ k po (by omega) (by omega);have e:canon false 1 (0+k)=cP k:=by rw[Int.zero_add];exact Bg k
 have e2:aO (canon false 1 (0+k))=cP k:=by rw[e];exact mj (zi h1 h2)
 have e3:bV (canon false 1 (0+k))=0:=by rw[e];exact pZ (zi h1 h2)
 change ae 36 [ag ⟨false,1,0⟩,iP k] (.aq [ag (aO (canon false 1 (0+k))),iP (bV (canon false 1 (0+k)))])at this;rwa[e2,e3]at this
theorem M9(x:List Iv)(d:Dy):(mw x d==0)=eG x d:=by
 unfold mw;cases eG x d<;>rfl
theorem CK(x:List Iv)(k:Int)(x1:1<=x.length)(x8:x.length<=8)(hx:dM x)(k1:-100<=k)(k2:k<=100):ae 65 [(an x),(iP k)] (.aq [an (ey x (cP k)),bP (eG x (cP k))]):=by
 have v:=pJ k1 k2;have sg:=uL k;exact tr true Tryz.call65 Tryz.func65 (chain [.c (dB _ (by omega):ae 113 [(iP 1)] _),.c (S5 _ (by omega) (by omega):ae 36 [(ag (az 1)),(iP k)] _),tB 16 (by decide:((0:Int) != 0)=false),
  .c (AX _ _ (by omega) (by omega) ‹_› ‹_› ‹_›:ae 114 [(an x),(ag (cP k))] _)]<|rR (.aq [an (ey x (cP k)),bP (eG x (cP k))]) (.aq (.cons (.refl _) (.cons (.of_eq (by rw[M9])) .nil)):E.le (.aq [(an (ey x (cP k))),(bP ((mw x (cP k))==0))]) (.aq [an (ey x (cP k)),bP (eG x (cP k))]))) (by kernel_rfl)
theorem Ht(s:bU)(x:List Iv)(d:Dy)(p:Nat)(h:dp s)(hx:bO s.au x)(hd:d.Valid)(h0:0<d.sign)(hp1:8<=p)(hp2:p<=512)(k:Int)(k1:-100<=k)(k2:k<=100)(hg:(eG x (cP k))=false):ae 64 [(iP k),(.ref 1 fun j_=>[(an x)].getD j_ .any),(.ref 5 fun j_=>[(iP s.tape.ins),(cU s.tape.ops),(cT s.tape.outs),(iP s.au),(an s.params)].getD j_ .any),(.ref 3 fun j_=>[(bP d.neg),(ah (af d.m)),(iP d.e)].getD j_ .any),(.ref 1 fun j_=>[(iP p)].getD j_ .any)] (.aq [an (ey x (cP k)),bP false]):=by
 have s1:=h.s1;have s4:=h.s4;obtain⟨x1,x4,xo⟩:=kr hx s1 s4;exact tr true Tryz.call64 Tryz.func64 (chain [.c (CK _ _ (by omega) (by omega) xo (by omega) (by omega):ae 65 [(an x),(iP k)] _),tB 15 (hg:(eG x (cP k))=false)] <| .nil) (by kernel_rfl)
theorem Hu(s:bU)(x:List Iv)(d:Dy)(p:Nat)(h:dp s)(hx:bO s.au x)(hd:d.Valid)(h0:0<d.sign)(hp1:8<=p)(hp2:p<=512)(k:Int)(k1:-100<=k)(k2:k<=100)(hg:(eG x (cP k))=true):ae 64 [(iP k),(.ref 1 fun j_=>[(an x)].getD j_ .any),(.ref 5 fun j_=>[(iP s.tape.ins),(cU s.tape.ops),(cT s.tape.outs),(iP s.au),(an s.params)].getD j_ .any),(.ref 3 fun j_=>[(bP d.neg),(ah (af d.m)),(iP d.e)].getD j_ .any),(.ref 1 fun j_=>[(iP p)].getD j_ .any)] (.aq [an (ey x (cP k)),bP (fK s x d (ey x (cP k)) p)]):=by
 have s1:=h.s1;have s4:=h.s4;obtain⟨x1,x4,xo⟩:=kr hx s1 s4;have hb:=tg hx (pJ k1 k2) (yU (uL k)) hg;exact tr true Tryz.call64 Tryz.func64 (chain [.c (CK _ _ (by omega) (by omega) xo (by omega) (by omega):ae 65 [(an x),(iP k)] _),tB 15 (hg:(eG x (cP k))=true),
  .c (k0 _ _ _ _ _ h hx hd h0 hb hp1 hp2:ae 23 [(bw s),(an x),(ag d),(an (ey x (cP k))),(iP p)] _)] <| .nil) (by kernel_rfl)
theorem pS(s:bU)(x:List Iv)(d:Dy)(p:Nat)(h:dp s)(hx:bO s.au x)(hd:d.Valid)(h0:0<d.sign)(hp1:8<=p)(hp2:p<=512)(k:Int)(k1:-100<=k)(k2:k<=100):ae 64 [(iP k),(.ref 1 fun j_=>[(an x)].getD j_ .any),(.ref 5 fun j_=>[(iP s.tape.ins),(cU s.tape.ops),(cT s.tape.outs),(iP s.au),(an s.params)].getD j_ .any),(.ref 3 fun j_=>[(bP d.neg),(ah (af d.m)),(iP d.e)].getD j_ .any),(.ref 1 fun j_=>[(iP p)].getD j_ .any)] (.aq [an (ey x (cP k)),bP (eV s x d p k)]):=by
 unfold eV;cases hg:eG x (cP k)with
 | false=>exact Ht s x d p h hx hd h0 hp1 hp2 k k1 k2 hg
 | true=>exact Hu s x d p h hx hd h0 hp1 hp2 k k1 k2 hg
theorem RS(d:Dy)(hd:d.Valid):ae 36 [ag d,iP (-3)] (.aq [ag (lJ d),iP (yN d)]):=sx d (-3) hd (by decide) (by decide)
theorem CJ{x:List Iv}{d:Dy}:mw x d=0↔eG x d=true:=by
 unfold mw;cases eG x d<;>simp
theorem Ty(s:bU)(x:List Iv)(d:Dy)(b:List Iv)(p:Nat)(h:dp s)(hx:bO s.au x)(hd:d.Valid)(h0:0<d.sign)(hb:bO s.au b)(hp1:8<=p)(hp2:p<=512)(hi:(bY s x d b p)=[]):ae 66 [(bw s),(an x),(ag d),(an b),(iP p)] (.v (.slice none 0 0)):=by
 exact tr true Tryz.call66 Tryz.func66 (chain [.c (th _ _ _ _ _ h hx hd h0 hb hp1 hp2:ae 13 [(bw s),(an x),(ag d),(an b),(iP p)] _),tB 26 (by rw[hi];rfl:((((bY s x d b p).length:Nat):Int)==0)=true)] <| .nil) (by kernel_rfl)
theorem qC{l:List Iv}(h:l≠[]):((l.length:Int)==0)=false:=dZ fun q=>h (List.length_eq_zero_iff.1 q)
theorem Tz(s:bU)(x:List Iv)(d:Dy)(b:List Iv)(p:Nat)(h:dp s)(hx:bO s.au x)(hd:d.Valid)(h0:0<d.sign)(hb:bO s.au b)(hp1:8<=p)(hp2:p<=512)(hi:(bY s x d b p)≠[]):ae 66 [(bw s),(an x),(ag d),(an b),(iP p)] (an (cg s x d b p)):=by
 have s1:=h.s1;have s4:=h.s4;obtain⟨x1,x4,xo⟩:=kr hx s1 s4;obtain⟨b1,b4,bo⟩:=kr hb s1 s4;have hlx:=hx.len;have hlb:=hb.len;have hio:=wQ hx (show 1<=p by omega) (show p<=4096 by omega) hi;obtain⟨i1,i4,io⟩:=kr hio s1 s4;have hli:=hio.len;have hho:=CM hx hio;obtain⟨u1,u4,uo⟩:=kr hho s1 s4
 have wv:=Tx (dh x (bY s x d b p)) (show 1<=p by omega) (show p<=4096 by omega);have sv:=FD (gr (dh x (bY s x d b p)) p);have sn:=P5 (FC (GL (dh x (bY s x d b p)) p))
 exact tr true Tryz.call66 Tryz.func66 (chain [.c (th _ _ _ _ _ h hx hd h0 hb hp1 hp2:ae 13 [(bw s),(an x),(ag d),(an b),(iP p)] _),tB 26 (qC hi:((((bY s x d b p).length:Nat):Int)==0)=false),
  .c (I3 x (bY s x d b p) (by omega) (by omega) (by omega) ‹_› ‹_›),
  .c (I6 _ _ (by omega) (by omega) ‹_› (by omega) (by omega):ae 116 [(an (dh x (bY s x d b p))),(iP p)] _)] <| .w (rN (dh x (bY s x d b p)) p=true)
  (fun k1=>chain [tB 35 (k1),.c (dJ _ ‹_›:ae 35 [(ag (gr (dh x (bY s x d b p)) p))] _)] <| .w ((Dy.sign (gr (dh x (bY s x d b p)) p))=0)
   (fun k2=>chain [tB 41 (beq_iff_eq.2 k2)]<|rQ (an (dh x (bY s x d b p))) (an (cg s x d b p)) (by unfold cg;rw[if_neg hi];simp[k1,k2]))
   (fun k2=>chain [tB 41 (beq_eq_false_iff_ne.2 k2),.c (RS _ ‹_›:ae 36 [(ag (gr (dh x (bY s x d b p)) p)),(iP (-3))] _)] <| .w ((yN (gr (dh x (bY s x d b p)) p))=0)
    (fun k3=>chain [tB 50 (bne_eq_false_iff_eq.2 k3),.c (AX _ _ (by omega) (by omega) ‹_› ‹_› ‹_›:ae 114 [(an (dh x (bY s x d b p))),(ag (lJ (gr (dh x (bY s x d b p)) p)))] _)] <| .w ((mw (dh x (bY s x d b p)) (lJ (gr (dh x (bY s x d b p)) p)))=0)
     (fun k4=>chain [tB 59 (beq_iff_eq.2 k4)]<|rQ (an (ey (dh x (bY s x d b p)) (lJ (gr (dh x (bY s x d b p)) p)))) (an (cg s x d b p)) (by unfold cg;rw[if_neg hi];simp[k1,k2,k3,CJ.1 k4]))
     (fun k4=>chain [tB 59 (beq_eq_false_iff_ne.2 k4)]<|rQ (an (dh x (bY s x d b p))) (an (cg s x d b p)) (by unfold cg;rw[if_neg hi];simp[k1,k2,k3,show ¬eG _ _=true from fun q=>k4 (CJ.2 q)])))
    (fun k3=>chain [tB 50 (bne_iff_ne.2 k3)]<|rQ (an (dh x (bY s x d b p))) (an (cg s x d b p)) (by unfold cg;rw[if_neg hi];simp[k1,k2,k3]))))
  (fun k1=>chain [tB 35 (Bool.eq_false_iff.2 k1)]<|rQ (an (dh x (bY s x d b p))) (an (cg s x d b p)) (by unfold cg;rw[if_neg hi];simp[k1]))) (by kernel_rfl)
theorem rO(s:bU)(x:List Iv)(d:Dy)(b:List Iv)(p:Nat)(h:dp s)(hx:bO s.au x)(hd:d.Valid)(h0:0<d.sign)(hb:bO s.au b)(hp1:8<=p)(hp2:p<=512):ae 66 [(bw s),(an x),(ag d),(an b),(iP p)] (an (cg s x d b p)):=by
 by_cases hi:(bY s x d b p)=[]
 .have:=Ty s x d b p h hx hd h0 hb hp1 hp2 hi
  unfold cg;rw[if_pos hi];exact this.res (.nil _ _ _)
 .exact Tz s x d b p h hx hd h0 hb hp1 hp2 hi
theorem Ca(s:bU)(x:List Iv)(d:Dy)(p:Nat)(h:dp s)(hx:bO s.au x)(hd:d.Valid)(h0:0<d.sign)(hp1:8<=p)(hp2:p<=512)(N:Nat)(hN0:N<24)(hlo:∀ k:Nat,k<N->eV s x d p ((k:Int)-20)=false)(hN:eV s x d p ((N:Int)-20)=true):ae 26 [(bw s),(an x),(ag d),(iP p)] (.aq [an (ey x (cP ((N:Int)-20))),iP 0]):=by
 exact tr true Tryz.call26 Tryz.func26 (chain [.c (mr _ _ _ _ h hx hd h0 hp1 hp2:ae 41 [(bw s),(an x),(ag d),(iP p)] _),
  .s (Sp.upto (BZ s x d p N) 0 N (by omega) (fun k hk hltk=>by
    exact aB (chain [tT 23 ((k:Int)<24) (by omega),ar ((k:Int)-20) (by omega),
     .c (pS _ _ _ _ h hx hd h0 hp1 hp2 _ (by omega) (by omega):ae 64 [(iP ((k:Int)-20)),(.ref 1 fun j_=>[(an x)].getD j_ .any),(.ref 5 fun j_=>[(iP s.tape.ins),(cU s.tape.ops),(cT s.tape.outs),(iP s.au),(an s.params)].getD j_ .any),(.ref 3 fun j_=>[(bP d.neg),(ah (af d.m)),(iP d.e)].getD j_ .any),(.ref 1 fun j_=>[(iP p)].getD j_ .any)] _),
     tB 31 (hlo k (by omega):(eV s x d p ((k:Int)-20))=false),ar ((k:Int)+1) (by omega)] <| .nil) (by kernel_rfl))
  (fun hk=>by
    exact aB (chain [tT 23 ((N:Int)<24) (by omega),ar ((N:Int)-20) (by omega),
    .c (pS _ _ _ _ h hx hd h0 hp1 hp2 _ (by omega) (by omega):ae 64 [(iP ((N:Int)-20)),(.ref 1 fun j_=>[(an x)].getD j_ .any),(.ref 5 fun j_=>[(iP s.tape.ins),(cU s.tape.ops),(cT s.tape.outs),(iP s.au),(an s.params)].getD j_ .any),(.ref 3 fun j_=>[(bP d.neg),(ah (af d.m)),(iP d.e)].getD j_ .any),(.ref 1 fun j_=>[(iP p)].getD j_ .any)] _),
    tB 31 (hN:(eV s x d p ((N:Int)-20))=true)] <| .nil) (by kernel_rfl)) (by nofun):bD 5 Tryz.f26 (BZ s x d p N 0) .ret ⟨55,true,[(9,.e (iP 0)),(8,.e (an (ey x (cP ((N:Int)-20)))))],[]⟩) .nil] <| .nil) (by kernel_rfl)
theorem K2(s:bU)(x:List Iv)(d:Dy)(p:Nat)(h:dp s)(hx:bO s.au x)(hd:d.Valid)(h0:0<d.sign)(hp1:8<=p)(hp2:p<=512)(hlo:∀ k:Nat,k<24->eV s x d p ((k:Int)-20)=false)(N:Nat)(hN0:N<10)(hbs:∀ j,j<=N->bO s.au (b8 s x d p j))(hw:∀ j,j<N->cg s x d (b8 s x d p j) p≠[]/\fK s x d (cg s x d (b8 s x d p j) p) p=false)(hN:cg s x d (b8 s x d p N) p=[]):ae 26 [(bw s),(an x),(ag d),(iP p)] (.aq [.v (.slice none 0 0),iP 12]):=by
 exact tr true Tryz.call26 Tryz.func26 (chain [.c (mr _ _ _ _ h hx hd h0 hp1 hp2:ae 41 [(bw s),(an x),(ag d),(iP p)] _),
  .s (Sp.upto (B0 s x d p) 0 24 (by omega) (fun k hk hltk=>by
    exact aB (chain [tT 23 ((k:Int)<24) (by omega),ar ((k:Int)-20) (by omega),
     .c (pS _ _ _ _ h hx hd h0 hp1 hp2 _ (by omega) (by omega):ae 64 [(iP ((k:Int)-20)),(.ref 1 fun j_=>[(an x)].getD j_ .any),(.ref 5 fun j_=>[(iP s.tape.ins),(cU s.tape.ops),(cT s.tape.outs),(iP s.au),(an s.params)].getD j_ .any),(.ref 3 fun j_=>[(bP d.neg),(ah (af d.m)),(iP d.e)].getD j_ .any),(.ref 1 fun j_=>[(iP p)].getD j_ .any)] _),
     tB 31 (hlo k (by omega):(eV s x d p ((k:Int)-20))=false),ar ((k:Int)+1) (by omega)] <| .nil) (by kernel_rfl))
  (fun hk=>by
    exact aB (chain [tB 23 (by decide:(decide ((24:Int)<24))=false)] <| .nil) (by kernel_rfl)) (by nofun):bD 5 Tryz.f26 (B0 s x d p 0) (.exit 0) ⟨55,true,[(7,.box 7 0),(6,.box 6 0),(5,.box 5 0),(4,.box 4 0)],[(7,.cells 3 [(iP p)]),(6,.cells 31 (aQ d)),(5,.cells 26 [(an x)]),(4,.cells 28 [(iP s.tape.ins),(cU s.tape.ops),(cT s.tape.outs),(iP s.au),(an s.params)])]⟩) .nil,
  .s (Sp.upto (B4 s x d p N) 0 N (by omega) (fun j hj hltj=>by
    have hbj:=hbs j (by omega);obtain⟨hne,hnh⟩:=hw j (by omega);have hb2:=oe hx (show 1<=p by omega) (show p<=4096 by omega) hne;exact aB (chain [tT 37 ((j:Int)<10) (by omega),.c (rO _ _ _ _ _ h hx hd h0 hbj hp1 hp2:ae 66 [(bw s),(an x),(ag d),(an (b8 s x d p j)),(iP p)] _),
     tB 46 (qC hne:((((cg s x d (b8 s x d p j) p).length:Nat):Int)==0)=false),
     .c (k0 _ _ _ _ _ h hx hd h0 hb2 hp1 hp2:ae 23 [(bw s),(an x),(ag d),(an (cg s x d (b8 s x d p j) p)),(iP p)] _),tB 52 (hnh:(fK s x d (cg s x d (b8 s x d p j) p) p)=false),
     ar ((j:Int)+1) (by omega)] <| .e (chain [.o 14 (.e (.of_eq rfl):PV.le (.e (an (cg s x d (b8 s x d p j) p))) (.e (an (b8 s x d p (j+1)))))] <| .nil)) (by kernel_rfl))
  (fun hj=>by
    have hbj:=hbs N (Nat.le_refl _);exact aB (chain [tT 37 ((N:Int)<10) (by omega),.c (rO _ _ _ _ _ h hx hd h0 hbj hp1 hp2:ae 66 [(bw s),(an x),(ag d),(an (b8 s x d p N)),(iP p)] _),
    tB 46 (by rw[hN];rfl:((((cg s x d (b8 s x d p N) p).length:Nat):Int)==0)=true)] <| .nil) (by kernel_rfl)) (by nofun):bD 13 Tryz.f26 (B4 s x d p N 0) (.exit 2) ⟨55,true,[],[]⟩) (chain [.o 14 (.e (.of_eq rfl):PV.le (.e (an x)) (.e (an (b8 s x d p 0))))] <| .nil)] <| .nil) (by kernel_rfl)
theorem K0(s:bU)(x:List Iv)(d:Dy)(p:Nat)(h:dp s)(hx:bO s.au x)(hd:d.Valid)(h0:0<d.sign)(hp1:8<=p)(hp2:p<=512)(hlo:∀ k:Nat,k<24->eV s x d p ((k:Int)-20)=false)(hbs:∀ j,j<=10->bO s.au (b8 s x d p j))(hw:∀ j,j<10->cg s x d (b8 s x d p j) p≠[]/\fK s x d (cg s x d (b8 s x d p j) p) p=false):ae 26 [(bw s),(an x),(ag d),(iP p)] (.aq [.v (.slice none 0 0),iP 12]):=by
 exact tr true Tryz.call26 Tryz.func26 (chain [.c (mr _ _ _ _ h hx hd h0 hp1 hp2:ae 41 [(bw s),(an x),(ag d),(iP p)] _),
  .s (Sp.upto (B2 s x d p) 0 24 (by omega) (fun k hk hltk=>by
    exact aB (chain [tT 23 ((k:Int)<24) (by omega),ar ((k:Int)-20) (by omega),
     .c (pS _ _ _ _ h hx hd h0 hp1 hp2 _ (by omega) (by omega):ae 64 [(iP ((k:Int)-20)),(.ref 1 fun j_=>[(an x)].getD j_ .any),(.ref 5 fun j_=>[(iP s.tape.ins),(cU s.tape.ops),(cT s.tape.outs),(iP s.au),(an s.params)].getD j_ .any),(.ref 3 fun j_=>[(bP d.neg),(ah (af d.m)),(iP d.e)].getD j_ .any),(.ref 1 fun j_=>[(iP p)].getD j_ .any)] _),
     tB 31 (hlo k (by omega):(eV s x d p ((k:Int)-20))=false),ar ((k:Int)+1) (by omega)] <| .nil) (by kernel_rfl))
  (fun hk=>by
    exact aB (chain [tB 23 (by decide:(decide ((24:Int)<24))=false)] <| .nil) (by kernel_rfl)) (by nofun):bD 5 Tryz.f26 (B2 s x d p 0) (.exit 0) ⟨55,true,[(7,.box 7 0),(6,.box 6 0),(5,.box 5 0),(4,.box 4 0)],[(7,.cells 3 [(iP p)]),(6,.cells 31 (aQ d)),(5,.cells 26 [(an x)]),(4,.cells 28 [(iP s.tape.ins),(cU s.tape.ops),(cT s.tape.outs),(iP s.au),(an s.params)])]⟩) .nil,
  .s (Sp.upto (B5 s x d p) 0 10 (by omega) (fun j hj hltj=>by
    have hbj:=hbs j (by omega);obtain⟨hne,hnh⟩:=hw j (by omega);have hb2:=oe hx (show 1<=p by omega) (show p<=4096 by omega) hne;exact aB (chain [tT 37 ((j:Int)<10) (by omega),.c (rO _ _ _ _ _ h hx hd h0 hbj hp1 hp2:ae 66 [(bw s),(an x),(ag d),(an (b8 s x d p j)),(iP p)] _),
     tB 46 (qC hne:((((cg s x d (b8 s x d p j) p).length:Nat):Int)==0)=false),
     .c (k0 _ _ _ _ _ h hx hd h0 hb2 hp1 hp2:ae 23 [(bw s),(an x),(ag d),(an (cg s x d (b8 s x d p j) p)),(iP p)] _),tB 52 (hnh:(fK s x d (cg s x d (b8 s x d p j) p) p)=false),
     ar ((j:Int)+1) (by omega)] <| .e (chain [.o 14 (.e (.of_eq rfl):PV.le (.e (an (cg s x d (b8 s x d p j) p))) (.e (an (b8 s x d p (j+1)))))] <| .nil)) (by kernel_rfl))
  (fun hj=>by
    exact aB (chain [tB 37 (by decide:(decide ((10:Int)<10))=false)] <| .nil) (by kernel_rfl)) (by nofun):bD 13 Tryz.f26 (B5 s x d p 0) (.exit 2) ⟨55,true,[],[]⟩) (chain [.o 14 (.e (.of_eq rfl):PV.le (.e (an x)) (.e (an (b8 s x d p 0))))] <| .nil)] <| .nil) (by kernel_rfl)
open Go.RowKit Fp Pu
def B3(s:bU)(x:List Iv)(d:Dy)(p:Nat)(k:Nat):PS:=⟨55,true,[(22,.e (iP k)),(10,.gw 64 [(.box 5),(.box 4),(.box 6),(.box 7)]),(7,.box 7 0),(6,.box 6 0),(5,.box 5 0),(4,.box 4 0)],[(7,.cells 3 [(iP p)]),(6,.cells 31 (aQ d)),(5,.cells 26 [(an x)]),(4,.cells 28 [(iP s.tape.ins),(cU s.tape.ops),(cT s.tape.outs),(iP s.au),(an s.params)])]⟩
noncomputable def B6(s:bU)(x:List Iv)(d:Dy)(p:Nat)(N:Nat)(j:Nat):PS:=⟨55,true,[(36,.e (iP j)),(14,.e (an (b8 s x d p j))),(7,.box 7 0),(6,.box 6 0),(5,.box 5 0),(4,.box 4 0)],[(7,.cells 3 [(iP p)]),(6,.cells 31 (aQ d)),(5,.cells 26 [(an x)]),(4,.cells 28 [(iP s.tape.ins),(cU s.tape.ops),(cT s.tape.outs),(iP s.au),(an s.params)])]⟩
theorem K1(s:bU)(x:List Iv)(d:Dy)(p:Nat)(h:dp s)(hx:bO s.au x)(hd:d.Valid)(h0:0<d.sign)(hp1:8<=p)(hp2:p<=512)(hlo:∀ k:Nat,k<24->eV s x d p ((k:Int)-20)=false)(N:Nat)(hN0:N<10)(hbs:∀ j,j<=N->bO s.au (b8 s x d p j))(hw:∀ j,j<N->cg s x d (b8 s x d p j) p≠[]/\fK s x d (cg s x d (b8 s x d p j) p) p=false)(hne:cg s x d (b8 s x d p N) p≠[])(hN:fK s x d (cg s x d (b8 s x d p N) p) p=true):ae 26 [(bw s),(an x),(ag d),(iP p)] (.aq [an (cg s x d (b8 s x d p N) p),iP 0]):=by
 have hbN:=hbs N (Nat.le_refl _);have hb2:=oe hx (show 1<=p by omega) (show p<=4096 by omega) hne;exact tr true Tryz.call26 Tryz.func26 (chain [.c (mr s x d p h hx hd h0 hp1 hp2),
  .s (Sp.upto (B3 s x d p) 0 24 (by omega) (fun k hk hltk=>by
    exact aB (chain [tT 23 ((k:Int)<24) (by omega),ar ((k:Int)-20) (by omega),
     .c (pS _ _ _ _ h hx hd h0 hp1 hp2 _ (by omega) (by omega):ae 64 [(iP ((k:Int)-20)),(.ref 1 fun j_=>[(an x)].getD j_ .any),(.ref 5 fun j_=>[(iP s.tape.ins),(cU s.tape.ops),(cT s.tape.outs),(iP s.au),(an s.params)].getD j_ .any),(.ref 3 fun j_=>[(bP d.neg),(ah (af d.m)),(iP d.e)].getD j_ .any),(.ref 1 fun j_=>[(iP p)].getD j_ .any)] _),
     tB 31 (hlo k (by omega):(eV s x d p ((k:Int)-20))=false),ar ((k:Int)+1) (by omega)] <| .nil) (by kernel_rfl))
  (fun hk=>by
    exact aB (chain [tB 23 (by decide:(decide ((24:Int)<24))=false)] <| .nil) (by kernel_rfl)) (by nofun):bD 5 Tryz.f26 (B3 s x d p 0) (.exit 0) ⟨55,true,[(7,.box 7 0),(6,.box 6 0),(5,.box 5 0),(4,.box 4 0)],[(7,.cells 3 [(iP p)]),(6,.cells 31 (aQ d)),(5,.cells 26 [(an x)]),(4,.cells 28 [(iP s.tape.ins),(cU s.tape.ops),(cT s.tape.outs),(iP s.au),(an s.params)])]⟩) .nil,
  .s (Sp.upto (B6 s x d p N) 0 N (by omega) (fun j hj hltj=>by
    have hbj:=hbs j (by omega);obtain⟨hne,hnh⟩:=hw j (by omega);have hb2:=oe hx (show 1<=p by omega) (show p<=4096 by omega) hne;exact aB (chain [tT 37 ((j:Int)<10) (by omega),.c (rO s x d (b8 s x d p j) p h hx hd h0 hbj hp1 hp2),tB 46 (qC hne:((((cg s x d (b8 s x d p j) p).length:Nat):Int)==0)=false),
     .c (k0 s x d (cg s x d (b8 s x d p j) p) p h hx hd h0 hb2 hp1 hp2),tB 52 (hnh:(fK s x d (cg s x d (b8 s x d p j) p) p)=false),ar ((j:Int)+1) (by omega)] <| .e (chain [.o 14 (.e (.of_eq rfl):PV.le (.e (an (cg s x d (b8 s x d p j) p))) (.e (an (b8 s x d p (j+1)))))] <| .nil)) (by kernel_rfl))
  (fun hj=>by
    have hbj:=hbs N (Nat.le_refl _);have hb2:=oe hx (show 1<=p by omega) (show p<=4096 by omega) hne;exact aB (chain [tT 37 ((N:Int)<10) (by omega),.c (rO s x d (b8 s x d p N) p h hx hd h0 hbj hp1 hp2),tB 46 (qC hne:((((cg s x d (b8 s x d p N) p).length:Nat):Int)==0)=false),
    .c (k0 s x d (cg s x d (b8 s x d p N) p) p h hx hd h0 hb2 hp1 hp2),tB 52 (hN:(fK s x d (cg s x d (b8 s x d p N) p) p)=true)] <| .nil) (by kernel_rfl)) (by nofun):bD 13 Tryz.f26 (B6 s x d p N 0) .ret ⟨55,true,[(9,.e (iP 0)),(8,.e (an (cg s x d (b8 s x d p N) p)))],[]⟩) (chain [.o 14 (.e (.of_eq rfl):PV.le (.e (an x)) (.e (an (b8 s x d p 0))))] <| .nil)] <| .nil) (by kernel_rfl)
def B7:Option (List Iv)->E
 | some b=>.aq [an b,iP 0]
 | none=>.aq [.v (.slice none 0 0),iP 12]
theorem B9(s:bU)(x:List Iv)(d:Dy)(p:Nat)(h:dp s)(hx:bO s.au x)(hd:d.Valid)(h0:0<d.sign)(hp1:8<=p)(hp2:p<=512):∃ o,ae 26 [(bw s),(an x),(ag d),(iP p)] (B7 o)/\(∀ b,o=some b->bO s.au b/\fK s x d b p=true)/\(o=none->∀ k:Nat,k<24->eV s x d p ((k:Int)-20)=false):=by
 have p1:1<=p:=by omega
 have p2:p<=4096:=by omega
 by_cases ha:∃ N:Nat,N<24/\eV s x d p ((N:Int)-20)=true
 .obtain ⟨N,n1,n2,n3⟩:=gF (p:=fun N=>eV s x d p ((N:Int)-20)) ha
  refine⟨some _,Ca s x d p h hx hd h0 hp1 hp2 N n1 (fun k hk=>n3 k hk) n2,fun b hb=>?_,fun q=>by cases q⟩;cases hb;have n4:=n2;unfold eV at n4;rw[Bool.and_eq_true]at n4;exact⟨tg hx (pJ (k:=(N:Int)-20) (by omega) (by omega)) (yU (uL _)) n4.1,n4.2⟩
 .have hlo:∀ k:Nat,k<24->eV s x d p ((k:Int)-20)=false:=fun k hk=>by
   cases hc:eV s x d p ((k:Int)-20)with
   | false=>rfl
   | true=>exact absurd ⟨k,hk,hc⟩ ha
  have hbs:∀ N,(∀ j,j<N->cg s x d (b8 s x d p j) p≠[])->∀ j,j<=N->bO s.au (b8 s x d p j):=fun N hne j hj=>by
   rcases j with _|j
   .exact hx
   .exact oe hx p1 p2 (hne j (by omega))
  by_cases h10:∃ N:Nat,N<10/\decide (cg s x d (b8 s x d p N) p=[]\/fK s x d (cg s x d (b8 s x d p N) p) p=true)=true
  .obtain ⟨N,n1,n2,n3⟩:=gF h10
   have hw:∀ j,j<N->cg s x d (b8 s x d p j) p≠[]/\fK s x d (cg s x d (b8 s x d p j) p) p=false:=fun j hj=>by
    have:=of_decide_eq_false (n3 j hj);exact⟨fun q=>this (.inl q),Bool.eq_false_iff.2 fun q=>this (.inr q)⟩
   have hb:=hbs N fun j hj=>(hw j hj).1
   by_cases he:cg s x d (b8 s x d p N) p=[]
   .exact ⟨none,K2 s x d p h hx hd h0 hp1 hp2 hlo N n1 hb hw he,(fun b q=>by cases q),fun _=>hlo⟩
   .have hN:=(of_decide_eq_true n2).resolve_left he
    refine⟨some _,K1 s x d p h hx hd h0 hp1 hp2 hlo N n1 hb hw he hN,fun b q=>?_,fun q=>by cases q⟩;cases q;exact⟨oe hx p1 p2 he,hN⟩
  .have hw:∀ j,j<10->cg s x d (b8 s x d p j) p≠[]/\fK s x d (cg s x d (b8 s x d p j) p) p=false:=fun j hj =>
    ⟨fun q=>h10 ⟨j,hj,decide_eq_true (.inl q)⟩,Bool.eq_false_iff.2 fun q=>h10 ⟨j,hj,decide_eq_true (.inr q)⟩⟩
   exact⟨none,K0 s x d p h hx hd h0 hp1 hp2 hlo (hbs 10 fun j hj=>(hw j hj).1) hw,(fun b q=>by cases q),fun _=>hlo⟩
open Go.RowKit Fp Pu
structure ep where
 kind:Int
 a:Int
 b:Int
 n:Int
 cn:Int
 cd:Int
structure bk where
 ins:Int
 ops:List ep
 outs:List Int
 au:Int
 params:List RI
def b6:ep:=⟨0,0,0,0,0,0⟩
def lI(o:ep):List E:=[iP o.kind,iP o.a,iP o.b,iP o.n,iP o.cn,iP o.cd]
def gn(o:ep):E:=.agg (lI o)
def bK(l:List ep):E:=.sl true l.length 6 fun i j=>(lI (l.getD i b6)).getD j .any
def bN(l:List Int):E:=.sl true l.length 1 fun i _=>iP (l.getD i 0)
def yJ(s:bk):List E:=[iP s.ins,bK s.ops,bN s.outs,iP s.au,bI s.params]
def ct(s:bk):E:=.agg (yJ s)
structure ep.Good(o:ep):Prop where
 kind:bG .i64 o.kind
 a:bG .i64 o.a
 b:bG .i64 o.b
 n:bG .i64 o.n
 cn:bG .i64 o.cn
 cd:bG .i64 o.cd
structure bk.Good(s:bk):Prop where
 ins:bG .i64 s.ins
 ops:∀ i,(s.ops.getD i b6).Good
 outs:∀ i,bG .i64 (s.outs.getD i 0)
 au:bG .i64 s.au
 params:∀ i,(s.params.getD i aR).Good
structure bk.Small(s:bk):Prop where
 ops:s.ops.length<=1000
 outs:s.outs.length<=1000
 params:s.params.length<=1000
def aK(o:ep)(m:Int):Bool :=
 if o.kind=1 then dm o.cn o.cd&&decide (o.a=0/\o.b=0/\o.n=0)
 else if 3<=o.kind/\o.kind<=6 then decide (o.cn=0/\o.cd=0/\0<=o.a/\o.a<m/\0<=o.b/\o.b<m/\o.n=0)
 else if o.kind=8 then decide (o.cn=0/\o.cd=0/\0<=o.a/\o.a<m/\o.b=0/\0<=o.n/\o.n<=16)
 else if o.kind=7\/9<=o.kind/\o.kind<=13 then decide (o.cn=0/\o.cd=0/\0<=o.a/\o.a<m/\o.b=0/\o.n=0)
 else false
def yE(s:bk):Bool:=(List.range s.ops.length).all fun i=>aK (s.ops.getD i b6) (s.ins+(i:Int))
def kF(s:bk)(k:Int):Bool:=decide (0<=k/\k<s.ins+(s.ops.length:Int))
def kJ(s:bk):Bool:=(List.range s.outs.length).all fun i=>kF s (s.outs.getD i 0)
noncomputable def dE(x:RI):Bool:=okB x && !x.all
noncomputable def pB(s:bk):Bool:=(List.range s.params.length).all fun i=>dE (s.params.getD i aR)
noncomputable def cW(s:bk):Bool:=decide (0<=s.ins/\s.ins<=8/\s.ops.length<=200/\s.outs.length<=200)&&yE s&&kJ s
 && decide (1<=s.au/\s.au<=4/\(s.outs.length:Int)=s.au/\s.ins=s.au+(s.params.length:Int)/\s.params.length<=4)&&pB s
noncomputable def gP(n:Int)(b:List RI):Bool:=decide ((b.length:Int)=n)&&(List.range b.length).all fun i=>dE (b.getD i aR)
noncomputable def kI(d:RD):Bool:=@decide d.Ok (Classical.propDecidable _)
theorem jH{d:RD}:kI d=true↔d.Ok:=@decide_eq_true_iff _ (Classical.propDecidable _)
noncomputable def df(s:bk)(x:List RI)(h:RD)(p:Int):Bool:=cW s&&gP s.au x&&kI h&&decide (0<h.dy.sign)&&decide (8<=p/\p<=512)
theorem pR{n:Nat}{f:Nat->Bool}(h:¬(List.range n).all f=true):∃ N,N<n/\(!f N)=true/\∀ k,k<N->(!f k)=false:=by
 refine gF ?_;apply Classical.byContradiction;intro q;apply h;refine List.all_eq_true.2 fun i hi=>?_
 cases hf:f i with
 | true=>rfl
 | false=>exact absurd ⟨i,List.mem_range.1 hi,by rw[hf];rfl⟩ q
theorem Aj{n:Nat}{f:Nat->Bool}:((List.range n).any fun i=>!f i) = !((List.range n).all f):=by
 rw[Bool.eq_iff_iff];simp
theorem RG{s:bk}(h:¬(0<=s.ins/\s.ins<=8/\s.ops.length<=200/\s.outs.length<=200/\1<=s.au/\s.au<=4/\(s.outs.length:Int)=s.au/\s.params.length<=4/\s.ins=s.au+(s.params.length:Int))):cW s=false:=by
 refine Bool.eq_false_iff.2 fun q=>h ?_
 unfold cW at q;simp only[Bool.and_eq_true,decide_eq_true_eq]at q;obtain⟨⟨⟨⟨a,_⟩,_⟩,b⟩,_⟩:=q;exact⟨a.1,a.2.1,a.2.2.1,a.2.2.2,b.1,b.2.1,b.2.2.1,b.2.2.2.2,b.2.2.2.1⟩
def ep.v(o:ep):dH:=⟨o.kind.toNat,o.a.toNat,o.b.toNat,o.n.toNat,o.cn,o.cd⟩
def bk.v(s:bk):bU:=⟨⟨s.ins.toNat,s.ops.map ep.v,s.outs.map Int.toNat⟩,s.au.toNat,s.params.map RI.iv⟩
theorem dG.of{k a b n m:Nat}{cn cd:Int}(k3:k=1\/3<=k)(qx:k<=13)(ha:k=1->a=0)(ha':¬k=1->a<m)(hb:3<=k/\k<=6->b<m)(hb':¬(3<=k/\k<=6)->b=0)
  (hn:k=8->n<=16) (hn':¬k=8->n=0) (hc:k=1->dm cn cd=true) (hc':¬k=1->cn=0/\cd=0):dG ⟨k,a,b,n,cn,cd⟩ m:=by
 refine⟨k3,qx,?_,?_,?_,?_⟩
 .show if k=1 then a=0 else a<m
  split<;>simp_all
 .show if 3<=k/\k<=6 then b<m else b=0
  split
  .rename_i h;exact hb h
  .rename_i h;exact hb' h
 .show if k=8 then n<=16 else n=0
  split
  .rename_i h;exact hn h
  .rename_i h;exact hn' h
 .show if k=1 then dm cn cd=true else cn=0/\cd=0
  split
  .rename_i h;exact hc h
  .rename_i h;exact hc' h
theorem Rp{o:ep}{m:Nat}(h:aK o (m:Int)=true):dG o.v m/\0<=o.kind/\0<=o.a/\0<=o.b/\0<=o.n:=by
 obtain⟨k,a,b,n,cn,cd⟩:=o;unfold aK at h;simp only at h;show dG ⟨k.toNat,a.toNat,b.toNat,n.toNat,cn,cd⟩ m/\0<=k/\0<=a/\0<=b/\0<=n;split at h
 .rename_i hk
  rw[Bool.and_eq_true,decide_eq_true_eq]at h;obtain⟨hr,h1,h2,h3⟩:=h;exact⟨dG.of (by omega) (by omega) (by omega) (by omega) (by omega) (by omega) (by omega) (by omega) (fun _=>hr) (by omega),by omega,by omega,by omega,by omega⟩
 .rename_i hk1
  split at h
  .rename_i hk
   have h:=of_decide_eq_true h;exact⟨dG.of (by omega) (by omega) (by omega) (by omega) (by omega) (by omega) (by omega) (by omega) (by omega) (by omega),by omega,by omega,by omega,by omega⟩
  .split at h
   .rename_i hk
    have h:=of_decide_eq_true h;exact⟨dG.of (by omega) (by omega) (by omega) (by omega) (by omega) (by omega) (by omega) (by omega) (by omega) (by omega),by omega,by omega,by omega,by omega⟩
   .split at h
    .rename_i hk8 hk
     have h:=of_decide_eq_true h;exact⟨dG.of (by omega) (by omega) (by omega) (by omega) (by omega) (by omega) (by omega) (by omega) (by omega) (by omega),by omega,by omega,by omega,by omega⟩
    .cases h
theorem Rr{o:ep}(h1:0<=o.kind)(h2:0<=o.a)(h3:0<=o.b)(h4:0<=o.n):tW o.v=lI o:=by
 obtain⟨k,a,b,n,cn,cd⟩:=o;simp only[tW,lI,ep.v]at *
 rw[Int.toNat_of_nonneg h1,Int.toNat_of_nonneg h2,Int.toNat_of_nonneg h3,Int.toNat_of_nonneg h4]
theorem RH{s:bk}(g:s.Good)(h:cW s=true):dp s.v/\ct s=bw s.v:=by
 unfold cW at h;simp only[Bool.and_eq_true,decide_eq_true_eq]at h;obtain⟨⟨⟨⟨⟨i0,i8,l1,l2⟩,ho⟩,hu⟩,s1,s4,e1,e2,p4⟩,hp⟩:=h;have ho:=List.all_eq_true.1 ho;have hu:=List.all_eq_true.1 hu;have hp:=List.all_eq_true.1 hp;have opAt:∀ i,i<s.ops.length->(s.ops.map ep.v).getD i a6=(s.ops.getD i b6).v:=fun i hi=>by simp[List.getD_eq_getElem?_getD,hi]
 have ouAt:∀ i,i<s.outs.length->(s.outs.map Int.toNat).getD i 0=(s.outs.getD i 0).toNat:=fun i hi=>by simp[List.getD_eq_getElem?_getD,hi]
 have paAt:∀ i,i<s.params.length->(s.params.map RI.iv).getD i aj=(s.params.getD i aR).iv:=fun i hi=>by simp[List.getD_eq_getElem?_getD,hi]
 have op:∀ i,i<s.ops.length->dG (s.ops.getD i b6).v (s.ins.toNat+i)/\0<=(s.ops.getD i b6).kind/\0<=(s.ops.getD i b6).a/\0<=(s.ops.getD i b6).b/\0<=(s.ops.getD i b6).n:=fun i hi=>by
  have:=ho i (List.mem_range.2 hi);exact Rp (by rwa[show((s.ins.toNat+i:Nat):Int)=s.ins+(i:Int)by omega])
 have ou:∀ i,i<s.outs.length->0<=s.outs.getD i 0/\s.outs.getD i 0<s.ins+(s.ops.length:Int):=fun i hi=>of_decide_eq_true (hu i (List.mem_range.2 hi))
 have pa:∀ i,i<s.params.length->(s.params.getD i aR).Ok/\(s.params.getD i aR).all=false:=fun i hi=>by
  have:=hp i (List.mem_range.2 hi);unfold dE at this;rw[Bool.and_eq_true]at this;exact⟨gV.1 this.1,by simpa using this.2⟩
 refine⟨⟨⟨?_,?_,?_,?_,?_⟩,?_,?_,?_,?_,?_,?_⟩,?_⟩
 .show s.ins.toNat<=8;omega
 .show (s.ops.map ep.v).length<=200;rw[List.length_map];exact l1
 .show (s.outs.map Int.toNat).length<=200;rw[List.length_map];exact l2
 .intro i hi
  have hi:i<s.ops.length:=by simpa[bk.v]using hi
  show dG ((s.ops.map ep.v).getD i a6) (s.ins.toNat+i);rw[opAt i hi];exact(op i hi).1
 .intro i hi
  have hi:i<s.outs.length:=by simpa[bk.v]using hi
  show(s.outs.map Int.toNat).getD i 0<s.ins.toNat+(s.ops.map ep.v).length;rw[ouAt i hi,List.length_map];have:=ou i hi;omega
 .show 1<=s.au.toNat;omega
 .show s.au.toNat<=4;omega
 .show (s.outs.map Int.toNat).length=s.au.toNat;rw[List.length_map];omega
 .show s.ins.toNat=s.au.toNat+(s.params.map RI.iv).length;rw[List.length_map];omega
 .show (s.params.map RI.iv).length<=4;rw[List.length_map];exact p4
 .intro i hi
  have hi:i<s.params.length:=by simpa[bk.v]using hi
  show((s.params.map RI.iv).getD i aj).Valid/\((s.params.map RI.iv).getD i aj).all=false;rw[paAt i hi];exact⟨(pa i hi).1.valid,(pa i hi).2⟩
 .have e1:iP s.ins=iP ((s.ins.toNat:Nat):Int):=by rw[Int.toNat_of_nonneg i0]
  have e2:iP s.au=iP ((s.au.toNat:Nat):Int):=by rw[Int.toNat_of_nonneg (show 0<=s.au by omega)]
  have e3:bK s.ops=cU (s.ops.map ep.v):=by
   unfold bK cU;rw[List.length_map];congr 1;funext i j;by_cases hi:i<s.ops.length
   .rw [opAt i hi]
    obtain⟨_,h1,h2,h3,h4⟩:=op i hi;rw[Rr h1 h2 h3 h4]
   .have a1:s.ops.getD i b6=b6:=by rw[List.getD_eq_getElem?_getD,List.getElem?_eq_none (by omega)];rfl
    have a2:(s.ops.map ep.v).getD i a6=a6:=by rw[List.getD_eq_getElem?_getD,List.getElem?_eq_none (by rw[List.length_map];omega)];rfl
    rw[a1,a2];rfl
  have e4:bN s.outs=cT (s.outs.map Int.toNat):=by
   unfold bN cT;rw[List.length_map];congr 1;funext i j;by_cases hi:i<s.outs.length
   .rw [ouAt i hi,Int.toNat_of_nonneg (ou i hi).1]
   .rw [List.getD_eq_getElem?_getD,List.getElem?_eq_none (by omega),List.getD_eq_getElem?_getD (l:=s.outs.map Int.toNat),List.getElem?_eq_none (by rw[List.length_map];omega)]
    rfl
  have e5:bI s.params=an (s.params.map RI.iv):=by
   rw[<-Da];congr 1;apply List.ext_getElem?;intro i;unfold nS;rw[List.getElem?_map,List.getElem?_map];by_cases hi:i<s.params.length
   .have h1:=(pa i hi).1
    have g1:=g.params i;rw[List.getElem?_eq_getElem hi];rw[List.getD_eq_getElem?_getD,List.getElem?_eq_getElem hi]at h1 g1;exact congrArg some (RI.Ok.eq (x:=s.params[i]) h1 g1).symm
   .rw [List.getElem?_eq_none (by omega)];rfl
  show E.agg [iP s.ins,bK s.ops,bN s.outs,iP s.au,bI s.params]=_;rw[e1,e2,e3,e4,e5];rfl
open Go.RowKit Fp Pu
def Fu(s:bk)(N:Nat)(x:Nat):PS:=⟨85,true,[(31,.e (iP x)),(30,.e (iP s.ops.length)),(29,.e (bK s.ops)),(3,.box 3 0),(1,.box 1 0)],[(3,.cells 25 [(iP s.ins),(bK s.ops),(bN s.outs)]),(1,.cells 28 [(iP s.ins),(bK s.ops),(bN s.outs),(iP s.au),(bI s.params)])]⟩
def Fv(s:bk)(x:Nat):PS:=⟨85,true,[(31,.e (iP x)),(30,.e (iP s.ops.length)),(29,.e (bK s.ops)),(3,.box 3 0),(1,.box 1 0)],[(3,.cells 25 [(iP s.ins),(bK s.ops),(bN s.outs)]),(1,.cells 28 [(iP s.ins),(bK s.ops),(bN s.outs),(iP s.au),(bI s.params)])]⟩
def Fw(s:bk)(x:Nat):PS:=⟨85,true,[(31,.e (iP x)),(30,.e (iP s.ops.length)),(29,.e (bK s.ops)),(3,.box 3 0),(1,.box 1 0)],[(3,.cells 25 [(iP s.ins),(bK s.ops),(bN s.outs)]),(1,.cells 28 [(iP s.ins),(bK s.ops),(bN s.outs),(iP s.au),(bI s.params)])]⟩
def Fx(s:bk)(x:Nat):PS:=⟨85,true,[(31,.e (iP x)),(30,.e (iP s.ops.length)),(29,.e (bK s.ops)),(3,.box 3 0),(1,.box 1 0)],[(3,.cells 25 [(iP s.ins),(bK s.ops),(bN s.outs)]),(1,.cells 28 [(iP s.ins),(bK s.ops),(bN s.outs),(iP s.au),(bI s.params)])]⟩
theorem bW{a b:Bool}(h:a=true↔b=true):a=b:=Bool.eq_iff_iff.2 h
theorem bM{a b:Bool}(h:a=b):bP a=bP b:=h▸rfl
theorem qU(o:ep)(m:Int)(g:o.Good):ae 133 [(gn o),(iP m)] (bP (aK o m)):=by
 exact tr true Tryz.call133 Tryz.func133 (.w (o.a<0)
  (fun k1=>chain [tB 8 (decide_eq_true k1)]<|rQ (bP false) (bP (aK o m)) (bM (by simp_all[aK,cM]<;>(repeat' split)<;>intros<;>omega)))
  (fun k1=>chain [tB 8 (decide_eq_false k1)] <| .w (o.b<0)
   (fun k2=>chain [tB 12 (decide_eq_true k2)]<|rQ (bP false) (bP (aK o m)) (bM (by simp_all[aK,cM]<;>(repeat' split)<;>intros<;>omega)))
   (fun k2=>chain [tB 12 (decide_eq_false k2),.g (Eh g.cn g.cd rfl:eJ Tryz.prog .eql 97 (.agg [(iP o.cn),(iP o.cd)]) (.agg [(iP 0),(iP 0)]) (.bool (decide (o.cn=0/\o.cd=0))))] <| .w (o.kind=1)
    (fun k3=>chain [tB 21 (beq_iff_eq.2 k3),.c (ub o.cn o.cd)] <| .w (dm o.cn o.cd=true)
     (fun k4=>chain [tB 24 (k4)] <| .w (o.a=0)
      (fun k5=>chain [tB 28 (beq_iff_eq.2 k5)] <| .w (o.b=0)
       (fun k6=>chain [tB 33 (beq_iff_eq.2 k6)]<|rQ (bP (o.n==0)) (bP (aK o m)) (bM (by simp_all[aK,cM]<;>(repeat' split)<;>intros<;>omega)))
       (fun k6=>chain [tB 33 (beq_eq_false_iff_ne.2 k6)]<|rQ (bP false) (bP (aK o m)) (bM (by simp_all[aK,cM]<;>(repeat' split)<;>intros<;>omega))))
      (fun k5=>chain [tB 28 (beq_eq_false_iff_ne.2 k5)]<|rQ (bP false) (bP (aK o m)) (bM (by simp_all[aK,cM]<;>(repeat' split)<;>intros<;>omega))))
     (fun k4=>chain [tB 24 (Bool.eq_false_iff.2 k4)]<|rQ (bP false) (bP (aK o m)) (bM (by simp_all[aK,cM]<;>(repeat' split)<;>intros<;>omega))))
    (fun k3=>.w (3<=o.kind/\o.kind<=6)
     (fun k4=>.w (o.cn=0/\o.cd=0)
      (fun k5=>chain [tB 17 (decide_eq_true k5),tB 21 (beq_eq_false_iff_ne.2 k3),
       .j 80 ⟨111,true,[(40,.e (bP (decide (3<=o.kind/\o.kind<=6)))),(19,.e (iP o.kind)),(5,.e (bP true)),(2,.box 2 0),(1,.e (iP m))],[(2,.cells 99 [(iP o.kind),(iP o.a),(iP o.b),(iP o.n),(iP o.cn),(iP o.cd)])]⟩
   (.w (o.kind=3)
    (fun m1=>chain [.v 40 (.bool (beq_iff_eq.2 m1))] <| .e (chain [tB 40 (bW (by simp<;>omega):true=(decide (3<=o.kind/\o.kind<=6)))] <| .nil))
    (fun m1=>chain [.v 40 (.bool (beq_eq_false_iff_ne.2 m1))] <| .w (o.kind=4)
     (fun m2=>chain [tB 42 (beq_iff_eq.2 m2)] <| .e (chain [tB 40 (bW (by simp<;>omega):true=(decide (3<=o.kind/\o.kind<=6)))] <| .nil))
     (fun m2=>chain [tB 42 (beq_eq_false_iff_ne.2 m2)] <| .w (o.kind=5)
      (fun m3=>chain [tB 43 (beq_iff_eq.2 m3)] <| .e (chain [tB 40 (bW (by simp<;>omega):true=(decide (3<=o.kind/\o.kind<=6)))] <| .nil))
      (fun m3=>chain [tB 43 (beq_eq_false_iff_ne.2 m3)] <| .e (chain [tB 40 (bW (by simp<;>omega):(o.kind==6)=(decide (3<=o.kind/\o.kind<=6)))] <| .nil))))),
       .v 40 (.bool (decide_eq_true k4))] <| .w (o.a<m)
       (fun k6=>chain [tB 50 (decide_eq_true k6)] <| .w (o.b<m)
        (fun k7=>chain [tB 56 (decide_eq_true k7)]<|rQ (bP (o.n==0)) (bP (aK o m)) (bM (by simp_all[aK,cM]<;>(repeat' split)<;>intros<;>omega)))
        (fun k7=>chain [tB 56 (decide_eq_false k7)]<|rQ (bP false) (bP (aK o m)) (bM (by simp_all[aK,cM]<;>(repeat' split)<;>intros<;>omega))))
       (fun k6=>chain [tB 50 (decide_eq_false k6)]<|rQ (bP false) (bP (aK o m)) (bM (by simp_all[aK,cM]<;>(repeat' split)<;>intros<;>omega))))
      (fun k5=>chain [tB 17 (decide_eq_false k5),tB 21 (beq_eq_false_iff_ne.2 k3),
       .j 80 ⟨111,true,[(40,.e (bP (decide (3<=o.kind/\o.kind<=6)))),(19,.e (iP o.kind)),(5,.e (bP false)),(2,.box 2 0),(1,.e (iP m))],[(2,.cells 99 [(iP o.kind),(iP o.a),(iP o.b),(iP o.n),(iP o.cn),(iP o.cd)])]⟩
   (.w (o.kind=3)
    (fun m1=>chain [.v 40 (.bool (beq_iff_eq.2 m1))] <| .e (chain [tB 40 (bW (by simp<;>omega):true=(decide (3<=o.kind/\o.kind<=6)))] <| .nil))
    (fun m1=>chain [.v 40 (.bool (beq_eq_false_iff_ne.2 m1))] <| .w (o.kind=4)
     (fun m2=>chain [tB 42 (beq_iff_eq.2 m2)] <| .e (chain [tB 40 (bW (by simp<;>omega):true=(decide (3<=o.kind/\o.kind<=6)))] <| .nil))
     (fun m2=>chain [tB 42 (beq_eq_false_iff_ne.2 m2)] <| .w (o.kind=5)
      (fun m3=>chain [tB 43 (beq_iff_eq.2 m3)] <| .e (chain [tB 40 (bW (by simp<;>omega):true=(decide (3<=o.kind/\o.kind<=6)))] <| .nil))
      (fun m3=>chain [tB 43 (beq_eq_false_iff_ne.2 m3)] <| .e (chain [tB 40 (bW (by simp<;>omega):(o.kind==6)=(decide (3<=o.kind/\o.kind<=6)))] <| .nil))))),
       .v 40 (.bool (decide_eq_true k4))]<|rQ (bP false) (bP (aK o m)) (bM (by simp_all[aK,cM]<;>(repeat' split)<;>intros<;>omega))))
     (fun k4=>.w (o.kind=8)
      (fun k5=>.w (o.cn=0/\o.cd=0)
       (fun k6=>chain [tB 17 (decide_eq_true k6),tB 21 (beq_eq_false_iff_ne.2 k3),
        .j 80 ⟨111,true,[(40,.e (bP (decide (3<=o.kind/\o.kind<=6)))),(19,.e (iP o.kind)),(5,.e (bP true)),(2,.box 2 0),(1,.e (iP m))],[(2,.cells 99 [(iP o.kind),(iP o.a),(iP o.b),(iP o.n),(iP o.cn),(iP o.cd)])]⟩
   (.w (o.kind=3)
    (fun m1=>chain [.v 40 (.bool (beq_iff_eq.2 m1))] <| .e (chain [tB 40 (bW (by simp<;>omega):true=(decide (3<=o.kind/\o.kind<=6)))] <| .nil))
    (fun m1=>chain [.v 40 (.bool (beq_eq_false_iff_ne.2 m1))] <| .w (o.kind=4)
     (fun m2=>chain [tB 42 (beq_iff_eq.2 m2)] <| .e (chain [tB 40 (bW (by simp<;>omega):true=(decide (3<=o.kind/\o.kind<=6)))] <| .nil))
     (fun m2=>chain [tB 42 (beq_eq_false_iff_ne.2 m2)] <| .w (o.kind=5)
      (fun m3=>chain [tB 43 (beq_iff_eq.2 m3)] <| .e (chain [tB 40 (bW (by simp<;>omega):true=(decide (3<=o.kind/\o.kind<=6)))] <| .nil))
      (fun m3=>chain [tB 43 (beq_eq_false_iff_ne.2 m3)] <| .e (chain [tB 40 (bW (by simp<;>omega):(o.kind==6)=(decide (3<=o.kind/\o.kind<=6)))] <| .nil))))),
        .v 40 (.bool (decide_eq_false k4)),tB 64 (beq_iff_eq.2 k5)] <| .w (o.a<m)
        (fun k7=>chain [tB 70 (decide_eq_true k7)] <| .w (o.b=0)
         (fun k8=>chain [tB 75 (beq_iff_eq.2 k8)] <| .w (0<=o.n)
          (fun k9=>chain [tB 80 (decide_eq_true k9)]<|rQ (bP (decide (o.n<=16))) (bP (aK o m)) (bM (by simp_all[aK,cM]<;>(repeat' split)<;>intros<;>omega)))
          (fun k9=>chain [tB 80 (decide_eq_false k9)]<|rQ (bP false) (bP (aK o m)) (bM (by simp_all[aK,cM]<;>(repeat' split)<;>intros<;>omega))))
         (fun k8=>chain [tB 75 (beq_eq_false_iff_ne.2 k8)]<|rQ (bP false) (bP (aK o m)) (bM (by simp_all[aK,cM]<;>(repeat' split)<;>intros<;>omega))))
        (fun k7=>chain [tB 70 (decide_eq_false k7)]<|rQ (bP false) (bP (aK o m)) (bM (by simp_all[aK,cM]<;>(repeat' split)<;>intros<;>omega))))
       (fun k6=>chain [tB 17 (decide_eq_false k6),tB 21 (beq_eq_false_iff_ne.2 k3),
        .j 80 ⟨111,true,[(40,.e (bP (decide (3<=o.kind/\o.kind<=6)))),(19,.e (iP o.kind)),(5,.e (bP false)),(2,.box 2 0),(1,.e (iP m))],[(2,.cells 99 [(iP o.kind),(iP o.a),(iP o.b),(iP o.n),(iP o.cn),(iP o.cd)])]⟩
   (.w (o.kind=3)
    (fun m1=>chain [.v 40 (.bool (beq_iff_eq.2 m1))] <| .e (chain [tB 40 (bW (by simp<;>omega):true=(decide (3<=o.kind/\o.kind<=6)))] <| .nil))
    (fun m1=>chain [.v 40 (.bool (beq_eq_false_iff_ne.2 m1))] <| .w (o.kind=4)
     (fun m2=>chain [tB 42 (beq_iff_eq.2 m2)] <| .e (chain [tB 40 (bW (by simp<;>omega):true=(decide (3<=o.kind/\o.kind<=6)))] <| .nil))
     (fun m2=>chain [tB 42 (beq_eq_false_iff_ne.2 m2)] <| .w (o.kind=5)
      (fun m3=>chain [tB 43 (beq_iff_eq.2 m3)] <| .e (chain [tB 40 (bW (by simp<;>omega):true=(decide (3<=o.kind/\o.kind<=6)))] <| .nil))
      (fun m3=>chain [tB 43 (beq_eq_false_iff_ne.2 m3)] <| .e (chain [tB 40 (bW (by simp<;>omega):(o.kind==6)=(decide (3<=o.kind/\o.kind<=6)))] <| .nil))))),
        .v 40 (.bool (decide_eq_false k4)),tB 64 (beq_iff_eq.2 k5)]<|rQ (bP false) (bP (aK o m)) (bM (by simp_all[aK,cM]<;>(repeat' split)<;>intros<;>omega))))
      (fun k5=>.w (o.kind=7\/9<=o.kind/\o.kind<=13)
       (fun k6=>.w (o.cn=0/\o.cd=0)
        (fun k7=>chain [tB 17 (decide_eq_true k7),tB 21 (beq_eq_false_iff_ne.2 k3),
         .j 80 ⟨111,true,[(40,.e (bP (decide (3<=o.kind/\o.kind<=6)))),(19,.e (iP o.kind)),(5,.e (bP true)),(2,.box 2 0),(1,.e (iP m))],[(2,.cells 99 [(iP o.kind),(iP o.a),(iP o.b),(iP o.n),(iP o.cn),(iP o.cd)])]⟩
   (.w (o.kind=3)
    (fun m1=>chain [.v 40 (.bool (beq_iff_eq.2 m1))] <| .e (chain [tB 40 (bW (by simp<;>omega):true=(decide (3<=o.kind/\o.kind<=6)))] <| .nil))
    (fun m1=>chain [.v 40 (.bool (beq_eq_false_iff_ne.2 m1))] <| .w (o.kind=4)
     (fun m2=>chain [tB 42 (beq_iff_eq.2 m2)] <| .e (chain [tB 40 (bW (by simp<;>omega):true=(decide (3<=o.kind/\o.kind<=6)))] <| .nil))
     (fun m2=>chain [tB 42 (beq_eq_false_iff_ne.2 m2)] <| .w (o.kind=5)
      (fun m3=>chain [tB 43 (beq_iff_eq.2 m3)] <| .e (chain [tB 40 (bW (by simp<;>omega):true=(decide (3<=o.kind/\o.kind<=6)))] <| .nil))
      (fun m3=>chain [tB 43 (beq_eq_false_iff_ne.2 m3)] <| .e (chain [tB 40 (bW (by simp<;>omega):(o.kind==6)=(decide (3<=o.kind/\o.kind<=6)))] <| .nil))))),
         .v 40 (.bool (decide_eq_false k4)),tB 64 (beq_eq_false_iff_ne.2 k5),
         .j 174 ⟨111,true,[(87,.e (bP (decide (o.kind=7\/9<=o.kind/\o.kind<=13)))),(5,.e (bP true)),(2,.box 2 0),(1,.e (iP m))],[(2,.cells 99 [(iP o.kind),(iP o.a),(iP o.b),(iP o.n),(iP o.cn),(iP o.cd)])]⟩
   (.w (o.kind=7)
    (fun m1=>chain [.v 87 (.bool (beq_iff_eq.2 m1))] <| .e (chain [tB 87 (bW (by simp<;>omega):true=(decide (o.kind=7\/9<=o.kind/\o.kind<=13)))] <| .nil))
    (fun m1=>chain [.v 87 (.bool (beq_eq_false_iff_ne.2 m1))] <| .w (o.kind=9)
     (fun m2=>chain [tB 89 (beq_iff_eq.2 m2)] <| .e (chain [tB 87 (bW (by simp<;>omega):true=(decide (o.kind=7\/9<=o.kind/\o.kind<=13)))] <| .nil))
     (fun m2=>chain [tB 89 (beq_eq_false_iff_ne.2 m2)] <| .w (o.kind=10)
      (fun m3=>chain [tB 90 (beq_iff_eq.2 m3)] <| .e (chain [tB 87 (bW (by simp<;>omega):true=(decide (o.kind=7\/9<=o.kind/\o.kind<=13)))] <| .nil))
      (fun m3=>chain [tB 90 (beq_eq_false_iff_ne.2 m3)] <| .w (o.kind=11)
       (fun m4=>chain [tB 91 (beq_iff_eq.2 m4)] <| .e (chain [tB 87 (bW (by simp<;>omega):true=(decide (o.kind=7\/9<=o.kind/\o.kind<=13)))] <| .nil))
       (fun m4=>chain [tB 91 (beq_eq_false_iff_ne.2 m4)] <| .w (o.kind=12)
        (fun m5=>chain [tB 92 (beq_iff_eq.2 m5)] <| .e (chain [tB 87 (bW (by simp<;>omega):true=(decide (o.kind=7\/9<=o.kind/\o.kind<=13)))] <| .nil))
        (fun m5=>chain [tB 92 (beq_eq_false_iff_ne.2 m5)] <| .e (chain [tB 87 (bW (by simp<;>omega):(o.kind==13)=(decide (o.kind=7\/9<=o.kind/\o.kind<=13)))] <| .nil))))))),
         .v 87 (.bool (decide_eq_true k6))] <| .w (o.a<m)
         (fun k8=>chain [tB 99 (decide_eq_true k8)] <| .w (o.b=0)
          (fun k9=>chain [tB 104 (beq_iff_eq.2 k9)]<|rQ (bP (o.n==0)) (bP (aK o m)) (bM (by simp_all[aK,cM]<;>(repeat' split)<;>intros<;>omega)))
          (fun k9=>chain [tB 104 (beq_eq_false_iff_ne.2 k9)]<|rQ (bP false) (bP (aK o m)) (bM (by simp_all[aK,cM]<;>(repeat' split)<;>intros<;>omega))))
         (fun k8=>chain [tB 99 (decide_eq_false k8)]<|rQ (bP false) (bP (aK o m)) (bM (by simp_all[aK,cM]<;>(repeat' split)<;>intros<;>omega))))
        (fun k7=>chain [tB 17 (decide_eq_false k7),tB 21 (beq_eq_false_iff_ne.2 k3),
         .j 80 ⟨111,true,[(40,.e (bP (decide (3<=o.kind/\o.kind<=6)))),(19,.e (iP o.kind)),(5,.e (bP false)),(2,.box 2 0),(1,.e (iP m))],[(2,.cells 99 [(iP o.kind),(iP o.a),(iP o.b),(iP o.n),(iP o.cn),(iP o.cd)])]⟩
   (.w (o.kind=3)
    (fun m1=>chain [.v 40 (.bool (beq_iff_eq.2 m1))] <| .e (chain [tB 40 (bW (by simp<;>omega):true=(decide (3<=o.kind/\o.kind<=6)))] <| .nil))
    (fun m1=>chain [.v 40 (.bool (beq_eq_false_iff_ne.2 m1))] <| .w (o.kind=4)
     (fun m2=>chain [tB 42 (beq_iff_eq.2 m2)] <| .e (chain [tB 40 (bW (by simp<;>omega):true=(decide (3<=o.kind/\o.kind<=6)))] <| .nil))
     (fun m2=>chain [tB 42 (beq_eq_false_iff_ne.2 m2)] <| .w (o.kind=5)
      (fun m3=>chain [tB 43 (beq_iff_eq.2 m3)] <| .e (chain [tB 40 (bW (by simp<;>omega):true=(decide (3<=o.kind/\o.kind<=6)))] <| .nil))
      (fun m3=>chain [tB 43 (beq_eq_false_iff_ne.2 m3)] <| .e (chain [tB 40 (bW (by simp<;>omega):(o.kind==6)=(decide (3<=o.kind/\o.kind<=6)))] <| .nil))))),
         .v 40 (.bool (decide_eq_false k4)),tB 64 (beq_eq_false_iff_ne.2 k5),
         .j 174 ⟨111,true,[(87,.e (bP (decide (o.kind=7\/9<=o.kind/\o.kind<=13)))),(5,.e (bP false)),(2,.box 2 0),(1,.e (iP m))],[(2,.cells 99 [(iP o.kind),(iP o.a),(iP o.b),(iP o.n),(iP o.cn),(iP o.cd)])]⟩
   (.w (o.kind=7)
    (fun m1=>chain [.v 87 (.bool (beq_iff_eq.2 m1))] <| .e (chain [tB 87 (bW (by simp<;>omega):true=(decide (o.kind=7\/9<=o.kind/\o.kind<=13)))] <| .nil))
    (fun m1=>chain [.v 87 (.bool (beq_eq_false_iff_ne.2 m1))] <| .w (o.kind=9)
     (fun m2=>chain [tB 89 (beq_iff_eq.2 m2)] <| .e (chain [tB 87 (bW (by simp<;>omega):true=(decide (o.kind=7\/9<=o.kind/\o.kind<=13)))] <| .nil))
     (fun m2=>chain [tB 89 (beq_eq_false_iff_ne.2 m2)] <| .w (o.kind=10)
      (fun m3=>chain [tB 90 (beq_iff_eq.2 m3)] <| .e (chain [tB 87 (bW (by simp<;>omega):true=(decide (o.kind=7\/9<=o.kind/\o.kind<=13)))] <| .nil))
      (fun m3=>chain [tB 90 (beq_eq_false_iff_ne.2 m3)] <| .w (o.kind=11)
       (fun m4=>chain [tB 91 (beq_iff_eq.2 m4)] <| .e (chain [tB 87 (bW (by simp<;>omega):true=(decide (o.kind=7\/9<=o.kind/\o.kind<=13)))] <| .nil))
       (fun m4=>chain [tB 91 (beq_eq_false_iff_ne.2 m4)] <| .w (o.kind=12)
        (fun m5=>chain [tB 92 (beq_iff_eq.2 m5)] <| .e (chain [tB 87 (bW (by simp<;>omega):true=(decide (o.kind=7\/9<=o.kind/\o.kind<=13)))] <| .nil))
        (fun m5=>chain [tB 92 (beq_eq_false_iff_ne.2 m5)] <| .e (chain [tB 87 (bW (by simp<;>omega):(o.kind==13)=(decide (o.kind=7\/9<=o.kind/\o.kind<=13)))] <| .nil))))))),
         .v 87 (.bool (decide_eq_true k6))]<|rQ (bP false) (bP (aK o m)) (bM (by simp_all[aK,cM]<;>(repeat' split)<;>intros<;>omega))))
       (fun k6=>chain [tB 21 (beq_eq_false_iff_ne.2 k3),
        .j 80 ⟨111,true,[(40,.e (bP (decide (3<=o.kind/\o.kind<=6)))),(19,.e (iP o.kind)),(5,.e (bP (decide (o.cn=0/\o.cd=0)))),(2,.box 2 0),(1,.e (iP m))],[(2,.cells 99 [(iP o.kind),(iP o.a),(iP o.b),(iP o.n),(iP o.cn),(iP o.cd)])]⟩
   (.w (o.kind=3)
    (fun m1=>chain [.v 40 (.bool (beq_iff_eq.2 m1))] <| .e (chain [tB 40 (bW (by simp<;>omega):true=(decide (3<=o.kind/\o.kind<=6)))] <| .nil))
    (fun m1=>chain [.v 40 (.bool (beq_eq_false_iff_ne.2 m1))] <| .w (o.kind=4)
     (fun m2=>chain [tB 42 (beq_iff_eq.2 m2)] <| .e (chain [tB 40 (bW (by simp<;>omega):true=(decide (3<=o.kind/\o.kind<=6)))] <| .nil))
     (fun m2=>chain [tB 42 (beq_eq_false_iff_ne.2 m2)] <| .w (o.kind=5)
      (fun m3=>chain [tB 43 (beq_iff_eq.2 m3)] <| .e (chain [tB 40 (bW (by simp<;>omega):true=(decide (3<=o.kind/\o.kind<=6)))] <| .nil))
      (fun m3=>chain [tB 43 (beq_eq_false_iff_ne.2 m3)] <| .e (chain [tB 40 (bW (by simp<;>omega):(o.kind==6)=(decide (3<=o.kind/\o.kind<=6)))] <| .nil))))),
        .v 40 (.bool (decide_eq_false k4)),tB 64 (beq_eq_false_iff_ne.2 k5),
        .j 174 ⟨111,true,[(87,.e (bP (decide (o.kind=7\/9<=o.kind/\o.kind<=13)))),(5,.e (bP (decide (o.cn=0/\o.cd=0)))),(2,.box 2 0),(1,.e (iP m))],[(2,.cells 99 [(iP o.kind),(iP o.a),(iP o.b),(iP o.n),(iP o.cn),(iP o.cd)])]⟩
   (.w (o.kind=7)
    (fun m1=>chain [.v 87 (.bool (beq_iff_eq.2 m1))] <| .e (chain [tB 87 (bW (by simp<;>omega):true=(decide (o.kind=7\/9<=o.kind/\o.kind<=13)))] <| .nil))
    (fun m1=>chain [.v 87 (.bool (beq_eq_false_iff_ne.2 m1))] <| .w (o.kind=9)
     (fun m2=>chain [tB 89 (beq_iff_eq.2 m2)] <| .e (chain [tB 87 (bW (by simp<;>omega):true=(decide (o.kind=7\/9<=o.kind/\o.kind<=13)))] <| .nil))
     (fun m2=>chain [tB 89 (beq_eq_false_iff_ne.2 m2)] <| .w (o.kind=10)
      (fun m3=>chain [tB 90 (beq_iff_eq.2 m3)] <| .e (chain [tB 87 (bW (by simp<;>omega):true=(decide (o.kind=7\/9<=o.kind/\o.kind<=13)))] <| .nil))
      (fun m3=>chain [tB 90 (beq_eq_false_iff_ne.2 m3)] <| .w (o.kind=11)
       (fun m4=>chain [tB 91 (beq_iff_eq.2 m4)] <| .e (chain [tB 87 (bW (by simp<;>omega):true=(decide (o.kind=7\/9<=o.kind/\o.kind<=13)))] <| .nil))
       (fun m4=>chain [tB 91 (beq_eq_false_iff_ne.2 m4)] <| .w (o.kind=12)
        (fun m5=>chain [tB 92 (beq_iff_eq.2 m5)] <| .e (chain [tB 87 (bW (by simp<;>omega):true=(decide (o.kind=7\/9<=o.kind/\o.kind<=13)))] <| .nil))
        (fun m5=>chain [tB 92 (beq_eq_false_iff_ne.2 m5)] <| .e (chain [tB 87 (bW (by simp<;>omega):(o.kind==13)=(decide (o.kind=7\/9<=o.kind/\o.kind<=13)))] <| .nil))))))),
        .v 87 (.bool (decide_eq_false k6))]<|rQ (bP false) (bP (aK o m)) (bM (by simp_all[aK,cM]<;>(repeat' split)<;>intros<;>omega))))))))) (by kernel_rfl)
theorem Sz(s:bk)(g:s.Good)(k:Int)(h0:0<=s.ins)(h8:s.ins<=8)(l2:s.ops.length<=200):ae 135 [(iP k),(.ref 3 fun j_=>[(iP s.ins),(bK s.ops),(bN s.outs)].getD j_ .any)] (bP (!kF s k)):=by
 exact tr true Tryz.call135 Tryz.func135 (.w (k<0)
  (fun k1=>chain [tB 5 (decide_eq_true k1)]<|rQ (bP true) (bP (!kF s k)) (bM (by unfold kF;rw[Bool.eq_iff_iff];simp_all)))
  (fun k1=>chain [tB 5 (decide_eq_false k1),ar (s.ins+(s.ops.length:Int)) (by omega)]<|rQ (bP (decide ((s.ins+(s.ops.length:Int))<=k))) (bP (!kF s k)) (bM (by unfold kF;rw[Bool.eq_iff_iff];simp_all)))) (by kernel_rfl)
theorem SB(x:RI)(g:x.Good):ae 136 [(fE x)] (bP (!dE x)):=by
 have ga:=g.lo;have gb:=g.hi;by_cases ha:x.all=true
 .have e:dE x=false:=by unfold dE;rw[ha];simp
  rw[e];exact tr true Tryz.call136 Tryz.func136 (chain [tB 4 (ha:x.all=true)] <| .nil) (by kernel_rfl)
 .replace ha:x.all=false:=by simpa using ha
  by_cases h1:x.lo.Ok
  .by_cases h2:x.hi.Ok
   .have v1:=h1.valid
    have v2:=h2.valid;have e1:fE x=ai x.iv:=by rw[<-qw,show x.iv.raw=x by show RI.mk x.lo.dy.raw x.hi.dy.raw x.all=x;rw[h1.eq ga,h2.eq gb]]
    rw[e1];by_cases h3:aD x.lo.dy x.hi.dy<=0
    .have e:dE x=true:=by unfold dE;rw[gV.2 (.inr ⟨ha,h1,h2,h3⟩),ha];rfl
     rw[e];exact tr true Tryz.call136 Tryz.func136 (chain [tB 4 (ha:x.iv.all=false),.c (fg _ ‹_›:ae 68 [(ag x.iv.lo)] _),.c (fg _ ‹_›:ae 68 [(ag x.iv.hi)] _),
      .c (b9 _ _ ‹_› ‹_›:ae 37 [(ag x.iv.lo),(ag x.iv.hi)] _),tF 23 (0<(aD x.iv.lo x.iv.hi)) (by show ¬0<aD x.lo.dy x.hi.dy;omega)] <| .nil) (by kernel_rfl)
    .have e:dE x=false:=by unfold dE;rw[show okB x=false by simpa using fun q=>(gV.1 q).elim (fun q=>by rw[ha]at q;exact Bool.noConfusion q.1) fun q=>h3 q.2.2.2];rfl
     rw[e];exact tr true Tryz.call136 Tryz.func136 (chain [tB 4 (ha:x.iv.all=false),.c (fg _ ‹_›:ae 68 [(ag x.iv.lo)] _),.c (fg _ ‹_›:ae 68 [(ag x.iv.hi)] _),
      .c (b9 _ _ ‹_› ‹_›:ae 37 [(ag x.iv.lo),(ag x.iv.hi)] _),tT 23 (0<(aD x.iv.lo x.iv.hi)) (by show 0<aD x.lo.dy x.hi.dy;omega)] <| .nil) (by kernel_rfl)
   .have e:dE x=false:=by unfold dE;rw[show okB x=false by simpa using fun q=>(gV.1 q).elim (fun q=>by rw[ha]at q;exact Bool.noConfusion q.1) fun q=>h2 q.2.2.1];rfl
    rw[e];exact tr true Tryz.call136 Tryz.func136 (chain [tB 4 (ha:x.all=false),.c (nm _ ‹_› true (by simp[h1]):ae 68 [(cO x.lo)] _),.c (nm _ ‹_› false (by simp[h2]):ae 68 [(cO x.hi)] _)] <| .nil) (by kernel_rfl)
  .have e:dE x=false:=by unfold dE;rw[show okB x=false by simpa using fun q=>(gV.1 q).elim (fun q=>by rw[ha]at q;exact Bool.noConfusion q.1) fun q=>h1 q.2.1];rfl
   rw[e];exact tr true Tryz.call136 Tryz.func136 (chain [tB 4 (ha:x.all=false),.c (nm _ ‹_› false (by simp[h1]):ae 68 [(cO x.lo)] _)] <| .nil) (by kernel_rfl)
theorem II(x:RI)(g:x.Good):ae 83 [(fE x)] (bP (!dE x)):=by
 exact tr true Tryz.call83 Tryz.func83 (chain [.c (NV _ g:ae 84 [(fE x)] _)] <| .w (okB x=true)
  (fun k1=>chain [tB 4 (k1)]<|rQ (bP x.all) (bP (!dE x)) (bM (by unfold dE;simp_all)))
  (fun k1=>chain [tB 4 (Bool.eq_false_iff.2 k1)]<|rQ (bP true) (bP (!dE x)) (bM (by unfold dE;simp_all)))) (by kernel_rfl)
theorem xR(s:bk)(h0:0<=s.ins)(h8:s.ins<=8)(l2:s.ops.length<=200)(lu:s.outs.length<=200)(g:s.Good):ae 134 [bN s.outs,.fn 135 [(.ref 3 fun j_=>[(iP s.ins),(bK s.ops),(bN s.outs)].getD j_ .any)]] (bP (!kJ s)):=by
 have:=ND true s.outs.length (fun i _=>iP (s.outs.getD i 0)) 135 [(.ref 3 fun j_=>[(iP s.ins),(bK s.ops),(bN s.outs)].getD j_ .any)] (fun i=>!kF s (s.outs.getD i 0)) (fun i _=>Sz s g _ h0 h8 l2) (show s.outs.length<=1000000 by omega);rwa[Aj]at this
theorem En(f:FuncId)(l:List RI)(hf:∀ i,ae f [fE (l.getD i aR)] (bP (!dE (l.getD i aR))))(hl:l.length<=1000):ae 17 [bI l,.fn f []] (bP (!((List.range l.length).all fun i=>dE (l.getD i aR)))):=by
 have:=w9 true l.length (fun i j=>(lH (l.getD i aR)).getD j .any) f [] (fun i=>!dE (l.getD i aR)) (fun i _=>hf i) (show l.length<=1000000 by omega);rwa[Aj]at this
theorem SD(s:bk)(g:s.Good)(sm:s.Small)(hc:¬(0<=s.ins/\s.ins<=8/\s.ops.length<=200/\s.outs.length<=200)):ae 82 [(ct s)] (bP false):=by
 exact tr true Tryz.call82 Tryz.func82 (.w (s.ins<0)
  (fun k1=>chain [tB 10 (decide_eq_true k1)] <| .nil)
  (fun k1=>chain [tB 10 (decide_eq_false k1)] <| .w (8<s.ins)
   (fun k2=>chain [tB 14 (decide_eq_true k2)] <| .nil)
   (fun k2=>chain [tB 14 (decide_eq_false k2)] <| .w (200<(s.ops.length:Int))
    (fun k3=>chain [tB 20 (decide_eq_true k3)] <| .nil)
    (fun k3=>chain [tB 20 (decide_eq_false k3)] <| .w (200<(s.outs.length:Int))
     (fun k4=>chain [tB 26 (decide_eq_true k4)] <| .nil)
     (fun k4=>.x (by omega)))))) (by kernel_rfl)
theorem SE(s:bk)(g:s.Good)(sm:s.Small)(i0:0<=s.ins)(i8:s.ins<=8)(l1:s.ops.length<=200)(l2:s.outs.length<=200)(N:Nat)(hN0:N<s.ops.length)(hlo:∀ k,k<N->(aK (s.ops.getD k b6) (s.ins+(k:Int)))=true)(hN:(aK (s.ops.getD N b6) (s.ins+(N:Int)))=false):ae 82 [(ct s)] (bP false):=by
 exact tr true Tryz.call82 Tryz.func82 (chain [tF 10 (s.ins<0) (by omega),tF 14 (8<s.ins) (by omega),tF 20 (200<(s.ops.length:Int)) (by omega),tF 26 (200<(s.outs.length:Int)) (by omega),
  .s (Sp.upto (Fu s N) 0 N (by omega) (fun x hx hltx=>by
    have hgo:=g.ops x;exact aB (chain [tT 32 ((x:Int)<(s.ops.length:Int)) (by omega),iX ((x:Int)) (s.ops.length) (by omega),ar (s.ins+(x:Int)) (by omega),
     .c (qU _ _ hgo:ae 133 [(gn (s.ops.getD x b6)),(iP (s.ins+(x:Int)))] _),tB 42 (by rw[hlo x (by omega)];rfl:(!(aK (s.ops.getD x b6) (s.ins+(x:Int))))=false),
     ar ((x:Int)+1) (by omega)] <| .nil) (by kernel_rfl))
  (fun hx=>by
    have hgo:=g.ops N;exact aB (chain [tT 32 ((N:Int)<(s.ops.length:Int)) (by omega),iX ((N:Int)) (s.ops.length) (by omega),ar (s.ins+(N:Int)) (by omega),
    .c (qU _ _ hgo:ae 133 [(gn (s.ops.getD N b6)),(iP (s.ins+(N:Int)))] _),tB 42 (by rw[hN];rfl:(!(aK (s.ops.getD N b6) (s.ins+(N:Int))))=true)] <| .nil) (by kernel_rfl)) (by nofun):bD 5 Tryz.f82 (Fu s N 0) .ret ⟨85,true,[(2,.e (bP false))],[]⟩) .nil] <| .nil) (by kernel_rfl)
theorem SG(s:bk)(g:s.Good)(sm:s.Small)(i0:0<=s.ins)(i8:s.ins<=8)(l1:s.ops.length<=200)(l2:s.outs.length<=200)(hlo:∀ k,k<s.ops.length->(aK (s.ops.getD k b6) (s.ins+(k:Int)))=true)(hu:kJ s=false):ae 82 [(ct s)] (bP false):=by
 exact tr true Tryz.call82 Tryz.func82 (chain [tF 10 (s.ins<0) (by omega),tF 14 (8<s.ins) (by omega),tF 20 (200<(s.ops.length:Int)) (by omega),tF 26 (200<(s.outs.length:Int)) (by omega),
  .s (Sp.upto (Fv s) 0 s.ops.length (by omega) (fun x hx hltx=>by
    have hgo:=g.ops x;exact aB (chain [tT 32 ((x:Int)<(s.ops.length:Int)) (by omega),iX ((x:Int)) (s.ops.length) (by omega),ar (s.ins+(x:Int)) (by omega),
     .c (qU _ _ hgo:ae 133 [(gn (s.ops.getD x b6)),(iP (s.ins+(x:Int)))] _),tB 42 (by rw[hlo x (by omega)];rfl:(!(aK (s.ops.getD x b6) (s.ins+(x:Int))))=false),
     ar ((x:Int)+1) (by omega)] <| .nil) (by kernel_rfl))
  (fun hx=>by
    exact aB (chain [tF 32 ((s.ops.length:Int)<(s.ops.length:Int)) (by omega)] <| .nil) (by kernel_rfl)) (by nofun):bD 5 Tryz.f82 (Fv s 0) (.exit 0) ⟨85,true,[(3,.box 3 0),(1,.box 1 0)],[(3,.cells 25 [(iP s.ins),(bK s.ops),(bN s.outs)]),(1,.cells 28 [(iP s.ins),(bK s.ops),(bN s.outs),(iP s.au),(bI s.params)])]⟩) .nil,
  .c (xR s (by omega) (by omega) (by omega) (by omega) g:ae 134 [(bN s.outs),(.fn 135 [(.ref 3 fun j_=>[(iP s.ins),(bK s.ops),(bN s.outs)].getD j_ .any)])] _),tB 47 (by rw[hu];rfl:(!(kJ s))=true)] <| .nil) (by kernel_rfl)
theorem SH(s:bk)(g:s.Good)(sm:s.Small)(i0:0<=s.ins)(i8:s.ins<=8)(l1:s.ops.length<=200)(l2:s.outs.length<=200)(hlo:∀ k,k<s.ops.length->(aK (s.ops.getD k b6) (s.ins+(k:Int)))=true)(hu:kJ s=true)(hc:¬(1<=s.au/\s.au<=4/\(s.outs.length:Int)=s.au/\s.ins=s.au+(s.params.length:Int)/\s.params.length<=4)):ae 82 [(ct s)] (bP false):=by
 have sp:=sm.params;exact tr true Tryz.call82 Tryz.func82 (chain [tF 10 (s.ins<0) (by omega),tF 14 (8<s.ins) (by omega),tF 20 (200<(s.ops.length:Int)) (by omega),tF 26 (200<(s.outs.length:Int)) (by omega),
  .s (Sp.upto (Fw s) 0 s.ops.length (by omega) (fun x hx hltx=>by
    have hgo:=g.ops x;exact aB (chain [tT 32 ((x:Int)<(s.ops.length:Int)) (by omega),iX ((x:Int)) (s.ops.length) (by omega),ar (s.ins+(x:Int)) (by omega),
     .c (qU _ _ hgo:ae 133 [(gn (s.ops.getD x b6)),(iP (s.ins+(x:Int)))] _),tB 42 (by rw[hlo x (by omega)];rfl:(!(aK (s.ops.getD x b6) (s.ins+(x:Int))))=false),
     ar ((x:Int)+1) (by omega)] <| .nil) (by kernel_rfl))
  (fun hx=>by
    exact aB (chain [tF 32 ((s.ops.length:Int)<(s.ops.length:Int)) (by omega)] <| .nil) (by kernel_rfl)) (by nofun):bD 5 Tryz.f82 (Fw s 0) (.exit 0) ⟨85,true,[(3,.box 3 0),(1,.box 1 0)],[(3,.cells 25 [(iP s.ins),(bK s.ops),(bN s.outs)]),(1,.cells 28 [(iP s.ins),(bK s.ops),(bN s.outs),(iP s.au),(bI s.params)])]⟩) .nil,
  .c (xR s (by omega) (by omega) (by omega) (by omega) g:ae 134 [(bN s.outs),(.fn 135 [(.ref 3 fun j_=>[(iP s.ins),(bK s.ops),(bN s.outs)].getD j_ .any)])] _),tB 47 (by rw[hu];rfl:(!(kJ s))=false)] <| .w (s.au<1)
  (fun k1=>chain [tB 50 (decide_eq_true k1)] <| .nil)
  (fun k1=>chain [tB 50 (decide_eq_false k1)] <| .w (4<s.au)
   (fun k2=>chain [tB 54 (decide_eq_true k2)] <| .nil)
   (fun k2=>chain [tB 54 (decide_eq_false k2)] <| .w ((s.outs.length:Int)=s.au)
    (fun k3=>chain [tB 62 (bne_eq_false_iff_eq.2 k3),ar (s.au+(s.params.length:Int)) (by omega)] <| .w (s.ins=(s.au+(s.params.length:Int)))
     (fun k4=>chain [tB 73 (bne_eq_false_iff_eq.2 k4)] <| .w (4<(s.params.length:Int))
      (fun k5=>chain [tB 79 (decide_eq_true k5)] <| .nil)
      (fun k5=>.x (by omega)))
     (fun k4=>chain [tB 73 (bne_iff_ne.2 k4)] <| .nil))
    (fun k3=>chain [tB 62 (bne_iff_ne.2 k3)] <| .nil)))) (by kernel_rfl)
theorem SI(s:bk)(g:s.Good)(sm:s.Small)(i0:0<=s.ins)(i8:s.ins<=8)(l1:s.ops.length<=200)(l2:s.outs.length<=200)(hlo:∀ k,k<s.ops.length->(aK (s.ops.getD k b6) (s.ins+(k:Int)))=true)(hu:kJ s=true)(s1:1<=s.au)(s4:s.au<=4)(e1:(s.outs.length:Int)=s.au)(e2:s.ins=s.au+(s.params.length:Int))(p4:s.params.length<=4):ae 82 [(ct s)] (bP (pB s)):=by
 have sp:=sm.params;exact tr true Tryz.call82 Tryz.func82 (chain [tF 10 (s.ins<0) (by omega),tF 14 (8<s.ins) (by omega),tF 20 (200<(s.ops.length:Int)) (by omega),tF 26 (200<(s.outs.length:Int)) (by omega),
  .s (Sp.upto (Fx s) 0 s.ops.length (by omega) (fun x hx hltx=>by
    have hgo:=g.ops x;exact aB (chain [tT 32 ((x:Int)<(s.ops.length:Int)) (by omega),iX ((x:Int)) (s.ops.length) (by omega),ar (s.ins+(x:Int)) (by omega),
     .c (qU _ _ hgo:ae 133 [(gn (s.ops.getD x b6)),(iP (s.ins+(x:Int)))] _),tB 42 (by rw[hlo x (by omega)];rfl:(!(aK (s.ops.getD x b6) (s.ins+(x:Int))))=false),
     ar ((x:Int)+1) (by omega)] <| .nil) (by kernel_rfl))
  (fun hx=>by
    exact aB (chain [tF 32 ((s.ops.length:Int)<(s.ops.length:Int)) (by omega)] <| .nil) (by kernel_rfl)) (by nofun):bD 5 Tryz.f82 (Fx s 0) (.exit 0) ⟨85,true,[(3,.box 3 0),(1,.box 1 0)],[(3,.cells 25 [(iP s.ins),(bK s.ops),(bN s.outs)]),(1,.cells 28 [(iP s.ins),(bK s.ops),(bN s.outs),(iP s.au),(bI s.params)])]⟩) .nil,
  .c (xR s (by omega) (by omega) (by omega) (by omega) g:ae 134 [(bN s.outs),(.fn 135 [(.ref 3 fun j_=>[(iP s.ins),(bK s.ops),(bN s.outs)].getD j_ .any)])] _),tB 47 (by rw[hu];rfl:(!(kJ s))=false),
  tF 50 (s.au<1) (by omega),tF 54 (4<s.au) (by omega),tB 62 (by simp[e1]:((s.outs.length:Int) != s.au)=false),ar (s.au+(s.params.length:Int)) (by omega),
  tB 73 (by simp[e2]:(s.ins != (s.au+(s.params.length:Int)))=false),tF 79 (4<(s.params.length:Int)) (by omega),
  .c (En 136 s.params (fun i=>SB _ (g.params i)) (by omega):ae 17 [(bI s.params),(.fn 136 [])] _)]<|rQ (bP (!(!(pB s)))) (bP (pB s)) (bM (by simp))) (by kernel_rfl)
theorem Gf(s:bk)(g:s.Good)(sm:s.Small):ae 82 [ct s] (bP (cW s)):=by
 by_cases c1:0<=s.ins/\s.ins<=8/\s.ops.length<=200/\s.outs.length<=200
 rotate_left
 .rw [show cW s=false by unfold cW;rw[decide_eq_false c1];rfl]
  exact SD s g sm c1
 obtain⟨i0,i8,l1,l2⟩:=c1;by_cases c2:yE s=true
 rotate_left
 .rw [show cW s=false by unfold cW;rw[Bool.eq_false_iff.2 c2];simp]
  obtain⟨N,n1,n2,n3⟩:=pR c2;exact SE s g sm i0 i8 l1 l2 N n1 (fun k hk=>by simpa using n3 k hk) (by simpa using n2)
 have hlo:∀ k,k<s.ops.length->aK (s.ops.getD k b6) (s.ins+(k:Int))=true:=fun k hk=>List.all_eq_true.1 c2 k (List.mem_range.2 hk)
 cases hu:kJ s with
 | false =>
  rw[show cW s=false by unfold cW;rw[hu];simp];exact SG s g sm i0 i8 l1 l2 hlo hu
 | true =>
  by_cases c3:1<=s.au/\s.au<=4/\(s.outs.length:Int)=s.au/\s.ins=s.au+(s.params.length:Int)/\s.params.length<=4
  .rw [show cW s=pB s by unfold cW;rw[decide_eq_true (⟨i0,i8,l1,l2⟩:_/\_),c2,hu,decide_eq_true c3];simp]
   obtain⟨s1,s4,e1,e2,p4⟩:=c3;exact SI s g sm i0 i8 l1 l2 hlo hu s1 s4 e1 e2 p4
  .rw [show cW s=false by unfold cW;rw[decide_eq_false c3];simp]
   exact SH s g sm i0 i8 l1 l2 hlo hu c3
theorem AT(s:bk)(b:List RI)(gb:∀ i,(b.getD i aR).Good)(hbl:b.length<=1000):ae 42 [(ct s),(bI b)] (bP (gP s.au b)):=by
 exact tr true Tryz.call42 Tryz.func42 (.w ((b.length:Int)=s.au)
  (fun k1=>chain [tB 9 (beq_iff_eq.2 k1),.c (En 83 b (fun i=>II _ (gb i)) hbl:ae 17 [(bI b),(.fn 83 [])] _)]<|rQ (bP (!(!((List.range b.length).all fun i=>dE (b.getD i aR))))) (bP (gP s.au b)) (bM (by unfold gP;simp[k1])))
  (fun k1=>chain [tB 9 (beq_eq_false_iff_ne.2 k1)]<|rQ (bP false) (bP (gP s.au b)) (bM (by unfold gP;simp[k1])))) (by kernel_rfl)
theorem Mf(s:bk)(g:s.Good)(sm:s.Small)(x:List RI)(gx:∀ i,(x.getD i aR).Good)(hxl:x.length<=1000)(d:RD)(gd:d.Good)(p:Int)(hd:¬d.Ok):ae 41 [(ct s),(bI x),(cO d),(iP p)] (bP (df s x d p)):=by
 have hdk:kI d=false:=Bool.eq_false_iff.2 fun q=>hd (jH.1 q)
 exact tr true Tryz.call41 Tryz.func41 (chain [.c (Gf _ g sm:ae 82 [(ct s)] _)] <| .w (cW s=true)
  (fun k1=>chain [tB 10 (k1),.c (AT _ _ gx hxl:ae 42 [(ct s),(bI x)] _)] <| .w (gP s.au x=true)
   (fun k2=>chain [tB 14 (k2),.c (nm _ ‹_› false (by simp[hd]):ae 68 [(cO d)] _)]<|rQ (bP false) (bP (df s x d p)) (bM (by unfold df;simp[hdk,k1,k2])))
   (fun k2=>chain [tB 14 (Bool.eq_false_iff.2 k2)]<|rQ (bP false) (bP (df s x d p)) (bM (by unfold df;simp[hdk,k1,k2]))))
  (fun k1=>chain [tB 10 (Bool.eq_false_iff.2 k1)]<|rQ (bP false) (bP (df s x d p)) (bM (by unfold df;simp[hdk,k1])))) (by kernel_rfl)
theorem Mh(s:bk)(g:s.Good)(sm:s.Small)(x:List RI)(gx:∀ i,(x.getD i aR).Good)(hxl:x.length<=1000)(d:RD)(gd:d.Good)(p:Int)(hd:d.Ok):ae 41 [(ct s),(bI x),(ag d.dy),(iP p)] (bP (df s x d p)):=by
 have hdk:kI d=true:=jH.2 hd;have hv:=hd.valid;exact tr true Tryz.call41 Tryz.func41 (chain [.c (Gf _ g sm:ae 82 [(ct s)] _)] <| .w (cW s=true)
  (fun k1=>chain [tB 10 (k1),.c (AT _ _ gx hxl:ae 42 [(ct s),(bI x)] _)] <| .w (gP s.au x=true)
   (fun k2=>chain [tB 14 (k2),.c (fg _ ‹_›:ae 68 [(ag d.dy)] _),.c (dJ _ ‹_›:ae 35 [(ag d.dy)] _)] <| .w (0<(Dy.sign d.dy))
    (fun k3=>chain [tB 23 (decide_eq_true k3)] <| .w (8<=p)
     (fun k4=>chain [tB 27 (decide_eq_true k4)]<|rQ (bP (decide (p<=512))) (bP (df s x d p)) (bM (by unfold df;simp[hdk,k1,k2,k3,k4])))
     (fun k4=>chain [tB 27 (decide_eq_false k4)]<|rQ (bP false) (bP (df s x d p)) (bM (by unfold df;simp[hdk,k1,k2,k3,k4]))))
    (fun k3=>chain [tB 23 (decide_eq_false k3)]<|rQ (bP false) (bP (df s x d p)) (bM (by unfold df;simp[hdk,k1,k2,k3]))))
   (fun k2=>chain [tB 14 (Bool.eq_false_iff.2 k2)]<|rQ (bP false) (bP (df s x d p)) (bM (by unfold df;simp[hdk,k1,k2]))))
  (fun k1=>chain [tB 10 (Bool.eq_false_iff.2 k1)]<|rQ (bP false) (bP (df s x d p)) (bM (by unfold df;simp[hdk,k1])))) (by kernel_rfl)
theorem Mg(s:bk)(g:s.Good)(sm:s.Small)(x:List RI)(gx:∀ i,(x.getD i aR).Good)(hxl:x.length<=1000)(d:RD)(gd:d.Good)(p:Int):ae 41 [ct s,bI x,cO d,iP p] (bP (df s x d p)):=by
 by_cases hd:d.Ok
 .have:=Mh s g sm x gx hxl d gd p hd
  rwa[<-sP,hd.eq gd]at this
 .exact Mf s g sm x gx hxl d gd p hd
open Go.RowKit Fp Pu
theorem Ej{a b c d e f:Int}(ha:bG .i64 a)(hb:bG .i64 b)(hc:bG .i64 c)(hd:bG .i64 d)(he:bG .i64 e)(hf:bG .i64 f) :
  Tryz.prog.keyLits 10 99 [.int .i64 a,.int .i64 b,.int .i64 c,.int .i64 d,.int .i64 e,.int .i64 f]=some [.int .i64 a,.int .i64 b,.int .i64 c,.int .i64 d,.int .i64 e,.int .i64 f]:=by
 have c1:Tryz.prog.cellsOf 99=6:=by kernel_rfl
 have c2:Tryz.prog.cellsOf 3=1:=by kernel_rfl
 have c3:Tryz.prog.cellsOf 97=2:=by kernel_rfl
 have r:Tryz.prog.keyLits 9 97 [.int .i64 e,.int .i64 f]=some [.int .i64 e,.int .i64 f]:=by
  unfold Program.keyLits;rw[Tryz.underlying97];simp[c3,c2,List.mapM_cons,mB he,mB hf]
 unfold Program.keyLits;rw[Tryz.underlying99];simp[c1,c2,c3,List.mapM_cons,mB ha,mB hb,mB hc,mB hd,r]
theorem tV{a b c d e f a' b' c' d' e' f':Int}(ha:bG .i64 a)(hb:bG .i64 b)(hc:bG .i64 c)(hd:bG .i64 d)(he:bG .i64 e)(hf:bG .i64 f)
  (ha':bG .i64 a') (hb':bG .i64 b') (hc':bG .i64 c') (hd':bG .i64 d') (he':bG .i64 e') (hf':bG .i64 f') :
  eJ Tryz.prog .eql 99 (.agg [iP a,iP b,iP c,iP d,iP e,iP f]) (.agg [iP a',iP b',iP c',iP d',iP e',iP f']) (.bool (decide (a=a'/\b=b'/\c=c'/\d=d'/\e=e'/\f=f'))) :=
 Pq (Ej ha hb hc hd he hf) (Ej ha' hb' hc' hd' he' hf') (by kernel_rfl) (by kernel_rfl) rfl
theorem jb:bG .i64 0:=by unfold bG;decide
theorem Td{d:Int}(h0:0<=d)(h:d<=1073741824):IntKind.u64.wrap d=((d.natAbs:Nat):Int):=by rw[IntKind.wrap_u64];omega
open Go.RowKit Fp Pu
theorem Bt{a b:Nat}:0<=bH a b↔b<=a:=by
 unfold bH;split
 .simp;omega
 .split<;>simp<;>omega
theorem ED(m n:Nat)(hl:(af m).length<=1000)(hn:n<=65536):ae 148 [ah (af m),iP (n:Int)] (ah (af (m*2^n))) :=
 qY (cA m) Tryz.call148 (fun A c w h _=>QV A c (af m) n w h hl hn) fun A c B w e w' h hB r=>by rw[bc]at r;exact rl B w e w' hB r
theorem Qo(m n:Nat)(hl:(af m).length<=3000)(hn:(af n).length<=3000):ae 149 [ah (af m),ah (af n)] (ah (af (m+n))) :=
 mH (cA m) (cA n) Tryz.call149 (fun A c B d w h k _=>QY A B c d (af m) (af n) w h k hl hn) fun B w e w' hB r=>by rw[bc,bc]at r;exact rl B w e w' hB r
theorem EF(m n:Nat)(hl:(af m).length<=3000)(hn:n<=m):ae 151 [ah (af m),ah (af n)] (ah (af (m-n))) :=
 mH (cA m) (cA n) Tryz.call151 (fun A c B d w h k _=>QW A B c d (af m) (af n) w h k hl (cJ hn) (by rw[bc,bc];exact hn)) fun B w e w' hB r=>by rw[bc,bc]at r;exact rl B w e w' hB r
theorem Qn(m n:Nat)(hl:(af m).length<=3000)(hn:(af n).length<=3000):ae 150 [ah (af m),ah (af n)] (iP (bH m n)):=by
 refine mH (cA m) (cA n) Tryz.call150 (fun A c B d w h k _=>Ff A B c d (af m) (af n) w h k (jf _) (jf _) (by omega) (by omega)) ?_;rw[bc,bc];exact rv
theorem yy(a b:Dy)(ha:lY a)(hb:lY b):ae 98 [(ag a),(ag b)] (ag (av a b)):=by
 obtain⟨ha1,ha2,ha3⟩:=ha;obtain⟨hb1,hb2,hb3⟩:=hb;have ba:=nc ha1;have bb:=nc hb1;obtain⟨k,hk⟩:∃ k,min a.e b.e=k:=⟨_,rfl⟩
 exact tr true Tryz.call98 Tryz.func98 (.w ((((af a.m).length:Nat):Int)=0)
  (fun k1=>by
   have a0:a.m=0:=iC.1 (by omega);exact chain [tB 11 (beq_iff_eq.2 k1)]<|rQ (ag b) (ag (av a b)) (by rw[show av a b=b by unfold av;rw[if_pos a0]]))
  (fun k1=>by
   have a0:a.m≠0:=fun h=>k1 (by rw[iC.2 h];rfl)
   exact chain [tB 11 (beq_eq_false_iff_ne.2 k1)] <| .w ((((af b.m).length:Nat):Int)=0)
    (fun k2=>by
     have b0:b.m=0:=iC.1 (by omega);exact chain [tB 16 (beq_iff_eq.2 k2)]<|rQ (ag a) (ag (av a b)) (by rw[show av a b=a by unfold av;rw[if_neg a0,if_pos b0]]))
    (fun k2=>by
     have b0:b.m≠0:=fun h=>k2 (by rw[iC.2 h];rfl)
     have hX:(af (a.m*2^((a.e-k).toNat))).length<=1400:=en (by rw[fu a0];omega);have hY:(af (b.m*2^((b.e-k).toNat))).length<=1400:=en (by rw[fu b0];omega);have hP:=Ou hX hY;have hM:(af ((a.m*2^((a.e-k).toNat))-(b.m*2^((b.e-k).toNat)))).length<=1400:=Nat.le_trans (cJ (Nat.sub_le _ _)) hX
     have hN:(af ((b.m*2^((b.e-k).toNat))-(a.m*2^((a.e-k).toNat)))).length<=1400:=Nat.le_trans (cJ (Nat.sub_le _ _)) hY;exact chain [tB 16 (beq_eq_false_iff_ne.2 k2),.o 22 (.int (by rw[<-hk];split<;>omega):PV.le (.e (iP (if b.e<a.e then b.e else a.e))) (.e (iP k))),ar (a.e-k) (by omega),
      .o 28 (.int (by omega):PV.le (.e (iP (a.e-k))) (.e (iP ((((a.e-k).toNat):Nat):Int)))),.c (ED _ _ (by omega) (by omega):ae 148 [(ah (af a.m)),(iP ((((a.e-k).toNat):Nat):Int))] _),ar (b.e-k) (by omega),
      .o 35 (.int (by omega):PV.le (.e (iP (b.e-k))) (.e (iP ((((b.e-k).toNat):Nat):Int)))),.c (ED _ _ (by omega) (by omega):ae 148 [(ah (af b.m)),(iP ((((b.e-k).toNat):Nat):Int))] _)] <| .w (a.neg=b.neg)
      (fun k3=>chain [tB 41 (beq_iff_eq.2 k3),.c (Qo _ _ (by omega) (by omega):ae 149 [(ah (af (a.m*2^((a.e-k).toNat)))),(ah (af (b.m*2^((b.e-k).toNat))))] _),
       .c (yx _ _ _ (by omega) (by omega) (by omega):ae 76 [(bP a.neg),(ah (af ((a.m*2^((a.e-k).toNat))+(b.m*2^((b.e-k).toNat))))),(iP k)] _)]<|rQ (ag (canon a.neg ((a.m*2^((a.e-k).toNat))+(b.m*2^((b.e-k).toNat))) k)) (ag (av a b)) (by have h:=F9 (s:=a.neg) a0 b0 hk;rw[show(⟨a.neg,b.m,b.e⟩:Dy)=b by rw[k3]]at h;exact congrArg ag h.symm))
      (fun k3=>chain [tB 41 (beq_eq_false_iff_ne.2 k3),.c (Qn _ _ (by omega) (by omega):ae 150 [(ah (af (a.m*2^((a.e-k).toNat)))),(ah (af (b.m*2^((b.e-k).toNat))))] _)] <| .w (0<=(bH (a.m*2^((a.e-k).toNat)) (b.m*2^((b.e-k).toNat))))
       (fun k4=>by
        have hc:(b.m*2^((b.e-k).toNat))<=(a.m*2^((a.e-k).toNat)):=Bt.1 k4;exact chain [tB 52 (decide_eq_true k4),.c (EF _ _ (by omega) (by omega):ae 151 [(ah (af (a.m*2^((a.e-k).toNat)))),(ah (af (b.m*2^((b.e-k).toNat))))] _),
         .c (yx _ _ _ (by omega) (by omega) (by omega):ae 76 [(bP a.neg),(ah (af ((a.m*2^((a.e-k).toNat))-(b.m*2^((b.e-k).toNat))))),(iP k)] _)]<|rQ (ag (canon a.neg ((a.m*2^((a.e-k).toNat))-(b.m*2^((b.e-k).toNat))) k)) (ag (av a b)) (congrArg ag (F7 (s:=a.neg) (t:=b.neg) a0 b0 hk k3 hc).symm))
       (fun k4=>by
        have hc:(a.m*2^((a.e-k).toNat))<(b.m*2^((b.e-k).toNat)):=Nat.lt_of_not_le fun h=>k4 (Bt.2 h)
        exact chain [tB 52 (decide_eq_false k4),.c (EF _ _ (by omega) (by omega):ae 151 [(ah (af (b.m*2^((b.e-k).toNat)))),(ah (af (a.m*2^((a.e-k).toNat))))] _),
         .c (yx _ _ _ (by omega) (by omega) (by omega):ae 76 [(bP b.neg),(ah (af ((b.m*2^((b.e-k).toNat))-(a.m*2^((a.e-k).toNat))))),(iP k)] _)]<|rQ (ag (canon b.neg ((b.m*2^((b.e-k).toNat))-(a.m*2^((a.e-k).toNat))) k)) (ag (av a b)) (congrArg ag (F8 (s:=a.neg) (t:=b.neg) a0 b0 hk k3 hc).symm)))))) (by kernel_rfl)
theorem Fe(a b:Dy)(ha:lY a)(hb:lY b):ae 53 [(ag a),(ag b)] (iP (aD a b)):=by
 have hn:lY (aC b):=⟨hb.len,hb.lo,hb.hi⟩
 exact tr true Tryz.call53 Tryz.func53 (chain [.c (uh _:ae 47 [(ag a)] _),.c (uh _:ae 47 [(ag b)] _)] <| .w ((Dy.sign a)=(Dy.sign b))
  (fun k1=>chain [tB 13 (bne_eq_false_iff_eq.2 k1)] <| .w ((Dy.sign a)=0)
   (fun k2=>chain [tB 18 (beq_iff_eq.2 k2)]<|rQ (iP 0) (iP (aD a b)) (by rw[oH,if_neg (by simpa using k1),if_pos k2]))
   (fun k2=>chain [tB 18 (beq_eq_false_iff_ne.2 k2),.c (ui _ ha:ae 97 [(ag a)] _),.c (ui _ hb:ae 97 [(ag b)] _)] <| .w ((Dy.top a)=(Dy.top b))
    (fun k3=>chain [tB 23 (bne_eq_false_iff_eq.2 k3),.c (Fh _:ae 99 [(ag b)] _),.c (yy _ _ ha hn:ae 98 [(ag a),(ag (aC b))] _),.c (uh _:ae 47 [(ag (av a (aC b)))] _)]<|rQ (iP (Dy.sign (av a (aC b)))) (iP (aD a b)) (by rw[oH,if_neg (by simpa using k1),if_neg k2,if_neg (by simpa using k3)]))
    (fun k3=>chain [tB 23 (bne_iff_ne.2 k3),.c (ui _ ha:ae 97 [(ag a)] _),.c (ui _ hb:ae 97 [(ag b)] _)] <| .w ((decide ((Dy.top a)<(Dy.top b)))=(decide (0<(Dy.sign a))))
     (fun k4=>chain [tB 31 (beq_iff_eq.2 k4)]<|rQ (iP (-1)) (iP (aD a b)) (by rw[oH,if_neg (by simpa using k1),if_neg k2,if_pos k3,if_pos (by simpa using k4)]))
     (fun k4=>chain [tB 31 (beq_eq_false_iff_ne.2 k4)]<|rQ (iP 1) (iP (aD a b)) (by rw[oH,if_neg (by simpa using k1),if_neg k2,if_pos k3,if_neg (by simpa using k4)])))))
  (fun k1=>chain [tB 13 (bne_iff_ne.2 k1)] <| .w ((Dy.sign a)<(Dy.sign b))
   (fun k2=>chain [tB 16 (decide_eq_true k2)]<|rQ (iP (-1)) (iP (aD a b)) (by rw[oH,if_pos k1,if_pos k2]))
   (fun k2=>chain [tB 16 (decide_eq_false k2)]<|rQ (iP 1) (iP (aD a b)) (by rw[oH,if_pos k1,if_neg k2])))) (by kernel_rfl)
open Go.RowKit Fp Pu
def CF(a b:Nat)(x:Nat):PS:=⟨12,true,[(0,.e (.v (.int .u64 ((((cz a b x).1):Nat):Int)))),(1,.e (.v (.int .u64 ((((cz a b x).2):Nat):Int))))],[]⟩
def E3(s:bk)(N:Nat)(x:Nat):PS:=⟨131,true,[(4,.e (iP x)),(3,.box 3 0),(1,.box 1 0)],[(3,.cells 25 [(iP s.ins),(bK s.ops),(bN s.outs)]),(1,.cells 28 [(iP s.ins),(bK s.ops),(bN s.outs),(iP s.au),(bI s.params)])]⟩
def EV(s:bk)(x:Nat):PS:=⟨131,true,[(4,.e (iP x)),(3,.box 3 0),(1,.box 1 0)],[(3,.cells 25 [(iP s.ins),(bK s.ops),(bN s.outs)]),(1,.cells 28 [(iP s.ins),(bK s.ops),(bN s.outs),(iP s.au),(bI s.params)])]⟩
def E4(s:bk)(N:Nat)(x:Nat):PS:=⟨131,true,[(5,.e (iP x)),(3,.box 3 0),(1,.box 1 0)],[(3,.cells 25 [(iP s.ins),(bK s.ops),(bN s.outs)]),(1,.cells 28 [(iP s.ins),(bK s.ops),(bN s.outs),(iP s.au),(bI s.params)])]⟩
def EW(s:bk)(x:Nat):PS:=⟨131,true,[(4,.e (iP x)),(3,.box 3 0),(1,.box 1 0)],[(3,.cells 25 [(iP s.ins),(bK s.ops),(bN s.outs)]),(1,.cells 28 [(iP s.ins),(bK s.ops),(bN s.outs),(iP s.au),(bI s.params)])]⟩
def E5(s:bk)(N:Nat)(x:Nat):PS:=⟨131,true,[(5,.e (iP x)),(3,.box 3 0),(1,.box 1 0)],[(3,.cells 25 [(iP s.ins),(bK s.ops),(bN s.outs)]),(1,.cells 28 [(iP s.ins),(bK s.ops),(bN s.outs),(iP s.au),(bI s.params)])]⟩
def EX(s:bk)(x:Nat):PS:=⟨131,true,[(4,.e (iP x)),(3,.box 3 0),(1,.box 1 0)],[(3,.cells 25 [(iP s.ins),(bK s.ops),(bN s.outs)]),(1,.cells 28 [(iP s.ins),(bK s.ops),(bN s.outs),(iP s.au),(bI s.params)])]⟩
def E6(s:bk)(x:Nat):PS:=⟨131,true,[(5,.e (iP x)),(3,.box 3 0),(1,.box 1 0)],[(3,.cells 25 [(iP s.ins),(bK s.ops),(bN s.outs)]),(1,.cells 28 [(iP s.ins),(bK s.ops),(bN s.outs),(iP s.au),(bI s.params)])]⟩
def E7(s:bk)(N:Nat)(x:Nat):PS:=⟨131,true,[(6,.e (iP x)),(1,.box 1 0)],[(1,.cells 28 [(iP s.ins),(bK s.ops),(bN s.outs),(iP s.au),(bI s.params)])]⟩
def EY(s:bk)(x:Nat):PS:=⟨131,true,[(4,.e (iP x)),(3,.box 3 0),(1,.box 1 0)],[(3,.cells 25 [(iP s.ins),(bK s.ops),(bN s.outs)]),(1,.cells 28 [(iP s.ins),(bK s.ops),(bN s.outs),(iP s.au),(bI s.params)])]⟩
def E8(s:bk)(x:Nat):PS:=⟨131,true,[(5,.e (iP x)),(3,.box 3 0),(1,.box 1 0)],[(3,.cells 25 [(iP s.ins),(bK s.ops),(bN s.outs)]),(1,.cells 28 [(iP s.ins),(bK s.ops),(bN s.outs),(iP s.au),(bI s.params)])]⟩
def E9(s:bk)(N:Nat)(x:Nat):PS:=⟨131,true,[(6,.e (iP x)),(1,.box 1 0)],[(1,.cells 28 [(iP s.ins),(bK s.ops),(bN s.outs),(iP s.au),(bI s.params)])]⟩
def EZ(s:bk)(x:Nat):PS:=⟨131,true,[(4,.e (iP x)),(3,.box 3 0),(1,.box 1 0)],[(3,.cells 25 [(iP s.ins),(bK s.ops),(bN s.outs)]),(1,.cells 28 [(iP s.ins),(bK s.ops),(bN s.outs),(iP s.au),(bI s.params)])]⟩
def Fa(s:bk)(x:Nat):PS:=⟨131,true,[(5,.e (iP x)),(3,.box 3 0),(1,.box 1 0)],[(3,.cells 25 [(iP s.ins),(bK s.ops),(bN s.outs)]),(1,.cells 28 [(iP s.ins),(bK s.ops),(bN s.outs),(iP s.au),(bI s.params)])]⟩
def Fb(s:bk)(x:Nat):PS:=⟨131,true,[(6,.e (iP x)),(1,.box 1 0)],[(1,.cells 28 [(iP s.ins),(bK s.ops),(bN s.outs),(iP s.au),(bI s.params)])]⟩
def Ew(s:bk)(b:List RI)(N:Nat)(x:Nat):PS:=⟨35,true,[(5,.e (iP x)),(1,.e (bI b))],[]⟩
def Ey(s:bk)(b:List RI)(N:Nat)(x:Nat):PS:=⟨35,true,[(5,.e (iP x)),(1,.e (bI b))],[]⟩
def Ez(s:bk)(b:List RI)(x:Nat):PS:=⟨35,true,[(5,.e (iP x)),(1,.e (bI b))],[]⟩
theorem Mw(a b N:Nat)(ha:a<18446744073709551616)(hb:b<18446744073709551616)(hlo:∀ k,k<N->(cz a b k).2≠0)(hN:(cz a b N).2=0):ae 182 [(.v (.int .u64 (a:Int))),(.v (.int .u64 (b:Int)))] (.v (.int .u64 ((((cz a b N).1):Nat):Int))):=by
 exact tr true Tryz.call182 Tryz.func182 (chain [.s (Sp.upto (CF a b) 0 N (by omega) (fun x hx hltx=>by
    have hb0:=hlo x (by omega);exact aB (chain [tB 6 (DU (hlo x (by omega)):(((((cz a b x).2):Nat):Int) != 0)=true),.a (by omega:0<(((((cz a b x).2):Nat):Int):Int))] <| .e (chain [.o 0 (.int (by first|rfl|omega|(simp only[Nat.add_mul,Nat.one_mul];omega)):PV.le (.e (.v (.int .u64 ((((cz a b x).2):Nat):Int)))) (.e (.v (.int .u64 ((((cz a b (x+1)).1):Nat):Int))))),
  .o 1 (.int (by first|rfl|omega|(simp only[Nat.add_mul,Nat.one_mul];omega)):PV.le (.e (.v (.int .u64 (((((cz a b x).1)%((cz a b x).2)):Nat):Int)))) (.e (.v (.int .u64 ((((cz a b (x+1)).2):Nat):Int)))))] <| .nil)) (by kernel_rfl))
  (fun hx=>by
    exact aB (chain [tB 6 (DT hN:(((((cz a b N).2):Nat):Int) != 0)=false)] <| .nil) (by kernel_rfl)) (by nofun):bD 1 Tryz.f182 (CF a b 0) (.exit 0) ⟨12,true,[(0,.e (.v (.int .u64 ((((cz a b N).1):Nat):Int))))],[]⟩) (chain [.o 0 (.int (by first|rfl|omega|(simp only[Nat.add_mul,Nat.one_mul];omega)):PV.le (.e (.v (.int .u64 (a:Int)))) (.e (.v (.int .u64 ((((cz a b 0).1):Nat):Int))))),
  .o 1 (.int (by first|rfl|omega|(simp only[Nat.add_mul,Nat.one_mul];omega)):PV.le (.e (.v (.int .u64 (b:Int)))) (.e (.v (.int .u64 ((((cz a b 0).2):Nat):Int)))))] <| .nil)] <| .nil) (by kernel_rfl)
theorem Mx(a b:Nat)(ha:a<18446744073709551616)(hb:b<18446744073709551616):ae 182 [(.v (.int .u64 (a:Int))),(.v (.int .u64 (b:Int)))] (.v (.int .u64 (((Nat.gcd a b):Nat):Int))):=by
 obtain⟨N,h1,h2⟩:=Cf b a;have hg:=wh a b N;rw[h2,Nat.gcd_zero_right]at hg;rw[<-hg];exact Mw a b N ha hb h1 h2
theorem R8(m:Nat)(h:m<=1073741824):ae 183 [(iP m)] (.v (.int .u64 (m:Int))):=by
 exact tr true Tryz.call183 Tryz.func183 (chain [tF 4 ((m:Int)<0) (by omega),.o 11 (.int (fW _ (by omega)):PV.le (.e (.v (.int .u64 (IntKind.u64.wrap (m:Int))))) (.e (.v (.int .u64 (m:Int)))))] <| .nil) (by kernel_rfl)
theorem R6(m:Nat)(h0:0<m)(h:m<=1073741824):ae 183 [(iP (-(m:Int)))] (.v (.int .u64 (m:Int))):=by
 exact tr true Tryz.call183 Tryz.func183 (chain [tT 4 ((-(m:Int))<0) (by omega),ar ((-(m:Int))+1) (by omega),ar (0-((-(m:Int))+1)) (by omega),
  .o 7 (.int (by omega):PV.le (.e (iP (0-((-(m:Int))+1)))) (.e (iP (((m-1):Nat):Int)))),
  .o 8 (.int (fW _ (by omega)):PV.le (.e (.v (.int .u64 (IntKind.u64.wrap (((m-1):Nat):Int))))) (.e (.v (.int .u64 (((m-1):Nat):Int))))),mN ((((m-1):Nat):Int)+1) (by omega)]<|rQ (.v (.int .u64 ((((m-1)+1):Nat):Int))) (.v (.int .u64 (m:Int))) (by rw[show m-1+1=m by omega])) (by kernel_rfl)
theorem R7(n:Int)(h1:-1073741824<=n)(h2:n<=1073741824):ae 183 [iP n] (.v (.int .u64 (n.natAbs:Int))):=by
 by_cases h:0<=n
 .obtain ⟨m,rfl⟩:=Int.eq_ofNat_of_zero_le h
  exact R8 m (by omega)
 .obtain ⟨m,rfl⟩:∃ m:Nat,n = -(m:Int):=⟨n.natAbs,by omega⟩
  rw[Int.natAbs_neg,Int.natAbs_natCast];exact R6 m (by omega) (by omega)
theorem Qw(n d:Int):ae 146 [(.agg [(iP n),(iP d)])] (bP (dm n d)):=by
 exact tr true Tryz.call146 Tryz.func146 (.w (1<=d)
  (fun k1=>chain [tB 5 (decide_eq_true k1)] <| .w (d<=1073741824)
   (fun k2=>chain [tB 9 (decide_eq_true k2)] <| .w ((-1073741824)<=n)
    (fun k3=>chain [tB 14 (decide_eq_true k3)] <| .w (n<=1073741824)
     (fun k4=>chain [tB 19 (decide_eq_true k4),.c (R7 _ (by omega) (by omega):ae 183 [(iP n)] _),.o 27 (.int (Td (by omega) (by omega)):PV.le (.e (.v (.int .u64 (IntKind.u64.wrap d)))) (.e (.v (.int .u64 (((Int.natAbs d):Nat):Int))))),
      .c (Mx _ _ (by omega) (by omega):ae 182 [(.v (.int .u64 (((Int.natAbs n):Nat):Int))),(.v (.int .u64 (((Int.natAbs d):Nat):Int)))] _)]<|rQ (bP ((((Nat.gcd (Int.natAbs n) (Int.natAbs d)):Nat):Int)==1)) (bP (dm n d)) (by unfold dm;simp[kE,k1,k2,k3,k4]))
     (fun k4=>chain [tB 19 (decide_eq_false k4)]<|rQ (bP false) (bP (dm n d)) (by unfold dm;simp[kE,k1,k2,k3,k4])))
    (fun k3=>chain [tB 14 (decide_eq_false k3)]<|rQ (bP false) (bP (dm n d)) (by unfold dm;simp[kE,k1,k2,k3])))
   (fun k2=>chain [tB 9 (decide_eq_false k2)]<|rQ (bP false) (bP (dm n d)) (by unfold dm;simp[kE,k1,k2])))
  (fun k1=>chain [tB 5 (decide_eq_false k1)]<|rQ (bP false) (bP (dm n d)) (by unfold dm;simp[kE,k1]))) (by kernel_rfl)
theorem nO(o:ep)(m:Int)(g:o.Good):ae 95 [(gn o),(iP m)] (bP (aK o m)):=by
 exact tr true Tryz.call95 Tryz.func95 (.w (o.kind=1)
  (fun k1=>chain [tB 13 (beq_iff_eq.2 k1),.c (Qw _ _:ae 146 [(.agg [(iP o.cn),(iP o.cd)])] _)] <| .w (dm o.cn o.cd=true)
   (fun k2=>chain [tB 19 (k2),tB 47 (by decide:(decide ((0:Int)<0))=false),tB 52 (by decide:(decide ((1:Int)<0))=false),
    .g (tV g.kind g.a g.b g.n g.cn g.cd g.kind jb jb jb g.cn g.cd:eJ Tryz.prog .eql 99 (gn o) (.agg [(iP o.kind),(iP 0),(iP 0),(iP 0),(iP o.cn),(iP o.cd)]) (.bool (decide (o.kind=o.kind/\o.a=0/\o.b=0/\o.n=0/\o.cn=o.cn/\o.cd=o.cd))))] <| .w (o.kind=o.kind/\o.a=0/\o.b=0/\o.n=0/\o.cn=o.cn/\o.cd=o.cd)
    (fun k3=>chain [tB 58 (decide_eq_true k3),tB 61 (by decide:((0:Int)==0)=true)]<|rQ (bP true) (bP (aK o m)) (bM (by simp_all[aK,cM]<;>(repeat' split)<;>intros<;>omega)))
    (fun k3=>chain [tB 58 (decide_eq_false k3)]<|rQ (bP false) (bP (aK o m)) (bM (by simp_all[aK,cM]<;>(repeat' split)<;>intros<;>omega))))
   (fun k2=>chain [tB 19 (Bool.eq_false_iff.2 k2)]<|rQ (bP false) (bP (aK o m)) (bM (by simp_all[aK,cM]<;>(repeat' split)<;>intros<;>omega))))
  (fun k1=>chain [tB 13 (beq_eq_false_iff_ne.2 k1),
   .j 42 ⟨85,true,[(21,.e (bP (decide (3<=o.kind/\o.kind<=6)))),(11,.e (iP o.kind)),(6,.box 6 0),(2,.box 2 0),(1,.e (iP m))],[(6,.cells 99 [(iP o.kind),(iP 0),(iP 0),(iP 0),(iP 0),(iP 0)]),(2,.cells 99 [(iP o.kind),(iP o.a),(iP o.b),(iP o.n),(iP o.cn),(iP o.cd)])]⟩
   (.w (o.kind=3)
    (fun m1=>chain [.v 21 (.bool (beq_iff_eq.2 m1))] <| .e (chain [tB 21 (bW (by simp<;>omega):true=(decide (3<=o.kind/\o.kind<=6)))] <| .nil))
    (fun m1=>chain [.v 21 (.bool (beq_eq_false_iff_ne.2 m1))] <| .w (o.kind=4)
     (fun m2=>chain [tB 23 (beq_iff_eq.2 m2)] <| .e (chain [tB 21 (bW (by simp<;>omega):true=(decide (3<=o.kind/\o.kind<=6)))] <| .nil))
     (fun m2=>chain [tB 23 (beq_eq_false_iff_ne.2 m2)] <| .w (o.kind=5)
      (fun m3=>chain [tB 24 (beq_iff_eq.2 m3)] <| .e (chain [tB 21 (bW (by simp<;>omega):true=(decide (3<=o.kind/\o.kind<=6)))] <| .nil))
      (fun m3=>chain [tB 24 (beq_eq_false_iff_ne.2 m3)] <| .e (chain [tB 21 (bW (by simp<;>omega):(o.kind==6)=(decide (3<=o.kind/\o.kind<=6)))] <| .nil)))))] <| .w (3<=o.kind/\o.kind<=6)
   (fun k2=>chain [.v 21 (.bool (decide_eq_true k2)),tB 47 (by decide:(decide ((0:Int)<2))=true),tB 52 (by decide:(decide ((1:Int)<2))=true),
    .g (tV g.kind g.a g.b g.n g.cn g.cd g.kind g.a g.b jb jb jb:eJ Tryz.prog .eql 99 (gn o) (.agg [(iP o.kind),(iP o.a),(iP o.b),(iP 0),(iP 0),(iP 0)]) (.bool (decide (o.kind=o.kind/\o.a=o.a/\o.b=o.b/\o.n=0/\o.cn=0/\o.cd=0))))] <| .w (o.kind=o.kind/\o.a=o.a/\o.b=o.b/\o.n=0/\o.cn=0/\o.cd=0)
    (fun k3=>chain [tB 58 (decide_eq_true k3),tB 61 (by decide:((2:Int)==0)=false)] <| .w (0<=o.a)
     (fun k4=>chain [tB 65 (decide_eq_true k4)] <| .w (o.a<m)
      (fun k5=>chain [tB 70 (decide_eq_true k5)] <| .w (0<=o.b)
       (fun k6=>chain [tB 75 (decide_eq_true k6)]<|rQ (bP (decide (o.b<m))) (bP (aK o m)) (bM (by simp_all[aK,cM]<;>(repeat' split)<;>intros<;>omega)))
       (fun k6=>chain [tB 75 (decide_eq_false k6)]<|rQ (bP false) (bP (aK o m)) (bM (by simp_all[aK,cM]<;>(repeat' split)<;>intros<;>omega))))
      (fun k5=>chain [tB 70 (decide_eq_false k5)]<|rQ (bP false) (bP (aK o m)) (bM (by simp_all[aK,cM]<;>(repeat' split)<;>intros<;>omega))))
     (fun k4=>chain [tB 65 (decide_eq_false k4)]<|rQ (bP false) (bP (aK o m)) (bM (by simp_all[aK,cM]<;>(repeat' split)<;>intros<;>omega))))
    (fun k3=>chain [tB 58 (decide_eq_false k3)]<|rQ (bP false) (bP (aK o m)) (bM (by simp_all[aK,cM]<;>(repeat' split)<;>intros<;>omega))))
   (fun k2=>chain [.v 21 (.bool (decide_eq_false k2)),
    .j 52 ⟨85,true,[(26,.e (bP (decide (o.kind=7\/9<=o.kind/\o.kind<=13)))),(11,.e (iP o.kind)),(6,.box 6 0),(2,.box 2 0),(1,.e (iP m))],[(6,.cells 99 [(iP o.kind),(iP 0),(iP 0),(iP 0),(iP 0),(iP 0)]),(2,.cells 99 [(iP o.kind),(iP o.a),(iP o.b),(iP o.n),(iP o.cn),(iP o.cd)])]⟩
   (.w (o.kind=7)
    (fun m1=>chain [.v 26 (.bool (beq_iff_eq.2 m1))] <| .e (chain [tB 26 (bW (by simp<;>omega):true=(decide (o.kind=7\/9<=o.kind/\o.kind<=13)))] <| .nil))
    (fun m1=>chain [.v 26 (.bool (beq_eq_false_iff_ne.2 m1))] <| .w (o.kind=9)
     (fun m2=>chain [tB 28 (beq_iff_eq.2 m2)] <| .e (chain [tB 26 (bW (by simp<;>omega):true=(decide (o.kind=7\/9<=o.kind/\o.kind<=13)))] <| .nil))
     (fun m2=>chain [tB 28 (beq_eq_false_iff_ne.2 m2)] <| .w (o.kind=10)
      (fun m3=>chain [tB 29 (beq_iff_eq.2 m3)] <| .e (chain [tB 26 (bW (by simp<;>omega):true=(decide (o.kind=7\/9<=o.kind/\o.kind<=13)))] <| .nil))
      (fun m3=>chain [tB 29 (beq_eq_false_iff_ne.2 m3)] <| .w (o.kind=11)
       (fun m4=>chain [tB 30 (beq_iff_eq.2 m4)] <| .e (chain [tB 26 (bW (by simp<;>omega):true=(decide (o.kind=7\/9<=o.kind/\o.kind<=13)))] <| .nil))
       (fun m4=>chain [tB 30 (beq_eq_false_iff_ne.2 m4)] <| .w (o.kind=12)
        (fun m5=>chain [tB 31 (beq_iff_eq.2 m5)] <| .e (chain [tB 26 (bW (by simp<;>omega):true=(decide (o.kind=7\/9<=o.kind/\o.kind<=13)))] <| .nil))
        (fun m5=>chain [tB 31 (beq_eq_false_iff_ne.2 m5)] <| .e (chain [tB 26 (bW (by simp<;>omega):(o.kind==13)=(decide (o.kind=7\/9<=o.kind/\o.kind<=13)))] <| .nil)))))))] <| .w (o.kind=7\/9<=o.kind/\o.kind<=13)
    (fun k3=>chain [.v 26 (.bool (decide_eq_true k3)),tB 47 (by decide:(decide ((0:Int)<1))=true),tB 52 (by decide:(decide ((1:Int)<1))=false),
     .g (tV g.kind g.a g.b g.n g.cn g.cd g.kind g.a jb jb jb jb:eJ Tryz.prog .eql 99 (gn o) (.agg [(iP o.kind),(iP o.a),(iP 0),(iP 0),(iP 0),(iP 0)]) (.bool (decide (o.kind=o.kind/\o.a=o.a/\o.b=0/\o.n=0/\o.cn=0/\o.cd=0))))] <| .w (o.kind=o.kind/\o.a=o.a/\o.b=0/\o.n=0/\o.cn=0/\o.cd=0)
     (fun k4=>chain [tB 58 (decide_eq_true k4),tB 61 (by decide:((1:Int)==0)=false)] <| .w (0<=o.a)
      (fun k5=>chain [tB 65 (decide_eq_true k5)] <| .w (o.a<m)
       (fun k6=>chain [tB 70 (decide_eq_true k6)] <| .w (0<=o.b)
        (fun k7=>chain [tB 75 (decide_eq_true k7)]<|rQ (bP (decide (o.b<m))) (bP (aK o m)) (bM (by simp_all[aK,cM]<;>(repeat' split)<;>intros<;>omega)))
        (fun k7=>chain [tB 75 (decide_eq_false k7)]<|rQ (bP false) (bP (aK o m)) (bM (by simp_all[aK,cM]<;>(repeat' split)<;>intros<;>omega))))
       (fun k6=>chain [tB 70 (decide_eq_false k6)]<|rQ (bP false) (bP (aK o m)) (bM (by simp_all[aK,cM]<;>(repeat' split)<;>intros<;>omega))))
      (fun k5=>chain [tB 65 (decide_eq_false k5)]<|rQ (bP false) (bP (aK o m)) (bM (by simp_all[aK,cM]<;>(repeat' split)<;>intros<;>omega))))
     (fun k4=>chain [tB 58 (decide_eq_false k4)]<|rQ (bP false) (bP (aK o m)) (bM (by simp_all[aK,cM]<;>(repeat' split)<;>intros<;>omega))))
    (fun k3=>chain [.v 26 (.bool (decide_eq_false k3))] <| .w (o.kind=8)
     (fun k4=>chain [tB 34 (beq_iff_eq.2 k4)] <| .w (o.n<0)
      (fun k5=>chain [tB 40 (decide_eq_true k5)]<|rQ (bP false) (bP (aK o m)) (bM (by simp_all[aK,cM]<;>(repeat' split)<;>intros<;>omega)))
      (fun k5=>chain [tB 40 (decide_eq_false k5)] <| .w (16<o.n)
       (fun k6=>chain [tB 44 (decide_eq_true k6)]<|rQ (bP false) (bP (aK o m)) (bM (by simp_all[aK,cM]<;>(repeat' split)<;>intros<;>omega)))
       (fun k6=>chain [tB 44 (decide_eq_false k6),tB 47 (by decide:(decide ((0:Int)<1))=true),tB 52 (by decide:(decide ((1:Int)<1))=false),
        .g (tV g.kind g.a g.b g.n g.cn g.cd g.kind g.a jb g.n jb jb:eJ Tryz.prog .eql 99 (gn o) (.agg [(iP o.kind),(iP o.a),(iP 0),(iP o.n),(iP 0),(iP 0)]) (.bool (decide (o.kind=o.kind/\o.a=o.a/\o.b=0/\o.n=o.n/\o.cn=0/\o.cd=0))))] <| .w (o.kind=o.kind/\o.a=o.a/\o.b=0/\o.n=o.n/\o.cn=0/\o.cd=0)
        (fun k7=>chain [tB 58 (decide_eq_true k7),tB 61 (by decide:((1:Int)==0)=false)] <| .w (0<=o.a)
         (fun k8=>chain [tB 65 (decide_eq_true k8)] <| .w (o.a<m)
          (fun k9=>chain [tB 70 (decide_eq_true k9)] <| .w (0<=o.b)
           (fun k10=>chain [tB 75 (decide_eq_true k10)]<|rQ (bP (decide (o.b<m))) (bP (aK o m)) (bM (by simp_all[aK,cM]<;>(repeat' split)<;>intros<;>omega)))
           (fun k10=>chain [tB 75 (decide_eq_false k10)]<|rQ (bP false) (bP (aK o m)) (bM (by simp_all[aK,cM]<;>(repeat' split)<;>intros<;>omega))))
          (fun k9=>chain [tB 70 (decide_eq_false k9)]<|rQ (bP false) (bP (aK o m)) (bM (by simp_all[aK,cM]<;>(repeat' split)<;>intros<;>omega))))
         (fun k8=>chain [tB 65 (decide_eq_false k8)]<|rQ (bP false) (bP (aK o m)) (bM (by simp_all[aK,cM]<;>(repeat' split)<;>intros<;>omega))))
        (fun k7=>chain [tB 58 (decide_eq_false k7)]<|rQ (bP false) (bP (aK o m)) (bM (by simp_all[aK,cM]<;>(repeat' split)<;>intros<;>omega))))))
     (fun k4=>chain [tB 34 (beq_eq_false_iff_ne.2 k4)]<|rQ (bP false) (bP (aK o m)) (bM (by simp_all[aK,cM]<;>(repeat' split)<;>intros<;>omega))))))) (by kernel_rfl)
theorem DR(L:List Nat):((L.length:Int)=0)↔L=[]:=by rw[<-List.length_eq_zero_iff];omega
def zB(d:RD):Bool:=!d.neg&&decide (d.L=[])&&(d.e==0)
theorem rT{d:RD}:zB d=true↔d.Zero:=by simp[zB,RD.Zero,and_assoc]
theorem rk(d:RD):ae 52 [(cO d)] (bP (zB d)):=by
 exact tr true Tryz.call52 Tryz.func52 (.w (d.neg=true)
  (fun k1=>chain [tB 4 (k1)]<|rQ (bP false) (bP (zB d)) (by simp[zB,k1]))
  (fun k1=>chain [tB 4 (Bool.eq_false_iff.2 k1)] <| .w ((d.L.length:Int)=0)
   (fun k2=>chain [tB 10 (beq_iff_eq.2 k2)]<|rQ (bP (d.e==0)) (bP (zB d)) (by simp[zB,k1,show d.L=[]from(DR _).1 k2]))
   (fun k2=>chain [tB 10 (beq_eq_false_iff_ne.2 k2)]<|rQ (bP false) (bP (zB d)) (by simp[zB,k1,show ¬d.L=[]from fun q=>k2 ((DR _).2 q)])))) (by kernel_rfl)
theorem lG(x:RI)(g:x.Good):ae 19 [(fE x)] (bP (okB x)):=by
 have ga:=g.lo;have gb:=g.hi;by_cases ha:x.all=true
 .have nb:∀ q:x.all=false,False:=fun q=>by rw[ha]at q;cases q
  by_cases h1:x.lo.Zero
  .by_cases h2:x.hi.Zero
   .rw [gV.2 (.inl ⟨ha,h1,h2⟩)]
    exact tr true Tryz.call19 Tryz.func19 (chain [tB 4 (ha:x.all=true),.c (rk _:ae 52 [(cO x.lo)] _),tB 7 (rT.2 h1:(zB x.lo)=true),.c (rk _:ae 52 [(cO x.hi)] _),tB 11 (rT.2 h2:(zB x.hi)=true)] <| .nil) (by kernel_rfl)
   .have e:okB x=false:=by simpa using fun q=>(gV.1 q).elim (fun q=>h2 q.2.2) fun q=>nb q.1
    rw[e];exact tr true Tryz.call19 Tryz.func19 (chain [tB 4 (ha:x.all=true),.c (rk _:ae 52 [(cO x.lo)] _),tB 7 (rT.2 h1:(zB x.lo)=true),.c (rk _:ae 52 [(cO x.hi)] _),tB 11 (Bool.eq_false_iff.2 fun q=>h2 (rT.1 q):(zB x.hi)=false)] <| .nil) (by kernel_rfl)
  .have e:okB x=false:=by simpa using fun q=>(gV.1 q).elim (fun q=>h1 q.2.1) fun q=>nb q.1
   rw[e];exact tr true Tryz.call19 Tryz.func19 (chain [tB 4 (ha:x.all=true),.c (rk _:ae 52 [(cO x.lo)] _),tB 7 (Bool.eq_false_iff.2 fun q=>h1 (rT.1 q):(zB x.lo)=false)] <| .nil) (by kernel_rfl)
 .replace ha:x.all=false:=by simpa using ha
  by_cases h1:x.lo.Ok
  .by_cases h2:x.hi.Ok
   .have v1:=h1.valid
    have v2:=h2.valid;have e1:fE x=ai x.iv:=by rw[<-qw,show x.iv.raw=x by show RI.mk x.lo.dy.raw x.hi.dy.raw x.all=x;rw[h1.eq ga,h2.eq gb]]
    rw[e1];by_cases h3:aD x.lo.dy x.hi.dy<=0
    .rw [gV.2 (.inr ⟨ha,h1,h2,h3⟩)]
     exact tr true Tryz.call19 Tryz.func19 (chain [tB 4 (ha:x.iv.all=false),.c (ja _ ‹_›:ae 46 [(ag x.iv.lo)] _),.c (ja _ ‹_›:ae 46 [(ag x.iv.hi)] _),.c (Fe x.iv.lo x.iv.hi v1.mE v2.mE),tB 27 (decide_eq_true h3)] <| .nil) (by kernel_rfl)
    .have e:okB x=false:=by simpa using fun q=>(gV.1 q).elim (fun q=>by rw[ha]at q;exact Bool.noConfusion q.1) fun q=>h3 q.2.2.2
     rw[e];exact tr true Tryz.call19 Tryz.func19 (chain [tB 4 (ha:x.iv.all=false),.c (ja _ ‹_›:ae 46 [(ag x.iv.lo)] _),.c (ja _ ‹_›:ae 46 [(ag x.iv.hi)] _),.c (Fe x.iv.lo x.iv.hi v1.mE v2.mE),tB 27 (decide_eq_false h3)] <| .nil) (by kernel_rfl)
   .have e:okB x=false:=by simpa using fun q=>(gV.1 q).elim (fun q=>by rw[ha]at q;exact Bool.noConfusion q.1) fun q=>h2 q.2.2.1
    rw[e];exact tr true Tryz.call19 Tryz.func19 (chain [tB 4 (ha:x.all=false),.c (rp _ ‹_› _ jH:ae 46 [(cO x.lo)] _),tB 15 (jH.2 h1:(kI x.lo)=true),.c (rp _ ‹_› _ jH:ae 46 [(cO x.hi)] _),
     tB 19 (Bool.eq_false_iff.2 fun q=>h2 (jH.1 q):(kI x.hi)=false)] <| .nil) (by kernel_rfl)
  .have e:okB x=false:=by simpa using fun q=>(gV.1 q).elim (fun q=>by rw[ha]at q;exact Bool.noConfusion q.1) fun q=>h1 q.2.1
   rw[e];exact tr true Tryz.call19 Tryz.func19 (chain [tB 4 (ha:x.all=false),.c (rp _ ‹_› _ jH:ae 46 [(cO x.lo)] _),tB 15 (Bool.eq_false_iff.2 fun q=>h1 (jH.1 q):(kI x.lo)=false)] <| .nil) (by kernel_rfl)
theorem P7(s:bk)(g:s.Good)(sm:s.Small)(hc:¬(0<=s.ins/\s.ins<=8/\s.ops.length<=200/\s.outs.length<=200/\1<=s.au/\s.au<=4/\(s.outs.length:Int)=s.au/\s.params.length<=4/\s.ins=s.au+(s.params.length:Int))):ae 49 [(ct s)] (bP false):=by
 have sp:=sm.params;have so:=sm.outs;have sq:=sm.ops;exact tr true Tryz.call49 Tryz.func49 (.w (s.ins<0)
  (fun k1=>chain [tB 11 (decide_eq_true k1)] <| .nil)
  (fun k1=>chain [tB 11 (decide_eq_false k1)] <| .w (8<s.ins)
   (fun k2=>chain [tB 15 (decide_eq_true k2)] <| .nil)
   (fun k2=>chain [tB 15 (decide_eq_false k2)] <| .w (200<(s.ops.length:Int))
    (fun k3=>chain [tB 21 (decide_eq_true k3)] <| .nil)
    (fun k3=>chain [tB 21 (decide_eq_false k3)] <| .w (200<(s.outs.length:Int))
     (fun k4=>chain [tB 27 (decide_eq_true k4)] <| .nil)
     (fun k4=>chain [tB 27 (decide_eq_false k4)] <| .w (s.au<1)
      (fun k5=>chain [tB 32 (decide_eq_true k5)] <| .nil)
      (fun k5=>chain [tB 32 (decide_eq_false k5)] <| .w (4<s.au)
       (fun k6=>chain [tB 37 (decide_eq_true k6)] <| .nil)
       (fun k6=>chain [tB 37 (decide_eq_false k6)] <| .w ((s.outs.length:Int)=s.au)
        (fun k7=>chain [tB 45 (bne_eq_false_iff_eq.2 k7)] <| .w (4<(s.params.length:Int))
         (fun k8=>chain [tB 51 (decide_eq_true k8)] <| .nil)
         (fun k8=>chain [tB 51 (decide_eq_false k8),ar (s.au+(s.params.length:Int)) (by omega)] <| .w (s.ins=(s.au+(s.params.length:Int)))
          (fun k9=>.x (by exact absurd ⟨by omega,by omega,by omega,by omega,by omega,by omega,by omega,by omega,by omega⟩ hc))
          (fun k9=>chain [tB 62 (bne_iff_ne.2 k9)] <| .nil)))
        (fun k7=>chain [tB 45 (bne_iff_ne.2 k7)] <| .nil)))))))) (by kernel_rfl)
theorem P8(s:bk)(g:s.Good)(sm:s.Small)(i0:0<=s.ins)(i8:s.ins<=8)(l1:s.ops.length<=200)(l2:s.outs.length<=200)(s1:1<=s.au)(s4:s.au<=4)(e1:(s.outs.length:Int)=s.au)(e2:s.ins=s.au+(s.params.length:Int))(p4:s.params.length<=4)(N:Nat)(hN0:N<s.ops.length)(hlo:∀ k,k<N->(aK (s.ops.getD k b6) (s.ins+(k:Int)))=true)(hN:(aK (s.ops.getD N b6) (s.ins+(N:Int)))=false):ae 49 [(ct s)] (bP false):=by
 have sp:=sm.params;have so:=sm.outs;have sq:=sm.ops;exact tr true Tryz.call49 Tryz.func49 (chain [tF 11 (s.ins<0) (by omega),tF 15 (8<s.ins) (by omega),tF 21 (200<(s.ops.length:Int)) (by omega),tF 27 (200<(s.outs.length:Int)) (by omega),tF 32 (s.au<1) (by omega),tF 37 (4<s.au) (by omega),
  tB 45 (by simp[e1]:((s.outs.length:Int) != s.au)=false),tF 51 (4<(s.params.length:Int)) (by omega),ar (s.au+(s.params.length:Int)) (by omega),
  tB 62 (by simp[e2]:(s.ins != (s.au+(s.params.length:Int)))=false),
  .s (Sp.upto (E3 s N) 0 N (by omega) (fun x hx hltx=>by
    have hgo:=g.ops x;exact aB (chain [tT 68 ((x:Int)<(s.ops.length:Int)) (by omega),iX ((x:Int)) (s.ops.length) (by omega),ar (s.ins+(x:Int)) (by omega),
     .c (nO _ _ hgo:ae 95 [(gn (s.ops.getD x b6)),(iP (s.ins+(x:Int)))] _),tB 81 (by rw[hlo x (by omega)];rfl:(!(aK (s.ops.getD x b6) (s.ins+(x:Int))))=false),
     ar ((x:Int)+1) (by omega)] <| .nil) (by kernel_rfl))
  (fun hx=>by
    have hgo:=g.ops N;exact aB (chain [tT 68 ((N:Int)<(s.ops.length:Int)) (by omega),iX ((N:Int)) (s.ops.length) (by omega),ar (s.ins+(N:Int)) (by omega),
    .c (nO _ _ hgo:ae 95 [(gn (s.ops.getD N b6)),(iP (s.ins+(N:Int)))] _),tB 81 (by rw[hN];rfl:(!(aK (s.ops.getD N b6) (s.ins+(N:Int))))=true)] <| .nil) (by kernel_rfl)) (by nofun):bD 5 Tryz.f49 (E3 s N 0) .ret ⟨131,true,[(2,.e (bP false))],[]⟩) .nil] <| .nil) (by kernel_rfl)
theorem P9(s:bk)(g:s.Good)(sm:s.Small)(i0:0<=s.ins)(i8:s.ins<=8)(l1:s.ops.length<=200)(l2:s.outs.length<=200)(s1:1<=s.au)(s4:s.au<=4)(e1:(s.outs.length:Int)=s.au)(e2:s.ins=s.au+(s.params.length:Int))(p4:s.params.length<=4)(hlo:∀ k,k<s.ops.length->(aK (s.ops.getD k b6) (s.ins+(k:Int)))=true)(N:Nat)(hN0:N<s.outs.length)(hou:∀ k,k<N->0<=(s.outs.getD k 0)/\(s.outs.getD k 0)<s.ins+(s.ops.length:Int))(hN:(s.outs.getD N 0)<0):ae 49 [(ct s)] (bP false):=by
 have sp:=sm.params;have so:=sm.outs;have sq:=sm.ops;exact tr true Tryz.call49 Tryz.func49 (chain [tF 11 (s.ins<0) (by omega),tF 15 (8<s.ins) (by omega),tF 21 (200<(s.ops.length:Int)) (by omega),tF 27 (200<(s.outs.length:Int)) (by omega),tF 32 (s.au<1) (by omega),tF 37 (4<s.au) (by omega),
  tB 45 (by simp[e1]:((s.outs.length:Int) != s.au)=false),tF 51 (4<(s.params.length:Int)) (by omega),ar (s.au+(s.params.length:Int)) (by omega),
  tB 62 (by simp[e2]:(s.ins != (s.au+(s.params.length:Int)))=false),
  .s (Sp.upto (EV s) 0 s.ops.length (by omega) (fun x hx hltx=>by
    have hgo:=g.ops x;exact aB (chain [tT 68 ((x:Int)<(s.ops.length:Int)) (by omega),iX ((x:Int)) (s.ops.length) (by omega),ar (s.ins+(x:Int)) (by omega),
     .c (nO _ _ hgo:ae 95 [(gn (s.ops.getD x b6)),(iP (s.ins+(x:Int)))] _),tB 81 (by rw[hlo x (by omega)];rfl:(!(aK (s.ops.getD x b6) (s.ins+(x:Int))))=false),
     ar ((x:Int)+1) (by omega)] <| .nil) (by kernel_rfl))
  (fun hx=>by
    exact aB (chain [tF 68 ((s.ops.length:Int)<(s.ops.length:Int)) (by omega)] <| .nil) (by kernel_rfl)) (by nofun):bD 5 Tryz.f49 (EV s 0) (.exit 0) ⟨131,true,[(3,.box 3 0),(1,.box 1 0)],[(3,.cells 25 [(iP s.ins),(bK s.ops),(bN s.outs)]),(1,.cells 28 [(iP s.ins),(bK s.ops),(bN s.outs),(iP s.au),(bI s.params)])]⟩) .nil,
  .s (Sp.upto (E4 s N) 0 N (by omega) (fun x hx hltx=>by
    have hox:=hou x (by omega);exact aB (chain [tT 86 ((x:Int)<(s.outs.length:Int)) (by omega),iX ((x:Int)) (s.outs.length) (by omega),tF 94 ((s.outs.getD x 0)<0) (by omega),iX ((x:Int)) (s.outs.length) (by omega),
     ar (s.ins+(s.ops.length:Int)) (by omega),tF 107 ((s.ins+(s.ops.length:Int))<=(s.outs.getD x 0)) (by omega),ar ((x:Int)+1) (by omega)] <| .nil) (by kernel_rfl))
  (fun hx=>by
    exact aB (chain [tT 86 ((N:Int)<(s.outs.length:Int)) (by omega),iX ((N:Int)) (s.outs.length) (by omega),tB 94 (decide_eq_true hN)] <| .nil) (by kernel_rfl)) (by nofun):bD 10 Tryz.f49 (E4 s N 0) .ret ⟨131,true,[(2,.e (bP false))],[]⟩) .nil] <| .nil) (by kernel_rfl)
theorem Qa(s:bk)(g:s.Good)(sm:s.Small)(i0:0<=s.ins)(i8:s.ins<=8)(l1:s.ops.length<=200)(l2:s.outs.length<=200)(s1:1<=s.au)(s4:s.au<=4)(e1:(s.outs.length:Int)=s.au)(e2:s.ins=s.au+(s.params.length:Int))(p4:s.params.length<=4)(hlo:∀ k,k<s.ops.length->(aK (s.ops.getD k b6) (s.ins+(k:Int)))=true)(N:Nat)(hN0:N<s.outs.length)(hou:∀ k,k<N->0<=(s.outs.getD k 0)/\(s.outs.getD k 0)<s.ins+(s.ops.length:Int))(hN:0<=(s.outs.getD N 0))(hM:s.ins+(s.ops.length:Int)<=(s.outs.getD N 0)):ae 49 [(ct s)] (bP false):=by
 have sp:=sm.params;have so:=sm.outs;have sq:=sm.ops;exact tr true Tryz.call49 Tryz.func49 (chain [tF 11 (s.ins<0) (by omega),tF 15 (8<s.ins) (by omega),tF 21 (200<(s.ops.length:Int)) (by omega),tF 27 (200<(s.outs.length:Int)) (by omega),tF 32 (s.au<1) (by omega),tF 37 (4<s.au) (by omega),
  tB 45 (by simp[e1]:((s.outs.length:Int) != s.au)=false),tF 51 (4<(s.params.length:Int)) (by omega),ar (s.au+(s.params.length:Int)) (by omega),
  tB 62 (by simp[e2]:(s.ins != (s.au+(s.params.length:Int)))=false),
  .s (Sp.upto (EW s) 0 s.ops.length (by omega) (fun x hx hltx=>by
    have hgo:=g.ops x;exact aB (chain [tT 68 ((x:Int)<(s.ops.length:Int)) (by omega),iX ((x:Int)) (s.ops.length) (by omega),ar (s.ins+(x:Int)) (by omega),
     .c (nO _ _ hgo:ae 95 [(gn (s.ops.getD x b6)),(iP (s.ins+(x:Int)))] _),tB 81 (by rw[hlo x (by omega)];rfl:(!(aK (s.ops.getD x b6) (s.ins+(x:Int))))=false),
     ar ((x:Int)+1) (by omega)] <| .nil) (by kernel_rfl))
  (fun hx=>by
    exact aB (chain [tF 68 ((s.ops.length:Int)<(s.ops.length:Int)) (by omega)] <| .nil) (by kernel_rfl)) (by nofun):bD 5 Tryz.f49 (EW s 0) (.exit 0) ⟨131,true,[(3,.box 3 0),(1,.box 1 0)],[(3,.cells 25 [(iP s.ins),(bK s.ops),(bN s.outs)]),(1,.cells 28 [(iP s.ins),(bK s.ops),(bN s.outs),(iP s.au),(bI s.params)])]⟩) .nil,
  .s (Sp.upto (E5 s N) 0 N (by omega) (fun x hx hltx=>by
    have hox:=hou x (by omega);exact aB (chain [tT 86 ((x:Int)<(s.outs.length:Int)) (by omega),iX ((x:Int)) (s.outs.length) (by omega),tF 94 ((s.outs.getD x 0)<0) (by omega),iX ((x:Int)) (s.outs.length) (by omega),
     ar (s.ins+(s.ops.length:Int)) (by omega),tF 107 ((s.ins+(s.ops.length:Int))<=(s.outs.getD x 0)) (by omega),ar ((x:Int)+1) (by omega)] <| .nil) (by kernel_rfl))
  (fun hx=>by
    exact aB (chain [tT 86 ((N:Int)<(s.outs.length:Int)) (by omega),iX ((N:Int)) (s.outs.length) (by omega),tF 94 ((s.outs.getD N 0)<0) (by omega),iX ((N:Int)) (s.outs.length) (by omega),
    ar (s.ins+(s.ops.length:Int)) (by omega),tB 107 (decide_eq_true hM)] <| .nil) (by kernel_rfl)) (by nofun):bD 10 Tryz.f49 (E5 s N 0) .ret ⟨131,true,[(2,.e (bP false))],[]⟩) .nil] <| .nil) (by kernel_rfl)
theorem Qb(s:bk)(g:s.Good)(sm:s.Small)(i0:0<=s.ins)(i8:s.ins<=8)(l1:s.ops.length<=200)(l2:s.outs.length<=200)(s1:1<=s.au)(s4:s.au<=4)(e1:(s.outs.length:Int)=s.au)(e2:s.ins=s.au+(s.params.length:Int))(p4:s.params.length<=4)(hlo:∀ k,k<s.ops.length->(aK (s.ops.getD k b6) (s.ins+(k:Int)))=true)(hou:∀ k,k<s.outs.length->0<=(s.outs.getD k 0)/\(s.outs.getD k 0)<s.ins+(s.ops.length:Int))(N:Nat)(hN0:N<s.params.length)(hpa:∀ k,k<N->okB (s.params.getD k aR)=true/\(s.params.getD k aR).all=false)(hN:(s.params.getD N aR).all=true):ae 49 [(ct s)] (bP false):=by
 have sp:=sm.params;have so:=sm.outs;have sq:=sm.ops;exact tr true Tryz.call49 Tryz.func49 (chain [tF 11 (s.ins<0) (by omega),tF 15 (8<s.ins) (by omega),tF 21 (200<(s.ops.length:Int)) (by omega),tF 27 (200<(s.outs.length:Int)) (by omega),tF 32 (s.au<1) (by omega),tF 37 (4<s.au) (by omega),
  tB 45 (by simp[e1]:((s.outs.length:Int) != s.au)=false),tF 51 (4<(s.params.length:Int)) (by omega),ar (s.au+(s.params.length:Int)) (by omega),
  tB 62 (by simp[e2]:(s.ins != (s.au+(s.params.length:Int)))=false),
  .s (Sp.upto (EX s) 0 s.ops.length (by omega) (fun x hx hltx=>by
    have hgo:=g.ops x;exact aB (chain [tT 68 ((x:Int)<(s.ops.length:Int)) (by omega),iX ((x:Int)) (s.ops.length) (by omega),ar (s.ins+(x:Int)) (by omega),
     .c (nO _ _ hgo:ae 95 [(gn (s.ops.getD x b6)),(iP (s.ins+(x:Int)))] _),tB 81 (by rw[hlo x (by omega)];rfl:(!(aK (s.ops.getD x b6) (s.ins+(x:Int))))=false),
     ar ((x:Int)+1) (by omega)] <| .nil) (by kernel_rfl))
  (fun hx=>by
    exact aB (chain [tF 68 ((s.ops.length:Int)<(s.ops.length:Int)) (by omega)] <| .nil) (by kernel_rfl)) (by nofun):bD 5 Tryz.f49 (EX s 0) (.exit 0) ⟨131,true,[(3,.box 3 0),(1,.box 1 0)],[(3,.cells 25 [(iP s.ins),(bK s.ops),(bN s.outs)]),(1,.cells 28 [(iP s.ins),(bK s.ops),(bN s.outs),(iP s.au),(bI s.params)])]⟩) .nil,
  .s (Sp.upto (E6 s) 0 s.outs.length (by omega) (fun x hx hltx=>by
    have hox:=hou x (by omega);exact aB (chain [tT 86 ((x:Int)<(s.outs.length:Int)) (by omega),iX ((x:Int)) (s.outs.length) (by omega),tF 94 ((s.outs.getD x 0)<0) (by omega),iX ((x:Int)) (s.outs.length) (by omega),
     ar (s.ins+(s.ops.length:Int)) (by omega),tF 107 ((s.ins+(s.ops.length:Int))<=(s.outs.getD x 0)) (by omega),ar ((x:Int)+1) (by omega)] <| .nil) (by kernel_rfl))
  (fun hx=>by
    exact aB (chain [tF 86 ((s.outs.length:Int)<(s.outs.length:Int)) (by omega)] <| .nil) (by kernel_rfl)) (by nofun):bD 10 Tryz.f49 (E6 s 0) (.exit 2) ⟨131,true,[(1,.box 1 0)],[(1,.cells 28 [(iP s.ins),(bK s.ops),(bN s.outs),(iP s.au),(bI s.params)])]⟩) .nil,
  .s (Sp.upto (E7 s N) 0 N (by omega) (fun x hx hltx=>by
    have hgx:=g.params x;exact aB (chain [tT 113 ((x:Int)<(s.params.length:Int)) (by omega),iX ((x:Int)) (s.params.length) (by omega),tB 121 ((hpa x (by omega)).2:(s.params.getD x aR).all=false),
     iX ((x:Int)) (s.params.length) (by omega),.c (lG _ ‹_›:ae 19 [(fE (s.params.getD x aR))] _),tB 129 (by rw[(hpa x (by omega)).1];rfl:(!(okB (s.params.getD x aR)))=false),
     ar ((x:Int)+1) (by omega)] <| .nil) (by kernel_rfl))
  (fun hx=>by
    have hgx:=g.params N;exact aB (chain [tT 113 ((N:Int)<(s.params.length:Int)) (by omega),iX ((N:Int)) (s.params.length) (by omega),tB 121 (hN:(s.params.getD N aR).all=true)] <| .nil) (by kernel_rfl)) (by nofun):bD 15 Tryz.f49 (E7 s N 0) .ret ⟨131,true,[(2,.e (bP false))],[]⟩) .nil] <| .nil) (by kernel_rfl)
theorem Qc(s:bk)(g:s.Good)(sm:s.Small)(i0:0<=s.ins)(i8:s.ins<=8)(l1:s.ops.length<=200)(l2:s.outs.length<=200)(s1:1<=s.au)(s4:s.au<=4)(e1:(s.outs.length:Int)=s.au)(e2:s.ins=s.au+(s.params.length:Int))(p4:s.params.length<=4)(hlo:∀ k,k<s.ops.length->(aK (s.ops.getD k b6) (s.ins+(k:Int)))=true)(hou:∀ k,k<s.outs.length->0<=(s.outs.getD k 0)/\(s.outs.getD k 0)<s.ins+(s.ops.length:Int))(N:Nat)(hN0:N<s.params.length)(hpa:∀ k,k<N->okB (s.params.getD k aR)=true/\(s.params.getD k aR).all=false)(hN:(s.params.getD N aR).all=false)(hM:okB (s.params.getD N aR)=false):ae 49 [(ct s)] (bP false):=by
 have sp:=sm.params;have so:=sm.outs;have sq:=sm.ops;exact tr true Tryz.call49 Tryz.func49 (chain [tF 11 (s.ins<0) (by omega),tF 15 (8<s.ins) (by omega),tF 21 (200<(s.ops.length:Int)) (by omega),tF 27 (200<(s.outs.length:Int)) (by omega),tF 32 (s.au<1) (by omega),tF 37 (4<s.au) (by omega),
  tB 45 (by simp[e1]:((s.outs.length:Int) != s.au)=false),tF 51 (4<(s.params.length:Int)) (by omega),ar (s.au+(s.params.length:Int)) (by omega),
  tB 62 (by simp[e2]:(s.ins != (s.au+(s.params.length:Int)))=false),
  .s (Sp.upto (EY s) 0 s.ops.length (by omega) (fun x hx hltx=>by
    have hgo:=g.ops x;exact aB (chain [tT 68 ((x:Int)<(s.ops.length:Int)) (by omega),iX ((x:Int)) (s.ops.length) (by omega),ar (s.ins+(x:Int)) (by omega),
     .c (nO _ _ hgo:ae 95 [(gn (s.ops.getD x b6)),(iP (s.ins+(x:Int)))] _),tB 81 (by rw[hlo x (by omega)];rfl:(!(aK (s.ops.getD x b6) (s.ins+(x:Int))))=false),
     ar ((x:Int)+1) (by omega)] <| .nil) (by kernel_rfl))
  (fun hx=>by
    exact aB (chain [tF 68 ((s.ops.length:Int)<(s.ops.length:Int)) (by omega)] <| .nil) (by kernel_rfl)) (by nofun):bD 5 Tryz.f49 (EY s 0) (.exit 0) ⟨131,true,[(3,.box 3 0),(1,.box 1 0)],[(3,.cells 25 [(iP s.ins),(bK s.ops),(bN s.outs)]),(1,.cells 28 [(iP s.ins),(bK s.ops),(bN s.outs),(iP s.au),(bI s.params)])]⟩) .nil,
  .s (Sp.upto (E8 s) 0 s.outs.length (by omega) (fun x hx hltx=>by
    have hox:=hou x (by omega);exact aB (chain [tT 86 ((x:Int)<(s.outs.length:Int)) (by omega),iX ((x:Int)) (s.outs.length) (by omega),tF 94 ((s.outs.getD x 0)<0) (by omega),iX ((x:Int)) (s.outs.length) (by omega),
     ar (s.ins+(s.ops.length:Int)) (by omega),tF 107 ((s.ins+(s.ops.length:Int))<=(s.outs.getD x 0)) (by omega),ar ((x:Int)+1) (by omega)] <| .nil) (by kernel_rfl))
  (fun hx=>by
    exact aB (chain [tF 86 ((s.outs.length:Int)<(s.outs.length:Int)) (by omega)] <| .nil) (by kernel_rfl)) (by nofun):bD 10 Tryz.f49 (E8 s 0) (.exit 2) ⟨131,true,[(1,.box 1 0)],[(1,.cells 28 [(iP s.ins),(bK s.ops),(bN s.outs),(iP s.au),(bI s.params)])]⟩) .nil,
  .s (Sp.upto (E9 s N) 0 N (by omega) (fun x hx hltx=>by
    have hgx:=g.params x;exact aB (chain [tT 113 ((x:Int)<(s.params.length:Int)) (by omega),iX ((x:Int)) (s.params.length) (by omega),tB 121 ((hpa x (by omega)).2:(s.params.getD x aR).all=false),
     iX ((x:Int)) (s.params.length) (by omega),.c (lG _ ‹_›:ae 19 [(fE (s.params.getD x aR))] _),tB 129 (by rw[(hpa x (by omega)).1];rfl:(!(okB (s.params.getD x aR)))=false),
     ar ((x:Int)+1) (by omega)] <| .nil) (by kernel_rfl))
  (fun hx=>by
    have hgx:=g.params N;exact aB (chain [tT 113 ((N:Int)<(s.params.length:Int)) (by omega),iX ((N:Int)) (s.params.length) (by omega),tB 121 (hN:(s.params.getD N aR).all=false),iX ((N:Int)) (s.params.length) (by omega),
    .c (lG _ ‹_›:ae 19 [(fE (s.params.getD N aR))] _),tB 129 (by rw[hM];rfl:(!(okB (s.params.getD N aR)))=true)] <| .nil) (by kernel_rfl)) (by nofun):bD 15 Tryz.f49 (E9 s N 0) .ret ⟨131,true,[(2,.e (bP false))],[]⟩) .nil] <| .nil) (by kernel_rfl)
theorem Qd(s:bk)(g:s.Good)(sm:s.Small)(i0:0<=s.ins)(i8:s.ins<=8)(l1:s.ops.length<=200)(l2:s.outs.length<=200)(s1:1<=s.au)(s4:s.au<=4)(e1:(s.outs.length:Int)=s.au)(e2:s.ins=s.au+(s.params.length:Int))(p4:s.params.length<=4)(hlo:∀ k,k<s.ops.length->(aK (s.ops.getD k b6) (s.ins+(k:Int)))=true)(hou:∀ k,k<s.outs.length->0<=(s.outs.getD k 0)/\(s.outs.getD k 0)<s.ins+(s.ops.length:Int))(hpa:∀ k,k<s.params.length->okB (s.params.getD k aR)=true/\(s.params.getD k aR).all=false):ae 49 [(ct s)] (bP true):=by
 have sp:=sm.params;have so:=sm.outs;have sq:=sm.ops;exact tr true Tryz.call49 Tryz.func49 (chain [tF 11 (s.ins<0) (by omega),tF 15 (8<s.ins) (by omega),tF 21 (200<(s.ops.length:Int)) (by omega),tF 27 (200<(s.outs.length:Int)) (by omega),tF 32 (s.au<1) (by omega),tF 37 (4<s.au) (by omega),
  tB 45 (by simp[e1]:((s.outs.length:Int) != s.au)=false),tF 51 (4<(s.params.length:Int)) (by omega),ar (s.au+(s.params.length:Int)) (by omega),
  tB 62 (by simp[e2]:(s.ins != (s.au+(s.params.length:Int)))=false),
  .s (Sp.upto (EZ s) 0 s.ops.length (by omega) (fun x hx hltx=>by
    have hgo:=g.ops x;exact aB (chain [tT 68 ((x:Int)<(s.ops.length:Int)) (by omega),iX ((x:Int)) (s.ops.length) (by omega),ar (s.ins+(x:Int)) (by omega),
     .c (nO _ _ hgo:ae 95 [(gn (s.ops.getD x b6)),(iP (s.ins+(x:Int)))] _),tB 81 (by rw[hlo x (by omega)];rfl:(!(aK (s.ops.getD x b6) (s.ins+(x:Int))))=false),
     ar ((x:Int)+1) (by omega)] <| .nil) (by kernel_rfl))
  (fun hx=>by
    exact aB (chain [tF 68 ((s.ops.length:Int)<(s.ops.length:Int)) (by omega)] <| .nil) (by kernel_rfl)) (by nofun):bD 5 Tryz.f49 (EZ s 0) (.exit 0) ⟨131,true,[(3,.box 3 0),(1,.box 1 0)],[(3,.cells 25 [(iP s.ins),(bK s.ops),(bN s.outs)]),(1,.cells 28 [(iP s.ins),(bK s.ops),(bN s.outs),(iP s.au),(bI s.params)])]⟩) .nil,
  .s (Sp.upto (Fa s) 0 s.outs.length (by omega) (fun x hx hltx=>by
    have hox:=hou x (by omega);exact aB (chain [tT 86 ((x:Int)<(s.outs.length:Int)) (by omega),iX ((x:Int)) (s.outs.length) (by omega),tF 94 ((s.outs.getD x 0)<0) (by omega),iX ((x:Int)) (s.outs.length) (by omega),
     ar (s.ins+(s.ops.length:Int)) (by omega),tF 107 ((s.ins+(s.ops.length:Int))<=(s.outs.getD x 0)) (by omega),ar ((x:Int)+1) (by omega)] <| .nil) (by kernel_rfl))
  (fun hx=>by
    exact aB (chain [tF 86 ((s.outs.length:Int)<(s.outs.length:Int)) (by omega)] <| .nil) (by kernel_rfl)) (by nofun):bD 10 Tryz.f49 (Fa s 0) (.exit 2) ⟨131,true,[(1,.box 1 0)],[(1,.cells 28 [(iP s.ins),(bK s.ops),(bN s.outs),(iP s.au),(bI s.params)])]⟩) .nil,
  .s (Sp.upto (Fb s) 0 s.params.length (by omega) (fun x hx hltx=>by
    have hgx:=g.params x;exact aB (chain [tT 113 ((x:Int)<(s.params.length:Int)) (by omega),iX ((x:Int)) (s.params.length) (by omega),tB 121 ((hpa x (by omega)).2:(s.params.getD x aR).all=false),
     iX ((x:Int)) (s.params.length) (by omega),.c (lG _ ‹_›:ae 19 [(fE (s.params.getD x aR))] _),tB 129 (by rw[(hpa x (by omega)).1];rfl:(!(okB (s.params.getD x aR)))=false),
     ar ((x:Int)+1) (by omega)] <| .nil) (by kernel_rfl))
  (fun hx=>by
    exact aB (chain [tF 113 ((s.params.length:Int)<(s.params.length:Int)) (by omega)] <| .nil) (by kernel_rfl)) (by nofun):bD 15 Tryz.f49 (Fb s 0) (.exit 4) ⟨131,true,[],[]⟩) .nil] <| .nil) (by kernel_rfl)
theorem rh(s:bk)(g:s.Good)(sm:s.Small):ae 49 [ct s] (bP (cW s)):=by
 by_cases hc:0<=s.ins/\s.ins<=8/\s.ops.length<=200/\s.outs.length<=200/\1<=s.au/\s.au<=4/\(s.outs.length:Int)=s.au/\s.params.length<=4/\s.ins=s.au+(s.params.length:Int)
 rotate_left
 .rw [show cW s=false from RG hc]
  exact P7 s g sm hc
 obtain⟨i0,i8,l1,l2,s1,s4,e1,p4,e2⟩:=hc;by_cases c2:yE s=true
 rotate_left
 .rw [show cW s=false by unfold cW;rw[Bool.eq_false_iff.2 c2];simp]
  obtain⟨N,n1,n2,n3⟩:=pR c2;exact P8 s g sm i0 i8 l1 l2 s1 s4 e1 e2 p4 N n1 (fun k hk=>by simpa using n3 k hk) (by simpa using n2)
 have hlo:∀ k,k<s.ops.length->aK (s.ops.getD k b6) (s.ins+(k:Int))=true:=fun k hk=>List.all_eq_true.1 c2 k (List.mem_range.2 hk)
 by_cases c3:kJ s=true
 rotate_left
 .rw [show cW s=false by unfold cW;rw[Bool.eq_false_iff.2 c3];simp]
  obtain⟨N,n1,n2,n3⟩:=pR c3;have hou:∀ k,k<N->0<=s.outs.getD k 0/\s.outs.getD k 0<s.ins+(s.ops.length:Int):=fun k hk=>by simpa[kF]using n3 k hk
  have hN:¬(0<=s.outs.getD N 0/\s.outs.getD N 0<s.ins+(s.ops.length:Int)):=fun q=>by
   rw[show kF s (s.outs.getD N 0)=true from decide_eq_true q]at n2;cases n2
  by_cases h0:s.outs.getD N 0<0
  .exact P9 s g sm i0 i8 l1 l2 s1 s4 e1 e2 p4 hlo N n1 hou h0
  .exact Qa s g sm i0 i8 l1 l2 s1 s4 e1 e2 p4 hlo N n1 hou (by omega) (by omega)
 have hou:∀ k,k<s.outs.length->0<=s.outs.getD k 0/\s.outs.getD k 0<s.ins+(s.ops.length:Int):=fun k hk=>by simpa[kF]using List.all_eq_true.1 c3 k (List.mem_range.2 hk)
 by_cases c4:pB s=true
 .rw [show cW s=true by unfold cW;rw[decide_eq_true (⟨i0,i8,l1,l2⟩:_/\_),c2,c3,decide_eq_true (⟨s1,s4,e1,e2,p4⟩:_/\_),c4];rfl]
  exact Qd s g sm i0 i8 l1 l2 s1 s4 e1 e2 p4 hlo hou fun k hk=>by simpa[dE]using List.all_eq_true.1 c4 k (List.mem_range.2 hk)
 .rw [show cW s=false by unfold cW;rw[Bool.eq_false_iff.2 c4];simp]
  obtain⟨N,n1,n2,n3⟩:=pR c4;have hpa:∀ k,k<N->okB (s.params.getD k aR)=true/\(s.params.getD k aR).all=false:=fun k hk=>by simpa[dE]using n3 k hk
  cases ha:(s.params.getD N aR).all with
  | true=>exact Qb s g sm i0 i8 l1 l2 s1 s4 e1 e2 p4 hlo hou N n1 hpa ha
  | false=>exact Qc s g sm i0 i8 l1 l2 s1 s4 e1 e2 p4 hlo hou N n1 hpa ha (by
   cases hk:okB (s.params.getD N aR)with
   | false=>rfl
   | true=>rw[show dE (s.params.getD N aR)=true by unfold dE;rw[hk,ha];rfl]at n2;cases n2)
theorem Qe(s:bk)(g:s.Good)(sm:s.Small)(b:List RI)(gb:∀ i,(b.getD i aR).Good)(hbl:b.length<=1000)(hs:cW s=false):ae 15 [(ct s),(bI b)] (bP false):=by
 exact tr true Tryz.call15 Tryz.func15 (chain [.c (rh _ g sm:ae 49 [(ct s)] _),tB 8 (by rw[hs];rfl:(!(cW s))=true)] <| .nil) (by kernel_rfl)
theorem Qf(s:bk)(g:s.Good)(sm:s.Small)(b:List RI)(gb:∀ i,(b.getD i aR).Good)(hbl:b.length<=1000)(hs:cW s=true)(hl:¬(b.length:Int)=s.au):ae 15 [(ct s),(bI b)] (bP false):=by
 exact tr true Tryz.call15 Tryz.func15 (chain [.c (rh _ g sm:ae 49 [(ct s)] _),tB 8 (by rw[hs];rfl:(!(cW s))=false),tB 14 (by simpa using hl:((b.length:Int) != s.au)=true)] <| .nil) (by kernel_rfl)
theorem Qg(s:bk)(g:s.Good)(sm:s.Small)(b:List RI)(gb:∀ i,(b.getD i aR).Good)(hbl:b.length<=1000)(hs:cW s=true)(hl:(b.length:Int)=s.au)(N:Nat)(hN0:N<b.length)(hpa:∀ k,k<N->okB (b.getD k aR)=true/\(b.getD k aR).all=false)(hN:(b.getD N aR).all=true):ae 15 [(ct s),(bI b)] (bP false):=by
 exact tr true Tryz.call15 Tryz.func15 (chain [.c (rh _ g sm:ae 49 [(ct s)] _),tB 8 (by rw[hs];rfl:(!(cW s))=false),tB 14 (by simp[hl]:((b.length:Int) != s.au)=false),
  .s (Sp.upto (Ew s b N) 0 N (by omega) (fun x hx hltx=>by
    have hgx:=gb x;exact aB (chain [tT 19 ((x:Int)<(b.length:Int)) (by omega),iX ((x:Int)) (b.length) (by omega),tB 26 ((hpa x (by omega)).2:(b.getD x aR).all=false),iX ((x:Int)) (b.length) (by omega),
     .c (lG _ ‹_›:ae 19 [(fE (b.getD x aR))] _),tB 33 (by rw[(hpa x (by omega)).1];rfl:(!(okB (b.getD x aR)))=false),ar ((x:Int)+1) (by omega)] <| .nil) (by kernel_rfl))
  (fun hx=>by
    have hgx:=gb N;exact aB (chain [tT 19 ((N:Int)<(b.length:Int)) (by omega),iX ((N:Int)) (b.length) (by omega),tB 26 (hN:(b.getD N aR).all=true)] <| .nil) (by kernel_rfl)) (by nofun):bD 4 Tryz.f15 (Ew s b N 0) .ret ⟨35,true,[(4,.e (bP false))],[]⟩) .nil] <| .nil) (by kernel_rfl)
theorem Qh(s:bk)(g:s.Good)(sm:s.Small)(b:List RI)(gb:∀ i,(b.getD i aR).Good)(hbl:b.length<=1000)(hs:cW s=true)(hl:(b.length:Int)=s.au)(N:Nat)(hN0:N<b.length)(hpa:∀ k,k<N->okB (b.getD k aR)=true/\(b.getD k aR).all=false)(hN:(b.getD N aR).all=false)(hM:okB (b.getD N aR)=false):ae 15 [(ct s),(bI b)] (bP false):=by
 exact tr true Tryz.call15 Tryz.func15 (chain [.c (rh _ g sm:ae 49 [(ct s)] _),tB 8 (by rw[hs];rfl:(!(cW s))=false),tB 14 (by simp[hl]:((b.length:Int) != s.au)=false),
  .s (Sp.upto (Ey s b N) 0 N (by omega) (fun x hx hltx=>by
    have hgx:=gb x;exact aB (chain [tT 19 ((x:Int)<(b.length:Int)) (by omega),iX ((x:Int)) (b.length) (by omega),tB 26 ((hpa x (by omega)).2:(b.getD x aR).all=false),iX ((x:Int)) (b.length) (by omega),
     .c (lG _ ‹_›:ae 19 [(fE (b.getD x aR))] _),tB 33 (by rw[(hpa x (by omega)).1];rfl:(!(okB (b.getD x aR)))=false),ar ((x:Int)+1) (by omega)] <| .nil) (by kernel_rfl))
  (fun hx=>by
    have hgx:=gb N;exact aB (chain [tT 19 ((N:Int)<(b.length:Int)) (by omega),iX ((N:Int)) (b.length) (by omega),tB 26 (hN:(b.getD N aR).all=false),iX ((N:Int)) (b.length) (by omega),
    .c (lG _ ‹_›:ae 19 [(fE (b.getD N aR))] _),tB 33 (by rw[hM];rfl:(!(okB (b.getD N aR)))=true)] <| .nil) (by kernel_rfl)) (by nofun):bD 4 Tryz.f15 (Ey s b N 0) .ret ⟨35,true,[(4,.e (bP false))],[]⟩) .nil] <| .nil) (by kernel_rfl)
theorem Qi(s:bk)(g:s.Good)(sm:s.Small)(b:List RI)(gb:∀ i,(b.getD i aR).Good)(hbl:b.length<=1000)(hs:cW s=true)(hl:(b.length:Int)=s.au)(hpa:∀ k,k<b.length->okB (b.getD k aR)=true/\(b.getD k aR).all=false):ae 15 [(ct s),(bI b)] (bP true):=by
 exact tr true Tryz.call15 Tryz.func15 (chain [.c (rh _ g sm:ae 49 [(ct s)] _),tB 8 (by rw[hs];rfl:(!(cW s))=false),tB 14 (by simp[hl]:((b.length:Int) != s.au)=false),
  .s (Sp.upto (Ez s b) 0 b.length (by omega) (fun x hx hltx=>by
    have hgx:=gb x;exact aB (chain [tT 19 ((x:Int)<(b.length:Int)) (by omega),iX ((x:Int)) (b.length) (by omega),tB 26 ((hpa x (by omega)).2:(b.getD x aR).all=false),iX ((x:Int)) (b.length) (by omega),
     .c (lG _ ‹_›:ae 19 [(fE (b.getD x aR))] _),tB 33 (by rw[(hpa x (by omega)).1];rfl:(!(okB (b.getD x aR)))=false),ar ((x:Int)+1) (by omega)] <| .nil) (by kernel_rfl))
  (fun hx=>by
    exact aB (chain [tF 19 ((b.length:Int)<(b.length:Int)) (by omega)] <| .nil) (by kernel_rfl)) (by nofun):bD 4 Tryz.f15 (Ez s b 0) (.exit 0) ⟨35,true,[],[]⟩) .nil] <| .nil) (by kernel_rfl)
noncomputable def kS(s:bk)(b:List RI):Bool:=cW s&&gP s.au b
theorem EA(s:bk)(g:s.Good)(sm:s.Small)(b:List RI)(gb:∀ i,(b.getD i aR).Good)(hbl:b.length<=1000):ae 15 [ct s,bI b] (bP (kS s b)):=by
 unfold kS;cases hs:cW s with
 | false=>exact Qe s g sm b gb hbl hs
 | true =>
  rw[Bool.true_and];by_cases hl:(b.length:Int)=s.au
  rotate_left
  .rw [show gP s.au b=false by unfold gP;rw[decide_eq_false hl];rfl]
   exact Qf s g sm b gb hbl hs hl
  by_cases c4:((List.range b.length).all fun i=>dE (b.getD i aR))=true
  .rw [show gP s.au b=true by unfold gP;rw[decide_eq_true hl,c4];rfl]
   exact Qi s g sm b gb hbl hs hl fun k hk=>by simpa[dE]using List.all_eq_true.1 c4 k (List.mem_range.2 hk)
  .rw [show gP s.au b=false by unfold gP;rw[Bool.eq_false_iff.2 c4];simp]
   obtain⟨N,n1,n2,n3⟩:=pR c4;have hpa:∀ k,k<N->okB (b.getD k aR)=true/\(b.getD k aR).all=false:=fun k hk=>by simpa[dE]using n3 k hk
   cases ha:(b.getD N aR).all with
   | true=>exact Qg s g sm b gb hbl hs hl N n1 hpa ha
   | false=>exact Qh s g sm b gb hbl hs hl N n1 hpa ha (by
    cases hk:okB (b.getD N aR)with
    | false=>rfl
    | true=>rw[show dE (b.getD N aR)=true by unfold dE;rw[hk,ha];rfl]at n2;cases n2)
theorem q9(p:Int):cB p=decide (8<=p/\p<=512):=by
 rw[Bool.eq_iff_iff,fS,decide_eq_true_eq]
theorem Qj(s:bk)(g:s.Good)(sm:s.Small)(x:List RI)(gx:∀ i,(x.getD i aR).Good)(hxl:x.length<=1000)(d:RD)(gd:d.Good)(p:Int)(hd:¬d.Ok):ae 14 [(ct s),(bI x),(cO d),(iP p)] (bP (df s x d p)):=by
 have hdk:kI d=false:=Bool.eq_false_iff.2 fun q=>hd (jH.1 q)
 exact tr true Tryz.call14 Tryz.func14 (chain [.c (EA _ g sm _ gx hxl:ae 15 [(ct s),(bI x)] _)] <| .w (kS s x=true)
  (fun k1=>chain [tB 11 (k1),.c (rp _ ‹_› _ jH:ae 46 [(cO d)] _),tB 14 (hdk:(kI d)=false)]<|rQ (bP false) (bP (df s x d p)) (bM (by simp_all[df,kS,q9]<;>intros<;>omega)))
  (fun k1=>chain [tB 11 (Bool.eq_false_iff.2 k1)]<|rQ (bP false) (bP (df s x d p)) (bM (by simp_all[df,kS,q9]<;>intros<;>omega)))) (by kernel_rfl)
theorem Qk(s:bk)(g:s.Good)(sm:s.Small)(x:List RI)(gx:∀ i,(x.getD i aR).Good)(hxl:x.length<=1000)(d:RD)(gd:d.Good)(p:Int)(hd:d.Ok):ae 14 [(ct s),(bI x),(ag d.dy),(iP p)] (bP (df s x d p)):=by
 have hdk:kI d=true:=jH.2 hd;have hv:=hd.valid;exact tr true Tryz.call14 Tryz.func14 (chain [.c (EA _ g sm _ gx hxl:ae 15 [(ct s),(bI x)] _)] <| .w (kS s x=true)
  (fun k1=>chain [tB 11 (k1),.c (ja _ ‹_›:ae 46 [(ag d.dy)] _),.c (uh _:ae 47 [(ag d.dy)] _)] <| .w (0<(Dy.sign d.dy))
   (fun k2=>chain [tB 19 (decide_eq_true k2),.c (QZ _:ae 48 [(iP p)] _)]<|rQ (bP (cB p)) (bP (df s x d p)) (bM (by simp_all[df,kS,q9]<;>intros<;>omega)))
   (fun k2=>chain [tB 19 (decide_eq_false k2)]<|rQ (bP false) (bP (df s x d p)) (bM (by simp_all[df,kS,q9]<;>intros<;>omega))))
  (fun k1=>chain [tB 11 (Bool.eq_false_iff.2 k1)]<|rQ (bP false) (bP (df s x d p)) (bM (by simp_all[df,kS,q9]<;>intros<;>omega)))) (by kernel_rfl)
theorem EB(s:bk)(g:s.Good)(sm:s.Small)(x:List RI)(gx:∀ i,(x.getD i aR).Good)(hxl:x.length<=1000)(d:RD)(gd:d.Good)(p:Int):ae 14 [ct s,bI x,cO d,iP p] (bP (df s x d p)):=by
 by_cases hd:d.Ok
 .have:=Qk s g sm x gx hxl d gd p hd
  rwa[<-sP,hd.eq gd]at this
 .exact Qj s g sm x gx hxl d gd p hd
open Go.RowKit Fp Pu
def fV:bU:=⟨⟨1,[],[0]⟩,1,[]⟩
theorem y6:dp fV:=by
 refine⟨⟨by decide,by decide,by decide,fun i hi=>absurd hi (Nat.not_lt_zero i),fun i hi=>?_⟩,by decide,by decide,rfl,rfl,by decide,fun i hi=>absurd hi (Nat.not_lt_zero i)⟩;have hi:i<1:=hi;obtain rfl:i=0:=by omega
 decide
theorem R5{B:Iv}(v:B.Valid)(a:B.all=false):bO 1 [B]:=⟨rfl,fun i hi=>by
 have hi:i<1:=hi;obtain rfl:i=0:=by omega
 exact⟨v,a⟩⟩
abbrev ib:List Iv:=[⟨bS 1 0,bS 1 0,false⟩]
abbrev iz:Dy:=bS 1 (-2)
abbrev sX:List Iv:=[⟨bS 2 (-1),bS 3 (-1),false⟩]
abbrev sY:List Iv:=[⟨bS 4 (-2),bS 5 (-2),false⟩]
theorem LG:∀ k:Nat,k<19->eV fV ib iz 60 ((k:Int)-20)=false:=by
 have h:((List.range 19).all fun k:Nat=>!(eV fV ib iz 60 ((k:Int)-20)))=true:=by decide +kernel
 intro k hk;simpa using List.all_eq_true.1 h k (List.mem_range.2 hk)
theorem LH:eV fV ib iz 60 (((19:Nat):Int)-20)=true:=by decide +kernel
theorem LF:(ey ib (cP (((19:Nat):Int)-20))).length=1:=by decide +kernel
theorem LC:fK fV ib iz sX 60=true:=by decide +kernel
theorem LD:fK fV ib iz sY 60=false:=by decide +kernel
theorem wF{a b e:Int}(h1:a.natAbs<4294967296)(h2:b.natAbs<4294967296)(h3:-1000<=e)(h4:e<=1000)(h:aD (bS a e) (bS b e)<=0):bO 1 [⟨bS a e,bS b e,false⟩] :=
 R5 (.inr ⟨rfl,pX h1 h3 h4,pX h2 h3 h4,h⟩) rfl
theorem wE:bO 1 ib:=wF (by decide) (by decide) (by decide) (by decide) (by decide +kernel)
theorem Lt:bO 1 sX:=wF (by decide) (by decide) (by decide) (by decide) (by decide +kernel)
theorem Lu:bO 1 sY:=wF (by decide) (by decide) (by decide) (by decide) (by decide +kernel)
theorem wD:iz.Valid:=pX (by decide) (by decide) (by decide)
theorem wC:0<iz.sign:=by decide +kernel
open Go.RowKit Fp Pu
theorem qy(n e:Int)(h1:n.natAbs<4294967296)(h2:-1000<=e)(h3:e<=1000):ae 39 [(iP n),(iP e)] (ag (bS n e)):=by
 have hrg:cY (canon (Dy.neg (az n)) (Dy.m (az n)) ((Dy.e (az n))+e)):=by rw[Bc];exact(pX h1 h2 h3).range
 exact tr true Tryz.call39 Tryz.func39 (chain [.c (QS _ (by omega):ae 81 [(iP n)] _),.c (Q1 _ _ (dD (by omega)) (by omega) (by omega) hrg:ae 31 [(ag (az n)),(iP e)] _)]<|rQ (ag (canon (Dy.neg (az n)) (Dy.m (az n)) ((Dy.e (az n))+e))) (ag (bS n e)) (by rw[Bc])) (by kernel_rfl)
theorem xg(a b e:Int)(h1:a.natAbs<4294967296)(h4:b.natAbs<4294967296)(h2:-1000<=e)(h3:e<=1000):ae 38 [(iP a),(iP b),(iP e)] (ai (Iv.mk (bS a e) (bS b e) false)):=by
 exact tr true Tryz.call38 Tryz.func38 (chain [.c (qy _ _ (by omega) (by omega) (by omega):ae 39 [(iP a),(iP e)] _),.c (qy _ _ (by omega) (by omega) (by omega):ae 39 [(iP b),(iP e)] _)] <| .nil) (by kernel_rfl)
theorem y5:E.le (.agg [iP 1,.v (.slice none 0 0),.sl true 1 1 fun i j=>[iP 0].getD (i*1+j) (.v (.bool false)),iP 1,.v (.slice none 0 0)]) (bw fV) :=
 .agg (.cons (.refl _) (.cons (.nil _ _ _) (.cons (.sl fun i j hi hj=>by
  obtain rfl:i=0:=by omega
  obtain rfl:j=0:=by omega
  exact⟨.of_eq rfl,rfl⟩) (.cons (.refl _) (.cons (.nil _ _ _) .nil)))))
theorem Lx:ae 26 [bw fV,an ib,ag iz,iP 60] (.aq [an (ey ib (cP (((19:Nat):Int)-20))),iP 0]) :=
 Ca fV ib iz 60 y6 wE wD wC (by decide) (by decide) 19 (by decide) LG LH
theorem Ly:ae 23 [bw fV,an ib,ag iz,an sX,iP 60] (bP true):=by
 have:=k0 fV ib iz sX 60 y6 wE wD wC Lt (by decide) (by decide);rwa[LC]at this
theorem Lz:ae 23 [bw fV,an ib,ag iz,an sY,iP 60] (bP false):=by
 have:=k0 fV ib iz sY 60 y6 wE wD wC Lu (by decide) (by decide);rwa[LD]at this
theorem tw  : ae 9 [] (bP true):=by
 exact tr true Tryz.call9 Tryz.func9 (chain [.c (xg _ _ _ (by decide) (by decide) (by decide) (by decide):ae 38 [(iP 1),(iP 1),(iP 0)] _),
  .o 9 (.e (cR _):PV.le (.e (.sl true 1 7 fun i_ j_=>(aF (Iv.mk (bS 1 0) (bS 1 0) false)).getD (i_*7+j_) (.v (.bool false)))) (.e (an [(Iv.mk (bS 1 0) (bS 1 0) false)]))),
  .o 11 (.e y5:PV.le (.e (.agg [(iP 1),(.v (.slice none 0 0)),(.sl true 1 1 fun i_ j_=>[(iP 0)].getD (i_*1+j_) (.v (.bool false))),(iP 1),(.v (.slice none 0 0))])) (.e (bw fV))),
  .c (qy _ _ (by decide) (by decide) (by decide):ae 39 [(iP 1),(iP (-2))] _),.c (Lx:ae 26 [(bw fV),(an [(Iv.mk (bS 1 0) (bS 1 0) false)]),(ag (bS 1 (-2))),(iP 60)] _),
  .o 17 (.e y5:PV.le (.e (.agg [(iP 1),(.v (.slice none 0 0)),(.sl true 1 1 fun i_ j_=>[(iP 0)].getD (i_*1+j_) (.v (.bool false))),(iP 1),(.v (.slice none 0 0))])) (.e (bw fV))),
  .c (qy _ _ (by decide) (by decide) (by decide):ae 39 [(iP 1),(iP (-2))] _),.c (xg _ _ _ (by decide) (by decide) (by decide) (by decide):ae 38 [(iP 2),(iP 3),(iP (-1))] _),
  .o 21 (.e (cR _):PV.le (.e (.sl true 1 7 fun i_ j_=>(aF (Iv.mk (bS 2 (-1)) (bS 3 (-1)) false)).getD (i_*7+j_) (.v (.bool false)))) (.e (an [(Iv.mk (bS 2 (-1)) (bS 3 (-1)) false)]))),
  .c (Ly:ae 23 [(bw fV),(an [(Iv.mk (bS 1 0) (bS 1 0) false)]),(ag (bS 1 (-2))),(an [(Iv.mk (bS 2 (-1)) (bS 3 (-1)) false)]),(iP 60)] _),
  .o 24 (.e y5:PV.le (.e (.agg [(iP 1),(.v (.slice none 0 0)),(.sl true 1 1 fun i_ j_=>[(iP 0)].getD (i_*1+j_) (.v (.bool false))),(iP 1),(.v (.slice none 0 0))])) (.e (bw fV))),
  .c (qy _ _ (by decide) (by decide) (by decide):ae 39 [(iP 1),(iP (-2))] _),.c (xg _ _ _ (by decide) (by decide) (by decide) (by decide):ae 38 [(iP 4),(iP 5),(iP (-2))] _),
  .o 28 (.e (cR _):PV.le (.e (.sl true 1 7 fun i_ j_=>(aF (Iv.mk (bS 4 (-2)) (bS 5 (-2)) false)).getD (i_*7+j_) (.v (.bool false)))) (.e (an [(Iv.mk (bS 4 (-2)) (bS 5 (-2)) false)]))),
  .c (Lz:ae 23 [(bw fV),(an [(Iv.mk (bS 1 0) (bS 1 0) false)]),(ag (bS 1 (-2))),(an [(Iv.mk (bS 4 (-2)) (bS 5 (-2)) false)]),(iP 60)] _),tB 34 (by decide:((0:Int)==0)=true),
  tB 39 (by rw[LF];rfl:((((ey ib (cP (((19:Nat):Int)-20))).length:Nat):Int)==1)=true)] <| .nil) (by kernel_rfl)
def eX(d:RD):Bool:=decide (20<d.L.length)||(decide (300<d.e)||decide (d.e < -300))
def lk(x:RI):Bool:=eX x.lo||eX x.hi
def im(l:List RI):Bool:=decide (l.length<=8) && !((List.range l.length).any fun i=>lk (l.getD i aR))
def ie(s:bk):Bool:=decide (s.ops.length<=60)&&(decide (s.outs.length<=8)&&im s.params)
theorem yS{l:List RI}(h:im l=true):l.length<=8:=by
 unfold im at h;rw[Bool.and_eq_true,decide_eq_true_eq]at h;exact h.1
theorem Cn{s:bk}(h:ie s=true):s.Small:=by
 unfold ie at h;rw[Bool.and_eq_true,Bool.and_eq_true,decide_eq_true_eq,decide_eq_true_eq]at h;have:=yS h.2.2;exact⟨by omega,by omega,by omega⟩
theorem qA(d:RD):ae 12 [(cO d)] (bP (eX d)):=by
 exact tr true Tryz.call12 Tryz.func12 (.w (20<(d.L.length:Int))
  (fun k1=>chain [tB 6 (decide_eq_true k1)]<|rR (bP (eX d)) (by
      exact .of_eq (by
       have:eX d=true:=by unfold eX;simp[show 20<d.L.length from by omega]
       rw[this]):E.le (bP true) (bP (eX d))))
  (fun k1=>chain [tB 6 (decide_eq_false k1)] <| .w (300<d.e)
   (fun k2=>chain [tB 10 (decide_eq_true k2)]<|rR (bP (eX d)) (by
      exact .of_eq (by
       have:eX d=true:=by unfold eX;simp[show ¬20<d.L.length from by omega,k2]
       rw[this]):E.le (bP true) (bP (eX d))))
   (fun k2=>chain [tB 10 (decide_eq_false k2)]<|rR (bP (eX d)) (by
      exact .of_eq (by
       have:eX d=(decide (d.e<(-300))):=by unfold eX;simp[show ¬20<d.L.length from by omega,k2]
       rw[this]):E.le (bP (decide (d.e<(-300)))) (bP (eX d)))))) (by kernel_rfl)
theorem Og(x:RI):ae 40 [(fE x)] (bP (lk x)):=by
 exact tr true Tryz.call40 Tryz.func40 (chain [.c (qA x.lo:ae 12 [(cO x.lo)] _)] <| .w (eX x.lo=true)
  (fun k1=>chain [tB 5 (k1)]<|rQ (bP true) (bP (lk x)) (bM (by simp_all[lk])))
  (fun k1=>chain [tB 5 (Bool.eq_false_iff.2 k1),.c (qA x.hi:ae 12 [(cO x.hi)] _)]<|rQ (bP (eX x.hi)) (bP (lk x)) (bM (by simp_all[lk])))) (by kernel_rfl)
theorem Od(l:List RI)(hl:l.length<=1000):ae 17 [bI l,.fn 40 []] (bP ((List.range l.length).any fun i=>lk (l.getD i aR))) :=
 w9 true l.length (fun i j=>(lH (l.getD i aR)).getD j .any) 40 [] (fun i=>lk (l.getD i aR)) (fun i _=>Og _) (by omega)
theorem tz(l:List RI):ae 11 [(bI l)] (bP (im l)):=by
 exact tr true Tryz.call11 Tryz.func11 (.w ((l.length:Int)<=8)
  (fun k1=>chain [tB 5 (decide_eq_true k1),.c (Od l (by omega):ae 17 [(bI l),(.fn 40 [])] _)]<|rQ (bP (!((List.range l.length).any fun i=>lk (l.getD i aR)))) (bP (im l)) (bM (by unfold im;simp[show l.length<=8 from by omega])))
  (fun k1=>chain [tB 5 (decide_eq_false k1)]<|rQ (bP false) (bP (im l)) (bM (by unfold im;simp[show ¬l.length<=8 from by omega])))) (by kernel_rfl)
theorem xf(s:bk):ae 10 [(ct s)] (bP (ie s)):=by
 exact tr true Tryz.call10 Tryz.func10 (.w ((s.ops.length:Int)<=60)
  (fun k1=>chain [tB 7 (decide_eq_true k1)] <| .w ((s.outs.length:Int)<=8)
   (fun k2=>chain [tB 13 (decide_eq_true k2),.c (tz _:ae 11 [(bI s.params)] _)]<|rQ (bP (im s.params)) (bP (ie s)) (bM (by unfold ie;simp[show s.ops.length<=60 from by omega,show s.outs.length<=8 from by omega])))
   (fun k2=>chain [tB 13 (decide_eq_false k2)]<|rQ (bP false) (bP (ie s)) (bM (by unfold ie;simp[show s.ops.length<=60 from by omega,show ¬s.outs.length<=8 from by omega]))))
  (fun k1=>chain [tB 7 (decide_eq_false k1)]<|rQ (bP false) (bP (ie s)) (bM (by unfold ie;simp[show ¬s.ops.length<=60 from by omega])))) (by kernel_rfl)
theorem Qq(x:Iv)(hx:x.Valid):ae 58 [(ai x),(ai x)] (bP true):=by
 obtain⟨w1,w2⟩:=hx.ends;exact tr true Tryz.call58 Tryz.func58 (chain [tB 9 (by simp:(x.all==x.all)=true),.c (Fg _ _ true ⟨fun _=>rfl,fun _=>rfl⟩ (by have:=w1.af;omega) (by have:=w1.af;omega):ae 101 [(ag x.lo),(ag x.lo)] _),
  .c (Fg _ _ true ⟨fun _=>rfl,fun _=>rfl⟩ (by have:=w2.af;omega) (by have:=w2.af;omega):ae 101 [(ag x.hi),(ag x.hi)] _)] <| .nil) (by kernel_rfl)
theorem Oe(x:Iv)(hx:x.Valid):ae 57 [(ai x),(ai x)] (bP true):=by
 exact tr true Tryz.call57 Tryz.func57 (.w (x.all=true)
  (fun k1=>chain [tB 6 (k1),tB 9 (k1)] <| .nil)
  (fun k1=>chain [tB 6 (Bool.eq_false_iff.2 k1),.c (Qq _ ‹_›:ae 58 [(ai x),(ai x)] _)] <| .nil)) (by kernel_rfl)
theorem Of(b:List Iv)(hb:dM b)(h8:b.length<=8):ae 21 [(an b),(an b)] (bP true):=by
 exact tr true Tryz.call21 Tryz.func21 (chain [.c (AA b b 57 [] (fun _=>true) rfl (by omega) (fun i hi=>Oe _ (hb i hi).1) (fun _ _=>rfl))] <| .nil) (by kernel_rfl)
noncomputable def ns(s:bU)(x:List Iv)(d:Dy)(p:Nat):Option (List Iv):=@dite (Option (List Iv)) (dp s/\bO s.au x/\d.Valid/\0<d.sign/\8<=p/\p<=512) (Classical.propDecidable _) (fun h=>Classical.choose (B9 s x d p h.1 h.2.1 h.2.2.1 h.2.2.2.1 h.2.2.2.2.1 h.2.2.2.2.2)) (fun _=>none)
theorem B8(s:bU)(x:List Iv)(d:Dy)(p:Nat)(h:dp s)(hx:bO s.au x)(hd:d.Valid)(h0:0<d.sign)(hp1:8<=p)(hp2:p<=512):ae 26 [bw s,an x,ag d,iP (p:Int)] (B7 (ns s x d p))/\(∀ b,ns s x d p=some b->bO s.au b/\fK s x d b p=true)/\(ns s x d p=none->∀ k:Nat,k<24->eV s x d p ((k:Int)-20)=false):=by
 have hh:dp s/\bO s.au x/\d.Valid/\0<d.sign/\8<=p/\p<=512:=⟨h,hx,hd,h0,hp1,hp2⟩
 unfold ns;rw[dif_pos hh];exact Classical.choose_spec (B9 s x d p h hx hd h0 hp1 hp2)
theorem KZ(s:bk)(g:s.Good)(sm:s.Small)(x:List RI)(gx:∀ i,(x.getD i aR).Good)(hxl:x.length<=1000)(d:RD)(gd:d.Good)(p:Int)(hf:df s x d p=false):ae 26 [(ct s),(bI x),(cO d),(iP p)] (.aq [.v (.slice none 0 0),iP 1]):=by
 exact tr true Tryz.call26 Tryz.func26 (chain [.c (by rw[<-hf];exact Mg s g sm x gx hxl d gd p:ae 41 [(ct s),(bI x),(cO d),(iP p)] (bP false))] <| .nil) (by kernel_rfl)
theorem Mi{s:bk}(g:s.Good){x:List RI}(gx:∀ i,(x.getD i aR).Good){d:RD}(gd:d.Good){p:Int}(h:df s x d p=true):dp s.v/\bO s.v.au (x.map RI.iv)/\d.dy.Valid/\0<d.dy.sign/\8<=p/\p<=512/\ct s=bw s.v/\bI x=an (x.map RI.iv)/\cO d=ag d.dy:=by
 unfold df at h;simp only[Bool.and_eq_true,decide_eq_true_eq]at h;obtain⟨⟨⟨⟨h1,h2⟩,h3⟩,h4⟩,h5⟩:=h;obtain⟨o1,o2⟩:=RH g h1;have h3:=jH.1 h3;unfold gP at h2;rw[Bool.and_eq_true,decide_eq_true_eq]at h2;obtain⟨b1,b2⟩:=h2;have pa:∀ i,i<x.length->(x.getD i aR).Ok/\(x.getD i aR).all=false:=fun i hi=>by
  have:=List.all_eq_true.1 b2 i (List.mem_range.2 hi);unfold dE at this;rw[Bool.and_eq_true]at this;exact⟨gV.1 this.1,by simpa using this.2⟩
 have at_:∀ i,i<x.length->(x.map RI.iv).getD i aj=(x.getD i aR).iv:=fun i hi=>by simp[List.getD_eq_getElem?_getD,hi]
 have s1:=o1.s1;refine⟨o1,⟨by rw[List.length_map];show x.length=s.au.toNat;omega,fun i hi=>?_⟩,h3.valid,h4,h5.1,h5.2,o2,?_,?_⟩
 .have hi:i<x.length:=by simpa using hi
  rw[at_ i hi];exact⟨(pa i hi).1.valid,(pa i hi).2⟩
 .rw [<-Da]
  congr 1;apply List.ext_getElem?;intro i;unfold nS;rw[List.getElem?_map,List.getElem?_map];by_cases hi:i<x.length
  .have h1:=(pa i hi).1
   have g1:=gx i;rw[List.getElem?_eq_getElem hi];rw[List.getD_eq_getElem?_getD,List.getElem?_eq_getElem hi]at h1 g1;exact congrArg some (RI.Ok.eq (x:=x[i]) h1 g1).symm
  .rw [List.getElem?_eq_none (by omega)];rfl
 .rw [<-sP,h3.eq gd]
end Go.Proofs.YtdgnpeddgdclhaaGreatDoor
namespace Go.Proofs.YtdgnpeddgdclhaaGreatDoor.Fp
theorem J2{s:Bool}{m:Nat}{e:Int}(hm:ak m<=60000)(he1:-60000<=e)(he2:e<=60000):(af (canon s m e).m).length<=2900 /\ -200000<=(canon s m e).e/\(canon s m e).e<=200000:=by
 by_cases h0:m=0
 .subst h0;rw[oE];exact⟨by rw[show aT.m=0 from rfl,dP];decide,by decide,by decide⟩
 .obtain ⟨h1,h2,h3,h4⟩:=ni (s:=s) (e:=e) h0
  have h5:=dX h3;exact⟨qD (by omega),by omega,by omega⟩
theorem Ec{a:Dy}{k:Int}(h:k<=a.e):ak (a.num k).natAbs<=ak a.m+(a.e-k).toNat:=by
 have e:(a.num k).natAbs=a.m*2^(a.e-k).toNat:=by
  unfold Dy.num Dy.aZ;split
  .rw [Int.natAbs_neg];exact Int.natAbs_natCast _
  .exact Int.natAbs_natCast _
 rw[e];by_cases h0:a.m=0
 .rw [h0,Nat.zero_mul];exact Nat.zero_le _
 .rw [fu h0];exact Nat.le_refl _
theorem Gc{a b:Dy}(ha:a.Valid)(hb:b.Valid):(af (av a b).m).length<=2900 /\ -200000<=(av a b).e/\(av a b).e<=200000:=by
 have h1:=ha.bits;have h2:=hb.bits;have h3:=ha.exp;have h4:=hb.exp;have la:=ha.len;have lb:=hb.len;unfold av;split
 .exact ⟨by omega,by omega,by omega⟩
 .split
  .exact ⟨by omega,by omega,by omega⟩
  .have g1:=Ec (a:=a) (k:=min a.e b.e) (by omega)
   have g2:=Ec (a:=b) (k:=min a.e b.e) (by omega);refine J2 ?_ (by omega) (by omega);obtain⟨K,hK⟩:∃ K,K=40000:=⟨_,rfl⟩
   have g3:=cv.1 (Nat.le_trans g1 (show ak a.m+(a.e-min a.e b.e).toNat<=K by omega));have g4:=cv.1 (Nat.le_trans g2 (show ak b.m+(b.e-min a.e b.e).toNat<=K by omega));refine Nat.le_trans ((cv (k:=K+1)).2 ?_) (show K+1<=60000 by omega)
   have g5:(a.num (min a.e b.e)+b.num (min a.e b.e)).natAbs<=(a.num (min a.e b.e)).natAbs+(b.num (min a.e b.e)).natAbs:=Int.natAbs_add_le _ _;rw[Nat.pow_succ];generalize 2^K=P at *
   omega
end Go.Proofs.YtdgnpeddgdclhaaGreatDoor.Fp
namespace Go.Proofs.YtdgnpeddgdclhaaGreatDoor
open Go.RowKit Fp Pu
def EJ(x:List Iv)(i:Nat):PS:=⟨31,true,[(3,.e (iP i)),(0,.e (an x))],[]⟩
def EI(x:List Iv)(d:Dy)(i:Nat):PS:=⟨63,true,[(6,.own 6),(7,.e (iP i)),(3,.box 3 0),(0,.e (an x))],[(6,.row true 41 i 7 (bA ((List.range i).map (fun j_=>dg (x.getD j_ aj) d)))),(3,.cells 31 (aQ d))]⟩
def EG(x:List Iv)(d:Dy)(N:Nat)(i:Nat):PS:=⟨63,true,[(6,.own 6),(7,.e (iP i)),(3,.box 3 0),(0,.e (an x))],[(6,.row true 41 i 7 (bA ((List.range i).map (fun j_=>dg (x.getD j_ aj) d)))),(3,.cells 31 (aQ d))]⟩
def EH(x:List Iv)(d:Dy)(N:Nat)(i:Nat):PS:=⟨63,true,[(6,.own 6),(7,.e (iP i)),(3,.box 3 0),(0,.e (an x))],[(6,.row true 41 i 7 (bA ((List.range i).map (fun j_=>dg (x.getD j_ aj) d)))),(3,.cells 31 (aQ d))]⟩
def Cb(s:bU)(x:List Iv)(d:Dy)(p:Nat)(i:Nat):PS:=⟨97,true,[(13,.e (iP ((i:Int)-20))),(6,.box 6 0),(4,.box 4 0),(1,.e (an x)),(3,.e (iP p))],[(6,.cells 31 (aQ d)),(4,.cells 28 [(iP s.tape.ins),(cU s.tape.ops),(cT s.tape.outs),(iP s.au),(an s.params)])]⟩
theorem Qm(d:Dy)(hv:d.Valid):ae 75 [(ag d)] (.aq [ag d,iP 0]):=by
 exact tr true Tryz.call75 Tryz.func75 (chain [.c (ja _ hv:ae 46 [(ag d)] _)] <| .nil) (by kernel_rfl)
theorem Qp(d:Dy)(hd:¬d.Valid)(h1:-10000000<=d.e)(h2:d.e<=10000000):ae 46 [ag d] (bP false):=by
 rw[<-sP];exact rp d.raw ⟨cA _,by show -9223372036854775808<=d.e;omega,by show d.e<=9223372036854775807;omega⟩ false ⟨fun h=>absurd h (by decide),fun h=>absurd (show d.Valid by have:=RD.Ok.valid h;rwa[Dy.yh]at this) hd⟩
theorem Ql(d:Dy)(hv:¬d.Valid)(h1:-10000000<=d.e)(h2:d.e<=10000000):ae 75 [(ag d)] (.aq [ag aT,iP 9]):=by
 exact tr true Tryz.call75 Tryz.func75 (chain [.c (Qp _ hv h1 h2:ae 46 [(ag d)] _),.o 7 (.e kf:PV.le (.e (.agg [(bP false),(.v (.slice none 0 0)),(iP 0)])) (.e (ag aT)))] <| .nil) (by kernel_rfl)
theorem EC(d:Dy)(hc:d.Canon)(h1:-10000000<=d.e)(h2:d.e<=10000000):ae 75 [ag d] (.aq [ag (aO d),iP (bV d)]):=by
 by_cases h:cY d
 .rw [mj h,pZ h];exact Qm d ⟨hc,h⟩
 .rw [sG h,pY h];exact Ql d (fun q=>h q.range) h1 h2
theorem ri(a b:Dy)(ha:a.Valid)(hb:b.Valid):ae 118 [(ag a),(ag b)] (.aq [(ag (aO (av a b))),(iP (bV (av a b)))]):=by
 obtain⟨_,f1,f2⟩:=Gc ha hb;have hc:=kT ha.canon hb.canon;exact tr true Tryz.call118 Tryz.func118 (chain [.c (ja _ ‹_›:ae 46 [(ag a)] _),.c (ja _ ‹_›:ae 46 [(ag b)] _),.c (yy a b ha.mE hb.mE),.c (EC _ hc (by omega) (by omega):ae 75 [(ag (av a b))] _)] <| .nil) (by kernel_rfl)
theorem rj(a b:Dy)(ha:a.Valid)(hb:b.Valid):ae 117 [(ag a),(ag b)] (.aq [(ag (aO (av a (aC b)))),(iP (bV (av a (aC b))))]):=by
 have hn:=kC hb;obtain⟨_,f1,f2⟩:=Gc ha hn;have hc:=kT ha.canon hn.canon;exact tr true Tryz.call117 Tryz.func117 (chain [.c (ja _ ‹_›:ae 46 [(ag a)] _),.c (ja _ ‹_›:ae 46 [(ag b)] _),.c (Fh _:ae 99 [(ag b)] _),.c (yy a (aC b) ha.mE hn.mE),
  .c (EC _ hc (by omega) (by omega):ae 75 [(ag (av a (aC b)))] _)] <| .nil) (by kernel_rfl)
theorem yb(x:List Iv)(x1:1<=x.length)(x8:x.length<=8)(hx:dM x):ae 100 [(an x)] (bP true):=by
 exact tr true Tryz.call100 Tryz.func100 (chain [tF 6 ((x.length:Int)<1) (by omega),tF 10 (8<(x.length:Int)) (by omega),
  .s (Sp.upto (EJ x) 0 x.length (by omega) (fun i hi hlti=>by
    have hxi:=hx i (by omega);exact aB (chain [tT 15 ((i:Int)<(x.length:Int)) (by omega),iX ((i:Int)) (x.length) (by omega),tB 22 (hxi.2:(x.getD i aj).all=false),iX ((i:Int)) (x.length) (by omega),
     .c (by have h_:=lG (Iv.raw (x.getD i aj)) hxi.1.tf;rw[qw,gV.2 hxi.1.tS]at h_;exact h_:ae 19 [(ai (x.getD i aj))] (bP true)),ar ((i:Int)+1) (by omega)] <| .nil) (by kernel_rfl))
  (fun hi=>by
    exact aB (chain [tF 15 ((x.length:Int)<(x.length:Int)) (by omega)] <| .nil) (by kernel_rfl)) (by nofun):bD 4 Tryz.f100 (EJ x 0) (.exit 0) ⟨31,true,[],[]⟩) .nil] <| .nil) (by kernel_rfl)
theorem Qv(x:List Iv)(d:Dy)(x1:1<=x.length)(x8:x.length<=8)(hx:dM x)(hd:d.Valid)(h0:d.neg=false)(hlo:∀ i,i<x.length->fQ (x.getD i aj) d=true):ae 67 [(an x),(ag d)] (.aq [an ((List.range x.length).map (fun j_=>dg (x.getD j_ aj) d)),iP 0]):=by
 exact tr true Tryz.call67 Tryz.func67 (chain [.c (yb _ (by omega) (by omega) ‹_›:ae 100 [(an x)] _),.c (ja _ ‹_›:ae 46 [(ag d)] _),tB 22 (h0:d.neg=false),
  .y 6 6 true 41 7 (bA ((List.range 0).map (fun j_=>dg (x.getD j_ aj) d))),
  .s (Sp.upto (EI x d) 0 x.length (by omega) (fun i hi hlti=>by
    obtain⟨w1,w2⟩:=(hx i (by omega)).1.ends;obtain⟨g1,g2⟩:=oY (hlo i (by omega));have hol:=iY (Iv.mk (aO (av (x.getD i aj).lo (aC d))) (aO (av (x.getD i aj).hi d)) false);exact aB (chain [tT 27 ((i:Int)<(x.length:Int)) (by omega),iX ((i:Int)) (x.length) (by omega),.c (rj _ _ ‹_› ‹_›:ae 117 [(ag ((x.getD i aj).lo)),(ag d)] _),
     iX ((i:Int)) (x.length) (by omega),.c (ri _ _ ‹_› ‹_›:ae 118 [(ag ((x.getD i aj).hi)),(ag d)] _),tB 51 (by rw[g1];rfl:((bV (av ((x.getD i aj).lo) (aC d))) != 0)=false),
     tB 54 (by rw[g2];rfl:((bV (av ((x.getD i aj).hi) d)) != 0)=false),
     .o 60 (.e (cR _):PV.le (.e (.sl true 1 7 fun i_ j_=>(aF (Iv.mk (aO (av ((x.getD i aj).lo) (aC d))) (aO (av ((x.getD i aj).hi) d)) false)).getD (i_*7+j_) (.v (.bool false)))) (.e (an [(Iv.mk (aO (av ((x.getD i aj).lo) (aC d))) (aO (av ((x.getD i aj).hi) d)) false)]))),
     .a (by omega:(i+[(Iv.mk (aO (av ((x.getD i aj).lo) (aC d))) (aO (av ((x.getD i aj).hi) d)) false)].length)*88<=140737488355328),ar ((i:Int)+1) (by omega)] <| .e (chain [.b 6 (kz rfl rfl rfl:Bx.le (.row true 41 (i+[(Iv.mk (aO (av ((x.getD i aj).lo) (aC d))) (aO (av ((x.getD i aj).hi) d)) false)].length) 7 (fun i_ j_=>if i_<i then(bA ((List.range i).map (fun j_=>dg (x.getD j_ aj) d))) i_ j_ else(E.fP (an [(Iv.mk (aO (av ((x.getD i aj).lo) (aC d))) (aO (av ((x.getD i aj).hi) d)) false)])) (i_-i) j_)) (.row true 41 (i+1) 7 (bA ((List.range (i+1)).map (fun j_=>dg (x.getD j_ aj) d)))))] <| .nil)) (by kernel_rfl))
  (fun hi=>by
    exact aB (chain [tF 27 ((x.length:Int)<(x.length:Int)) (by omega),.z 6] <| .e (chain [.o 6 (.e (nD (by simp)):PV.le (.e (.sl true x.length 7 (bA ((List.range x.length).map (fun j_=>dg (x.getD j_ aj) d))))) (.e (an ((List.range x.length).map (fun j_=>dg (x.getD j_ aj) d)))))] <| .nil)) (by kernel_rfl)) (by nofun):bD 5 Tryz.f67 (EI x d 0) (.exit 0) ⟨63,true,[(6,.e (an ((List.range x.length).map (fun j_=>dg (x.getD j_ aj) d))))],[]⟩) .nil] <| .nil) (by kernel_rfl)
theorem Qs(x:List Iv)(d:Dy)(x1:1<=x.length)(x8:x.length<=8)(hx:dM x)(hd:d.Valid)(h0:d.neg=false)(N:Nat)(hN0:N<x.length)(hlo:∀ i,i<N->fQ (x.getD i aj) d=true)(hN:bV (av (x.getD N aj).lo (aC d))≠0):ae 67 [(an x),(ag d)] (.aq [.v (.slice none 0 0),iP 9]):=by
 exact tr true Tryz.call67 Tryz.func67 (chain [.c (yb _ (by omega) (by omega) ‹_›:ae 100 [(an x)] _),.c (ja _ ‹_›:ae 46 [(ag d)] _),tB 22 (h0:d.neg=false),
  .y 6 6 true 41 7 (bA ((List.range 0).map (fun j_=>dg (x.getD j_ aj) d))),
  .s (Sp.upto (EG x d N) 0 N (by omega) (fun i hi hlti=>by
    obtain⟨w1,w2⟩:=(hx i (by omega)).1.ends;obtain⟨g1,g2⟩:=oY (hlo i (by omega));have hol:=iY (Iv.mk (aO (av (x.getD i aj).lo (aC d))) (aO (av (x.getD i aj).hi d)) false);exact aB (chain [tT 27 ((i:Int)<(x.length:Int)) (by omega),iX ((i:Int)) (x.length) (by omega),.c (rj _ _ ‹_› ‹_›:ae 117 [(ag ((x.getD i aj).lo)),(ag d)] _),
     iX ((i:Int)) (x.length) (by omega),.c (ri _ _ ‹_› ‹_›:ae 118 [(ag ((x.getD i aj).hi)),(ag d)] _),tB 51 (by rw[g1];rfl:((bV (av ((x.getD i aj).lo) (aC d))) != 0)=false),
     tB 54 (by rw[g2];rfl:((bV (av ((x.getD i aj).hi) d)) != 0)=false),
     .o 60 (.e (cR _):PV.le (.e (.sl true 1 7 fun i_ j_=>(aF (Iv.mk (aO (av ((x.getD i aj).lo) (aC d))) (aO (av ((x.getD i aj).hi) d)) false)).getD (i_*7+j_) (.v (.bool false)))) (.e (an [(Iv.mk (aO (av ((x.getD i aj).lo) (aC d))) (aO (av ((x.getD i aj).hi) d)) false)]))),
     .a (by omega:(i+[(Iv.mk (aO (av ((x.getD i aj).lo) (aC d))) (aO (av ((x.getD i aj).hi) d)) false)].length)*88<=140737488355328),ar ((i:Int)+1) (by omega)] <| .e (chain [.b 6 (kz rfl rfl rfl:Bx.le (.row true 41 (i+[(Iv.mk (aO (av ((x.getD i aj).lo) (aC d))) (aO (av ((x.getD i aj).hi) d)) false)].length) 7 (fun i_ j_=>if i_<i then(bA ((List.range i).map (fun j_=>dg (x.getD j_ aj) d))) i_ j_ else(E.fP (an [(Iv.mk (aO (av ((x.getD i aj).lo) (aC d))) (aO (av ((x.getD i aj).hi) d)) false)])) (i_-i) j_)) (.row true 41 (i+1) 7 (bA ((List.range (i+1)).map (fun j_=>dg (x.getD j_ aj) d)))))] <| .nil)) (by kernel_rfl))
  (fun hi=>by
    obtain⟨w1,w2⟩:=(hx N (by omega)).1.ends;exact aB (chain [tT 27 ((N:Int)<(x.length:Int)) (by omega),iX ((N:Int)) (x.length) (by omega),.c (rj _ _ ‹_› ‹_›:ae 117 [(ag ((x.getD N aj).lo)),(ag d)] _),
    iX ((N:Int)) (x.length) (by omega),.c (ri _ _ ‹_› ‹_›:ae 118 [(ag ((x.getD N aj).hi)),(ag d)] _),tB 51 (by simpa using hN:((bV (av ((x.getD N aj).lo) (aC d))) != 0)=true)] <| .nil) (by kernel_rfl)) (by nofun):bD 5 Tryz.f67 (EG x d N 0) .ret ⟨63,true,[(5,.e (iP 9)),(4,.e (.v (.slice none 0 0)))],[]⟩) .nil] <| .nil) (by kernel_rfl)
theorem Qt(x:List Iv)(d:Dy)(x1:1<=x.length)(x8:x.length<=8)(hx:dM x)(hd:d.Valid)(h0:d.neg=false)(N:Nat)(hN0:N<x.length)(hlo:∀ i,i<N->fQ (x.getD i aj) d=true)(hM:bV (av (x.getD N aj).lo (aC d))=0)(hN:bV (av (x.getD N aj).hi d)≠0):ae 67 [(an x),(ag d)] (.aq [.v (.slice none 0 0),iP 9]):=by
 exact tr true Tryz.call67 Tryz.func67 (chain [.c (yb _ (by omega) (by omega) ‹_›:ae 100 [(an x)] _),.c (ja _ ‹_›:ae 46 [(ag d)] _),tB 22 (h0:d.neg=false),
  .y 6 6 true 41 7 (bA ((List.range 0).map (fun j_=>dg (x.getD j_ aj) d))),
  .s (Sp.upto (EH x d N) 0 N (by omega) (fun i hi hlti=>by
    obtain⟨w1,w2⟩:=(hx i (by omega)).1.ends;obtain⟨g1,g2⟩:=oY (hlo i (by omega));have hol:=iY (Iv.mk (aO (av (x.getD i aj).lo (aC d))) (aO (av (x.getD i aj).hi d)) false);exact aB (chain [tT 27 ((i:Int)<(x.length:Int)) (by omega),iX ((i:Int)) (x.length) (by omega),.c (rj _ _ ‹_› ‹_›:ae 117 [(ag ((x.getD i aj).lo)),(ag d)] _),
     iX ((i:Int)) (x.length) (by omega),.c (ri _ _ ‹_› ‹_›:ae 118 [(ag ((x.getD i aj).hi)),(ag d)] _),tB 51 (by rw[g1];rfl:((bV (av ((x.getD i aj).lo) (aC d))) != 0)=false),
     tB 54 (by rw[g2];rfl:((bV (av ((x.getD i aj).hi) d)) != 0)=false),
     .o 60 (.e (cR _):PV.le (.e (.sl true 1 7 fun i_ j_=>(aF (Iv.mk (aO (av ((x.getD i aj).lo) (aC d))) (aO (av ((x.getD i aj).hi) d)) false)).getD (i_*7+j_) (.v (.bool false)))) (.e (an [(Iv.mk (aO (av ((x.getD i aj).lo) (aC d))) (aO (av ((x.getD i aj).hi) d)) false)]))),
     .a (by omega:(i+[(Iv.mk (aO (av ((x.getD i aj).lo) (aC d))) (aO (av ((x.getD i aj).hi) d)) false)].length)*88<=140737488355328),ar ((i:Int)+1) (by omega)] <| .e (chain [.b 6 (kz rfl rfl rfl:Bx.le (.row true 41 (i+[(Iv.mk (aO (av ((x.getD i aj).lo) (aC d))) (aO (av ((x.getD i aj).hi) d)) false)].length) 7 (fun i_ j_=>if i_<i then(bA ((List.range i).map (fun j_=>dg (x.getD j_ aj) d))) i_ j_ else(E.fP (an [(Iv.mk (aO (av ((x.getD i aj).lo) (aC d))) (aO (av ((x.getD i aj).hi) d)) false)])) (i_-i) j_)) (.row true 41 (i+1) 7 (bA ((List.range (i+1)).map (fun j_=>dg (x.getD j_ aj) d)))))] <| .nil)) (by kernel_rfl))
  (fun hi=>by
    obtain⟨w1,w2⟩:=(hx N (by omega)).1.ends;exact aB (chain [tT 27 ((N:Int)<(x.length:Int)) (by omega),iX ((N:Int)) (x.length) (by omega),.c (rj _ _ ‹_› ‹_›:ae 117 [(ag ((x.getD N aj).lo)),(ag d)] _),
    iX ((N:Int)) (x.length) (by omega),.c (ri _ _ ‹_› ‹_›:ae 118 [(ag ((x.getD N aj).hi)),(ag d)] _),tB 51 (by rw[hM];rfl:((bV (av ((x.getD N aj).lo) (aC d))) != 0)=false),
    tB 54 (by simpa using hN:((bV (av ((x.getD N aj).hi) d)) != 0)=true)] <| .nil) (by kernel_rfl)) (by nofun):bD 5 Tryz.f67 (EH x d N 0) .ret ⟨63,true,[(5,.e (iP 9)),(4,.e (.v (.slice none 0 0)))],[]⟩) .nil] <| .nil) (by kernel_rfl)
theorem Qu(x:List Iv)(d:Dy)(x1:1<=x.length)(x8:x.length<=8)(hx:dM x)(hd:d.Valid)(h0:d.neg=false)(hg:eG x d=true):ae 67 [an x,ag d] (.aq [an (ey x d),iP 0]):=by
 unfold ey;rw[if_pos hg];exact Qv x d x1 x8 hx hd h0 fun i hi=>List.all_eq_true.1 hg i (List.mem_range.2 hi)
theorem Qr(x:List Iv)(d:Dy)(x1:1<=x.length)(x8:x.length<=8)(hx:dM x)(hd:d.Valid)(h0:d.neg=false)(hg:eG x d=false):ae 67 [an x,ag d] (.aq [.v (.slice none 0 0),iP 9]):=by
 obtain⟨i,hi,hb⟩:=List.all_eq_false.1 hg;obtain⟨N,h1,h2,h3⟩:=gF (p:=fun i=>!(fQ (x.getD i aj) d)) ⟨i,List.mem_range.1 hi,by simpa using hb⟩;have hlo:∀ i,i<N->fQ (x.getD i aj) d=true:=fun i hi=>by simpa using h3 i hi
 have h2:fQ (x.getD N aj) d=false:=by simpa using h2
 by_cases hM:bV (av (x.getD N aj).lo (aC d))=0
 .exact Qt x d x1 x8 hx hd h0 N h1 hlo hM fun q=>by
   unfold fQ at h2;rw[hM,q]at h2;exact absurd h2 (by decide)
 .exact Qs x d x1 x8 hx hd h0 N h1 hlo hM
theorem Nd(x:List Iv)(x1:1<=x.length)(x8:x.length<=8)(hx:dM x)(k:Int)(k1:-100<=k)(k2:k<=100)(hg:eG x (cP k)=true):ae 27 [(an x),(iP k)] (an (ey x (cP k))):=by
 exact tr true Tryz.call27 Tryz.func27 (chain [.o 9 (.e one_le:PV.le (.e (.sl false 1 1 fun i_ j_=>[(.v (.int .u32 1))].getD (i_*1+j_) (.v (.bool false)))) (.e (ah (af 1)))),
  .c (Qu x (cP k) x1 x8 hx (pJ k1 k2) rfl hg:ae 67 [(an x),(ag (Dy.mk false 1 k))] _),tB 16 (by decide:((0:Int) != 0)=false)] <| .nil) (by kernel_rfl)
theorem Nc(x:List Iv)(x1:1<=x.length)(x8:x.length<=8)(hx:dM x)(k:Int)(k1:-100<=k)(k2:k<=100)(hg:eG x (cP k)=false):ae 27 [(an x),(iP k)] (.v (.slice none 0 0)):=by
 exact tr true Tryz.call27 Tryz.func27 (chain [.o 9 (.e one_le:PV.le (.e (.sl false 1 1 fun i_ j_=>[(.v (.int .u32 1))].getD (i_*1+j_) (.v (.bool false)))) (.e (ah (af 1)))),
  .c (Qr x (cP k) x1 x8 hx (pJ k1 k2) rfl hg:ae 67 [(an x),(ag (Dy.mk false 1 k))] _),tB 16 (by decide:((9:Int) != 0)=true)] <| .nil) (by kernel_rfl)
theorem IJ(s:bU)(h:dp s):ae 42 [(bw s),(.v (.slice none 0 0))] (bP false):=by
 have s1:=h.s1;exact tr true Tryz.call42 Tryz.func42 (chain [tB 9 (beq_eq_false_iff_ne.2 (by omega):(0==(s.au:Int))=false)] <| .nil) (by kernel_rfl)
theorem Nq(s:bU)(x:List Iv)(d:Dy)(p:Nat)(h:dp s)(hx:bO s.au x)(hd:d.Valid)(h0:0<d.sign)(hp1:8<=p)(hp2:p<=512):ae 13 [(bw s),(an x),(ag d),(.v (.slice none 0 0)),(iP p)] (.v (.slice none 0 0)):=by
 exact tr true Tryz.call13 Tryz.func13 (chain [.c (mr s x d p h hx hd h0 hp1 hp2),.c (IJ _ h:ae 42 [(bw s),(.v (.slice none 0 0))] _)] <| .nil) (by kernel_rfl)
theorem holds_nil(s:bU)(x:List Iv)(d:Dy)(p:Nat)(h:dp s)(hx:bO s.au x)(hd:d.Valid)(h0:0<d.sign)(hp1:8<=p)(hp2:p<=512):ae 23 [(bw s),(an x),(ag d),(.v (.slice none 0 0)),(iP p)] (bP false):=by
 exact tr true Tryz.call23 Tryz.func23 (chain [.c (Nq _ _ _ _ h hx hd h0 hp1 hp2:ae 13 [(bw s),(an x),(ag d),(.v (.slice none 0 0)),(iP p)] _),tB 20 (by decide:(decide ((0:Int)<0))=false)] <| .nil) (by kernel_rfl)
theorem K3(s:bk)(x:List RI)(d:RD)(p:Int)(g:s.Good)(gx:∀ i,(x.getD i aR).Good)(gd:d.Good)(hE:(¬ie s=true\/¬im x=true\/eX d=true\/100<p)):ae 5 [(ct s),(bI x),(cO d),(iP p)] (bP true):=by
 exact tr true Tryz.call5 Tryz.func5 (chain [.c tw,.c (xf s)] <| .w (ie s=true)
  (fun k1=>chain [tB 17 (k1),.c (tz x)] <| .w (im x=true)
   (fun k2=>chain [tB 21 (k2),.c (qA d)] <| .w (eX d=true)
    (fun k3=>chain [tB 26 (k3)] <| .nil)
    (fun k3=>chain [tB 26 (Bool.eq_false_iff.2 k3)] <| .w (100<p)
     (fun k4=>chain [tB 30 (decide_eq_true k4)] <| .nil)
     (fun k4=>.x (by rcases hE with q|q|q|q<;>first|contradiction|omega))))
   (fun k2=>chain [tB 21 (Bool.eq_false_iff.2 k2)] <| .nil))
  (fun k1=>chain [tB 17 (Bool.eq_false_iff.2 k1)] <| .nil)) (by kernel_rfl)
theorem K4(s:bk)(x:List RI)(d:RD)(p:Int)(g:s.Good)(gx:∀ i,(x.getD i aR).Good)(gd:d.Good)(h1:ie s=true)(h2:im x=true)(h3:eX d=false)(h4:p<=100)(hf:df s x d p=false):ae 5 [(ct s),(bI x),(cO d),(iP p)] (bP true):=by
 have sm:=Cn h1;have hxl:x.length<=1000:=by have:=yS h2;omega
 exact tr true Tryz.call5 Tryz.func5 (chain [.c tw,.c (xf s),tB 18 (by rw[h1];rfl:(!(ie s))=false),.c (tz x),tB 22 (by rw[h2];rfl:(!(im x))=false),.c (qA d),tB 26 (h3:(eX d)=false),tF 30 (100<p) (by omega),
  .c (KZ s g sm x gx hxl d gd p hf),.c (by rw[<-hf];exact EB s g sm x gx hxl d gd p:ae 14 [(ct s),(bI x),(cO d),(iP p)] (bP false)),tB 47 (by decide:((1:Int)==1)=true),
  tB 51 (by decide:((0:Int)==0)=true)] <| .nil) (by kernel_rfl)
theorem K6(s:bU)(x:List Iv)(d:Dy)(p:Nat)(h:dp s)(hx:bO s.au x)(hd:d.Valid)(h0:0<d.sign)(hp1:8<=p)(hp2:p<=512)(p100:p<=100)(hfew:ae 10 [bw s] (bP true))(hshort:ae 11 [an x] (bP true))(hlong:ae 12 [ag d] (bP false))(hcase:ae 14 [bw s,an x,ag d,iP (p:Int)] (bP true))(b:List Iv)(hn:ns s x d p=some b):ae 5 [(bw s),(an x),(ag d),(iP p)] (bP true):=by
 have hob:=(B8 s x d p h hx hd h0 hp1 hp2)
 have hE:=hob.1;rw[hn]at hE;obtain⟨hb,hh⟩:=hob.2.1 b hn;have vb:=hb.ok;have lb:=hb.len;have s4:=h.s4;exact tr true Tryz.call5 Tryz.func5 (chain [.c tw,.c (hfew:ae 10 [(bw s)] _),.c (hshort:ae 11 [(an x)] _),.c (hlong:ae 12 [(ag d)] _),tF 30 (100<(p:Int)) (by omega),.c (hE:ae 26 [(bw s),(an x),(ag d),(iP p)] _),
  .c (hcase:ae 14 [(bw s),(an x),(ag d),(iP p)] _),tB 54 (by decide:((0:Int)==0)=true),.c (hE:ae 26 [(bw s),(an x),(ag d),(iP p)] _),
  .c (by rw[<-hh];exact k0 s x d b p h hx hd h0 hb hp1 hp2:ae 23 [(bw s),(an x),(ag d),(an b),(iP p)] (bP true)),tB 71 (by decide:((0:Int)==0)=true),.c (Of b ‹_› (by omega))] <| .nil) (by kernel_rfl)
theorem K5(s:bU)(x:List Iv)(d:Dy)(p:Nat)(h:dp s)(hx:bO s.au x)(hd:d.Valid)(h0:0<d.sign)(hp1:8<=p)(hp2:p<=512)(p100:p<=100)(hfew:ae 10 [bw s] (bP true))(hshort:ae 11 [an x] (bP true))(hlong:ae 12 [ag d] (bP false))(hcase:ae 14 [bw s,an x,ag d,iP (p:Int)] (bP true))(hn:ns s x d p=none):ae 5 [(bw s),(an x),(ag d),(iP p)] (bP true):=by
 have hob:=(B8 s x d p h hx hd h0 hp1 hp2)
 have hE:=hob.1;rw[hn]at hE;have hno:=hob.2.2 hn;have s1:=h.s1;have s4:=h.s4;obtain⟨x1,x4,xo⟩:=kr hx s1 s4;exact tr true Tryz.call5 Tryz.func5 (chain [.c tw,.c (hfew:ae 10 [(bw s)] _),.c (hshort:ae 11 [(an x)] _),.c (hlong:ae 12 [(ag d)] _),tF 30 (100<(p:Int)) (by omega),.c (hE:ae 26 [(bw s),(an x),(ag d),(iP p)] _),
  .c (hcase:ae 14 [(bw s),(an x),(ag d),(iP p)] _),tB 54 (by decide:((12:Int)==0)=false),tB 79 (by decide:((12:Int) != 12)=false),tB 83 (by decide:((0:Int) != 0)=false),
  .s (Sp.upto (Cb s x d p) 0 24 (by omega) (fun i hi hlti=>by
    by_cases hg:eG x (cP ((i:Int)-20))=true
    .have hat:fK s x d (ey x (cP ((i:Int)-20))) p=false:=by have:=hno i (by omega);unfold eV at this;rw[hg,Bool.true_and]at this;exact this
     exact aB (chain [tT 86 (((i:Int)-20)<=3) (by omega),.c (Nd x (by omega) (by omega) xo ((i:Int)-20) (by omega) (by omega) hg:ae 27 [(an x),(iP ((i:Int)-20))] _),
      .c (by rw[<-hat];exact k0 s x d _ p h hx hd h0 (tg hx (pJ (k:=((i:Int)-20)) (by omega) (by omega)) (yU (uL _)) hg) hp1 hp2:ae 23 [(bw s),(an x),(ag d),(an (ey x (cP ((i:Int)-20)))),(iP p)] (bP false)),
      ar (((i:Int)-20)+1) (by omega)] <| .e (chain [.o 13 (.int (by omega):PV.le (.e (iP (((i:Int)-20)+1))) (.e (iP ((((i+1):Nat):Int)-20))))] <| .nil)) (by kernel_rfl)
    .replace hg:eG x (cP ((i:Int)-20))=false:=by simpa using hg
     exact aB (chain [tT 86 (((i:Int)-20)<=3) (by omega),.c (Nc x (by omega) (by omega) xo ((i:Int)-20) (by omega) (by omega) hg:ae 27 [(an x),(iP ((i:Int)-20))] _),
      .c (holds_nil s x d p h hx hd h0 hp1 hp2:ae 23 [(bw s),(an x),(ag d),(.v (.slice none 0 0)),(iP p)] _),ar (((i:Int)-20)+1) (by omega)] <| .e (chain [.o 13 (.int (by omega):PV.le (.e (iP (((i:Int)-20)+1))) (.e (iP ((((i+1):Nat):Int)-20))))] <| .nil)) (by kernel_rfl))
  (fun hi=>by
    exact aB (chain [tF 86 ((((24:Nat):Int)-20)<=3) (by omega)] <| .nil) (by kernel_rfl)) (by nofun):bD 14 Tryz.f5 (Cb s x d p 0) (.exit 0) ⟨97,true,[],[]⟩) (chain [.o 13 (.int (by omega):PV.le (.e (iP (-20))) (.e (iP (((0:Nat):Int)-20))))] <| .nil)] <| .nil) (by kernel_rfl)
theorem Oh(s:bk)(x:List RI)(d:RD)(p:Int)(g:s.Good)(gx0:∀ y,y ∈ x->y.Good)(gd:d.Good):ae 5 [ct s,bI x,cO d,iP p] (bP true):=by
 have gx:∀ i,(x.getD i aR).Good:=fun i=>by
  by_cases hi:i<x.length
  .rw [List.getD_eq_getElem?_getD,List.getElem?_eq_getElem hi];exact gx0 _ (List.getElem_mem hi)
  .rw [List.getD_eq_getElem?_getD,List.getElem?_eq_none (by omega)];exact ux
 by_cases hE:(¬ie s=true\/¬im x=true\/eX d=true\/100<p)
 .exact K3 s x d p g gx gd hE
 have h1:ie s=true:=Classical.byContradiction fun q=>hE (.inl q)
 have h2:im x=true:=Classical.byContradiction fun q=>hE (.inr (.inl q))
 have h3:eX d=false:=Bool.eq_false_iff.2 fun q=>hE (.inr (.inr (.inl q)))
 have h4:p<=100:=Int.not_lt.1 fun q=>hE (.inr (.inr (.inr q)))
 cases hf:df s x d p with
 | false=>exact K4 s x d p g gx gd h1 h2 h3 h4 hf
 | true =>
  have sm:=Cn h1;have hxl:x.length<=1000:=by have:=yS h2;omega
  obtain⟨o1,o2,o3,o4,p1,p2,e1,e2,e3⟩:=Mi g gx gd hf;have c1:=xf s;have c2:=tz x;have c3:=qA d;have c4:=EB s g sm x gx hxl d gd p;rw[h1,e1]at c1;rw[h2,e2]at c2;rw[h3,e3]at c3;rw[hf,e1,e2,e3]at c4;rw[e1,e2,e3];obtain⟨q,rfl⟩:=Int.eq_ofNat_of_zero_le (show 0<=p by omega);cases hn:ns s.v (x.map RI.iv) d.dy q with
  | some b=>exact K6 s.v (x.map RI.iv) d.dy q o1 o2 o3 o4 (by omega) (by omega) (by omega) c1 c2 c3 c4 b hn
  | none=>exact K5 s.v (x.map RI.iv) d.dy q o1 o2 o3 o4 (by omega) (by omega) (by omega) c1 c2 c3 c4 hn
open Go.ChangeShapes Go.WideShapes Go.ChangeAt Go.RowKit Fp Pu
theorem QH{W:World}{x:RD}{cs:Array Value}(h:zO W x cs.toList):ax dk dk W (cO x) (.agg cs):=by
 obtain⟨_,hl,h⟩:=h;have:=ax.agg (bs:=dk) (br:=dk) (w:=W) (yj x) cs.toList (by rw[hl];rfl) (fun i p v h1 h2=>by
  have hi:i<3:=by have:=(List.getElem?_eq_some_iff.1 h2).1;omega
  obtain⟨v',h3,h4⟩:=h i hi;rw[h2]at h3;cases h3;rw[List.getD_eq_getElem?_getD,h1]at h4;exact h4)
 unfold cO;exact this
open Go.ChangeShapes Go.WideShapes Go.ChangeAt Go.RowKit Fp Pu
def u6(W:World)(o:ep)(cs:List Value):Prop:=o.Good/\cs.length=6/\∀ j,j<6->∃ v,cs[j]? = some v/\ax dk dk W ((lI o).getD j .any) v
theorem Oz{α:Type}{l:List α}(h:l.length=2):∃ a b,l=[a,b]:=by
 rcases l with _|⟨a,_|⟨b,_|⟨c,l⟩⟩⟩<;>simp at h
 exact⟨a,b,rfl⟩
theorem OB{α:Type}{l:List α}(h:l.length=5):∃ a b c d e,l=[a,b,c,d,e]:=by
 rcases l with _|⟨a,_|⟨b,_|⟨c,_|⟨d,_|⟨e,_|⟨f,l⟩⟩⟩⟩⟩⟩<;>simp at h
 exact⟨a,b,c,d,e,rfl⟩
theorem OC{α:Type}{l:List α}(h:l.length=6):∃ a b c d e f,l=[a,b,c,d,e,f]:=by
 rcases l with _|⟨a,_|⟨b,_|⟨c,_|⟨d,_|⟨e,_|⟨f,_|⟨g,l⟩⟩⟩⟩⟩⟩⟩<;>simp at h
 exact⟨a,b,c,d,e,f,rfl⟩
section
variable {H:Type} {enc:TypeId×Value->H} {W:World} {fuel:Nat} {cs:List Value} {x:DataW H×List MemPlace}
theorem mG(h:DataW.trod enc Tryz.prog W 0 (fun _=>true) true fuel 3 cs=some x):∃ z,cs=[.int .i64 z]/\bG .i64 z:=by
 obtain⟨z,hz,_,hw⟩:=DataW.trod_int Tryz.underlying3 h;exact⟨z,hz,GJ hw⟩
theorem Pz(h:DataW.trod enc Tryz.prog W 0 (fun _=>true) true fuel 97 cs=some x):∃ n d,cs=[.int .i64 n,.int .i64 d]/\bG .i64 n/\bG .i64 d:=by
 obtain⟨xs,n,rfl,rfl,hl,hxl,hf⟩:=DataW.trod_struct Tryz.underlying97 h;have hC:Tryz.prog.cellsOf 97=2:=by kernel_rfl
 have hI:Tryz.prog.cellsOf 3=1:=by kernel_rfl
 rw[hC]at hl;obtain⟨c0,c1,rfl⟩:=Oz hl;have h0:=hf 0 _ rfl;have h1:=hf 1 _ rfl;simp only[List.getElem_toArray,List.getElem_cons_zero,List.getElem_cons_succ]at h0 h1;simp only[hI,List.drop_zero,List.drop_succ_cons,List.take_succ_cons,List.take_zero]at h0 h1;rw[List.getElem?_eq_getElem (by rw[hxl];decide)]at h0 h1;obtain⟨z0,e0,w0⟩:=mG h0;obtain⟨z1,e1,w1⟩:=mG h1;simp at e0 e1
 subst e0 e1;exact⟨z0,z1,rfl,w0,w1⟩
theorem PB(h:DataW.trod enc Tryz.prog W 0 (fun _=>true) true fuel 99 cs=some x):∃ o,u6 W o cs:=by
 obtain⟨xs,n,rfl,rfl,hl,hxl,hf⟩:=DataW.trod_struct Tryz.underlying99 h;have hC:Tryz.prog.cellsOf 99=6:=by kernel_rfl
 have hR:Tryz.prog.cellsOf 97=2:=by kernel_rfl
 have hI:Tryz.prog.cellsOf 3=1:=by kernel_rfl
 rw[hC]at hl;obtain⟨c0,c1,c2,c3,c4,c5,rfl⟩:=OC hl;have h0:=hf 0 _ rfl;have h1:=hf 1 _ rfl;have h2:=hf 2 _ rfl;have h3:=hf 3 _ rfl;have h4:=hf 4 _ rfl;simp only[List.getElem_toArray,List.getElem_cons_zero,List.getElem_cons_succ]at h0 h1 h2 h3 h4;simp only[hI,hR,List.drop_zero,List.drop_succ_cons,List.take_succ_cons,List.take_zero]at h0 h1 h2 h3 h4
 rw[List.getElem?_eq_getElem (by rw[hxl];decide)]at h0 h1 h2 h3 h4;obtain⟨z0,e0,w0⟩:=mG h0;obtain⟨z1,e1,w1⟩:=mG h1;obtain⟨z2,e2,w2⟩:=mG h2;obtain⟨z3,e3,w3⟩:=mG h3;obtain⟨z4,z5,e4,w4,w5⟩:=Pz h4;simp at e0 e1 e2 e3 e4;obtain⟨e4,e5⟩:=e4;subst e0 e1 e2 e3 e4 e5;refine⟨⟨z0,z1,z2,z3,z4,z5⟩,⟨w0,w1,w2,w3,w4,w5⟩,rfl,fun j hj=>?_⟩;rcases j with _|_|_|_|_|_|j
 all_goals first|exact⟨_,rfl,.v _⟩|omega
theorem Rq(o:ep)(j:Nat)(hj:j<6):((lI o).getD j .any).one=true/\(((lI o).getD j .any).dv=true)/\((lI o).getD j .any).nr 2=true:=by
 rcases j with _|_|_|_|_|_|j
 all_goals first|exact⟨rfl,rfl,rfl⟩|omega
theorem PD(h:DataW.trod enc Tryz.prog W 0 (fun _=>true) true fuel 22 cs=some x) :
  ∃ l v,cs=[v]/\(∀ y,y ∈ l->y.Good)/\ax dk dk W (bK l) v:=by
 have hC:Tryz.prog.cellsOf 99=6:=by kernel_rfl
 rcases Deep.open_slice Tryz.underlying22 h with⟨rfl,_⟩|⟨a,len,cap,m,n,D,Pl,rfl,hb,hl,hm,hmm,rfl,hx⟩
 .exact ⟨[],_,rfl,(fun y hy=>by cases hy),.sl true 0 6 _ none 0 (fun _ _=>.bool false) (Nat.le_refl _) (by decide) (fun _=>rfl) (fun i j hi=>absurd hi (Nat.not_lt_zero i)) (fun i j hi=>absurd hi (Nat.not_lt_zero i)) (fun i j hi=>absurd hi (Nat.not_lt_zero i)) (fun i j hi=>absurd hi (Nat.not_lt_zero i))⟩
 .simp only[if_true]at hmm
  subst hmm;have ex:∀ i,∃ y:ep,i<len->∃ cs',W.cells? 0 (a.add (i*6)) 6=some cs'/\u6 W y cs':=by
   intro i;by_cases hi:i<len
   .obtain ⟨cs',h1,h2⟩:=hx i (by omega)
    rw[hC]at h1;obtain⟨y,hy⟩:=PB h2;exact⟨y,fun _=>⟨cs',h1,hy⟩⟩
   .exact ⟨b6,fun h=>absurd h hi⟩
  let X:Nat->ep:=fun i=>Classical.choose (ex i)
  have hX:∀ i,i<len->∃ cs',W.cells? 0 (a.add (i*6)) 6=some cs'/\u6 W (X i) cs':=fun i=>Classical.choose_spec (ex i)
  have hlen:((List.range len).map X).length=len:=by simp
  refine⟨(List.range len).map X,_,rfl,?_,?_⟩
  .intro y hy
   obtain⟨i,hi,rfl⟩:=List.mem_map.1 hy;obtain⟨cs',_,h2⟩:=hX i (List.mem_range.1 hi);exact h2.1
  .have hget:∀ i,i<len->((List.range len).map X).getD i b6=X i:=by
    intro i hi;rw[List.getD_eq_getElem?_getD,List.getElem?_map,List.getElem?_range hi];rfl
   have:=yz (W:=W) (a:=a) (len:=len) (cap:=m) (nl:=true) (fun i j=>(lI (((List.range len).map X).getD i b6)).getD j .any) hl hm (show 0<6 by decide)
    (fun i j _ hj=>let⟨h1,h2,h3⟩:=Rq (((List.range len).map X).getD i b6) j hj;⟨h1,fun _=>h2,h3⟩)
    (fun i hi=>by
     obtain⟨cs',h1,h2,_,h3⟩:=hX i hi;exact⟨cs',h1,fun j hj=>by rw[hget i hi];exact h3 j hj⟩)
   unfold bK;rw[hlen];exact this
theorem Ro:b6.Good:=by constructor<;>(show bG .i64 0;unfold bG;decide)
theorem wN{α:Type}{P:α->Prop}{l:List α}{d:α}(h:∀ y,y ∈ l->P y)(hd:P d)(i:Nat):P (l.getD i d):=by
 by_cases hi:i<l.length
 .rw [List.getD_eq_getElem?_getD,List.getElem?_eq_getElem hi];exact h _ (List.getElem_mem hi)
 .rw [List.getD_eq_getElem?_getD,List.getElem?_eq_none (by omega)];exact hd
def zP(W:World)(s:bk)(cs:List Value):Prop:=s.Good/\cs.length=5/\∀ j,j<5->∃ v,cs[j]? = some v/\ax dk dk W ((yJ s).getD j .any) v
theorem PF(h:DataW.trod enc Tryz.prog W 0 (fun _=>true) true fuel 25 cs=some x) :
  ∃ (n:Int) (ops:List ep) (outs:List Int) (v w:Value),cs=[.int .i64 n,v,w]/\bG .i64 n/\(∀ y,y ∈ ops->y.Good)/\(∀ z,z ∈ outs->bG .i64 z)/\ax dk dk W (bK ops) v/\ax dk dk W (bN outs) w:=by
 obtain⟨xs,n,rfl,rfl,hl,hxl,hf⟩:=DataW.trod_struct Tryz.underlying25 h;have hC:Tryz.prog.cellsOf 25=3:=by kernel_rfl
 have hI:Tryz.prog.cellsOf 3=1:=by kernel_rfl
 have hO:Tryz.prog.cellsOf 22=1:=by kernel_rfl
 have hU:Tryz.prog.cellsOf 23=1:=by kernel_rfl
 rw[hC]at hl;obtain⟨c0,c1,c2,rfl⟩:=Dl hl;have h0:=hf 0 _ rfl;have h1:=hf 1 _ rfl;have h2:=hf 2 _ rfl;simp only[List.getElem_toArray,List.getElem_cons_zero,List.getElem_cons_succ]at h0 h1 h2;simp only[hI,hO,hU,List.drop_zero,List.drop_succ_cons,List.take_succ_cons,List.take_zero]at h0 h1 h2;rw[List.getElem?_eq_getElem (by rw[hxl];decide)]at h0 h1 h2;obtain⟨z0,e0,w0⟩:=mG h0
 obtain⟨ops,v,e1,g1,r1⟩:=PD h1;obtain⟨outs,w,e2,g2,r2⟩:=Px (k:=.i64) (fun _=>rfl) Tryz.underlying23 Tryz.underlying3 hI h2;simp at e0 e1 e2;subst e0 e1 e2;exact⟨z0,ops,outs,_,_,rfl,w0,g1,g2,r1,r2⟩
theorem PE(h:DataW.trod enc Tryz.prog W 0 (fun _=>true) true fuel 28 cs=some x)(hlt:∀ p ∈ x.2,p.block<W.heap.size):∃ s,zP W s cs:=by
 obtain⟨xs,n,rfl,rfl,hl,hxl,hf⟩:=DataW.trod_struct Tryz.underlying28 h;have hC:Tryz.prog.cellsOf 28=5:=by kernel_rfl
 have hT:Tryz.prog.cellsOf 25=3:=by kernel_rfl
 have hI:Tryz.prog.cellsOf 3=1:=by kernel_rfl
 have hP:Tryz.prog.cellsOf 26=1:=by kernel_rfl
 rw[hC]at hl;obtain⟨c0,c1,c2,c3,c4,rfl⟩:=OB hl;have h0:=hf 0 _ rfl;have h1:=hf 1 _ rfl;have h2:=hf 2 _ rfl;simp only[List.getElem_toArray,List.getElem_cons_zero,List.getElem_cons_succ]at h0 h1 h2;simp only[hT,hI,hP,List.drop_zero,List.drop_succ_cons,List.take_succ_cons,List.take_zero]at h0 h1 h2;rw[List.getElem?_eq_getElem (by rw[hxl];decide)]at h0 h1 h2
 obtain⟨z0,ops,outs,v,w,e0,w0,g1,g2,r1,r2⟩:=PF h0;obtain⟨z1,e1,w1⟩:=mG h1;obtain⟨ps,u,e2,g3,r3⟩:=Ek h2 (fun p hp=>hlt p (List.mem_flatMap.2 ⟨_,List.getElem_mem _,hp⟩));simp at e0 e1 e2;obtain⟨e0,e0b,e0c⟩:=e0;subst e0 e0b e0c e1 e2;refine⟨⟨z0,ops,outs,z1,ps⟩,⟨w0,wN g1 Ro,wN g2 (by unfold bG;decide),w1,wN g3 ux⟩,rfl,fun j hj=>?_⟩
 rcases j with _|_|_|_|_|j
 .exact ⟨_,rfl,.v _⟩
 .exact ⟨_,rfl,r1⟩
 .exact ⟨_,rfl,r2⟩
 .exact ⟨_,rfl,.v _⟩
 .exact ⟨_,rfl,r3⟩
 .omega
end
theorem SJ{W:World}{x:bk}{cs:Array Value}(h:zP W x cs.toList):ax dk dk W (ct x) (.agg cs):=by
 obtain⟨_,hl,h⟩:=h;have:=ax.agg (bs:=dk) (br:=dk) (w:=W) (yJ x) cs.toList (by rw[hl];rfl) (fun i p v h1 h2=>by
  have hi:i<5:=by have:=(List.getElem?_eq_some_iff.1 h2).1;omega
  obtain⟨v',h3,h4⟩:=h i hi;rw[h2]at h3;cases h3;rw[List.getD_eq_getElem?_getD,h1]at h4;exact h4)
 unfold ct;exact this
open Go.ChangeShapes Go.WideShapes Go.ChangeAt Go.RowKit Fp Pu
def Lv:Value:=.agg #[.bool false,.slice none 0 0,.int .i64 0]
def Lw{H:Type}:DataW H:=.agg [.lit (.bool false),.nil,.lit (.int .i64 0)]
def LA:Value:=.agg #[.int .i64 0,.slice none 0 0,.slice none 0 0,.int .i64 0,.slice none 0 0]
def LB{H:Type}:DataW H:=.agg [.agg [.lit (.int .i64 0),.nil,.nil],.lit (.int .i64 0),.nil]
def nu:Array Value:=#[LA,.slice none 0 0,Lv,.int .i64 0]
set_option maxRecDepth 100000 in
theorem K7(H:Type)(enc:TypeId×Value->H)(W:World)(base:Nat)(args:Array Value)(ds gs:List (DataW H))(before:List MemPlace)
  (hval:∀ (j:Nat) t v,Tryz.f5.params[j]? = some t->args[j]? = some v->Value.okWide Tryz.prog W .any base t v)
  (hW:DataW.Whole enc Tryz.prog Tryz.f5.params.toList Rows.picardEnclosesSpec.vars false W args.toList ds gs before) (hL:laidMetH Tryz.prog Rows.picardEnclosesRow.laid W) :
  Calls Tryz.prog 5 args W fun e W'=>∃ v,e = .returned v/\Rows.picardEnclosesSpec.post enc Tryz.prog Tryz.f5 false true false false W args v W':=by
 have hW':=hW;obtain⟨p,q,hA0,hV,rfl,hfz,hnd⟩:=hW;have hA:DataW.TrodAll enc Tryz.prog W 0 (fun _=>true) true Tryz.f5.params.toList args.toList ds p:=hA0;rw[Tryz.params5]at hA hval;obtain⟨v0,vs0,d0,ds0,p0,q0,hvs,rfl,rfl,h0,hA0⟩:=trodAll_cons hA;obtain⟨v1,vs1,d1,ds1,p1,q1,rfl,rfl,rfl,h1,hA1⟩:=trodAll_cons hA0;obtain⟨v2,vs2,d2,ds2,p2,q2,rfl,rfl,rfl,h2,hA2⟩:=trodAll_cons hA1
 obtain⟨v3,vs3,d3,ds3,p3,q3,rfl,rfl,rfl,h3,hA3⟩:=trodAll_cons hA2;obtain⟨rfl,rfl,rfl⟩:=trodAll_nil hA3;obtain rfl:args = #[v0,v1,v2,v3]:=by cases args;simp_all
 obtain⟨rfl,rfl⟩:=trodVars_none hV;obtain⟨cs0,rfl,hsz0⟩:=okWide_struct Tryz.underlying28 (hval 0 28 v0 rfl rfl);obtain⟨a1,len1,cap1,rfl⟩:=okWide_slice Tryz.underlying26 (hval 1 26 v1 rfl rfl);obtain⟨cs2,rfl,hsz2⟩:=okWide_struct Tryz.underlying31 (hval 2 31 v2 rfl rfl);obtain⟨x3,rfl,rfl,rfl,b3⟩:=open_int Tryz.underlying3 (hval 3 3 v3 rfl rfl) h3;have h0k:=h0;obtain⟨fuel0,hf0⟩:=h0;have h1k:=h1
 obtain⟨fuel1,hf1⟩:=h1;have h2k:=h2;obtain⟨fuel2,hf2⟩:=h2;clear hA0;have hlt0:∀ x ∈ p0,x.block<W.heap.size:=fun x hx=>hW'.lt x (by simp[hx])
 have hlt1:∀ x ∈ p1,x.block<W.heap.size:=fun x hx=>hW'.lt x (by simp[hx])
 have hlt2:∀ x ∈ p2,x.block<W.heap.size:=fun x hx=>hW'.lt x (by simp[hx])
 obtain⟨x0,g0⟩:=PE hf0 hlt0;obtain⟨x1,w1,hv1,g1,r1⟩:=Ek hf1 hlt1;obtain rfl:Value.slice a1 len1 cap1=w1:=by
  have:(Value.slice a1 len1 cap1).cells.toList=[Value.slice a1 len1 cap1]:=rfl;rw[this]at hv1;simpa using hv1
 obtain⟨x2,g2⟩:=xO hf2 hlt2;have hrun:=(Oh x0 x1 x2 x3 g0.1 g1 g2.1).run W dk [.agg cs0,.slice a1 len1 cap1,.agg cs2,.int .i64 x3] (SS rfl hL) (fun _ h=>h.elim) (.cons (SJ (cs:=cs0) g0) (.cons r1 (.cons (QH (cs:=cs2) g2) (.cons (.v _) (.nil _ _ _)))));refine hrun.mono fun r W' ⟨v,hr,hb,hrep⟩=>?_
 obtain rfl:=ax.bQ hrep;subst hr;refine⟨_,rfl,_,_,_,[],p0++(p1++(p2++([]))),[],hW',?_,?_,rfl,hb.frame _,fun h=>by cases h⟩
 .exact trodAll_mk1 (shut_bool Tryz.underlying4 _)
 .exact ⟨p0,_,(Below.trod laidOut (by kernel_rfl) (of_decide_eq_true (by kernel_rfl)) h0k hb hlt0),⟨p1,_,(Below.trod laidOut (by kernel_rfl) (of_decide_eq_true (by kernel_rfl)) h1k hb hlt1),⟨p2,_,(Below.trod laidOut (by kernel_rfl) (of_decide_eq_true (by kernel_rfl)) h2k hb hlt2),trodAll_mk1 (Below.trod laidOut (by kernel_rfl) (of_decide_eq_true (by kernel_rfl)) h3 hb (fun _ h=>by cases h)),rfl⟩,rfl⟩,rfl⟩
theorem La(os:Os):laidMet Tryz.prog Rows.picardEnclosesRow.laid ((xh os nu).forCall (fun _ _=>0) ⟨#[],nu,[]⟩).memory :=
 laidMet_of_run' 8 (by kernel_rfl) (by kernel_rfl)
theorem Lc(os:Os){H:Type}(enc:TypeId×Value->H):∃ places,DataW.whole enc Tryz.prog ((xh os nu).forCall (fun _ _=>0) ⟨#[],nu,[]⟩).memory Tryz.f5.params.toList Rows.picardEnclosesSpec.vars false nu.toList 8=some ([LB,.nil,Lw,.lit (.int .i64 0)],[],places) :=
 ⟨[],by kernel_rfl⟩
set_option maxRecDepth 100000 in
theorem K9(os:Os)(started:os.Started)(H:Type)(enc:TypeId×Value->H)(F:Stop.Interp) :
  ReturnsInHanded {} Tryz.checked os 5 .any ((OpenSpec.ofChange Rows.picardEnclosesSpec).preRow enc Tryz.prog Tryz.f5 Rows.picardEnclosesRow.domain false Rows.picardEnclosesRow.laid) (((OpenSpec.ofChange Rows.picardEnclosesSpec).at F).post enc Tryz.prog Tryz.f5 false true false false):=by
 obtain⟨places,hx⟩:=Lc os enc;refine returnsInHanded_of_row (C:=Tryz.checked) (s:=OpenSpec.ofChange Rows.picardEnclosesSpec) own started (by kernel_rfl) Tryz.func5
  (witness_row_at (enc:=enc) (C:=Tryz.checked) false (xh os nu) nu rfl (by kernel_rfl) (by kernel_rfl) (by kernel_rfl)
   (OpenSpec.preRow_of_cond 8 hx (by kernel_rfl) (fun k hk=>by cases hk) (by kernel_rfl) (La os))) ?_
 intro W base args ds gs before hval hW _ _ _ hL _ _;exact K7 H enc W base args ds gs before hval hW hL
set_option maxHeartbeats 100000000 in
theorem K8:joinedFacts Tryz.prog 5 Tryz.f5 (OpenSpec.ofChange Rows.picardEnclosesSpec).bare Rows.picardEnclosesRow=true:=by
 unfold joinedFacts;simp only[Bool.and_eq_true]
 and_intros<;>decide +kernel
theorem Ld:Rows.PicardEnclosesSaid :=
 OpenClaim.holds_of_cond 5 Tryz.f5 rfl rfl rfl rfl rfl rfl rfl ⟨rfl,rfl,rfl,rfl,rfl⟩ rfl rfl rfl rfl rfl (by kernel_rfl) Tryz.func5 K8
  (of_decide_eq_true (by kernel_rfl)) (by unfold Func.isWrapper;first|(rw[if_pos (by decide +kernel)];kernel_rfl)|(rw[if_neg (by decide +kernel)];exact⟨rfl,rfl⟩))
  (fun os started H enc _ F=>by rw[OpenClaim.pre_eq_preRow];exact K9 os started H enc F)
theorem Lb (f:FuncId) (fn:Func) (hf:Tryz.pinned.checked.prog.funcNamed "flowpipe/flowpipelaw28.PicardEncloses" = some f) (hfn:Tryz.pinned.checked.prog.funcs[f]? = some fn) :
  false=Tryz.pinned.checked.prog.looks []/\∀ (j:Nat) t,fn.params[j]? = some t->Tryz.pinned.checked.prog.wantsStandIn t=false:=by
 obtain rfl:f=5:=Option.some.inj ((show Tryz.prog.funcNamed "flowpipe/flowpipelaw28.PicardEncloses" = some 5 by kernel_rfl).symm.trans hf) |>.symm
 obtain rfl:fn=Tryz.f5:=(Option.some.inj (Tryz.func5.symm.trans hfn)).symm;refine⟨by kernel_rfl,fun j t ht=>?_⟩;rw[Tryz.params5]at ht;have:t=28\/t=26\/t=31\/t=3:=by
  have:=Array.mem_of_getElem? ht;simp only[List.mem_toArray,List.mem_cons,List.not_mem_nil,or_false]at this;rcases this with h|h|h|h<;>subst h<;>simp
 rcases this with rfl|rfl|rfl|rfl
 .exact (show Tryz.prog.wantsStandIn 28=false by kernel_rfl)
 .exact (show Tryz.prog.wantsStandIn 26=false by kernel_rfl)
 .exact (show Tryz.prog.wantsStandIn 31=false by kernel_rfl)
 .exact (show Tryz.prog.wantsStandIn 3=false by kernel_rfl)
theorem encloses_card:Rows.PicardEnclosesCardSaid :=
 Claim7.holds_tied_plain_at .later [] _ _ _ _ Ld (fun _ h=>by cases h) (by kernel_rfl) (fun _ h=>by cases h) picardEncloses_row_tie rfl ⟨rfl,rfl⟩ (by kernel_rfl) rfl Lb (M5 Ml rfl)
end Go.Proofs.YtdgnpeddgdclhaaGreatDoor
