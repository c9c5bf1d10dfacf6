/- Texts: Po Py Pp Pq Wa Wb Wc Wd We Wf Wg Wh Ti Wi Wj Wk Wl Wm Wn Wo Wp Wq St Num Tj Nc Wt Wu Wv Kd Pr Tt Pt Mu Pv Ad Ae Af Ps Rn. -/
import Derived.Test.YtkbjkchapnjhgaaGreatDoorM01
import Derived.Deep.DeepCutAuto
set_option linter.unusedSimpArgs false
set_option linter.unusedVariables false
namespace Go.Proofs.YtkbjkchapnjhgaaGreatDoor.Pu
open Go.RowKit
section
variable {P:Program} {K:World → Prop} {T:List TI} {O:Orc} {w0:World} {B:Nat → Prop} {σ τ:PS} {o:Oper} {a:Act} {w:World} {L:Lk} {u:Out} {ops:Array Oper}
theorem wanted_ok (r:Rel w0 B σ a w L) {b:Bool} (h:wantedE ops σ o=some b):Region.wanted o (yielded ops a.tmps)=b:=by
 unfold wantedE at h
 unfold Region.wanted
 split at h
 ·rename_i hg
  rw [hg]
  simpa using h
 ·rename_i j want hg
  rw [hg]
  simp only
  split at h
  ·rename_i t ht
   have hv:=r.ht t
   have key:∀ q:Bool,σ.get t = .e (.v (.bool q)) → yielded ops a.tmps j=some q:=by
    intro q hq
    rw [hq] at hv
    have hv:=Rep.v_inv hv
    unfold yielded
    rw [ht]
    simp only [Option.bind_some]
    have hlt:a.tmps[t]? = some (.bool q):=by
     by_cases hs:t < a.tmps.size
     ·simpa [hs] using hv
     ·simp [hs,undef] at hv
    rw [hlt]
   split at h
   ·rename_i hq
    rw [key true hq]
    simp only [Option.some.injEq] at h
    subst h
    cases want <;> rfl
   ·rename_i hq
    rw [key false hq]
    simp only [Option.some.injEq] at h
    subst h
    cases want <;> rfl
   ·rename_i q hq
    rw [hq] at hv
    have hv:=Rep.v_inv hv
    have hn:yielded ops a.tmps j=none:=by
     unfold yielded
     rw [ht]
     simp only [Option.bind_some]
     by_cases hs:t < a.tmps.size
     ·rw [show a.tmps[t]? = some (.tuple q) by simpa [hs] using hv]
     ·simp [hs]
    rw [hn]
    simp only [Option.some.injEq] at h
    subst h
    cases want <;> rfl
   ·cases h
  ·cases h
theorem evout_step (hT:TyOk P T) (g:Gd P K w0 B) (r:Rel w0 B σ a w L) (h:evout P K T O ops σ o=some u) (ho:∀ q,q ∈ u.obs → q) (Kc:Act → World → Prop) (Q:Exit → Act → World → Prop)
  (hk:∀ a' w' L',Rel w0 B (σ.app o.dst u) a' w' L' → Kc a' w') :
  (Region.wanted o (yielded ops a.tmps)=true ∧ o.wp P a w Kc Q) ∨ (Region.wanted o (yielded ops a.tmps)=false ∧ Kc (a.put o.dst undef) w):=by
 obtain ⟨hi,_,⟨hw,u0,h0,rfl⟩ | ⟨hw,rfl⟩⟩:=evout_wanted h
 ·refine .inl ⟨wanted_ok r hw,evov_does hT g r h0 ho Kc Q fun v w' L' hr hp=>hk _ w' L' ?_⟩
  have hi':inB (σ.eff u0.f) o.dst=true:=by cases hd:o.dst <;> rw [hd] at hi <;> exact hi
  exact hr.put o.dst u0.r v hi' hp
 ·exact .inr ⟨wanted_ok r hw,hk _ w L (r.put o.dst (.e (.v (.tuple #[]))) undef hi (.v _))⟩
theorem evouts_wp (hT:TyOk P T) (g:Gd P K w0 B) {l:List Oper} {us:List (Oper × Out)} {Q:Exit → Act → World → Prop} (h:evouts P K T O ops l σ=some (us,τ)) (ho:∀ q,q ∈ allObs us → q) (r:Rel w0 B σ a w L)
  (hq:∀ a' w' L',Rel w0 B τ a' w' L' → Q .normal a' w'):wpList P ops Q l a w:=by
 induction l generalizing σ a w L us with
 | nil =>
  simp only [evouts,Option.some.injEq,Prod.mk.injEq] at h
  obtain ⟨rfl,rfl⟩:=h
  exact hq a w L r
 | cons o l ih =>
  simp only [evouts] at h
  split at h
  ·rename_i u hu
   split at h
   ·rename_i us' τ' h'
    simp only [Option.some.injEq,Prod.mk.injEq] at h
    obtain ⟨rfl,rfl⟩:=h
    simp only [allObs,List.mem_append] at ho
    unfold wpList
    rcases evout_step hT g r hu (fun q hq=>ho q (.inl hq)) (wpList P ops Q l) Q (fun a' w' L' hr=>ih h' (fun q hq=>ho q (.inr hq)) hr) with ⟨h1,h2⟩ | ⟨h1,h2⟩
    ·rw [if_pos h1]; exact .inl h2
    ·rw [if_neg (by rw [h1]; simp)]; exact h2
   ·cases h
  ·cases h
structure Left (ops:Array Oper) (listed:Array Bool) (R:List (Nat × Oper × Out)):Prop where
 at_:∀ x,x ∈ R → ops[x.1]? = some x.2.1 ∧ listed.getD x.1 true=false
 all:∀ i,i < ops.size → listed.getD i true=false → ∃ x,x ∈ R ∧ x.1=i
 pw:R.Pairwise fun x y=>x.1 < y.1 ∧ (reach ops 3 y.2.1 x.1 || indep ops x.2 y.2)=true
 ed:∀ x,x ∈ R → ∀ e,e ∈ x.2.1.after → Region.binds .any e=true → e.on < x.1
 up:∀ x,x ∈ R → ∀ j z,ops[j]? = some z → isEdge z x.1=true → listed.getD j true=false
theorem Left.reach {listed:Array Bool} {R:List (Nat × Oper × Out)} (h:Left ops listed R) {x:Nat × Oper × Out} (hx:x ∈ R):∀ (n:Nat) (j:Nat) (z:Oper),ops[j]? = some z → Pu.reach ops n z x.1=true →
  listed.getD j true=false ∧ ∃ e,e ∈ z.after ∧ Region.binds .any e=true ∧ listed.getD e.on true=false ∧ e.on < ops.size:=by
 have direct:∀ (j:Nat) (z:Oper),ops[j]? = some z → isEdge z x.1=true → listed.getD j true=false ∧ ∃ e,e ∈ z.after ∧ Region.binds .any e=true ∧ listed.getD e.on true=false ∧ e.on < ops.size:=by
  intro j z hz he
  refine ⟨h.up x hx j z hz he,?_⟩
  unfold isEdge at he
  obtain ⟨e,he1,he2⟩:=List.any_eq_true.1 he
  simp only [Bool.and_eq_true] at he2
  have hat:=h.at_ x hx
  refine ⟨e,by simpa using he1,he2.1,?_,?_⟩
  ·rw [beq_iff.1 he2.2]; exact hat.2
  ·rw [beq_iff.1 he2.2]; exact (Array.getElem?_eq_some_iff.1 hat.1).1
 intro n
 induction n with
 | zero=>exact direct
 | succ n ih =>
  intro j z hz hr
  simp only [Pu.reach,Bool.or_eq_true] at hr
  rcases hr with hr | hr
  ·exact direct j z hz hr
  ·obtain ⟨e,he1,he2⟩:=List.any_eq_true.1 hr
   simp only [Bool.and_eq_true] at he2
   obtain ⟨he2,he3⟩:=he2
   split at he3
   ·rename_i z' hz'
    obtain ⟨k1,_⟩:=ih e.on z' hz' he3
    have hlt:=(Array.getElem?_eq_some_iff.1 hz').1
    obtain ⟨x',hx',hxe⟩:=h.all e.on hlt k1
    refine ⟨h.up x' hx' j z hz ?_,e,by simpa using he1,he2,k1,hlt⟩
    unfold isEdge
    refine List.any_eq_true.2 ⟨e,he1,?_⟩
    rw [he2,hxe]; simp
   ·cases he3
theorem ready_mem {md:Region.Mode} {listed:Array Bool} {i:Nat}:i ∈ Region.ready md ops listed ↔ i < ops.size ∧ listed.getD i true=false ∧ ∃ o,ops[i]? = some o ∧ ∀ e,e ∈ o.after → Region.binds md e=true → listed.getD e.on false=true:=by
 unfold Region.ready
 rw [List.mem_filter]
 simp only [List.mem_range,Bool.and_eq_true,Bool.not_eq_true']
 constructor
 ·rintro ⟨h1,h2,h3⟩
  refine ⟨h1,h2,ops[i],by simp [h1],fun e he hb=>?_⟩
  rw [Array.getElem?_eq_getElem h1] at h3
  simp only [Option.map_some,Option.getD_some,Array.all_eq_true_iff_forall_mem] at h3
  have:=h3 e he
  simpa [hb] using this
 ·rintro ⟨h1,h2,o,h3,h4⟩
  refine ⟨h1,h2,?_⟩
  rw [h3]
  simp only [Option.map_some,Option.getD_some,Array.all_eq_true_iff_forall_mem]
  intro e he
  cases hb:Region.binds md e with
  | false=>rfl
  | true=>simpa using h4 e he hb
theorem any_wp (hT:TyOk P T) (g:Gd P K w0 B) {Q:Exit → Act → World → Prop} (hq:∀ a' w' L',Rel w0 B τ a' w' L' → Q .normal a' w') :
  ∀ (fuel:Nat) (listed:Array Bool) (R:List (Nat × Oper × Out)) (σ:PS) (a:Act) (w:World) (L:Lk),R.length=fuel → listed.size=ops.size → Left ops listed R → (∀ x,x ∈ R → ∀ q,q ∈ x.2.2.obs → q) →
   Runs P K T ops (R.map (·.2)) σ τ → Rel w0 B σ a w L → wpAny P .any ops Q fuel listed a w:=by
 intro fuel
 induction fuel with
 | zero =>
  intro listed R σ a w L hlen hls hleft ho hruns r
  have hR:=List.eq_nil_of_length_eq_zero hlen
  subst hR
  refine ⟨?_,hq a w L (r.same hruns)⟩
  apply List.eq_nil_iff_forall_not_mem.2
  intro i hi
  obtain ⟨h1,h2,_⟩:=ready_mem.1 hi
  obtain ⟨x,hx,_⟩:=hleft.all i h1 h2
  simp at hx
 | succ fuel ih =>
  intro listed R σ a w L hlen hls hleft ho hruns r
  refine ⟨fun hnil=>?_,fun i hi=>?_⟩
  ·
   exfalso
   cases R with
   | nil=>simp at hlen
   | cons x R =>
    have hx:=hleft.at_ x (by simp)
    have hlt:x.1 < ops.size:=(Array.getElem?_eq_some_iff.1 hx.1).1
    have:x.1 ∈ Region.ready .any ops listed:=ready_mem.2 ⟨hlt,hx.2,x.2.1,hx.1,fun e he hb=>by
     have hon:=hleft.ed x (by simp) e he hb
     cases hl:listed.getD e.on true with
     | true =>
      have:e.on < listed.size:=by omega
      simp [this] at hl ⊢
      exact hl
     | false =>
      exfalso
      obtain ⟨y,hy,hy2⟩:=hleft.all e.on (by omega) hl
      rcases List.mem_cons.1 hy with hy | hy
      ·subst hy; omega
      ·have:=(List.pairwise_cons.1 hleft.pw).1 y hy; omega⟩
    rw [hnil] at this
    simp at this
  ·obtain ⟨h1,h2,o,h3,h4⟩:=ready_mem.1 hi
   obtain ⟨y,hy,hyi⟩:=hleft.all i h1 h2
   subst hyi
   obtain ⟨A,C,rfl⟩:=List.append_of_mem hy
   have hyat:=hleft.at_ y hy
   have hind:∀ x,x ∈ A → indep ops x.2 y.2=true:=by
    intro x hx
    have hp:=(List.pairwise_append.1 hleft.pw).2.2 x hx y (by simp)
    rcases Bool.or_eq_true_iff.1 hp.2 with he | he
    ·exfalso
     obtain ⟨_,e,he1,he2,hxl,hlt⟩:=hleft.reach (show x ∈ A ++ y :: C by simp [hx]) 3 y.1 y.2.1 hyat.1 he
     have hob:o=y.2.1:=by rw [hyat.1] at h3; exact (Option.some.inj h3).symm
     have hl:=h4 e (by rw [hob]; exact he1) he2
     have hxs:e.on < listed.size:=by rw [hls]; exact hlt
     simp [hxs] at hl hxl
     rw [hl] at hxl
     cases hxl
    ·exact he
   rw [List.map_append,List.map_cons] at hruns
   obtain ⟨⟨O,k1⟩,k2⟩:=hruns.front (fun x hx=>by
    obtain ⟨z,hz,rfl⟩:=List.mem_map.1 hx
    exact hind z hz)
   have hleft':Left ops (listed.setIfInBounds y.1 true) (A ++ C):=by
    have hne:∀ x,x ∈ A ++ C → x.1 ≠ y.1:=by
     intro x hx
     rcases List.mem_append.1 hx with hx | hx
     ·have:=((List.pairwise_append.1 hleft.pw).2.2 x hx y (by simp)).1; omega
     ·have:=((List.pairwise_cons.1 (List.pairwise_append.1 hleft.pw).2.1).1 x hx).1; omega
    have hsub:∀ x,x ∈ A ++ C → x ∈ A ++ y :: C:=fun x hx=>by
     rcases List.mem_append.1 hx with hx | hx <;> simp [hx]
    refine ⟨fun x hx=>?_,fun j hj hl=>?_,?_,fun x hx=>hleft.ed x (hsub x hx),fun x hx j z hz he=>?_⟩
    ·obtain ⟨q1,q2⟩:=hleft.at_ x (hsub x hx)
     refine ⟨q1,?_⟩
     have hxs:x.1 < listed.size:=by rw [hls]; exact (Array.getElem?_eq_some_iff.1 q1).1
     simp [hxs] at q2 ⊢
     rw [Array.getElem_setIfInBounds_ne _ (fun e=>hne x hx e.symm)]
     exact q2
    ·have hjs:j < listed.size:=by omega
     by_cases hjy:j=y.1
     ·subst hjy
      simp [hjs] at hl
     ·have:listed.getD j true=false:=by
       simp [hjs] at hl ⊢
       rw [Array.getElem_setIfInBounds_ne _ (fun e=>hjy e.symm)] at hl
       exact hl
      obtain ⟨x,hx,hxj⟩:=hleft.all j hj this
      refine ⟨x,?_,hxj⟩
      rcases List.mem_append.1 hx with hx | hx
      ·simp [hx]
      ·rcases List.mem_cons.1 hx with hx | hx
       ·subst hx; exact absurd hxj.symm hjy
       ·simp [hx]
    ·exact hleft.pw.sublist (List.Sublist.append (List.Sublist.refl A) (List.sublist_cons_self y C))
    ·have q:=hleft.up x (hsub x hx) j z hz he
     have hjs:j < listed.size:=by rw [hls]; exact (Array.getElem?_eq_some_iff.1 hz).1
     by_cases hjy:j=y.1
     ·exfalso
      subst hjy
      rw [hyat.1] at hz h3
      cases hz
      cases h3
      unfold isEdge at he
      obtain ⟨e,he1,he2⟩:=List.any_eq_true.1 he
      simp only [Bool.and_eq_true] at he2
      have hl:=h4 e (by simpa using he1) he2.1
      rw [beq_iff.1 he2.2] at hl
      have hxl:=(hleft.at_ x (hsub x hx))
      have hxs:x.1 < listed.size:=by rw [hls]; exact (Array.getElem?_eq_some_iff.1 hxl.1).1
      have hxl:=hxl.2
      simp [hxs] at hl hxl
      rw [hl] at hxl
      cases hxl
     ·simp [hjs] at q ⊢
      rw [Array.getElem_setIfInBounds_ne _ (fun e=>hjy e.symm)]
      exact q
   unfold wpOp
   rw [hyat.1]
   simp only
   rcases evout_step hT g r k1 (ho y (by simp)) (wpAny P .any ops Q fuel (listed.setIfInBounds y.1 true)) Q (fun a' w' L' hr=>ih _ (A ++ C) _ a' w' L' (by simp at hlen ⊢; omega) (by simpa using hls) hleft' (fun x hx=>ho x (by
     rcases List.mem_append.1 hx with hx | hx <;> simp [hx])) (by rw [List.map_append]; exact k2) hr) with ⟨p1,p2⟩ | ⟨p1,p2⟩
   ·rw [if_pos p1]; exact .inl p2
   ·rw [if_neg (by rw [p1]; simp)]; exact p2
theorem left_start {us:List (Oper × Out)} (hus:us.map (·.1)=ops.toList) (hp:pairsOk ops 0 us=true) :
  ∃ R:List (Nat × Oper × Out),R.map (·.2)=us ∧ R.length=ops.size ∧ Left ops (Array.replicate ops.size false) R:=by
 have key:∀ (us:List (Oper × Out)) (k:Nat),pairsOk ops k us=true → (∀ j x,us[j]? = some x → ops[k+j]? = some x.1) →
   ∃ R:List (Nat × Oper × Out),R.map (·.2)=us ∧ (∀ j x,R[j]? = some x → x.1=k+j) ∧ (∀ x,x ∈ R → ops[x.1]? = some x.2.1) ∧ (R.Pairwise fun x y=>x.1 < y.1 ∧ (reach ops 3 y.2.1 x.1 || indep ops x.2 y.2)=true) ∧
    (∀ x,x ∈ R → ∀ e,e ∈ x.2.1.after → Region.binds .any e=true → e.on < x.1):=by
  intro us
  induction us with
  | nil=>exact fun k _ _=>⟨[],rfl,fun j x h=>by simp at h,fun x h=>by simp at h,List.Pairwise.nil,fun x h=>by simp at h⟩
  | cons x us ih =>
   intro k hp hat
   simp only [pairsOk,Bool.and_eq_true] at hp
   obtain ⟨R,r1,r2,r3,r4,r5⟩:=ih (k+1) hp.2 (fun j y hy=>by have:=hat (j+1) y (by simpa using hy); rwa [show k+(j+1)=k+1+j by omega] at this)
   have hge:∀ y,y ∈ R → k < y.1 ∧ y.2 ∈ us:=by
    intro y hy
    obtain ⟨j,hj⟩:=List.mem_iff_getElem?.1 hy
    have:=r2 j y hj
    exact ⟨by omega,by rw [← r1]; exact List.mem_map.2 ⟨y,hy,rfl⟩⟩
   refine ⟨(k,x) :: R,by simp [r1],fun j y hy=>?_,fun y hy=>?_,?_,fun y hy=>?_⟩
   ·cases j with
    | zero=>simp at hy; subst hy; rfl
    | succ j=>have:=r2 j y (by simpa using hy); omega
   ·rcases List.mem_cons.1 hy with hy | hy
    ·subst hy; have:=hat 0 x rfl; simpa using this
    ·exact r3 y hy
   ·rw [List.pairwise_cons]
    refine ⟨fun y hy=>⟨(hge y hy).1,?_⟩,r4⟩
    exact List.all_eq_true.1 hp.1.2 y.2 (hge y hy).2
   ·rcases List.mem_cons.1 hy with hy | hy
    ·subst hy
     intro e he hb
     have:=List.all_eq_true.1 hp.1.1 e (by simpa using he)
     simpa [hb] using this
    ·exact r5 y hy
 obtain ⟨R,r1,r2,r3,r4,r5⟩:=key us 0 hp (fun j x hx=>by
  rw [Nat.zero_add]
  have:=congrArg (·[j]?) hus
  simp only [List.getElem?_map,hx,Option.map_some] at this
  simpa using this.symm)
 have hlen:R.length=ops.size:=by
  have h1:=congrArg List.length r1
  have h2:=congrArg List.length hus
  simp at h1 h2
  omega
 refine ⟨R,r1,hlen,fun x hx=>⟨r3 x hx,?_⟩,fun i hi _=>?_,r4,r5,fun x hx j z hz _=>by have:=(Array.getElem?_eq_some_iff.1 hz).1; simp [this]⟩
 ·have:=(Array.getElem?_eq_some_iff.1 (r3 x hx)).1
  simp [this]
 ·have hi':i < R.length:=by omega
  exact ⟨R[i],List.getElem_mem hi',by have:=r2 i R[i] (List.getElem?_eq_getElem hi'); omega⟩
theorem region_wp (hT:TyOk P T) (hm:P.follows .mixedOrders=true) (g:Gd P K w0 B) {id:Nat} {draw:Bool} {obs:List Prop} {Q:Exit → Act → World → Prop} (h:evregion P K T O ops draw σ=some (τ,obs)) (ho:∀ q,q ∈ obs → q)
  (r:Rel w0 B σ a w L) (hq:∀ a' w' L',Rel w0 B τ a' w' L' → Q .normal a' w'):(Code.region id ops draw).wp P Q a w:=by
 unfold evregion at h
 split at h
 ·rename_i us τ' h'
  split at h
  ·rename_i hc
   simp only [Option.some.injEq,Prod.mk.injEq] at h
   obtain ⟨rfl,rfl⟩:=h
   cases draw with
   | false=>exact wp_region_list (evouts_wp hT g h' ho r hq)
   | true =>
    obtain ⟨k1,k2⟩:=evouts_runs h'
    obtain ⟨R,r1,r2,r3⟩:=left_start k2 (by simpa using hc)
    refine wp_region_any hm (any_wp hT g hq ops.size (Array.replicate ops.size false) R σ a w.drew L r2 (by simp) r3 (fun x hx q hq'=>ho q ?_) (by rw [r1]; exact k1) r.drew)
    have hx':x.2 ∈ us:=by rw [← r1]; exact List.mem_map.2 ⟨x,hx,rfl⟩
    clear ho k1 k2 r1 h' hc
    induction us with
    | nil=>simp at hx'
    | cons y us ih =>
     simp only [allObs,List.mem_append]
     rcases List.mem_cons.1 hx' with e | e
     ·subst e; exact .inl hq'
     ·exact .inr (ih e)
  ·cases h
 ·cases h
end
open Go.RowKit
def PS.le (σ τ:PS):Prop:=∀ (w0:World) (B:Nat → Prop) (a:Act) (w:World) (L:Lk),(∀ b,B b → b < w0.heap.size) → Rel w0 B σ a w L → ∃ L',Rel w0 B τ a w L'
theorem PS.le.refl (σ:PS):PS.le σ σ:=fun _ _ _ _ L _ r=>⟨L,r⟩
theorem PS.le.trans {σ τ υ:PS} (h:PS.le σ τ) (k:PS.le τ υ):PS.le σ υ:=fun w0 B a w L g r=>let ⟨L',r'⟩:=h w0 B a w L g r; k w0 B a w L' g r'
theorem PV.le.refl (p:PV):PV.le p p:=fun _ _ _ _ _ h=>h
def Bx.le (a b:Bx):Prop:=(a.nl=true → b.nl=true) ∧ ∀ (bs br:Nat → Prop) (L:Lk) (w:World) (id:Nat),BxOk bs br L w id a → BxOk bs br L w id b
theorem Bx.le.refl (a:Bx):Bx.le a a:=⟨id,fun _ _ _ _ _ h=>h⟩
def LeT (σ:PS):List (Nat × PV) → Prop
 | []=>True
 | (k,p) :: l=>PV.le (σ.get k) p ∧ LeT σ l
def LeB (σ:PS):List (Nat × Bx) → Prop
 | []=>True
 | (id,b) :: l=>(∃ b',σ.bo id=some b' ∧ Bx.le b' b) ∧ LeB σ l
def refsOk (τ:PS):Bool:=τ.t.all fun x=>x.2.refs.all fun id=>(look τ.b id).isSome
theorem look_mem {α:Type} {l:List (Nat × α)} {t:Nat} {x:α} (h:look l t=some x):(t,x) ∈ l:=by
 induction l with
 | nil=>cases h
 | cons y l ih =>
  obtain ⟨k,z⟩:=y
  rw [look_cons] at h
  split at h
  ·rename_i e; cases h; subst e; exact .head _
  ·exact .tail _ (ih h)
theorem LeT.get {σ:PS} {l:List (Nat × PV)} (h:LeT σ l) {t:Nat} {p:PV} (k:look l t=some p):PV.le (σ.get t) p:=by
 induction l with
 | nil=>cases k
 | cons y l ih =>
  obtain ⟨q,z⟩:=y
  rw [look_cons] at k
  split at k
  ·rename_i e; cases k; subst e; exact h.1
  ·exact ih h.2 k
theorem LeB.get {σ:PS} {l:List (Nat × Bx)} (h:LeB σ l) {t:Nat} {b:Bx} (k:look l t=some b):∃ b',σ.bo t=some b' ∧ Bx.le b' b:=by
 induction l with
 | nil=>cases k
 | cons y l ih =>
  obtain ⟨q,z⟩:=y
  rw [look_cons] at k
  split at k
  ·rename_i e; cases k; subst e; exact h.1
  ·exact ih h.2 k
theorem PS.le.keep {σ τ:PS} (hn:σ.n=τ.n) (hnl:τ.nl=σ.nl) (hr:refsOk τ=true) (ht:LeT σ τ.t) (hb:LeB σ τ.b):PS.le σ τ:=fun w0 B a w L _ r=>by
 let L':Lk:=⟨fun id=>L.live id ∧ (τ.bo id).isSome=true,fun id x=>L.own id x ∧ (τ.bo id).isSome=true,L.val,L.inn⟩
 have hlt:Later L w L' w:=⟨Nat.le_refl _,fun x _ ⟨id,h,_⟩=>⟨id,h⟩,fun _ _ _=>rfl⟩
 refine ⟨L',r.hd,by rw [← hn]; exact r.hs,fun t=>?_,fun id b h=>?_,fun id=>?_,fun id x h=>⟨r.hn id x h.1,h.2⟩,fun id x h=>r.hw id x h.1,fun id id' x h k=>r.hi id id' x h.1 k.1,r.he,fun h id b k=>?_⟩
 ·have hg:τ.get t=((look τ.t t)).getD (.e .any):=rfl
  cases hl:look τ.t t with
  | none=>rw [hg,hl]; exact .any _
  | some p =>
   rw [hg,hl]
   have:=ht.get hl _ _ _ _ _ (r.ht t)
   refine RepP.move hlt this fun id hid hlive=>⟨⟨hlive,?_⟩,rfl,fun _=>rfl⟩
   have q:=List.all_eq_true.1 hr _ (look_mem hl)
   exact List.all_eq_true.1 q id hid
 ·obtain ⟨b',h1,h2⟩:=hb.get h
  have hs:(τ.bo id).isSome=true:=by rw [h]; rfl
  exact (h2.2 _ _ _ _ _ (r.hb id b' h1)).later hlt rfl (fun x=>⟨fun q=>q.1,fun q=>⟨q,hs⟩⟩) (fun _=>rfl) fun _ _=>rfl
 ·show L.live id ∧ (τ.bo id).isSome=true ↔ (τ.bo id).isSome=true
  refine ⟨fun h=>h.2,fun h=>⟨(r.hv id).2 ?_,h⟩⟩
  obtain ⟨b,hbo⟩:=Option.isSome_iff_exists.1 h
  obtain ⟨b',h1,_⟩:=hb.get hbo
  rw [h1]; rfl
 ·obtain ⟨b',h1,h2⟩:=hb.get k
  exact h2.1 (r.hl (by rw [← hnl]; exact h) id b' h1)
def cutB (σ:PS):List Nat → List (Nat × Bx)
 | []=>[]
 | i :: l=>match σ.bo i with
  | some b=>(i,b) :: cutB σ l
  | none=>cutB σ l
def PS.cut (ts bs:List Nat) (σ:PS):PS:={ n:=σ.n,nl:=σ.nl,t:=ts.map fun t=>(t,σ.get t),b:=cutB σ bs }
theorem LeT.cut (σ:PS):∀ ts:List Nat,LeT σ (ts.map fun t=>(t,σ.get t))
 | []=>trivial
 | _ :: l=>⟨PV.le.refl _,LeT.cut σ l⟩
theorem LeB.cut (σ:PS):∀ bs:List Nat,LeB σ (cutB σ bs)
 | []=>trivial
 | i :: l=>by
  unfold cutB
  split
  ·rename_i b h
   exact ⟨⟨b,h,Bx.le.refl b⟩,LeB.cut σ l⟩
  ·exact LeB.cut σ l
theorem PS.le.cut {σ:PS} (ts bs:List Nat) (hr:refsOk (σ.cut ts bs)=true):PS.le σ (σ.cut ts bs):=PS.le.keep rfl rfl hr (LeT.cut σ ts) (LeB.cut σ bs)
open Go.RowKit
def Ex.to:Ex → Exit
 | .normal=>.normal
 | .exit id=>.exit id
 | .ret=>.ret
def Sp (P:Program) (K:World → Prop) (c:Code) (σ:PS) (Q:Ex → PS → Prop):Prop :=
 ∀ (w0:World) (B:Nat → Prop) (a:Act) (w:World) (L:Lk),Gd P K w0 B → Rel w0 B σ a w L → c.wp P (fun e a' w'=>∃ ex τ L',e=ex.to ∧ Q ex τ ∧ Rel w0 B τ a' w' L') a w
theorem Sp.mono {P:Program} {K:World → Prop} {c:Code} {σ:PS} {Q Q':Ex → PS → Prop} (h:Sp P K c σ Q) (hq:∀ e τ,Q e τ → Q' e τ):Sp P K c σ Q' :=
 fun w0 B a w L g r=>Code.wp_mono (fun _ _ _ ⟨ex,τ,L',h1,h2,h3⟩=>⟨ex,τ,L',h1,hq _ _ h2,h3⟩) (h w0 B a w L g r)
abbrev Lo:=List (Nat × (Ex × PS × List Nat × List Nat))
def evcode (P:Program) (K:World → Prop) (T:List TI) (O:Orc) (lo:Lo):Code → PS → Option (Ex × PS × List Prop)
 | .skip,σ=>some (.normal,σ,[])
 | .region _ ops d,σ=>match evregion P K T O ops d σ with
  | some (τ,obs)=>some (.normal,τ,obs)
  | none=>none
 | .seq a b,σ=>match evcode P K T O lo a σ with
  | some (.normal,τ,obs)=>match evcode P K T O lo b τ with
   | some (e,υ,obs')=>some (e,υ,obs ++ obs')
   | none=>none
  | r=>r
 | .cond c a b,σ=>match σ.op c with
  | .e (.v (.bool true))=>evcode P K T O lo a σ
  | .e (.v (.bool false))=>evcode P K T O lo b σ
  | _=>none
 | .block id b,σ=>match evcode P K T O lo b σ with
  | some (.exit i,τ,obs)=>if Nat.beq i id then some (.normal,τ,obs) else some (.exit i,τ,obs)
  | r=>r
 | .exit id,σ=>some (.exit id,σ,[])
 | .ret,σ=>some (.ret,σ,[])
 | .loop b,σ=>match look lo (firstReg b) with
  | some (e,τ,ts,bs)=>if refsOk (σ.cut ts bs) then some (e,τ,[Sp P K (.loop b) (σ.cut ts bs) (fun e' τ'=>e'=e ∧ τ'=τ)]) else none
  | none=>none
 | _,_=>none
section
variable {P:Program} {K:World → Prop} {T:List TI} {O:Orc} {lo:Lo}
theorem evcode_sp (hT:TyOk P T) (hm:P.follows .mixedOrders=true) {c:Code} {σ τ:PS} {e:Ex} {obs:List Prop} (h:evcode P K T O lo c σ=some (e,τ,obs)) (ho:∀ q,q ∈ obs → q) :
  Sp P K c σ (fun e' τ'=>e'=e ∧ τ'=τ):=by
 induction c generalizing σ τ e obs with
 | skip =>
  simp only [evcode,Option.some.injEq,Prod.mk.injEq] at h
  obtain ⟨rfl,rfl,_⟩:=h
  exact fun w0 B a w L g r=>wp_skip ⟨.normal,_,L,rfl,⟨rfl,rfl⟩,r⟩
 | region id ops d =>
  simp only [evcode] at h
  split at h
  ·rename_i τ' obs' h'
   simp only [Option.some.injEq,Prod.mk.injEq] at h
   obtain ⟨rfl,rfl,rfl⟩:=h
   exact fun w0 B a w L g r=>region_wp hT hm g h' ho r fun a' w' L' hr=>⟨.normal,_,L',rfl,⟨rfl,rfl⟩,hr⟩
  ·cases h
 | seq x y ihx ihy =>
  simp only [evcode] at h
  split at h
  ·rename_i τ' obs' hx
   split at h
   ·rename_i e2 υ obs2 hy
    simp only [Option.some.injEq,Prod.mk.injEq] at h
    obtain ⟨rfl,rfl,rfl⟩:=h
    intro w0 B a w L g r
    refine wp_seq (Code.wp_mono ?_ (ihx hx (fun q hq=>ho q (by simp [hq])) w0 B a w L g r))
    rintro ex a' w' ⟨e1,τ1,L',rfl,⟨rfl,rfl⟩,hr⟩
    exact ihy hy (fun q hq=>ho q (by simp [hq])) w0 B a' w' L' g hr
   ·cases h
  ·rename_i hne
   intro w0 B a w L g r
   refine wp_seq (Code.wp_mono ?_ (ihx h ho w0 B a w L g r))
   rintro ex a' w' ⟨e1,τ1,L',rfl,⟨rfl,rfl⟩,hr⟩
   cases e1 with
   | normal=>exact absurd h (by intro h; exact hne _ _ h)
   | exit i=>exact ⟨.exit i,τ1,L',rfl,⟨rfl,rfl⟩,hr⟩
   | ret=>exact ⟨.ret,τ1,L',rfl,⟨rfl,rfl⟩,hr⟩
 | cond c x y ihx ihy =>
  simp only [evcode] at h
  split at h
  ·rename_i hc
   intro w0 B a w L g r
   have hv:=r.op c
   rw [hc] at hv
   exact wp_cond_true (Rep.v_inv hv) (ihx h ho w0 B a w L g r)
  ·rename_i hc
   intro w0 B a w L g r
   have hv:=r.op c
   rw [hc] at hv
   exact wp_cond_false (Rep.v_inv hv) (ihy h ho w0 B a w L g r)
  ·cases h
 | block id b ih =>
  simp only [evcode] at h
  split at h
  ·rename_i i τ' obs' hb
   intro w0 B a w L g r
   split at h
   ·rename_i hi
    have hi:=beq_iff.1 hi
    subst hi
    simp only [Option.some.injEq,Prod.mk.injEq] at h
    obtain ⟨rfl,rfl,rfl⟩:=h
    refine wp_block (Code.wp_mono ?_ (ih hb ho w0 B a w L g r))
    rintro ex a' w' ⟨e1,τ1,L',rfl,⟨rfl,rfl⟩,hr⟩
    show Exit.inBlock i _ (.exit i) a' w'
    simp only [Exit.inBlock,if_true]
    exact ⟨.normal,_,L',rfl,⟨rfl,rfl⟩,hr⟩
   ·rename_i hi
    have hi:i ≠ id:=fun e=>hi (beq_iff.2 e)
    simp only [Option.some.injEq,Prod.mk.injEq] at h
    obtain ⟨rfl,rfl,rfl⟩:=h
    refine wp_block (Code.wp_mono ?_ (ih hb ho w0 B a w L g r))
    rintro ex a' w' ⟨e1,τ1,L',rfl,⟨rfl,rfl⟩,hr⟩
    show Exit.inBlock id _ (.exit i) a' w'
    simp only [Exit.inBlock,hi,if_false]
    exact ⟨.exit i,_,L',rfl,⟨rfl,rfl⟩,hr⟩
  ·rename_i hne
   intro w0 B a w L g r
   refine wp_block (Code.wp_mono ?_ (ih h ho w0 B a w L g r))
   rintro ex a' w' ⟨e1,τ1,L',rfl,⟨rfl,rfl⟩,hr⟩
   cases e1 with
   | normal=>exact ⟨.normal,_,L',rfl,⟨rfl,rfl⟩,hr⟩
   | exit i=>exact absurd h (by intro h; exact hne _ _ _ h)
   | ret=>exact ⟨.ret,_,L',rfl,⟨rfl,rfl⟩,hr⟩
 | exit id =>
  simp only [evcode,Option.some.injEq,Prod.mk.injEq] at h
  obtain ⟨rfl,rfl,_⟩:=h
  exact fun w0 B a w L g r=>wp_exit ⟨.exit id,_,L,rfl,⟨rfl,rfl⟩,r⟩
 | ret =>
  simp only [evcode,Option.some.injEq,Prod.mk.injEq] at h
  obtain ⟨rfl,rfl,_⟩:=h
  exact fun w0 B a w L g r=>wp_ret ⟨.ret,_,L,rfl,⟨rfl,rfl⟩,r⟩
 | loop b ih =>
  simp only [evcode] at h
  split at h
  ·rename_i e' τ' ts bs hl
   split at h
   ·rename_i hr
    simp only [Option.some.injEq,Prod.mk.injEq] at h
    obtain ⟨rfl,rfl,rfl⟩:=h
    intro w0 B a w L g r
    obtain ⟨L',r'⟩:=PS.le.cut ts bs hr w0 B a w L (fun b hb=>(g.hB b hb).1) r
    have hs:=ho _ (List.mem_singleton.2 rfl)
    exact hs w0 B a w L' g r'
   ·cases h
  ·cases h
 | _=>cases h
theorem Sp.loop {b:Code} {Q:Ex → PS → Prop} (J:Nat → PS → Prop) (hstep:∀ n σ,J n σ → Sp P K b σ (fun e τ=>(e = .normal ∧ ∃ m,m < n ∧ J m τ) ∨ (e ≠ .normal ∧ Q e τ))) :
  ∀ n σ,J n σ → Sp P K (.loop b) σ Q:=by
 intro n0 σ0 hJ0 w0 B a0 w1 L0 g r0 bf k cs
 have key:∀ n σ a w L,J n σ → Rel w0 B σ a w L →
   ∃ e a' w',(∃ ex τ L',e=ex.to ∧ Q ex τ ∧ Rel w0 B τ a' w' L') ∧ Arrives P (lone (bf.at a (.code b :: .inLoop b :: k)) cs w) bf k cs e a' w':=by
  intro n
  induction n using Nat.strongRecOn with
  | _ n ih =>
   intro σ a w L hJ r
   obtain ⟨e,a₁,w₁,⟨ex,υ,L2,rfl,hq,hr2⟩,harr⟩:=hstep n σ hJ w0 B a w L g r bf (.inLoop b :: k) cs
   rcases hq with ⟨rfl,m,hm,hJm⟩ | ⟨hne,hq⟩
   ·obtain ⟨e₂,a₂,w₂,hq₂,harr₂⟩:=ih m hm υ a₁ w₁ L2 hJm hr2
    exact ⟨e₂,a₂,w₂,hq₂,.of_steps (Steps.trans harr (.one step_inLoop)) harr₂⟩
   ·cases ex with
    | normal=>exact absurd rfl hne
    | exit i=>exact ⟨_,a₁,w₁,⟨.exit i,υ,L2,rfl,hq,hr2⟩,.pass (x:=.inLoop b) rfl (fun _ _=>.inl (by simp [Ex.to])) harr⟩
    | ret=>exact ⟨_,a₁,w₁,⟨.ret,υ,L2,rfl,hq,hr2⟩,.pass (x:=.inLoop b) rfl (fun _ _=>.inl (by simp [Ex.to])) harr⟩
 obtain ⟨e,a',w',hq,harr⟩:=key n0 σ0 a0 w1 L0 hJ0 r0
 exact ⟨e,a',w',hq,.of_steps (.one step_loop) harr⟩
theorem toRes_rep {w0:World} {B:Nat → Prop} {σ:PS} {a:Act} {w:World} {L:Lk} (hB:∀ b,B b → b < w0.heap.size) (r:Rel w0 B σ a w L) {p:PV} {e:E} (h:toRes σ p=some e) {v:Value} (hv:RepP (bad B L) (mine L) L w p v) :
  Rep B (fun _=>True) w e v:=by
 have hbB:∀ id x,L.own id x → ¬ B x:=fun id x hx hb=>by have:=hB x hb; have:=(r.hw id x hx).1; omega
 have own:∀ (v:Value) (T:TypeId) (n sz:Nat) (f:Nat → Nat → Value) (nl:Bool) (el:Nat → Nat → E) (id:Nat),OwnR w v T n sz f nl → (∀ x,v.ownBlock=some x → L.own id x) →
   (∀ i j,i < n → j < sz → Rep (bad B L) (mine L) w (el i j) (f i j) ∧ (el i j).nr 2=true) → Rep B (fun _=>True) w (.sl nl n sz el) v:=by
  intro v T n sz f nl el id h1 h2 h3
  rcases h1 with ⟨rfl,rfl⟩ | ⟨b,c,cur,rfl,hg,hnc,hcm,hcs,hcell,hnl⟩
  ·exact .sl nl 0 sz el none 0 f (Nat.le_refl _) (by decide) (fun _=>rfl) (fun i j hi=>absurd hi (Nat.not_lt_zero i)) (fun i j hi=>absurd hi (Nat.not_lt_zero i)) (fun i j hi=>absurd hi (Nat.not_lt_zero i)) (fun i j hi=>absurd hi (Nat.not_lt_zero i))
  ·have hob:=h2 b rfl
   refine .sl nl n sz el _ c f hnc (by unfold maxLen at hcm; omega) (fun h=>by cases h) (fun i j hi hj=>⟨(hcell i j hi hj).2,fun hn=>hnl hn _ (Array.mem_of_getElem? (hcell i j hi hj).1)⟩) (fun i j hi hj=>(h3 i j hi hj).2)
    (fun i j hi hj=>⟨b,0,rfl,hbB id b hob,(r.hw id b hob).2,?_⟩) (fun i j hi hj=>((h3 i j hi hj).1.weak (fun _ h=>.inl h) (fun _ h=>h)).nr 2 (h3 i j hi hj).2)
   rw [Nat.zero_add]
   simp only [World.cell?,hg]
   simpa using (hcell i j hi hj).1
 cases p with
 | e x =>
  simp only [toRes] at h
  split at h
  ·rename_i hn
   cases h
   exact (Rep.weak (bs':=B) (br':=mine L) (fun _ h=>.inl h) (fun _ h=>h) hv).nr 3 hn
  ·cases h
 | own id =>
  obtain ⟨_,rfl⟩:=hv
  simp only [toRes] at h
  split at h
  ·rename_i nl T n sz el hbo
   cases h
   obtain ⟨f,h1,h2,h3⟩:=r.hb id _ hbo
   exact own _ T n sz f nl el id h1 (fun x hx=>(h2 x).2 hx) h3
  ·rename_i nl T1 T0 n sz len el hbo
   cases h
   obtain ⟨b,c,cur,f,h1,h2,h3,h4,h5,h6,h7,h8,h9,h10,h11⟩:=r.hb id _ hbo
   have hob:L.own id b:=(h9 b).2 (.inl rfl)
   rw [h1]
   refine .sl true n 1 _ _ c (fun k _=>L.inn id k) h3 (by unfold maxLen at h4; omega) (fun h=>by cases h) (fun k j hk hj=>?_) (fun k j hk hj=>rfl)
    (fun k j hk hj=>⟨b,0,rfl,hbB id b hob,(r.hw id b hob).2,?_⟩) (fun k j hk hj=>own _ T0 (len k) sz (f k) nl (el k) id (h8 k hk).1 (fun x hx=>(h9 x).2 (.inr ⟨k,hk,hx⟩)) (h8 k hk).2)
   ·obtain ⟨q1,q2⟩:=h7 _ (Array.mem_of_getElem? (h6 k hk (by simp)))
    exact ⟨q1,fun _=>q2⟩
   ·rw [Nat.zero_add,Nat.mul_one]
    obtain rfl:j=0:=by omega
    simp only [World.cell?,h2]
    simpa using h6 k hk (by simp)
  ·cases h
 | _=>cases h
def resVal (tmps:Array Value):ResultVar → Sem Value
 | .tmp t=>Pure.pure (tmps.getD t undef)
 | .cell q t=>do loadVar t (← asAddr (tmps.getD q undef))
theorem results_eq (fn:Func) (tmps:Array Value):results fn tmps=(do
  let vs ← fn.results.mapM (resVal tmps)
  Pure.pure (if h:vs.size=1 then vs[0] else .tuple vs)):=by
 unfold results
 congr 1
theorem resOne_rep {w0:World} {B:Nat → Prop} {σ:PS} {a:Act} {w:World} {L:Lk} (hT:TyOk P T) (hB:∀ b,B b → b < w0.heap.size) (r:Rel w0 B σ a w L) {x:ResultVar} {e:E} (h:resOne T σ x=some e) :
  ∃ v,(resVal a.tmps x).run P w = .ok v w ∧ Rep B (fun _=>True) w e v:=by
 cases x with
 | tmp t=>exact ⟨_,rfl,toRes_rep hB r h (r.ht t)⟩
 | cell q t =>
  simp only [resOne] at h
  split at h
  ·rename_i ti hti
   split at h
   ·rename_i l is hrd
    obtain ⟨b,of,vs,e1,h1,h2,h3⟩:=r.read (r.ht q) hrd (fun q hq=>by simp at hq)
    by_cases ha:ti.isAgg=true
    ·rw [if_pos ha] at h
     split at h
     ·rename_i hn
      cases h
      refine ⟨.agg vs.toArray,?_,(Rep.weak (bs':=B) (br':=mine L) (fun _ h=>.inl h) (fun _ h=>h) h1.agg).nr 3 hn⟩
      simp only [resVal,e1,asAddr,Sem.run_bind,Sem.run_pure,Result.andThen_ok,run_load_agg hT w hti ha b of vs h2 h3]
     ·cases h
    ·rw [if_neg ha] at h
     split at h
     ·rename_i y
      split at h
      ·rename_i hn
       cases h
       obtain ⟨z,zs,rfl,hz,_⟩:=h1.uncons
       refine ⟨z,?_,(Rep.weak (bs':=B) (br':=mine L) (fun _ h=>.inl h) (fun _ h=>h) hz).nr 3 hn⟩
       simp only [resVal,e1,asAddr,Sem.run_bind,Sem.run_pure,Result.andThen_ok,run_load_one hT w hti (by simpa using ha) b of z (by simpa using h3 0 z rfl)]
      ·cases h
     ·cases h
   ·cases h
  ·cases h
theorem resAll_rep {w0:World} {B:Nat → Prop} {σ:PS} {a:Act} {w:World} {L:Lk} (hT:TyOk P T) (hB:∀ b,B b → b < w0.heap.size) (r:Rel w0 B σ a w L) {l:List ResultVar} {es:List E} (h:resAll T σ l=some es) :
  ∃ vs,(l.mapM (resVal a.tmps)).run P w = .ok vs w ∧ Reps B (fun _=>True) w es vs:=by
 induction l generalizing es with
 | nil=>simp only [resAll,Option.some.injEq] at h; subst h; exact ⟨[],rfl,.nil _ _ _⟩
 | cons x l ih =>
  simp only [resAll] at h
  split at h
  ·rename_i e es' h1 h2
   cases h
   obtain ⟨v,q1,q2⟩:=resOne_rep hT hB r h1
   obtain ⟨vs,p1,p2⟩:=ih h2
   refine ⟨v :: vs,?_,.cons q2 p2⟩
   rw [List.mapM_cons]
   simp only [Sem.run_bind,q1,Result.andThen_ok,p1,Sem.run_pure]
  ·cases h
theorem resE_rep {w0:World} {B:Nat → Prop} {σ:PS} {a:Act} {w:World} {L:Lk} (hT:TyOk P T) (hB:∀ b,B b → b < w0.heap.size) (r:Rel w0 B σ a w L) {fn:Func} {e:E} (h:resE T fn σ=some e) :
  ∃ v,(results fn a.tmps).run P w = .ok v w ∧ Rep B (fun _=>True) w e v:=by
 unfold resE at h
 have main:∀ es,resAll T σ fn.results.toList=some es → ∃ vs:List Value,(fn.results.mapM (resVal a.tmps)).run P w = .ok vs.toArray w ∧ Reps B (fun _=>True) w es vs:=by
  intro es hes
  obtain ⟨vs,h1,h2⟩:=resAll_rep hT hB r hes
  refine ⟨vs,?_,h2⟩
  rw [Array.mapM_eq_mapM_toList]
  simp only [Sem.run_map,h1,Result.andThen_ok]
 split at h
 ·rename_i y hy
  cases h
  obtain ⟨vs,h1,h2⟩:=main _ hy
  obtain ⟨v,vs',rfl,hv,hnil⟩:=h2.uncons
  have:=hnil.nil_inv
  subst this
  refine ⟨v,?_,hv⟩
  rw [results_eq,Sem.run_bind,h1]
  simp
 ·rename_i l hne hl
  cases h
  obtain ⟨vs,h1,h2⟩:=main _ hl
  refine ⟨.tuple vs.toArray,?_,h2.tup⟩
  rw [results_eq,Sem.run_bind,h1]
  have hlen:¬ vs.length=1:=by
   rw [h2.len]
   intro e1
   match l,e1 with
   | [y],_=>exact hne y rfl
  simp [hlen]
 ·cases h
theorem initT_look (args:List E):∀ (k t:Nat),look (initT k args) t=if k ≤ t then (args[t - k]?).map .e else none:=by
 induction args with
 | nil=>intro k t; simp [initT,look]
 | cons x l ih =>
  intro k t
  simp only [initT]
  rw [look_cons,ih (k+1) t]
  by_cases h:k=t
  ·subst h; simp
  ·rw [if_neg h]
   by_cases h2:k ≤ t
   ·rw [if_pos (by omega),if_pos h2,show t - k=(t - (k+1))+1 by omega]
    simp
   ·rw [if_neg (by omega),if_neg h2]
theorem Rel.init {B:Nat → Prop} {w:World} {fn:Func} {args:List E} {vs:List Value} (hr:Reps B (fun _=>False) w args vs) (hn:args.length ≤ fn.ntmps) (nl:Bool) (_hB:∀ b,B b → b < w.heap.size ∧ NoLim w b) :
  Rel w B (initS fn nl args) { tmps:=vs.toArray ++ Array.replicate (fn.ntmps - vs.toArray.size) undef,defers:=[] } w ⟨fun _=>False,fun _ _=>False,fun _=>undef,fun _ _=>undef⟩:=by
 have hlen:=hr.len
 refine ⟨rfl,by simp [initS]; omega,fun t=>?_,fun id b hb=>(by cases hb),fun id=>⟨fun h=>h.elim,fun h=>(by cases h)⟩,fun _ _ h=>h.elim,fun _ _ h=>h.elim,fun _ _ _ h=>h.elim,Below.refl _ _,fun _ id b hb=>(by cases hb)⟩
 have hg:(initS fn nl args).get t=((args[t]?).map PV.e).getD (.e .any):=by
  unfold PS.get initS
  rw [initT_look]
  simp
 rw [hg]
 by_cases ht:t < args.length
 ·have ht':t < vs.length:=by omega
  rw [List.getElem?_eq_getElem ht]
  have hv:(vs.toArray ++ Array.replicate (fn.ntmps - vs.toArray.size) undef).getD t undef=vs[t]:=by
   simp [Array.getElem?_append,ht']
  show Rep _ _ _ _ _
  rw [hv]
  exact (hr.rep t _ _ (List.getElem?_eq_getElem ht) (List.getElem?_eq_getElem ht')).weak (fun b h=>h.elim id fun ⟨_,h⟩=>h.elim) (fun _ ⟨_,h⟩=>h.elim)
 ·rw [List.getElem?_eq_none (by omega)]
  exact .any _
theorem PC.mkle (hT:TyOk P T) (hm:P.follows .mixedOrders=true) (hp:∀ w w',K w → Below w.heap.size w w' → K w') {f:FuncId} {fn:Func} {c:Code} {args:List E} {res:E} (hcall:∀ (vs:Array Value) (w:World),(callFunc f vs).run P w = .ok (.enter f vs) w)
  (hf:P.funcs[f]? = some fn) (hb:fn.body=some c) (hn:args.length ≤ fn.ntmps) (nl:Bool)
  (h:Sp P K c (initS fn nl args) (fun e τ=>(e = .ret ∨ e = .normal) ∧ ∃ r,resE T fn τ=some r ∧ ∀ (bs br:Nat → Prop) (w:World) (v:Value),Rep bs br w r v → Rep bs br w res v)):PC P K f args res:=by
 refine ⟨hcall,fun w B vs hK hB hr=>calls_of_wp hf hb ?_⟩
 have hr0:=Rel.init (fn:=fn) hr hn nl hB
 refine Code.wp_mono ?_ (h w B _ w _ ⟨hK,hp,hB⟩ hr0)
 rintro e a' w' ⟨ex,τ,L',rfl,⟨he,r,hres,hle⟩,hr'⟩
 obtain ⟨v,h1,h2⟩:=resE_rep hT (fun b hb=>(hB b hb).1) hr' hres
 have hpost:a'.defers=[] ∧ ∃ v,(results fn a'.tmps).run P w' = .ok v w' ∧ ∃ v',Ending.returned v = .returned v' ∧ Below w.heap.size w w' ∧ Rep B (fun _=>True) w' res v':=⟨hr'.hd,v,h1,v,rfl,hr'.he,hle _ _ _ _ h2⟩
 rcases he with rfl | rfl
 ·exact hpost
 ·exact hpost
theorem PCN.mkle (hT:TyOk P T) (hm:P.follows .mixedOrders=true) (hp:∀ w w',K w → Below w.heap.size w w' → K w') {f:FuncId} {fn:Func} {c:Code} {args:List E} (hcall:∀ (vs:Array Value) (w:World),(callFunc f vs).run P w = .ok (.enter f vs) w)
  (hf:P.funcs[f]? = some fn) (hb:fn.body=some c) (hn:args.length ≤ fn.ntmps) (nl:Bool) {nl':Bool} {T0:TypeId} {n sz:Nat} {el:Nat → Nat → E}
  (h:Sp P K c (initS fn nl args) (fun e τ=>(e = .ret ∨ e = .normal) ∧ ∃ t id b,fn.results.toList=[.tmp t] ∧ τ.get t = .own id ∧ τ.bo id=some b ∧ ∀ (bs br:Nat → Prop) (L:Lk) (w:World),BxOk bs br L w id b → BxOk bs br L w id (.row nl' T0 n sz el))):PCN P K f args nl' T0 n sz el:=by
 refine ⟨hcall,fun w B vs hK hB hr=>calls_of_wp hf hb ?_⟩
 have hr0:=Rel.init (fn:=fn) hr hn nl hB
 refine Code.wp_mono ?_ (h w B _ w _ ⟨hK,hp,hB⟩ hr0)
 rintro e a' w' ⟨ex,τ,L',rfl,⟨he,t,id,b,hres,hg,hbo,hle⟩,hr'⟩
 have ho:=hr'.ht t
 rw [hg] at ho
 obtain ⟨hlive,hv⟩:=ho
 obtain ⟨f0,h1,h2,h3⟩:=hle _ _ _ _ (hr'.hb id b hbo)
 have hrun:(results fn a'.tmps).run P w' = .ok (L'.val id) w':=by
  rw [results_eq,Sem.run_bind,Array.mapM_eq_mapM_toList,hres,Sem.run_map,List.mapM_cons]
  simp only [resVal,Sem.run_bind,Sem.run_pure,Result.andThen_ok,List.mapM_nil,hv]
  simp
 have hpost:a'.defers=[] ∧ ∃ v,(results fn a'.tmps).run P w' = .ok v w' ∧ ∃ v',Ending.returned v = .returned v' ∧ Below w.heap.size w w' ∧ ∃ g,OwnR w' v' T0 n sz g nl' ∧ (∀ x,v'.ownBlock=some x → w.heap.size ≤ x ∧ x < w'.heap.size) ∧
   ∀ i j,i < n → j < sz → Rep (fun b=>B b ∨ v'.ownBlock=some b) (fun _=>True) w' (el i j) (g i j) ∧ (el i j).nr 2=true:=by
  refine ⟨hr'.hd,_,hrun,_,rfl,hr'.he,f0,h1,fun x hx=>hr'.hw id x ((h2 x).2 hx),fun i j hi hj=>⟨?_,(h3 i j hi hj).2⟩⟩
  refine ((h3 i j hi hj).1.weak (bs':=fun b=>B b ∨ (L'.val id).ownBlock=some b) (br':=mine L') (fun b hb=>?_) (fun _ h=>h)).nr 2 (h3 i j hi hj).2
  rcases hb with hb | hb
  ·exact .inl hb
  ·exact .inr ⟨id,(h2 b).2 hb⟩
 rcases he with rfl | rfl
 ·exact hpost
 ·exact hpost
theorem PC.of (hT:TyOk P T) (hm:P.follows .mixedOrders=true) (hp:∀ w w',K w → Below w.heap.size w w' → K w') {f:FuncId} {fn:Func} {c:Code} {args:List E} {res:E} (hcall:∀ (vs:Array Value) (w:World),(callFunc f vs).run P w = .ok (.enter f vs) w)
  (hf:P.funcs[f]? = some fn) (hb:fn.body=some c) (hn:args.length ≤ fn.ntmps) (nl:Bool) (O:Orc) (lo:Lo) {e:Ex} {τ:PS} {obs:List Prop}
  (h:evcode P K T O lo c (initS fn nl args)=some (e,τ,obs)) (he:e = .ret ∨ e = .normal) (hres:resE T fn τ=some res) (ho:∀ q,q ∈ obs → q):PC P K f args res :=
 PC.mkle hT hm hp hcall hf hb hn nl ((evcode_sp hT hm h ho).mono fun e' τ' ⟨h1,h2⟩=>by subst h1 h2; exact ⟨he,res,hres,fun _ _ _ _ h=>h⟩)
end
open Go.RowKit
def AllP:List Prop → Prop
 | []=>True
 | p :: l=>p ∧ AllP l
theorem AllP.mem {l:List Prop} (h:AllP l):∀ q,q ∈ l → q:=by
 induction l with
 | nil=>intro q hq; simp at hq
 | cons p l ih =>
  intro q hq
  rcases List.mem_cons.1 hq with hq | hq
  ·subst hq; exact h.1
  ·exact ih h.2 q hq
def TyAll (P:Program):List TI → Prop
 | []=>True
 | x :: l=>(P.underlying x.id=some x.d ∧ P.info? x.id=some x.i) ∧ TyAll P l
theorem TyAll.ok {P:Program} {T:List TI} (h:TyAll P T):TyOk P T:=by
 induction T with
 | nil=>intro x hx; simp at hx
 | cons y l ih =>
  intro x hx
  rcases List.mem_cons.1 hx with hx | hx
  ·subst hx; exact h.1
  ·exact ih h.2 x hx
theorem Sp.run {P:Program} {K:World → Prop} {T:List TI} (hT:TyOk P T) (hm:P.follows .mixedOrders=true) {c:Code} {σ τ:PS} {e:Ex} {obs:List Prop} (O:Orc) (lo:Lo) (h:evcode P K T O lo c σ=some (e,τ,obs)) (ho:AllP obs):Sp P K c σ (fun e' τ'=>e'=e ∧ τ'=τ) :=
 evcode_sp hT hm h ho.mem
def E.le (p q:E):Prop:=∀ (bs br:Nat → Prop) (w:World) (v:Value),Rep bs br w p v → Rep bs br w q v
theorem E.le.refl (p:E):E.le p p:=fun _ _ _ _ h=>h
theorem E.le.of_eq {p q:E} (h:p=q):E.le p q:=h ▸ E.le.refl p
theorem E.le.trans {p q r:E} (h:E.le p q) (k:E.le q r):E.le p r:=fun _ _ _ _ x=>k _ _ _ _ (h _ _ _ _ x)
theorem PV.le.e {p q:E} (h:E.le p q):PV.le (.e p) (.e q):=fun bs br _ w v k=>h bs br w v k
theorem PV.le.bool {a b:Bool} (h:a=b):PV.le (.e (.v (.bool a))) (.e (.v (.bool b))):=PV.le.e (.of_eq (by rw [h]))
theorem PV.le.int {k:IntKind} {a b:Int} (h:a=b):PV.le (.e (.v (.int k a))) (.e (.v (.int k b))):=PV.le.e (.of_eq (by rw [h]))
theorem PV.le.any (p:PV):PV.le p (.e .any):=fun _ _ _ _ _ _=>.any _
inductive Les:List E → List E → Prop
 | nil:Les [] []
 | cons {p q:E} {l m:List E} (h:E.le p q) (k:Les l m):Les (p :: l) (q :: m)
theorem Les.refl:∀ l:List E,Les l l
 | []=>.nil
 | p :: l=>.cons (.refl p) (Les.refl l)
theorem Les.reps {l m:List E} (h:Les l m) {bs br:Nat → Prop} {w:World} {vs:List Value} (k:Reps bs br w l vs):Reps bs br w m vs:=by
 induction h generalizing vs with
 | nil=>exact k
 | cons h _ ih =>
  obtain ⟨x,ys,rfl,h1,h2⟩:=k.uncons
  exact .cons (h _ _ _ _ h1) (ih h2)
theorem E.le.agg {l m:List E} (h:Les l m):E.le (.agg l) (.agg m):=fun _ _ _ _ k=>by
 obtain ⟨vs,rfl,hr⟩:=Rep.agg_inv k
 exact (h.reps hr).agg
theorem E.le.tup {l m:List E} (h:Les l m):E.le (.tup l) (.tup m):=fun _ _ _ _ k=>by
 obtain ⟨vs,rfl,hr⟩:=Rep.tup_inv k
 exact (h.reps hr).tup
theorem E.le.nil (nl:Bool) (sz:Nat) (el:Nat → Nat → E):E.le (.v (.slice none 0 0)) (.sl nl 0 sz el):=fun _ _ _ _ k=>by
 obtain rfl:=Rep.v_inv k
 exact .sl nl 0 sz el none 0 (fun _ _=>undef) (Nat.le_refl _) (by decide) (fun _=>rfl) (fun i j h=>absurd h (Nat.not_lt_zero i)) (fun i j h=>absurd h (Nat.not_lt_zero i)) (fun i j h=>absurd h (Nat.not_lt_zero i)) (fun i j h=>absurd h (Nat.not_lt_zero i))
theorem E.le.sl {nl:Bool} {n sz:Nat} {el el':Nat → Nat → E} (h:∀ i j,i < n → j < sz → E.le (el i j) (el' i j) ∧ (el' i j).nr 2=true):E.le (.sl nl n sz el) (.sl nl n sz el'):=fun bs br w v k=>by
 cases k with
 | sl _ _ _ _ A c f hc hm h0 hl hr cell kk =>
  exact .sl nl n sz el' A c f hc hm h0 hl (fun i j hi hj=>(h i j hi hj).2) cell fun i j hi hj=>(h i j hi hj).1 _ _ _ _ (kk i j hi hj)
theorem PC.le {P:Program} {K:World → Prop} {f:FuncId} {args args':List E} {res res':E} (h:PC P K f args res) (ha:Les args' args) (hr:E.le res res'):PC P K f args' res' :=
 ⟨h.call,fun w B vs hK hB hrep=>(h.run w B vs hK hB (ha.reps hrep)).mono fun _ _ ⟨v,h1,h2,h3⟩=>⟨v,h1,h2,hr _ _ _ _ h3⟩⟩
theorem PC.res {P:Program} {K:World → Prop} {f:FuncId} {args:List E} {res res':E} (h:PC P K f args res) (hr:E.le res res'):PC P K f args res':=h.le (Les.refl _) hr
end Go.Proofs.YtkbjkchapnjhgaaGreatDoor.Pu
namespace Go.Proofs.YtkbjkchapnjhgaaGreatDoor
open Go.RowKit Fp
set_option maxHeartbeats 400000 in
theorem natTrim_any (A:Option Addr) (c:Nat) (L:List Nat) (w:World) (hs:Sl w A c L) :
  Calls Tryz.prog 128 #[.slice A L.length c] w fun e w'=>e = .returned (.slice A (trimL L).length c) ∧ w=w':=by
 have hc:=hs.cap
 have hl:=hs.lim
 go_enter Tryz.func128,Tryz.ntmps128
 go_wp2
 go_loop [3] (fun i=>∃ k:Nat,k ≤ L.length ∧ i = .int .i64 k ∧ tlen L=tlen (L.take k)) (fun i=>(intOf i).toNat)
 case atStart=>exact ⟨L.length,Nat.le_refl _,rfl,by simp⟩
 case round =>
  obtain ⟨k,hk,rfl,ht⟩:=hrel
  have HT:=Lib.hid ht; clear ht
  by_cases h0:0 < k
  ·obtain ⟨ab,ao,rfl,hb,h1⟩:=hs.at_ (i:=k - 1) (by omega)
   have e1:((k:Int) - 1).toNat=k - 1:=by omega
   have Z:=Lib.hid (tlen_take_zero L (k - 1) (by omega))
   have NZ:=Lib.hid (tlen_take_nz L (k - 1) (by omega))
   rw [Nat.sub_add_cancel h0] at Z NZ
   generalize L[k - 1]=x at *
   by_cases hx:x=0
   ·have Hx:=Lib.hid hx; clear hx
    have hb:((x:Int) == 0)=true:=by have:=Hx.out; simp; omega
    go_wp2
    go_round
    case rel=>exact ⟨k - 1,by omega,by go_num,by rw [HT.out,Z.out Hx.out]⟩
    case measure=>simp [intOf]; omega
   ·have hb:((x:Int) == 0)=false:=by simp; omega
    go_wp2
    go_ret
    exact ⟨ret_slice (by show _=tlen L; rw [HT.out,NZ.out hx]),rfl⟩
  ·go_wp2
   go_ret
   have:k=0:=by omega
   subst this
   exact ⟨ret_slice (by show _=tlen L; rw [HT.out]; rfl),rfl⟩
set_option maxHeartbeats 400000 in
theorem dyTrimmed_any (A:Option Addr) (c:Nat) (L:List Nat) (w:World) (hs:Sl w A c L) :
  Calls Tryz.prog 98 #[.slice A L.length c] w fun e w'=>e = .returned (.slice A (trimL L).length c) ∧ w=w':=by
 have hc:=hs.cap
 have hl:=hs.lim
 go_enter Tryz.func98,Tryz.ntmps98
 go_wp2
 go_loop [3] (fun i=>∃ k:Nat,k ≤ L.length ∧ i = .int .i64 k ∧ tlen L=tlen (L.take k)) (fun i=>(intOf i).toNat)
 case atStart=>exact ⟨L.length,Nat.le_refl _,rfl,by simp⟩
 case round =>
  obtain ⟨k,hk,rfl,ht⟩:=hrel
  have HT:=Lib.hid ht; clear ht
  by_cases h0:0 < k
  ·obtain ⟨ab,ao,rfl,hb,h1⟩:=hs.at_ (i:=k - 1) (by omega)
   have e1:((k:Int) - 1).toNat=k - 1:=by omega
   have Z:=Lib.hid (tlen_take_zero L (k - 1) (by omega))
   have NZ:=Lib.hid (tlen_take_nz L (k - 1) (by omega))
   rw [Nat.sub_add_cancel h0] at Z NZ
   generalize L[k - 1]=x at *
   by_cases hx:x=0
   ·have Hx:=Lib.hid hx; clear hx
    have hb:((x:Int) == 0)=true:=by have:=Hx.out; simp; omega
    go_wp2
    go_round
    case rel=>exact ⟨k - 1,by omega,by go_num,by rw [HT.out,Z.out Hx.out]⟩
    case measure=>simp [intOf]; omega
   ·have hb:((x:Int) == 0)=false:=by simp; omega
    go_wp2
    go_ret
    exact ⟨ret_slice (by show _=tlen L; rw [HT.out,NZ.out hx]),rfl⟩
  ·go_wp2
   go_ret
   have:k=0:=by omega
   subst this
   exact ⟨ret_slice (by show _=tlen L; rw [HT.out]; rfl),rfl⟩
theorem Sl.trim {w:World} {A:Option Addr} {c:Nat} {L:List Nat} (h:Sl w A c L):Sl w A c (trimL L):=(h.take (tlen L)).eqv (trimL_eq_take L).symm
def bitsRen:Go.Shelf.Ren:=⟨fun | 128=>129 | n=>n,fun | 51=>50 | 3=>3 | 4=>4 | 46=>57 | 5=>5 | 9=>9 | n=>n,fun | n=>n⟩
theorem bitsLays:Go.Proofs.Lays.n128 Tryz.prog bitsRen:={
 mixed:=by kernel_rfl
 f128:=Tryz.func129.trans (congrArg some (by kernel_rfl))
 t3:=Tryz.underlying3
 a3:=Tryz.isAgg3
 z3:=Tryz.sizeOf3
 v3:=Tryz.zeroValue3
 t4:=Tryz.underlying4
 a4:=Tryz.isAgg4
 z4:=Tryz.sizeOf4
 v4:=Tryz.zeroValue4
 t5:=Tryz.underlying5
 a5:=Tryz.isAgg5
 z5:=Tryz.sizeOf5
 v5:=Tryz.zeroValue5
 t9:=Tryz.underlying9
 a9:=Tryz.isAgg9
 z9:=Tryz.sizeOf9
 v9:=Tryz.zeroValue9
 t46:=Tryz.underlying57
 a46:=Tryz.isAgg57
 z46:=Tryz.sizeOf57
 v46:=Tryz.zeroValue57
 t51:=Tryz.underlying50
 a51:=Tryz.isAgg50
 z51:=Tryz.sizeOf50
 v51:=Tryz.zeroValue50 }
theorem len32_any (x:Nat) (hx:x < 4294967296) (w:World) :
  Calls Tryz.prog 129 #[.int .u32 x] w fun e w'=>e = .returned (.int .i64 (bitsN x)) ∧ w=w':=by
 refine (Any.bits_Len32 bitsLays x w (by omega) (by omega)).mono ?_
 rintro e w' ⟨rfl,rfl⟩
 rw [Int.toNat_natCast,bitLen_eq x hx]
 exact ⟨rfl,rfl⟩
set_option maxHeartbeats 1000000 in
theorem tz32_core (x k idx:Nat) (w:World) (hx0:((x:Int) == 0)=false)
  (key:bits BinOp.and IntKind.u32 (x:Int) (-(x:Int) % 4294967296) * 125613361 % 4294967296 / 134217728=(idx:Int))
  (hi:idx < 32) (hk:k < 32) (hcell:w.cell? ⟨0,idx,none⟩=some (.int .u8 k)) :
  Calls Tryz.prog 122 #[.int .u32 x] w fun e w'=>e = .returned (.int .i64 k) ∧ w=w':=by
 go_enter Tryz.func122,Tryz.ntmps122
 go_wp2_with (simp only [key])
 go_ret
 exact ⟨rfl,rfl⟩
theorem tz32_any (x:Nat) (h0:x ≠ 0) (hx:x < 4294967296) (w:World) (hT:Tb w) :
  Calls Tryz.prog 122 #[.int .u32 x] w fun e w'=>e = .returned (.int .i64 (ctzN x)) ∧ w=w':=by
 rw [← ctz_eq x h0 hx]
 obtain ⟨hlow,hk⟩:=Lib.lowest_bit 32 x h0 hx
 obtain ⟨hi,htab⟩:=Lib.deBruijn32_at _ hk
 have hcell:=hT _ hi
 rw [htab] at hcell
 exact tz32_core x _ _ w (by simp; omega) (tz32_key x _ hx h0 hlow) hi hk hcell
open Go.RowKit Fp
theorem i64_in (n:Int) (h0:-9223372036854775808 ≤ n) (h1:n ≤ 9223372036854775807):IntKind.i64.wrap n=n:=by rw [IntKind.wrap_i64]; omega
theorem bits_top {L M:List Nat} {n:Nat} (hs:Ok32 L) (hM:trimL L=M) (hn:M.length=n+1) :
  ∃ x,M[n]? = some x ∧ x < 4294967296 ∧ (32 * (n:Int)+(bitsN x:Int))=(bitsN (val L):Int) ∧ bitsN x ≤ 32:=by
 have hk:Ok32 M:=hM ▸ hs.trimL
 have ht:Trim M:=hM ▸ trim_trimL L
 rcases List.eq_nil_or_concat M with rfl | ⟨l,x,rfl⟩
 ·simp at hn
 ·simp only [List.concat_eq_append,List.length_append,List.length_singleton,Nat.add_right_cancel_iff] at hn hk ht hM ⊢
  subst hn
  have hx:x ≠ 0:=by simpa using (trim_iff _).1 ht (by simp)
  have hlt:x < 4294967296:=hk x (by simp)
  refine ⟨x,by simp,hlt,?_,bitsN_le_iff.2 hlt⟩
  have:=bitsN_val_concat hk hx
  rw [← hM,val_trimL] at this
  omega
set_option maxHeartbeats 400000 in
theorem natBits_any (A:Option Addr) (c:Nat) (L:List Nat) (w:World) (hs:Sl w A c L) (hlen:L.length ≤ 100000000) :
  Calls Tryz.prog 108 #[.slice A L.length c] w fun e w'=>e = .returned (.int .i64 (bitsN (val L))) ∧ w=w':=by
 have hT:=Lib.hid (natTrim_any A c L w hs)
 have hs2:=hs.trim
 have hl2:=tlen_le L
 unfold tlen at hl2
 generalize hM:trimL L=M at *
 obtain ⟨n,hn⟩:∃ n,n=M.length:=⟨_,rfl⟩
 rw [← hn] at hT hl2
 rcases n with _ | n
 ·have hv:bitsN (val L)=0:=by rw [← val_trimL,hM,List.eq_nil_of_length_eq_zero hn.symm]; rfl
  have HV:=Lib.hid hv
  clear hv hM hn
  go_enter Tryz.func108,Tryz.ntmps108
  go_wp2_with (go_at_call 128; refine hT.out.mono ?_; rintro e w' ⟨rfl,rfl⟩)
  go_ret
  exact ⟨by rw [HV.out]; rfl,rfl⟩
 ·obtain ⟨x,hx,hlt,hb,hb32⟩:=bits_top hs.ok hM hn.symm
  obtain ⟨ab,ao,rfl,_,hcell⟩:=hs2.cell _ _ hx
  have HB:=Lib.hid hb
  clear hb hM hn hx
  go_enter Tryz.func108,Tryz.ntmps108
  go_wp2_with (first | (go_at_call 128; refine hT.out.mono ?_; rintro e w' ⟨rfl,rfl⟩) | (go_at_call 129; refine (len32_any x hlt _).mono ?_; rintro e w' ⟨rfl,rfl⟩))
  go_ret
  exact ⟨ret_int HB.out,rfl⟩
theorem bitsN_half {x:Nat} (h:x ≠ 0):bitsN x=bitsN (x / 2)+1:=by
 by_cases h1:x / 2=0
 ·have:x=1:=by omega
  subst this; rfl
 ·have e1:=two_pow_le_of_bitsN h1
  have e2:=lt_two_pow_bitsN (x / 2)
  have e3:=bitsN_pos h1
  generalize bitsN (x / 2)=k at *
  obtain ⟨j,rfl⟩:∃ j,k=j+1:=⟨k - 1,by omega⟩
  rw [Nat.add_sub_cancel] at e1
  refine bitsN_eq ?_ ?_
  ·rw [Nat.pow_succ]; omega
  ·rw [Nat.pow_succ]; omega
set_option maxHeartbeats 400000 in
theorem refBits_any (A:Option Addr) (c:Nat) (L:List Nat) (w:World) (hs:Sl w A c L) (ht:Trim L) (hlen:L.length ≤ 100000000) :
  Calls Tryz.prog 17 #[.slice A L.length c] w fun e w'=>e = .returned (.int .i64 (bitsN (val L))) ∧ w=w':=by
 obtain ⟨n,hn⟩:∃ n,n=L.length:=⟨_,rfl⟩
 rcases n with _ | n
 ·have hv:bitsN (val L)=0:=by rw [List.eq_nil_of_length_eq_zero hn.symm]; rfl
  have HV:=Lib.hid hv
  rw [← hn]
  clear hv ht hn
  go_enter Tryz.func17,Tryz.ntmps17
  go_wp2
  go_ret
  exact ⟨by rw [HV.out]; rfl,rfl⟩
 ·obtain ⟨x,hx,hlt,hb,hb32⟩:=bits_top hs.ok ht hn.symm
  obtain ⟨ab,ao,rfl,_,hcell⟩:=hs.cell _ _ hx
  have HB:=Lib.hid hb
  rw [← hn] at hlen ⊢
  clear hb ht hn hx
  go_enter Tryz.func17,Tryz.ntmps17
  go_wp2
  go_loop [3,4] (fun m y=>∃ (k z:Nat),z < 4294967296 ∧ y = .int .u32 z ∧ m = .int .i64 k ∧ k ≤ 10000000000 ∧ k+bitsN z=bitsN (val L)) (fun _ y=>(intOf y).toNat)
  case atStart=>exact ⟨32 * n,x,hlt,rfl,by go_num,by omega,by have:=HB.out; omega⟩
  case round =>
   obtain ⟨k,z,hz,rfl,rfl,hk,he⟩:=hrel
   have HE:=Lib.hid he; clear he
   by_cases h0:0 < z
   ·have hh:=Lib.hid (bitsN_half (x:=z) (by omega))
    have hk2:k ≤ 3300000000:=by have:=HE.out; have:=HB.out; omega
    go_wp2
    go_round
    case rel=>exact ⟨k+1,z / 2,by omega,by go_num,by go_num,by omega,by rw [← HE.out,hh.out]; omega⟩
    case measure=>simp [intOf]; omega
   ·obtain rfl:z=0:=by omega
    go_wp2
    go_ret
    exact ⟨ret_int (by rw [← HE.out]; rfl),rfl⟩
theorem cmp_len_lt {L M:List Nat} (hL:Ok32 L) (h:(trimL L).length < (trimL M).length):cmpN (val L) (val M) = -1:=by
 have:=val_lt_of_length hL.trimL (trim_trimL M) h
 rw [val_trimL,val_trimL] at this
 unfold cmpN; rw [if_pos this]
theorem cmp_len_gt {L M:List Nat} (hM:Ok32 M) (h:(trimL M).length < (trimL L).length):cmpN (val L) (val M)=1:=by
 have:=val_lt_of_length hM.trimL (trim_trimL L) h
 rw [val_trimL,val_trimL] at this
 unfold cmpN; rw [if_neg (by omega),if_pos this]
theorem cmp_at_lt {M N:List Nat} (hM:Ok32 M) {k x y:Nat} (hl:M.length=N.length) (hx:M[k]? = some x) (hy:N[k]? = some y) (hd:M.drop (k+1)=N.drop (k+1)) (h:x < y):val M < val N:=by
 obtain ⟨h1,rfl⟩:=List.getElem?_eq_some_iff.1 hx
 obtain ⟨h2,rfl⟩:=List.getElem?_eq_some_iff.1 hy
 exact val_lt_at hM k h1 hl hd h
theorem drop_same {M N:List Nat} {k x:Nat} (hx:M[k]? = some x) (hy:N[k]? = some x) (hd:M.drop (k+1)=N.drop (k+1)):M.drop k=N.drop k:=by
 obtain ⟨h1,e1⟩:=List.getElem?_eq_some_iff.1 hx
 obtain ⟨h2,e2⟩:=List.getElem?_eq_some_iff.1 hy
 rw [List.drop_eq_getElem_cons h1,List.drop_eq_getElem_cons h2,e1,e2,hd]
set_option maxHeartbeats 1000000 in
theorem natCmp_any (A B:Option Addr) (c d:Nat) (L M:List Nat) (w:World) (hs:Sl w A c L) (hr:Sl w B d M) (h1:L.length ≤ 100000000) (_h2:M.length ≤ 100000000) :
  Calls Tryz.prog 120 #[.slice A L.length c,.slice B M.length d] w fun e w'=>e = .returned (.int .i64 (cmpN (val L) (val M))) ∧ Ext w w':=by
 have hT:=Lib.hid (natTrim_any A c L w hs)
 have hU:=Lib.hid (natTrim_any B d M w hr)
 have hs2:=hs.trim
 have hr2:=hr.trim
 have hl2:=tlen_le L
 have hm2:=tlen_le M
 unfold tlen at hl2 hm2
 by_cases hlt:(trimL L).length < (trimL M).length
 ·have HV:=Lib.hid (cmp_len_lt hs.ok hlt)
  have hne:((((trimL L).length:Nat):Int) != ((trimL M).length:Nat))=true:=by simp; omega
  generalize (trimL L).length=n at *
  generalize (trimL M).length=m at *
  clear hs2 hr2
  go_enter Tryz.func120,Tryz.ntmps120
  go_wp2_with fail
  refine hT.out.mono ?_; rintro e w' ⟨rfl,rfl⟩
  go_wp2_with fail
  refine hU.out.mono ?_; rintro e w' ⟨rfl,rfl⟩
  go_wp2
  go_ret
  exact ⟨ret_int (by rw [HV.out]),Ext.refl _⟩
 ·by_cases hgt:(trimL M).length < (trimL L).length
  ·have HV:=Lib.hid (cmp_len_gt hr.ok hgt)
   have hne:((((trimL L).length:Nat):Int) != ((trimL M).length:Nat))=true:=by simp; omega
   generalize (trimL L).length=n at *
   generalize (trimL M).length=m at *
   clear hs2 hr2
   go_enter Tryz.func120,Tryz.ntmps120
   go_wp2_with fail
   refine hT.out.mono ?_; rintro e w' ⟨rfl,rfl⟩
   go_wp2_with fail
   refine hU.out.mono ?_; rintro e w' ⟨rfl,rfl⟩
   go_wp2
   go_ret
   exact ⟨ret_int (by rw [HV.out]),Ext.refl _⟩
  ·have hl:(trimL L).length=(trimL M).length:=by omega
   have HL:=Lib.hid hl
   rw [← hl] at hU hm2
   have e1:=val_trimL L
   have e2:=val_trimL M
   generalize trimL L=P at *
   generalize trimL M=Q at *
   have E1:=Lib.hid e1
   have E2:=Lib.hid e2
   clear e1 e2 hl hgt hlt
   obtain ⟨n,hn⟩:∃ n,n=P.length:=⟨_,rfl⟩
   rw [← hn] at hT hU hm2 hl2
   have HN:=Lib.hid hn
   clear hn
   have hne:((n:Int) != (n:Int))=false:=by simp
   have okP:=hs2.ok
   have okQ:=hr2.ok
   go_enter Tryz.func120,Tryz.ntmps120
   go_wp2_with fail
   refine hT.out.mono ?_; rintro e w' ⟨rfl,rfl⟩
   go_wp2_with fail
   refine hU.out.mono ?_; rintro e w' ⟨rfl,rfl⟩
   go_wp2
   go_loopw [5] (fun i wr=>∃ k:Nat,k ≤ n ∧ i = .int .i64 ((k:Int) - 1) ∧ P.drop k=Q.drop k ∧ Ext w wr) (fun i _=>(intOf i+1).toNat)
   case atStart=>exact ⟨n,Nat.le_refl _,rfl,by rw [List.drop_eq_nil_of_le (by rw [← HN.out]; exact Nat.le_refl _),List.drop_eq_nil_of_le (by rw [← HL.out,← HN.out]; exact Nat.le_refl _)],Ext.refl _⟩
   case round =>
    obtain ⟨k,hk,rfl,hd,hb⟩:=hrel
    have HD:=Lib.hid hd; clear hd
    rcases k with _ | k
    ·go_wp2
     go_ret
     have e:P=Q:=by simpa using HD.out
     exact ⟨ret_int (by rw [← E1.out,← E2.out,e]; unfold cmpN; simp),hb⟩
    ·have hkP:k < P.length:=by have:=HN.out; omega
     have hkQ:k < Q.length:=by have:=HN.out; have:=HL.out; omega
     have HP:=Lib.hid (List.getElem?_eq_getElem hkP)
     have HQ:=Lib.hid (List.getElem?_eq_getElem hkQ)
     obtain ⟨ab,ao,rfl,_,c1⟩:=(hs2.below hb).at_ hkP
     obtain ⟨bb,bo,rfl,_,c2⟩:=(hr2.below hb).at_ hkQ
     have hkn:(k:Int) < n:=by omega
     have hk0:(0:Int) ≤ k:=by omega
     have x0:(0:Int) ≤ P[k]:=by omega
     have y0:(0:Int) ≤ Q[k]:=by omega
     generalize P[k]=x at *
     generalize Q[k]=y at *
     clear hkP hkQ
     by_cases hxy:x < y
     ·have hxy':(x:Int) < y:=by omega
      go_wp2
      go_quiet (fail)
      go_wp2
      go_ret
      have h:=cmp_at_lt okP HL.out HP.out HQ.out HD.out hxy
      rw [E1.out,E2.out] at h
      exact ⟨ret_int (by unfold cmpN; rw [if_pos h]),below_drewN hb _⟩
     ·have hxy':¬ (x:Int) < y:=by omega
      by_cases hyx:y < x
      ·have hyx':(y:Int) < x:=by omega
       go_wp2
       go_quiet (fail)
       go_wp2
       go_quiet (fail)
       go_wp2
       go_ret
       have h:=cmp_at_lt okQ HL.out.symm HQ.out HP.out HD.out.symm hyx
       rw [E1.out,E2.out] at h
       exact ⟨ret_int (by unfold cmpN; rw [if_neg (by omega),if_pos h]),below_drewN (below_drewN hb _) _⟩
      ·have hyx':¬ (y:Int) < x:=by omega
       have HX:=Lib.hid (show x=y by omega)
       go_wp2
       go_quiet (fail)
       go_wp2
       go_quiet (fail)
       go_wp2
       go_roundw
       case rel=>exact ⟨k,by omega,by go_num,drop_same HP.out (by rw [HX.out]; exact HQ.out) HD.out,by repeat (first | exact hb | refine below_drewN ?_ _)⟩
       case measure=>simp [intOf]; try omega
set_option maxHeartbeats 1000000 in
theorem refCompare_any (A B:Option Addr) (c d:Nat) (P Q:List Nat) (w:World) (hs2:Sl w A c P) (hr2:Sl w B d Q) (tP:Trim P) (tQ:Trim Q) (h1:P.length ≤ 100000000) (_h2:Q.length ≤ 100000000) :
  Calls Tryz.prog 38 #[.slice A P.length c,.slice B Q.length d] w fun e w'=>e = .returned (.int .i64 (cmpN (val P) (val Q))) ∧ Ext w w':=by
 have tP':trimL P=P:=tP
 have tQ':trimL Q=Q:=tQ
 by_cases hlt:P.length < Q.length
 ·have HV:=Lib.hid (cmp_len_lt (M:=Q) hs2.ok (by rw [tP',tQ']; exact hlt))
  have hne:(((P.length:Nat):Int) != (Q.length:Nat))=true:=by simp; omega
  generalize P.length=n at *
  generalize Q.length=m at *
  clear hs2 hr2 tP' tQ' tP tQ
  go_enter Tryz.func38,Tryz.ntmps38
  go_wp2
  go_ret
  exact ⟨ret_int (by rw [HV.out]),Ext.refl _⟩
 ·by_cases hgt:Q.length < P.length
  ·have HV:=Lib.hid (cmp_len_gt (L:=P) hr2.ok (by rw [tP',tQ']; exact hgt))
   have hne:(((P.length:Nat):Int) != (Q.length:Nat))=true:=by simp; omega
   generalize P.length=n at *
   generalize Q.length=m at *
   clear hs2 hr2 tP' tQ' tP tQ
   go_enter Tryz.func38,Tryz.ntmps38
   go_wp2
   go_ret
   exact ⟨ret_int (by rw [HV.out]),Ext.refl _⟩
  ·have hl:P.length=Q.length:=by omega
   have HL:=Lib.hid hl
   rw [← hl]
   clear hl hgt hlt tP' tQ' tP tQ _h2
   obtain ⟨n,hn⟩:∃ n,n=P.length:=⟨_,rfl⟩
   rw [← hn] at h1 ⊢
   have HN:=Lib.hid hn
   clear hn
   have hne:((n:Int) != (n:Int))=false:=by simp
   have okP:=hs2.ok
   have okQ:=hr2.ok
   go_enter Tryz.func38,Tryz.ntmps38
   go_wp2
   go_loopw [5] (fun i wr=>∃ k:Nat,k ≤ n ∧ i = .int .i64 ((k:Int) - 1) ∧ P.drop k=Q.drop k ∧ Ext w wr) (fun i _=>(intOf i+1).toNat)
   case atStart=>exact ⟨n,Nat.le_refl _,rfl,by rw [List.drop_eq_nil_of_le (by rw [← HN.out]; exact Nat.le_refl _),List.drop_eq_nil_of_le (by rw [← HL.out,← HN.out]; exact Nat.le_refl _)],Ext.refl _⟩
   case round =>
    obtain ⟨k,hk,rfl,hd,hb⟩:=hrel
    have HD:=Lib.hid hd; clear hd
    rcases k with _ | k
    ·go_wp2
     go_ret
     have e:P=Q:=by simpa using HD.out
     exact ⟨ret_int (by rw [e]; unfold cmpN; simp),hb⟩
    ·have hkP:k < P.length:=by have:=HN.out; omega
     have hkQ:k < Q.length:=by have:=HN.out; have:=HL.out; omega
     have HP:=Lib.hid (List.getElem?_eq_getElem hkP)
     have HQ:=Lib.hid (List.getElem?_eq_getElem hkQ)
     obtain ⟨ab,ao,rfl,_,c1⟩:=(hs2.below hb).at_ hkP
     obtain ⟨bb,bo,rfl,_,c2⟩:=(hr2.below hb).at_ hkQ
     have hkn:(k:Int) < n:=by omega
     have hk0:(0:Int) ≤ k:=by omega
     have x0:(0:Int) ≤ P[k]:=by omega
     have y0:(0:Int) ≤ Q[k]:=by omega
     generalize P[k]=x at *
     generalize Q[k]=y at *
     clear hkP hkQ
     by_cases hxy:x < y
     ·have hxy':(x:Int) < y:=by omega
      go_wp2
      go_quiet (fail)
      go_wp2
      go_ret
      have h:=cmp_at_lt okP HL.out HP.out HQ.out HD.out hxy
      exact ⟨ret_int (by unfold cmpN; rw [if_pos h]),below_drewN hb _⟩
     ·have hxy':¬ (x:Int) < y:=by omega
      by_cases hyx:y < x
      ·have hyx':(y:Int) < x:=by omega
       go_wp2
       go_quiet (fail)
       go_wp2
       go_quiet (fail)
       go_wp2
       go_ret
       have h:=cmp_at_lt okQ HL.out.symm HQ.out HP.out HD.out.symm hyx
       exact ⟨ret_int (by unfold cmpN; rw [if_neg (by omega),if_pos h]),below_drewN (below_drewN hb _) _⟩
      ·have hyx':¬ (y:Int) < x:=by omega
       have HX:=Lib.hid (show x=y by omega)
       go_wp2
       go_quiet (fail)
       go_wp2
       go_quiet (fail)
       go_wp2
       go_roundw
       case rel=>exact ⟨k,by omega,by go_num,drop_same HP.out (by rw [HX.out]; exact HQ.out) HD.out,by repeat (first | exact hb | refine below_drewN ?_ _)⟩
       case measure=>simp [intOf]; try omega
open Go.RowKit Fp
theorem clip_any (A:Option Addr) (c:Nat) (L:List Nat) (w:World) (hs:Sl w A c L) :
  Calls Tryz.prog 101 #[.slice A L.length c] w fun e w'=>e = .returned (.slice A L.length L.length) ∧ w=w':=by
 have hc:=hs.cap
 have hl:=hs.lim
 go_enter Tryz.func101,Tryz.ntmps101
 go_wp2
 go_ret
 exact ⟨rfl,rfl⟩
theorem Sl.clip {w:World} {A:Option Addr} {c:Nat} {L:List Nat} (h:Sl w A c L):Sl w A L.length L :=
 ⟨Nat.le_refl _,Nat.le_trans h.cap h.lim,h.ok,(fun e=>by have:=h.none_ e; have:=h.cap; omega),h.cell⟩
set_option maxHeartbeats 400000 in
theorem clone_any (A:Option Addr) (c:Nat) (L:List Nat) (w:World) (hs:Sl w A c L) (hlen:L.length ≤ 100000000) :
  Calls Tryz.prog 102 #[.slice A L.length c] w (RetL w L):=by
 have hc:=hs.cap
 have hl:=hs.lim
 rcases A with _ | ad
 ·have h0:=hs.none_ rfl
  subst h0
  have:L=[]:=List.eq_nil_of_length_eq_zero (by omega)
  subst this
  have q:=fun (w:World) (n' c':Nat)=>Lib.run_eql_slice_nil (P:=Tryz.prog) w 22 _ none 0 0 n' c' Tryz.underlying22
  simp only [Option.isNone_none] at q
  go_enter Tryz.func102,Tryz.ntmps102
  go_wp2
  go_ret
  exact ⟨none,0,rfl,Sl.nil _,Ext.refl _⟩
 ·have q:=fun (w:World) (n' c':Nat)=>Lib.run_eql_slice_nil (P:=Tryz.prog) w 22 _ (some ad) L.length c n' c' Tryz.underlying22
  simp only [Option.isNone_some] at q
  go_enter Tryz.func102,Tryz.ntmps102
  have hsz:([]:List Nat).length+L.length ≤ 10000000000:=by simp; omega
  have h1:=Ow.empty w w.heap.size (Nat.le_refl _)
  have h2:=hs.alloc (.cells #[] 50)
  have h3:=le_alloc (w:=w) (Nat.le_refl _) (.cells #[] 50)
  go_wp2_with (at_builtin; go_must (refine wpList_app (by rfl) _ _ (by rfl) w.heap.size _ [] (by rfl) h1 _ _ _ L (by rfl) (by rfl) h2 hsz h3 ?_); intro v' w' hown hg hat)
  obtain ⟨A',c',rfl,hs'⟩:=hown.sl
  go_ret
  exact ⟨A',c',rfl,hs',(Ext.alloc _ _).grown hg (le_alloc (Nat.le_refl _) _) (fun k hk=>by simp [Value.ownBlock] at hk; omega)⟩
set_option maxHeartbeats 400000 in
theorem refTrim_any (A:Option Addr) (c:Nat) (L:List Nat) (w:World) (hs:Sl w A c L) (hlen:L.length ≤ 100000000) :
  Calls Tryz.prog 40 #[.slice A L.length c] w (RetL w (trimL L)):=by
 have hc:=hs.cap
 have hl:=hs.lim
 have fin:∀ k:Nat,k=(trimL L).length → Hid (trimL L=L.take k):=fun k hk=>by rw [hk]; exact trimL_eq_take L
 go_enter Tryz.func40,Tryz.ntmps40
 go_wp2
 go_loop [3] (fun i=>∃ k:Nat,k ≤ L.length ∧ i = .int .i64 k ∧ tlen L=tlen (L.take k)) (fun i=>(intOf i).toNat)
 case atStart=>exact ⟨L.length,Nat.le_refl _,rfl,by simp⟩
 case round =>
  obtain ⟨k,hk,rfl,ht⟩:=hrel
  have HT:=Lib.hid ht; clear ht
  have hsz:([]:List Nat).length+(L.take k).length ≤ 10000000000:=by rw [List.length_take]; simp; omega
  have HK:=Lib.hid (show k=(L.take k).length by rw [List.length_take]; omega)
  have h1:=Ow.empty w w.heap.size (Nat.le_refl _)
  have h2:=(hs.take k).alloc (.cells #[] 50)
  have h3:=le_alloc (w:=w) (Nat.le_refl _) (.cells #[] 50)
  by_cases h0:0 < k
  ·obtain ⟨ab,ao,rfl,hb,hx1⟩:=hs.at_ (i:=k - 1) (by omega)
   have e1:((k:Int) - 1).toNat=k - 1:=by omega
   have Z:=Lib.hid (tlen_take_zero L (k - 1) (by omega))
   have NZ:=Lib.hid (tlen_take_nz L (k - 1) (by omega))
   rw [Nat.sub_add_cancel h0] at Z NZ
   generalize L[k - 1]=x at *
   by_cases hx:x=0
   ·have Hx:=Lib.hid hx; clear hx
    have hb:((x:Int) == 0)=true:=by have:=Hx.out; simp; omega
    clear fin
    go_wp2
    go_round
    case rel=>exact ⟨k - 1,by omega,by go_num,by rw [HT.out,Z.out Hx.out]⟩
    case measure=>simp [intOf]; omega
   ·have hb:((x:Int) == 0)=false:=by simp; omega
    have F:=fin k (by show k=tlen L; rw [HT.out,NZ.out hx])
    clear fin
    go_wp2_with (at_builtin; go_must (refine wpList_app (by rfl) _ _ (by rfl) w.heap.size _ [] (by rfl) h1 _ _ _ (L.take k) (by rfl) HK.out h2 hsz h3 ?_); intro v' w' hown hg hat)
    obtain ⟨A',c',rfl,hs'⟩:=hown.sl
    go_ret
    rw [F.out]
    exact ⟨A',c',rfl,hs',(Ext.alloc _ _).grown hg (le_alloc (Nat.le_refl _) _) (fun k hk=>by simp [Value.ownBlock] at hk; omega)⟩
  ·have:k=0:=by omega
   subst this
   have F:=fin 0 (by show 0=tlen L; rw [HT.out]; rfl)
   clear fin
   go_wp2_with (at_builtin; go_must (refine wpList_app (by rfl) _ _ (by rfl) w.heap.size _ [] (by rfl) h1 _ _ _ (L.take 0) (by rfl) HK.out h2 hsz h3 ?_); intro v' w' hown hg hat)
   obtain ⟨A',c',rfl,hs'⟩:=hown.sl
   go_ret
   rw [F.out]
   exact ⟨A',c',rfl,hs',(Ext.alloc _ _).grown hg (le_alloc (Nat.le_refl _) _) (fun k hk=>by simp [Value.ownBlock] at hk; omega)⟩
theorem long1_any (A:Option Addr) (n c:Nat) (w:World) :
  Calls Tryz.prog 143 #[.slice A n c] w fun e w'=>e = .returned (.bool (decide (256 < n))) ∧ w=w':=by
 by_cases h:256 < n
 ·have h':(256:Int) < n:=by omega
  go_enter Tryz.func143,Tryz.ntmps143
  go_wp2
  go_ret
  exact ⟨by simp [h],rfl⟩
 ·have h':¬ (256:Int) < n:=by omega
  go_enter Tryz.func143,Tryz.ntmps143
  go_wp2
  go_ret
  exact ⟨by simp,rfl⟩
def SlS (w:World) (g:Nat) (xs:List (Option Addr × Nat × Nat)):Prop:=∀ i x,xs[i]? = some x → w.cell? ⟨g,i,none⟩=some (.slice x.1 x.2.1 x.2.2)
def tooLong (xs:List (Option Addr × Nat × Nat)):Bool:=xs.any fun x=>decide (256 < x.2.1)
def IdxOf (xs:List (Option Addr × Nat × Nat)) (w:World) (e:Ending) (w':World):Prop :=
 ∃ n:Int,e = .returned (.int .i64 n) ∧ (0 ≤ n ↔ tooLong xs=true) ∧ w=w'
set_option maxHeartbeats 400000 in
theorem indexFunc_any (g:Nat) (xs:List (Option Addr × Nat × Nat)) (w:World) (hs:SlS w g xs) (hn:xs.length ≤ 1000) :
  Calls Tryz.prog 161 #[.slice (some ⟨g,0,none⟩) xs.length xs.length,.func (.func 143) #[] #[]] w (IdxOf xs w):=by
 go_enter Tryz.func161,Tryz.ntmps161
 go_wp2
 go_loop [8] (fun i=>∃ k:Nat,k ≤ xs.length ∧ i = .int .i64 k ∧ tooLong (xs.take k)=false) (fun i=>xs.length - (intOf i).toNat)
 case atStart=>exact ⟨0,Nat.zero_le _,rfl,rfl⟩
 case round =>
  obtain ⟨k,hk,rfl,ht⟩:=hrel
  have HT:=Lib.hid ht; clear ht
  by_cases h0:k < xs.length
  ·have hc:=hs k _ (List.getElem?_eq_getElem h0)
   have e1:((k:Int)).toNat=k:=by omega
   have ec:=add0 g k
   have HX:=Lib.hid (show tooLong (xs.take (k+1))=(tooLong (xs.take k) || decide (256 < xs[k].2.1)) by
    unfold tooLong
    rw [List.take_succ_eq_append_getElem h0,List.any_append]; simp)
   have HM:=Lib.hid (List.getElem_mem h0)
   generalize xs[k]=x at *
   obtain ⟨A,n,c⟩:=x
   simp only at hc HX
   by_cases hx:256 < n
   ·have hb:decide (256 < n)=true:=by simp [hx]
    go_wp2_with (go_at_call 143; refine (long1_any A n c _).mono ?_; rw [hb]; rintro e w' ⟨rfl,rfl⟩)
    go_ret
    refine ⟨_,rfl,⟨fun _=>?_,fun _=>by omega⟩,rfl⟩
    unfold tooLong
    rw [List.any_eq_true]
    exact ⟨_,HM.out,by simpa using hx⟩
   ·have hb:decide (256 < n)=false:=by simp; omega
    go_wp2_with (go_at_call 143; refine (long1_any A n c _).mono ?_; rw [hb]; rintro e w' ⟨rfl,rfl⟩)
    go_round
    case rel=>exact ⟨k+1,by omega,by go_num,by rw [HX.out,HT.out,hb]; rfl⟩
    case measure=>simp [intOf]; omega
  ·go_wp2
   go_ret
   have e:xs.take k=xs:=List.take_of_length_le (by omega)
   have:=HT.out
   rw [e] at this
   exact ⟨_,rfl,by rw [this]; simp,rfl⟩
theorem containsFunc_any (g:Nat) (xs:List (Option Addr × Nat × Nat)) (w:World) (hs:SlS w g xs) (hn:xs.length ≤ 1000) :
  Calls Tryz.prog 142 #[.slice (some ⟨g,0,none⟩) xs.length xs.length,.func (.func 143) #[] #[]] w fun e w'=>e = .returned (.bool (tooLong xs)) ∧ w=w':=by
 have H:=Lib.hid (indexFunc_any g xs w hs hn)
 go_enter Tryz.func142,Tryz.ntmps142
 go_wp2_with fail
 refine H.out.mono ?_
 rintro e w' ⟨n,rfl,hn,rfl⟩
 have HN:=Lib.hid hn; clear hn
 go_wp2
 go_ret
 refine ⟨ret_bool ?_,rfl⟩
 have:=HN.out
 cases h:tooLong xs <;> simp [h] at this ⊢ <;> omega
theorem long_any (g:Nat) (xs:List (Option Addr × Nat × Nat)) (w:World) (hs:SlS w g xs) (hn:xs.length ≤ 1000) :
  Calls Tryz.prog 123 #[.slice (some ⟨g,0,none⟩) xs.length xs.length] w fun e w'=>e = .returned (.bool (tooLong xs)) ∧ w=w':=by
 have H:=Lib.hid (containsFunc_any g xs w hs hn)
 go_enter Tryz.func123,Tryz.ntmps123
 go_wp2_with fail
 refine H.out.mono ?_
 rintro e w' ⟨rfl,rfl⟩
 go_wp2
 go_ret
 exact ⟨rfl,rfl⟩
open Go.RowKit Fp
theorem longA_any (g:Nat) (A:Option Addr) (n c:Nat) (w:World) (b:Bool) (h:w.cell? ⟨g,0,none⟩=some (.slice A n c)) (hb:b=decide (256 < n)) :
  Calls Tryz.prog 123 #[.slice (some ⟨g,0,none⟩) 1 1] w fun e w'=>e = .returned (.bool b) ∧ w=w':=by
 have:=long_any g [(A,n,c)] w (fun i x hx=>by
  obtain ⟨h1,h2⟩:=List.getElem?_eq_some_iff.1 hx
  obtain rfl:i=0:=by simp at h1; omega
  simp at h2
  subst h2
  exact h) (by simp)
 simpa [tooLong,hb] using this
theorem longB_any (g:Nat) (A B:Option Addr) (n c m d:Nat) (w:World) (b:Bool) (h:w.cell? ⟨g,0,none⟩=some (.slice A n c)) (k:w.cell? ⟨g,1,none⟩=some (.slice B m d)) (hb:b=(decide (256 < n) || decide (256 < m))) :
  Calls Tryz.prog 123 #[.slice (some ⟨g,0,none⟩) 2 2] w fun e w'=>e = .returned (.bool b) ∧ w=w':=by
 have:=long_any g [(A,n,c),(B,m,d)] w (fun i x hx=>by
  obtain ⟨h1,h2⟩:=List.getElem?_eq_some_iff.1 hx
  simp at h1
  rcases i with _ | _ | i
  ·simp at h2; subst h2; exact h
  ·simp at h2; subst h2; exact k
  ·omega) (by simp)
 simpa [tooLong,hb] using this
set_option maxHeartbeats 400000 in
theorem natDone_ok (A:Option Addr) (c:Nat) (L:List Nat) (w:World) (hs:Sl w A c L) (hl:(trimL L).length ≤ 256) :
  Calls Tryz.prog 124 #[.slice A L.length c] w (RetLE w (trimL L) 0):=by
 have hT:=Lib.hid (natTrim_any A c L w hs)
 have hs2:=hs.trim
 have hC:=hs.cap
 have hL:=hs.lim
 have H2:=Lib.hid (fun w' (h:Sl w' A c (trimL L))=>clip_any A c (trimL L) w' h)
 generalize trimL L=M at *
 obtain ⟨n,hn⟩:∃ n,n=M.length:=⟨_,rfl⟩
 rw [← hn] at hT hl H2
 have HN:=Lib.hid hn; clear hn
 go_enter Tryz.func124,Tryz.ntmps124
 go_wp2_with fail
 refine hT.out.mono ?_; rintro e w' ⟨rfl,rfl⟩
 go_wp2_with fail
 refine (longA_any _ A n c _ false ?_ (by simp; omega)).mono ?_
 ·go_simp
 rintro e w' ⟨rfl,rfl⟩
 go_wp2_with fail
 refine (H2.out _ (hs2.alloc _)).mono ?_; rintro e w' ⟨rfl,rfl⟩
 go_wp2
 go_ret2
 exact ⟨A,n,by rw [HN.out]; rfl,by have:=hs2.clip.alloc (.cells #[.slice A n c] 22); rw [HN.out] at this ⊢; exact this,Ext.alloc _ _⟩
theorem u64_or_nat (a b:Nat) (ha:a < 18446744073709551616) (hb:b < 18446744073709551616):bits .or .u64 (a:Int) (b:Int)=((a ||| b:Nat):Int):=by
 have hx:a ||| b < 2 ^ 64:=Nat.or_lt_two_pow (by omega) (by omega)
 have h1:(BitVec.ofInt 64 (a:Int)).toNat=a:=by
  rw [BitVec.ofInt_natCast,BitVec.toNat_ofNat]; exact Nat.mod_eq_of_lt (by omega)
 have h2:(BitVec.ofInt 64 (b:Int)).toNat=b:=by
  rw [BitVec.ofInt_natCast,BitVec.toNat_ofNat]; exact Nat.mod_eq_of_lt (by omega)
 show IntKind.u64.wrap ((BitVec.ofInt 64 (a:Int) ||| BitVec.ofInt 64 (b:Int)).toNat:Int)=_
 rw [BitVec.toNat_or,h1,h2,IntKind.wrap_u64]
 omega
theorem or_add (a b k:Nat) (h:a < 2 ^ k):a ||| b * 2 ^ k=a+b * 2 ^ k:=by
 rw [Nat.mul_comm,Nat.or_comm,← Nat.two_pow_add_eq_or_of_lt h]; omega
theorem Sl.drop {w:World} {A:Option Addr} {c:Nat} {L:List Nat} (h:Sl w A c L) (k:Nat):Sl w (A.map (·.add k)) (c - k) (L.drop k) :=
 ⟨by have:=h.cap; rw [List.length_drop]; omega,Nat.le_trans (Nat.sub_le _ _) h.lim,h.ok.drop k,(fun e=>by
  rcases A with _ | ad
  ·rw [h.none_ rfl]; omega
  ·cases e),fun i x hx=>by
  rw [List.getElem?_drop] at hx
  obtain ⟨b,o,rfl,h1,h2⟩:=h.cell _ _ hx
  exact ⟨b,o+k,by rw [Option.map_some,addr_add],h1,by rw [Nat.add_assoc]; exact h2⟩⟩
def part (T:List Nat) (k:Nat):List Nat:=T.take k ++ List.replicate (T.length - k) 0
theorem part_zero (T:List Nat):part T 0=List.replicate T.length 0:=by unfold part; simp
theorem part_all (T:List Nat):part T T.length=T:=by unfold part; simp
theorem part_get (T:List Nat) (k:Nat) (h:k < T.length):(part T k)[k]? = some 0:=by
 unfold part
 rw [List.getElem?_append_right (by rw [List.length_take]; omega),List.length_take,List.getElem?_replicate,if_pos (by omega)]
theorem part_set (T:List Nat) (k x:Nat) (h:T[k]? = some x):(part T k).set k x=part T (k+1):=by
 obtain ⟨h1,rfl⟩:=List.getElem?_eq_some_iff.1 h
 unfold part
 rw [List.set_append_right _ _ (by rw [List.length_take]; omega),List.length_take,Nat.min_eq_left (by omega),Nat.sub_self,
  List.take_succ_eq_append_getElem h1,show T.length - k=(T.length - (k+1))+1 by omega,List.replicate_succ,List.set_cons_zero,List.append_assoc]
 rfl
theorem shr_limb (x y s:Nat) (hx:x < 4294967296) (hy:y < 4294967296) :
  bits BinOp.or IntKind.u64 (x:Int) ((y:Int) * 4294967296) / 2 ^ s % 4294967296=(((x+4294967296 * y) / 2 ^ s % 4294967296:Nat):Int):=by
 have e:((y:Int) * 4294967296)=((y * 2 ^ 32:Nat):Int):=by simp
 rw [e,u64_or_nat x (y * 2 ^ 32) (by omega) (by omega),or_add x y 32 (by omega)]
 simp [Nat.mul_comm]
theorem shr_limb0 (x s:Nat):(x:Int) / 2 ^ s % 4294967296=(((x+4294967296 * 0) / 2 ^ s % 4294967296:Nat):Int):=by
 simp
set_option maxHeartbeats 1000000 in
theorem natshr_any (A:Option Addr) (c:Nat) (L:List Nat) (n:Nat) (w:World) (hs:Sl w A c L) (hlen:L.length ≤ 100000000) (hn:n ≤ 65536) :
  Calls Tryz.prog 125 #[.slice A L.length c,.int .i64 n] w (RetL w (shrL (n % 32) ((trimL L).drop (n / 32)))):=by
 have hT:=Lib.hid (natTrim_any A c L w hs)
 have hs2:=hs.trim
 have hl2:=tlen_le L
 have hC:=hs2.cap
 have hL:=hs.lim
 unfold tlen at hl2
 generalize trimL L=M at *
 obtain ⟨m,hm⟩:∃ m,m=M.length:=⟨_,rfl⟩
 rw [← hm] at hT hl2 hC
 have HM:=Lib.hid hm; clear hm
 by_cases h0:m ≤ n / 32
 ·go_enter Tryz.func125,Tryz.ntmps125
  go_wp2_with fail
  refine hT.out.mono ?_; rintro e w' ⟨rfl,rfl⟩
  go_wp2
  go_ret
  have:M.drop (n / 32)=[]:=List.drop_eq_nil_of_le (by rw [← HM.out]; exact h0)
  rw [this]
  exact ⟨none,0,rfl,Sl.nil _,Ext.refl _⟩
 ·obtain ⟨ab,ao,rfl,_,_⟩:=hs2.at_ (i:=0) (by have:=HM.out; omega)
  have hK:=hs2.drop (n / 32)
  have hNK:=Lib.hid (show m - n / 32=(M.drop (n / 32)).length by rw [List.length_drop,HM.out])
  have hcc:n / 32 < c:=by omega
  have hmk:=make32 (m - n / 32) (by omega)
  have hN0:0 < m - n / 32:=by omega
  have hN1:m - n / 32 ≤ 100000000:=by omega
  generalize M.drop (n / 32)=K at *
  simp only [Option.map_some,addr_add] at hK
  have hT2:=Lib.hid (shrL_length (n % 32) K)
  have hTg:=Lib.hid (shrL_get (n % 32) K)
  have hTo:=Lib.hid (ok_shrL (n % 32) K)
  generalize shrL (n % 32) K=T at *
  go_enter Tryz.func125,Tryz.ntmps125
  go_wp2_with fail
  refine hT.out.mono ?_; rintro e w' ⟨rfl,rfl⟩
  go_wp2
  go_loopw [25] (fun i wr=>∃ k:Nat,k ≤ m - n / 32 ∧ i = .int .i64 k ∧ Rw wr w.heap.size (part T k) ∧ Ext w wr) (fun i _=>m - n / 32 - (intOf i).toNat)
  case atStart =>
   refine ⟨0,Nat.zero_le _,rfl,?_,Ext.alloc _ _⟩
   rw [part_zero,hT2.out,← hNK.out]
   exact Rw.made _ _
  case round =>
   obtain ⟨k,hk,rfl,hR,hb⟩:=hrel
   by_cases hlt:k < m - n / 32
   ·have hkK:k < K.length:=by have:=hNK.out; omega
    obtain ⟨ab',ao',e',_,c1⟩:=(hK.below hb).at_ hkK
    cases e'
    have hg:=hTg.out k hkK
    have hx32:K[k] < 4294967296:=hK.ok.get hkK
    have HK:=Lib.hid (List.getElem?_eq_getElem hkK)
    have c3:=hR.cell (part_get T k (by have:=hT2.out; omega))
    have c4:=hR.frozen k
    by_cases hlt2:k+1 < m - n / 32
    ·have hkK2:k+1 < K.length:=by have:=hNK.out; omega
     obtain ⟨ab',ao',e',_,c2⟩:=(hK.below hb).at_ hkK2
     cases e'
     have hy:K.getD (k+1) 0=K[k+1]:=by rw [List.getD_eq_getElem?_getD,List.getElem?_eq_getElem hkK2]; rfl
     rw [hy] at hg
     have hy32:K[k+1] < 4294967296:=hK.ok.get hkK2
     have HG:=Lib.hid hg
     clear hg hy
     generalize K[k]=x at *
     generalize K[k+1]=y at *
     clear hkK hkK2
     go_wp2
     go_roundw
     case rel =>
      rw [shr_limb x y (n % 32) hx32 hy32]
      exact ⟨k+1,by omega,by go_num,by rw [← part_set T k _ HG.out]; exact hR.set k _,hb.setCell (Nat.le_refl _) _⟩
     case measure=>simp [intOf]; omega
    ·have hy:K.getD (k+1) 0=0:=by rw [List.getD_eq_getElem?_getD,List.getElem?_eq_none (by have:=hNK.out; omega)]; rfl
     rw [hy] at hg
     have HG:=Lib.hid hg
     clear hg hy
     generalize K[k]=x at *
     clear hkK
     go_wp2
     go_roundw
     case rel =>
      rw [shr_limb0 x (n % 32)]
      exact ⟨k+1,by omega,by go_num,by rw [← part_set T k _ HG.out]; exact hR.set k _,hb.setCell (Nat.le_refl _) _⟩
     case measure=>simp [intOf]; omega
   ·go_wp2
    go_ret
    obtain rfl:k=m - n / 32:=by omega
    rw [hNK.out,← hT2.out,part_all] at hR
    have:=hR.sl hTo.out (by have:=hT2.out; have:=hNK.out; omega)
    rw [hT2.out,← hNK.out] at this
    exact ⟨_,_,by rw [hT2.out,← hNK.out]; rfl,this,hb⟩
theorem shr_all {L:List Nat} (h:Ok32 L) (n:Nat):trimL (shrL (n % 32) ((trimL L).drop (n / 32)))=limbs (val L / 2 ^ n):=by
 rw [trimL_eq_limbs (ok_shrL _ _),val_shr_all h.trimL,val_trimL]
theorem SlS1 (w:World) (A:Option Addr) (n c:Nat):(w.alloc (.cells #[.slice A n c] 22)).cell? ⟨w.heap.size,0,none⟩=some (.slice A n c):=by
 rw [World.cell?_alloc_at _ _ _ _ rfl]; rfl
theorem SlS2a (w:World) (A B:Option Addr) (n c m d:Nat):(w.alloc (.cells #[.slice A n c,.slice B m d] 22)).cell? ⟨w.heap.size,0,none⟩=some (.slice A n c):=by
 rw [World.cell?_alloc_at _ _ _ _ rfl]; rfl
theorem SlS2b (w:World) (A B:Option Addr) (n c m d:Nat):(w.alloc (.cells #[.slice A n c,.slice B m d] 22)).cell? ⟨w.heap.size,1,none⟩=some (.slice B m d):=by
 rw [World.cell?_alloc_at _ _ _ _ rfl]; rfl
set_option maxHeartbeats 400000 in
theorem natShr_any (A:Option Addr) (c:Nat) (L:List Nat) (n:Nat) (w:World) (hs:Sl w A c L) (hlen:L.length ≤ 256) (hn:n ≤ 65536) :
  Calls Tryz.prog 100 #[.slice A L.length c,.int .i64 n] w (RetLE w (limbs (val L / 2 ^ n)) 0):=by
 have hf:decide (256 < L.length)=false:=by simp; omega
 have h3:=Lib.hid (shr_all hs.ok n)
 have h4:(trimL (shrL (n % 32) ((trimL L).drop (n / 32)))).length ≤ 256:=by
  have h1:=tlen_le (shrL (n % 32) ((trimL L).drop (n / 32)))
  unfold tlen at h1
  rw [shrL_length,List.length_drop] at h1
  have h2:=tlen_le L
  unfold tlen at h2
  omega
 have H1:=Lib.hid (fun w (h:Sl w A c L)=>natshr_any A c L n w h (by omega) hn)
 generalize shrL (n % 32) ((trimL L).drop (n / 32))=T at *
 go_enter Tryz.func100,Tryz.ntmps100
 go_wp2_with fail
 refine (longA_any _ A _ c _ false (SlS1 _ _ _ _) (by simp; omega)).mono ?_
 rintro e w' ⟨rfl,rfl⟩
 go_wp2_with fail
 refine (H1.out _ (hs.alloc _)).mono ?_
 rintro e w' ⟨A',c',rfl,hs',hb⟩
 go_wp2_with fail
 refine (natDone_ok A' c' T _ hs' h4).mono ?_
 rintro e w'' ⟨A'',c'',rfl,hs'',hb'⟩
 go_wp2
 go_ret2
 rw [← h3.out]
 exact ⟨A'',c'',rfl,hs'',(Ext.alloc _ _).trans (hb.trans hb')⟩
open Go.RowKit Fp
theorem make32c (n c:Nat) (hc:n ≤ c) (hn:c ≤ 10000000000) (w:World) :
  (Instr.makeSlice 22 (.int .i64 (n:Int)) (.int .i64 (c:Int))).run Tryz.prog w = .ok (.slice (some ⟨w.heap.size,0,none⟩) n c) (w.alloc (.cells (u32s (List.replicate c 0)).toArray 50)):=by
 obtain ⟨i,hi,hz,h1,h2⟩:=info_parts info32
 have hr:=run_make (P:=Tryz.prog) w 22 50 i _ Tryz.underlying22 hi hz .i64 .i64 n c (by omega) (by omega) (by rw [h2]; omega) (by omega)
 rw [hr,Int.toNat_natCast,Int.toNat_natCast,h1,Nat.mul_one]
 refine congrArg (fun cs=>Result.ok (Value.slice (some ⟨w.heap.size,0,none⟩) n c) (w.alloc (.cells cs 50))) ?_
 apply Array.ext
 ·simp [madeCells,u32s]
 ·intro i h1 h2
  simp [madeCells,u32s,Value.cells,Nat.mod_one]
theorem Ow.made (w:World) (base n c:Nat) (hb:base ≤ w.heap.size) (hc:n ≤ c) (hn:c ≤ 10000000000) :
  Ow (w.alloc (.cells (u32s (List.replicate c 0)).toArray 50)) base (.slice (some ⟨w.heap.size,0,none⟩) n c) (List.replicate n 0) :=
 ⟨⟨by simp [u32s],.inr ⟨w.heap.size,c,_,by simp,hb,heap_alloc_new w _,by simpa using hc,by simp only [maxLen]; omega,by simp [u32s],by
  simp [u32s,List.take_replicate,Nat.min_eq_left hc]⟩⟩,Ok32.replicate0 n⟩
theorem Ext.own {w w1 w2:World} (h:Ext w w1) (v:Value) (L:List Nat) (ho:Ow w1 w.heap.size v L) (hg:w1.grownBy w2 v.ownBlock):Ext w w2 :=
 h.grown hg h.size (fun k hk=>(ho.row.lt k hk).1)
theorem shl_word (x q s:Nat) (hx:x < 4294967296) (hs:s < 32) (hq:q < 2 ^ s) :
  bits BinOp.or IntKind.u64 (IntKind.u64.wrap ((x:Int) * 2 ^ s)) (q:Int)=((x * 2 ^ s+q:Nat):Int) ∧ x * 2 ^ s+q < 18446744073709551616 ∧ (x * 2 ^ s+q) / 4294967296 < 2 ^ s:=by
 have hp:2 ^ s ≤ 2 ^ 31:=Nat.pow_le_pow_right (by decide) (by omega)
 have e31:(2:Nat) ^ 31=2147483648:=by decide
 have h1:(x+1) * 2 ^ s ≤ 4294967296 * 2 ^ s:=Nat.mul_le_mul_right _ hx
 rw [Nat.add_mul,Nat.one_mul] at h1
 have h2:x * 2 ^ s < 4294967296 * 2 ^ s:=Nat.mul_lt_mul_of_pos_right hx (Nat.pow_pos (by decide))
 refine ⟨?_,by omega,by omega⟩
 have e:((x:Int) * 2 ^ s)=((x * 2 ^ s:Nat):Int):=by simp
 rw [e,IntKind.wrap_u64,show ((x * 2 ^ s:Nat):Int) % 18446744073709551616=((x * 2 ^ s:Nat):Int) by omega,u64_or_nat _ _ (by omega) (by omega),Nat.or_comm,or_add q x s hq,Nat.add_comm]
set_option maxHeartbeats 1000000 in
theorem natshl_any (A:Option Addr) (c:Nat) (L:List Nat) (n:Nat) (w:World) (hs:Sl w A c L) (hlen:L.length ≤ 100000000) (hn:n ≤ 65536) :
  Calls Tryz.prog 160 #[.slice A L.length c,.int .i64 n] w (fun e w'=>∃ T,val T=val L * 2 ^ n ∧ Ok32 T ∧ T.length=n / 32+(trimL L).length+1 ∧ RetL w T e w'):=by
 have hT:=Lib.hid (natTrim_any A c L w hs)
 have hs2:=hs.trim
 have hl2:=tlen_le L
 have hC:=hs2.cap
 have hL:=hs.lim
 unfold tlen at hl2
 have hv:=Lib.hid (val_trimL L)
 generalize trimL L=M at *
 obtain ⟨m,hm⟩:∃ m,m=M.length:=⟨_,rfl⟩
 rw [← hm] at hT hl2 hC
 have HM:=Lib.hid hm; clear hm
 have hmk:=make32c (n / 32) (n / 32+m+1) (by omega) (by omega)
 rw [show ((n / 32:Nat):Int)=(n:Int) / 32 by omega,show ((n / 32+m+1:Nat):Int)=(n:Int) / 32+m+1 by omega] at hmk
 have hOw:=Lib.hid (Ow.made w w.heap.size (n / 32) (n / 32+m+1) (Nat.le_refl _) (by omega) (by omega))
 go_enter Tryz.func160,Tryz.ntmps160
 go_wp2_with fail
 refine hT.out.mono ?_; rintro e w' ⟨rfl,rfl⟩
 go_wp2
 go_loopw [5,6,23] (fun v cy i wr=>∃ (k q:Nat) (O:List Nat),k ≤ m ∧ i = .int .i64 k ∧ cy = .int .u64 q ∧ q < 2 ^ (n % 32) ∧ O.length=n / 32+k ∧ val O+4294967296 ^ (n / 32+k) * q=val (M.take k) * 2 ^ (n % 32) * 4294967296 ^ (n / 32) ∧ Ow wr w.heap.size v O ∧ Ext w wr) (fun _ _ i _=>m - (intOf i).toNat)
 case atStart =>
  exact ⟨0,0,List.replicate (n / 32) 0,Nat.zero_le _,rfl,rfl,Nat.pow_pos (by decide),by simp,by simp [val_replicate0],hOw.out,Ext.alloc _ _⟩
 case round =>
  obtain ⟨k,q,O,hk,rfl,rfl,hq,hO,hval,how,hb⟩:=hrel
  have HV:=Lib.hid hval
  have HO:=Lib.hid hO
  have hOl:O.length ≤ 200000000:=by omega
  have hq2:=Lib.hid hq
  clear hval hO hq
  obtain ⟨OA,Oc,rfl,hos⟩:=how.sl
  by_cases hlt:k < m
  ·have hkM:k < M.length:=by have:=HM.out; omega
   obtain ⟨ab,ao,rfl,_,c1⟩:=(hs2.below hb).at_ hkM
   have hx32:M[k] < 4294967296:=hs2.ok.get hkM
   have HX:=Lib.hid (shl_step (c:=q) (s:=n % 32) (n0:=n / 32) hkM HO.out HV.out)
   generalize M[k]=x at *
   obtain ⟨hw,hz1,hz2⟩:=shl_word x q (n % 32) hx32 (Nat.mod_lt _ (by decide)) hq2.out
   generalize x * 2 ^ (n % 32)+q=z at *
   have hz3:=Lib.hid hz2; clear hz2
   have hsz:O.length + [z % 4294967296].length ≤ 10000000000:=by simp; omega
   go_wp2_with (at_builtin; go_must (refine wpList_app (by rfl) _ _ (by rfl) w.heap.size _ O (by rfl) (how.alloc _) _ _ _ [z % 4294967296] (by rfl) (by rfl) (Sl.oneI _ _ (z % 4294967296) (by omega) (by omega)) hsz (le_alloc hb.size _) ?_); intro v' w1 how1 hg hat)
   go_roundw
   case rel =>
    exact ⟨k+1,z / 4294967296,O ++ [z % 4294967296],by omega,by go_num,by go_num,hz3.out,by rw [List.length_append,HO.out]; rfl,HX.out,how1,(hb.trans (Ext.alloc _ _)).own _ _ (how.alloc _) hg⟩
   case measure=>simp [intOf]; omega
  ·obtain rfl:k=m:=by omega
   have hsz:O.length + [q].length ≤ 10000000000:=by simp; omega
   have hq32:q < 4294967296:=by
    have:=hq2.out
    have hp:2 ^ (n % 32) ≤ 2 ^ 31:=Nat.pow_le_pow_right (by decide) (by omega)
    have e31:(2:Nat) ^ 31=2147483648:=by decide
    omega
   have hqm:(q:Int) % 4294967296=q:=by omega
   go_wp2_with (at_builtin; go_must (refine wpList_app (by rfl) _ _ (by rfl) w.heap.size _ O (by rfl) (how.alloc _) _ _ _ [q] (by rfl) (by rfl) (Sl.oneI _ _ q (by omega) (by omega)) hsz (le_alloc hb.size _) ?_); intro v' w1 how1 hg hat)
   obtain ⟨A',c',rfl,hs'⟩:=how1.sl
   go_ret
   refine ⟨O ++ [q],?_,hs'.ok,by rw [List.length_append,HO.out,← HM.out]; rfl,A',c',rfl,hs',(hb.trans (Ext.alloc _ _)).own _ _ (how.alloc _) hg⟩
   have h:=HV.out
   rw [List.take_of_length_le (by rw [HM.out]; exact Nat.le_refl _)] at h
   rw [val_append,HO.out,val_cons,val_nil,Nat.mul_zero,Nat.add_zero,h,← hv.out,pow32,Nat.mul_assoc,← Nat.pow_add]
   congr 2
   omega
set_option maxHeartbeats 400000 in
theorem natShl_ok (A:Option Addr) (c:Nat) (L:List Nat) (n:Nat) (w:World) (hs:Sl w A c L) (hlen:L.length ≤ 256) (hn:n ≤ 65536) (hfit:(limbs (val L * 2 ^ n)).length ≤ 256) :
  Calls Tryz.prog 141 #[.slice A L.length c,.int .i64 n] w (RetLE w (limbs (val L * 2 ^ n)) 0):=by
 have H1:=Lib.hid (fun w (h:Sl w A c L)=>natshl_any A c L n w h (by omega) hn)
 obtain ⟨R,hR⟩:∃ R,R=limbs (val L * 2 ^ n):=⟨_,rfl⟩
 rw [← hR] at hfit ⊢
 have HR:=Lib.hid hR; clear hR
 go_enter Tryz.func141,Tryz.ntmps141
 go_wp2_with fail
 refine (longA_any _ A _ c _ false (SlS1 _ _ _ _) (by simp; omega)).mono ?_
 rintro e w' ⟨rfl,rfl⟩
 go_wp2_with fail
 refine (H1.out _ (hs.alloc _)).mono ?_
 rintro e w' ⟨T,hT,hTo,-,A',c',rfl,hs',hb⟩
 have h3:=Lib.hid (show trimL T=R by rw [trimL_eq_limbs hTo,hT,HR.out])
 clear hT hTo
 go_wp2_with fail
 refine (natDone_ok A' c' T _ hs' (by rw [h3.out]; exact hfit)).mono ?_
 rintro e w'' ⟨A'',c'',rfl,hs'',hb'⟩
 go_wp2
 go_ret2
 rw [← h3.out]
 exact ⟨A'',c'',rfl,hs'',(Ext.alloc _ _).trans (hb.trans hb')⟩
theorem shifted_any (A:Option Addr) (c:Nat) (L:List Nat) (n:Nat) (w:World) (hs:Sl w A c L) (hlen:L.length ≤ 256) (hn:n ≤ 65536) (hfit:(limbs (val L * 2 ^ n)).length ≤ 256) :
  Calls Tryz.prog 121 #[.slice A L.length c,.int .i64 n] w (RetL w (limbs (val L * 2 ^ n))):=by
 have H1:=Lib.hid (natShl_ok A c L n w hs hlen hn hfit)
 generalize limbs (val L * 2 ^ n)=R at *
 go_enter Tryz.func121,Tryz.ntmps121
 go_wp2_with fail
 refine H1.out.mono ?_
 rintro e w'' ⟨A'',c'',rfl,hs'',hb'⟩
 go_wp2
 go_ret
 exact ⟨A'',c'',rfl,hs'',hb'⟩
open Go.RowKit Fp
theorem u64_and_nat (a b:Nat) (ha:a < 18446744073709551616) (hb:b < 18446744073709551616):bits .and .u64 (a:Int) (b:Int)=((a &&& b:Nat):Int):=by
 have hx:a &&& b < 2 ^ 64:=Nat.and_lt_two_pow _ (by omega)
 have h1:(BitVec.ofInt 64 (a:Int)).toNat=a:=by
  rw [BitVec.ofInt_natCast,BitVec.toNat_ofNat]; exact Nat.mod_eq_of_lt (by omega)
 have h2:(BitVec.ofInt 64 (b:Int)).toNat=b:=by
  rw [BitVec.ofInt_natCast,BitVec.toNat_ofNat]; exact Nat.mod_eq_of_lt (by omega)
 show IntKind.u64.wrap ((BitVec.ofInt 64 (a:Int) &&& BitVec.ofInt 64 (b:Int)).toNat:Int)=_
 rw [BitVec.toNat_and,h1,h2,IntKind.wrap_u64]
 omega
theorem and_mask (z:Nat) (hz:z < 18446744073709551616):bits BinOp.and IntKind.u64 (z:Int) 4294967295=(z:Int) % 4294967296:=by
 have e:(4294967295:Int)=((4294967295:Nat):Int):=rfl
 rw [e,u64_and_nat z _ hz (by omega),show (4294967295:Nat)=2 ^ 32 - 1 by decide,Nat.and_two_pow_sub_one_eq_mod]
 simp
set_option maxHeartbeats 1000000 in
theorem refLeft_any (A:Option Addr) (c:Nat) (M:List Nat) (n:Nat) (w:World) (hs2:Sl w A c M) (hlen:M.length ≤ 1000) (hn:n ≤ 65536) :
  Calls Tryz.prog 36 #[.slice A M.length c,.int .i64 n] w (RetL w (limbs (val M * 2 ^ n))):=by
 have hC:=hs2.cap
 have hL:=hs2.lim
 obtain ⟨m,hm⟩:∃ m,m=M.length:=⟨_,rfl⟩
 rw [← hm] at hlen hC ⊢
 have HM:=Lib.hid hm; clear hm
 have hmk:=make32c (n / 32) (n / 32) (by omega) (by omega)
 rw [show ((n / 32:Nat):Int)=(n:Int) / 32 by omega] at hmk
 have hOw:=Lib.hid (Ow.made w w.heap.size (n / 32) (n / 32) (Nat.le_refl _) (by omega) (by omega))
 go_enter Tryz.func36,Tryz.ntmps36
 go_wp2
 go_loopw [5,6,7] (fun v cy i wr=>∃ (k q:Nat) (O:List Nat),k ≤ m ∧ i = .int .i64 k ∧ cy = .int .u64 q ∧ q < 2 ^ (n % 32) ∧ O.length=n / 32+k ∧ val O+4294967296 ^ (n / 32+k) * q=val (M.take k) * 2 ^ (n % 32) * 4294967296 ^ (n / 32) ∧ Ow wr w.heap.size v O ∧ Ext w wr) (fun _ _ i _=>m - (intOf i).toNat)
 case atStart =>
  exact ⟨0,0,List.replicate (n / 32) 0,Nat.zero_le _,rfl,rfl,Nat.pow_pos (by decide),by simp,by simp [val_replicate0],hOw.out,Ext.alloc _ _⟩
 case round =>
  obtain ⟨k,q,O,hk,rfl,rfl,hq,hO,hval,how,hb⟩:=hrel
  have HV:=Lib.hid hval
  have HO:=Lib.hid hO
  have hOl:O.length ≤ 3100:=by omega
  have hq2:=Lib.hid hq
  clear hval hO hq
  obtain ⟨OA,Oc,rfl,hos⟩:=how.sl
  by_cases hlt:k < m
  ·have hkM:k < M.length:=by have:=HM.out; omega
   obtain ⟨ab,ao,rfl,_,c1⟩:=(hs2.below hb).at_ hkM
   have hx32:M[k] < 4294967296:=hs2.ok.get hkM
   have HX:=Lib.hid (shl_step (c:=q) (s:=n % 32) (n0:=n / 32) hkM HO.out HV.out)
   generalize M[k]=x at *
   obtain ⟨hw,hz1,hz2⟩:=shl_word x q (n % 32) hx32 (Nat.mod_lt _ (by decide)) hq2.out
   generalize x * 2 ^ (n % 32)+q=z at *
   have hz3:=Lib.hid hz2; clear hz2
   have hsz:O.length + [z % 4294967296].length ≤ 10000000000:=by simp; omega
   have hmask:=and_mask z hz1
   go_wp2_with (at_builtin; go_must (refine wpList_app (by rfl) _ _ (by rfl) w.heap.size _ O (by rfl) (how.alloc _) _ _ _ [z % 4294967296] (by rfl) (by rfl) (Sl.oneI _ _ (z % 4294967296) (by omega) (by omega)) hsz (le_alloc hb.size _) ?_); intro v' w1 how1 hg hat)
   go_roundw
   case rel =>
    exact ⟨k+1,z / 4294967296,O ++ [z % 4294967296],by omega,by go_num,by go_num,hz3.out,by rw [List.length_append,HO.out]; rfl,HX.out,how1,(hb.trans (Ext.alloc _ _)).own _ _ (how.alloc _) hg⟩
   case measure=>simp [intOf]; omega
  ·obtain rfl:k=m:=by omega
   have hsz:O.length + [q].length ≤ 10000000000:=by simp; omega
   have hq32:q < 4294967296:=by
    have:=hq2.out
    have hp:2 ^ (n % 32) ≤ 2 ^ 31:=Nat.pow_le_pow_right (by decide) (by omega)
    have e31:(2:Nat) ^ 31=2147483648:=by decide
    omega
   have hqm:(q:Int) % 4294967296=q:=by omega
   have hfin:Hid (trimL (O ++ [q])=limbs (val M * 2 ^ n)):=by
    show trimL (O ++ [q])=limbs (val M * 2 ^ n)
    rw [trimL_eq_limbs (how.ok.append (Ok32.cons hq32 Ok32.nil))]
    have h:=HV.out
    rw [List.take_of_length_le (by rw [HM.out]; exact Nat.le_refl _)] at h
    rw [val_append,HO.out,val_cons,val_nil,Nat.mul_zero,Nat.add_zero,h,pow32,Nat.mul_assoc,← Nat.pow_add]
    congr 3
    omega
   go_wp2_with (at_builtin; go_must (refine wpList_app (by rfl) _ _ (by rfl) w.heap.size _ O (by rfl) (how.alloc _) _ _ _ [q] (by rfl) (by rfl) (Sl.oneI _ _ q (by omega) (by omega)) hsz (le_alloc hb.size _) ?_); intro v' w1 how1 hg hat; obtain ⟨P,hP⟩:∃ P,P=O ++ [q]:=⟨_,rfl⟩; rw [← hP] at how1 hfin; have hPl:P.length ≤ 3101:=(by rw [hP]; simp; omega); clear hP; obtain ⟨A',c',rfl,hs'⟩:=how1.sl)
   refine (refTrim_any A' c' P _ hs' (by omega)).mono ?_
   rintro e w' ⟨A'',c'',rfl,hs'',hb'⟩
   go_wp2
   go_ret
   rw [← hfin.out]
   exact ⟨A'',c'',rfl,hs'',((hb.trans (Ext.alloc _ _)).own _ _ (how.alloc _) hg).trans hb'⟩
open Go.RowKit Fp
theorem shr_limbm (x y s:Nat) (hx:x < 4294967296) (hy:y < 4294967296) :
  bits BinOp.and IntKind.u64 (bits BinOp.or IntKind.u64 (x:Int) ((y:Int) * 4294967296) / 2 ^ s) 4294967295=(((x+4294967296 * y) / 2 ^ s % 4294967296:Nat):Int):=by
 have e:((y:Int) * 4294967296)=((y * 2 ^ 32:Nat):Int):=by simp
 rw [e,u64_or_nat x (y * 2 ^ 32) (by omega) (by omega),or_add x y 32 (by omega)]
 have h:(x+y * 2 ^ 32) / 2 ^ s < 18446744073709551616:=Nat.lt_of_le_of_lt (Nat.div_le_self _ _) (by omega)
 have h2:=and_mask _ h
 rw [show (((x+y * 2 ^ 32:Nat):Int) / 2 ^ s)=(((x+y * 2 ^ 32) / 2 ^ s:Nat):Int) by simp,h2]
 simp [Nat.mul_comm]
theorem shr_limb0m (x s:Nat) (hx:x < 4294967296):bits BinOp.and IntKind.u64 ((x:Int) / 2 ^ s) 4294967295=(((x+4294967296 * 0) / 2 ^ s % 4294967296:Nat):Int):=by
 have h:x / 2 ^ s < 18446744073709551616:=Nat.lt_of_le_of_lt (Nat.div_le_self _ _) (by omega)
 rw [show ((x:Int) / 2 ^ s)=((x / 2 ^ s:Nat):Int) by simp,and_mask _ h]
 simp
set_option maxHeartbeats 1000000 in
theorem refRight_any (A:Option Addr) (c:Nat) (M:List Nat) (n:Nat) (w:World) (hs2:Sl w A c M) (hlen:M.length ≤ 3000) (hn:n ≤ 100000) :
  Calls Tryz.prog 42 #[.slice A M.length c,.int .i64 n] w (RetL w (limbs (val M / 2 ^ n))):=by
 have hC:=hs2.cap
 have hL:=hs2.lim
 have hfin:Hid (trimL (shrL (n % 32) (M.drop (n / 32)))=limbs (val M / 2 ^ n)):=by
  show _=_
  rw [trimL_eq_limbs (ok_shrL _ _),val_shr_all hs2.ok]
 obtain ⟨R,hR⟩:∃ R,R=limbs (val M / 2 ^ n):=⟨_,rfl⟩
 rw [← hR] at hfin ⊢
 clear hR
 obtain ⟨m,hm⟩:∃ m,m=M.length:=⟨_,rfl⟩
 rw [← hm] at hlen hC ⊢
 have HM:=Lib.hid hm; clear hm
 by_cases h0:m ≤ n / 32
 ·go_enter Tryz.func42,Tryz.ntmps42
  go_wp2
  go_ret
  have:M.drop (n / 32)=[]:=List.drop_eq_nil_of_le (by rw [← HM.out]; exact h0)
  have h:=hfin.out
  rw [this] at h
  rw [← h]
  exact ⟨none,0,rfl,Sl.nil _,Ext.refl _⟩
 ·obtain ⟨ab,ao,rfl,_,_⟩:=hs2.at_ (i:=0) (by have:=HM.out; omega)
  have hK:=hs2.drop (n / 32)
  have hNK:=Lib.hid (show m - n / 32=(M.drop (n / 32)).length by rw [List.length_drop,HM.out])
  have hcc:n / 32 < c:=by omega
  have hN0:0 < m - n / 32:=by omega
  have hN1:m - n / 32 ≤ 3000:=by omega
  generalize M.drop (n / 32)=K at *
  simp only [Option.map_some,addr_add] at hK
  have hT2:=Lib.hid (shrL_length (n % 32) K)
  have hTg:=Lib.hid (shrL_get (n % 32) K)
  have hTo:=Lib.hid (ok_shrL (n % 32) K)
  generalize shrL (n % 32) K=T at *
  go_enter Tryz.func42,Tryz.ntmps42
  go_wp2
  go_loopw [5,6] (fun v i wr=>∃ (k:Nat) (O:List Nat),k ≤ m - n / 32 ∧ i = .int .i64 k ∧ O=T.take k ∧ Ow wr w.heap.size v O ∧ Ext w wr) (fun _ i _=>m - n / 32 - (intOf i).toNat)
  case atStart =>
   exact ⟨0,[],Nat.zero_le _,rfl,by simp,Ow.nil _ _,Ext.refl _⟩
  case round =>
   obtain ⟨k,O,hk,rfl,hO,how,hb⟩:=hrel
   have hOl:O.length ≤ 3000:=by rw [hO,List.length_take]; omega
   have HO:=Lib.hid hO; clear hO
   obtain ⟨OA,Oc,rfl,hos⟩:=how.sl
   by_cases hlt:k < m - n / 32
   ·have hkK:k < K.length:=by have:=hNK.out; omega
    obtain ⟨ab',ao',e',_,c1⟩:=(hK.below hb).at_ hkK
    cases e'
    have hg:=hTg.out k hkK
    have hx32:K[k] < 4294967296:=hK.ok.get hkK
    have HK:=Lib.hid (List.getElem?_eq_getElem hkK)
    by_cases hlt2:k+1 < m - n / 32
    ·have hkK2:k+1 < K.length:=by have:=hNK.out; omega
     obtain ⟨ab',ao',e',_,c2⟩:=(hK.below hb).at_ hkK2
     cases e'
     have hy:K.getD (k+1) 0=K[k+1]:=by rw [List.getD_eq_getElem?_getD,List.getElem?_eq_getElem hkK2]; rfl
     rw [hy] at hg
     have hy32:K[k+1] < 4294967296:=hK.ok.get hkK2
     have HG:=Lib.hid hg
     clear hg hy
     generalize K[k]=x at *
     generalize K[k+1]=y at *
     clear hkK hkK2
     have hw:=shr_limbm x y (n % 32) hx32 hy32
     have hz:(x+4294967296 * y) / 2 ^ (n % 32) % 4294967296 < 4294967296:=Nat.mod_lt _ (by decide)
     generalize (x+4294967296 * y) / 2 ^ (n % 32) % 4294967296=z at *
     have hsz:O.length + [z].length ≤ 10000000000:=by simp; omega
     go_wp2_with (at_builtin; go_must (refine wpList_app (by rfl) _ _ (by rfl) w.heap.size _ O (by rfl) (how.alloc _) _ _ _ [z] (by rfl) (by rfl) (Sl.oneI _ _ z (by omega) (by omega)) hsz (le_alloc hb.size _) ?_); intro v' w1 how1 hg hat)
     go_roundw
     case rel =>
      exact ⟨k+1,O ++ [z],by omega,by go_num,by rw [HO.out,List.take_add_one,HG.out]; rfl,how1,(hb.trans (Ext.alloc _ _)).own _ _ (how.alloc _) hg⟩
     case measure=>simp [intOf]; omega
    ·have hy:K.getD (k+1) 0=0:=by rw [List.getD_eq_getElem?_getD,List.getElem?_eq_none (by have:=hNK.out; omega)]; rfl
     rw [hy] at hg
     have HG:=Lib.hid hg
     clear hg hy
     generalize K[k]=x at *
     clear hkK
     have hw:=shr_limb0m x (n % 32) hx32
     have hz:(x+4294967296 * 0) / 2 ^ (n % 32) % 4294967296 < 4294967296:=Nat.mod_lt _ (by decide)
     generalize (x+4294967296 * 0) / 2 ^ (n % 32) % 4294967296=z at *
     have hsz:O.length + [z].length ≤ 10000000000:=by simp; omega
     go_wp2_with (at_builtin; go_must (refine wpList_app (by rfl) _ _ (by rfl) w.heap.size _ O (by rfl) (how.alloc _) _ _ _ [z] (by rfl) (by rfl) (Sl.oneI _ _ z (by omega) (by omega)) hsz (le_alloc hb.size _) ?_); intro v' w1 how1 hg hat)
     go_roundw
     case rel =>
      exact ⟨k+1,O ++ [z],by omega,by go_num,by rw [HO.out,List.take_add_one,HG.out]; rfl,how1,(hb.trans (Ext.alloc _ _)).own _ _ (how.alloc _) hg⟩
     case measure=>simp [intOf]; omega
   ·have hOT:Hid (trimL O=R):=by
     show trimL O=R
     rw [HO.out,List.take_of_length_le (by rw [hT2.out,← hNK.out]; omega)]
     exact hfin.out
    go_wp2_with fail
    refine (refTrim_any OA Oc O _ hos (by omega)).mono ?_
    rintro e w' ⟨A'',c'',rfl,hs'',hb'⟩
    go_wp2
    go_ret
    rw [← hOT.out]
    exact ⟨A'',c'',rfl,hs'',hb.trans hb'⟩
open Go.RowKit Fp
theorem getD_of_lt {L:List Nat} {k:Nat} (h:k < L.length):L.getD k 0=L[k]:=by
 rw [List.getD_eq_getElem?_getD,List.getElem?_eq_getElem h]; rfl
theorem getD_of_ge {L:List Nat} {k:Nat} (h:¬ k < L.length):L.getD k 0=0:=by
 rw [List.getD_eq_getElem?_getD,List.getElem?_eq_none (by omega)]; rfl
set_option maxHeartbeats 1000000 in
theorem refPlus_any (A B:Option Addr) (c d:Nat) (L M:List Nat) (w:World) (hs:Sl w A c L) (hr:Sl w B d M) (h1:L.length ≤ 3000) (h2:M.length ≤ 3000) :
  Calls Tryz.prog 37 #[.slice A L.length c,.slice B M.length d] w (RetL w (limbs (val L+val M))):=by
 have HLl:=Lib.hid (rfl:L.length=L.length)
 obtain ⟨l,hl⟩:∃ l,l=L.length:=⟨_,rfl⟩
 obtain ⟨m,hm⟩:∃ m,m=M.length:=⟨_,rfl⟩
 rw [← hl] at h1 ⊢
 rw [← hm] at h2 ⊢
 have HL:=Lib.hid hl
 have HM:=Lib.hid hm
 clear hl hm HLl
 go_enter Tryz.func37,Tryz.ntmps37
 go_wp2
 go_loopw [5,6,7] (fun v cy i wr=>∃ (k q:Nat) (O:List Nat),(k ≤ l ∨ k ≤ m) ∧ i = .int .i64 k ∧ cy = .int .u64 q ∧ q ≤ 1 ∧ O.length=k ∧ val O+4294967296 ^ k * q=val (L.take k)+val (M.take k) ∧ Ow wr w.heap.size v O ∧ Ext w wr) (fun _ _ i _=>3000 - (intOf i).toNat)
 case atStart=>exact ⟨0,0,[],.inl (Nat.zero_le _),rfl,rfl,by decide,rfl,by simp,Ow.nil _ _,Ext.refl _⟩
 case round =>
  obtain ⟨k,q,O,hk,rfl,rfl,hq,hO,hval,how,hb⟩:=hrel
  have HS:=Lib.hid (add_step2 (x:=L.getD k 0) (y:=M.getD k 0) hO hval (val_take_getD L k) (val_take_getD M k))
  have HV:=Lib.hid hval
  have HO:=Lib.hid hO
  have hOl:O.length ≤ 3000:=by omega
  have hkk:k ≤ 3000:=by omega
  clear hval hO hk
  obtain ⟨OA,Oc,rfl,hos⟩:=how.sl
  have hmask:=fun z:Nat=>fun h:z < 8589934593=>and_mask z (by omega)
  by_cases hl:k < l
  ·have hlZ:(k:Int) < l:=by omega
   have hkL:k < L.length:=by have:=HL.out; omega
   obtain ⟨ab,ao,rfl,_,c1⟩:=(hs.below hb).at_ hkL
   have hx32:L[k] < 4294967296:=hs.ok.get hkL
   rw [getD_of_lt hkL] at HS
   generalize L[k]=x at *
   clear hkL
   by_cases hm:k < m
   ·have hmZ:(k:Int) < m:=by omega
    have hkM:k < M.length:=by have:=HM.out; omega
    obtain ⟨bb,bo,rfl,_,c2⟩:=(hr.below hb).at_ hkM
    have hy32:M[k] < 4294967296:=hr.ok.get hkM
    rw [getD_of_lt hkM] at HS
    generalize M[k]=y at *
    clear hkM
    have hmk:=hmask (q+x+y) (by omega)
    simp only [Int.natCast_add] at hmk
    clear hmask
    have hsz:O.length + [(q+x+y) % 4294967296].length ≤ 10000000000:=by simp; omega
    go_wp2_with (at_builtin; go_must (refine wpList_app (by rfl) _ _ (by rfl) w.heap.size _ O (by rfl) (how.alloc _) _ _ _ [(q+x+y) % 4294967296] (by rfl) (by rfl) (Sl.oneI _ _ ((q+x+y) % 4294967296) (by omega) (by omega)) hsz (le_alloc hb.size _) ?_); intro v' w1 how1 hg hat)
    go_roundw
    case rel =>
     exact ⟨k+1,(q+x+y) / 4294967296,O ++ [(q+x+y) % 4294967296],by omega,by go_num,by go_num,by omega,by rw [List.length_append,HO.out]; rfl,HS.out,how1,(hb.trans (Ext.alloc _ _)).own _ _ (how.alloc _) hg⟩
    case measure=>simp [intOf]; omega
   ·have hmZ:¬ (k:Int) < m:=by omega
    rw [getD_of_ge (by have:=HM.out; omega)] at HS
    have hmk:=hmask (q+x+0) (by omega)
    simp only [Int.natCast_add,Nat.add_zero] at hmk
    clear hmask
    have hsz:O.length + [(q+x+0) % 4294967296].length ≤ 10000000000:=by simp; omega
    go_wp2_with (at_builtin; go_must (refine wpList_app (by rfl) _ _ (by rfl) w.heap.size _ O (by rfl) (how.alloc _) _ _ _ [(q+x+0) % 4294967296] (by rfl) (by rfl) (Sl.oneI _ _ ((q+x+0) % 4294967296) (by omega) (by omega)) hsz (le_alloc hb.size _) ?_); intro v' w1 how1 hg hat)
    go_roundw
    case rel =>
     exact ⟨k+1,(q+x+0) / 4294967296,O ++ [(q+x+0) % 4294967296],by omega,by go_num,by go_num,by omega,by rw [List.length_append,HO.out]; rfl,HS.out,how1,(hb.trans (Ext.alloc _ _)).own _ _ (how.alloc _) hg⟩
    case measure=>simp [intOf]; omega
  ·have hlZ:¬ (k:Int) < l:=by omega
   have hlF:decide ((k:Int) < l)=false:=by simpa using hlZ
   rw [getD_of_ge (L:=L) (by have:=HL.out; omega)] at HS
   by_cases hm:k < m
   ·have hmZ:(k:Int) < m:=by omega
    have hkM:k < M.length:=by have:=HM.out; omega
    obtain ⟨bb,bo,rfl,_,c2⟩:=(hr.below hb).at_ hkM
    have hy32:M[k] < 4294967296:=hr.ok.get hkM
    rw [getD_of_lt hkM] at HS
    generalize M[k]=y at *
    clear hkM
    have hmk:=hmask (q+0+y) (by omega)
    simp only [Int.natCast_add,Nat.add_zero] at hmk
    clear hmask
    have hsz:O.length + [(q+0+y) % 4294967296].length ≤ 10000000000:=by simp; omega
    go_wp2_with (at_builtin; go_must (refine wpList_app (by rfl) _ _ (by rfl) w.heap.size _ O (by rfl) (how.alloc _) _ _ _ [(q+0+y) % 4294967296] (by rfl) (by rfl) (Sl.oneI _ _ ((q+0+y) % 4294967296) (by omega) (by omega)) hsz (le_alloc hb.size _) ?_); intro v' w1 how1 hg hat)
    go_roundw
    case rel =>
     exact ⟨k+1,(q+0+y) / 4294967296,O ++ [(q+0+y) % 4294967296],by omega,by go_num,by go_num,by omega,by rw [List.length_append,HO.out]; rfl,HS.out,how1,(hb.trans (Ext.alloc _ _)).own _ _ (how.alloc _) hg⟩
    case measure=>simp [intOf]; omega
   ·have hmZ:¬ (k:Int) < m:=by omega
    clear hmask
    have hq32:(q:Int) % 4294967296=q:=by omega
    have hfin:Hid (trimL (O ++ [q])=limbs (val L+val M)):=by
     show trimL (O ++ [q])=_
     rw [trimL_eq_limbs (how.ok.append (Ok32.cons (by omega) Ok32.nil)),val_append,HO.out]
     have h:=HV.out
     rw [List.take_of_length_le (by have:=HL.out; omega),List.take_of_length_le (by have:=HM.out; omega)] at h
     simp only [val_cons,val_nil,Nat.mul_zero,Nat.add_zero]
     rw [h]
    have hsz:O.length + [q].length ≤ 10000000000:=by simp; omega
    go_wp2_with (at_builtin; go_must (refine wpList_app (by rfl) _ _ (by rfl) w.heap.size _ O (by rfl) (how.alloc _) _ _ _ [q] (by rfl) (by rfl) (Sl.oneI _ _ q (by omega) (by omega)) hsz (le_alloc hb.size _) ?_); intro v' w1 how1 hg hat; obtain ⟨P,hP⟩:∃ P,P=O ++ [q]:=⟨_,rfl⟩; rw [← hP] at how1 hfin; have hPl:P.length ≤ 3001:=(by rw [hP]; simp; omega); clear hP; obtain ⟨A',c',rfl,hs'⟩:=how1.sl)
    refine (refTrim_any A' c' P _ hs' (by omega)).mono ?_
    rintro e w' ⟨A'',c'',rfl,hs'',hb'⟩
    go_wp2
    go_ret
    rw [← hfin.out]
    exact ⟨A'',c'',rfl,hs'',((hb.trans (Ext.alloc _ _)).own _ _ (how.alloc _) hg).trans hb'⟩
theorem u32_bit (x s:Nat) (hx:x < 4294967296):bits BinOp.and IntKind.u32 ((x:Int) / 2 ^ s) 1=((x / 2 ^ s % 2:Nat):Int):=by
 have h:x / 2 ^ s < 4294967296:=Nat.lt_of_le_of_lt (Nat.div_le_self _ _) (by omega)
 rw [show ((x:Int) / 2 ^ s)=((x / 2 ^ s:Nat):Int) by simp,show (1:Int)=((1:Nat):Int) from rfl,bits_and_u32_nat _ _ h (by decide),Nat.and_one_is_mod]
set_option maxHeartbeats 1000000 in
theorem refZeros_any (A:Option Addr) (c:Nat) (L:List Nat) (w:World) (hs:Sl w A c L) (h1:L.length ≤ 3000) (h0:val L ≠ 0) :
  Calls Tryz.prog 41 #[.slice A L.length c] w fun e w'=>e = .returned (.int .i64 (ctzN (val L))) ∧ w=w':=by
 have hz:=ctz_lt hs.ok h0
 have HB:=Lib.hid (fun k (hk:k < ctzN (val L))=>bit_below_ctz h0 hk)
 have HE:=Lib.hid (bit_at_ctz h0)
 have HV:=Lib.hid (fun k=>bit_val hs.ok k)
 generalize ctzN (val L)=t at *
 go_enter Tryz.func41,Tryz.ntmps41
 go_wp2
 go_loop [3] (fun i=>∃ k:Nat,k ≤ t ∧ i = .int .i64 k) (fun i=>t - (intOf i).toNat)
 case atStart=>exact ⟨0,Nat.zero_le _,rfl⟩
 case round =>
  obtain ⟨k,hk,rfl⟩:=hrel
  have hkL:k / 32 < L.length:=by omega
  obtain ⟨ab,ao,rfl,_,c1⟩:=hs.at_ hkL
  have hv:=HV.out k hkL
  have hx32:L[k / 32] < 4294967296:=hs.ok.get hkL
  generalize L[k / 32]=x at *
  clear HV
  have hbit:=u32_bit x (k % 32) hx32
  rw [← hv] at hbit
  clear hv
  by_cases hkt:k < t
  ·rw [HB.out k hkt] at hbit
   have hb:(bits BinOp.and IntKind.u32 ((x:Int) / 2 ^ (k % 32)) 1 == 0)=true:=by rw [hbit]; rfl
   clear hbit
   go_wp2
   go_round
   case rel=>exact ⟨k+1,by omega,by go_num⟩
   case measure=>simp [intOf]; omega
  ·obtain rfl:k=t:=by omega
   rw [HE.out] at hbit
   have hb:(bits BinOp.and IntKind.u32 ((x:Int) / 2 ^ (k % 32)) 1 == 0)=false:=by rw [hbit]; rfl
   clear hbit
   go_wp2
   go_ret
   exact ⟨rfl,rfl⟩
set_option maxHeartbeats 1000000 in
theorem refMinus_any (A B:Option Addr) (c d:Nat) (L M:List Nat) (w:World) (hs:Sl w A c L) (hr:Sl w B d M) (h1:L.length ≤ 3000) (h2:M.length ≤ L.length) (hle:val M ≤ val L) :
  Calls Tryz.prog 39 #[.slice A L.length c,.slice B M.length d] w (RetL w (limbs (val L - val M))):=by
 obtain ⟨l,hl⟩:∃ l,l=L.length:=⟨_,rfl⟩
 obtain ⟨m,hm⟩:∃ m,m=M.length:=⟨_,rfl⟩
 rw [← hl] at h1 h2 ⊢
 rw [← hm] at h2 ⊢
 have HL:=Lib.hid hl
 have HM:=Lib.hid hm
 clear hl hm
 have HLE:=Lib.hid hle
 clear hle
 go_enter Tryz.func39,Tryz.ntmps39
 go_wp2
 go_loopw [5,6,7] (fun v cy i wr=>∃ (k q:Nat) (O:List Nat),k ≤ l ∧ i = .int .i64 k ∧ cy = .int .u64 q ∧ q ≤ 1 ∧ O.length=k ∧ val O+val (M.take k)=val (L.take k)+4294967296 ^ k * q ∧ Ow wr w.heap.size v O ∧ Ext w wr) (fun _ _ i _=>l - (intOf i).toNat)
 case atStart=>exact ⟨0,0,[],Nat.zero_le _,rfl,rfl,by decide,rfl,by simp,Ow.nil _ _,Ext.refl _⟩
 case round =>
  obtain ⟨k,q,O,hk,rfl,rfl,hq,hO,hval,how,hb⟩:=hrel
  have HS:=Lib.hid (fun (x y:Nat) (e1:L.getD k 0=x) (e2:M.getD k 0=y) (dd c':Nat)=>sub_step2 (x:=x) (y:=y) (d:=dd) (c':=c') hO hval ((val_take_getD L k).trans (by rw [e1])) ((val_take_getD M k).trans (by rw [e2])))
  have HV:=Lib.hid hval
  have HO:=Lib.hid hO
  have hOl:O.length ≤ 3000:=by omega
  clear hval hO
  obtain ⟨OA,Oc,rfl,hos⟩:=how.sl
  by_cases hl:k < l
  ·have hkL:k < L.length:=by have:=HL.out; omega
   obtain ⟨ab,ao,rfl,_,c1⟩:=(hs.below hb).at_ hkL
   have hx32:L[k] < 4294967296:=hs.ok.get hkL
   have HX:=Lib.hid (getD_of_lt hkL)
   generalize L[k]=x at *
   clear hkL
   by_cases hm:k < m
   ·have hkM:k < M.length:=by have:=HM.out; omega
    obtain ⟨bb,bo,rfl,_,c2⟩:=(hr.below hb).at_ hkM
    have hy32:M[k] < 4294967296:=hr.ok.get hkM
    have HY:=Lib.hid (getD_of_lt hkM)
    generalize M[k]=y at *
    clear hkM
    have hmk:=and_mask (x+4294967296 - (q+y)) (by omega)
    rw [show ((x+4294967296 - (q+y):Nat):Int)=(x:Int)+4294967296 - (q+y) by omega] at hmk
    have hsz:O.length + [(x+4294967296 - (q+y)) % 4294967296].length ≤ 10000000000:=by simp; omega
    go_wp2_with (at_builtin; go_must (refine wpList_app (by rfl) _ _ (by rfl) w.heap.size _ O (by rfl) (how.alloc _) _ _ _ [(x+4294967296 - (q+y)) % 4294967296] (by rfl) (by rfl) (Sl.oneI _ _ ((x+4294967296 - (q+y)) % 4294967296) (by omega) (by omega)) hsz (le_alloc hb.size _) ?_); intro v' w1 how1 hg hat)
    go_roundw
    case rel =>
     exact ⟨k+1,1 - (x+4294967296 - (q+y)) / 4294967296,O ++ [(x+4294967296 - (q+y)) % 4294967296],by omega,by go_num,by rw [show (1 - ((x:Int)+4294967296 - (q+y)) / 4294967296)=((1 - (x+4294967296 - (q+y)) / 4294967296:Nat):Int) by omega],by omega,by rw [List.length_append,HO.out]; rfl,HS.out x y HX.out HY.out _ _ (by omega),how1,(hb.trans (Ext.alloc _ _)).own _ _ (how.alloc _) hg⟩
    case measure=>simp [intOf]; omega
   ·have hmZ:¬ (k:Int) < m:=by omega
    have HY:=Lib.hid (getD_of_ge (L:=M) (k:=k) (by have:=HM.out; omega))
    have hmk:=and_mask (x+4294967296 - q) (by omega)
    rw [show ((x+4294967296 - q:Nat):Int)=(x:Int)+4294967296 - q by omega] at hmk
    have hsz:O.length + [(x+4294967296 - q) % 4294967296].length ≤ 10000000000:=by simp; omega
    go_wp2_with (at_builtin; go_must (refine wpList_app (by rfl) _ _ (by rfl) w.heap.size _ O (by rfl) (how.alloc _) _ _ _ [(x+4294967296 - q) % 4294967296] (by rfl) (by rfl) (Sl.oneI _ _ ((x+4294967296 - q) % 4294967296) (by omega) (by omega)) hsz (le_alloc hb.size _) ?_); intro v' w1 how1 hg hat)
    go_roundw
    case rel =>
     exact ⟨k+1,1 - (x+4294967296 - q) / 4294967296,O ++ [(x+4294967296 - q) % 4294967296],by omega,by go_num,by rw [show (1 - ((x:Int)+4294967296 - q) / 4294967296)=((1 - (x+4294967296 - q) / 4294967296:Nat):Int) by omega],by omega,by rw [List.length_append,HO.out]; rfl,HS.out x 0 HX.out HY.out _ _ (by omega),how1,(hb.trans (Ext.alloc _ _)).own _ _ (how.alloc _) hg⟩
    case measure=>simp [intOf]; omega
  ·obtain rfl:k=l:=by omega
   have hfin:Hid (trimL O=limbs (val L - val M)):=by
    show trimL O=_
    have h:=HV.out
    rw [List.take_of_length_le (l:=L) (by have:=HL.out; omega),List.take_of_length_le (l:=M) (by have:=HM.out; omega)] at h
    rw [trimL_eq_limbs how.ok,(sub_last how.ok HO.out h HLE.out).2]
   go_wp2_with fail
   refine (refTrim_any OA Oc O _ hos (by omega)).mono ?_
   rintro e w' ⟨A'',c'',rfl,hs'',hb'⟩
   go_wp2
   go_ret
   rw [← hfin.out]
   exact ⟨A'',c'',rfl,hs'',hb.trans hb'⟩
open Go.RowKit Fp
theorem mul_step {O:List Nat} {p a b c o:Nat} (ho:O[p]? = some o) :
  val (O.set p ((a * b+o+c) % 4294967296))+4294967296 ^ (p+1) * ((a * b+o+c) / 4294967296)=val O+4294967296 ^ p * c+4294967296 ^ p * (a * b):=by
 obtain ⟨hp,rfl⟩:=List.getElem?_eq_some_iff.1 ho
 have h:=val_set (x:=(a * b+O[p]+c) % 4294967296) hp
 have e:=congrArg (4294967296 ^ p * ·) (Nat.mod_add_div (a * b+O[p]+c) 4294967296)
 simp only [Nat.mul_add] at e
 rw [Nat.pow_succ,Nat.mul_assoc]
 omega
theorem carry_step {O:List Nat} {p c o:Nat} (ho:O[p]? = some o) :
  val (O.set p ((o+c) % 4294967296))+4294967296 ^ (p+1) * ((o+c) / 4294967296)=val O+4294967296 ^ p * c:=by
 have h:=mul_step (a:=0) (b:=0) (c:=c) ho
 simpa using h
theorem carry_room {i n k N c:Nat} {O a b:List Nat} (hk:val O+4294967296 ^ k * c=val (a.take (i+1)) * val b) (ha:Ok32 a) (hb:Ok32 b) (hi:i < a.length) (hn:b.length=n) (hc:0 < c) (hN:a.length+n < N):k < N:=by
 have h1:=val_lt (ha.take (i+1))
 rw [List.length_take,Nat.min_eq_left (by omega)] at h1
 have h2:=val_lt hb
 rw [hn] at h2
 have h3:val (a.take (i+1)) * val b < 4294967296 ^ (i+1+n):=by
  rw [Nat.pow_add]
  exact Nat.mul_lt_mul'' h1 h2
 have h4:4294967296 ^ k * 1 ≤ 4294967296 ^ k * c:=Nat.mul_le_mul_left _ hc
 have h5:4294967296 ^ k < 4294967296 ^ (i+1+n):=by omega
 have:=(Nat.pow_lt_pow_iff_right (by decide:1 < 4294967296)).1 h5
 omega
theorem u64_mul (x y:Nat) (hx:x < 4294967296) (hy:y < 4294967296):IntKind.u64.wrap ((x:Int) * (y:Int))=((x * y:Nat):Int) ∧ x * y ≤ 18446744065119617025:=by
 have h:x * y ≤ 4294967295 * 4294967295:=Nat.mul_le_mul (by omega) (by omega)
 refine ⟨?_,by omega⟩
 rw [IntKind.wrap_u64,← Int.natCast_mul]
 omega
theorem u64_nat (x:Nat) (h:x < 18446744073709551616):IntKind.u64.wrap (x:Int)=(x:Int):=by rw [IntKind.wrap_u64]; omega
theorem Fp.Ok32.set' {L:List Nat} (h:Ok32 L) (k:Nat) (x:Nat):Ok32 (L.set k (x % 4294967296)):=h.set k (Nat.mod_lt _ (by decide))
set_option maxHeartbeats 4000000 in
theorem refTimes_any (A B:Option Addr) (c d:Nat) (L M:List Nat) (w:World) (hs:Sl w A c L) (hr:Sl w B d M) (h1:L.length ≤ 3000) (h2:M.length ≤ 3000) :
  Calls Tryz.prog 35 #[.slice A L.length c,.slice B M.length d] w (RetL w (limbs (val L * val M))):=by
 obtain ⟨l,hl⟩:∃ l,l=L.length:=⟨_,rfl⟩
 obtain ⟨m,hm⟩:∃ m,m=M.length:=⟨_,rfl⟩
 rw [← hl] at h1 ⊢
 rw [← hm] at h2 ⊢
 have HL:=Lib.hid hl
 have HM:=Lib.hid hm
 clear hl hm
 have hmk:=make32 (l+m+1) (by omega)
 rw [show ((l+m+1:Nat):Int)=(l:Int)+(m:Int)+1 by omega] at hmk
 have hR0:=Lib.hid (Rw.made w (l+m+1))
 go_enter Tryz.func35,Tryz.ntmps35
 go_wp2
 go_loopw [6] (fun i wr=>∃ (k:Nat) (O:List Nat),k ≤ l ∧ i = .int .i64 k ∧ O.length=l+m+1 ∧ Ok32 O ∧ val O=val (L.take k) * val M ∧ Rw wr w.heap.size O ∧ Ext w wr) (fun i _=>l - (intOf i).toNat)
 case atStart =>
  exact ⟨0,List.replicate (l+m+1) 0,Nat.zero_le _,rfl,by simp,Ok32.replicate0 _,by simp [val_replicate0],hR0.out,Ext.alloc _ _⟩
 case round =>
  obtain ⟨i,O,hi,rfl,hO,hok,hval,hR,hb⟩:=hrel
  have HV:=Lib.hid hval
  have HO:=Lib.hid hO
  clear hval hO
  by_cases hlt:i < l
  ·have hiL:i < L.length:=by have:=HL.out; omega
   obtain ⟨x,hx⟩:∃ x,x=L[i]:=⟨_,rfl⟩
   have HX:=Lib.hid hx
   have hx32:x < 4294967296:=by rw [hx]; exact hs.ok.get hiL
   have HXc:=Lib.hid (fun w (h:Sl w A c L)=>hx ▸ h.at_ hiL)
   clear hx
   have HST:=Lib.hid (show val (L.take (i+1))=val (L.take i)+4294967296 ^ i * x by rw [HX.out]; exact val_take_succ L i hiL)
   clear HX hiL
   go_wp2
   obtain ⟨wo,rfl⟩:∃ wo:World,wo=wr:=⟨_,rfl⟩
   go_loopw [7,8] (fun cy k wr=>∃ (j q:Nat) (O:List Nat),j ≤ m ∧ k = .int .i64 j ∧ cy = .int .u64 q ∧ q < 4294967296 ∧ O.length=l+m+1 ∧ Ok32 O ∧ val O+4294967296 ^ (i+j) * q=val (L.take i) * val M+4294967296 ^ i * (x * val (M.take j)) ∧ Rw wr w.heap.size O ∧ Ext w wr) (fun _ k _=>m - (intOf k).toNat)
   case atStart =>
    exact ⟨0,0,O,Nat.zero_le _,rfl,rfl,by decide,HO.out,hok,by simp [HV.out],hR,hb⟩
   case round =>
    clear HO HV hok hR
    obtain ⟨j,q,O,hj,rfl,rfl,hq,hO,hok,hval,hR,hb⟩:=hrel
    have HV:=Lib.hid hval
    have HO:=Lib.hid hO
    clear hval hO
    by_cases hlt2:j < m
    ·have hjM:j < M.length:=by have:=HM.out; omega
     obtain ⟨y,hy⟩:∃ y,y=M[j]:=⟨_,rfl⟩
     have hy32:y < 4294967296:=by rw [hy]; exact hr.ok.get hjM
     obtain ⟨ab,ao,e1,_,c1⟩:=HXc.out _ (hs.below hb)
     obtain ⟨bb,bo,e2,_,c2⟩:=(hr.below hb).at_ hjM
     have HYS:=Lib.hid (show val (M.take (j+1))=val (M.take j)+4294967296 ^ j * y by rw [hy]; exact val_take_succ M j hjM)
     rw [← hy] at c2
     clear hy hjM HXc
     subst e1 e2
     have hp:i+j < O.length:=by have:=HO.out; omega
     have ho:=List.getElem?_eq_getElem hp
     have ho32:O[i+j] < 4294967296:=hok.get hp
     have c3:=hR.cell ho
     have c4:=hR.frozen (i+j)
     have HS:=Lib.hid (mul_step (a:=x) (b:=y) (c:=q) ho)
     generalize O[i+j]=o at *
     clear ho hp
     have hok2:=fun v=>hok.set' (i+j) v
     have HR2:=Lib.hid (fun v:Nat=>hR.set (i+j) v)
     have HE2:=Lib.hid (fun (n:Nat) (v:Value)=>(below_drewN hb n).setCell (p:=⟨w.heap.size,i+j,none⟩) (Nat.le_refl _) v)
     have HOK:=Lib.hid hok2
     have HNEW:=Lib.hid (show val (L.take i) * val M+4294967296 ^ i * (x * val (M.take (j+1)))=val (L.take i) * val M+4294967296 ^ i * (x * val (M.take j))+4294967296 ^ (i+j) * (x * y) by
      rw [HYS.out,Nat.mul_add x,Nat.mul_add (4294967296 ^ i),Nat.pow_add,Nat.add_assoc]
      congr 2
      rw [Nat.mul_left_comm x,Nat.mul_assoc])
     obtain ⟨hz0,hzl⟩:=u64_mul x y hx32 hy32
     generalize x * y=z at *
     have hz1:IntKind.u64.wrap ((z:Int)+(o:Int))=(z:Int)+(o:Int):=by rw [IntKind.wrap_u64]; omega
     have hz2:IntKind.u64.wrap ((z:Int)+(o:Int)+(q:Int))=(z:Int)+(o:Int)+(q:Int):=by rw [IntKind.wrap_u64]; omega
     have hmask:=and_mask (z+o+q) (by omega)
     simp only [Int.natCast_add] at hmask
     have hi1:IntKind.i64.wrap ((i:Int)+(j:Int))=(i:Int)+(j:Int):=i64_in _ (by omega) (by omega)
     have hi2:(0:Int) ≤ (i:Int)+(j:Int):=by omega
     have hi3:((i:Int)+(j:Int)).toNat=i+j:=by omega
     have hi4:(i:Int)+(j:Int) < (l:Int)+(m:Int)+1:=by omega
     go_wp2
     go_quiet (fail)
     go_wp2
     go_roundw
     case rel =>
      exact ⟨j+1,(z+o+q) / 4294967296,O.set (i+j) ((z+o+q) % 4294967296),by omega,by go_num,by go_num,by omega,by rw [List.length_set]; exact HO.out,HOK.out _,by rw [HNEW.out,← HV.out]; exact HS.out,HR2.out _,HE2.out _ _⟩
     case measure=>simp [intOf]; omega
    ·obtain rfl:j=m:=by omega
     have HV2:=Lib.hid (show val O+4294967296 ^ (i+j) * q=val (L.take (i+1)) * val M by
      rw [HST.out,HV.out,show M.take j=M from List.take_of_length_le (by rw [HM.out]; exact Nat.le_refl _),Nat.add_mul,Nat.mul_assoc])
     clear HV
     go_wp2
     obtain ⟨wo,rfl⟩:∃ wo:World,wo=wr:=⟨_,rfl⟩
     go_loopw [7,10] (fun cy k wr=>∃ (p q:Nat) (O:List Nat),p ≤ l+j+1 ∧ k = .int .i64 p ∧ cy = .int .u64 q ∧ q < 4294967296 ∧ O.length=l+j+1 ∧ Ok32 O ∧ val O+4294967296 ^ p * q=val (L.take (i+1)) * val M ∧ Rw wr w.heap.size O ∧ Ext w wr) (fun _ k _=>l+j+1 - (intOf k).toNat)
     case atStart =>
      exact ⟨i+j,q,O,by omega,by go_num,rfl,hq,HO.out,hok,HV2.out,hR,hb⟩
     case round =>
      clear HO HV2 hok hR hq
      obtain ⟨p,q,O,hp,rfl,rfl,hq,hO,hok,hval,hR,hb⟩:=hrel
      have HV:=Lib.hid hval
      have HO:=Lib.hid hO
      clear hval hO
      by_cases hc:0 < q
      ·have hpN:p < l+j+1:=carry_room HV.out hs.ok hr.ok (by have:=HL.out; omega) HM.out.symm hc (by have:=HL.out; omega)
       have hpO:p < O.length:=by have:=HO.out; omega
       have ho:=List.getElem?_eq_getElem hpO
       have ho32:O[p] < 4294967296:=hok.get hpO
       have c3:=hR.cell ho
       have c4:=hR.frozen p
       have HS:=Lib.hid (carry_step (c:=q) ho)
       generalize O[p]=o at *
       clear ho hpO
       have HR2:=Lib.hid (fun v:Nat=>hR.set p v)
       have HE2:=Lib.hid (fun v:Value=>hb.setCell (p:=⟨w.heap.size,p,none⟩) (Nat.le_refl _) v)
       have HOK:=Lib.hid (fun v=>hok.set' p v)
       have hmask:=and_mask (o+q) (by omega)
       simp only [Int.natCast_add] at hmask
       have hq1:decide ((q:Int) > 0)=true:=decide_eq_true (by omega)
       have hq2:decide (0 < q)=true:=decide_eq_true hc
       go_wp2
       go_roundw
       case rel =>
        exact ⟨p+1,(o+q) / 4294967296,O.set p ((o+q) % 4294967296),by omega,by go_num,by go_num,by omega,by rw [List.length_set]; exact HO.out,HOK.out _,by rw [← HV.out]; exact HS.out,HR2.out _,HE2.out _⟩
       case measure=>simp [intOf]; omega
      ·obtain rfl:q=0:=by omega
       go_wp2
       go_roundw
       case rel =>
        exact ⟨i+1,O,by omega,by go_num,HO.out,hok,by rw [← HV.out]; simp,hR,hb⟩
       case measure=>simp [intOf]; omega
  ·obtain rfl:i=l:=by omega
   have HF:=Lib.hid (show trimL O=limbs (val L * val M) by
    rw [trimL_eq_limbs hok,HV.out,show L.take i=L from List.take_of_length_le (by rw [HL.out]; exact Nat.le_refl _)])
   have hsl:=hR.sl hok (by rw [HO.out]; omega)
   obtain ⟨n,hn⟩:∃ n,n=O.length:=⟨_,rfl⟩
   have hn2:i+m+1=n:=by rw [hn]; exact HO.out.symm
   have hT:=Lib.hid (refTrim_any _ _ O _ hsl (by rw [HO.out]; omega))
   rw [HO.out] at hT
   clear hn hn2
   go_wp2_with fail
   refine hT.out.mono ?_
   rintro e w' ⟨A'',c'',rfl,hs'',hb'⟩
   go_wp2
   go_ret
   rw [← HF.out]
   exact ⟨A'',c'',rfl,hs'',hb.trans hb'⟩
open Go.RowKit Fp
set_option maxHeartbeats 1000000 in
theorem refOf_any (s:Bool) (A:Option Addr) (c:Nat) (L:List Nat) (e:Int) (w:World) (hs:Sl w A c L) (hlen:L.length ≤ 3000) (he1:-1000000 ≤ e) (he2:e ≤ 1000000) :
  Calls Tryz.prog 23 #[.bool s,.slice A L.length c,.int .i64 e] w (RetD w (canon s (val L) e)):=by
 by_cases h0:val L=0
 ·have hc0:=Lib.hid (show canon s (val L) e=zeroD by unfold canon; rw [if_pos h0]; rfl)
  have ht0:trimL L=[]:=by rw [trimL_eq_limbs hs.ok,h0,limbs_zero]
  have hT:=Lib.hid (fun w (h:Sl w A c L)=>refTrim_any A c L w h (by omega))
  rw [ht0] at hT
  clear ht0 h0
  go_enter Tryz.func23,Tryz.ntmps23
  go_wp2_with fail
  refine (hT.out _ (hs.alloc _)).mono ?_
  rintro e w' ⟨A',c',rfl,hs',hb⟩
  have bx:=(Box3.new w false none 0 0 0).ext hb
  have b0:=bx.c0; have b1:=bx.c1; have b2:=bx.c2; have f0:=bx.fr 0; have f1:=bx.fr 1; have f2:=bx.fr 2
  go_wp2
  rw [hc0.out]
  have hz:limbs zeroD.m=[]:=limbs_zero
  exact dy_ret rfl rfl rfl (bx.set _ _ _ _ _) (by rw [hz]; rfl) (by rw [hz]; exact bx.set_sl (Sl.nil _) _ _ _ _ _) (Box3.set_ext ((Ext.alloc _ _).trans hb) (Nat.le_refl _) _ _ _ _ _)
 ·have hc0:=Lib.hid (show canon s (val L) e=⟨s,val L / 2 ^ ctzN (val L),e+ctzN (val L)⟩ by unfold canon; rw [if_neg h0])
  have hT:=Lib.hid (fun w (h:Sl w A c L)=>refTrim_any A c L w h (by omega))
  have ht1:=tlen_le L
  unfold tlen at ht1
  have hv:=val_trimL L
  have hok:=hs.ok.trimL
  generalize trimL L=M at *
  rw [← hv] at h0 hc0 ⊢
  clear hv
  have hZ:=Lib.hid (fun A c w (h:Sl w A c M)=>refZeros_any A c M w h (by omega) h0)
  have hlim:ctzN (val M) ≤ 100000:=by have:=ctz_lt hok h0; omega
  have hR:=Lib.hid (fun A c w (h:Sl w A c M)=>refRight_any A c M (ctzN (val M)) w h (by omega) hlim)
  have hM0:M.length ≠ 0:=by intro h; rw [List.eq_nil_of_length_eq_zero h] at h0; exact h0 rfl
  generalize val M / 2 ^ ctzN (val M)=q at *
  generalize ctzN (val M)=t at *
  obtain ⟨m,hm⟩:∃ m,m=M.length:=⟨_,rfl⟩
  go_enter Tryz.func23,Tryz.ntmps23
  go_wp2_with fail
  refine (hT.out _ (hs.alloc _)).mono ?_
  rintro e' w1 ⟨A1,c1,rfl,hs1,hb1⟩
  go_wp2_with fail
  refine (hZ.out _ _ _ hs1).mono ?_
  rintro e' w2 ⟨rfl,rfl⟩
  go_wp2_with fail
  refine (hR.out _ _ _ hs1).mono ?_
  rintro e' w2 ⟨A2,c2,rfl,hs2,hb2⟩
  have hb:=hb1.trans hb2
  have bx:=(Box3.new w false none 0 0 0).ext hb
  have b0:=bx.c0; have b1:=bx.c1; have b2:=bx.c2; have f0:=bx.fr 0; have f1:=bx.fr 1; have f2:=bx.fr 2
  go_wp2
  rw [hc0.out]
  exact dy_ret rfl rfl rfl (bx.set _ _ _ _ _) rfl (bx.set_sl hs2 _ _ _ _ _) (Box3.set_ext ((Ext.alloc _ _).trans hb) (Nat.le_refl _) _ _ _ _ _)
set_option maxHeartbeats 1000000 in
theorem dyLow_any (A:Option Addr) (c:Nat) (L:List Nat) (w:World) (hs:Sl w A c L) (h1:L.length ≤ 3000) (h0:val L ≠ 0) (hT:Tb w) :
  Calls Tryz.prog 99 #[.slice A L.length c] w fun e w'=>e = .returned (.int .i64 (ctzN (val L))) ∧ w=w':=by
 have hok:=hs.ok
 have HV:=Lib.hid (fun i hi h hx=>ctzN_val hok i hi h hx)
 have H0:=Lib.hid h0
 clear h0
 go_enter Tryz.func99,Tryz.ntmps99
 go_wp2
 go_loop [3,8] (fun n i=>∃ k:Nat,k ≤ L.length ∧ i = .int .i64 k ∧ n = .int .i64 ((32 * k:Nat):Int) ∧ ∀ j,(hj:j < k) → L[j]? = some 0) (fun _ i=>L.length - (intOf i).toNat)
 case atStart=>exact ⟨0,Nat.zero_le _,rfl,rfl,fun j hj=>by omega⟩
 case round =>
  obtain ⟨k,hk,rfl,rfl,hz⟩:=hrel
  have HZ:=Lib.hid hz; clear hz
  by_cases hlt:k < L.length
  ·obtain ⟨ab,ao,rfl,_,c1⟩:=hs.at_ hlt
   have hx32:L[k] < 4294967296:=hok.get hlt
   have HG:=Lib.hid (List.getElem?_eq_getElem hlt)
   have HC:=Lib.hid (fun hx=>HV.out k hlt (fun j hj=>by have:=HZ.out j hj; rw [List.getElem?_eq_getElem (by omega)] at this; simpa using this) hx)
   clear HV
   generalize L[k]=x at *
   by_cases hx:x=0
   ·have HX:=Lib.hid hx; clear hx
    have hb:((x:Int) != 0)=false:=by have:=HX.out; simp; omega
    go_wp2
    go_round
    case rel=>exact ⟨k+1,by omega,by go_num,by go_num,fun j hj=>by
     by_cases e:j=k
     ·subst e; rw [HG.out,HX.out]
     ·exact HZ.out j (by omega)⟩
    case measure=>simp [intOf]; omega
   ·have hb:((x:Int) != 0)=true:=by simp; omega
    have HX:=Lib.hid (HC.out hx)
    have hc32:ctzN x ≤ 32:=by
     have h1:=pow_ctz_le hx
     rcases Nat.lt_or_ge 32 (ctzN x) with h | h
     ·have:=Nat.pow_lt_pow_right (a:=2) (by decide) h
      have e:(2:Nat) ^ 32=4294967296:=by decide
      omega
     ·exact h
    go_wp2_with (go_at_call 122; refine (tz32_any x hx hx32 _ hT).mono ?_; rintro e w' ⟨rfl,rfl⟩)
    go_ret
    exact ⟨ret_int (by rw [HX.out]; simp),rfl⟩
  ·exfalso
   have:val L=0:=by
    rw [val_eq_zero_iff]
    intro y hy
    obtain ⟨j,hj,rfl⟩:=List.getElem_of_mem hy
    have:=HZ.out j (by omega)
    rw [List.getElem?_eq_getElem hj] at this
    simpa using this
   exact H0.out this
open Go.RowKit Fp
set_option maxHeartbeats 1000000 in
theorem dyCanon_any (s:Bool) (A:Option Addr) (c:Nat) (L:List Nat) (e:Int) (w:World) (hs:Sl w A c L) (_hlen:L.length ≤ 100000) (hl2:(trimL L).length ≤ 256) (he1:-1000000 ≤ e) (he2:e ≤ 1000000) (hTb:Tb w) :
  Calls Tryz.prog 76 #[.bool s,.slice A L.length c,.int .i64 e] w (RetD w (canon s (val L) e)):=by
 have hT:=Lib.hid (fun w (h:Sl w A c L)=>dyTrimmed_any A c L w h)
 have hs2:=hs.trim
 have hv:=val_trimL L
 have hok:=hs.ok.trimL
 have htr:=trim_trimL L
 generalize trimL L=M at *
 rw [← hv]
 clear hv
 by_cases h0:val M=0
 ·have hc0:=Lib.hid (show canon s (val M) e=zeroD by unfold canon; rw [if_pos h0]; rfl)
  have hM0:Hid (M.length=0):=by
   show M.length=0
   rw [htr.eq_limbs hok,h0,limbs_zero]; rfl
  obtain ⟨m,hm⟩:∃ m,m=M.length:=⟨_,rfl⟩
  rw [← hm] at hT hM0
  clear hm h0
  obtain rfl:m=0:=hM0.out
  clear hM0
  go_enter Tryz.func76,Tryz.ntmps76
  go_wp2_with fail
  refine (hT.out _ (hs.alloc _)).mono ?_
  rintro e w' ⟨rfl,rfl⟩
  have bx:=Box3.new w false none 0 0 0
  have b0:=bx.c0; have b1:=bx.c1; have b2:=bx.c2; have f0:=bx.fr 0; have f1:=bx.fr 1; have f2:=bx.fr 2
  go_wp2
  rw [hc0.out]
  have hz:limbs zeroD.m=[]:=limbs_zero
  exact dy_ret rfl rfl rfl bx (by rw [hz]; rfl) (by rw [hz]; exact Sl.nil _) (Ext.alloc _ _)
 ·have hc0:=Lib.hid (show canon s (val M) e=⟨s,val M / 2 ^ ctzN (val M),e+ctzN (val M)⟩ by unfold canon; rw [if_neg h0])
  have hZ:=Lib.hid (fun A c w (h:Sl w A c M) (ht:Tb w)=>dyLow_any A c M w h (by omega) h0 ht)
  have hlim:ctzN (val M) ≤ 65536:=by have:=ctz_lt hok h0; omega
  have hR:=Lib.hid (fun A c w (h:Sl w A c M)=>natShr_any A c M (ctzN (val M)) w h hl2 hlim)
  have hM0:M.length ≠ 0:=by intro h; rw [List.eq_nil_of_length_eq_zero h] at h0; exact h0 rfl
  have hql:(limbs (val M / 2 ^ ctzN (val M))).length ≤ 256:=by
   refine limbs_length_le (Nat.lt_of_le_of_lt (Nat.div_le_self _ _) ?_)
   exact Nat.lt_of_lt_of_le (val_lt hok) (Nat.pow_le_pow_right (by decide) hl2)
  generalize val M / 2 ^ ctzN (val M)=q at *
  generalize ctzN (val M)=t at *
  have hK:=Lib.hid (fun A c w (h:Sl w A c (limbs q))=>clone_any A c (limbs q) w h (by omega))
  have hP:=Lib.hid (fun A c w (h:Sl w A c (limbs q))=>clip_any A c (limbs q) w h)
  obtain ⟨Q,hQ⟩:∃ Q,Q=limbs q:=⟨_,rfl⟩
  have HQ:=Lib.hid hQ
  rw [← hQ] at hR hK hP hql
  clear hQ
  go_enter Tryz.func76,Tryz.ntmps76
  go_wp2_with fail
  refine (hT.out _ (hs.alloc _)).mono ?_
  rintro e' w1 ⟨rfl,rfl⟩
  go_wp2_with fail
  refine (hZ.out _ _ _ (hs2.alloc _) (hTb.alloc _)).mono ?_
  rintro e' w2 ⟨rfl,rfl⟩
  go_wp2_with fail
  refine (hR.out _ _ _ (hs2.alloc _)).mono ?_
  rintro e' w2 ⟨A2,c2,rfl,hs2',hb2⟩
  go_wp2_with fail
  refine (hK.out _ _ _ hs2').mono ?_
  rintro e' w3 ⟨A3,c3,rfl,hs3,hb3⟩
  go_wp2_with fail
  refine (hP.out _ _ _ hs3).mono ?_
  rintro e' w4 ⟨rfl,rfl⟩
  have hb:=hb2.trans hb3
  have bx:=(Box3.new w false none 0 0 0).ext hb
  have b0:=bx.c0; have b1:=bx.c1; have b2:=bx.c2; have f0:=bx.fr 0; have f1:=bx.fr 1; have f2:=bx.fr 2
  go_wp2
  rw [hc0.out]
  rw [HQ.out] at hs3 ⊢
  exact dy_ret rfl rfl rfl (bx.set _ _ _ _ _) rfl (bx.set_sl hs3.clip _ _ _ _ _) (Box3.set_ext ((Ext.alloc _ _).trans hb) (Nat.le_refl _) _ _ _ _ _)
open Go.RowKit Fp
theorem dySize_any (A:Option Addr) (c:Nat) (L:List Nat) (w:World) (hs:Sl w A c L) (hlen:L.length ≤ 100000000) :
  Calls Tryz.prog 83 #[.slice A L.length c] w fun e w'=>e = .returned (.int .i64 (bitsN (val L))) ∧ w=w':=by
 have H:=Lib.hid (natBits_any A c L w hs hlen)
 go_enter Tryz.func83,Tryz.ntmps83
 go_wp2_with fail
 refine H.out.mono ?_
 rintro e w' ⟨rfl,rfl⟩
 go_wp2
 go_ret
 exact ⟨rfl,rfl⟩
def inRB (m:Nat) (e:Int):Bool:=decide (inRange ⟨false,m,e⟩)
set_option maxHeartbeats 1000000 in
theorem inRange_any (s:Bool) (A:Option Addr) (c:Nat) (L:List Nat) (e:Int) (w:World) (hs:Sl w A c L) (hlen:L.length ≤ 100000000) (he1:-9223372036854775808 ≤ e) (he2:e ≤ 9223372036854775807) :
  Calls Tryz.prog 57 #[.agg #[.bool s,.slice A L.length c,.int .i64 e]] w fun r w'=>r = .returned (.bool (inRB (val L) e)) ∧ Ext w w':=by
 have H:=Lib.hid (fun w (h:Sl w A c L)=>dySize_any A c L w h hlen)
 have hn:Hid (inRB (val L) e=decide (bitsN (val L)=0 ∨ bitsN (val L) ≤ 4096 ∧ -16384 ≤ e ∧ e ≤ 16384 ∧ (bitsN (val L):Int)+e ≤ 16384)):=by
  have h:bitsN (val L)=0 ↔ val L=0:=by
   constructor
   ·intro h; apply Classical.byContradiction; intro h0; have:=bitsN_pos h0; omega
   ·intro h; rw [h]; rfl
  exact decide_eq_decide.2 (or_congr h.symm Iff.rfl)
 have hbig:bitsN (val L) ≤ 32 * L.length:=bitsN_le_iff.2 (by rw [← pow32]; exact val_lt hs.ok)
 generalize bitsN (val L)=n at *
 generalize inRB (val L) e=b at *
 have hcase:n=0 ∨ (0 < n ∧ 4096 < n) ∨ (0 < n ∧ n ≤ 4096 ∧ e < -16384) ∨ (0 < n ∧ n ≤ 4096 ∧ -16384 ≤ e ∧ 16384 < e) ∨ (0 < n ∧ n ≤ 4096 ∧ -16384 ≤ e ∧ e ≤ 16384 ∧ 16384 < (n:Int)+e) ∨ (0 < n ∧ n ≤ 4096 ∧ -16384 ≤ e ∧ e ≤ 16384 ∧ (n:Int)+e ≤ 16384):=by omega
 rcases hcase with h | ⟨h,h1⟩ | ⟨h,h1,h2⟩ | ⟨h,h1,h2,h3⟩ | ⟨h,h1,h2,h3,h4⟩ | ⟨h,h1,h2,h3,h4⟩
 ·subst h
  have hb:b=true:=by rw [hn.out]; simp
  clear hn; subst hb
  go_enter Tryz.func57,Tryz.ntmps57
  go_wp2_with fail
  refine (H.out _ (hs.alloc _)).mono ?_
  rintro r w' ⟨rfl,rfl⟩
  go_wp2
  go_ret
  exact ⟨rfl,Ext.alloc _ _⟩
 ·have hb:b=false:=by rw [hn.out]; simp; omega
  have hn0:((n:Int) == 0)=false:=by simp; omega
  have hn1:decide ((n:Int) ≤ 4096)=false:=by simp; omega
  clear hn; subst hb
  go_enter Tryz.func57,Tryz.ntmps57
  go_wp2_with fail
  refine (H.out _ (hs.alloc _)).mono ?_
  rintro r w' ⟨rfl,rfl⟩
  go_wp2
  go_ret
  exact ⟨rfl,Ext.alloc _ _⟩
 ·have hb:b=false:=by rw [hn.out]; simp; omega
  have hn0:((n:Int) == 0)=false:=by simp; omega
  have hn1:decide ((n:Int) ≤ 4096)=true:=by simp; omega
  have hn2:decide (-16384 ≤ e)=false:=by simp; omega
  clear hn; subst hb
  go_enter Tryz.func57,Tryz.ntmps57
  go_wp2_with fail
  refine (H.out _ (hs.alloc _)).mono ?_
  rintro r w' ⟨rfl,rfl⟩
  go_wp2
  go_ret
  exact ⟨rfl,Ext.alloc _ _⟩
 ·have hb:b=false:=by rw [hn.out]; simp; omega
  have hn0:((n:Int) == 0)=false:=by simp; omega
  have hn1:decide ((n:Int) ≤ 4096)=true:=by simp; omega
  have hn2:decide (-16384 ≤ e)=true:=by simp; omega
  have hn3:decide (e ≤ 16384)=false:=by simp; omega
  clear hn; subst hb
  go_enter Tryz.func57,Tryz.ntmps57
  go_wp2_with fail
  refine (H.out _ (hs.alloc _)).mono ?_
  rintro r w' ⟨rfl,rfl⟩
  go_wp2
  go_ret
  exact ⟨rfl,Ext.alloc _ _⟩
 ·have hb:b=false:=by rw [hn.out]; simp; omega
  have hn0:((n:Int) == 0)=false:=by simp; omega
  have hn1:decide ((n:Int) ≤ 4096)=true:=by simp; omega
  have hn2:decide (-16384 ≤ e)=true:=by simp; omega
  have hn3:decide (e ≤ 16384)=true:=by simp; omega
  have hn4:decide ((n:Int)+e ≤ 16384)=false:=by simp; omega
  clear hn; subst hb
  go_enter Tryz.func57,Tryz.ntmps57
  go_wp2_with fail
  refine (H.out _ (hs.alloc _)).mono ?_
  rintro r w' ⟨rfl,rfl⟩
  go_wp2
  go_ret
  exact ⟨rfl,Ext.alloc _ _⟩
 ·have hb:b=true:=by rw [hn.out]; simp; omega
  have hn0:((n:Int) == 0)=false:=by simp; omega
  have hn1:decide ((n:Int) ≤ 4096)=true:=by simp; omega
  have hn2:decide (-16384 ≤ e)=true:=by simp; omega
  have hn3:decide (e ≤ 16384)=true:=by simp; omega
  have hn4:decide ((n:Int)+e ≤ 16384)=true:=by simp; omega
  clear hn; subst hb
  go_enter Tryz.func57,Tryz.ntmps57
  go_wp2_with fail
  refine (H.out _ (hs.alloc _)).mono ?_
  rintro r w' ⟨rfl,rfl⟩
  go_wp2
  go_ret
  exact ⟨rfl,Ext.alloc _ _⟩
def Dok (s:Bool) (L:List Nat) (e:Int):Prop:=Trim L ∧ L.length ≤ 256 ∧ Dy.Valid ⟨s,val L,e⟩
theorem dok_nil (s:Bool) (e:Int):Dok s [] e ↔ s=false ∧ e=0:=by
 unfold Dok
 constructor
 ·rintro ⟨_,_,hc,_⟩
  rcases hc with ⟨_,h1,h2⟩ | h
  ·exact ⟨h1,h2⟩
  ·simp at h
 ·rintro ⟨rfl,rfl⟩
  exact ⟨Trim.nil,by simp,zeroD_valid⟩
theorem dok_cons {s:Bool} {L:List Nat} {e:Int} {x y:Nat} (hx:L[0]? = some x) (hy:L[L.length - 1]? = some y) :
  Dok s L e ↔ L.length ≤ 256 ∧ x % 2=1 ∧ y ≠ 0 ∧ inRB (val L) e=true:=by
 have hpar:val L % 2=x % 2:=by
  cases L with
  | nil=>simp at hx
  | cons z l=>simp at hx; subst hx; simp only [val_cons]; omega
 have htr:Trim L ↔ y ≠ 0:=by
  rw [trim_iff]
  obtain ⟨h1,h2⟩:=List.getElem?_eq_some_iff.1 hy
  constructor
  ·intro h; rw [← h2]; exact h (by omega)
  ·intro h _; rw [h2]; exact h
 unfold Dok inRB
 rw [htr,decide_eq_true_iff]
 constructor
 ·rintro ⟨h1,h2,hc,hr⟩
  have hr':inRange ⟨false,val L,e⟩:=hr
  refine ⟨h2,?_,h1,hr'⟩
  rcases hc with ⟨h,_,_⟩ | h
  ·exfalso
   have:=(htr.2 h1).val_pos (by intro h0; subst h0; simp at hx)
   simp only at h
   omega
  ·rw [← hpar]; exact h
 ·rintro ⟨h1,h2,h3,h4⟩
  exact ⟨h3,h1,.inr (by show val L % 2=1; rw [hpar]; exact h2),h4⟩
theorem b_false {b:Bool} {P:Prop} (h:b=true ↔ P) (hn:¬ P):b=false:=by
 cases b
 ·rfl
 ·exact absurd (h.1 rfl) hn
theorem b_true {b:Bool} {P:Prop} (h:b=true ↔ P) (hn:P):b=true:=h.2 hn
theorem b_eq {b v:Bool} {P:Prop} (h:b=true ↔ P) (hn:P ↔ v=true):b=v:=by
 cases b <;> cases v <;> simp_all
set_option maxHeartbeats 2000000 in
theorem dyValid_any (s:Bool) (A:Option Addr) (c:Nat) (L:List Nat) (e:Int) (w:World) (b:Bool) (hs:Sl w A c L) (he1:-9223372036854775808 ≤ e) (he2:e ≤ 9223372036854775807) (hb:b=true ↔ Dok s L e) :
  Calls Tryz.prog 30 #[.agg #[.bool s,.slice A L.length c,.int .i64 e]] w fun r w'=>r = .returned (.bool b) ∧ Ext w w':=by
 have hcap:=hs.cap
 have hlim:=hs.lim
 by_cases hL:L=[]
 ·subst hL
  rw [dok_nil] at hb
  cases s
  ·by_cases h:e=0
   ·subst h
    have:b=true:=by simpa using hb
    clear hb; subst this
    go_enter Tryz.func30,Tryz.ntmps30
    go_wp2
    go_ret
    exact ⟨rfl,Ext.alloc _ _⟩
   ·have:b=false:=b_false hb (by simp [h])
    have h':(e == 0)=false:=by simp; omega
    clear hb; subst this
    go_enter Tryz.func30,Tryz.ntmps30
    go_wp2
    go_ret
    exact ⟨rfl,Ext.alloc _ _⟩
  ·have:b=false:=b_false hb (by simp)
   clear hb; subst this
   go_enter Tryz.func30,Tryz.ntmps30
   go_wp2
   go_ret
   exact ⟨rfl,Ext.alloc _ _⟩
 ·have hpos:0 < L.length:=List.length_pos_iff.2 hL
  clear hL
  obtain ⟨ab,ao,rfl,_,c1⟩:=hs.at_ hpos
  obtain ⟨ab',ao',e',_,c2⟩:=hs.at_ (i:=L.length - 1) (by omega)
  cases e'
  have hx32:=hs.ok.get hpos
  have hy32:=hs.ok.get (show L.length - 1 < L.length by omega)
  rw [dok_cons (List.getElem?_eq_getElem hpos) (List.getElem?_eq_getElem (show L.length - 1 < L.length by omega))] at hb
  have c1':w.cell? ⟨ab,ao,none⟩=some (.int .u32 (L[0]:Int)):=c1
  clear c1
  generalize L[0]=x at *
  generalize L[L.length - 1]=y at *
  have HB:=Lib.hid hb; clear hb
  have H:=Lib.hid (fun w (h:Sl w (some ⟨ab,ao,none⟩) c L) (hl:L.length ≤ 256)=>inRange_any s _ c L e w h (by omega) he1 he2)
  obtain ⟨n,hn⟩:∃ n,n=L.length:=⟨_,rfl⟩
  rw [← hn] at hpos c2 H HB hcap ⊢
  clear hn
  generalize inRB (val L) e=v at *
  have hn0:((n:Int) == 0)=false:=by simp; omega
  by_cases h1:n ≤ 256
  ·have hn1:decide ((n:Int) ≤ 256)=true:=by simp; omega
   by_cases h2:x % 2=1
   ·have hn2:((x:Int) % 2 == 1)=true:=by simp; omega
    by_cases h3:y=0
    ·have:b=false:=b_false HB.out (by simp [h3])
     have hn3:((y:Int) != 0)=false:=by simp; omega
     clear HB; subst this
     go_enter Tryz.func30,Tryz.ntmps30
     go_wp2
     go_ret
     exact ⟨rfl,Ext.alloc _ _⟩
    ·have:b=v:=b_eq HB.out (by simp [h1,h2,h3])
     have hn3:((y:Int) != 0)=true:=by simp; omega
     clear HB; subst this
     go_enter Tryz.func30,Tryz.ntmps30
     go_wp2_with fail
     refine (H.out _ (hs.alloc _) h1).mono ?_
     rintro r w' ⟨rfl,hb'⟩
     go_wp2
     go_ret
     exact ⟨rfl,(Ext.alloc _ _).trans hb'⟩
   ·have:b=false:=b_false HB.out (fun h=>h2 h.2.1)
    have hn2:((x:Int) % 2 == 1)=false:=by simp; omega
    clear HB; subst this
    go_enter Tryz.func30,Tryz.ntmps30
    go_wp2
    go_ret
    exact ⟨rfl,Ext.alloc _ _⟩
  ·have:b=false:=b_false HB.out (fun h=>h1 h.1)
   have hn1:decide ((n:Int) ≤ 256)=false:=by simp; omega
   clear HB; subst this
   go_enter Tryz.func30,Tryz.ntmps30
   go_wp2
   go_ret
   exact ⟨rfl,Ext.alloc _ _⟩
open Go.RowKit Fp
theorem limbs_len_of_bits {n k:Nat} (h:bitsN n ≤ 32 * k):(limbs n).length ≤ k:=limbs_length_le (by rw [pow32]; exact bitsN_le_iff.1 h)
theorem dok_limbs (d:Dy):Dok d.neg (limbs d.m) d.e ↔ d.Valid:=by
 unfold Dok
 rw [val_limbs]
 constructor
 ·exact fun h=>h.2.2
 ·intro h
  refine ⟨trim_limbs _,?_,h⟩
  rcases h.range with h0 | ⟨h1,_⟩
  ·rw [h0,limbs_zero]; simp
  ·exact limbs_len_of_bits (by omega)
theorem Dok.eq_limbs {s:Bool} {L:List Nat} {e:Int} (h:Dok s L e) (hk:Ok32 L):L=limbs (val L):=h.1.eq_limbs hk
theorem Dok.len {s:Bool} {L:List Nat} {e:Int} (h:Dok s L e):L.length ≤ 256:=h.2.1
theorem Dok.bits {s:Bool} {L:List Nat} {e:Int} (h:Dok s L e):bitsN (val L) ≤ 4096:=by
 rcases h.2.2.range with h0 | ⟨h1,_⟩
 ·simp only at h0; rw [h0]; decide
 ·exact h1
theorem Dok.exp {s:Bool} {L:List Nat} {e:Int} (h:Dok s L e):-16384 ≤ e ∧ e ≤ 16384:=by
 rcases h.2.2.range with h0 | ⟨_,h1,h2,_⟩
 ·rcases h.2.2.canon with ⟨_,_,h3⟩ | h3
  ·simp only at h3; omega
  ·simp only at h0 h3; omega
 ·exact ⟨h1,h2⟩
theorem Dok.top {s:Bool} {L:List Nat} {e:Int} (h:Dok s L e) (h0:val L ≠ 0):(bitsN (val L):Int)+e ≤ 16384:=by
 rcases h.2.2.range with h0' | ⟨_,h1,h2,h3⟩
 ·exact absurd h0' h0
 ·exact h3
set_option maxHeartbeats 1000000 in
theorem dyTop_any (s:Bool) (A:Option Addr) (c:Nat) (L:List Nat) (e:Int) (w:World) (hs:Sl w A c L) (hd:Dok s L e) :
  Calls Tryz.prog 119 #[.agg #[.bool s,.slice A L.length c,.int .i64 e]] w fun r w'=>r = .returned (.int .i64 (Dy.top ⟨s,val L,e⟩)) ∧ Ext w w':=by
 obtain ⟨he1,he2⟩:=hd.exp
 have hl:=hd.len
 have hbt:=hd.bits
 have HV:=Lib.hid (fun w (h:Sl w A c L)=>dyValid_any s A c L e w true h (by omega) (by omega) (by simp [hd]))
 have HS:=Lib.hid (fun w (h:Sl w A c L)=>dySize_any A c L w h (by omega))
 by_cases h0:L=[]
 ·subst h0
  go_enter Tryz.func119,Tryz.ntmps119
  go_wp2_with fail
  refine (HV.out _ (hs.alloc _)).mono ?_
  rintro r w' ⟨rfl,hb⟩
  have bx:=(Box3.new w s A 0 c e).ext hb
  have b0:=bx.c0; have b1:=bx.c1; have b2:=bx.c2
  go_wp2
  go_ret
  exact ⟨rfl,(Ext.alloc _ _).trans hb⟩
 ·have hpos:0 < L.length:=List.length_pos_iff.2 h0
  have hv0:val L ≠ 0:=by have:=hd.1.val_pos h0; omega
  have ht:=Lib.hid (show Dy.top ⟨s,val L,e⟩=bitsN (val L)+e by unfold Dy.top; rw [if_neg hv0])
  clear h0 hv0
  generalize Dy.top ⟨s,val L,e⟩=t at *
  generalize bitsN (val L)=q at *
  have hw:IntKind.i64.wrap ((q:Int)+e)=q+e:=i64_in _ (by omega) (by omega)
  have hn0:(((L.length:Nat):Int) == 0)=false:=beq_eq_false_iff_ne.2 (by omega)
  go_enter Tryz.func119,Tryz.ntmps119
  go_wp2_with fail
  refine (HV.out _ (hs.alloc _)).mono ?_
  rintro r w' ⟨rfl,hb⟩
  have bx:=(Box3.new w s A L.length c e).ext hb
  have b0:=bx.c0; have b1:=bx.c1; have b2:=bx.c2
  have hs':=(hs.alloc _).below hb
  go_wp2_with fail
  go_region_held3 (fun w'=>w'.cell? ⟨w.heap.size,1,none⟩=some (.slice A L.length c) ∧ w'.cell? ⟨w.heap.size,2,none⟩=some (.int .i64 e)) (go_keep)
   (first | (go_at_call 83; refine (HS.out _ ?_).mono ?_; (exact hs'.drew); rintro r w'' ⟨rfl,rfl⟩))
  go_wp2
  go_ret
  exact ⟨ret_int (by rw [ht.out]),Below.drew ((Ext.alloc _ _).trans hb)⟩
set_option maxHeartbeats 1000000 in
theorem dyBits_any (s:Bool) (A:Option Addr) (c:Nat) (L:List Nat) (e:Int) (w:World) (hs:Sl w A c L) (hd:Dok s L e) :
  Calls Tryz.prog 203 #[.agg #[.bool s,.slice A L.length c,.int .i64 e]] w fun r w'=>r = .returned (.int .i64 (bitsN (val L))) ∧ Ext w w':=by
 obtain ⟨he1,he2⟩:=hd.exp
 have hl:=hd.len
 have HV:=Lib.hid (fun w (h:Sl w A c L)=>dyValid_any s A c L e w true h (by omega) (by omega) (by simp [hd]))
 have HS:=Lib.hid (fun w (h:Sl w A c L)=>dySize_any A c L w h (by omega))
 go_enter Tryz.func203,Tryz.ntmps203
 go_wp2_with fail
 refine (HV.out _ (hs.alloc _)).mono ?_
 rintro r w' ⟨rfl,hb⟩
 have bx:=(Box3.new w s A L.length c e).ext hb
 have b0:=bx.c0; have b1:=bx.c1; have b2:=bx.c2
 go_wp2_with fail
 refine (HS.out _ ((hs.alloc _).below hb)).mono ?_
 rintro r w' ⟨rfl,rfl⟩
 go_wp2
 go_ret
 exact ⟨rfl,(Ext.alloc _ _).trans hb⟩
set_option maxHeartbeats 1000000 in
theorem dySign_any (s:Bool) (A:Option Addr) (c:Nat) (L:List Nat) (e:Int) (w:World) (hs:Sl w A c L) (hd:Dok s L e) :
  Calls Tryz.prog 51 #[.agg #[.bool s,.slice A L.length c,.int .i64 e]] w fun r w'=>r = .returned (.int .i64 (Dy.sign ⟨s,val L,e⟩)) ∧ Ext w w':=by
 obtain ⟨he1,he2⟩:=hd.exp
 have hl:=hd.len
 have HV:=Lib.hid (fun w (h:Sl w A c L)=>dyValid_any s A c L e w true h (by omega) (by omega) (by simp [hd]))
 by_cases h0:L=[]
 ·subst h0
  go_enter Tryz.func51,Tryz.ntmps51
  go_wp2_with fail
  refine (HV.out _ (hs.alloc _)).mono ?_
  rintro r w' ⟨rfl,hb⟩
  have bx:=(Box3.new w s A 0 c e).ext hb
  have b0:=bx.c0; have b1:=bx.c1; have b2:=bx.c2
  go_wp2
  go_ret
  exact ⟨rfl,(Ext.alloc _ _).trans hb⟩
 ·have hpos:0 < L.length:=List.length_pos_iff.2 h0
  have hv0:val L ≠ 0:=by have:=hd.1.val_pos h0; omega
  have ht:=Lib.hid (show Dy.sign ⟨s,val L,e⟩=if s then -1 else 1 by unfold Dy.sign; rw [if_neg hv0])
  clear h0 hv0
  generalize Dy.sign ⟨s,val L,e⟩=t at *
  have hn0:(((L.length:Nat):Int) == 0)=false:=beq_eq_false_iff_ne.2 (by omega)
  go_enter Tryz.func51,Tryz.ntmps51
  go_wp2_with fail
  refine (HV.out _ (hs.alloc _)).mono ?_
  rintro r w' ⟨rfl,hb⟩
  have bx:=(Box3.new w s A L.length c e).ext hb
  have b0:=bx.c0; have b1:=bx.c1; have b2:=bx.c2
  cases s
  ·go_wp2
   go_ret
   exact ⟨ret_int (by rw [ht.out]; rfl),(Ext.alloc _ _).trans hb⟩
  ·go_wp2
   go_ret
   exact ⟨ret_int (by rw [ht.out]; rfl),(Ext.alloc _ _).trans hb⟩
open Go.RowKit Fp
theorem exponent_any (e:Int) (w:World) (b:Bool) (hb:b=true ↔ (-32768 ≤ e ∧ e ≤ 32768)) :
  Calls Tryz.prog 74 #[.int .i64 e] w fun r w'=>r = .returned (.bool b) ∧ w=w':=by
 by_cases h1:-32768 ≤ e
 ·have d1:decide (-32768 ≤ e)=true:=by simpa using h1
  by_cases h2:e ≤ 32768
  ·have d2:decide (e ≤ 32768)=true:=by simpa using h2
   have:=b_true hb ⟨h1,h2⟩
   clear hb; subst this
   go_enter Tryz.func74,Tryz.ntmps74
   go_wp2
   go_ret
   exact ⟨rfl,rfl⟩
  ·have d2:decide (e ≤ 32768)=false:=by simpa using h2
   have:=b_false hb (fun h=>h2 h.2)
   clear hb; subst this
   go_enter Tryz.func74,Tryz.ntmps74
   go_wp2
   go_ret
   exact ⟨rfl,rfl⟩
 ·have d1:decide (-32768 ≤ e)=false:=by simpa using h1
  have:=b_false hb (fun h=>h1 h.1)
  clear hb; subst this
  go_enter Tryz.func74,Tryz.ntmps74
  go_wp2
  go_ret
  exact ⟨rfl,rfl⟩
set_option maxHeartbeats 1000000 in
theorem checked_yes (d:Dy) (A:Option Addr) (c:Nat) (w:World) (hs:Sl w A c (limbs d.m)) (hl:(limbs d.m).length ≤ 100000000) (he1:-10000000 ≤ d.e) (he2:d.e ≤ 10000000) (hd:inRange d) :
  Calls Tryz.prog 75 #[.agg #[.bool d.neg,.slice A (limbs d.m).length c,.int .i64 d.e]] w (RetDE w d 0):=by
 obtain ⟨s,m,e⟩:=d
 simp only at *
 have hr:inRB m e=true:=by unfold inRB; exact decide_eq_true hd
 have HV:=Lib.hid (fun w (h:Sl w A c (limbs m))=>inRange_any s A c (limbs m) e w h hl (by omega) (by omega))
 rw [val_limbs,hr] at HV
 clear hr hd
 go_enter Tryz.func75,Tryz.ntmps75
 go_wp2_with fail
 refine (HV.out _ ((hs.alloc _).alloc _)).mono ?_
 rintro r w' ⟨rfl,hb⟩
 have bx:=((Box3.new w s A (limbs m).length c e).alloc (.cells #[.bool false,.slice none 0 0,.int .i64 0] 24)).ext hb
 have by_:=(Box3.new (w.alloc (.cells #[.bool s,.slice A (limbs m).length c,.int .i64 e] 24)) false none 0 0 0).ext hb
 have b0:=bx.c0; have b1:=bx.c1; have b2:=bx.c2
 have bz:(w.alloc (.cells #[.bool s,.slice A (limbs m).length c,.int .i64 e] 24)).heap.size=w.heap.size+1:=by simp
 rw [bz] at by_
 have c0:=by_.c0; have c1:=by_.c1; have c2:=by_.c2; have f0:=by_.fr 0; have f1:=by_.fr 1; have f2:=by_.fr 2
 have hs':=((hs.alloc (.cells #[.bool s,.slice A (limbs m).length c,.int .i64 e] 24)).alloc (.cells #[.bool false,.slice none 0 0,.int .i64 0] 24)).below hb
 have hb':Ext w w':=((Ext.alloc _ _).trans (Ext.alloc _ _)).trans hb
 clear bz
 go_wp2
 exact dy_rete rfl rfl rfl rfl (by_.set _ _ _ _ _) rfl (by_.set_sl hs' _ _ _ _ _) (Box3.set_ext hb' (by omega) _ _ _ _ _)
set_option maxHeartbeats 1000000 in
theorem checked_no (d:Dy) (A:Option Addr) (c:Nat) (w:World) (hs:Sl w A c (limbs d.m)) (hl:(limbs d.m).length ≤ 100000000) (he1:-10000000 ≤ d.e) (he2:d.e ≤ 10000000) (hd:¬ inRange d) :
  Calls Tryz.prog 75 #[.agg #[.bool d.neg,.slice A (limbs d.m).length c,.int .i64 d.e]] w (RetDE w zeroD 9):=by
 obtain ⟨s,m,e⟩:=d
 simp only at *
 have hr:inRB m e=false:=by unfold inRB; exact decide_eq_false hd
 have HV:=Lib.hid (fun w (h:Sl w A c (limbs m))=>inRange_any s A c (limbs m) e w h hl (by omega) (by omega))
 rw [val_limbs,hr] at HV
 clear hr hd
 go_enter Tryz.func75,Tryz.ntmps75
 go_wp2_with fail
 refine (HV.out _ ((hs.alloc _).alloc _)).mono ?_
 rintro r w' ⟨rfl,hb⟩
 have by_:=(Box3.new (w.alloc (.cells #[.bool s,.slice A (limbs m).length c,.int .i64 e] 24)) false none 0 0 0).ext hb
 have bz:(w.alloc (.cells #[.bool s,.slice A (limbs m).length c,.int .i64 e] 24)).heap.size=w.heap.size+1:=by simp
 rw [bz] at by_
 have c0:=by_.c0; have c1:=by_.c1; have c2:=by_.c2; have f0:=by_.fr 0; have f1:=by_.fr 1; have f2:=by_.fr 2
 have hb':Ext w w':=((Ext.alloc _ _).trans (Ext.alloc _ _)).trans hb
 have hz:limbs zeroD.m=[]:=limbs_zero
 have HZ:=Lib.hid hz
 clear bz hz
 go_wp2
 exact dy_rete rfl rfl rfl rfl (by_.set _ _ _ _ _) (by rw [HZ.out]; rfl) (by rw [HZ.out]; exact by_.set_sl (Sl.nil _) _ _ _ _ _) (Box3.set_ext hb' (by omega) _ _ _ _ _)
set_option maxHeartbeats 1000000 in
theorem make_any (s:Bool) (A:Option Addr) (c:Nat) (L:List Nat) (e:Int) (w:World) (hs:Sl w A c L) (hlen:L.length ≤ 256) (he1:-32768 ≤ e) (he2:e ≤ 32768) (hTb:Tb w) (hd:inRange (canon s (val L) e)) :
  Calls Tryz.prog 190 #[.bool s,.slice A L.length c,.int .i64 e] w (RetDE w (canon s (val L) e) 0):=by
 have hl1:decide (256 < (L.length:Int))=false:=decide_eq_false (by omega)
 have HE:=Lib.hid (fun w=>exponent_any e w true (by simp [he1,he2]))
 have HC:=Lib.hid (fun w (h:Sl w A c L) (ht:Tb w)=>dyCanon_any s A c L e w h (by omega) (by have:=tlen_le L; unfold tlen at this; omega) (by omega) (by omega) ht)
 have hb1:(limbs (canon s (val L) e).m).length ≤ 100000000:=by
  unfold canon
  split
  ·simp [limbs_zero]
  ·refine Nat.le_trans (limbs_length_le (k:=256) (Nat.lt_of_le_of_lt (Nat.div_le_self _ _) ?_)) (by decide)
   exact Nat.lt_of_lt_of_le (val_lt hs.ok) (Nat.pow_le_pow_right (by decide) hlen)
 have hb2:-10000000 ≤ (canon s (val L) e).e ∧ (canon s (val L) e).e ≤ 10000000:=by
  unfold canon
  split
  ·simp
  ·rename_i h0
   have:=ctz_lt hs.ok h0
   simp only
   omega
 obtain ⟨hb2,hb3⟩:=hb2
 have HK:=Lib.hid (fun A c w (h:Sl w A c (limbs (canon s (val L) e).m))=>checked_yes _ A c w h hb1 hb2 hb3 hd)
 generalize canon s (val L) e=d at *
 clear hd hb1 hb2 hb3
 go_enter Tryz.func190,Tryz.ntmps190
 go_wp2_with fail
 refine (HE.out _).mono ?_
 rintro r w' ⟨rfl,rfl⟩
 go_wp2_with fail
 refine (HC.out _ (hs.alloc _) (hTb.alloc _)).mono ?_
 rintro r w1 ⟨A1,c1,rfl,hs1,hb1⟩
 go_wp2_with fail
 refine (HK.out _ _ _ hs1).mono ?_
 rintro r w2 ⟨A2,c2,rfl,hs2,hb2⟩
 have hb:=hb1.trans hb2
 have bx:=(Box3.new w false none 0 0 0).ext hb
 have b0:=bx.c0; have b1:=bx.c1; have b2:=bx.c2; have f0:=bx.fr 0; have f1:=bx.fr 1; have f2:=bx.fr 2
 go_wp2
 exact dy_rete rfl rfl rfl rfl (bx.set _ _ _ _ _) rfl (bx.set_sl hs2 _ _ _ _ _) (Box3.set_ext ((Ext.alloc _ _).trans hb) (Nat.le_refl _) _ _ _ _ _)
open Go.RowKit Fp
theorem u32_and1 (x:Nat) (hx:x < 4294967296):bits BinOp.and IntKind.u32 (x:Int) 1=((x % 2:Nat):Int):=by
 rw [show (1:Int)=((1:Nat):Int) from rfl,bits_and_u32_nat _ _ hx (by decide),Nat.and_one_is_mod]
theorem inRB_iff {m:Nat} (h0:m ≠ 0) (e:Int):inRB m e=true ↔ (bitsN m ≤ 4096 ∧ -16384 ≤ e ∧ e ≤ 16384 ∧ (bitsN m:Int)+e ≤ 16384):=by
 have h:inRB m e=true ↔ inRange ⟨false,m,e⟩:=decide_eq_true_iff
 rw [h]
 constructor
 ·rintro (h | h)
  ·exact absurd h h0
  ·exact h
 ·exact fun h=>.inr h
set_option maxHeartbeats 4000000 in
theorem refValid_any (s:Bool) (A:Option Addr) (c:Nat) (L:List Nat) (e:Int) (w:World) (b:Bool) (hs:Sl w A c L) (he1:-9223372036854775808 ≤ e) (he2:e ≤ 9223372036854775807) (hb:b=true ↔ Dok s L e) :
  Calls Tryz.prog 6 #[.agg #[.bool s,.slice A L.length c,.int .i64 e]] w fun r w'=>r = .returned (.bool b) ∧ Ext w w':=by
 have hcap:=hs.cap
 have hlim:=hs.lim
 by_cases hL:L=[]
 ·subst hL
  rw [dok_nil] at hb
  cases s
  ·by_cases h:e=0
   ·subst h
    have:b=true:=by simpa using hb
    clear hb; subst this
    go_enter Tryz.func6,Tryz.ntmps6
    go_wp2
    go_ret
    exact ⟨rfl,Ext.alloc _ _⟩
   ·have:b=false:=b_false hb (by simp [h])
    have h':(e == 0)=false:=by simp; omega
    clear hb; subst this
    go_enter Tryz.func6,Tryz.ntmps6
    go_wp2
    go_ret
    exact ⟨rfl,Ext.alloc _ _⟩
  ·have:b=false:=b_false hb (by simp)
   clear hb; subst this
   go_enter Tryz.func6,Tryz.ntmps6
   go_wp2
   go_ret
   exact ⟨rfl,Ext.alloc _ _⟩
 ·have hpos:0 < L.length:=List.length_pos_iff.2 hL
  obtain ⟨ab,ao,rfl,_,c1⟩:=hs.at_ hpos
  obtain ⟨ab',ao',e',_,c2⟩:=hs.at_ (i:=L.length - 1) (by omega)
  cases e'
  have hx32:=hs.ok.get hpos
  have hy32:=hs.ok.get (show L.length - 1 < L.length by omega)
  rw [dok_cons (List.getElem?_eq_getElem hpos) (List.getElem?_eq_getElem (show L.length - 1 < L.length by omega))] at hb
  have c1':w.cell? ⟨ab,ao,none⟩=some (.int .u32 (L[0]:Int)):=c1
  have hTr:=Lib.hid (show L[L.length - 1] ≠ 0 → Trim L from fun h=>(trim_iff L).2 (fun _=>h))
  have hV0:=Lib.hid (show L[L.length - 1] ≠ 0 → val L ≠ 0 from fun h=>by have:=((trim_iff L).2 (fun _=>h)).val_pos hL; omega)
  clear c1 hL
  generalize L[0]=x at *
  generalize L[L.length - 1]=y at *
  have HB:=Lib.hid hb; clear hb
  have H:=Lib.hid (fun w (h:Sl w (some ⟨ab,ao,none⟩) c L) (hl:L.length ≤ 256) (ht:Trim L)=>refBits_any _ c L w h ht (by omega))
  have hr:Hid (val L ≠ 0 → (inRB (val L) e=true ↔ (bitsN (val L) ≤ 4096 ∧ -16384 ≤ e ∧ e ≤ 16384 ∧ (bitsN (val L):Int)+e ≤ 16384))):=fun h0=>by
   exact inRB_iff h0 e
  obtain ⟨n,hn⟩:∃ n,n=L.length:=⟨_,rfl⟩
  rw [← hn] at hpos c2 H HB hcap ⊢
  have HN:=Lib.hid hn
  clear hn
  have hn0:((n:Int) == 0)=false:=by simp; omega
  by_cases h1:n ≤ 256
  ·have hn1:decide (256 < (n:Int))=false:=decide_eq_false (by omega)
   by_cases h3:y=0
   ·have:b=false:=b_false HB.out (by simp [h3])
    have hn3:((y:Int) == 0)=true:=by simp; omega
    clear HB hr; subst this
    go_enter Tryz.func6,Tryz.ntmps6
    go_wp2
    go_ret
    exact ⟨rfl,Ext.alloc _ _⟩
   ·have hn3:((y:Int) == 0)=false:=beq_eq_false_iff_ne.2 (by omega)
    have hand:=u32_and1 x hx32
    by_cases h2:x % 2=1
    ·have hn2:(bits BinOp.and IntKind.u32 (x:Int) 1 == 0)=false:=by rw [hand,h2]; rfl
     clear hand
     have h0:=hV0.out h3
     have htr:=hTr.out h3
     have hbig:bitsN (val L) ≤ 32 * n:=bitsN_le_iff.2 (by rw [← pow32,HN.out]; exact val_lt hs.ok)
     have HB2:Hid (b=true ↔ (bitsN (val L) ≤ 4096 ∧ -16384 ≤ e ∧ e ≤ 16384 ∧ (bitsN (val L):Int)+e ≤ 16384)):=by
      show b=true ↔ _
      rw [HB.out,hr.out h0]; simp [h1,h2,h3]
     have H2:=Lib.hid (fun w h=>H.out w h h1 htr)
     clear HB hr h0 htr hTr hV0 H
     generalize bitsN (val L)=q at *
     by_cases h4:-16384 ≤ e
     ·have d4:decide (e < -16384)=false:=decide_eq_false (by omega)
      by_cases h5:e ≤ 16384
      ·have d5:decide (16384 < e)=false:=decide_eq_false (by omega)
       by_cases h6:q ≤ 4096
       ·have d6:decide ((q:Int) ≤ 4096)=true:=decide_eq_true (by omega)
        by_cases h7:(q:Int)+e ≤ 16384
        ·have d7:decide ((q:Int)+e ≤ 16384)=true:=decide_eq_true h7
         have:=b_true HB2.out ⟨h6,h4,h5,h7⟩
         clear HB2; subst this
         go_enter Tryz.func6,Tryz.ntmps6
         go_wp2_with fail
         refine (H2.out _ (hs.alloc _)).mono ?_
         rintro r w' ⟨rfl,rfl⟩
         go_wp2
         go_ret
         exact ⟨rfl,Ext.alloc _ _⟩
        ·have d7:decide ((q:Int)+e ≤ 16384)=false:=decide_eq_false h7
         have:=b_false HB2.out (fun h=>h7 h.2.2.2)
         clear HB2; subst this
         go_enter Tryz.func6,Tryz.ntmps6
         go_wp2_with fail
         refine (H2.out _ (hs.alloc _)).mono ?_
         rintro r w' ⟨rfl,rfl⟩
         go_wp2
         go_ret
         exact ⟨rfl,Ext.alloc _ _⟩
       ·have d6:decide ((q:Int) ≤ 4096)=false:=decide_eq_false (by omega)
        have:=b_false HB2.out (fun h=>h6 h.1)
        clear HB2; subst this
        go_enter Tryz.func6,Tryz.ntmps6
        go_wp2_with fail
        refine (H2.out _ (hs.alloc _)).mono ?_
        rintro r w' ⟨rfl,rfl⟩
        go_wp2
        go_ret
        exact ⟨rfl,Ext.alloc _ _⟩
      ·have d5:decide (16384 < e)=true:=decide_eq_true (by omega)
       have:=b_false HB2.out (fun h=>h5 h.2.2.1)
       clear HB2; subst this
       go_enter Tryz.func6,Tryz.ntmps6
       go_wp2
       go_ret
       exact ⟨rfl,Ext.alloc _ _⟩
     ·have d4:decide (e < -16384)=true:=decide_eq_true (by omega)
      have:=b_false HB2.out (fun h=>h4 h.2.1)
      clear HB2; subst this
      go_enter Tryz.func6,Tryz.ntmps6
      go_wp2
      go_ret
      exact ⟨rfl,Ext.alloc _ _⟩
    ·have hn2:(bits BinOp.and IntKind.u32 (x:Int) 1 == 0)=true:=by rw [hand,show x % 2=0 by omega]; rfl
     have:b=false:=b_false HB.out (fun h=>h2 h.2.1)
     clear HB hand hr; subst this
     go_enter Tryz.func6,Tryz.ntmps6
     go_wp2
     go_ret
     exact ⟨rfl,Ext.alloc _ _⟩
  ·have:b=false:=b_false HB.out (fun h=>h1 h.1)
   have hn1:decide (256 < (n:Int))=true:=decide_eq_true (by omega)
   clear HB hr; subst this
   go_enter Tryz.func6,Tryz.ntmps6
   go_wp2
   go_ret
   exact ⟨rfl,Ext.alloc _ _⟩
open Go.RowKit Fp
theorem refExponent_any (e:Int) (w:World) (b:Bool) (hb:b=true ↔ (-32768 ≤ e ∧ e ≤ 32768)) :
  Calls Tryz.prog 64 #[.int .i64 e] w fun r w'=>r = .returned (.bool b) ∧ w=w':=by
 by_cases h1:-32768 ≤ e
 ·have d1:decide (-32768 ≤ e)=true:=by simpa using h1
  by_cases h2:e ≤ 32768
  ·have d2:decide (e ≤ 32768)=true:=by simpa using h2
   have:=b_true hb ⟨h1,h2⟩
   clear hb; subst this
   go_enter Tryz.func64,Tryz.ntmps64
   go_wp2
   go_ret
   exact ⟨rfl,rfl⟩
  ·have d2:decide (e ≤ 32768)=false:=by simpa using h2
   have:=b_false hb (fun h=>h2 h.2)
   clear hb; subst this
   go_enter Tryz.func64,Tryz.ntmps64
   go_wp2
   go_ret
   exact ⟨rfl,rfl⟩
 ·have d1:decide (-32768 ≤ e)=false:=by simpa using h1
  have:=b_false hb (fun h=>h1 h.1)
  clear hb; subst this
  go_enter Tryz.func64,Tryz.ntmps64
  go_wp2
  go_ret
  exact ⟨rfl,rfl⟩
set_option maxHeartbeats 1000000 in
theorem refChecked_yes (d:Dy) (A:Option Addr) (c:Nat) (w:World) (hs:Sl w A c (limbs d.m)) (hl:(limbs d.m).length ≤ 100000000) (he1:-10000000 ≤ d.e) (he2:d.e ≤ 10000000) (hd:d.Valid) :
  Calls Tryz.prog 18 #[.agg #[.bool d.neg,.slice A (limbs d.m).length c,.int .i64 d.e]] w (RetDE w d 0):=by
 obtain ⟨s,m,e⟩:=d
 simp only at *
 have HV:=Lib.hid (fun w (h:Sl w A c (limbs m))=>refValid_any s A c (limbs m) e w true h (by omega) (by omega) (iff_of_true rfl ((dok_limbs ⟨s,m,e⟩).2 hd)))
 clear hd
 go_enter Tryz.func18,Tryz.ntmps18
 go_wp2_with fail
 refine (HV.out _ ((hs.alloc _).alloc _)).mono ?_
 rintro r w' ⟨rfl,hb⟩
 have bx:=((Box3.new w s A (limbs m).length c e).alloc (.cells #[.bool false,.slice none 0 0,.int .i64 0] 24)).ext hb
 have by_:=(Box3.new (w.alloc (.cells #[.bool s,.slice A (limbs m).length c,.int .i64 e] 24)) false none 0 0 0).ext hb
 have b0:=bx.c0; have b1:=bx.c1; have b2:=bx.c2
 have bz:(w.alloc (.cells #[.bool s,.slice A (limbs m).length c,.int .i64 e] 24)).heap.size=w.heap.size+1:=by simp
 rw [bz] at by_
 have c0:=by_.c0; have c1:=by_.c1; have c2:=by_.c2; have f0:=by_.fr 0; have f1:=by_.fr 1; have f2:=by_.fr 2
 have hs':=((hs.alloc (.cells #[.bool s,.slice A (limbs m).length c,.int .i64 e] 24)).alloc (.cells #[.bool false,.slice none 0 0,.int .i64 0] 24)).below hb
 have hb':Ext w w':=((Ext.alloc _ _).trans (Ext.alloc _ _)).trans hb
 clear bz
 go_wp2
 exact dy_rete rfl rfl rfl rfl (by_.set _ _ _ _ _) rfl (by_.set_sl hs' _ _ _ _ _) (Box3.set_ext hb' (by omega) _ _ _ _ _)
set_option maxHeartbeats 1000000 in
theorem refSign_any (s:Bool) (A:Option Addr) (c:Nat) (L:List Nat) (e:Int) (w:World) (hs:Sl w A c L) (ht:Trim L) :
  Calls Tryz.prog 7 #[.agg #[.bool s,.slice A L.length c,.int .i64 e]] w fun r w'=>r = .returned (.int .i64 (Dy.sign ⟨s,val L,e⟩)) ∧ Ext w w':=by
 have hl:=hs.len
 by_cases h0:L=[]
 ·subst h0
  go_enter Tryz.func7,Tryz.ntmps7
  go_wp2
  go_ret
  exact ⟨rfl,Ext.alloc _ _⟩
 ·have hpos:0 < L.length:=List.length_pos_iff.2 h0
  have hv0:val L ≠ 0:=by have:=ht.val_pos h0; omega
  have ht:=Lib.hid (show Dy.sign ⟨s,val L,e⟩=if s then -1 else 1 by unfold Dy.sign; rw [if_neg hv0])
  clear h0 hv0
  generalize Dy.sign ⟨s,val L,e⟩=t at *
  have hn0:(((L.length:Nat):Int) == 0)=false:=beq_eq_false_iff_ne.2 (by omega)
  cases s
  ·go_enter Tryz.func7,Tryz.ntmps7
   go_wp2
   go_ret
   exact ⟨ret_int (by rw [ht.out]; rfl),Ext.alloc _ _⟩
  ·go_enter Tryz.func7,Tryz.ntmps7
   go_wp2
   go_ret
   exact ⟨ret_int (by rw [ht.out]; rfl),Ext.alloc _ _⟩
set_option maxHeartbeats 1000000 in
theorem refTop_any (s:Bool) (A:Option Addr) (c:Nat) (L:List Nat) (e:Int) (w:World) (hs:Sl w A c L) (ht:Trim L) (hl:L.length ≤ 100000) (he1:-1000000 ≤ e) (he2:e ≤ 1000000) :
  Calls Tryz.prog 20 #[.agg #[.bool s,.slice A L.length c,.int .i64 e]] w fun r w'=>r = .returned (.int .i64 (Dy.top ⟨s,val L,e⟩)) ∧ Ext w w':=by
 have HS:=Lib.hid (fun w (h:Sl w A c L)=>refBits_any A c L w h ht (by omega))
 have hbig:bitsN (val L) ≤ 32 * L.length:=bitsN_le_iff.2 (by rw [← pow32]; exact val_lt hs.ok)
 by_cases h0:L=[]
 ·subst h0
  go_enter Tryz.func20,Tryz.ntmps20
  go_wp2
  go_ret
  exact ⟨rfl,Ext.alloc _ _⟩
 ·have hpos:0 < L.length:=List.length_pos_iff.2 h0
  have hv0:val L ≠ 0:=by have:=ht.val_pos h0; omega
  have ht:=Lib.hid (show Dy.top ⟨s,val L,e⟩=bitsN (val L)+e by unfold Dy.top; rw [if_neg hv0])
  clear h0 hv0
  generalize Dy.top ⟨s,val L,e⟩=t at *
  generalize bitsN (val L)=q at *
  have hw:IntKind.i64.wrap ((q:Int)+e)=q+e:=i64_in _ (by omega) (by omega)
  have hn0:(((L.length:Nat):Int) == 0)=false:=beq_eq_false_iff_ne.2 (by omega)
  have hs':=hs.alloc (.cells #[.bool s,.slice A L.length c,.int .i64 e] 24)
  go_enter Tryz.func20,Tryz.ntmps20
  go_wp2_with fail
  go_region_held3 (fun w'=>w'.cell? ⟨w.heap.size,1,none⟩=some (.slice A L.length c) ∧ w'.cell? ⟨w.heap.size,2,none⟩=some (.int .i64 e)) (go_keep)
   (first | (go_at_call 17; refine (HS.out _ ?_).mono ?_; (exact hs'.drew); rintro r w'' ⟨rfl,rfl⟩))
  go_wp2
  go_ret
  exact ⟨ret_int (by rw [ht.out]),Below.drew (Ext.alloc _ _)⟩
set_option maxHeartbeats 1000000 in
theorem refNeg_any (s:Bool) (A:Option Addr) (c:Nat) (L:List Nat) (e:Int) (w:World) (hs:Sl w A c L) (ht:Trim L) :
  Calls Tryz.prog 22 #[.agg #[.bool s,.slice A L.length c,.int .i64 e]] w (RetD w (negD ⟨s,val L,e⟩)):=by
 have hl:=hs.len
 have HL:=Lib.hid (ht.eq_limbs hs.ok)
 by_cases h0:L=[]
 ·subst h0
  have HZ:=Lib.hid limbs_zero
  cases s
  ·go_enter Tryz.func22,Tryz.ntmps22
   go_wp2
   exact dy_ret (d:=negD ⟨false,val [],e⟩) rfl rfl rfl (Box3.newAt (by simp) _ _ _ _ _) (by show _=(limbs 0).length; rw [HZ.out]; rfl) (by show Sl _ _ _ (limbs 0); rw [HZ.out]; exact (hs.alloc _).alloc _) ((Ext.alloc _ _).trans (Ext.alloc _ _))
  ·go_enter Tryz.func22,Tryz.ntmps22
   go_wp2
   exact dy_ret (d:=negD ⟨true,val [],e⟩) rfl rfl rfl (Box3.newAt (by simp) _ _ _ _ _) (by show _=(limbs 0).length; rw [HZ.out]; rfl) (by show Sl _ _ _ (limbs 0); rw [HZ.out]; exact (hs.alloc _).alloc _) ((Ext.alloc _ _).trans (Ext.alloc _ _))
 ·have hpos:0 < L.length:=List.length_pos_iff.2 h0
  have hv0:val L ≠ 0:=by have:=ht.val_pos h0; omega
  have hd:=Lib.hid (show negD ⟨s,val L,e⟩=⟨!s,val L,e⟩ by unfold negD; simp [hv0])
  clear h0 hv0 ht
  rw [hd.out]
  cases s
  ·go_enter Tryz.func22,Tryz.ntmps22
   go_wp2
   exact dy_ret (d:=⟨!false,val L,e⟩) rfl rfl rfl (Box3.newAt (by simp) _ _ _ _ _) (by show _=(limbs (val L)).length; rw [← HL.out]) (by show Sl _ _ _ (limbs (val L)); rw [← HL.out]; exact (hs.alloc _).alloc _) ((Ext.alloc _ _).trans (Ext.alloc _ _))
  ·go_enter Tryz.func22,Tryz.ntmps22
   go_wp2
   exact dy_ret (d:=⟨!true,val L,e⟩) rfl rfl rfl (Box3.newAt (by simp) _ _ _ _ _) (by show _=(limbs (val L)).length; rw [← HL.out]) (by show Sl _ _ _ (limbs (val L)); rw [← HL.out]; exact (hs.alloc _).alloc _) ((Ext.alloc _ _).trans (Ext.alloc _ _))
open Go.RowKit Fp
open Go.RowKit Fp
theorem Sl.two (w:World) (g:Nat) (hg:w.heap.size=g) (y z:Int) (p q:Nat) (e:y=(p:Int)) (e':z=(q:Int)) (hp:p < 4294967296) (hq:q < 4294967296) :
  Sl (w.alloc (.cells #[.int .u32 y,.int .u32 z] 50)) (some ⟨g,0,none⟩) 2 [p,q]:=by
 subst e e' hg
 refine ⟨Nat.le_refl _,by decide,Ok32.cons hp (Ok32.cons hq Ok32.nil),(fun h=>by cases h),fun i y hy=>?_⟩
 obtain ⟨h1,h2⟩:=List.getElem?_eq_some_iff.1 hy
 simp at h1
 refine ⟨_,_,rfl,by simp,?_⟩
 rw [Nat.zero_add,World.cell?_alloc_at _ _ _ _ rfl]
 rcases i with _ | _ | i
 ·simp at h2; subst h2; rfl
 ·simp at h2; subst h2; rfl
 ·omega
theorem refInt_any (n:Nat) (w:World) (hn:n < 4294967296) :
  Calls Tryz.prog 10 #[.int .i64 n] w (RetD w (canon false n 0)):=by
 have hm:=and_mask n (by omega)
 have hm2:(n:Int) % 4294967296=n:=by omega
 rw [hm2] at hm
 have hd:(n:Int) / 4294967296=0:=by omega
 have hlt:¬ (n:Int) < 0:=by omega
 have hdl:decide ((n:Int) < 0)=false:=decide_eq_false hlt
 have hu:IntKind.u64.wrap (n:Int)=n:=by rw [IntKind.wrap_u64]; omega
 have HC:=Lib.hid (fun (A:Option Addr) c w (h:Sl w A c [n,0])=>refOf_any false A c [n,0] 0 w h (by simp) (by decide) (by decide))
 have hv:val [n,0]=n:=by simp
 rw [hv] at HC
 clear hv
 generalize canon false n 0=d at *
 go_enter Tryz.func10,Tryz.ntmps10
 go_wp2_with fail
 refine (HC.out _ _ _ (Sl.two _ _ (by simp) _ _ n 0 rfl rfl hn (by decide))).mono ?_
 rintro r w1 ⟨A1,c1,rfl,hs1,hb1⟩
 have hb0:Ext (w.alloc (.cells #[.bool false,.slice none 0 0,.int .i64 0] 24)) w1:=(Ext.alloc _ _).trans hb1
 have bx:=(Box3.new w false none 0 0 0).ext hb0
 have b0:=bx.c0; have b1:=bx.c1; have b2:=bx.c2; have f0:=bx.fr 0; have f1:=bx.fr 1; have f2:=bx.fr 2
 go_wp2
 exact dy_ret rfl rfl rfl (bx.set _ _ _ _ _) rfl (bx.set_sl hs1 _ _ _ _ _) (Box3.set_ext ((Ext.alloc _ _).trans hb0) (Nat.le_refl _) _ _ _ _ _)
open Go.RowKit Fp
theorem set3_far {w:World} {g g' i:Nat} {v a b c:Value} (h:w.cell? ⟨g,i,none⟩=some v) (hne:g' ≠ g) :
  (((w.setCell ⟨g',0,none⟩ a).setCell ⟨g',1,none⟩ b).setCell ⟨g',2,none⟩ c).cell? ⟨g,i,none⟩=some v:=by
 rw [World.cell?_setCell_other _ _ _ _ (by simp <;> omega),World.cell?_setCell_other _ _ _ _ (by simp <;> omega),World.cell?_setCell_other _ _ _ _ (by simp <;> omega)]
 exact h
end Go.Proofs.YtkbjkchapnjhgaaGreatDoor
namespace Go.Proofs.YtkbjkchapnjhgaaGreatDoor.Fp
theorem canon_zero (s:Bool) (e:Int):canon s 0 e=zeroD:=by unfold canon; rw [if_pos rfl]; rfl
theorem canonZ_of (s:Bool) (x:Nat) (k:Int):canonZ (if s then -(x:Int) else (x:Int)) k=canon s x k:=by
 unfold canonZ
 cases s
 ·have h:decide ((x:Int) < 0)=false:=decide_eq_false (by omega)
  simp only [Bool.false_eq_true,if_false]
  rw [h,Int.natAbs_natCast]
 ·by_cases h:x=0
  ·subst h; simp [canon_zero]
  ·have h:decide (-(x:Int) < 0)=true:=decide_eq_true (by omega)
   simp only [if_true]
   rw [h,Int.natAbs_neg,Int.natAbs_natCast]
theorem sumD_same {s:Bool} {m n:Nat} {e f k:Int} (hm:m ≠ 0) (hn:n ≠ 0) (hk:min e f=k) :
  sumD ⟨s,m,e⟩ ⟨s,n,f⟩=canon s (m * 2 ^ (e - k).toNat+n * 2 ^ (f - k).toNat) k:=by
 unfold sumD
 rw [if_neg hm,if_neg hn]
 simp only [hk]
 rw [← canonZ_of]
 unfold Dy.num Dy.mag
 cases s
 ·simp
 ·simp; congr 1; omega
theorem sumD_ge {s t:Bool} {m n:Nat} {e f k:Int} (hm:m ≠ 0) (hn:n ≠ 0) (hk:min e f=k) (hs:s ≠ t) (hge:n * 2 ^ (f - k).toNat ≤ m * 2 ^ (e - k).toNat) :
  sumD ⟨s,m,e⟩ ⟨t,n,f⟩=canon s (m * 2 ^ (e - k).toNat - n * 2 ^ (f - k).toNat) k:=by
 unfold sumD
 rw [if_neg hm,if_neg hn]
 simp only [hk]
 rw [← canonZ_of]
 unfold Dy.num Dy.mag
 simp only
 generalize m * 2 ^ (e - k).toNat=x at *
 generalize n * 2 ^ (f - k).toNat=y at *
 congr 1
 cases s <;> cases t <;> simp at hs ⊢ <;> omega
theorem sumD_lt {s t:Bool} {m n:Nat} {e f k:Int} (hm:m ≠ 0) (hn:n ≠ 0) (hk:min e f=k) (hs:s ≠ t) (hlt:m * 2 ^ (e - k).toNat < n * 2 ^ (f - k).toNat) :
  sumD ⟨s,m,e⟩ ⟨t,n,f⟩=canon t (n * 2 ^ (f - k).toNat - m * 2 ^ (e - k).toNat) k:=by
 unfold sumD
 rw [if_neg hm,if_neg hn]
 simp only [hk]
 rw [← canonZ_of]
 unfold Dy.num Dy.mag
 simp only
 generalize m * 2 ^ (e - k).toNat=x at *
 generalize n * 2 ^ (f - k).toNat=y at *
 congr 1
 cases s <;> cases t <;> simp at hs ⊢ <;> omega
theorem limbs_mul_pow_len {L:List Nat} (h:Ok32 L) (n:Nat):(limbs (val L * 2 ^ n)).length ≤ L.length+n / 32+1:=by
 refine limbs_length_le ?_
 have h1:=val_lt h
 rw [pow32] at h1 ⊢
 have h2:val L * 2 ^ n < 2 ^ (32 * L.length) * 2 ^ n:=Nat.mul_lt_mul_of_pos_right h1 (Nat.pow_pos (by decide))
 rw [← Nat.pow_add] at h2
 exact Nat.lt_of_lt_of_le h2 (Nat.pow_le_pow_right (by decide) (by omega))
theorem limbs_add_len {a b k:Nat} (ha:(limbs a).length ≤ k) (hb:(limbs b).length ≤ k):(limbs (a+b)).length ≤ k+1:=by
 refine limbs_length_le ?_
 have h1:=lt_of_limbs_length ha
 have h2:=lt_of_limbs_length hb
 rw [Nat.pow_succ]
 omega
theorem limbs_len_mono {a b:Nat} (h:a ≤ b):(limbs a).length ≤ (limbs b).length :=
 limbs_length_le (Nat.lt_of_le_of_lt h (lt_of_limbs_length (Nat.le_refl _)))
end Go.Proofs.YtkbjkchapnjhgaaGreatDoor.Fp
namespace Go.Proofs.YtkbjkchapnjhgaaGreatDoor
open Go.RowKit Fp
def mulD (a b:Dy):Dy:=canon (a.neg != b.neg) (a.m * b.m) (a.e+b.e)
theorem limbs_mul_len {a b k l:Nat} (ha:(limbs a).length ≤ k) (hb:(limbs b).length ≤ l):(limbs (a * b)).length ≤ k+l:=by
 have h1:=lt_of_limbs_length ha
 have h2:=lt_of_limbs_length hb
 refine limbs_length_le ?_
 rw [Nat.pow_add]
 exact Nat.mul_lt_mul'' h1 h2
theorem limbs_val_len {L:List Nat} {k:Nat} (h:Ok32 L) (hl:L.length ≤ k):(limbs (val L)).length ≤ k :=
 limbs_length_le (Nat.lt_of_lt_of_le (val_lt h) (Nat.pow_le_pow_right (by decide) hl))
set_option maxHeartbeats 4000000 in
theorem refProduct_any (s : Bool) (A : Option Addr) (c : Nat) (L : List Nat) (e : Int) (t : Bool) (B : Option Addr) (d : Nat) (M : List Nat) (f : Int) (w : World)
    (hs : Sl w A c L) (hr : Sl w B d M) (h1 : L.length ≤ 1000) (h2 : M.length ≤ 1000) (e1 : -200000 ≤ e) (e2 : e ≤ 200000) (f1 : -200000 ≤ f) (f2 : f ≤ 200000) :
    Calls Tryz.prog 19 #[.agg #[.bool s, .slice A L.length c, .int .i64 e], .agg #[.bool t, .slice B M.length d, .int .i64 f]] w (RetD w (mulD ⟨s, val L, e⟩ ⟨t, val M, f⟩)) := by
  have hE : Ext w (((w.alloc (.cells #[.bool s, .slice A L.length c, .int .i64 e] 24)).alloc (.cells #[.bool t, .slice B M.length d, .int .i64 f] 24)).alloc (.cells #[.bool false, .slice none 0 0, .int .i64 0] 24)) := ((Ext.alloc _ _).trans (Ext.alloc _ _)).trans (Ext.alloc _ _)
  have hw : IntKind.i64.wrap (e + f) = e + f := i64_in _ (by omega) (by omega)
  have bx1 := (((Box3.new w s A L.length c e).alloc (.cells #[.bool t, .slice B M.length d, .int .i64 f] 24)).alloc (.cells #[.bool false, .slice none 0 0, .int .i64 0] 24)).drew
  have bx2 := ((Box3.newAt (W := w.alloc (.cells #[.bool s, .slice A L.length c, .int .i64 e] 24)) (g := w.heap.size + 1) (by simp) t B M.length d f).alloc (.cells #[.bool false, .slice none 0 0, .int .i64 0] 24)).drew
  have bx3 := (Box3.newAt (W := (w.alloc (.cells #[.bool s, .slice A L.length c, .int .i64 e] 24)).alloc (.cells #[.bool t, .slice B M.length d, .int .i64 f] 24)) (g := w.heap.size + 1 + 1) (by simp) false none 0 0 0).drew
  have hsW := (hs.below hE).drew
  have hrW := (hr.below hE).drew
  have HE := Lib.hid (hE.trans (Ext.drew _))
  clear hE
  have hlen := limbs_mul_len (a := val L) (b := val M) (k := 1000) (l := 1000) (limbs_val_len hs.ok h1) (limbs_val_len hr.ok h2)
  have HO := Lib.hid (fun A c w (h : Sl w A c (limbs (val L * val M))) => refOf_any (s != t) A c (limbs (val L * val M)) (e + f) w h (by omega) (by omega) (by omega))
  rw [val_limbs] at HO
  have hD : mulD ⟨s, val L, e⟩ ⟨t, val M, f⟩ = canon (s != t) (val L * val M) (e + f) := rfl
  rw [hD]
  have HT := Lib.hid (fun w (h : Sl w A c L) (k : Sl w B d M) => refTimes_any A B c d L M w h k (by omega) (by omega))
  clear hD hlen
  generalize canon (s != t) (val L * val M) (e + f) = D at *
  generalize val L * val M = x at *
  go_enter Tryz.func19, Tryz.ntmps19
  go_wp2_with fail
  go_region_held3 (fun w' => w'.cell? ⟨w.heap.size, 0, none⟩ = some (.bool s) ∧ w'.cell? ⟨w.heap.size, 1, none⟩ = some (.slice A L.length c) ∧ w'.cell? ⟨w.heap.size, 2, none⟩ = some (.int .i64 e) ∧ w'.cell? ⟨w.heap.size + 1, 0, none⟩ = some (.bool t) ∧ w'.cell? ⟨w.heap.size + 1, 1, none⟩ = some (.slice B M.length d) ∧ w'.cell? ⟨w.heap.size + 1, 2, none⟩ = some (.int .i64 f))
    (first
      | exact ⟨bx1.c0, bx1.c1, bx1.c2, bx2.c0, bx2.c1, bx2.c2⟩
      | exact ⟨(bx1.ext hbp).c0, (bx1.ext hbp).c1, (bx1.ext hbp).c2, (bx2.ext hbp).c0, (bx2.ext hbp).c1, (bx2.ext hbp).c2⟩
      | exact ⟨(bx1.ext (hbp.trans hbo)).c0, (bx1.ext (hbp.trans hbo)).c1, (bx1.ext (hbp.trans hbo)).c2, (bx2.ext (hbp.trans hbo)).c0, (bx2.ext (hbp.trans hbo)).c1, (bx2.ext (hbp.trans hbo)).c2⟩
      | exact ⟨set3_far (bx1.ext (hbp.trans hbo)).c0 (by omega), set3_far (bx1.ext (hbp.trans hbo)).c1 (by omega), set3_far (bx1.ext (hbp.trans hbo)).c2 (by omega), set3_far (bx2.ext (hbp.trans hbo)).c0 (by omega), set3_far (bx2.ext (hbp.trans hbo)).c1 (by omega), set3_far (bx2.ext (hbp.trans hbo)).c2 (by omega)⟩)
    (first
      | (go_at_call 35
         refine (HT.out _ hsW hrW).mono ?_
         rintro r wp ⟨Ap, cp, rfl, hsp, hbp⟩)
      | (go_at_call 23
         refine (HO.out _ _ _ hsp).mono ?_
         rintro r wo ⟨Ao, co, rfl, hso, hbo⟩
         have bz := bx3.ext (hbp.trans hbo)
         have z0 := bz.c0
         have z1 := bz.c1
         have z2 := bz.c2
         have y0 := bz.fr 0
         have y1 := bz.fr 1
         have y2 := bz.fr 2))
  go_wp2
  exact dy_ret rfl rfl rfl (bz.set _ _ _ _ _) rfl (bz.set_sl hso _ _ _ _ _) (Box3.set_ext (HE.out.trans (hbp.trans hbo)) (by omega) _ _ _ _ _)
end Go.Proofs.YtkbjkchapnjhgaaGreatDoor
namespace Go.Proofs.YtkbjkchapnjhgaaGreatDoor.Fp
theorem mag_scale {d:Dy} {j k:Int} (h1:j ≤ k) (h2:k ≤ d.e):d.mag j=d.mag k * 2 ^ (k - j).toNat:=by
 unfold Dy.mag
 rw [Nat.mul_assoc,← Nat.pow_add]
 congr 2; omega
theorem num_scale {d:Dy} {j k:Int} (h1:j ≤ k) (h2:k ≤ d.e):d.num j=d.num k * ((2 ^ (k - j).toNat:Nat):Int):=by
 unfold Dy.num
 rw [mag_scale h1 h2]
 split
 ·rw [Int.natCast_mul,Int.neg_mul]
 ·rw [Int.natCast_mul]
theorem num_zero {d:Dy} (h:d.m=0) (k:Int):d.num k=0:=by
 unfold Dy.num; rw [mag_zero h]; split <;> rfl
def cmpI (x y:Int):Int:=if x < y then -1 else if y < x then 1 else 0
theorem cmpI_mul (x y:Int) {p:Nat} (hp:0 < p):cmpI (x * (p:Int)) (y * (p:Int))=cmpI x y:=by
 unfold cmpI
 have h:(0:Int) < (p:Int):=by omega
 have a:=@Int.mul_lt_mul_right (p:Int) x y h
 have b:=@Int.mul_lt_mul_right (p:Int) y x h
 simp only [a,b]
def Above (d:Dy) (k:Int):Prop:=d.m=0 ∨ k ≤ d.e
theorem Above.le {d:Dy} {j k:Int} (h:Above d k) (hj:j ≤ k):Above d j:=by
 rcases h with h | h
 ·exact .inl h
 ·exact .inr (by omega)
theorem Above.num {d:Dy} {j k:Int} (h:Above d k) (hj:j ≤ k):d.num j=d.num k * ((2 ^ (k - j).toNat:Nat):Int):=by
 rcases h with h | h
 ·rw [num_zero h,num_zero h,Int.zero_mul]
 ·exact num_scale hj h
theorem cmpD_at {a b:Dy} {k:Int} (ha:Above a k) (hb:Above b k):cmpD a b=cmpI (a.num k) (b.num k):=by
 have e0:cmpD a b=cmpI (a.num (min a.e b.e)) (b.num (min a.e b.e)):=rfl
 rw [e0]
 obtain ⟨j,h1,h2⟩:∃ j:Int,j ≤ k ∧ j ≤ min a.e b.e:=⟨min k (min a.e b.e),by omega,by omega⟩
 have a1:=ha.num h1
 have b1:=hb.num h1
 have a2:=(show Above a (min a.e b.e) from .inr (by omega)).num h2
 have b2:=(show Above b (min a.e b.e) from .inr (by omega)).num h2
 rw [← cmpI_mul _ _ (p:=2 ^ (min a.e b.e - j).toNat) (Nat.pow_pos (by decide)),← a2,← b2,a1,b1,cmpI_mul _ _ (Nat.pow_pos (by decide))]
theorem mag_canon {s:Bool} {m:Nat} {e k:Int} (h:k ≤ e):(canon s m e).mag k=m * 2 ^ (e - k).toNat:=by
 unfold canon
 split
 ·rename_i h0; subst h0; simp [Dy.mag]
 ·rename_i h0
  unfold Dy.mag
  simp only
  have e1:=div_ctz_mul h0
  conv=>rhs; rw [← e1]
  rw [Nat.mul_assoc,← Nat.pow_add]
  congr 2; omega
theorem num_canon {s:Bool} {m:Nat} {e k:Int} (h:k ≤ e):(canon s m e).num k=if s then -((m * 2 ^ (e - k).toNat:Nat):Int) else ((m * 2 ^ (e - k).toNat:Nat):Int):=by
 by_cases h0:m=0
 ·subst h0
  rw [num_zero (by simp [canon])]
  simp
 ·have:(canon s m e).neg=s:=by unfold canon; rw [if_neg h0]
  unfold Dy.num
  rw [mag_canon h,this]
theorem num_canonF {m:Nat} {e k:Int} (h:k ≤ e):(canon false m e).num k=((m * 2 ^ (e - k).toNat:Nat):Int):=by
 rw [num_canon h]; simp
theorem num_canonZ {z e k:Int} (h:k ≤ e):(canonZ z e).num k=z * ((2 ^ (e - k).toNat:Nat):Int):=by
 unfold canonZ
 rw [num_canon h]
 by_cases hz:z < 0
 ·simp only [hz,decide_true,if_true]
  rw [Int.natCast_mul,← Int.neg_mul]; congr 1; omega
 ·simp only [hz,decide_false]
  rw [Int.natCast_mul,show ((z.natAbs:Nat):Int)=z by omega]; simp
theorem above_canon {s:Bool} {m:Nat} {e k:Int} (h:k ≤ e):Above (canon s m e) k:=by
 unfold canon
 split
 ·exact .inl rfl
 ·exact .inr (by simp only; omega)
theorem above_canonZ {z e k:Int} (h:k ≤ e):Above (canonZ z e) k:=above_canon h
theorem sumD_num {a b:Dy} {k:Int} (ha:Above a k) (hb:Above b k):(sumD a b).num k=a.num k+b.num k:=by
 unfold sumD
 by_cases h1:a.m=0
 ·rw [if_pos h1,num_zero h1,Int.zero_add]
 ·rw [if_neg h1]
  by_cases h2:b.m=0
  ·rw [if_pos h2,num_zero h2,Int.add_zero]
  ·rw [if_neg h2]
   have ea:k ≤ a.e:=by rcases ha with h | h; exact absurd h h1; exact h
   have eb:k ≤ b.e:=by rcases hb with h | h; exact absurd h h2; exact h
   have hm:k ≤ min a.e b.e:=by omega
   rw [num_canonZ hm,Int.add_mul,← num_scale hm (by omega),← num_scale hm (by omega)]
theorem above_sumD {a b:Dy} {k:Int} (ha:Above a k) (hb:Above b k):Above (sumD a b) k:=by
 unfold sumD
 by_cases h1:a.m=0
 ·rw [if_pos h1]; exact hb
 ·rw [if_neg h1]
  by_cases h2:b.m=0
  ·rw [if_pos h2]; exact ha
  ·rw [if_neg h2]
   have ea:k ≤ a.e:=by rcases ha with h | h; exact absurd h h1; exact h
   have eb:k ≤ b.e:=by rcases hb with h | h; exact absurd h h2; exact h
   exact above_canonZ (by omega)
theorem canon_sumD {a b:Dy} (ha:a.Canon) (hb:b.Canon):(sumD a b).Canon:=by
 unfold sumD
 split
 ·exact hb
 ·split
  ·exact ha
  ·exact canon_canon _ _ _
theorem above_negD {d:Dy} {k:Int} (h:Above d k):Above (negD d) k:=h
theorem num_neg {d:Dy} (k:Int):(negD d).num k = -(d.num k):=by
 by_cases h:d.m=0
 ·rw [num_zero h,num_zero (by exact h)]; rfl
 ·exact num_negD d k h
theorem dy_ext {a b:Dy} (ha:a.Canon) (hb:b.Canon) {k:Int} (h1:Above a k) (h2:Above b k) (h:a.num k=b.num k):a=b:=by
 have zero:∀ {d:Dy},d.Canon → d.m=0 → d=zeroD:=by
  intro d hd h0
  obtain ⟨s,m,e⟩:=d
  rcases hd with ⟨x,y,z⟩ | hd
  ·simp only at x y z; subst x y z; rfl
  ·simp only at hd h0; omega
 have nz:∀ {d:Dy},d.num k=0 → d.m=0:=by
  intro d hd
  by_cases h0:d.m=0
  ·exact h0
  ·exfalso
   have:=mag_pos h0 k
   unfold Dy.num at hd
   split at hd <;> omega
 by_cases za:a.m=0
 ·have zb:b.m=0:=nz (by rw [← h]; exact num_zero za k)
  rw [zero ha za,zero hb zb]
 ·have zb:b.m ≠ 0:=fun zb=>za (nz (by rw [h]; exact num_zero zb k))
  have oa:a.m % 2=1:=by rcases ha with ⟨x,_,_⟩ | x; exact absurd x za; exact x
  have ob:b.m % 2=1:=by rcases hb with ⟨x,_,_⟩ | x; exact absurd x zb; exact x
  have ea:k ≤ a.e:=by rcases h1 with h | h; exact absurd h za; exact h
  have eb:k ≤ b.e:=by rcases h2 with h | h; exact absurd h zb; exact h
  have pa:=mag_pos za k
  have pb:=mag_pos zb k
  have hm:a.neg=b.neg ∧ a.mag k=b.mag k:=by
   unfold Dy.num at h
   cases x:a.neg <;> cases y:b.neg <;> simp [x,y] at h <;> first | exact ⟨rfl,by omega⟩ | (exfalso; omega)
  have hc:=congrArg ctzN hm.2
  unfold Dy.mag at hc
  rw [ctzN_mul oa,ctzN_mul ob] at hc
  have hm2:=hm.2
  unfold Dy.mag at hm2
  rw [hc] at hm2
  have hmm:=Nat.eq_of_mul_eq_mul_right (Nat.pow_pos (by decide)) hm2
  obtain ⟨s,m,e⟩:=a
  obtain ⟨t,n,f⟩:=b
  simp only at *
  have:e=f:=by omega
  rw [hm.1,hmm,this]
end Go.Proofs.YtkbjkchapnjhgaaGreatDoor.Fp
namespace Go.Proofs.YtkbjkchapnjhgaaGreatDoor
open Go.RowKit Fp
theorem shifted_int (A:Option Addr) (c:Nat) (M:List Nat) (n:Int) (w:World) (hs2:Sl w A c M) (hlen:M.length ≤ 256) (h0:0 ≤ n) (hn:n ≤ 65536) (hfit:(limbs (val M * 2 ^ n.toNat)).length ≤ 256) :
  Calls Tryz.prog 121 #[.slice A M.length c,.int .i64 n] w (RetL w (limbs (val M * 2 ^ n.toNat))):=by
 obtain ⟨k,rfl⟩:=Int.eq_ofNat_of_zero_le h0
 exact shifted_any A c M k w hs2 hlen (by omega) hfit
set_option maxHeartbeats 8000000 in
theorem dyCompare_any (s : Bool) (A : Option Addr) (c : Nat) (L : List Nat) (e : Int) (t : Bool) (B : Option Addr) (d : Nat) (M : List Nat) (f : Int) (w : World)
    (hs : Sl w A c L) (hr : Sl w B d M) (da : Dok s L e) (db : Dok t M f) (hL0 : val L ≠ 0) (hM0 : val M ≠ 0) :
    Calls Tryz.prog 96 #[.agg #[.bool s, .slice A L.length c, .int .i64 e], .agg #[.bool t, .slice B M.length d, .int .i64 f]] w fun r w' => r = .returned (.int .i64 (cmpMag ⟨s, val L, e⟩ ⟨t, val M, f⟩)) ∧ Ext w w' := by
  obtain ⟨he1, he2⟩ := da.exp
  obtain ⟨hf1, hf2⟩ := db.exp
  have hl := da.len
  have hm := db.len
  have hE : Ext w ((w.alloc (.cells #[.bool s, .slice A L.length c, .int .i64 e] 24)).alloc (.cells #[.bool t, .slice B M.length d, .int .i64 f] 24)) := (Ext.alloc _ _).trans (Ext.alloc _ _)
  have bx1 := ((Box3.new w s A L.length c e).alloc (.cells #[.bool t, .slice B M.length d, .int .i64 f] 24)).drew
  have bx2 := (Box3.newAt (W := w.alloc (.cells #[.bool s, .slice A L.length c, .int .i64 e] 24)) (g := w.heap.size + 1) (by simp) t B M.length d f).drew
  have hsW := (hs.below hE).drew
  have hrW := (hr.below hE).drew
  have HE := Lib.hid (hE.trans (Ext.drew _))
  clear hE
  have HTa := Lib.hid (fun w (h : Sl w A c L) => dyTop_any s A c L e w h da)
  have HTb := Lib.hid (fun w (h : Sl w B d M) => dyTop_any t B d M f w h db)
  have Hlt := Lib.hid (fun h => cmpMag_top_lt (a := ⟨s, val L, e⟩) (b := ⟨t, val M, f⟩) hL0 hM0 h)
  have Hgt := Lib.hid (fun h => cmpMag_top_gt (a := ⟨s, val L, e⟩) (b := ⟨t, val M, f⟩) hL0 hM0 h)
  have Hta := Lib.hid (show Dy.top ⟨s, val L, e⟩ = bitsN (val L) + e by unfold Dy.top; rw [if_neg hL0])
  have Htb := Lib.hid (show Dy.top ⟨t, val M, f⟩ = bitsN (val M) + f by unfold Dy.top; rw [if_neg hM0])
  obtain ⟨k, hk⟩ : ∃ k, min e f = k := ⟨_, rfl⟩
  have hke : k ≤ e := by omega
  have hkf : k ≤ f := by omega
  have hk1 : -17000 ≤ k := by omega
  have hkk := Lib.hid (show k = e ∨ k = f by omega)
  have hwe : IntKind.i64.wrap (e - k) = e - k := i64_in _ (by omega) (by omega)
  have hwf : IntKind.i64.wrap (f - k) = f - k := i64_in _ (by omega) (by omega)
  have HM := Lib.hid (show cmpMag ⟨s, val L, e⟩ ⟨t, val M, f⟩ = cmpN (val L * 2 ^ (e - k).toNat) (val M * 2 ^ (f - k).toNat) by unfold cmpMag; simp only [hk]; rfl)
  have Hfa := Lib.hid (show bitsN (val L) + e = bitsN (val M) + f → bitsN (val L * 2 ^ (e - k).toNat) ≤ 4096 from fun h => by
    rw [bitsN_mul_pow hL0]; have := da.bits; have := db.bits; have := hkk.out; omega)
  have Hfb := Lib.hid (show bitsN (val L) + e = bitsN (val M) + f → bitsN (val M * 2 ^ (f - k).toNat) ≤ 4096 from fun h => by
    rw [bitsN_mul_pow hM0]; have := da.bits; have := db.bits; have := hkk.out; omega)
  have HXa := Lib.hid (fun w (h : Sl w A c L) hfit => shifted_int A c L (e - k) w h hl (by omega) (by omega) hfit)
  have HXb := Lib.hid (fun w (h : Sl w B d M) hfit => shifted_int B d M (f - k) w h hm (by omega) (by omega) hfit)
  generalize Dy.top ⟨s, val L, e⟩ = ta at *
  generalize Dy.top ⟨t, val M, f⟩ = tb at *
  generalize cmpMag ⟨s, val L, e⟩ ⟨t, val M, f⟩ = R at *
  generalize val L * 2 ^ (e - k).toNat = x at *
  generalize val M * 2 ^ (f - k).toNat = y at *
  have HC := Lib.hid (fun A B c d w (h : Sl w A c (limbs x)) (k : Sl w B d (limbs y)) hx hy => natCmp_any A B c d (limbs x) (limbs y) w h k hx hy)
  rw [val_limbs, val_limbs] at HC
  clear hL0 hM0 da db hl hm
  go_enter Tryz.func96, Tryz.ntmps96
  go_wp2_with fail
  go_region_held3 (fun w' => w'.cell? ⟨w.heap.size, 0, none⟩ = some (.bool s) ∧ w'.cell? ⟨w.heap.size, 1, none⟩ = some (.slice A L.length c) ∧ w'.cell? ⟨w.heap.size, 2, none⟩ = some (.int .i64 e) ∧ w'.cell? ⟨w.heap.size + 1, 0, none⟩ = some (.bool t) ∧ w'.cell? ⟨w.heap.size + 1, 1, none⟩ = some (.slice B M.length d) ∧ w'.cell? ⟨w.heap.size + 1, 2, none⟩ = some (.int .i64 f))
    (first
      | exact ⟨bx1.c0, bx1.c1, bx1.c2, bx2.c0, bx2.c1, bx2.c2⟩
      | exact ⟨(bx1.ext hbx).c0, (bx1.ext hbx).c1, (bx1.ext hbx).c2, (bx2.ext hbx).c0, (bx2.ext hbx).c1, (bx2.ext hbx).c2⟩
      | exact ⟨(bx1.ext hby).c0, (bx1.ext hby).c1, (bx1.ext hby).c2, (bx2.ext hby).c0, (bx2.ext hby).c1, (bx2.ext hby).c2⟩
      | exact ⟨(bx1.ext (hbx.trans hby)).c0, (bx1.ext (hbx.trans hby)).c1, (bx1.ext (hbx.trans hby)).c2, (bx2.ext (hbx.trans hby)).c0, (bx2.ext (hbx.trans hby)).c1, (bx2.ext (hbx.trans hby)).c2⟩
      | exact ⟨(bx1.ext (hby.trans hbx)).c0, (bx1.ext (hby.trans hbx)).c1, (bx1.ext (hby.trans hbx)).c2, (bx2.ext (hby.trans hbx)).c0, (bx2.ext (hby.trans hbx)).c1, (bx2.ext (hby.trans hbx)).c2⟩
      | exact ⟨(bx1.ext ((hbx.trans hby).trans hbz)).c0, (bx1.ext ((hbx.trans hby).trans hbz)).c1, (bx1.ext ((hbx.trans hby).trans hbz)).c2, (bx2.ext ((hbx.trans hby).trans hbz)).c0, (bx2.ext ((hbx.trans hby).trans hbz)).c1, (bx2.ext ((hbx.trans hby).trans hbz)).c2⟩
      | exact ⟨(bx1.ext ((hby.trans hbx).trans hbz)).c0, (bx1.ext ((hby.trans hbx).trans hbz)).c1, (bx1.ext ((hby.trans hbx).trans hbz)).c2, (bx2.ext ((hby.trans hbx).trans hbz)).c0, (bx2.ext ((hby.trans hbx).trans hbz)).c1, (bx2.ext ((hby.trans hbx).trans hbz)).c2⟩)
    (first
      | (go_at_call_of 119 (Value.agg #[.bool s, .slice A L.length c, .int .i64 e])
         refine (HTa.out _ ?_).mono ?_
         (first | exact hsW | exact hsW.below hby)
         rintro r wx ⟨rfl, hbx⟩)
      | (go_at_call_of 119 (Value.agg #[.bool t, .slice B M.length d, .int .i64 f])
         refine (HTb.out _ ?_).mono ?_
         (first | exact hrW | exact hrW.below hbx)
         rintro r wy ⟨rfl, hby⟩))
  first
    | (have hxy := hbx.trans hby)
    | (have hxy := hby.trans hbx)
  have cx1 := (bx1.ext hxy).drew
  have cx2 := (bx2.ext hxy).drew
  have hs2 := (hsW.below hxy).drew
  have hr2 := (hrW.below hxy).drew
  have cx1n := (bx1.ext hxy)
  have cx2n := (bx2.ext hxy)
  have HF := Lib.hid ((HE.out.trans hxy).trans (Ext.drew _))
  have HFr := Lib.hid (HE.out.trans hxy)
  clear hbx hby hxy
  by_cases h1 : ta < tb
  · have hR := Lib.hid (Hlt.out h1)
    go_wp2
    go_ret
    exact ⟨ret_int hR.out.symm, HFr.out⟩
  · by_cases h2 : tb < ta
    · have hR := Lib.hid (Hgt.out h2)
      go_wp2
      go_ret
      exact ⟨ret_int hR.out.symm, HFr.out⟩
    · have hte : (bitsN (val L) : Int) + e = bitsN (val M) + f := by rw [← Hta.out, ← Htb.out]; omega
      have hfa := limbs_len_of_bits (k := 128) (Hfa.out hte)
      have hfb := limbs_len_of_bits (k := 128) (Hfb.out hte)
      have HXa2 := Lib.hid (fun w h => HXa.out w h (by omega))
      have HXb2 := Lib.hid (fun w h => HXb.out w h (by omega))
      have HC2 := Lib.hid (fun A B c d w h k => HC.out A B c d w h k (by omega) (by omega))
      have b0 := cx1n.c0
      have b1 := cx1n.c1
      have b2 := cx1n.c2
      have d0 := cx2n.c0
      have d1 := cx2n.c1
      have d2 := cx2n.c2
      clear hte hfa hfb
      go_wp2_with fail
      go_region_held3 (fun w' => w'.cell? ⟨w.heap.size, 0, none⟩ = some (.bool s) ∧ w'.cell? ⟨w.heap.size, 1, none⟩ = some (.slice A L.length c) ∧ w'.cell? ⟨w.heap.size, 2, none⟩ = some (.int .i64 e) ∧ w'.cell? ⟨w.heap.size + 1, 0, none⟩ = some (.bool t) ∧ w'.cell? ⟨w.heap.size + 1, 1, none⟩ = some (.slice B M.length d) ∧ w'.cell? ⟨w.heap.size + 1, 2, none⟩ = some (.int .i64 f))
        (first
          | exact ⟨cx1.c0, cx1.c1, cx1.c2, cx2.c0, cx2.c1, cx2.c2⟩
          | exact ⟨(cx1.ext hbx).c0, (cx1.ext hbx).c1, (cx1.ext hbx).c2, (cx2.ext hbx).c0, (cx2.ext hbx).c1, (cx2.ext hbx).c2⟩
          | exact ⟨(cx1.ext hby).c0, (cx1.ext hby).c1, (cx1.ext hby).c2, (cx2.ext hby).c0, (cx2.ext hby).c1, (cx2.ext hby).c2⟩
          | exact ⟨(cx1.ext (hbx.trans hby)).c0, (cx1.ext (hbx.trans hby)).c1, (cx1.ext (hbx.trans hby)).c2, (cx2.ext (hbx.trans hby)).c0, (cx2.ext (hbx.trans hby)).c1, (cx2.ext (hbx.trans hby)).c2⟩
          | exact ⟨(cx1.ext (hby.trans hbx)).c0, (cx1.ext (hby.trans hbx)).c1, (cx1.ext (hby.trans hbx)).c2, (cx2.ext (hby.trans hbx)).c0, (cx2.ext (hby.trans hbx)).c1, (cx2.ext (hby.trans hbx)).c2⟩
          | exact ⟨(cx1.ext ((hbx.trans hby).trans hbz)).c0, (cx1.ext ((hbx.trans hby).trans hbz)).c1, (cx1.ext ((hbx.trans hby).trans hbz)).c2, (cx2.ext ((hbx.trans hby).trans hbz)).c0, (cx2.ext ((hbx.trans hby).trans hbz)).c1, (cx2.ext ((hbx.trans hby).trans hbz)).c2⟩
          | exact ⟨(cx1.ext ((hby.trans hbx).trans hbz)).c0, (cx1.ext ((hby.trans hbx).trans hbz)).c1, (cx1.ext ((hby.trans hbx).trans hbz)).c2, (cx2.ext ((hby.trans hbx).trans hbz)).c0, (cx2.ext ((hby.trans hbx).trans hbz)).c1, (cx2.ext ((hby.trans hbx).trans hbz)).c2⟩)
        (first
          | (go_at_call_of 121 (Value.slice A L.length c)
             refine (HXa2.out _ ?_).mono ?_
             (first | exact hs2 | exact hs2.below hby)
             rintro r wx ⟨Ax, cx, rfl, hsx, hbx⟩)
          | (go_at_call_of 121 (Value.slice B M.length d)
             refine (HXb2.out _ ?_).mono ?_
             (first | exact hr2 | exact hr2.below hbx)
             rintro r wy ⟨Ay, cy, rfl, hsy, hby⟩)
          | (go_at_call 120
             refine (HC2.out _ _ _ _ _ ?_ ?_).mono ?_
             (first | exact hsx.below hby | exact hsx)
             (first | exact hsy | exact hsy.below hbx)
             rintro r wz ⟨rfl, hbz⟩))
      all_goals
        go_wp2
        go_ret
        (first | exact ⟨ret_int HM.out.symm, HF.out.trans ((hbx.trans hby).trans hbz)⟩ | exact ⟨ret_int HM.out.symm, HF.out.trans ((hby.trans hbx).trans hbz)⟩)
open Go.RowKit Fp
theorem sign_zero_iff {d:Dy}:d.sign=0 ↔ d.m=0:=by
 rcases sign_cases d with ⟨h1,h2⟩ | ⟨h1,_,h2⟩ | ⟨h1,_,h2⟩ <;> simp [h1,h2]
set_option maxHeartbeats 4000000 in
theorem dyCmp_any (s : Bool) (A : Option Addr) (c : Nat) (L : List Nat) (e : Int) (t : Bool) (B : Option Addr) (d : Nat) (M : List Nat) (f : Int) (w : World)
    (hs : Sl w A c L) (hr : Sl w B d M) (da : Dok s L e) (db : Dok t M f) :
    Calls Tryz.prog 71 #[.agg #[.bool s, .slice A L.length c, .int .i64 e], .agg #[.bool t, .slice B M.length d, .int .i64 f]] w fun r w' => r = .returned (.int .i64 (cmpD ⟨s, val L, e⟩ ⟨t, val M, f⟩)) ∧ Ext w w' := by
  obtain ⟨he1, he2⟩ := da.exp
  obtain ⟨hf1, hf2⟩ := db.exp
  have HVa := Lib.hid (fun w (h : Sl w A c L) => dyValid_any s A c L e w true h (by omega) (by omega) (by simp [da]))
  have HVb := Lib.hid (fun w (h : Sl w B d M) => dyValid_any t B d M f w true h (by omega) (by omega) (by simp [db]))
  have HSa := Lib.hid (fun w (h : Sl w A c L) => dySign_any s A c L e w h da)
  have HSb := Lib.hid (fun w (h : Sl w B d M) => dySign_any t B d M f w h db)
  have HK := Lib.hid (fun h1 h2 w (h : Sl w A c L) (k : Sl w B d M) => dyCompare_any s A c L e t B d M f w h k da db h1 h2)
  have HP := Lib.hid (cmpD_prog ⟨s, val L, e⟩ ⟨t, val M, f⟩)
  have z1 : Hid (Dy.sign ⟨s, val L, e⟩ = 0 ↔ val L = 0) := sign_zero_iff
  have z2 : Hid (Dy.sign ⟨t, val M, f⟩ = 0 ↔ val M = 0) := sign_zero_iff
  have hsa : Dy.sign ⟨s, val L, e⟩ = 0 ∨ Dy.sign ⟨s, val L, e⟩ = -1 ∨ Dy.sign ⟨s, val L, e⟩ = 1 := by
    rcases sign_cases ⟨s, val L, e⟩ with ⟨_, h⟩ | ⟨_, _, h⟩ | ⟨_, _, h⟩ <;> simp [h]
  have hcm : cmpMag ⟨s, val L, e⟩ ⟨t, val M, f⟩ = -1 ∨ cmpMag ⟨s, val L, e⟩ ⟨t, val M, f⟩ = 0 ∨ cmpMag ⟨s, val L, e⟩ ⟨t, val M, f⟩ = 1 := by
    unfold cmpMag cmpN; split; simp; split <;> simp
  generalize Dy.sign ⟨s, val L, e⟩ = sa at *
  generalize Dy.sign ⟨t, val M, f⟩ = sb at *
  generalize cmpMag ⟨s, val L, e⟩ ⟨t, val M, f⟩ = cm at *
  generalize cmpD ⟨s, val L, e⟩ ⟨t, val M, f⟩ = R at *
  have hw1 : IntKind.i64.wrap (sa * cm) = sa * cm := i64_in _ (by rcases hsa with rfl | rfl | rfl <;> omega) (by rcases hsa with rfl | rfl | rfl <;> omega)
  have HH := Lib.hid hsa
  clear hsa hcm da db
  go_enter Tryz.func71, Tryz.ntmps71
  go_wp2_with fail
  refine (HVa.out _ ((hs.alloc _).alloc _)).mono ?_
  rintro r w1 ⟨rfl, hb1⟩
  have bx1 := ((Box3.new w s A L.length c e).alloc (.cells #[.bool t, .slice B M.length d, .int .i64 f] 24)).ext hb1
  have bx2 := (Box3.newAt (W := w.alloc (.cells #[.bool s, .slice A L.length c, .int .i64 e] 24)) (g := w.heap.size + 1) (by simp) t B M.length d f).ext hb1
  have b0 := bx1.c0; have b1 := bx1.c1; have b2 := bx1.c2
  have d0 := bx2.c0; have d1 := bx2.c1; have d2 := bx2.c2
  have hE := (((Ext.alloc w (.cells #[.bool s, .slice A L.length c, .int .i64 e] 24)).trans (Ext.alloc _ (.cells #[.bool t, .slice B M.length d, .int .i64 f] 24))).trans hb1)
  go_wp2_with fail
  refine (HVb.out _ (hr.below hE)).mono ?_
  rintro r w2 ⟨rfl, hb2⟩
  have hE2 := hE.trans hb2
  have bx1 := (bx1.ext hb2).drew
  have bx2 := (bx2.ext hb2).drew
  have hsW := (hs.below hE2).drew
  have hrW := (hr.below hE2).drew
  have HE := Lib.hid (hE2.trans (Ext.drew _))
  clear hE hE2 hb1 hb2 b0 b1 b2 d0 d1 d2
  go_wp2_with fail
  go_region_held3 (fun w' => w'.cell? ⟨w.heap.size, 0, none⟩ = some (.bool s) ∧ w'.cell? ⟨w.heap.size, 1, none⟩ = some (.slice A L.length c) ∧ w'.cell? ⟨w.heap.size, 2, none⟩ = some (.int .i64 e) ∧ w'.cell? ⟨w.heap.size + 1, 0, none⟩ = some (.bool t) ∧ w'.cell? ⟨w.heap.size + 1, 1, none⟩ = some (.slice B M.length d) ∧ w'.cell? ⟨w.heap.size + 1, 2, none⟩ = some (.int .i64 f))
    (first
      | exact ⟨bx1.c0, bx1.c1, bx1.c2, bx2.c0, bx2.c1, bx2.c2⟩
      | exact ⟨(bx1.ext hbx).c0, (bx1.ext hbx).c1, (bx1.ext hbx).c2, (bx2.ext hbx).c0, (bx2.ext hbx).c1, (bx2.ext hbx).c2⟩
      | exact ⟨(bx1.ext hby).c0, (bx1.ext hby).c1, (bx1.ext hby).c2, (bx2.ext hby).c0, (bx2.ext hby).c1, (bx2.ext hby).c2⟩
      | exact ⟨(bx1.ext (hbx.trans hby)).c0, (bx1.ext (hbx.trans hby)).c1, (bx1.ext (hbx.trans hby)).c2, (bx2.ext (hbx.trans hby)).c0, (bx2.ext (hbx.trans hby)).c1, (bx2.ext (hbx.trans hby)).c2⟩
      | exact ⟨(bx1.ext (hby.trans hbx)).c0, (bx1.ext (hby.trans hbx)).c1, (bx1.ext (hby.trans hbx)).c2, (bx2.ext (hby.trans hbx)).c0, (bx2.ext (hby.trans hbx)).c1, (bx2.ext (hby.trans hbx)).c2⟩)
    (first
      | (go_at_call_of 51 (Value.agg #[.bool s, .slice A L.length c, .int .i64 e])
         refine (HSa.out _ ?_).mono ?_
         (first | exact hsW | exact hsW.below hby)
         rintro r wx ⟨rfl, hbx⟩)
      | (go_at_call_of 51 (Value.agg #[.bool t, .slice B M.length d, .int .i64 f])
         refine (HSb.out _ ?_).mono ?_
         (first | exact hrW | exact hrW.below hbx)
         rintro r wy ⟨rfl, hby⟩))
  first
    | (have hxy := hbx.trans hby)
    | (have hxy := hby.trans hbx)
  have cx1 := (bx1.ext hxy)
  have cx2 := (bx2.ext hxy)
  have hs2 := (hsW.below hxy)
  have hr2 := (hrW.below hxy)
  have HFr := Lib.hid (HE.out.trans hxy)
  clear hbx hby hxy
  by_cases h1 : sa < sb
  · have hR := Lib.hid (show R = -1 by rw [HP.out, if_pos h1])
    go_wp2
    go_ret
    exact ⟨ret_int hR.out.symm, HFr.out⟩
  · by_cases h2 : sb < sa
    · have hR := Lib.hid (show R = 1 by rw [HP.out, if_neg h1, if_pos h2])
      go_wp2
      go_ret
      exact ⟨ret_int hR.out.symm, HFr.out⟩
    · by_cases h3 : sa = 0
      · have hR := Lib.hid (show R = 0 by rw [HP.out, if_neg h1, if_neg h2, if_pos h3])
        have hz : (sa == 0) = true := by simp [h3]
        go_wp2
        go_ret
        exact ⟨ret_int hR.out.symm, HFr.out⟩
      · have hR := Lib.hid (show R = sa * cm by rw [HP.out, if_neg h1, if_neg h2, if_neg h3])
        have hz : (sa == 0) = false := beq_eq_false_iff_ne.2 h3
        have HK2 := Lib.hid (HK.out (fun h => h3 (z1.out.2 h)) (fun h => h3 (by have := z2.out.2 h; omega)))
        have b0 := cx1.c0; have b1 := cx1.c1; have b2 := cx1.c2
        have d0 := cx2.c0; have d1 := cx2.c1; have d2 := cx2.c2
        go_wp2_with fail
        refine (HK2.out _ hs2 hr2).mono ?_
        rintro r w3 ⟨rfl, hb3⟩
        go_wp2
        go_ret
        exact ⟨ret_int hR.out.symm, HFr.out.trans hb3⟩
open Go.RowKit Fp
theorem canon_len {L:List Nat} (h:Ok32 L) (hl:L.length ≤ 256) (s:Bool) (e:Int):(limbs (canon s (val L) e).m).length ≤ 100000000:=by
 unfold canon
 split
 ·simp [limbs_zero]
 ·refine Nat.le_trans (limbs_length_le (k:=256) (Nat.lt_of_le_of_lt (Nat.div_le_self _ _) ?_)) (by decide)
  exact Nat.lt_of_lt_of_le (val_lt h) (Nat.pow_le_pow_right (by decide) hl)
theorem canon_exp {L:List Nat} (h:Ok32 L) (hl:L.length ≤ 256) (s:Bool) (e:Int) (h1:-9000000 ≤ e) (h2:e ≤ 9000000):-10000000 ≤ (canon s (val L) e).e ∧ (canon s (val L) e).e ≤ 10000000:=by
 unfold canon
 split
 ·simp
 ·rename_i h0
  have:=ctz_lt h h0
  simp only
  omega
set_option maxHeartbeats 4000000 in
theorem refScale_yes (s:Bool) (A:Option Addr) (c:Nat) (L:List Nat) (e k:Int) (w:World) (hs:Sl w A c L) (hd:Dok s L e) (hk1:-32768 ≤ k) (hk2:k ≤ 32768) (hr:inRange (canon s (val L) (e+k))) :
  Calls Tryz.prog 34 #[.agg #[.bool s,.slice A L.length c,.int .i64 e],.int .i64 k] w (RetDE w (canon s (val L) (e+k)) 0):=by
 obtain ⟨he1,he2⟩:=hd.exp
 have hlen:=hd.len
 have HV:=Lib.hid (fun w (h:Sl w A c L)=>refValid_any s A c L e w true h (by omega) (by omega) (by simp [hd]))
 have HX:=Lib.hid (fun w=>refExponent_any k w true (by simp [hk1,hk2]))
 have hw:IntKind.i64.wrap (e+k)=e+k:=i64_in _ (by omega) (by omega)
 have HC:=Lib.hid (fun w (h:Sl w A c L)=>refOf_any s A c L (e+k) w h (by omega) (by omega) (by omega))
 have hb1:=canon_len hs.ok hlen s (e+k)
 obtain ⟨hb2,hb3⟩:=canon_exp hs.ok hlen s (e+k) (by omega) (by omega)
 have hv:(canon s (val L) (e+k)).Valid:=⟨canon_canon _ _ _,hr⟩
 have HK:=Lib.hid (fun A c w (h:Sl w A c (limbs (canon s (val L) (e+k)).m))=>refChecked_yes _ A c w h hb1 hb2 hb3 hv)
 generalize canon s (val L) (e+k)=D at *
 clear hd hr hv hb1 hb2 hb3
 go_enter Tryz.func34,Tryz.ntmps34
 go_wp2_with fail
 refine (HV.out _ ((hs.alloc _).alloc _)).mono ?_
 rintro r w1 ⟨rfl,hb1⟩
 have bx1:=((Box3.new w s A L.length c e).alloc (.cells #[.bool false,.slice none 0 0,.int .i64 0] 24)).ext hb1
 have bx2:=(Box3.newAt (W:=w.alloc (.cells #[.bool s,.slice A L.length c,.int .i64 e] 24)) (g:=w.heap.size+1) (by simp) false none 0 0 0).ext hb1
 have b0:=bx1.c0; have b1:=bx1.c1; have b2:=bx1.c2
 have hE:=(((Ext.alloc w (.cells #[.bool s,.slice A L.length c,.int .i64 e] 24)).trans (Ext.alloc _ (.cells #[.bool false,.slice none 0 0,.int .i64 0] 24))).trans hb1)
 have hsW:=hs.below hE
 have HE:=Lib.hid hE
 clear hE hb1
 go_wp2_with fail
 refine (HX.out _).mono ?_
 rintro r w2 ⟨rfl,rfl⟩
 go_wp2_with fail
 refine (HC.out _ hsW).mono ?_
 rintro r w2 ⟨A1,c1,rfl,hs1,hb2⟩
 go_wp2_with fail
 refine (HK.out _ _ _ hs1).mono ?_
 rintro r w3 ⟨A2,c2,rfl,hs2,hb3⟩
 have bz:=bx2.ext (hb2.trans hb3)
 have z0:=bz.c0; have z1:=bz.c1; have z2:=bz.c2; have f0:=bz.fr 0; have f1:=bz.fr 1; have f2:=bz.fr 2
 go_wp2
 exact dy_rete rfl rfl rfl rfl (bz.set _ _ _ _ _) rfl (bz.set_sl hs2 _ _ _ _ _) (Box3.set_ext (HE.out.trans (hb2.trans hb3)) (by omega) _ _ _ _ _)
open Go.RowKit Fp
abbrev DV (d:Dy) (A:Option Addr) (c:Nat):Value:=.agg #[.bool d.neg,.slice A (limbs d.m).length c,.int .i64 d.e]
theorem limbs_len_bits {n k:Nat} (h:bitsN n ≤ 32 * k):(limbs n).length ≤ k:=by
 refine limbs_length_le (Nat.lt_of_lt_of_le (lt_two_pow_bitsN _) ?_)
 rw [pow32]
 exact Nat.pow_le_pow_right (by decide) h
theorem Fp.Dy.Valid.dok {d:Dy} (h:d.Valid):Dok d.neg (limbs d.m) d.e:=by
 refine ⟨trim_limbs _,limbs_len_bits ?_,by rw [val_limbs]; exact h⟩
 rcases h.range with h0 | ⟨h1,_⟩
 ·rw [h0]; exact Nat.zero_le _
 ·omega
theorem Fp.Dy.Valid.len {d:Dy} (h:d.Valid):(limbs d.m).length ≤ 256:=h.dok.2.1
theorem Fp.Dy.Valid.exp {d:Dy} (h:d.Valid):-16384 ≤ d.e ∧ d.e ≤ 16384:=h.dok.exp
theorem Fp.Dy.Valid.bits {d:Dy} (h:d.Valid):bitsN d.m ≤ 4096:=by have:=h.dok.bits; rwa [val_limbs] at this
theorem Fp.Dy.Valid.top_le {d:Dy} (h:d.Valid) (h0:d.m ≠ 0):(bitsN d.m:Int)+d.e ≤ 16384:=by
 rcases h.range with h | ⟨_,_,_,h⟩
 ·exact absurd h h0
 ·exact h
theorem Box3.all {w:World} {g n c:Nat} {s:Bool} {A:Option Addr} {e:Int} (h:Box3 w g s A n c e):w.cell? ⟨g,0,none⟩=some (.bool s) ∧ w.cell? ⟨g,1,none⟩=some (.slice A n c) ∧ w.cell? ⟨g,2,none⟩=some (.int .i64 e):=⟨h.c0,h.c1,h.c2⟩
theorem Box3.far {w:World} {g n c:Nat} {s:Bool} {A:Option Addr} {e:Int} (h:Box3 w g s A n c e) {g':Nat} (hne:g' ≠ g) (i:Nat) (v:Value):Box3 (w.setCell ⟨g',i,none⟩ v) g s A n c e:=by
 unfold Box3 at h ⊢
 simp only [World.setCell,Array.getElem?_modify]
 rw [if_neg hne]; exact h
theorem Box3.far3 {w:World} {g n c:Nat} {s:Bool} {A:Option Addr} {e:Int} (h:Box3 w g s A n c e) {g':Nat} (hne:g' ≠ g) (v0 v1 v2:Value) :
  Box3 (((w.setCell ⟨g',0,none⟩ v0).setCell ⟨g',1,none⟩ v1).setCell ⟨g',2,none⟩ v2) g s A n c e:=((h.far hne 0 v0).far hne 1 v1).far hne 2 v2
def VarD (d:Dy) (w:World) (v:Value) (w':World):Prop:=∃ g A c,v = .pointer (some ⟨g,0,none⟩) ∧ Box3 w' g d.neg A (limbs d.m).length c d.e ∧ Sl w' A c (limbs d.m) ∧ Ext w w'
theorem VarD.new {d:Dy} {w w':World} {A:Option Addr} {c:Nat} (hs:Sl w' A c (limbs d.m)) (hb:Ext w w') :
  VarD d w (.pointer (some ⟨w'.heap.size,0,none⟩)) (w'.alloc (.cells #[.bool d.neg,.slice A (limbs d.m).length c,.int .i64 d.e] 24)) :=
 ⟨_,_,_,rfl,Box3.new _ _ _ _ _ _,hs.alloc _,hb.trans (Ext.alloc _ _)⟩
theorem VarD.set {d:Dy} {w w':World} {g:Nat} {A:Option Addr} {c:Nat} (hz:Box3 w' g false none 0 0 0) (hs:Sl w' A c (limbs d.m)) (hb:Ext w w') (hg:w.heap.size ≤ g) :
  VarD d w (.pointer (some ⟨g,0,none⟩)) (((w'.setCell ⟨g,0,none⟩ (.bool d.neg)).setCell ⟨g,1,none⟩ (.slice A (limbs d.m).length c)).setCell ⟨g,2,none⟩ (.int .i64 d.e)) :=
 ⟨_,_,_,rfl,hz.set _ _ _ _ _,hz.set_sl hs _ _ _ _ _,Box3.set_ext hb hg _ _ _ _ _⟩
structure Near (d:Dy):Prop where
 len:(limbs d.m).length ≤ 256
 lo:-17000 ≤ d.e
 hi:d.e ≤ 17000
theorem Fp.Dy.Valid.near {d:Dy} (h:d.Valid):Near d:=⟨h.len,by have:=h.exp; omega,by have:=h.exp; omega⟩
theorem refProduct_dy (a b:Dy) (A B:Option Addr) (c d:Nat) (w:World) (h:Sl w A c (limbs a.m)) (k:Sl w B d (limbs b.m)) (ha:Near a) (hb:Near b) :
  Calls Tryz.prog 19 #[DV a A c,DV b B d] w (RetD w (mulD a b)):=by
 have:=refProduct_any a.neg A c (limbs a.m) a.e b.neg B d (limbs b.m) b.e w h k (by have:=ha.len; omega) (by have:=hb.len; omega) (by have:=ha.lo; omega) (by have:=ha.hi; omega) (by have:=hb.lo; omega) (by have:=hb.hi; omega)
 rw [val_limbs,val_limbs] at this
 exact this
theorem dyCmp_dy (a b:Dy) (A B:Option Addr) (c d:Nat) (w:World) (h:Sl w A c (limbs a.m)) (k:Sl w B d (limbs b.m)) (ha:a.Valid) (hb:b.Valid) :
  Calls Tryz.prog 71 #[DV a A c,DV b B d] w fun e w'=>e = .returned (.int .i64 (cmpD a b)) ∧ Ext w w':=by
 have:=dyCmp_any a.neg A c (limbs a.m) a.e b.neg B d (limbs b.m) b.e w h k ha.dok hb.dok
 rw [val_limbs,val_limbs] at this
 exact this
theorem dyBits_dy (a:Dy) (A:Option Addr) (c:Nat) (w:World) (h:Sl w A c (limbs a.m)) (ha:a.Valid) :
  Calls Tryz.prog 203 #[DV a A c] w fun e w'=>e = .returned (.int .i64 (bitsN a.m)) ∧ Ext w w':=by
 have:=dyBits_any a.neg A c (limbs a.m) a.e w h ha.dok
 rw [val_limbs] at this
 exact this
theorem dySign_dy (a:Dy) (A:Option Addr) (c:Nat) (w:World) (h:Sl w A c (limbs a.m)) (ha:a.Valid) :
  Calls Tryz.prog 51 #[DV a A c] w fun e w'=>e = .returned (.int .i64 a.sign) ∧ Ext w w':=by
 have:=dySign_any a.neg A c (limbs a.m) a.e w h ha.dok
 rw [val_limbs] at this
 exact this
theorem dyValid_dy (a:Dy) (A:Option Addr) (c:Nat) (w:World) (h:Sl w A c (limbs a.m)) (ha:a.Valid) :
  Calls Tryz.prog 30 #[DV a A c] w fun e w'=>e = .returned (.bool true) ∧ Ext w w' :=
 dyValid_any a.neg A c (limbs a.m) a.e w true h (by have:=ha.exp; omega) (by have:=ha.exp; omega) (by simp [ha.dok])
theorem Dok.dy {s:Bool} {L:List Nat} {e:Int} (h:Dok s L e) {w:World} {A:Option Addr} {c:Nat} (hs:Sl w A c L):∃ d:Dy,d.Valid ∧ s=d.neg ∧ L=limbs d.m ∧ e=d.e ∧ val L=d.m :=
 ⟨⟨s,val L,e⟩,h.2.2,rfl,h.eq_limbs hs.ok,rfl,rfl⟩
open Go.RowKit Fp Pu
theorem Tb_pers:∀ w w',Tb w → Below w.heap.size w w' → Tb w':=fun _ _ h hb=>h.below hb
theorem mixed:Tryz.prog.follows .mixedOrders=true:=by kernel_rfl
abbrev PCt (f:FuncId) (args:List E) (res:E):Prop:=PC Tryz.prog Tb f args res
def slP (L:List Nat):E:=.sl false L.length 1 fun i _=>.v (.int .u32 ((L.getD i 0:Nat):Int))
def dyP (d:Dy):E:=.agg [.v (.bool d.neg),slP (limbs d.m),.v (.int .i64 d.e)]
abbrev iP (z:Int):E:=.v (.int .i64 z)
abbrev bP (b:Bool):E:=.v (.bool b)
theorem slP_inv {bs br:Nat → Prop} {w:World} {L:List Nat} {v:Value} (hk:Ok32 L) (h:Rep bs br w (slP L) v):∃ A c,v = .slice A L.length c ∧ Sl w A c L:=by
 cases h with
 | sl _ _ _ _ A c f hc hm h0 hl hr cell kk =>
  refine ⟨A,c,rfl,hc,hm,hk,h0,fun i x hx=>?_⟩
  obtain ⟨hi,hx'⟩:=List.getElem?_eq_some_iff.1 hx
  obtain ⟨b,o,e1,_,hlt,hcell⟩:=cell i 0 hi (by decide)
  have hv:=Rep.v_inv (kk i 0 hi (by decide))
  refine ⟨b,o,e1,hlt,?_⟩
  rw [Nat.mul_one,Nat.add_zero,hv] at hcell
  rw [hcell]
  simp [List.getD_eq_getElem?_getD,hx]
theorem slP_rep {B br:Nat → Prop} {w w':World} {A:Option Addr} {c:Nat} {L:List Nat} (hB:∀ b,B b → b < w.heap.size ∧ NoLim w b) (hb:Ext w w') (h:Sl w' A c L):Rep B br w' (slP L) (.slice A L.length c):=by
 refine .sl false L.length 1 _ A c (fun i _=>.int .u32 ((L.getD i 0:Nat):Int)) h.cap h.lim h.none_ (fun i j _ _=>⟨rfl,fun h=>by cases h⟩) (fun i j _ _=>rfl) (fun i j hi hj=>?_) (fun i j _ _=>.v _)
 ·obtain rfl:j=0:=by omega
  obtain ⟨b,o,e1,hlt,hcell⟩:=h.at_ hi
  have e2:L.getD i 0=L[i]:=by simp [List.getD_eq_getElem?_getD,hi]
  refine ⟨b,o,e1,fun hbad=>?_,hlt,by rw [Nat.mul_one,Nat.add_zero,hcell,e2]⟩
  obtain ⟨h1,h2⟩:=hB b hbad
  exact (h2.of_block (hb.block b h1)) _ _ hcell
theorem dyP_inv {bs br:Nat → Prop} {w:World} {d:Dy} {v:Value} (h:Rep bs br w (dyP d) v):∃ A c,v=DV d A c ∧ Sl w A c (limbs d.m):=by
 obtain ⟨vs,rfl,q⟩:=Rep.agg_inv (show Rep bs br w (.agg _) v from h)
 obtain ⟨v1,vs,rfl,h1,q⟩:=q.uncons
 obtain ⟨v2,vs,rfl,h2,q⟩:=q.uncons
 obtain ⟨v3,vs,rfl,h3,q⟩:=q.uncons
 obtain rfl:=q.nil_inv
 obtain rfl:=Rep.v_inv h1
 obtain rfl:=Rep.v_inv h3
 obtain ⟨A,c,rfl,hs⟩:=slP_inv (ok_limbs _) h2
 exact ⟨A,c,rfl,hs⟩
theorem dyP_rep {B br:Nat → Prop} {w w':World} {A:Option Addr} {c:Nat} {d:Dy} (hB:∀ b,B b → b < w.heap.size ∧ NoLim w b) (hb:Ext w w') (h:Sl w' A c (limbs d.m)):Rep B br w' (dyP d) (DV d A c) :=
 Reps.agg (.cons (.v _) (.cons (slP_rep hB hb h) (.cons (.v _) (.nil _ _ _))))
section
variable {f:FuncId} {a b:Dy}
theorem pc1 (hc:∀ (vs:Array Value) (w:World),(callFunc f vs).run Tryz.prog w = .ok (.enter f vs) w) {res:E} {R:World → Ending → World → Prop}
  (H:∀ A c w,Sl w A c (limbs a.m) → Tb w → Calls Tryz.prog f #[DV a A c] w (R w)) (hR:∀ (B:Nat → Prop) w e w',(∀ b,B b → b < w.heap.size ∧ NoLim w b) → R w e w' → ∃ v,e = .returned v ∧ Below w.heap.size w w' ∧ Rep B (fun _=>True) w' res v):PCt f [dyP a] res:=by
 refine ⟨hc,fun w B vs hK hB hr=>?_⟩
 obtain ⟨v1,vs,rfl,h1,hr⟩:=hr.uncons
 obtain rfl:=hr.nil_inv
 obtain ⟨A,c,rfl,s1⟩:=dyP_inv h1
 exact (H A c w s1 hK).mono fun e w' h=>hR B w e w' hB h
theorem pc2 (hc:∀ (vs:Array Value) (w:World),(callFunc f vs).run Tryz.prog w = .ok (.enter f vs) w) {res:E} {R:World → Ending → World → Prop}
  (H:∀ A c A' c' w,Sl w A c (limbs a.m) → Sl w A' c' (limbs b.m) → Tb w → Calls Tryz.prog f #[DV a A c,DV b A' c'] w (R w)) (hR:∀ (B:Nat → Prop) w e w',(∀ b,B b → b < w.heap.size ∧ NoLim w b) → R w e w' → ∃ v,e = .returned v ∧ Below w.heap.size w w' ∧ Rep B (fun _=>True) w' res v):PCt f [dyP a,dyP b] res:=by
 refine ⟨hc,fun w B vs hK hB hr=>?_⟩
 obtain ⟨v1,vs,rfl,h1,hr⟩:=hr.uncons
 obtain ⟨v2,vs,rfl,h2,hr⟩:=hr.uncons
 obtain rfl:=hr.nil_inv
 obtain ⟨A,c,rfl,s1⟩:=dyP_inv h1
 obtain ⟨A',c',rfl,s2⟩:=dyP_inv h2
 exact (H A c A' c' w s1 s2 hK).mono fun e w' h=>hR B w e w' hB h
end
theorem rv {x:Value}:∀ (B:Nat → Prop) (w:World) (e:Ending) (w':World),(∀ b,B b → b < w.heap.size ∧ NoLim w b) → (e = .returned x ∧ Ext w w') → ∃ v,e = .returned v ∧ Below w.heap.size w w' ∧ Rep B (fun _=>True) w' (.v x) v :=
 fun _ _ _ _ _ h=>⟨x,h.1,h.2,.v x⟩
theorem rd {d:Dy}:∀ (B:Nat → Prop) (w:World) (e:Ending) (w':World),(∀ b,B b → b < w.heap.size ∧ NoLim w b) → RetD w d e w' → ∃ v,e = .returned v ∧ Below w.heap.size w w' ∧ Rep B (fun _=>True) w' (dyP d) v :=
 fun _ _ _ _ hB ⟨_,_,h1,h2,h3⟩=>⟨_,h1,h3,dyP_rep hB h3 h2⟩
theorem rde {d:Dy} {n:Int}:∀ (B:Nat → Prop) (w:World) (e:Ending) (w':World),(∀ b,B b → b < w.heap.size ∧ NoLim w b) → RetDE w d n e w' → ∃ v,e = .returned v ∧ Below w.heap.size w w' ∧ Rep B (fun _=>True) w' (.tup [dyP d,iP n]) v :=
 fun _ _ _ _ hB ⟨_,_,h1,h2,h3⟩=>⟨_,h1,h3,Reps.tup (.cons (dyP_rep hB h3 h2) (.cons (.v _) (.nil _ _ _)))⟩
theorem zeroP_le:E.le (.agg [bP false,.v (.slice none 0 0),iP 0]) (dyP zeroD):=by
 have:dyP zeroD = .agg [bP false,.sl false 0 1 fun i _=>.v (.int .u32 (((limbs 0).getD i 0:Nat):Int)),iP 0]:=by
  show E.agg [bP false,slP (limbs 0),iP 0]=_
  unfold slP
  rw [limbs_zero]
  rfl
 rw [this]
 exact .agg (.cons (.refl _) (.cons (.nil _ _ _) (.cons (.refl _) .nil)))
theorem dyCmp_pc (a b:Dy) (ha:a.Valid) (hb:b.Valid):PCt 71 [dyP a,dyP b] (iP (cmpD a b)):=pc2 Tryz.call71 (fun A c A' c' w h k _=>dyCmp_dy a b A A' c c' w h k ha hb) rv
theorem dySign_pc (a:Dy) (ha:a.Valid):PCt 51 [dyP a] (iP a.sign):=pc1 Tryz.call51 (fun A c w h _=>dySign_dy a A c w h ha) rv
theorem dyValid_pc (a:Dy) (ha:a.Valid):PCt 30 [dyP a] (bP true):=pc1 Tryz.call30 (fun A c w h _=>dyValid_dy a A c w h ha) rv
theorem dyBits_pc (a:Dy) (ha:a.Valid):PCt 203 [dyP a] (iP (bitsN a.m)):=pc1 Tryz.call203 (fun A c w h _=>dyBits_dy a A c w h ha) rv
theorem refProduct_pc (a b:Dy) (ha:Near a) (hb:Near b):PCt 19 [dyP a,dyP b] (dyP (mulD a b)):=pc2 Tryz.call19 (fun A c A' c' w h k _=>refProduct_dy a b A A' c c' w h k ha hb) rd
open Go.RowKit Fp Pu
def TT:List TI:=[
 ⟨3,.int .i64,⟨.int .i64, "int", 1,8,false,8,8,some (.int .i64 0),true,#[]⟩⟩,
 ⟨4,.bool,⟨.bool, "bool", 1,1,false,1,1,some (.bool false),true,#[]⟩⟩,
 ⟨9,.string,⟨.string, "string", 1,16,true,8,8,some (.string ⟨#[]⟩),true,#[]⟩⟩,
 ⟨22,.slice 50,⟨.slice 50, "[]uint32", 1,24,true,8,8,some (.slice none 0 0),false,#[]⟩⟩,
 ⟨24,.struct #[⟨"Neg", 4,0,false, "", "", 0⟩,⟨"M", 22,1,false, "", "", 8⟩,⟨"E", 3,2,false, "", "", 32⟩],⟨.named "flowpipe/api.Dyadic" 23, "api.Dyadic", 3,40,true,8,8,some (.agg #[.bool false,.slice none 0 0,.int .i64 0]),false,#[]⟩⟩,
 ⟨26,.struct #[⟨"Lo", 24,0,false, "", "", 0⟩,⟨"Hi", 24,3,false, "", "", 40⟩,⟨"All", 4,6,false, "", "", 80⟩],⟨.named "flowpipe/api.Interval" 25, "api.Interval", 7,88,true,8,8,some (.agg #[.bool false,.slice none 0 0,.int .i64 0,.bool false,.slice none 0 0,.int .i64 0,.bool false]),false,#[]⟩⟩,
 ⟨34,.slice 101,⟨.slice 101, "[]api.Op", 1,24,true,8,8,some (.slice none 0 0),false,#[]⟩⟩,
 ⟨35,.slice 3,⟨.slice 3, "[]int", 1,24,true,8,8,some (.slice none 0 0),false,#[]⟩⟩,
 ⟨37,.struct #[⟨"Ins", 3,0,false, "", "", 0⟩,⟨"Ops", 34,1,false, "", "", 8⟩,⟨"Outs", 35,2,false, "", "", 32⟩],⟨.named "flowpipe/api.Tape" 36, "api.Tape", 3,56,true,8,8,some (.agg #[.int .i64 0,.slice none 0 0,.slice none 0 0]),false,#[]⟩⟩,
 ⟨38,.slice 26,⟨.slice 26, "[]api.Interval", 1,24,true,8,8,some (.slice none 0 0),false,#[]⟩⟩,
 ⟨40,.struct #[⟨"Tape", 37,0,false, "", "", 0⟩,⟨"States", 3,3,false, "", "", 56⟩,⟨"Params", 38,4,false, "", "", 64⟩],⟨.named "flowpipe/api.System" 39, "api.System", 5,88,true,8,8,some (.agg #[.int .i64 0,.slice none 0 0,.slice none 0 0,.int .i64 0,.slice none 0 0]),false,#[]⟩⟩,
 ⟨42,.int .i64,⟨.named "flowpipe/api.Errno" 3, "api.Errno", 1,8,false,8,8,some (.int .i64 0),true,#[]⟩⟩,
 ⟨50,.int .u32,⟨.int .u32, "uint32", 1,4,false,4,4,some (.int .u32 0),true,#[]⟩⟩,
 ⟨55,.int .u64,⟨.int .u64, "uint64", 1,8,false,8,8,some (.int .u64 0),true,#[]⟩⟩,
 ⟨57,.int .u64,⟨.int .u64, "uint", 1,8,false,8,8,some (.int .u64 0),true,#[]⟩⟩,
 ⟨58,.slice 9,⟨.slice 9, "[]string", 1,24,true,8,8,some (.slice none 0 0),false,#[]⟩⟩,
 ⟨59,.slice 78,⟨.slice 78, "[]api.Expr", 1,24,true,8,8,some (.slice none 0 0),false,#[]⟩⟩,
 ⟨76,.struct #[⟨"N", 3,0,false, "", "", 0⟩,⟨"D", 3,1,false, "", "", 8⟩],⟨.named "flowpipe/api.Ratio" 75, "api.Ratio", 2,16,false,8,8,some (.agg #[.int .i64 0,.int .i64 0]),true,#[]⟩⟩,
 ⟨78,.struct #[⟨"Kind", 3,0,false, "", "", 0⟩,⟨"Num", 76,1,false, "", "", 8⟩,⟨"Name", 9,3,false, "", "", 24⟩,⟨"N", 3,4,false, "", "", 40⟩,⟨"L", 59,5,false, "", "", 48⟩],⟨.named "flowpipe/api.Expr" 77, "api.Expr", 6,72,true,8,8,some (.agg #[.int .i64 0,.int .i64 0,.int .i64 0,.string ⟨#[]⟩,.int .i64 0,.slice none 0 0]),false,#[]⟩⟩,
 ⟨89,.func #[24,3] #[24,42] false,⟨.func #[24,3] #[24,42] false, "func(api.Dyadic, int) (api.Dyadic, api.Errno)", 1,8,true,8,8,some (.nilFunc),false,#[]⟩⟩,
 ⟨95,.func #[26,26,3] #[26] false,⟨.func #[26,26,3] #[26] false, "func(api.Interval, api.Interval, int) api.Interval", 1,8,true,8,8,some (.nilFunc),false,#[]⟩⟩,
 ⟨97,.func #[26,26] #[4] false,⟨.func #[26,26] #[4] false, "func(api.Interval, api.Interval) bool", 1,8,true,8,8,some (.nilFunc),false,#[]⟩⟩,
 ⟨98,.func #[3] #[4] false,⟨.func #[3] #[4] false, "func(int) bool", 1,8,true,8,8,some (.nilFunc),false,#[]⟩⟩,
 ⟨101,.struct #[⟨"Kind", 3,0,false, "", "", 0⟩,⟨"A", 3,1,false, "", "", 8⟩,⟨"B", 3,2,false, "", "", 16⟩,⟨"N", 3,3,false, "", "", 24⟩,⟨"C", 76,4,false, "", "", 32⟩],⟨.named "flowpipe/api.Op" 100, "api.Op", 6,48,false,8,8,some (.agg #[.int .i64 0,.int .i64 0,.int .i64 0,.int .i64 0,.int .i64 0,.int .i64 0]),true,#[]⟩⟩,
 ⟨105,.func #[26] #[4] false,⟨.func #[26] #[4] false, "func(api.Interval) bool", 1,8,true,8,8,some (.nilFunc),false,#[]⟩⟩,
 ⟨107,.func #[38] #[4] false,⟨.func #[38] #[4] false, "func([]api.Interval) bool", 1,8,true,8,8,some (.nilFunc),false,#[]⟩⟩,
 ⟨111,.slice 38,⟨.slice 38, "[][]api.Interval", 1,24,true,8,8,some (.slice none 0 0),false,#[]⟩⟩,
 ⟨128,.func #[24,24,3] #[24,42] false,⟨.named "flowpipe/interval.rounded" 115, "interval.rounded", 1,8,true,8,8,some (.nilFunc),false,#[]⟩⟩,
 ⟨129,.array 2 24,⟨.array 2 24, "[2]api.Dyadic", 6,80,true,8,8,some (.agg #[.bool false,.slice none 0 0,.int .i64 0,.bool false,.slice none 0 0,.int .i64 0]),false,#[]⟩⟩,
 ⟨130,.array 4 129,⟨.array 4 129, "[4][2]api.Dyadic", 24,320,true,8,8,some (.agg #[.bool false,.slice none 0 0,.int .i64 0,.bool false,.slice none 0 0,.int .i64 0,.bool false,.slice none 0 0,.int .i64 0,.bool false,.slice none 0 0,.int .i64 0,.bool false,.slice none 0 0,.int .i64 0,.bool false,.slice none 0 0,.int .i64 0,.bool false,.slice none 0 0,.int .i64 0,.bool false,.slice none 0 0,.int .i64 0]),false,#[]⟩⟩,
 ⟨145,.struct #[⟨"m", 22,0,false, "", "flowpipe/round", 0⟩,⟨"e", 3,1,false, "", "flowpipe/round", 24⟩,⟨"more", 4,2,false, "", "flowpipe/round", 32⟩],⟨.named "flowpipe/round.exact" 144, "round.exact", 3,40,true,8,8,some (.agg #[.slice none 0 0,.int .i64 0,.bool false]),false,#[]⟩⟩,
 ⟨150,.slice 22,⟨.slice 22, "[][]uint32", 1,24,true,8,8,some (.slice none 0 0),false,#[]⟩⟩,
 ⟨152,.func #[22] #[4] false,⟨.func #[22] #[4] false, "func([]uint32) bool", 1,8,true,8,8,some (.nilFunc),false,#[]⟩⟩,
 ⟨162,.struct #[⟨"o", 101,0,false, "", "flowpipe/gradient", 0⟩,⟨"v", 26,6,false, "", "flowpipe/gradient", 48⟩,⟨"a", 26,13,false, "", "flowpipe/gradient", 136⟩,⟨"b", 26,20,false, "", "flowpipe/gradient", 224⟩,⟨"da", 26,27,false, "", "flowpipe/gradient", 312⟩,⟨"db", 26,34,false, "", "flowpipe/gradient", 400⟩,⟨"p", 3,41,false, "", "flowpipe/gradient", 488⟩],⟨.named "flowpipe/gradient.node" 161, "gradient.node", 42,496,true,8,8,some (.agg #[.int .i64 0,.int .i64 0,.int .i64 0,.int .i64 0,.int .i64 0,.int .i64 0,.bool false,.slice none 0 0,.int .i64 0,.bool false,.slice none 0 0,.int .i64 0,.bool false,.bool false,.slice none 0 0,.int .i64 0,.bool false,.slice none 0 0,.int .i64 0,.bool false,.bool false,.slice none 0 0,.int .i64 0,.bool false,.slice none 0 0,.int .i64 0,.bool false,.bool false,.slice none 0 0,.int .i64 0,.bool false,.slice none 0 0,.int .i64 0,.bool false,.bool false,.slice none 0 0,.int .i64 0,.bool false,.slice none 0 0,.int .i64 0,.bool false,.int .i64 0]),false,#[]⟩⟩,
 ⟨164,.slice 24,⟨.slice 24, "[]api.Dyadic", 1,24,true,8,8,some (.slice none 0 0),false,#[]⟩⟩,
 ⟨206,.func #[195] #[195] false,⟨.func #[195] #[195] false, "func(circle.fix) circle.fix", 1,8,true,8,8,some (.nilFunc),false,#[]⟩⟩]
theorem TT_ok:TyOk Tryz.prog TT:=TyAll.ok ⟨⟨Tryz.underlying3,by kernel_rfl⟩,⟨Tryz.underlying4,by kernel_rfl⟩,⟨Tryz.underlying9,by kernel_rfl⟩,⟨Tryz.underlying22,by kernel_rfl⟩,⟨Tryz.underlying24,by kernel_rfl⟩,⟨Tryz.underlying26,by kernel_rfl⟩,⟨Tryz.underlying34,by kernel_rfl⟩,⟨Tryz.underlying35,by kernel_rfl⟩,⟨Tryz.underlying37,by kernel_rfl⟩,⟨Tryz.underlying38,by kernel_rfl⟩,⟨Tryz.underlying40,by kernel_rfl⟩,⟨Tryz.underlying42,by kernel_rfl⟩,⟨Tryz.underlying50,by kernel_rfl⟩,⟨Tryz.underlying55,by kernel_rfl⟩,⟨Tryz.underlying57,by kernel_rfl⟩,⟨Tryz.underlying58,by kernel_rfl⟩,⟨Tryz.underlying59,by kernel_rfl⟩,⟨Tryz.underlying76,by kernel_rfl⟩,⟨Tryz.underlying78,by kernel_rfl⟩,⟨Tryz.underlying89,by kernel_rfl⟩,⟨Tryz.underlying95,by kernel_rfl⟩,⟨Tryz.underlying97,by kernel_rfl⟩,⟨Tryz.underlying98,by kernel_rfl⟩,⟨Tryz.underlying101,by kernel_rfl⟩,⟨Tryz.underlying105,by kernel_rfl⟩,⟨Tryz.underlying107,by kernel_rfl⟩,⟨Tryz.underlying111,by kernel_rfl⟩,⟨Tryz.underlying128,by kernel_rfl⟩,⟨Tryz.underlying129,by kernel_rfl⟩,⟨Tryz.underlying130,by kernel_rfl⟩,⟨Tryz.underlying145,by kernel_rfl⟩,⟨Tryz.underlying150,by kernel_rfl⟩,⟨Tryz.underlying152,by kernel_rfl⟩,⟨Tryz.underlying162,by kernel_rfl⟩,⟨Tryz.underlying164,by kernel_rfl⟩,⟨Tryz.underlying206,by kernel_rfl⟩,trivial⟩
end Go.Proofs.YtkbjkchapnjhgaaGreatDoor
namespace Go.Proofs.YtkbjkchapnjhgaaGreatDoor.Pu
open Go.RowKit
def E.elf:E → Nat → Nat → E
 | .sl _ _ _ el,i,j=>el i j
 | _,_,_=>.any
section
variable {P:Program} {K:World → Prop}
theorem Sp.pre {c:Code} {σ τ:PS} {Q:Ex → PS → Prop} (h:PS.le σ τ) (k:Sp P K c τ Q):Sp P K c σ Q:=fun w0 B a w L g r =>
 let ⟨L',r'⟩:=h w0 B a w L (fun b hb=>(g.hB b hb).1) r; k w0 B a w L' g r'
theorem Sp.post {c:Code} {σ:PS} {Q Q':Ex → PS → Prop} (h:Sp P K c σ Q) (k:∀ e τ,Q e τ → ∃ τ',PS.le τ τ' ∧ Q' e τ'):Sp P K c σ Q':=fun w0 B a w L g r =>
 Code.wp_mono (fun _ _ _ ⟨ex,τ,L',h1,h2,h3⟩=>let ⟨τ',q1,q2⟩:=k ex τ h2; let ⟨L2,r2⟩:=q1 w0 B _ _ L' (fun b hb=>(g.hB b hb).1) h3; ⟨ex,τ',L2,h1,q2,r2⟩) (h w0 B a w L g r)
theorem Sp.to {c:Code} {σ τ τ':PS} {e:Ex} (h:Sp P K c σ (fun e' υ=>e'=e ∧ υ=τ)) (k:PS.le τ τ'):Sp P K c σ (fun e' υ=>e'=e ∧ υ=τ') :=
 h.post fun _ _ ⟨h1,h2⟩=>⟨τ',h2 ▸ k,h1,rfl⟩
theorem Sp.fam {α:Type} (f:α → PS) (p:α → Prop) (m:α → Nat) {b:Code} {e:Ex} {τ:PS}
  (step:∀ x,p x → Sp P K b (f x) (fun e' υ=>(e' = .normal ∧ ∃ y,p y ∧ m y < m x ∧ υ=f y) ∨ (e' ≠ .normal ∧ e'=e ∧ υ=τ))) {σ:PS} (x:α) (hx:p x) (h0:PS.le σ (f x)) :
  Sp P K (.loop b) σ (fun e' υ=>e'=e ∧ υ=τ):=by
 refine Sp.pre h0 ?_
 refine Sp.loop (Q:=fun e' υ=>e'=e ∧ υ=τ) (fun n σ=>∃ x,p x ∧ m x=n ∧ σ=f x) (fun n σ ⟨x,h1,h2,h3⟩=>?_) (m x) (f x) ⟨x,hx,rfl,rfl⟩
 subst h3 h2
 exact (step x h1).mono fun e' υ h=>h.imp (fun ⟨q1,y,q2,q3,q4⟩=>⟨q1,m y,q3,y,q2,rfl,q4⟩) id
theorem Sp.fam_go {α:Type} {f:α → PS} {p:α → Prop} {m:α → Nat} {b:Code} {e:Ex} {τ υ:PS} {x:α} (y:α) (h:Sp P K b (f x) (fun e' υ'=>e' = .normal ∧ υ'=υ)) (hy:p y) (hm:m y < m x) (hl:PS.le υ (f y)) :
  Sp P K b (f x) (fun e' υ=>(e' = .normal ∧ ∃ y,p y ∧ m y < m x ∧ υ=f y) ∨ (e' ≠ .normal ∧ e'=e ∧ υ=τ)) :=
 h.post fun _ _ ⟨h1,h2⟩=>⟨f y,h2 ▸ hl,.inl ⟨h1,y,hy,hm,rfl⟩⟩
theorem Sp.fam_out {α:Type} {f:α → PS} {p:α → Prop} {m:α → Nat} {b:Code} {e:Ex} {τ υ:PS} {x:α} (h:Sp P K b (f x) (fun e' υ'=>e'=e ∧ υ'=υ)) (he:e ≠ .normal) (hl:PS.le υ τ) :
  Sp P K b (f x) (fun e' υ=>(e' = .normal ∧ ∃ y,p y ∧ m y < m x ∧ υ=f y) ∨ (e' ≠ .normal ∧ e'=e ∧ υ=τ)) :=
 h.post fun _ _ ⟨h1,h2⟩=>⟨τ,h2 ▸ hl,.inr ⟨h1 ▸ he,h1,rfl⟩⟩
end
def loopOf (k:Nat):Code → Option Code
 | .loop b=>if Nat.beq (firstReg b) k then some b else loopOf k b
 | .seq a b=>match loopOf k a with
  | some c=>some c
  | none=>loopOf k b
 | .cond _ a b=>match loopOf k a with
  | some c=>some c
  | none=>loopOf k b
 | .block _ b=>loopOf k b
 | _=>none
def bodyOf (k:Nat) (fn:Func):Code:=((fn.body.bind (loopOf k)).getD .skip)
theorem Bx.le.of_eq {a b:Bx} (h:a=b):Bx.le a b:=h ▸ Bx.le.refl a
theorem Bx.le.cells {T:TypeId} {l m:List E} (hn:(l.all E.noLimb=true → m.all E.noLimb=true)) (h:Les l m):Bx.le (.cells T l) (.cells T m):=⟨hn,fun _ _ _ _ _ ⟨b,vs,h1,h2,h3,h4,h5⟩=>⟨b,vs,h1,h2,h3,h.reps h4,h5⟩⟩
theorem Bx.le.row {nl:Bool} {T:TypeId} {n n' sz:Nat} {el el':Nat → Nat → E} (hn:n=n') (h:∀ i j,i < n → j < sz → E.le (el i j) (el' i j) ∧ (el' i j).nr 2=true):Bx.le (.row nl T n sz el) (.row nl T n' sz el') :=
 ⟨id,fun _ _ _ _ _ ⟨f,h1,h2,h3⟩=>by subst hn; exact ⟨f,h1,h2,fun i j hi hj=>⟨(h i j hi hj).1 _ _ _ _ (h3 i j hi hj).1,(h i j hi hj).2⟩⟩⟩
theorem Bx.le.rows {nl:Bool} {T1 T0:TypeId} {n n' sz:Nat} {len len':Nat → Nat} {el el':Nat → Nat → Nat → E} {pend:Option Nat} (hn:n=n') (hl:∀ k,k < n → len k=len' k)
  (h:∀ k i j,k < n → i < len k → j < sz → E.le (el k i j) (el' k i j) ∧ (el' k i j).nr 2=true):Bx.le (.rows nl T1 T0 n sz len el pend) (.rows nl T1 T0 n' sz len' el' pend) :=
 ⟨id,fun _ _ _ _ _ ⟨b,c,cur,f,h1,h2,h3,h4,h5,h6,h7,h8,h9,h10,h11⟩=>by
  subst hn
  refine ⟨b,c,cur,f,h1,h2,h3,h4,h5,h6,h7,fun k hk=>?_,h9,h10,h11⟩
  rw [← hl k hk]
  exact ⟨(h8 k hk).1,fun i j hi hj=>⟨(h k i j hk hi hj).1 _ _ _ _ ((h8 k hk).2 i j hi hj).1,(h k i j hk hi hj).2⟩⟩⟩
theorem PS.le.keepN {σ τ:PS} (hn:σ.n=τ.n) (hnl:(τ.b.all fun x=>x.2.nl)=true) (hr:refsOk τ=true) (ht:LeT σ τ.t) (hb:LeB σ τ.b):PS.le σ τ:=fun w0 B a w L _ r=>by
 let L':Lk:=⟨fun id=>L.live id ∧ (τ.bo id).isSome=true,fun id x=>L.own id x ∧ (τ.bo id).isSome=true,L.val,L.inn⟩
 have hlt:Later L w L' w:=⟨Nat.le_refl _,fun x _ ⟨id,h,_⟩=>⟨id,h⟩,fun _ _ _=>rfl⟩
 refine ⟨L',r.hd,by rw [← hn]; exact r.hs,fun t=>?_,fun id b h=>?_,fun id=>?_,fun id x h=>⟨r.hn id x h.1,h.2⟩,fun id x h=>r.hw id x h.1,fun id id' x h k=>r.hi id id' x h.1 k.1,r.he,fun h id b k=>?_⟩
 ·have hg:τ.get t=((look τ.t t)).getD (.e .any):=rfl
  cases hl:look τ.t t with
  | none=>rw [hg,hl]; exact .any _
  | some p =>
   rw [hg,hl]
   have:=ht.get hl _ _ _ _ _ (r.ht t)
   refine RepP.move hlt this fun id hid hlive=>⟨⟨hlive,?_⟩,rfl,fun _=>rfl⟩
   have q:=List.all_eq_true.1 hr _ (look_mem hl)
   exact List.all_eq_true.1 q id hid
 ·obtain ⟨b',h1,h2⟩:=hb.get h
  have hs:(τ.bo id).isSome=true:=by rw [h]; rfl
  exact (h2.2 _ _ _ _ _ (r.hb id b' h1)).later hlt rfl (fun x=>⟨fun q=>q.1,fun q=>⟨q,hs⟩⟩) (fun _=>rfl) fun _ _=>rfl
 ·show L.live id ∧ (τ.bo id).isSome=true ↔ (τ.bo id).isSome=true
  refine ⟨fun h=>h.2,fun h=>⟨(r.hv id).2 ?_,h⟩⟩
  obtain ⟨b,hbo⟩:=Option.isSome_iff_exists.1 h
  obtain ⟨b',h1,_⟩:=hb.get hbo
  rw [h1]; rfl
 ·exact List.all_eq_true.1 hnl _ (look_mem k)
def PV.frz (id:Nat) (e:E) (p:PV):PV:=match p with
 | .own i=>if Nat.beq i id then .e e else .own i
 | p=>if p.refs.any (Nat.beq id) then .e .any else p
def PS.frz (σ:PS) (id:Nat) (e:E):PS:={ σ with t:=σ.t.map fun x=>(x.1,x.2.frz id e),b:=σ.b.filter fun x=>!Nat.beq x.1 id }
def Bx.as:Bx → Option E
 | .row nl _ n sz el=>some (.sl nl n sz el)
 | .rows nl _ _ n sz len el none=>some (.sl true n 1 fun k _=>.sl nl (len k) sz (el k))
 | _=>none
theorem PS.le.freeze {σ:PS} (id:Nat) {b:Bx} {e:E} (hbo:σ.bo id=some b) (he:b.as=some e):PS.le σ (σ.frz id e):=fun w0 B a w L hB r=>by
 let L':Lk:=⟨fun i=>L.live i ∧ i ≠ id,fun i x=>L.own i x ∧ i ≠ id,L.val,L.inn⟩
 have hlt:Later L w L' w:=⟨Nat.le_refl _,fun x _ ⟨i,h,_⟩=>⟨i,h⟩,fun _ _ _=>rfl⟩
 have hbo':∀ i,(σ.frz id e).bo i=if i=id then none else σ.bo i:=by
  intro i
  unfold PS.bo PS.frz
  by_cases h:i=id
  ·subst h; simp only [if_true]; exact look_filter_self _ _
  ·rw [if_neg h]; exact look_filter _ _ _ (fun e=>h e.symm)
 have hbad:∀ x,L.own id x → ¬ bad B L' x:=by
  rintro x hx (h | ⟨i,h1,h2⟩)
  ·have:=hB x h; have:=(r.hw id x hx).1; omega
  ·exact h2 (r.hi i id x h1 hx)
 have own:∀ (v:Value) (T:TypeId) (n sz:Nat) (f:Nat → Nat → Value) (nl:Bool) (el:Nat → Nat → E),OwnR w v T n sz f nl → (∀ x,v.ownBlock=some x → L.own id x) →
   (∀ i j,i < n → j < sz → Rep (bad B L) (mine L) w (el i j) (f i j) ∧ (el i j).nr 2=true) → Rep (bad B L') (mine L') w (.sl nl n sz el) v:=by
  intro v T n sz f nl el h1 h2 h3
  rcases h1 with ⟨rfl,rfl⟩ | ⟨b,c,cur,rfl,hg,hnc,hcm,hcs,hcell,hnl⟩
  ·exact .sl nl 0 sz el none 0 f (Nat.le_refl _) (by decide) (fun _=>rfl) (fun i j hi=>absurd hi (Nat.not_lt_zero i)) (fun i j hi=>absurd hi (Nat.not_lt_zero i)) (fun i j hi=>absurd hi (Nat.not_lt_zero i)) (fun i j hi=>absurd hi (Nat.not_lt_zero i))
  ·have hob:=h2 b rfl
   refine .sl nl n sz el _ c f hnc (by unfold maxLen at hcm; omega) (fun h=>by cases h) (fun i j hi hj=>⟨(hcell i j hi hj).2,fun hn=>hnl hn _ (Array.mem_of_getElem? (hcell i j hi hj).1)⟩) (fun i j hi hj=>(h3 i j hi hj).2)
    (fun i j hi hj=>⟨b,0,rfl,hbad b hob,(r.hw id b hob).2,?_⟩) (fun i j hi hj=>hlt.rep (h3 i j hi hj).1)
   rw [Nat.zero_add]
   simp only [World.cell?,hg]
   simpa using (hcell i j hi hj).1
 have hold:∀ v,v=L.val id → Rep (bad B L') (mine L') w e v:=by
  rintro v rfl
  have hbk:=r.hb id b hbo
  cases b with
  | cells T l=>cases he
  | row nl T n sz el =>
   cases he
   obtain ⟨f,h1,h2,h3⟩:=hbk
   exact own _ T n sz f nl el h1 (fun x hx=>(h2 x).2 hx) h3
  | rows nl T1 T0 n sz len el pend =>
   cases pend with
   | some k=>cases he
   | none =>
    cases he
    obtain ⟨b,c,cur,f,h1,h2,h3,h4,h5,h6,h7,h8,h9,h10,h11⟩:=hbk
    have hob:L.own id b:=(h9 b).2 (.inl rfl)
    rw [h1]
    refine .sl true n 1 _ _ c (fun k _=>L.inn id k) h3 (by unfold maxLen at h4; omega) (fun h=>by cases h) (fun k j hk hj=>?_) (fun k j hk hj=>rfl)
     (fun k j hk hj=>⟨b,0,rfl,hbad b hob,(r.hw id b hob).2,?_⟩) (fun k j hk hj=>own _ T0 (len k) sz (f k) nl (el k) (h8 k hk).1 (fun x hx=>(h9 x).2 (.inr ⟨k,hk,hx⟩)) (h8 k hk).2)
    ·obtain ⟨q1,q2⟩:=h7 _ (Array.mem_of_getElem? (h6 k hk (by simp)))
     exact ⟨q1,fun _=>q2⟩
    ·rw [Nat.zero_add,Nat.mul_one]
     obtain rfl:j=0:=by omega
     simp only [World.cell?,h2]
     simpa using h6 k hk (by simp)
 refine ⟨L',r.hd,r.hs,fun t=>?_,fun i b' h=>?_,fun i=>?_,fun i x h=>⟨r.hn i x h.1,h.2⟩,fun i x h=>r.hw i x h.1,fun i i' x h k=>r.hi i i' x h.1 k.1,r.he,fun h i b' k=>?_⟩
 ·have hg:(σ.frz id e).get t=(σ.get t).frz id e:=by
   unfold PS.get PS.frz
   rw [look_map]
   cases look σ.t t <;> rfl
  rw [hg]
  have k:=r.ht t
  generalize σ.get t=p at k
  have move:∀ (p:PV) (v:Value),RepP (bad B L) (mine L) L w p v → (p.refs.any (Nat.beq id))=false → RepP (bad B L') (mine L') L' w p v:=by
   intro p v k hp
   refine RepP.move hlt k fun i hi hlive=>⟨⟨hlive,?_⟩,rfl,fun _=>rfl⟩
   rintro rfl
   have:=List.any_eq_false.1 hp i hi
   simp at this
  have gen:∀ (p:PV) (v:Value),RepP (bad B L) (mine L) L w p v → RepP (bad B L') (mine L') L' w (if p.refs.any (Nat.beq id) then .e .any else p) v:=by
   intro p v k
   cases hp:p.refs.any (Nat.beq id) with
   | true=>exact .any _
   | false=>exact move p v k hp
  cases p with
  | own i =>
   simp only [PV.frz]
   by_cases hi:i=id
   ·subst hi
    rw [Nat.beq_refl,if_pos rfl]
    exact hold _ k.2
   ·rw [beq_false hi,if_neg (by decide)]
    exact ⟨⟨k.1,hi⟩,k.2⟩
  | _=>exact gen _ _ k
 ·rw [hbo'] at h
  split at h
  ·cases h
  ·rename_i hi
   exact (r.hb i b' h).later hlt rfl (fun x=>⟨fun q=>q.1,fun q=>⟨q,hi⟩⟩) (fun _=>rfl) fun _ _=>rfl
 ·rw [hbo']
  show L.live i ∧ i ≠ id ↔ _
  by_cases hi:i=id
  ·subst hi; simp
  ·simp only [hi,ne_eq,not_false_eq_true,and_true,if_false]
   exact r.hv i
 ·rw [hbo'] at k
  split at k
  ·cases k
  ·exact r.hl h i b' k
def PS.ado (σ:PS) (t id:Nat) (b:Bx):PS:={ σ with t:=(t,.own id) :: σ.t.filter (fun x=>!Nat.beq x.1 t),b:=(id,b) :: σ.b }
theorem PS.le.adopt {σ:PS} (t id:Nat) {nl:Bool} {T:TypeId} {sz:Nat} {el:Nat → Nat → E} (hbo:σ.bo id=none) (hg:σ.get t = .e (.v (.slice none 0 0))) (hnl:σ.nl=true → nl=true):PS.le σ (σ.ado t id (.row nl T 0 sz el)):=fun w0 B a w L hB r=>by
 have hl0:¬ L.live id:=fun h=>by have:=(r.hv id).1 h; rw [hbo] at this; cases this
 let L':Lk:=⟨fun i=>L.live i ∨ i=id,L.own,fun i=>if i=id then .slice none 0 0 else L.val i,L.inn⟩
 have hlt:Later L w L' w:=⟨Nat.le_refl _,fun x _ h=>h,fun _ _ _=>rfl⟩
 have hbo':∀ i,(σ.ado t id (.row nl T 0 sz el)).bo i=if i=id then some (.row nl T 0 sz el) else σ.bo i:=by
  intro i
  unfold PS.bo PS.ado
  rw [look_cons]
  by_cases h:id=i
  ·rw [if_pos h,if_pos h.symm]
  ·rw [if_neg h,if_neg (fun e=>h e.symm)]
 have hv:a.tmps.getD t undef = .slice none 0 0:=by
  have:=r.ht t
  rw [hg] at this
  exact Rep.v_inv this
 refine ⟨L',r.hd,r.hs,fun s=>?_,fun i b' h=>?_,fun i=>?_,fun i x h=>.inl (r.hn i x h),r.hw,r.hi,r.he,fun h i b' k=>?_⟩
 ·have hgs:(σ.ado t id (.row nl T 0 sz el)).get s=if t=s then .own id else σ.get s:=by
   unfold PS.get PS.ado
   simp only [look_cons]
   by_cases h:t=s
   ·rw [if_pos h,if_pos h]; rfl
   ·rw [if_neg h,if_neg h,look_filter _ _ _ h]
  rw [hgs]
  by_cases h:t=s
  ·subst h
   rw [if_pos rfl,hv]
   exact ⟨.inr rfl,(if_pos rfl).symm⟩
  ·rw [if_neg h]
   refine RepP.move hlt (r.ht s) fun i _ hlive=>⟨.inl hlive,if_neg (fun (q:i=id)=>hl0 (q ▸ hlive)),fun _=>rfl⟩
 ·rw [hbo'] at h
  split at h
  ·rename_i hi
   subst hi
   cases h
   refine ⟨fun _ _=>undef,.inl ⟨if_pos rfl,rfl⟩,fun x=>⟨fun q=>absurd (r.hn _ _ q) hl0,fun q=>?_⟩,fun i j hi=>absurd hi (Nat.not_lt_zero i)⟩
   have e1:L'.val i = .slice none 0 0:=if_pos rfl
   rw [e1] at q
   cases q
  ·rename_i hi
   exact (r.hb i b' h).later hlt (if_neg hi) (fun _=>Iff.rfl) (fun _=>rfl) fun _ _=>rfl
 ·rw [hbo']
  show L.live i ∨ i=id ↔ _
  by_cases hi:i=id
  ·subst hi; simp
  ·simp only [hi,or_false,if_false]
   exact r.hv i
 ·rw [hbo'] at k
  split at k
  ·cases k; exact hnl h
  ·exact r.hl h i b' k
end Go.Proofs.YtkbjkchapnjhgaaGreatDoor.Pu
namespace Go.Proofs.YtkbjkchapnjhgaaGreatDoor.Fp
def mulIn (x i:Nat) (b o:List Nat):Nat → List Nat × Nat
 | 0=>(o,0)
 | k+1 =>
  let r:=mulIn x i b o k
  let z:=x * b.getD k 0+r.1.getD (i+k) 0+r.2
  (r.1.set (i+k) (z % 4294967296),z / 4294967296)
def mulOut (a b:List Nat):Nat → List Nat
 | 0=>List.replicate (a.length+b.length) 0
 | i+1 =>
  let r:=mulIn (a.getD i 0) i b (mulOut a b i) b.length
  r.1.set (i+b.length) (r.2 % 4294967296)
theorem mul_limb {x y:Nat} (hx:x < 4294967296) (hy:y < 4294967296):x * y ≤ 18446744065119617025:=by
 have:=Nat.mul_le_mul (show x ≤ 4294967295 by omega) (show y ≤ 4294967295 by omega)
 omega
theorem val_setD {L:List Nat} {k x:Nat} (hk:k < L.length):val (L.set k x)+4294967296 ^ k * L.getD k 0=val L+4294967296 ^ k * x:=by
 have:=val_set (x:=x) hk
 rwa [List.getD_eq_getElem?_getD,List.getElem?_eq_getElem hk]
theorem getD_set_ne {L:List Nat} {k j x:Nat} (h:k ≠ j):(L.set k x).getD j 0=L.getD j 0:=by
 simp only [List.getD_eq_getElem?_getD,List.getElem?_set_ne h]
theorem getD_set_eq {L:List Nat} {k x:Nat} (h:k < L.length):(L.set k x).getD k 0=x:=by
 simp [List.getD_eq_getElem?_getD,h]
structure MulIn (x i:Nat) (b o:List Nat) (k:Nat) (r:List Nat × Nat):Prop where
 ok:Ok32 r.1
 len:r.1.length=o.length
 lt:r.2 < 4294967296
 eq:val r.1+4294967296 ^ (i+k) * r.2=val o+4294967296 ^ i * (x * val (b.take k))
 same:∀ j,i+k ≤ j → r.1.getD j 0=o.getD j 0
theorem mulIn_spec {x i:Nat} {b o:List Nat} (hx:x < 4294967296) (hb:Ok32 b) (ho:Ok32 o) (hl:i+b.length ≤ o.length):∀ k,k ≤ b.length → MulIn x i b o k (mulIn x i b o k)
 | 0,_=>⟨ho,rfl,Nat.zero_lt_succ _,by simp [mulIn,val],fun _ _=>rfl⟩
 | k+1,hk=>by
  obtain ⟨h1,h2,h3,h4,h5⟩:=mulIn_spec hx hb ho hl k (by omega)
  have hy:=hb.getD k
  have hw:=h1.getD (i+k)
  have hm:=mul_limb hx hy
  have hv:=val_take_getD b k
  simp only [mulIn]
  generalize mulIn x i b o k=r at *
  generalize hz:x * b.getD k 0+r.1.getD (i+k) 0+r.2=z
  have hset:=val_setD (L:=r.1) (k:=i+k) (x:=z % 4294967296) (by omega)
  refine ⟨h1.set _ (Nat.mod_lt _ (by decide)),by simpa using h2,by show z / 4294967296 < _; omega,?_,fun j hj=>?_⟩
  ·have e1:z=z % 4294967296+4294967296 * (z / 4294967296):=(Nat.mod_add_div z _).symm
   show val (r.1.set (i+k) (z % 4294967296))+4294967296 ^ (i+(k+1)) * (z / 4294967296)=_
   rw [hv,Nat.mul_add x,Nat.mul_add (4294967296 ^ i),← Nat.add_assoc (val o),← h4]
   have e2:4294967296 ^ (i+(k+1)) * (z / 4294967296)=4294967296 ^ (i+k) * (4294967296 * (z / 4294967296)):=by rw [show i+(k+1)=(i+k)+1 by omega,Nat.pow_succ,Nat.mul_assoc]
   have e3:4294967296 ^ i * (x * (4294967296 ^ k * b.getD k 0))=4294967296 ^ (i+k) * (x * b.getD k 0):=by rw [Nat.pow_add]; simp only [Nat.mul_assoc,Nat.mul_left_comm]
   rw [e2,e3]
   have e4:4294967296 ^ (i+k) * z=4294967296 ^ (i+k) * (x * b.getD k 0)+4294967296 ^ (i+k) * r.1.getD (i+k) 0+4294967296 ^ (i+k) * r.2:=by rw [← hz,Nat.mul_add,Nat.mul_add]
   have e5:4294967296 ^ (i+k) * z=4294967296 ^ (i+k) * (z % 4294967296)+4294967296 ^ (i+k) * (4294967296 * (z / 4294967296)):=by rw [← Nat.mul_add,← e1]
   omega
  ·show (r.1.set (i+k) _).getD j 0=_
   rw [getD_set_ne (by omega),h5 j (by omega)]
structure MulOut (a b:List Nat) (i:Nat) (o:List Nat):Prop where
 ok:Ok32 o
 len:o.length=a.length+b.length
 eq:val o=val (a.take i) * val b
 zero:∀ j,i+b.length ≤ j → o.getD j 0=0
theorem mulOut_spec {a b:List Nat} (ha:Ok32 a) (hb:Ok32 b):∀ i,i ≤ a.length → MulOut a b i (mulOut a b i)
 | 0,_=>⟨Ok32.replicate0 _,by simp [mulOut],by simp [mulOut,val_replicate0,val],fun j _=>by
   by_cases h:j < a.length+b.length <;> simp [mulOut,List.getD_eq_getElem?_getD,List.getElem?_replicate,h]⟩
 | i+1,hi=>by
  obtain ⟨h1,h2,h3,h4⟩:=mulOut_spec ha hb i (by omega)
  obtain ⟨q1,q2,q3,q4,q5⟩:=mulIn_spec (ha.getD i) hb h1 (i:=i) (by omega) b.length (Nat.le_refl _)
  have hv:=val_take_getD a i
  simp only [mulOut]
  generalize mulIn (a.getD i 0) i b (mulOut a b i) b.length=r at *
  have hset:=val_setD (L:=r.1) (k:=i+b.length) (x:=r.2 % 4294967296) (by omega)
  rw [q5 _ (Nat.le_refl _),h4 _ (Nat.le_refl _),Nat.mul_zero,Nat.add_zero,Nat.mod_eq_of_lt q3,q4,List.take_length,h3] at hset
  refine ⟨q1.set _ (Nat.mod_lt _ (by decide)),by simp; omega,?_,fun j hj=>?_⟩
  ·rw [Nat.mod_eq_of_lt q3,hset,hv,Nat.add_mul,Nat.mul_assoc]
  ·rw [getD_set_ne (by omega),q5 _ (by omega),h4 _ (by omega)]
theorem val_mulOut {a b:List Nat} (ha:Ok32 a) (hb:Ok32 b):val (mulOut a b a.length)=val a * val b:=by
 have:=(mulOut_spec ha hb a.length (Nat.le_refl _)).eq
 rwa [List.take_length] at this
end Go.Proofs.YtkbjkchapnjhgaaGreatDoor.Fp
namespace Go.Proofs.YtkbjkchapnjhgaaGreatDoor
open Go.RowKit Fp Pu
abbrev limbEl (L:List Nat):Nat → Nat → E:=fun i _=>.v (.int .u32 ((L.getD i 0:Nat):Int))
theorem u32_nat (n:Nat):IntKind.u32.wrap (n:Int)=((n % 4294967296:Nat):Int):=by rw [IntKind.wrap_u32]; omega
theorem shr32_nat (n:Nat):(n:Int) / 2 ^ 32=((n / 4294967296:Nat):Int):=by omega
theorem slRow_le {L:List Nat} {n:Nat} (h:n=L.length):E.le (.sl false n 1 (limbEl L)) (slP L):=by subst h; exact .refl _
theorem row_zero {T n n':Nat} {L:List Nat} (hn:n=n') (h:∀ i,L.getD i 0=0):Bx.le (.row false T n 1 fun _ j=>[.v (.int .u32 0)].getD j .any) (.row false T n' 1 (limbEl L)) :=
 .row hn fun i j _ hj=>by
  obtain rfl:j=0:=by omega
  refine ⟨.of_eq ?_,rfl⟩
  show E.v (.int .u32 0)=E.v (.int .u32 ((L.getD i 0:Nat):Int))
  rw [h i]; rfl
theorem row_set {T n n' p:Nat} {L:List Nat} {z:Nat} (hn:n=n') (hp:p < L.length):Bx.le (.row false T n 1 fun i' j'=>if i'=p ∧ 0 ≤ j' ∧ j' < 0+1 then [.v (.int .u32 ((z:Nat):Int))].getD (j' - 0) .any else (limbEl L) i' j') (.row false T n' 1 (limbEl (L.set p z))) :=
 .row hn fun i j _ hj=>by
  obtain rfl:j=0:=by omega
  refine ⟨.of_eq ?_,rfl⟩
  by_cases h:i=p
  ·subst h
   rw [if_pos ⟨rfl,by omega,by omega⟩]
   show E.v (.int .u32 ((z:Nat):Int))=E.v (.int .u32 (((L.set i z).getD i 0:Nat):Int))
   rw [Fp.getD_set_eq hp]
  ·rw [if_neg (fun q=>h q.1)]
   show E.v (.int .u32 ((L.getD i 0:Nat):Int))=E.v (.int .u32 (((L.set p z).getD i 0:Nat):Int))
   rw [Fp.getD_set_ne (fun q=>h q.symm)]
open Go.RowKit Fp
theorem ret_pair {k l:IntKind} {a b c d:Int} (h:a=b) (h':c=d):Ending.returned (.tuple #[.int k a,.int l c]) = .returned (.tuple #[.int k b,.int l d]):=by rw [h,h']
set_option maxHeartbeats 1000000 in
theorem add32_any (x y c:Nat) (w:World) (hx:x < 4294967296) (hy:y < 4294967296) (hc:c ≤ 1) :
  Calls Tryz.prog 162 #[.int .u32 x,.int .u32 y,.int .u32 c] w fun e w'=>e = .returned (.tuple #[.int .u32 (((x+y+c) % 4294967296:Nat):Int),.int .u32 (((x+y+c) / 4294967296:Nat):Int)]) ∧ w=w':=by
 go_enter Tryz.func162,Tryz.ntmps162
 go_wp2
 go_ret2
 refine ⟨?_,rfl⟩
 exact ret_pair (by omega) (by omega)
theorem u32_or_nat (a b:Nat) (ha:a < 4294967296) (hb:b < 4294967296):bits .or .u32 (a:Int) (b:Int)=((a ||| b:Nat):Int):=by
 have h2:a ||| b < 2 ^ 32:=Nat.or_lt_two_pow ha hb
 show IntKind.u32.wrap ((BitVec.ofInt 32 (a:Int) ||| BitVec.ofInt 32 (b:Int)).toNat:Int)=_
 rw [BitVec.toNat_or,BitVec.toNat_ofInt,BitVec.toNat_ofInt]
 rw [show ((a:Int) % ((2 ^ 32:Nat):Int)).toNat=a by omega,show ((b:Int) % ((2 ^ 32:Nat):Int)).toNat=b by omega]
 rw [IntKind.wrap_u32]
 omega
theorem u32_and_nat (a b:Nat) (ha:a < 4294967296) (hb:b < 4294967296):bits .and .u32 (a:Int) (b:Int)=((a &&& b:Nat):Int):=by
 have h2:a &&& b < 2 ^ 32:=Nat.and_lt_two_pow a hb
 show IntKind.u32.wrap ((BitVec.ofInt 32 (a:Int) &&& BitVec.ofInt 32 (b:Int)).toNat:Int)=_
 rw [BitVec.toNat_and,BitVec.toNat_ofInt,BitVec.toNat_ofInt]
 rw [show ((a:Int) % ((2 ^ 32:Nat):Int)).toNat=a by omega,show ((b:Int) % ((2 ^ 32:Nat):Int)).toNat=b by omega]
 rw [IntKind.wrap_u32]
 omega
theorem u32_xor_nat (a b:Nat) (ha:a < 4294967296) (hb:b < 4294967296):bits .xor .u32 (a:Int) (b:Int)=((a ^^^ b:Nat):Int):=by
 have h2:a ^^^ b < 2 ^ 32:=Nat.xor_lt_two_pow ha hb
 show IntKind.u32.wrap ((BitVec.ofInt 32 (a:Int) ^^^ BitVec.ofInt 32 (b:Int)).toNat:Int)=_
 rw [BitVec.toNat_xor,BitVec.toNat_ofInt,BitVec.toNat_ofInt]
 rw [show ((a:Int) % ((2 ^ 32:Nat):Int)).toNat=a by omega,show ((b:Int) % ((2 ^ 32:Nat):Int)).toNat=b by omega]
 rw [IntKind.wrap_u32]
 omega
theorem top_bit (n:Nat) (h:n < 4294967296):n / 2147483648=(n.testBit 31).toNat:=by
 rw [Nat.testBit_eq_decide_div_mod_eq,show (2:Nat) ^ 31=2147483648 from rfl]
 have h2:n / 2147483648 < 2:=by omega
 generalize n / 2147483648=q at *
 have:q=0 ∨ q=1:=by omega
 rcases this with rfl | rfl <;> rfl
theorem sub_borrow (x y c d:Nat) (hx:x < 4294967296) (hy:y < 4294967296) (hc:c ≤ 1) (hd:d=(x+(4294967296 - y)+(4294967296 - c)) % 4294967296) :
  (((4294967295 ^^^ x) &&& y) ||| ((4294967295 ^^^ (x ^^^ y)) &&& d)) / 2147483648=if x < y+c then 1 else 0:=by
 have hd':d < 4294967296:=by omega
 have h1:4294967295 ^^^ x < 2 ^ 32:=Nat.xor_lt_two_pow (by decide) hx
 have h2:x ^^^ y < 2 ^ 32:=Nat.xor_lt_two_pow hx hy
 have h3:4294967295 ^^^ (x ^^^ y) < 2 ^ 32:=Nat.xor_lt_two_pow (by decide) h2
 have h4:(4294967295 ^^^ x) &&& y < 2 ^ 32:=Nat.and_lt_two_pow _ hy
 have h5:(4294967295 ^^^ (x ^^^ y)) &&& d < 2 ^ 32:=Nat.and_lt_two_pow _ hd'
 rw [top_bit _ (Nat.or_lt_two_pow h4 h5)]
 have tx:=top_bit x hx
 have ty:=top_bit y hy
 have td:=top_bit d hd'
 rw [Nat.testBit_or,Nat.testBit_and,Nat.testBit_and,Nat.testBit_xor,Nat.testBit_xor,Nat.testBit_xor,show (4294967295:Nat).testBit 31=true by decide]
 clear h1 h2 h3 h4 h5
 generalize x.testBit 31=p at *
 generalize y.testBit 31=q at *
 generalize d.testBit 31=r at *
 cases p <;> cases q <;> cases r <;> simp at tx ty td ⊢ <;> omega
def brw (x y c:Nat):Nat:=if x < y+c then 1 else 0
def dif (x y c:Nat):Nat:=(x+(4294967296 - y)+(4294967296 - c)) % 4294967296
theorem dif_brw (x y c:Nat) (hx:x < 4294967296) (hy:y < 4294967296) (hc:c ≤ 1):dif x y c+y+c=x+4294967296 * brw x y c ∧ brw x y c ≤ 1 ∧ dif x y c < 4294967296:=by
 unfold dif brw; split <;> omega
set_option maxHeartbeats 1000000 in
theorem sub32_any (x y c:Nat) (w:World) (hx:x < 4294967296) (hy:y < 4294967296) (hc:c ≤ 1) :
  Calls Tryz.prog 163 #[.int .u32 x,.int .u32 y,.int .u32 c] w fun e w'=>e = .returned (.tuple #[.int .u32 (dif x y c:Nat),.int .u32 (brw x y c:Nat)]) ∧ w=w':=by
 go_enter Tryz.func163,Tryz.ntmps163
 go_wp2
 go_ret2
 refine ⟨?_,rfl⟩
 have hd:((x:Int) - (y:Int) - (c:Int)) % 4294967296=((dif x y c:Nat):Int):=by unfold dif; omega
 have hb:=sub_borrow x y c (dif x y c) hx hy hc rfl
 have hl:=(dif_brw x y c hx hy hc).2.2
 have em:IntKind.u32.max=((4294967295:Nat):Int):=rfl
 refine ret_pair hd ?_
 rw [hd,em,u32_xor_nat _ _ (by decide) hx,u32_xor_nat _ _ hx hy]
 have h1:4294967295 ^^^ x < 2 ^ 32:=Nat.xor_lt_two_pow (by decide) hx
 have h2:x ^^^ y < 2 ^ 32:=Nat.xor_lt_two_pow hx hy
 have h3:4294967295 ^^^ (x ^^^ y) < 2 ^ 32:=Nat.xor_lt_two_pow (by decide) h2
 rw [u32_xor_nat _ _ (by decide) h2,u32_and_nat _ _ h1 hy,u32_and_nat _ _ h3 hl]
 have h4:(4294967295 ^^^ x) &&& y < 2 ^ 32:=Nat.and_lt_two_pow _ hy
 have h5:(4294967295 ^^^ (x ^^^ y)) &&& dif x y c < 2 ^ 32:=Nat.and_lt_two_pow _ hl
 rw [u32_or_nat _ _ h4 h5]
 unfold brw
 rw [← hb]
 omega
open Go.RowKit Fp
theorem add_row {O:List Nat} {k c x y P Q P' Q':Nat} (ho:O[k]? = some 0) (h:val O+4294967296 ^ k * c=P+Q)
  (hP:P'=P+4294967296 ^ k * x) (hQ:Q'=Q+4294967296 ^ k * y) :
  val (O.set k ((x+y+c) % 4294967296))+4294967296 ^ (k+1) * ((x+y+c) / 4294967296)=P'+Q':=by
 have h1:=mul_step (a:=1) (b:=x+y) (c:=c) ho
 rw [Nat.one_mul,Nat.add_zero] at h1
 rw [h1,h,hP,hQ,Nat.mul_add]
 omega
theorem sub_row {O:List Nat} {k c x y d c' P Q P' Q':Nat} (ho:O[k]? = some 0) (h:val O+Q=P+4294967296 ^ k * c)
  (hP:P'=P+4294967296 ^ k * x) (hQ:Q'=Q+4294967296 ^ k * y) (hd:d+y+c=x+4294967296 * c') :
  val (O.set k d)+Q'=P'+4294967296 ^ (k+1) * c':=by
 obtain ⟨hk,h0⟩:=List.getElem?_eq_some_iff.1 ho
 have h1:=val_set (x:=d) hk
 rw [h0,Nat.mul_zero,Nat.add_zero] at h1
 have e:=congrArg (4294967296 ^ k * ·) hd
 simp only [Nat.mul_add,← Nat.mul_assoc] at e
 rw [Nat.pow_succ,h1,hP,hQ]
 omega
def ZeroFrom (O:List Nat) (k:Nat):Prop:=∀ j,k ≤ j → j < O.length → O[j]? = some 0
theorem ZeroFrom.at {O:List Nat} {k:Nat} (h:ZeroFrom O k) (hk:k < O.length):O[k]? = some 0:=h k (Nat.le_refl _) hk
theorem ZeroFrom.set {O:List Nat} {k:Nat} (h:ZeroFrom O k) (v:Nat):ZeroFrom (O.set k v) (k+1):=fun j h1 h2=>by
 rw [List.getElem?_set_ne (by omega)]
 exact h j (by omega) (by simpa using h2)
theorem ZeroFrom.zeros (n:Nat):ZeroFrom (List.replicate n 0) 0:=fun j _ h=>by
 rw [List.getElem?_replicate]; rw [if_pos (by simpa using h)]
def RetV (w:World) (v n:Nat) (e:Ending) (w':World):Prop:=∃ T,val T=v ∧ Ok32 T ∧ T.length ≤ n ∧ RetL w T e w'
set_option maxHeartbeats 4000000 in
theorem natadd_ge (A B:Option Addr) (c d:Nat) (L M:List Nat) (w:World) (hs:Sl w A c L) (hr:Sl w B d M) (h1:L.length ≤ 3000) (_h2:M.length ≤ 3000) (hc:M.length ≤ L.length) :
  Calls Tryz.prog 144 #[.slice A L.length c,.slice B M.length d] w (RetV w (val L+val M) (L.length+1)):=by
 obtain ⟨l,hl⟩:∃ l,l=L.length:=⟨_,rfl⟩
 obtain ⟨m,hm⟩:∃ m,m=M.length:=⟨_,rfl⟩
 rw [← hl,← hm] at hc
 rw [← hl] at h1
 rw [← hm] at _h2
 have HL:=Lib.hid hl
 have HM:=Lib.hid hm
 rw [← hl,← hm]
 clear hl hm
 have d0:decide ((l:Int) < (m:Int))=false:=decide_eq_false (by omega)
 have d1:decide (l < m)=false:=decide_eq_false (by omega)
 have hmk:=make32 (l+1) (by omega)
 rw [show ((l+1:Nat):Int)=(l:Int)+1 by omega] at hmk
 have hR0:=Lib.hid (Rw.made w (l+1))
 go_enter Tryz.func144,Tryz.ntmps144
 go_wp2
 go_loopw [6,7,8,9,23] (fun cy _ _ _ i wr=>∃ (k q:Nat) (O:List Nat),k ≤ l ∧ i = .int .i64 k ∧ cy = .int .u32 q ∧ q ≤ 1 ∧ O.length=l+1 ∧ Ok32 O ∧ ZeroFrom O k ∧ val O+4294967296 ^ k * q=val (L.take k)+val (M.take k) ∧ Rw wr w.heap.size O ∧ Ext w wr) (fun _ _ _ _ i _=>l - (intOf i).toNat)
 case atStart =>
  exact ⟨0,0,List.replicate (l+1) 0,Nat.zero_le _,rfl,rfl,by decide,by simp,Ok32.replicate0 _,ZeroFrom.zeros _,by simp [val_replicate0],hR0.out,Ext.alloc _ _⟩
 case round =>
  obtain ⟨k,q,O,hk,rfl,rfl,hq,hO,hok,hz,hval,hR,hb⟩:=hrel
  have HV:=Lib.hid hval
  have HO:=Lib.hid hO
  clear hval hO
  have HZ:=Lib.hid hz
  clear hz
  by_cases hlt:k < l
  ·have hkX:k < L.length:=by have:=HL.out; omega
   obtain ⟨ab,ao,e1,_,c1⟩:=(hs.below hb).at_ hkX
   have hx32:L[k] < 4294967296:=hs.ok.get hkX
   have ho:=HZ.out.at (by have:=HO.out; omega)
   have c4:=hR.frozen k
   have hcz:=hR.cell ho
   have HT:=Lib.hid (val_take_succ L k hkX)
   have HY:=Lib.hid (val_take_getD M k)
   have hy32:M.getD k 0 < 4294967296:=hr.ok.getD k
   have HYc:=Lib.hid (fun (h:k < M.length)=>(hr.below hb).at_ h)
   have HYg:=Lib.hid (fun (h:k < M.length)=>getD_of_lt h)
   have HYn:=Lib.hid (fun (h:¬ k < M.length)=>getD_of_ge h)
   have HX:=Lib.hid (rfl:L[k]=L[k])
   obtain ⟨a,ha⟩:∃ a,a=L[k]:=⟨_,rfl⟩
   rw [← ha] at c1 hx32 HT
   clear ha HX hkX
   have HS:=Lib.hid (add_row ho HV.out HT.out HY.out)
   have HN:=Lib.hid (fun v=>HZ.out.set v)
   have HOK:=Lib.hid (fun v=>hok.set' k v)
   have HR2:=Lib.hid (fun v:Nat=>hR.set k v)
   have HE2:=Lib.hid (fun v:Value=>hb.setCell (p:=⟨w.heap.size,k,none⟩) (Nat.le_refl _) v)
   clear ho hR hb hok
   subst e1
   by_cases hym:k < m
   ·have hkY:k < M.length:=by have:=HM.out; omega
    obtain ⟨bb,bo,e2,_,c2⟩:=HYc.out hkY
    subst e2
    rw [← HYg.out hkY] at c2
    generalize M.getD k 0=b at *
    clear HYc HYg HYn hkY
    have HA:=Lib.hid (fun w=>add32_any a b q w hx32 hy32 hq)
    go_wp2_with fail
    refine (HA.out _).mono ?_
    rintro e w1 ⟨rfl,rfl⟩
    go_wp2
    go_roundw
    case rel =>
     exact ⟨k+1,(a+b+q) / 4294967296,O.set k ((a+b+q) % 4294967296),by omega,by go_num,rfl,by omega,by rw [List.length_set]; exact HO.out,HOK.out _,HN.out _,HS.out,HR2.out _,HE2.out _⟩
    case measure=>simp [intOf]; omega
   ·rw [HYn.out (by have:=HM.out; omega)] at HS
    clear HYc HYg HYn hy32 HY
    have HA:=Lib.hid (fun w=>add32_any a 0 q w hx32 (by decide) hq)
    go_wp2_with fail
    refine (HA.out _).mono ?_
    rintro e w1 ⟨rfl,rfl⟩
    go_wp2
    go_roundw
    case rel =>
     exact ⟨k+1,(a+0+q) / 4294967296,O.set k ((a+0+q) % 4294967296),by omega,by go_num,rfl,by omega,by rw [List.length_set]; exact HO.out,HOK.out _,HN.out _,HS.out,HR2.out _,HE2.out _⟩
    case measure=>simp [intOf]; omega
  ·obtain rfl:k=l:=by omega
   have ho:=HZ.out.at (by have:=HO.out; omega)
   have c4:=hR.frozen k
   have hcz:=hR.cell ho
   have HF:=Lib.hid (show val (O.set k q)=val L+val M by
    have h:=carry_step (c:=q) ho
    rw [Nat.zero_add,Nat.mod_eq_of_lt (by omega),Nat.div_eq_of_lt (by omega),Nat.mul_zero,Nat.add_zero,HV.out,show L.take k=L from List.take_of_length_le (by rw [HL.out]; exact Nat.le_refl _),show M.take k=M from List.take_of_length_le (by rw [← HM.out]; omega)] at h
    omega)
   have HLn:=Lib.hid (show (O.set k q).length=k+1 by rw [List.length_set]; exact HO.out)
   have HOK:Hid (Ok32 (O.set k q)):=hok.set k (by omega)
   have HR2:=Lib.hid (hR.set k q)
   have HE2:=Lib.hid (fun v:Value=>hb.setCell (p:=⟨w.heap.size,k,none⟩) (Nat.le_refl _) v)
   clear ho hR hb hok
   go_wp2
   go_ret
   have hsl:=HR2.out.sl HOK.out (by rw [HLn.out]; omega)
   rw [HLn.out] at hsl
   exact ⟨_,HF.out,HOK.out,by rw [HLn.out]; exact Nat.le_refl _,_,_,(by rw [HLn.out]; rfl),hsl,HE2.out _⟩
set_option maxHeartbeats 4000000 in
theorem natadd_lt (A B:Option Addr) (c d:Nat) (L M:List Nat) (w:World) (hs:Sl w A c L) (hr:Sl w B d M) (h1:L.length ≤ 3000) (h2:M.length ≤ 3000) (hc:L.length < M.length) :
  Calls Tryz.prog 144 #[.slice A L.length c,.slice B M.length d] w (RetV w (val L+val M) (M.length+1)):=by
 obtain ⟨l,hl⟩:∃ l,l=L.length:=⟨_,rfl⟩
 obtain ⟨m,hm⟩:∃ m,m=M.length:=⟨_,rfl⟩
 rw [← hl,← hm] at hc
 rw [← hl] at h1
 rw [← hm] at h2
 have HL:=Lib.hid hl
 have HM:=Lib.hid hm
 rw [← hl,← hm]
 clear hl hm
 have d0:decide ((l:Int) < (m:Int))=true:=decide_eq_true (by omega)
 have d1:decide (l < m)=true:=decide_eq_true (by omega)
 have hmk:=make32 (m+1) (by omega)
 rw [show ((m+1:Nat):Int)=(m:Int)+1 by omega] at hmk
 have hR0:=Lib.hid (Rw.made w (m+1))
 go_enter Tryz.func144,Tryz.ntmps144
 go_wp2
 go_loopw [6,7,8,9,23] (fun cy _ _ _ i wr=>∃ (k q:Nat) (O:List Nat),k ≤ m ∧ i = .int .i64 k ∧ cy = .int .u32 q ∧ q ≤ 1 ∧ O.length=m+1 ∧ Ok32 O ∧ ZeroFrom O k ∧ val O+4294967296 ^ k * q=val (M.take k)+val (L.take k) ∧ Rw wr w.heap.size O ∧ Ext w wr) (fun _ _ _ _ i _=>m - (intOf i).toNat)
 case atStart =>
  exact ⟨0,0,List.replicate (m+1) 0,Nat.zero_le _,rfl,rfl,by decide,by simp,Ok32.replicate0 _,ZeroFrom.zeros _,by simp [val_replicate0],hR0.out,Ext.alloc _ _⟩
 case round =>
  obtain ⟨k,q,O,hk,rfl,rfl,hq,hO,hok,hz,hval,hR,hb⟩:=hrel
  have HV:=Lib.hid hval
  have HO:=Lib.hid hO
  clear hval hO
  have HZ:=Lib.hid hz
  clear hz
  by_cases hlt:k < m
  ·have hkX:k < M.length:=by have:=HM.out; omega
   obtain ⟨ab,ao,e1,_,c1⟩:=(hr.below hb).at_ hkX
   have hx32:M[k] < 4294967296:=hr.ok.get hkX
   have ho:=HZ.out.at (by have:=HO.out; omega)
   have c4:=hR.frozen k
   have hcz:=hR.cell ho
   have HT:=Lib.hid (val_take_succ M k hkX)
   have HY:=Lib.hid (val_take_getD L k)
   have hy32:L.getD k 0 < 4294967296:=hs.ok.getD k
   have HYc:=Lib.hid (fun (h:k < L.length)=>(hs.below hb).at_ h)
   have HYg:=Lib.hid (fun (h:k < L.length)=>getD_of_lt h)
   have HYn:=Lib.hid (fun (h:¬ k < L.length)=>getD_of_ge h)
   have HX:=Lib.hid (rfl:M[k]=M[k])
   obtain ⟨a,ha⟩:∃ a,a=M[k]:=⟨_,rfl⟩
   rw [← ha] at c1 hx32 HT
   clear ha HX hkX
   have HS:=Lib.hid (add_row ho HV.out HT.out HY.out)
   have HN:=Lib.hid (fun v=>HZ.out.set v)
   have HOK:=Lib.hid (fun v=>hok.set' k v)
   have HR2:=Lib.hid (fun v:Nat=>hR.set k v)
   have HE2:=Lib.hid (fun v:Value=>hb.setCell (p:=⟨w.heap.size,k,none⟩) (Nat.le_refl _) v)
   clear ho hR hb hok
   subst e1
   by_cases hym:k < l
   ·have hkY:k < L.length:=by have:=HL.out; omega
    obtain ⟨bb,bo,e2,_,c2⟩:=HYc.out hkY
    subst e2
    rw [← HYg.out hkY] at c2
    generalize L.getD k 0=b at *
    clear HYc HYg HYn hkY
    have HA:=Lib.hid (fun w=>add32_any a b q w hx32 hy32 hq)
    go_wp2_with fail
    refine (HA.out _).mono ?_
    rintro e w1 ⟨rfl,rfl⟩
    go_wp2
    go_roundw
    case rel =>
     exact ⟨k+1,(a+b+q) / 4294967296,O.set k ((a+b+q) % 4294967296),by omega,by go_num,rfl,by omega,by rw [List.length_set]; exact HO.out,HOK.out _,HN.out _,HS.out,HR2.out _,HE2.out _⟩
    case measure=>simp [intOf]; omega
   ·rw [HYn.out (by have:=HL.out; omega)] at HS
    clear HYc HYg HYn hy32 HY
    have HA:=Lib.hid (fun w=>add32_any a 0 q w hx32 (by decide) hq)
    go_wp2_with fail
    refine (HA.out _).mono ?_
    rintro e w1 ⟨rfl,rfl⟩
    go_wp2
    go_roundw
    case rel =>
     exact ⟨k+1,(a+0+q) / 4294967296,O.set k ((a+0+q) % 4294967296),by omega,by go_num,rfl,by omega,by rw [List.length_set]; exact HO.out,HOK.out _,HN.out _,HS.out,HR2.out _,HE2.out _⟩
    case measure=>simp [intOf]; omega
  ·obtain rfl:k=m:=by omega
   have ho:=HZ.out.at (by have:=HO.out; omega)
   have c4:=hR.frozen k
   have hcz:=hR.cell ho
   have HF:=Lib.hid (show val (O.set k q)=val L+val M by
    have h:=carry_step (c:=q) ho
    rw [Nat.zero_add,Nat.mod_eq_of_lt (by omega),Nat.div_eq_of_lt (by omega),Nat.mul_zero,Nat.add_zero,HV.out,show M.take k=M from List.take_of_length_le (by rw [HM.out]; exact Nat.le_refl _),show L.take k=L from List.take_of_length_le (by rw [← HL.out]; omega)] at h
    omega)
   have HLn:=Lib.hid (show (O.set k q).length=k+1 by rw [List.length_set]; exact HO.out)
   have HOK:Hid (Ok32 (O.set k q)):=hok.set k (by omega)
   have HR2:=Lib.hid (hR.set k q)
   have HE2:=Lib.hid (fun v:Value=>hb.setCell (p:=⟨w.heap.size,k,none⟩) (Nat.le_refl _) v)
   clear ho hR hb hok
   go_wp2
   go_ret
   have hsl:=HR2.out.sl HOK.out (by rw [HLn.out]; omega)
   rw [HLn.out] at hsl
   exact ⟨_,HF.out,HOK.out,by rw [HLn.out]; exact Nat.le_refl _,_,_,(by rw [HLn.out]; rfl),hsl,HE2.out _⟩
theorem natadd_any (A B:Option Addr) (c d:Nat) (L M:List Nat) (w:World) (hs:Sl w A c L) (hr:Sl w B d M) (h1:L.length ≤ 3000) (h2:M.length ≤ 3000) :
  Calls Tryz.prog 144 #[.slice A L.length c,.slice B M.length d] w (RetV w (val L+val M) (max L.length M.length+1)):=by
 by_cases hc:M.length ≤ L.length
 ·rw [Nat.max_eq_left hc]; exact natadd_ge A B c d L M w hs hr h1 h2 hc
 ·rw [Nat.max_eq_right (by omega)]; exact natadd_lt A B c d L M w hs hr h1 h2 (by omega)
set_option maxHeartbeats 4000000 in
theorem natsub_any (A B:Option Addr) (c d:Nat) (L M:List Nat) (w:World) (hs0:Sl w A c L) (hr0:Sl w B d M) (h1:L.length ≤ 3000) (_h2:M.length ≤ 3000) (hle:val M ≤ val L) :
  Calls Tryz.prog 145 #[.slice A L.length c,.slice B M.length d] w (RetV w (val L - val M) L.length):=by
 have hTL:=Lib.hid (fun w (h:Sl w A c L)=>natTrim_any A c L w h)
 have hTM:=Lib.hid (fun w (h:Sl w B d M)=>natTrim_any B d M w h)
 have hs:=hs0.trim
 have hr:=hr0.trim
 have hvl:=val_trimL L
 have hvm:=val_trimL M
 have hl1:=tlen_le L
 have hl2:=tlen_le M
 have hlt0:(trimL M).length ≤ (trimL L).length:=by
  apply Classical.byContradiction
  intro h
  have:=val_lt_of_length hs.ok (trim_trimL M) (by omega)
  omega
 unfold tlen at hl1 hl2
 rw [← hvl,← hvm] at hle ⊢
 clear hvl hvm
 obtain ⟨n1,hn1⟩:∃ n,n=L.length:=⟨_,rfl⟩
 obtain ⟨n2,hn2⟩:∃ n,n=M.length:=⟨_,rfl⟩
 rw [← hn1] at h1 hl1 hTL ⊢
 rw [← hn2] at _h2 hl2 hTM ⊢
 have HTL:=Lib.hid (hTL.out w hs0)
 have HTM:=Lib.hid (hTM.out w hr0)
 clear hTL hTM hs0 hr0 hn1 hn2
 generalize trimL L=L at *
 generalize trimL M=M at *
 obtain ⟨l,hl⟩:∃ l,l=L.length:=⟨_,rfl⟩
 obtain ⟨m,hm⟩:∃ m,m=M.length:=⟨_,rfl⟩
 rw [← hl] at hl1 HTL hlt0
 rw [← hm] at hl2 HTM hlt0
 have HL:=Lib.hid hl
 have HM:=Lib.hid hm
 have HLE:=Lib.hid hle
 clear hl hm hle
 have hmk:=make32 l (by omega)
 have hR0:=Lib.hid (Rw.made w l)
 go_enter Tryz.func145,Tryz.ntmps145
 go_wp2_with fail
 refine HTL.out.mono ?_
 rintro e w1 ⟨rfl,rfl⟩
 go_wp2_with fail
 refine HTM.out.mono ?_
 rintro e w1 ⟨rfl,rfl⟩
 go_wp2
 go_loopw [6,7,8,9,19] (fun cy _ _ _ i wr=>∃ (k q:Nat) (O:List Nat),k ≤ l ∧ i = .int .i64 k ∧ cy = .int .u32 q ∧ q ≤ 1 ∧ O.length=l ∧ Ok32 O ∧ ZeroFrom O k ∧ val O+val (M.take k)=val (L.take k)+4294967296 ^ k * q ∧ Rw wr w.heap.size O ∧ Ext w wr) (fun _ _ _ _ i _=>l - (intOf i).toNat)
 case atStart =>
  exact ⟨0,0,List.replicate l 0,Nat.zero_le _,rfl,rfl,by decide,by simp,Ok32.replicate0 _,ZeroFrom.zeros _,by simp [val_replicate0],hR0.out,Ext.alloc _ _⟩
 case round =>
  obtain ⟨k,q,O,hk,rfl,rfl,hq,hO,hok,hz,hval,hR,hb⟩:=hrel
  have HV:=Lib.hid hval
  have HO:=Lib.hid hO
  clear hval hO
  have HZ:=Lib.hid hz
  clear hz
  by_cases hlt:k < l
  ·have hkX:k < L.length:=by have:=HL.out; omega
   obtain ⟨ab,ao,e1,_,c1⟩:=(hs.below hb).at_ hkX
   have hx32:L[k] < 4294967296:=hs.ok.get hkX
   have ho:=HZ.out.at (by have:=HO.out; omega)
   have c4:=hR.frozen k
   have hcz:=hR.cell ho
   have HT:=Lib.hid (val_take_succ L k hkX)
   have HY:=Lib.hid (val_take_getD M k)
   have hy32:M.getD k 0 < 4294967296:=hr.ok.getD k
   have HYc:=Lib.hid (fun (h:k < M.length)=>(hr.below hb).at_ h)
   have HYg:=Lib.hid (fun (h:k < M.length)=>getD_of_lt h)
   have HYn:=Lib.hid (fun (h:¬ k < M.length)=>getD_of_ge h)
   obtain ⟨a,ha⟩:∃ a,a=L[k]:=⟨_,rfl⟩
   rw [← ha] at c1 hx32 HT
   clear ha hkX
   have HN:=Lib.hid (fun v=>HZ.out.set v)
   have HOK:=Lib.hid (fun (v:Nat) (h:v < 4294967296)=>hok.set k h)
   have HR2:=Lib.hid (fun v:Nat=>hR.set k v)
   have HE2:=Lib.hid (fun v:Value=>hb.setCell (p:=⟨w.heap.size,k,none⟩) (Nat.le_refl _) v)
   have HO0:=Lib.hid ho
   clear ho hR hb hok
   subst e1
   by_cases hym:k < m
   ·have hkY:k < M.length:=by have:=HM.out; omega
    obtain ⟨bb,bo,e2,_,c2⟩:=HYc.out hkY
    subst e2
    rw [← HYg.out hkY] at c2
    generalize M.getD k 0=b at *
    clear HYc HYg HYn hkY
    have HS:=Lib.hid (sub_row HO0.out HV.out HT.out HY.out (dif_brw a b q hx32 hy32 hq).1)
    have HD:=Lib.hid (dif_brw a b q hx32 hy32 hq).2
    have HA:=Lib.hid (fun w=>sub32_any a b q w hx32 hy32 hq)
    generalize dif a b q=dd at *
    generalize brw a b q=bb' at *
    go_wp2_with fail
    refine (HA.out _).mono ?_
    rintro e w1 ⟨rfl,rfl⟩
    go_wp2
    go_roundw
    case rel =>
     exact ⟨k+1,bb',O.set k dd,by omega,by go_num,rfl,HD.out.1,by rw [List.length_set]; exact HO.out,HOK.out _ HD.out.2,HN.out _,HS.out,HR2.out _,HE2.out _⟩
    case measure=>simp [intOf]; omega
   ·rw [HYn.out (by have:=HM.out; omega)] at HY
    clear HYc HYg HYn hy32
    have HS:=Lib.hid (sub_row HO0.out HV.out HT.out HY.out (dif_brw a 0 q hx32 (by decide) hq).1)
    have HD:=Lib.hid (dif_brw a 0 q hx32 (by decide) hq).2
    have HA:=Lib.hid (fun w=>sub32_any a 0 q w hx32 (by decide) hq)
    generalize dif a 0 q=dd at *
    generalize brw a 0 q=bb' at *
    go_wp2_with fail
    refine (HA.out _).mono ?_
    rintro e w1 ⟨rfl,rfl⟩
    go_wp2
    go_roundw
    case rel =>
     exact ⟨k+1,bb',O.set k dd,by omega,by go_num,rfl,HD.out.1,by rw [List.length_set]; exact HO.out,HOK.out _ HD.out.2,HN.out _,HS.out,HR2.out _,HE2.out _⟩
    case measure=>simp [intOf]; omega
  ·obtain rfl:k=l:=by omega
   have HF:=Lib.hid (show val O=val L - val M by
    have h:=HV.out
    rw [show L.take k=L from List.take_of_length_le (by rw [HL.out]; exact Nat.le_refl _),show M.take k=M from List.take_of_length_le (by rw [← HM.out]; exact hlt0)] at h
    exact (sub_last hok HO.out h HLE.out).2)
   go_wp2
   go_ret
   have hsl:=hR.sl hok (by rw [HO.out]; omega)
   exact ⟨_,HF.out,hok,by rw [HO.out]; exact hl1,_,_,(by rw [HO.out]; rfl),hsl,hb⟩
open Go.RowKit Fp
theorem trimL_val {T:List Nat} {v:Nat} (h:Ok32 T) (hv:val T=v):trimL T=limbs v:=by rw [trimL_eq_limbs h,hv]
set_option maxHeartbeats 1000000 in
theorem natAdd_ok (A B:Option Addr) (c d:Nat) (L M:List Nat) (w:World) (hs:Sl w A c L) (hr:Sl w B d M) (h1:L.length ≤ 256) (h2:M.length ≤ 256) (hf:(limbs (val L+val M)).length ≤ 256) :
  Calls Tryz.prog 126 #[.slice A L.length c,.slice B M.length d] w (RetLE w (limbs (val L+val M)) 0):=by
 have H1:=Lib.hid (fun w (h:Sl w A c L) (k:Sl w B d M)=>natadd_any A B c d L M w h k (by omega) (by omega))
 generalize val L+val M=v at *
 go_enter Tryz.func126,Tryz.ntmps126
 go_wp2_with fail
 refine (longB_any _ A B _ c _ d _ false (SlS2a _ _ _ _ _ _ _) (SlS2b _ _ _ _ _ _ _) (by simp; omega)).mono ?_
 rintro e w' ⟨rfl,rfl⟩
 go_wp2_with fail
 refine (H1.out _ (hs.alloc _) (hr.alloc _)).mono ?_
 rintro e w' ⟨T,hv,hk,hl,A',c',rfl,hs',hb⟩
 have ht:=Lib.hid (trimL_val hk hv)
 go_wp2_with fail
 refine (natDone_ok A' c' T _ hs' (by rw [ht.out]; exact hf)).mono ?_
 rintro e w'' ⟨A'',c'',rfl,hs'',hb'⟩
 rw [ht.out] at hs'' ⊢
 go_wp2
 go_ret2
 exact ⟨A'',c'',rfl,hs'',(Ext.alloc _ _).trans (hb.trans hb')⟩
set_option maxHeartbeats 1000000 in
theorem natSub_ok (A B:Option Addr) (c d:Nat) (L M:List Nat) (w:World) (hs:Sl w A c L) (hr:Sl w B d M) (h1:L.length ≤ 256) (h2:M.length ≤ 256) (hle:val M ≤ val L) :
  Calls Tryz.prog 127 #[.slice A L.length c,.slice B M.length d] w (RetLE w (limbs (val L - val M)) 0):=by
 have H1:=Lib.hid (fun w (h:Sl w A c L) (k:Sl w B d M)=>natsub_any A B c d L M w h k (by omega) (by omega) hle)
 have HC:=Lib.hid (fun w (h:Sl w A c L) (k:Sl w B d M)=>natCmp_any A B c d L M w h k (by omega) (by omega))
 have hc:decide (cmpN (val L) (val M) < 0)=false:=by
  apply decide_eq_false
  unfold cmpN
  rw [if_neg (by omega)]
  split <;> decide
 have hf:(limbs (val L - val M)).length ≤ 256:=Nat.le_trans (limbs_len_mono (Nat.sub_le _ _)) (limbs_val_len hs.ok h1)
 generalize val L - val M=v at *
 generalize cmpN (val L) (val M)=q at *
 clear hle
 go_enter Tryz.func127,Tryz.ntmps127
 go_wp2_with fail
 refine (longB_any _ A B _ c _ d _ false (SlS2a _ _ _ _ _ _ _) (SlS2b _ _ _ _ _ _ _) (by simp; omega)).mono ?_
 rintro e w' ⟨rfl,rfl⟩
 go_wp2_with fail
 refine (HC.out _ (hs.alloc _) (hr.alloc _)).mono ?_
 rintro e w1 ⟨rfl,hb1⟩
 go_wp2_with fail
 refine (H1.out _ ((hs.alloc _).below hb1) ((hr.alloc _).below hb1)).mono ?_
 rintro e w' ⟨T,hv,hk,hl,A',c',rfl,hs',hb⟩
 have ht:=Lib.hid (trimL_val hk hv)
 go_wp2_with fail
 refine (natDone_ok A' c' T _ hs' (by rw [ht.out]; exact hf)).mono ?_
 rintro e w'' ⟨A'',c'',rfl,hs'',hb'⟩
 rw [ht.out] at hs'' ⊢
 go_wp2
 go_ret2
 exact ⟨A'',c'',rfl,hs'',(Ext.alloc _ _).trans (hb1.trans (hb.trans hb'))⟩
end Go.Proofs.YtkbjkchapnjhgaaGreatDoor
namespace Go.Proofs.YtkbjkchapnjhgaaGreatDoor.Fp
def chk (d:Dy):Dy:=if inRange d then d else zeroD
def chkE (d:Dy):Int:=if inRange d then 0 else 9
theorem chk_yes {d:Dy} (h:inRange d):chk d=d:=if_pos h
theorem chkE_yes {d:Dy} (h:inRange d):chkE d=0:=if_pos h
theorem chk_no {d:Dy} (h:¬ inRange d):chk d=zeroD:=if_neg h
theorem chkE_no {d:Dy} (h:¬ inRange d):chkE d=9:=if_neg h
theorem chk_valid {d:Dy} (h:d.Canon):(chk d).Valid:=by
 by_cases hr:inRange d
 ·rw [chk_yes hr]; exact ⟨h,hr⟩
 ·rw [chk_no hr]; exact zeroD_valid
theorem sumD_comm {a b:Dy} (ha:a.m ≠ 0) (hb:b.m ≠ 0):sumD a b=sumD b a:=by
 unfold sumD
 rw [if_neg ha,if_neg hb,if_neg hb,if_neg ha,Int.min_comm,Int.add_comm]
theorem sum_big1 {a b:Dy} (ha:a.Valid) (hb:b.Valid) (a0:a.m ≠ 0) (b0:b.m ≠ 0) {k:Int} (hk:min a.e b.e=k) (h1:4097 < a.top - k) (h2:1 < a.top - b.top):¬ inRange (sumD a b):=by
 have hka:k ≤ a.e:=by omega
 have hkb:k ≤ b.e:=by omega
 have m1:=bitsN_mag a0 hka
 have m2:=bitsN_mag b0 hkb
 have ta:a.top=bitsN a.m+a.e:=by unfold Dy.top; rw [if_neg a0]
 have tb:b.top=bitsN b.m+b.e:=by unfold Dy.top; rw [if_neg b0]
 have ba:bitsN a.m ≤ 4096:=by rcases ha.range with h | ⟨h,_⟩; exact absurd h a0; exact h
 have hne:a.e ≠ k:=by omega
 have hbk:b.e=k:=by omega
 have oa:a.mag k % 2=0:=by
  unfold Dy.mag
  obtain ⟨j,hj⟩:∃ j,(a.e - k).toNat=j+1:=⟨(a.e - k).toNat - 1,by omega⟩
  rw [hj,Nat.pow_succ,← Nat.mul_assoc,Nat.mul_mod_left]
 have ob:b.mag k % 2=1:=by
  unfold Dy.mag
  rw [hbk,show (k - k).toNat=0 by omega,Nat.pow_zero,Nat.mul_one]
  rcases hb.canon with ⟨h,_,_⟩ | h
  ·exact absurd h b0
  ·exact h
 have pa:=mag_pos a0 k
 obtain ⟨p,hp⟩:∃ p,bitsN (a.mag k)=p+2:=⟨bitsN (a.mag k) - 2,by omega⟩
 have l1:=two_pow_le_of_bitsN (show a.mag k ≠ 0 by omega)
 have l2:=lt_two_pow_bitsN (b.mag k)
 rw [hp,show p+2 - 1=p+1 by omega,Nat.pow_succ] at l1
 have l3:2 ^ bitsN (b.mag k) ≤ 2 ^ p:=Nat.pow_le_pow_right (by decide) (by omega)
 have hz:(a.num k+b.num k).natAbs % 2=1 ∧ 2 ^ p ≤ (a.num k+b.num k).natAbs:=by
  unfold Dy.num
  generalize a.mag k=x at *
  generalize b.mag k=y at *
  generalize 2 ^ p=P at *
  split <;> split <;> omega
 unfold sumD
 rw [if_neg a0,if_neg b0,hk]
 unfold canonZ
 generalize (a.num k+b.num k).natAbs=z at *
 generalize decide (a.num k+b.num k < 0)=s at *
 have hc:canon s z k=⟨s,z,k⟩:=Dy.Canon.canon_eq (d:=⟨s,z,k⟩) (.inr hz.1)
 rw [hc]
 have hb:=lt_bitsN_iff.2 hz.2
 rintro (h | ⟨h,_⟩)
 ·simp only at h; omega
 ·simp only at h; omega
theorem sum_big {a b:Dy} (ha:a.Valid) (hb:b.Valid) (a0:a.m ≠ 0) (b0:b.m ≠ 0) {k:Int} (hk:min a.e b.e=k) (h1:4097 < max a.top b.top - k) (h2:1 < a.top - b.top ∨ 1 < b.top - a.top):¬ inRange (sumD a b):=by
 rcases h2 with h2 | h2
 ·exact sum_big1 ha hb a0 b0 hk (by omega) h2
 ·rw [sumD_comm a0 b0]
  exact sum_big1 (k:=k) hb ha b0 a0 (by rw [Int.min_comm]; exact hk) (by omega) h2
theorem sum_fits {a b:Dy} (ha:a.Valid) (hb:b.Valid) (a0:a.m ≠ 0) (b0:b.m ≠ 0) {k:Int} (hk:min a.e b.e=k) (h:¬ (4097 < max a.top b.top - k ∧ (1 < a.top - b.top ∨ 1 < b.top - a.top))) :
  bitsN (a.m * 2 ^ (a.e - k).toNat) ≤ 4097 ∧ bitsN (b.m * 2 ^ (b.e - k).toNat) ≤ 4097:=by
 have ta:a.top=bitsN a.m+a.e:=by unfold Dy.top; rw [if_neg a0]
 have tb:b.top=bitsN b.m+b.e:=by unfold Dy.top; rw [if_neg b0]
 have ba:bitsN a.m ≤ 4096:=by rcases ha.range with h | ⟨h,_⟩; exact absurd h a0; exact h
 have bb:bitsN b.m ≤ 4096:=by rcases hb.range with h | ⟨h,_⟩; exact absurd h b0; exact h
 rw [bitsN_mul_pow a0,bitsN_mul_pow b0]
 omega
theorem bitsN_add {x y n:Nat} (hx:bitsN x ≤ n) (hy:bitsN y ≤ n):bitsN (x+y) ≤ n+1:=by
 rw [bitsN_le_iff] at *
 rw [Nat.pow_succ]; omega
def cutK (m:Nat) (e:Int) (p:Nat):Nat:=(max (max ((bitsN m:Int) - p) (-16384 - e)) 0).toNat
def cutQ (m:Nat) (e:Int) (more:Bool) (p:Nat) (out:Bool):Nat :=
 m / 2 ^ cutK m e p+if out=true ∧ (more=true ∨ m % 2 ^ cutK m e p ≠ 0) then 1 else 0
def cutOver (m:Nat) (e:Int) (more:Bool) (p:Nat) (out:Bool):Bool :=
 decide (cutQ m e more p out ≠ 0) && decide (16384 < (bitsN (cutQ m e more p out):Int)+e+cutK m e p)
def cutD (neg:Bool) (m:Nat) (e:Int) (more:Bool) (p:Nat) (up:Bool):Dy :=
 if cutOver m e more p (neg != up)=true then (if (neg != up)=true then zeroD else canon neg (2 ^ p - 1) (16384 - p)) else canon neg (cutQ m e more p (neg != up)) (e+cutK m e p)
def cutE (neg:Bool) (m:Nat) (e:Int) (more:Bool) (p:Nat) (up:Bool):Int :=
 if (cutOver m e more p (neg != up) && (neg != up))=true then 9 else 0
theorem div_div_mod {N d k:Nat}:(N / 2 ^ d % 2 ^ k ≠ 0 ∨ N % 2 ^ d ≠ 0) ↔ N % 2 ^ (d+k) ≠ 0:=by
 have e1:N % 2 ^ (d+k)=N % 2 ^ d+2 ^ d * (N / 2 ^ d % 2 ^ k):=by rw [Nat.pow_add,Nat.mod_mul]
 have hp:0 < 2 ^ d:=Nat.pow_pos (by decide)
 rw [e1]
 constructor
 ·rintro (h | h)
  ·have:=Nat.mul_pos hp (Nat.pos_of_ne_zero h)
   omega
  ·omega
 ·intro h
  by_cases h1:N % 2 ^ d=0
  ·left
   intro h2
   rw [h1,h2,Nat.mul_zero] at h
   exact h rfl
  ·exact .inr h1
theorem cut_shift {N:Nat} {E:Int} {more:Bool} {d p:Nat} (hb:p < bitsN (N / 2 ^ d)) :
  cutK (N / 2 ^ d) (E+d) p+d=cutK N E p ∧
  ∀ out,cutQ (N / 2 ^ d) (E+d) (more || decide (N % 2 ^ d ≠ 0)) p out=cutQ N E more p out:=by
 have hN:d < bitsN N:=by
  apply Classical.byContradiction
  intro h
  have h1:N < 2 ^ d:=bitsN_le_iff.1 (by omega)
  rw [Nat.div_eq_of_lt h1] at hb
  simp [bitsN] at hb
 have hbits:bitsN (N / 2 ^ d)+d=bitsN N:=by
  have h0:N / 2 ^ d ≠ 0:=by intro h; rw [h] at hb; simp [bitsN] at hb
  have h1:=two_pow_le_of_bitsN h0
  have h2:=lt_two_pow_bitsN (N / 2 ^ d)
  obtain ⟨j,hj⟩:∃ j,bitsN (N / 2 ^ d)=j+1:=⟨bitsN (N / 2 ^ d) - 1,by omega⟩
  rw [hj] at h1 h2 ⊢
  rw [Nat.add_sub_cancel,Nat.le_div_iff_mul_le (Nat.pow_pos (by decide)),← Nat.pow_add] at h1
  rw [Nat.div_lt_iff_lt_mul (Nat.pow_pos (by decide)),← Nat.pow_add] at h2
  have:=bitsN_eq (k:=j+d) h1 (by rw [show j+d+1=j+1+d by omega]; exact h2)
  omega
 have hk:cutK (N / 2 ^ d) (E+d) p+d=cutK N E p:=by
  unfold cutK; omega
 refine ⟨hk,fun out=>?_⟩
 unfold cutQ
 rw [← hk]
 generalize cutK (N / 2 ^ d) (E+d) p=k
 have hdm:=@div_div_mod N d k
 rw [show k+d=d+k by omega,Nat.div_div_eq_div_mul,← Nat.pow_add]
 congr 1
 have:((more || decide (N % 2 ^ d ≠ 0))=true ∨ N / 2 ^ d % 2 ^ k ≠ 0) ↔ (more=true ∨ N % 2 ^ (d+k) ≠ 0):=by
  rw [← hdm]
  simp only [Bool.or_eq_true,decide_eq_true_eq]
  constructor
  ·rintro ((h | h) | h)
   ·exact .inl h
   ·exact .inr (.inr h)
   ·exact .inr (.inl h)
  ·rintro (h | h | h)
   ·exact .inl (.inl h)
   ·exact .inr h
   ·exact .inl (.inr h)
 by_cases ho:out=true
 ·simp only [ho,true_and,this]
 ·rw [if_neg (fun h=>ho h.1),if_neg (fun h=>ho h.1)]
theorem cutD_shift {N:Nat} {E:Int} {more:Bool} {d p:Nat} (neg up:Bool) (hb:p < bitsN (N / 2 ^ d)) :
  cutD neg (N / 2 ^ d) (E+d) (more || decide (N % 2 ^ d ≠ 0)) p up=cutD neg N E more p up ∧
  cutE neg (N / 2 ^ d) (E+d) (more || decide (N % 2 ^ d ≠ 0)) p up=cutE neg N E more p up:=by
 obtain ⟨hk,hq⟩:=cut_shift (more:=more) (E:=E) hb
 have hq:=hq (neg != up)
 have e1:E+(d:Int)+(cutK (N / 2 ^ d) (E+d) p:Int)=E+(cutK N E p:Int):=by omega
 have e2:(bitsN (cutQ N E more p (neg != up)):Int)+(E+(d:Int))+(cutK (N / 2 ^ d) (E+d) p:Int)=(bitsN (cutQ N E more p (neg != up)):Int)+E+(cutK N E p:Int):=by omega
 have ho:cutOver (N / 2 ^ d) (E+d) (more || decide (N % 2 ^ d ≠ 0)) p (neg != up)=cutOver N E more p (neg != up):=by
  unfold cutOver
  rw [hq,e2]
 unfold cutD cutE
 rw [hq,ho,e1]
 exact ⟨rfl,rfl⟩
theorem canon_mul (s:Bool) (m:Nat) (e:Int) (j:Nat):canon s (m * 2 ^ j) (e - j)=canon s m e:=by
 by_cases h0:m=0
 ·subst h0; rw [Nat.zero_mul]; rfl
 ·have h1:m * 2 ^ j ≠ 0:=Nat.mul_ne_zero h0 (Nat.ne_of_gt (Nat.pow_pos (by decide)))
  obtain ⟨q,hq,he⟩:=ctzN_spec h0
  have hc:ctzN (m * 2 ^ j)=ctzN m+j:=by
   conv=>lhs; rw [he,Nat.mul_assoc,← Nat.pow_add]
   exact ctzN_mul hq _
  unfold canon
  rw [if_neg h1,if_neg h0,hc,Nat.pow_add,Nat.mul_comm (2 ^ ctzN m),← Nat.div_div_eq_div_mul,Nat.mul_div_cancel _ (Nat.pow_pos (by decide))]
  rw [show e - (j:Int)+((ctzN m+j:Nat):Int)=e+(ctzN m:Int) by omega]
theorem cut_mul (neg up:Bool) (N:Nat) (E:Int) (j p:Nat) (h0:N ≠ 0) :
  cutD neg (N * 2 ^ j) (E - j) false p up=cutD neg N E false p up ∧ cutE neg (N * 2 ^ j) (E - j) false p up=cutE neg N E false p up:=by
 have hbits:=bitsN_mul_pow h0 j
 by_cases hk:cutK N E p=0
 ·
  have hk2:cutK (N * 2 ^ j) (E - j) p ≤ j:=by unfold cutK at hk ⊢; rw [hbits]; omega
  obtain ⟨i,hi⟩:∃ i,j=i+cutK (N * 2 ^ j) (E - j) p:=⟨j - cutK (N * 2 ^ j) (E - j) p,by omega⟩
  generalize hK:cutK (N * 2 ^ j) (E - j) p=k at *
  have hdiv:N * 2 ^ j / 2 ^ k=N * 2 ^ i:=by
   rw [hi,Nat.pow_add,← Nat.mul_assoc,Nat.mul_div_cancel _ (Nat.pow_pos (by decide))]
  have hmod:N * 2 ^ j % 2 ^ k=0:=by
   rw [hi,Nat.pow_add,← Nat.mul_assoc]; exact Nat.mul_mod_left _ _
  have hq:∀ out,cutQ (N * 2 ^ j) (E - j) false p out=N * 2 ^ i:=fun out=>by
   unfold cutQ; rw [hK,hdiv,hmod]; simp
  have hq2:∀ out,cutQ N E false p out=N:=fun out=>by
   unfold cutQ; rw [hk]; simp [Nat.mod_one]
  have hne:N * 2 ^ i ≠ 0:=Nat.mul_ne_zero h0 (Nat.ne_of_gt (Nat.pow_pos (by decide)))
  have ho:∀ out,cutOver (N * 2 ^ j) (E - j) false p out=cutOver N E false p out:=fun out=>by
   unfold cutOver
   rw [hq,hq2,hK,hk,bitsN_mul_pow h0 i]
   simp only [ne_eq,hne,h0,not_false_eq_true,decide_true,Bool.true_and]
   rw [decide_eq_decide]; omega
  unfold cutD cutE
  rw [ho,hq,hq2,hK,hk]
  rw [show E - (j:Int)+(k:Int)=E+((0:Nat):Int) - (i:Int) by omega,canon_mul]
  exact ⟨rfl,rfl⟩
 ·have hk2:cutK (N * 2 ^ j) (E - j) p=cutK N E p+j:=by unfold cutK at hk ⊢; rw [hbits]; omega
  have hq:∀ out,cutQ (N * 2 ^ j) (E - j) false p out=cutQ N E false p out:=fun out=>by
   unfold cutQ
   rw [hk2,Nat.pow_add,Nat.mul_comm (2 ^ cutK N E p),← Nat.div_div_eq_div_mul,Nat.mul_div_cancel _ (Nat.pow_pos (by decide)),Nat.mul_comm N,Nat.mul_mod_mul_left]
   have:(2 ^ j * (N % 2 ^ cutK N E p) ≠ 0) ↔ (N % 2 ^ cutK N E p ≠ 0):=by
    rw [ne_eq,ne_eq,Nat.mul_eq_zero]
    have:=Nat.pow_pos (n:=j) (by decide:0 < 2)
    omega
   simp only [this]
  have ho:∀ out,cutOver (N * 2 ^ j) (E - j) false p out=cutOver N E false p out:=fun out=>by
   unfold cutOver
   rw [hq,hk2]
   congr 2
   rw [eq_iff_iff]; omega
  unfold cutD cutE
  rw [ho,hq,hk2]
  rw [show E - (j:Int)+((cutK N E p+j:Nat):Int)=E+(cutK N E p:Int) by omega]
  exact ⟨rfl,rfl⟩
def rndD (d:Dy) (p:Nat) (up:Bool):Dy:=cutD d.neg d.m d.e false p up
def rndE (d:Dy) (p:Nat) (up:Bool):Int:=cutE d.neg d.m d.e false p up
theorem rnd_canon (s up:Bool) (m:Nat) (e:Int) (p:Nat) (h0:m ≠ 0) :
  rndD (canon s m e) p up=cutD s m e false p up ∧ rndE (canon s m e) p up=cutE s m e false p up:=by
 have hm:=div_ctz_mul h0
 have hq:m / 2 ^ ctzN m ≠ 0:=by have:=odd_div_ctz h0; omega
 have h:=cut_mul s up (m / 2 ^ ctzN m) (e+ctzN m) (ctzN m) p hq
 rw [hm,show e+(ctzN m:Int) - (ctzN m:Int)=e by omega] at h
 unfold rndD rndE canon
 rw [if_neg h0]
 exact ⟨h.1.symm,h.2.symm⟩
theorem canon_bits {s:Bool} {m:Nat} {e:Int} (h0:m ≠ 0):(bitsN (canon s m e).m:Int)+(canon s m e).e=bitsN m+e ∧ e ≤ (canon s m e).e ∧ (canon s m e).m ≠ 0 ∧ bitsN (canon s m e).m ≤ bitsN m:=by
 have hm:=div_ctz_mul h0
 have hq:m / 2 ^ ctzN m ≠ 0:=by have:=odd_div_ctz h0; omega
 have h:=bitsN_mul_pow hq (ctzN m)
 rw [hm] at h
 unfold canon
 rw [if_neg h0]
 simp only
 exact ⟨by omega,by omega,hq,by omega⟩
theorem div_cut_bits (m:Nat) (e:Int) (p:Nat):m / 2 ^ cutK m e p < 2 ^ p:=by
 rw [Nat.div_lt_iff_lt_mul (Nat.pow_pos (by decide)),← Nat.pow_add]
 refine bitsN_le_iff.1 ?_
 unfold cutK; omega
theorem canon_pow_bits {s:Bool} {q p:Nat} {e:Int} (h:q ≤ 2 ^ p) (hp:1 ≤ p):bitsN (canon s q e).m ≤ p:=by
 by_cases h0:q=0
 ·subst h0; exact Nat.zero_le _
 ·by_cases h1:q=2 ^ p
  ·have hc:ctzN q=p:=by rw [h1]; have:=ctzN_mul (m:=1) rfl p; rwa [Nat.one_mul] at this
   unfold canon
   rw [if_neg h0,hc,h1,Nat.div_self (Nat.pow_pos (by decide))]
   exact Nat.le_trans (bitsN_le_iff.2 (show 1 < 2 ^ 1 by decide)) hp
  ·exact Nat.le_trans (canon_bits h0).2.2.2 (bitsN_le_iff.2 (by omega))
theorem cutQ_le (m:Nat) (e:Int) (more:Bool) (p:Nat) (out:Bool):cutQ m e more p out ≤ 2 ^ p:=by
 have:=div_cut_bits m e p
 unfold cutQ
 split <;> omega
theorem cut_valid (neg:Bool) (m:Nat) (e:Int) (more:Bool) (p:Nat) (up:Bool) (hp:1 ≤ p) (hp2:p ≤ 4096):(cutD neg m e more p up).Valid:=by
 unfold cutD
 by_cases ho:cutOver m e more p (neg != up)=true
 ·rw [if_pos ho]
  by_cases hn:(neg != up)=true
  ·rw [if_pos hn]; exact zeroD_valid
  ·rw [if_neg hn]
   have hpp:2 ≤ 2 ^ p:=by
    have:=Nat.pow_le_pow_right (n:=2) (by decide) hp
    omega
   have h0:2 ^ p - 1 ≠ 0:=by omega
   have hb:bitsN (2 ^ p - 1)=p:=by
    obtain ⟨j,rfl⟩:∃ j,p=j+1:=⟨p - 1,by omega⟩
    have h2:2 ^ (j+1)=2 ^ j * 2:=Nat.pow_succ _ _
    have h3:=Nat.pow_pos (n:=j) (by decide:0 < 2)
    exact bitsN_eq (by omega) (by omega)
   obtain ⟨h1,h2,h3,h4⟩:=canon_bits (s:=neg) (e:=(16384:Int) - p) h0
   have h5:=bitsN_pos h3
   exact ⟨canon_canon _ _ _,.inr ⟨by omega,by omega,by omega,by omega⟩⟩
 ·rw [if_neg ho]
  refine ⟨canon_canon _ _ _,?_⟩
  by_cases h0:cutQ m e more p (neg != up)=0
  ·rw [h0]; exact .inl rfl
  ·have hq:=canon_pow_bits (s:=neg) (e:=e+(cutK m e p:Int)) (cutQ_le m e more p (neg != up)) hp
   obtain ⟨h1,h2,h3,h4⟩:=canon_bits (s:=neg) (e:=e+(cutK m e p:Int)) h0
   have h5:=bitsN_pos h3
   have h6:-16384 ≤ e+(cutK m e p:Int):=by unfold cutK; omega
   unfold cutOver at ho
   simp only [ne_eq,h0,not_false_eq_true,decide_true,Bool.true_and,decide_eq_true_eq] at ho
   exact .inr ⟨by omega,by omega,by omega,by omega⟩
theorem cutE_zero {neg:Bool} {m:Nat} {e:Int} {more:Bool} {p:Nat} {up:Bool}:cutE neg m e more p up=0 ↔ ¬ (cutOver m e more p (neg != up)=true ∧ (neg != up)=true):=by
 unfold cutE
 cases cutOver m e more p (neg != up) <;> cases (neg != up) <;> simp
theorem cut_le (neg:Bool) (m:Nat) (e:Int) (more:Bool) (p:Nat) (h1:cutE neg m e more p false=0) (h2:cutE neg m e more p true=0) :
  cmpD (cutD neg m e more p false) (cutD neg m e more p true) ≤ 0:=by
 have hout:¬ cutOver m e more p true=true:=by
  cases neg
  ·rw [cutE_zero] at h2; simpa using h2
  ·rw [cutE_zero] at h1; simpa using h1
 have hle:cutQ m e more p false ≤ cutQ m e more p true:=by
  unfold cutQ
  simp only [Bool.false_eq_true,false_and,if_false]
  omega
 have hin:¬ cutOver m e more p false=true:=by
  unfold cutOver at hout ⊢
  intro h
  apply hout
  simp only [Bool.and_eq_true,decide_eq_true_eq] at h ⊢
  have:=bitsN_mono hle
  exact ⟨by omega,by omega⟩
 have key:∀ o:Bool,¬ cutOver m e more p o=true:=fun o=>by cases o; exact hin; exact hout
 unfold cutD
 rw [if_neg (key _),if_neg (key _)]
 rw [cmpD_at (k:=e+(cutK m e p:Int)) (above_canon (Int.le_refl _)) (above_canon (Int.le_refl _)),num_canon (Int.le_refl _),num_canon (Int.le_refl _)]
 rw [show (e+(cutK m e p:Int) - (e+(cutK m e p:Int))).toNat=0 by omega]
 simp only [Nat.pow_zero,Nat.mul_one]
 unfold cmpI
 cases neg
 ·simp only [Bool.false_eq_true,if_false,Bool.false_bne]
  split
  ·decide
  ·split <;> omega
 ·simp only [if_true,Bool.true_bne,Bool.not_false,Bool.not_true]
  split
  ·decide
  ·split <;> omega
end Go.Proofs.YtkbjkchapnjhgaaGreatDoor.Fp
