/- The law VariationNilpotent returns true: the flow matrix of a matrix with zeros on and below its diagonal contains the identity, the matrix times h, and half of its square times the square of h, for every input. -/
import Derived.Test.YtdppllbbgfekaaaGreatDoorM04
set_option linter.unusedSimpArgs false
set_option linter.unusedVariables false
namespace Go.Proofs.YtdppllbbgfekaaaGreatDoor
open Go.RowKit Fp Pu
theorem elM_val {a : List (List Iv)} {n k : Nat} (ga : MOk a n k) (i j : Nat) : (elM a i j).Valid := elV ga i j
theorem elM_mul {a b : List (List Iv)} {n k c p : Nat} (ga : MOk a n k) (gb : MOk b k c) {i j : Nat} (hi : i < n) (hj : j < c) : elM (mulM a b p) i j = dotP (elM a i) (fun q => elM b q j) p (k - 1) := by
 have k1 := ga.k1
 rw [← wholeM_mulM (n := n) (k := k - 1) (c := c) (a := a) (b := b) (p := p) ga.rows (fun i hi => by rw [ga.len_at hi]; omega) (by rw [gb.rows]; omega) (gb.len_at (by omega))]
 unfold elM
 rw [wholeM_row hi, range_getD hj]
theorem elM_scale {a : List (List Iv)} {x : Iv} {n k p : Nat} (ga : MOk a n k) {i j : Nat} (hi : i < n) (hj : j < k) : elM (scaleM a x p) i j = mulI x (elM a i j) p := by
 rw [← wholeM_scaleM]
 unfold elM
 rw [wholeM_row (by rw [ga.rows]; exact hi), range_getD (by rw [ga.len_at hi]; exact hj)]
theorem elM_add {a b : List (List Iv)} {n k p : Nat} (ga : MOk a n k) (gb : MOk b n k) {i j : Nat} (hi : i < n) (hj : j < k) : elM (addM a b p) i j = addI (elM a i j) (elM b i j) p := by
 rw [← wholeM_addM ga gb]
 unfold elM
 rw [wholeM_row (by rw [ga.rows]; exact hi), range_getD (by rw [ga.len_at hi]; exact hj)]
theorem elM_ident {n i j : Nat} (hi : i < n) (hj : j < n) : elM (identM n) i j = pointI (if i = j then ⟨false, 1, 0⟩ else zeroD) := by
 unfold elM
 have : identM n = wholeM n (fun _ => n) (fun i j => pointI (if i = j then ⟨false, 1, 0⟩ else zeroD)) := rfl
 rw [this, wholeM_row hi, range_getD hj]
theorem elM_map {a : List (List Iv)} {n k : Nat} (ga : MOk a n k) (f : Iv → Iv) {i j : Nat} (hi : i < n) (hj : j < k) : elM (a.map fun r => r.map f) i j = f (elM a i j) := by
 have h1 := ga.rows
 have h2 := ga.len_at hi
 have e1 : (a.map fun r => r.map f).getD i [] = (a.getD i []).map f := by
  rw [List.getD_eq_getElem?_getD, List.getD_eq_getElem?_getD, List.getElem?_map, List.getElem?_eq_getElem (by omega)]; rfl
 unfold elM
 rw [e1]
 generalize a.getD i [] = r at *
 rw [List.getD_eq_getElem?_getD, List.getD_eq_getElem?_getD, List.getElem?_map, List.getElem?_eq_getElem (by omega)]; rfl
def SubM (n k : Nat) (a b : List (List Iv)) : Prop := ∀ i j, i < n → j < k → Sub (elM a i j) (elM b i j)
theorem dotP_sub {X Y X' Y' : Nat → Iv} {p : Nat} (hp : 1 ≤ p) (hp2 : p ≤ 4096) (hX : ∀ q, (X q).Valid) (hY : ∀ q, (Y q).Valid) (hX' : ∀ q, (X' q).Valid) (hY' : ∀ q, (Y' q).Valid) :
  ∀ k, (∀ q, q ≤ k → Sub (X q) (X' q)) → (∀ q, q ≤ k → Sub (Y q) (Y' q)) → Sub (dotP X Y p k) (dotP X' Y' p k)
 | 0, h1, h2 => mulI_sub (hX 0) (hY 0) (hX' 0) (hY' 0) hp hp2 (h1 0 (Nat.le_refl _)) (h2 0 (Nat.le_refl _))
 | k + 1, h1, h2 => addI_sub (dotP_valid X Y hp hp2 k) (mulI_valid _ _ hp hp2) (dotP_valid X' Y' hp hp2 k) (mulI_valid _ _ hp hp2) hp hp2
   (dotP_sub hp hp2 hX hY hX' hY' k (fun q hq => h1 q (by omega)) (fun q hq => h2 q (by omega))) (mulI_sub (hX _) (hY _) (hX' _) (hY' _) hp hp2 (h1 _ (Nat.le_refl _)) (h2 _ (Nat.le_refl _)))
theorem mulM_sub {a b a' b' : List (List Iv)} {n k c p : Nat} (ga : MOk a n k) (gb : MOk b k c) (ga' : MOk a' n k) (gb' : MOk b' k c) (hp : 1 ≤ p) (hp2 : p ≤ 4096) (h1 : SubM n k a a') (h2 : SubM k c b b') : SubM n c (mulM a b p) (mulM a' b' p) := by
 intro i j hi hj
 have k1 := ga.k1
 rw [elM_mul ga gb hi hj, elM_mul ga' gb' hi hj]
 exact dotP_sub hp hp2 (elM_val ga i) (fun q => elM_val gb q j) (elM_val ga' i) (fun q => elM_val gb' q j) _ (fun q hq => h1 i q hi (by omega)) (fun q hq => h2 q j (by omega) hj)
theorem scaleM_sub {a a' : List (List Iv)} {x x' : Iv} {n k p : Nat} (ga : MOk a n k) (ga' : MOk a' n k) (hx : x.Valid) (hx' : x'.Valid) (hp : 1 ≤ p) (hp2 : p ≤ 4096) (h1 : SubM n k a a') (h2 : Sub x x') : SubM n k (scaleM a x p) (scaleM a' x' p) := by
 intro i j hi hj
 rw [elM_scale ga hi hj, elM_scale ga' hi hj]
 exact mulI_sub hx (elM_val ga i j) hx' (elM_val ga' i j) hp hp2 h2 (h1 i j hi hj)
section
variable {m m' : List (List Iv)} {h h' : Iv} {n p : Nat}
theorem numI_val (j : Nat) (hj : j < 4294967296) : (numI ((j : Nat) : Int)).Valid := pointI_valid (intD_valid j hj)
theorem divh_sub (hh : h.Valid) (hh' : h'.Valid) (hp : 1 ≤ p) (hp2 : p ≤ 4096) (h2 : Sub h h') (j : Nat) (hj : j < 4294967296) : Sub (divI h (numI ((j : Nat) : Int)) p) (divI h' (numI ((j : Nat) : Int)) p) :=
 divI_sub hh (numI_val j hj) hh' (numI_val j hj) hp hp2 h2 (Sub.refl _)
theorem termM_sub (ga : MOk m n n) (ga' : MOk m' n n) (hh : h.Valid) (hh' : h'.Valid) (hp : 1 ≤ p) (hp2 : p ≤ 4096) (h1 : SubM n n m m') (h2 : Sub h h') : ∀ j, j < 4294967296 → SubM n n (termM m h p j) (termM m' h' p j)
 | 0, _ => by
  intro i j _ _
  unfold termM
  rw [ga.rows, ga'.rows]
  exact Sub.refl _
 | j + 1, hj => scaleM_sub (mulM_ok (termM_ok ga hp hp2 j) ga hp hp2) (mulM_ok (termM_ok ga' hp hp2 j) ga' hp hp2) (divI_valid _ _ hp hp2) (divI_valid _ _ hp hp2) hp hp2
   (mulM_sub (termM_ok ga hp hp2 j) ga (termM_ok ga' hp hp2 j) ga' hp hp2 (termM_sub ga ga' hh hh' hp hp2 h1 h2 j (by omega)) h1) (divh_sub hh hh' hp hp2 h2 (j + 1) hj)
end
theorem nsum_sub {r r' : List Iv} {p : Nat} (hp : 1 ≤ p) (hp2 : p ≤ 4096) (v : ∀ i, (r.getD i wholeI).Valid) (v' : ∀ i, (r'.getD i wholeI).Valid) : ∀ k, (∀ i, i < k → Sub (r.getD i wholeI) (r'.getD i wholeI)) → (∀ i, i < k → NGood r' p i) →
  (∀ i, i < k → NGood r p i) ∧ (nsum r p k).q ≤ (nsum r' p k).q
 | 0, _, _ => ⟨fun i hi => absurd hi (Nat.not_lt_zero i), Rat.le_refl⟩
 | k + 1, hs, hg => by
  obtain ⟨h1, h2⟩ := nsum_sub hp hp2 v v' k (fun i hi => hs i (by omega)) (fun i hi => hg i (by omega))
  obtain ⟨g1, g2⟩ := hg k (by omega)
  have s := hs k (by omega)
  have hm := magI_sub (v k) (v' k) s g1
  have mv : ∀ {x : Iv}, x.Valid → (magI x).Canon := fun h => maxD_canon (absD_canon h.canons.1) (absD_canon h.canons.2)
  have A := rnd_up (canon_sumD (nsum_valid r hp hp2 k).canon (mv (v k))) hp hp2
  have B := rnd_up (canon_sumD (nsum_valid r' hp hp2 k).canon (mv (v' k))) hp hp2
  rw [q_sum] at A B
  obtain ⟨b1, b2⟩ := B.1 g2
  obtain ⟨a1, a2⟩ := A.2 _ b1 (by grind)
  refine ⟨fun i hi => ?_, a2⟩
  rcases Nat.lt_or_eq_of_le (Nat.le_of_lt_succ hi) with h | h
  ·exact h1 i h
  ·subst h; exact ⟨(s.known g1).1, a1⟩
theorem nmost_max (m : List (List Iv)) (p x : Nat) : nmost m p (x + 1) = maxD (nmost m p x) (nsum (m.getD x []) p (m.getD x []).length) := rfl
theorem normM_sub {m m' : List (List Iv)} {n k p : Nat} (ga : MOk m n k) (ga' : MOk m' n k) (hp : 1 ≤ p) (hp2 : p ≤ 4096) (h1 : SubM n k m m') {N' : Dy} (hN : normM m' p = some N') :
  ∃ N, normM m p = some N ∧ N.q ≤ N'.q ∧ N = nmost m p n ∧ N' = nmost m' p n := by
 have good' : ∀ i, i < n → ∀ j, j < k → NGood (m'.getD i []) p j := by
  intro i hi j hj
  apply Classical.byContradiction
  intro hc
  rw [normM_none (i := i) (by rw [ga'.rows]; exact hi) (by rw [ga'.len_at hi]; exact hj) hc] at hN
  cases hN
 have row := fun i (hi : i < n) => nsum_sub (r := m.getD i []) (r' := m'.getD i []) hp hp2 (elM_val ga i) (elM_val ga' i) k (fun j hj => h1 i j hi hj) (good' i hi)
 have e' : normM m' p = some (nmost m' p n) := by
  rw [← ga'.rows]; exact normM_some fun i hi j hj => good' i (by rw [← ga'.rows]; exact hi) j (by rw [ga'.len_at (by rw [← ga'.rows]; exact hi)] at hj; exact hj)
 have e : normM m p = some (nmost m p n) := by
  rw [← ga.rows]; exact normM_some fun i hi j hj => (row i (by rw [← ga.rows]; exact hi)).1 j (by rw [ga.len_at (by rw [← ga.rows]; exact hi)] at hj; exact hj)
 rw [e'] at hN
 cases hN
 refine ⟨_, e, ?_, rfl, rfl⟩
 have : ∀ x, x ≤ n → (nmost m p x).q ≤ (nmost m' p x).q := by
  intro x
  induction x with
  | zero => intro _; exact Rat.le_refl
  | succ x ih =>
   intro hx
   have i1 := ih (by omega)
   have i2 := (row x (by omega)).2
   rw [nmost_max, nmost_max, ga.len_at (by omega), ga'.len_at (by omega)]
   obtain ⟨a1, a2, a3⟩ := q_max (nmost m p x) (nsum (m.getD x []) p k)
   obtain ⟨b1, b2, b3⟩ := q_max (nmost m' p x) (nsum (m'.getD x []) p k)
   grind
 exact this n (Nat.le_refl _)
theorem q_nn {d : Dy} (h : d.neg = false) : 0 ≤ d.q := by
 rw [q_of, h]; exact Rat.mul_nonneg (Rat.natCast_nonneg) (Rat.le_of_lt (P2_pos _))
structure Lq (x y : Iv) : Prop where
 v : x.Valid
 v' : y.Valid
 nn : x.NN
 nn' : y.NN
 le : y.all = true ∨ (x.all = false ∧ x.hi.q ≤ y.hi.q)
theorem Fp.Iv.has.nn {x : Iv} {r : Rat} (h : x.has r) (k : x.all = false) (hx : x.NN) : 0 ≤ r ∧ r ≤ x.hi.q := by
 obtain ⟨h1, h2⟩ := h.ends k
 have := q_nn hx.lo
 exact ⟨by grind, h2⟩
theorem G_zero (p : Nat) : G p 0 := .inl (GM_zero p)
theorem G_one {p : Nat} (hp : 1 ≤ p) : G p 1 := .inl ⟨1, 0, by rw [bitsN_one]; exact hp, by omega, by rw [bitsN_one]; omega, by rw [P2_zero]; simp⟩
theorem mulI_lq {x y x' y' : Iv} {p : Nat} (hp : 1 ≤ p) (hp2 : p ≤ 4096) (h : Lq x x') (k : Lq y y') : Lq (mulI x y p) (mulI x' y' p) := by
 refine ⟨mulI_valid _ _ hp hp2, mulI_valid _ _ hp hp2, mulI_nn h.nn k.nn p, mulI_nn h.nn' k.nn' p, ?_⟩
 rcases h.le with ha | ⟨h1, h2⟩
 ·rw [mulI_wh p (.inl ha)]; exact .inl rfl
 ·rcases k.le with ka | ⟨k1, k2⟩
  ·rw [mulI_wh p (.inr ka)]; exact .inl rfl
  ·cases xa : x'.all
   ·cases ya : y'.all
    ·cases za : (mulI x' y' p).all
     ·right
      have B' := mulI_best h.v' k.v' xa ya hp hp2
      obtain ⟨g1, g2⟩ := B'.on za
      have hU := (B'.has _ ⟨_, _, h.v'.has_hi, k.v'.has_hi, rfl⟩).ends za
      obtain ⟨b1, b2, b3⟩ := (mulI_best h.v k.v h1 k1 hp hp2).least 0 _ (G_zero p) g2 fun r ⟨a, b, ha, hb, e⟩ => by
       obtain ⟨a1, a2⟩ := ha.nn h1 h.nn
       obtain ⟨b1, b2⟩ := hb.nn k1 k.nn
       subst e
       refine ⟨Rat.mul_nonneg a1 b1, Rat.le_trans ?_ hU.2⟩
       exact Rat.le_trans (Rat.mul_le_mul_of_nonneg_right (Rat.le_trans a2 h2) b1) (Rat.mul_le_mul_of_nonneg_left (Rat.le_trans b2 k2) (Rat.le_trans a1 (Rat.le_trans a2 h2)))
      exact ⟨b1, b3⟩
     ·exact .inl rfl
    ·rw [mulI_wh p (.inr ya)]; exact .inl rfl
   ·rw [mulI_wh p (.inl xa)]; exact .inl rfl
theorem divI_lq {x y x' y' : Iv} {p : Nat} (hp : 1 ≤ p) (hp2 : p ≤ 4096) (h : Lq x x') (hy : y.Valid) (hy' : y'.Valid) (yn : y.NN) (yn' : y'.NN) (y0 : y'.all = false → 0 < y'.lo.q → y.all = false ∧ y'.lo.q ≤ y.lo.q) : Lq (divI x y p) (divI x' y' p) := by
 refine ⟨divI_valid _ _ hp hp2, divI_valid _ _ hp hp2, divI_nn h.nn yn p, divI_nn h.nn' yn' p, ?_⟩
 rcases h.le with ha | ⟨h1, h2⟩
 ·rw [divI_wh p (.inl ha)]; exact .inl rfl
 ·cases xa : x'.all
  ·by_cases hs : signI y' = 0
   ·rw [divI_wh p (.inr hs)]; exact .inl rfl
   ·obtain ⟨ya', hp'⟩ := sign_split hy' hs
    have l0 : 0 < y'.lo.q := by
     rcases hp' with h | h
     ·exact h
     ·have := q_nn yn'.hi; grind
    obtain ⟨ya, hle⟩ := y0 ya' l0
    cases za : (divI x' y' p).all
    ·right
     have B' := divI_best h.v' hy' xa hs hp hp2
     obtain ⟨g1, g2⟩ := B'.on za
     have hU := (B'.has _ ⟨_, _, h.v'.has_hi, hy'.has_lo, rfl⟩).ends za
     obtain ⟨b1, b2, b3⟩ := (divI_best h.v hy h1 (sign_of ya (.inl (by grind))) hp hp2).least 0 _ (G_zero p) g2 fun r ⟨a, b, ha, hb, e⟩ => by
      obtain ⟨a1, a2⟩ := ha.nn h1 h.nn
      obtain ⟨b1, b2⟩ := hb.ends ya
      subst e
      have hb0 : 0 < b := by grind
      have i1 : b⁻¹ ≤ y'.lo.q⁻¹ := inv_le l0 (by grind)
      have i0 : 0 ≤ b⁻¹ := Rat.le_of_lt (Rat.inv_pos.2 hb0)
      rw [Rat.div_def]
      rw [Rat.div_def] at hU
      refine ⟨Rat.mul_nonneg a1 i0, Rat.le_trans ?_ hU.2⟩
      exact Rat.le_trans (Rat.mul_le_mul_of_nonneg_right (Rat.le_trans a2 h2) i0) (Rat.mul_le_mul_of_nonneg_left i1 (Rat.le_trans a1 (Rat.le_trans a2 h2)))
     exact ⟨b1, b3⟩
    ·exact .inl rfl
  ·rw [divI_wh p (.inl xa)]; exact .inl rfl
theorem numI_q (c : Nat) : (numI ((c : Nat) : Int)).lo.q = (c : Rat) ∧ (numI ((c : Nat) : Int)).hi.q = (c : Rat) ∧ (numI ((c : Nat) : Int)).all = false := by
 refine ⟨?_, ?_, rfl⟩
 ·show (intD _).q = _
  rw [q_intD]; exact Rat.intCast_natCast c
 ·show (intD _).q = _
  rw [q_intD]; exact Rat.intCast_natCast c
theorem Lq.num (c : Nat) (hc : c < 4294967296) : Lq (numI ((c : Nat) : Int)) (numI ((c : Nat) : Int)) := ⟨numI_val c hc, numI_val c hc, numI_nn c, numI_nn c, .inr ⟨rfl, Rat.le_refl⟩⟩
theorem Lq.divn {x x' : Iv} {p : Nat} (hp : 1 ≤ p) (hp2 : p ≤ 4096) (h : Lq x x') (c : Nat) (hc : c < 4294967296) : Lq (divI x (numI ((c : Nat) : Int)) p) (divI x' (numI ((c : Nat) : Int)) p) :=
 divI_lq hp hp2 h (numI_val c hc) (numI_val c hc) (numI_nn c) (numI_nn c) fun _ _ => ⟨rfl, Rat.le_refl⟩
theorem powI_lq {u u' : Iv} {p : Nat} (hp : 1 ≤ p) (hp2 : p ≤ 4096) (h : Lq u u') : ∀ j, j < 4294967296 → Lq (powI u p j) (powI u' p j)
 | 0, _ => Lq.num 1 (by decide)
 | j + 1, hj => mulI_lq hp hp2 (powI_lq hp hp2 h j (by omega)) (Lq.divn hp hp2 h (j + 1) hj)
theorem one_sub {w w' : Iv} {p : Nat} (hp : 1 ≤ p) (hp2 : p ≤ 4096) (h : Lq w w') (h0 : (subI (numI 1) w' p).all = false) : (subI (numI 1) w p).all = false ∧ (subI (numI 1) w' p).lo.q ≤ (subI (numI 1) w p).lo.q := by
 have wa' : w'.all = false := by
  cases hw : w'.all
  ·rfl
  ·have : subI (numI 1) w' p = wholeI := addI_wh p (.inr (by unfold negI; rw [if_pos hw]; rfl))
   rw [this] at h0; cases h0
 obtain ⟨wa, hle⟩ : w.all = false ∧ w.hi.q ≤ w'.hi.q := by
  rcases h.le with h | h
  ·rw [h] at wa'; cases wa'
  ·exact h
 have nv := numI_val 1 (by decide)
 have na : ∀ {x : Iv}, x.all = false → (negI x).all = false := by intro x hx; unfold negI; rw [hx]; rfl
 have B' := addI_best nv (negI_valid h.v') rfl (na wa') hp hp2
 have B := addI_best nv (negI_valid h.v) rfl (na wa) hp hp2
 obtain ⟨g1, g2⟩ := B'.on h0
 have hL := (B'.has _ ⟨_, _, numI_has 1, negI_has h.v'.has_hi, rfl⟩).ends h0
 obtain ⟨b1, b2, b3⟩ := B.least _ 1 g1 (G_one hp) fun r ⟨a, b, ha, hb, e⟩ => by
  have e1 : a = 1 := by
   obtain ⟨q1, q2⟩ := ha.ends rfl
   obtain ⟨n1, n2, _⟩ := numI_q 1
   have o : ((1 : Nat) : Rat) = 1 := rfl
   rw [o] at n1 n2
   have n1' : (numI 1).lo.q = 1 := n1
   have n2' : (numI 1).hi.q = 1 := n2
   grind
  have hbn : b ≤ 0 ∧ -w.hi.q ≤ b := by
   have hb2 := hb.ends (na wa)
   have e2 : negI w = ⟨negD w.hi, negD w.lo, false⟩ := by unfold negI; rw [if_neg (by rw [wa]; decide)]
   rw [e2] at hb2
   have q1 := q_neg w.hi
   have q2 := q_neg w.lo
   have q3 := q_nn h.nn.lo
   simp only at hb2
   grind
  have o : ((1 : Int) : Rat) = 1 := rfl
  rw [o] at hL
  subst e e1
  refine ⟨Rat.le_trans hL.1 ?_, by grind⟩
  grind
 exact ⟨b1, b2⟩
theorem restI_sub {m m' : List (List Iv)} {h h' : Iv} {n k p : Nat} (ga : MOk m n n) (ga' : MOk m' n n) (hh : h.Valid) (hh' : h'.Valid) (hk : k < 1000) (hp : 1 ≤ p) (hp2 : p ≤ 4096) (h1 : SubM n n m m') (h2 : Sub h h') (ha : h'.all = false)
  {e' : Iv} (he : restI m' h' k p = some e') : ∃ e, restI m h k p = some e ∧ Sub e e' ∧ e.Valid ∧ e'.Valid := by
 unfold restI at he ⊢
 cases hN : normM m' p with
 | none => rw [hN] at he; cases he
 | some N' =>
  obtain ⟨N, eN, hle, d1, d2⟩ := normM_sub ga ga' hp hp2 h1 hN
  rw [hN] at he
  rw [eN]
  simp only [Option.bind_some] at he ⊢
  have nvN : N.Valid := by rw [d1]; exact nmost_valid m hp hp2 n
  have nvN' : N'.Valid := by rw [d2]; exact nmost_valid m' hp hp2 n
  have nnN : N.neg = false := by rw [d1]; exact nmost_nn m p n
  have nnN' : N'.neg = false := by rw [d2]; exact nmost_nn m' p n
  have L1 : Lq (absI h) (absI h') := by
   refine ⟨absI_valid hh, absI_valid hh', absI_nn h, absI_nn h', ?_⟩
   right
   obtain ⟨k1, _, _⟩ := h2.known ha
   unfold absI
   rw [k1, ha]
   exact ⟨rfl, magI_sub hh hh' h2 ha⟩
  have L2 : Lq (pointI N) (pointI N') := ⟨pointI_valid nvN, pointI_valid nvN', pointI_nn nnN, pointI_nn nnN', .inr ⟨rfl, hle⟩⟩
  have L3 := mulI_lq hp hp2 L1 L2
  generalize mulI (absI h) (pointI N) p = u at *
  generalize mulI (absI h') (pointI N') p = u' at *
  split at he
  ·cases he
  ·rename_i hc
   simp only [Bool.or_eq_true, decide_eq_true_eq, not_or, Int.not_le] at hc
   obtain ⟨c1, c2⟩ := hc
   have c1 : u'.all = false := by simpa using c1
   obtain ⟨ua, uh⟩ : u.all = false ∧ u.hi.q ≤ u'.hi.q := by
    rcases L3.le with h | h
    ·rw [h] at c1; cases c1
    ·exact h
   have c3 : cmpD u.hi (intD (k + 2 : Nat)) < 0 := by
    rw [q_lt] at c2 ⊢
    grind
   rw [if_neg (by rw [ua]; simp only [Bool.false_or, decide_eq_true_eq]; omega)]
   have L4 := powI_lq hp hp2 L3 (k + 1) (by omega)
   have L5 := Lq.divn hp hp2 L3 (k + 2) (by omega)
   have sv : ∀ w : Iv, w.Valid → (subI (numI 1) w p).Valid := fun w hw => addI_valid (numI_val 1 (by decide)) (negI_valid hw) hp hp2
   by_cases hz : (divI (powI u' p (k + 1)) (subI (numI 1) (divI u' (numI (k + 2 : Nat)) p) p) p).all = true
   ·simp only [hz, if_true] at he; cases he
   ·simp only [hz, if_false] at he
    cases he
    have hz : (divI (powI u' p (k + 1)) (subI (numI 1) (divI u' (numI (k + 2 : Nat)) p) p) p).all = false := by simpa using hz
    have hc0 := fun {x : Iv} (hx : x.NN) (hxa : x.all = false) (hlt : cmpD x.hi (intD (k + 2 : Nat)) < 0) => @rest_nn x
    have sn : signI (subI (numI 1) (divI u' (numI (k + 2 : Nat)) p) p) ≠ 0 := by
     intro hs; rw [divI_wh p (.inr hs)] at hz; cases hz
    obtain ⟨sa', sg'⟩ := sign_split (sv _ L5.v') sn
    obtain ⟨sa, sle⟩ := one_sub hp hp2 L5 sa'
    have pos' : 0 < (subI (numI 1) (divI u' (numI (k + 2 : Nat)) p) p).lo.q := by
     rcases sg' with h | h
     ·exact h
     ·exfalso
      have hu := L3.v'.has_hi
      have hd := divI_has L3.v' (numI_val (k + 2) (by omega)) hp hp2 hu (numI_has ((k + 2 : Nat) : Int))
      have hsub := (subI_has (numI_val 1 (by decide)) L5.v' hp hp2 (numI_has 1) hd).ends sa'
      have c4 := (q_lt _ _).1 c2
      rw [q_intD] at c4
      have : u'.hi.q / (((k + 2 : Nat) : Int) : Rat) ≤ 1 := by
       have hpos : (0 : Rat) < (((k + 2 : Nat) : Int) : Rat) := Rat.intCast_pos.2 (by omega)
       apply Rat.le_of_mul_le_mul_right (c := (((k + 2 : Nat) : Int) : Rat)) _ hpos
       rw [Rat.div_mul_cancel (by grind), Rat.one_mul]
       exact Rat.le_of_lt c4
      have o : ((1 : Int) : Rat) = 1 := rfl
      rw [o] at hsub
      grind
    have nn1 : ∀ {w : Iv}, w.Valid → w.all = false → 0 ≤ w.lo.q → w.NN := by
     intro w hw hwa h0
     have hw2 := hw.q
     rcases hw with ⟨h, _⟩ | ⟨_, v1, v2, _⟩
     ·rw [h] at hwa; cases hwa
     ·exact ⟨nn_of_sign v1.canon (by have := (q_sign w.lo).2; apply Classical.byContradiction; intro hc; have := this.1 (by omega); grind), nn_of_sign v2.canon (by have := (q_sign w.hi).2; apply Classical.byContradiction; intro hc; have := this.1 (by omega); grind)⟩
    have N1 := nn1 (sv _ L5.v') sa' (Rat.le_of_lt pos')
    have N2 := nn1 (sv _ L5.v) sa (by grind)
    have L6 := divI_lq hp hp2 L4 (sv _ L5.v) (sv _ L5.v') N2 N1 fun _ _ => ⟨sa, sle⟩
    generalize divI (powI u p (k + 1)) (subI (numI 1) (divI u (numI (k + 2 : Nat)) p) p) p = E at *
    generalize divI (powI u' p (k + 1)) (subI (numI 1) (divI u' (numI (k + 2 : Nat)) p) p) p = E' at *
    obtain ⟨ea, eh⟩ : E.all = false ∧ E.hi.q ≤ E'.hi.q := by
     rcases L6.le with h | h
     ·rw [h] at hz; cases hz
     ·exact h
    rw [if_neg (by rw [ea]; decide)]
    have val : ∀ {x : Iv}, x.Valid → x.NN → x.all = false → (⟨negD x.hi, x.hi, false⟩ : Iv).Valid := by
     intro x hx hn hxa
     rcases hx with ⟨h, _⟩ | ⟨_, v1, v2, _⟩
     ·rw [h] at hxa; cases hxa
     ·exact .inr ⟨rfl, negD_valid v2, v2, by rw [q_le, q_neg]; have := q_nn hn.hi; grind⟩
    refine ⟨_, rfl, .inr ⟨rfl, ?_, eh⟩, val L6.v L6.nn ea, val L6.v' L6.nn' hz⟩
    show (negD E'.hi).q ≤ (negD E.hi).q
    rw [q_neg, q_neg]; grind
open Go.RowKit Fp Pu
def sumQ (f : Nat → Rat) : Nat → Rat
 | 0 => 0
 | n + 1 => sumQ f n + f n
theorem sumQ_congr {f g : Nat → Rat} : ∀ n, (∀ i, i < n → f i = g i) → sumQ f n = sumQ g n
 | 0, _ => rfl
 | n + 1, h => by rw [sumQ, sumQ, sumQ_congr n (fun i hi => h i (by omega)), h n (by omega)]
theorem sumQ_le {f g : Nat → Rat} : ∀ n, (∀ i, i < n → f i ≤ g i) → sumQ f n ≤ sumQ g n
 | 0, _ => Rat.le_refl
 | n + 1, h => by
  have h1 := sumQ_le n (fun i hi => h i (by omega))
  have h2 := h n (by omega)
  rw [sumQ, sumQ]; grind
theorem sumQ_nonneg {f : Nat → Rat} (n : Nat) (h : ∀ i, i < n → 0 ≤ f i) : 0 ≤ sumQ f n := by
 induction n with
 | zero => exact Rat.le_refl
 | succ n ih =>
  have h1 := ih (fun i hi => h i (by omega))
  have h2 := h n (by omega)
  rw [sumQ]; grind
theorem sumQ_mul (f : Nat → Rat) (c : Rat) : ∀ n, sumQ (fun i => c * f i) n = c * sumQ f n
 | 0 => by simp [sumQ]
 | n + 1 => by rw [sumQ, sumQ, sumQ_mul f c n]; grind
theorem sumQ_mul' (f : Nat → Rat) (c : Rat) : ∀ n, sumQ (fun i => f i * c) n = sumQ f n * c
 | 0 => by simp [sumQ]
 | n + 1 => by rw [sumQ, sumQ, sumQ_mul' f c n]; grind
theorem sumQ_add (f g : Nat → Rat) : ∀ n, sumQ (fun i => f i + g i) n = sumQ f n + sumQ g n
 | 0 => by simp only [sumQ]; grind
 | n + 1 => by rw [sumQ, sumQ, sumQ, sumQ_add f g n]; grind
theorem sumQ_comm (f : Nat → Nat → Rat) (m : Nat) : ∀ n, sumQ (fun i => sumQ (fun j => f i j) m) n = sumQ (fun j => sumQ (fun i => f i j) n) m
 | 0 => by
  have : ∀ m, sumQ (fun _ => (0 : Rat)) m = 0 := by
   intro m
   induction m with
   | zero => rfl
   | succ m ih => rw [sumQ, ih]; grind
  exact (this m).symm
 | n + 1 => by
  rw [sumQ, sumQ_comm f m n, ← sumQ_add]
  rfl
def absQ (x : Rat) : Rat := if 0 ≤ x then x else -x
theorem absQ_spec (x : Rat) : 0 ≤ absQ x ∧ x ≤ absQ x ∧ -x ≤ absQ x ∧ (absQ x = x ∧ 0 ≤ x ∨ absQ x = -x ∧ x ≤ 0) := by unfold absQ; split <;> grind
theorem absQ_le {x b : Rat} (h1 : x ≤ b) (h2 : -x ≤ b) : absQ x ≤ b := by unfold absQ; split <;> grind
theorem absQ_add (x y : Rat) : absQ (x + y) ≤ absQ x + absQ y := by
 obtain ⟨a1, a2, a3, _⟩ := absQ_spec x
 obtain ⟨b1, b2, b3, _⟩ := absQ_spec y
 exact absQ_le (by grind) (by grind)
theorem absQ_mul (x y : Rat) : absQ (x * y) = absQ x * absQ y := by
 obtain ⟨_, _, _, a⟩ := absQ_spec x
 obtain ⟨_, _, _, b⟩ := absQ_spec y
 obtain ⟨c1, _, _, c⟩ := absQ_spec (x * y)
 rcases a with ⟨e1, h1⟩ | ⟨e1, h1⟩ <;> rcases b with ⟨e2, h2⟩ | ⟨e2, h2⟩ <;> rw [e1, e2]
 ·have := Rat.mul_nonneg h1 h2; grind
 ·have := Rat.mul_nonneg h1 (show 0 ≤ -y by grind); grind
 ·have := Rat.mul_nonneg (show 0 ≤ -x by grind) h2; grind
 ·have := Rat.mul_nonneg (show 0 ≤ -x by grind) (show 0 ≤ -y by grind); grind
theorem absQ_sum (f : Nat → Rat) : ∀ n, absQ (sumQ f n) ≤ sumQ (fun i => absQ (f i)) n
 | 0 => by simp [sumQ, absQ]
 | n + 1 => by
  have h1 := absQ_sum f n
  have h2 := absQ_add (sumQ f n) (f n)
  rw [sumQ, sumQ]; grind
theorem absQ_zero : absQ 0 = 0 := rfl
abbrev QM := Nat → Nat → Rat
def mulQ (n : Nat) (A B : QM) : QM := fun i j => sumQ (fun q => A i q * B q j) n
def oneQ : QM := fun i j => if i = j then 1 else 0
def TQ (n : Nat) (M : QM) (t : Rat) : Nat → QM
 | 0 => oneQ
 | j + 1 => fun i l => t / ((j + 1 : Nat) : Rat) * mulQ n (TQ n M t j) M i l
def SQ (n : Nat) (M : QM) (t : Rat) : Nat → QM
 | 0 => oneQ
 | j + 1 => fun i l => SQ n M t j i l + TQ n M t (j + 1) i l
def HasM (n k : Nat) (X : List (List Iv)) (A : QM) : Prop := ∀ i j, i < n → j < k → (elM X i j).has (A i j)
theorem dotP_has {X Y : Nat → Iv} {f g : Nat → Rat} {p : Nat} (hp : 1 ≤ p) (hp2 : p ≤ 4096) (hX : ∀ q, (X q).Valid) (hY : ∀ q, (Y q).Valid) : ∀ k, (∀ q, q ≤ k → (X q).has (f q)) → (∀ q, q ≤ k → (Y q).has (g q)) →
  (dotP X Y p k).has (sumQ (fun q => f q * g q) (k + 1))
 | 0, h1, h2 => by
  have := mulI_has (hX 0) (hY 0) hp hp2 (h1 0 (Nat.le_refl _)) (h2 0 (Nat.le_refl _))
  rw [show sumQ (fun q => f q * g q) (0 + 1) = f 0 * g 0 by simp only [sumQ]; grind]
  exact this
 | k + 1, h1, h2 => addI_has (dotP_valid X Y hp hp2 k) (mulI_valid _ _ hp hp2) hp hp2 (dotP_has hp hp2 hX hY k (fun q hq => h1 q (by omega)) (fun q hq => h2 q (by omega)))
   (mulI_has (hX _) (hY _) hp hp2 (h1 _ (Nat.le_refl _)) (h2 _ (Nat.le_refl _)))
theorem mulM_has {a b : List (List Iv)} {A B : QM} {n k c p : Nat} (ga : MOk a n k) (gb : MOk b k c) (hp : 1 ≤ p) (hp2 : p ≤ 4096) (h1 : HasM n k a A) (h2 : HasM k c b B) : HasM n c (mulM a b p) (mulQ k A B) := by
 intro i j hi hj
 have k1 := ga.k1
 rw [elM_mul ga gb hi hj]
 have := dotP_has (f := fun q => A i q) (g := fun q => B q j) hp hp2 (elM_val ga i) (fun q => elM_val gb q j) (k - 1) (fun q hq => h1 i q hi (by omega)) (fun q hq => h2 q j (by omega) hj)
 rwa [show k - 1 + 1 = k by omega] at this
theorem scaleM_has {a : List (List Iv)} {x : Iv} {A : QM} {t : Rat} {n k p : Nat} (ga : MOk a n k) (hx : x.Valid) (hp : 1 ≤ p) (hp2 : p ≤ 4096) (h1 : HasM n k a A) (h2 : x.has t) : HasM n k (scaleM a x p) (fun i j => t * A i j) := by
 intro i j hi hj
 rw [elM_scale ga hi hj]
 exact mulI_has hx (elM_val ga i j) hp hp2 h2 (h1 i j hi hj)
theorem addM_has {a b : List (List Iv)} {A B : QM} {n k p : Nat} (ga : MOk a n k) (gb : MOk b n k) (hp : 1 ≤ p) (hp2 : p ≤ 4096) (h1 : HasM n k a A) (h2 : HasM n k b B) : HasM n k (addM a b p) (fun i j => A i j + B i j) := by
 intro i j hi hj
 rw [elM_add ga gb hi hj]
 exact addI_has (elM_val ga i j) (elM_val gb i j) hp hp2 (h1 i j hi hj) (h2 i j hi hj)
theorem oneD_q : (⟨false, 1, 0⟩ : Dy).q = 1 := by rw [q_of]; simp [P2_zero]
theorem identM_has (n : Nat) : HasM n n (identM n) oneQ := by
 intro i j hi hj
 rw [elM_ident hi hj]
 unfold oneQ
 split
 ·have := pointI_has ⟨false, 1, 0⟩; rwa [oneD_q] at this
 ·have := pointI_has zeroD; rwa [q_zero] at this
theorem numN_has (j : Nat) : (numI ((j : Nat) : Int)).has ((j : Nat) : Rat) := by have := numI_has ((j : Nat) : Int); rwa [Rat.intCast_natCast] at this
section
variable {m : List (List Iv)} {h : Iv} {M : QM} {t : Rat} {n p : Nat}
theorem termM_has (ga : MOk m n n) (hh : h.Valid) (hp : 1 ≤ p) (hp2 : p ≤ 4096) (h1 : HasM n n m M) (h2 : h.has t) : ∀ j, j < 4294967296 → HasM n n (termM m h p j) (TQ n M t j)
 | 0, _ => by unfold termM; rw [ga.rows]; exact identM_has n
 | j + 1, hj => scaleM_has (mulM_ok (termM_ok ga hp hp2 j) ga hp hp2) (divI_valid _ _ hp hp2) hp hp2 (mulM_has (termM_ok ga hp hp2 j) ga hp hp2 (termM_has ga hh hp hp2 h1 h2 j (by omega)) h1) (divI_has hh (numI_val (j + 1) hj) hp hp2 h2 (numN_has (j + 1)))
theorem sumM_has (ga : MOk m n n) (hh : h.Valid) (hp : 1 ≤ p) (hp2 : p ≤ 4096) (h1 : HasM n n m M) (h2 : h.has t) : ∀ j, j < 4294967296 → HasM n n (sumM m h p j) (SQ n M t j)
 | 0, _ => by unfold sumM; rw [ga.rows]; exact identM_has n
 | j + 1, hj => addM_has (sumM_ok ga hp hp2 j) (termM_ok ga hp hp2 (j + 1)) hp hp2 (sumM_has ga hh hp hp2 h1 h2 j (by omega)) (termM_has ga hh hp hp2 h1 h2 (j + 1) hj)
def RowLe (n : Nat) (A : QM) (b : Rat) : Prop := ∀ i, i < n → sumQ (fun l => absQ (A i l)) n ≤ b
theorem row_mul {A B : QM} {a b : Rat} (_h0 : 0 ≤ a) (hb : 0 ≤ b) (h1 : RowLe n A a) (h2 : RowLe n B b) : RowLe n (mulQ n A B) (a * b) := by
 intro i hi
 have e1 : sumQ (fun l => absQ (mulQ n A B i l)) n ≤ sumQ (fun l => sumQ (fun q => absQ (A i q) * absQ (B q l)) n) n :=
  sumQ_le n fun l _ => by
   have := absQ_sum (fun q => A i q * B q l) n
   rw [show (fun q => absQ (A i q * B q l)) = fun q => absQ (A i q) * absQ (B q l) from funext fun q => absQ_mul _ _] at this
   exact this
 rw [sumQ_comm] at e1
 have e2 : sumQ (fun q => sumQ (fun l => absQ (A i q) * absQ (B q l)) n) n ≤ sumQ (fun q => absQ (A i q) * b) n :=
  sumQ_le n fun q hq => by
   rw [sumQ_mul]
   exact Rat.mul_le_mul_of_nonneg_left (h2 q hq) (absQ_spec _).1
 rw [sumQ_mul'] at e2
 exact Rat.le_trans e1 (Rat.le_trans e2 (Rat.mul_le_mul_of_nonneg_right (h1 i hi) hb))
def eQ (c : Rat) : Nat → Rat
 | 0 => 1
 | j + 1 => eQ c j * (c / ((j + 1 : Nat) : Rat))
theorem natPos (j : Nat) : (0 : Rat) < ((j + 1 : Nat) : Rat) := Rat.natCast_pos.2 (by omega)
theorem div_nonneg' {a b : Rat} (h1 : 0 ≤ a) (h2 : 0 < b) : 0 ≤ a / b := by
 rw [Rat.div_def]; exact Rat.mul_nonneg h1 (Rat.le_of_lt (Rat.inv_pos.2 h2))
theorem eQ_nonneg {c : Rat} (h : 0 ≤ c) : ∀ j, 0 ≤ eQ c j
 | 0 => by simp only [eQ]; decide
 | j + 1 => Rat.mul_nonneg (eQ_nonneg h j) (div_nonneg' h (natPos j))
theorem sumQ_one (n i : Nat) : sumQ (fun l => absQ (oneQ i l)) n ≤ 1 ∧ (n ≤ i → sumQ (fun l => absQ (oneQ i l)) n = 0) := by
 induction n with
 | zero => exact ⟨by simp only [sumQ]; grind, fun _ => rfl⟩
 | succ n ih =>
  have e1 : absQ 1 = 1 := by decide
  simp only [sumQ, oneQ] at ih ⊢
  by_cases h : i = n
  ·have := ih.2 (by omega)
   rw [this, if_pos h, e1]
   exact ⟨by grind, fun h' => absurd h' (by omega)⟩
  ·rw [if_neg h, absQ_zero, Rat.add_zero]
   exact ⟨ih.1, fun h' => ih.2 (by omega)⟩
theorem TQ_row {N : Rat} (hN : 0 ≤ N) (h1 : RowLe n M N) : ∀ j, RowLe n (TQ n M t j) (eQ (absQ t * N) j)
 | 0 => fun i _ => (sumQ_one n i).1
 | j + 1 => by
  have hc : 0 ≤ absQ t * N := Rat.mul_nonneg (absQ_spec t).1 hN
  intro i hi
  have h := row_mul (eQ_nonneg hc j) hN (TQ_row hN h1 j) h1 i hi
  have e : (fun l => absQ (TQ n M t (j + 1) i l)) = fun l => absQ (t / ((j + 1 : Nat) : Rat)) * absQ (mulQ n (TQ n M t j) M i l) := funext fun l => absQ_mul _ _
  rw [e, sumQ_mul]
  have ht : absQ (t / ((j + 1 : Nat) : Rat)) = absQ t / ((j + 1 : Nat) : Rat) := by
   rw [Rat.div_def, Rat.div_def, absQ_mul]
   congr 1
   have := Rat.inv_pos.2 (natPos j)
   unfold absQ; rw [if_pos (Rat.le_of_lt this)]
  rw [ht]
  have h3 := Rat.mul_le_mul_of_nonneg_left h (div_nonneg' (absQ_spec t).1 (natPos j))
  refine Rat.le_trans h3 ?_
  have : absQ t / ((j + 1 : Nat) : Rat) * (eQ (absQ t * N) j * N) = eQ (absQ t * N) (j + 1) := by
   simp only [eQ, Rat.div_def]; grind
  rw [this]; exact Rat.le_refl
theorem row_el {A : QM} {b : Rat} (h : RowLe n A b) {i l : Nat} (hi : i < n) (hl : l < n) : absQ (A i l) ≤ b := by
 have h1 := h i hi
 have : ∀ m, l < m → absQ (A i l) ≤ sumQ (fun l => absQ (A i l)) m := by
  intro m hm
  induction m with
  | zero => omega
  | succ m ih =>
   rw [sumQ]
   have h0 := sumQ_nonneg m (f := fun l => absQ (A i l)) fun i _ => (absQ_spec _).1
   have h2 := (absQ_spec (A i m)).1
   by_cases hq : l = m
   ·subst hq; grind
   ·have := ih (by omega); grind
 exact Rat.le_trans (this n hl) h1
theorem tail_le {c r : Rat} {k : Nat} (hc : 0 ≤ c) (hr : r = c / ((k + 2 : Nat) : Rat)) (hr1 : r ≤ 1) : ∀ d, (1 - r) * sumQ (fun s => eQ c (k + 1 + s)) (d + 1) + r * eQ c (k + 1 + d) ≤ eQ c (k + 1)
 | 0 => by simp only [sumQ, Nat.add_zero]; grind
 | d + 1 => by
  have ih := tail_le hc hr hr1 d
  have h0 := eQ_nonneg hc (k + 1 + d)
  have hq : c / ((k + 1 + d + 1 : Nat) : Rat) ≤ r := by
   rw [hr, Rat.div_def, Rat.div_def]
   exact Rat.mul_le_mul_of_nonneg_left (inv_le (Rat.natCast_pos.2 (by omega)) (Rat.natCast_le_natCast.2 (by omega))) hc
  have hs : eQ c (k + 1 + (d + 1)) ≤ r * eQ c (k + 1 + d) := by
   show eQ c (k + 1 + d) * (c / ((k + 1 + d + 1 : Nat) : Rat)) ≤ _
   rw [Rat.mul_comm r]
   exact Rat.mul_le_mul_of_nonneg_left hq h0
  rw [sumQ]
  generalize sumQ (fun s => eQ c (k + 1 + s)) (d + 1) = S at *
  generalize eQ c (k + 1 + (d + 1)) = a' at *
  generalize eQ c (k + 1 + d) = a at *
  have : (1 - r) * (S + a') + r * a' = (1 - r) * S + a' := by grind
  grind
theorem SQ_diff (M : QM) (t : Rat) (k : Nat) (i l : Nat) : ∀ d, SQ n M t (k + d) i l = SQ n M t k i l + sumQ (fun s => TQ n M t (k + 1 + s) i l) d
 | 0 => by simp only [sumQ, Nat.add_zero]; grind
 | d + 1 => by
  show SQ n M t (k + d) i l + TQ n M t (k + d + 1) i l = _
  rw [SQ_diff M t k i l d, sumQ, show k + d + 1 = k + 1 + d by omega]
  grind
theorem nsum_row {r : List Iv} {f : Nat → Rat} (hp : 1 ≤ p) (hp2 : p ≤ 4096) (v : ∀ i, (r.getD i wholeI).Valid) : ∀ k, (∀ i, i < k → (r.getD i wholeI).has (f i)) → (∀ i, i < k → NGood r p i) → sumQ (fun i => absQ (f i)) k ≤ (nsum r p k).q
 | 0, _, _ => by rw [show nsum r p 0 = zeroD from rfl, q_zero]; exact Rat.le_refl
 | k + 1, hs, hg => by
  have ih := nsum_row hp hp2 v k (fun i hi => hs i (by omega)) (fun i hi => hg i (by omega))
  obtain ⟨g1, g2⟩ := hg k (by omega)
  have mv : ∀ {x : Iv}, x.Valid → (magI x).Canon := fun h => maxD_canon (absD_canon h.canons.1) (absD_canon h.canons.2)
  have A := rnd_up (canon_sumD (nsum_valid r hp hp2 k).canon (mv (v k))) hp hp2
  rw [q_sum] at A
  obtain ⟨a1, a2⟩ := A.1 g2
  obtain ⟨h1, h2⟩ := (hs k (by omega)).ends g1
  obtain ⟨m1, m2, _⟩ := magI_q (v k).q
  have : absQ (f k) ≤ (magI (r.getD k wholeI)).q := absQ_le (by grind) (by grind)
  rw [sumQ]
  have : nsum r p (k + 1) = rndD (sumD (nsum r p k) (magI (r.getD k wholeI))) p true := rfl
  rw [this]; grind
theorem normM_row (ga : MOk m n n) (hp : 1 ≤ p) (hp2 : p ≤ 4096) (h1 : HasM n n m M) {N : Dy} (hN : normM m p = some N) : RowLe n M N.q ∧ 0 ≤ N.q ∧ N.Valid ∧ N.neg = false := by
 have good : ∀ i, i < n → ∀ j, j < n → NGood (m.getD i []) p j := by
  intro i hi j hj
  apply Classical.byContradiction
  intro hc
  rw [normM_none (i := i) (by rw [ga.rows]; exact hi) (by rw [ga.len_at hi]; exact hj) hc] at hN
  cases hN
 have e : normM m p = some (nmost m p n) := by
  rw [← ga.rows]; exact normM_some fun i hi j hj => good i (by rw [← ga.rows]; exact hi) j (by rw [ga.len_at (by rw [← ga.rows]; exact hi)] at hj; exact hj)
 rw [e] at hN
 cases hN
 refine ⟨fun i hi => ?_, q_nn (nmost_nn m p n), nmost_valid m hp hp2 n, nmost_nn m p n⟩
 refine Rat.le_trans (nsum_row hp hp2 (elM_val ga i) n (fun j hj => h1 i j hi hj) (good i hi)) ?_
 have : ∀ x, i < x → x ≤ n → (nsum (m.getD i []) p n).q ≤ (nmost m p x).q := by
  intro x
  induction x with
  | zero => intro h; omega
  | succ x ih =>
   intro h1 h2
   rw [nmost_max, ga.len_at (by omega)]
   obtain ⟨a1, a2, _⟩ := q_max (nmost m p x) (nsum (m.getD x []) p n)
   by_cases hx : i = x
   ·subst hx; exact a2
   ·have := ih (by omega) (by omega); grind
 exact this n hi (Nat.le_refl _)
theorem powI_has {u : Iv} {c : Rat} (hu : u.Valid) (hp : 1 ≤ p) (hp2 : p ≤ 4096) (h : u.has c) : ∀ j, j < 4294967296 → (powI u p j).has (eQ c j)
 | 0, _ => numI_has 1
 | j + 1, hj => by
  have hv : (powI u p j).Valid := by
   cases j with
   | zero => exact numI_val 1 (by decide)
   | succ j => exact mulI_valid _ _ hp hp2
  exact mulI_has hv (divI_valid _ _ hp hp2) hp hp2 (powI_has hu hp hp2 h j (by omega)) (divI_has hu (numI_val (j + 1) hj) hp hp2 h (numN_has (j + 1)))
theorem restI_has (ga : MOk m n n) (hh : h.Valid) (hp : 1 ≤ p) (hp2 : p ≤ 4096) (h1 : HasM n n m M) (h2 : h.has t) {k : Nat} (hk : k < 1000) {e : Iv} (he : restI m h k p = some e) {i l : Nat} (hi : i < n) (hl : l < n) (d : Nat) :
  e.has (sumQ (fun s => TQ n M t (k + 1 + s) i l) d) := by
 unfold restI at he
 cases hN : normM m p with
 | none => rw [hN] at he; cases he
 | some N =>
  rw [hN] at he
  simp only [Option.bind_some] at he
  obtain ⟨r1, r2, r3, r4⟩ := normM_row ga hp hp2 h1 hN
  have hu : (mulI (absI h) (pointI N) p).has (absQ t * N.q) := mulI_has (absI_valid hh) (pointI_valid r3) hp hp2 (absI_has hh h2 (absQ_spec t).2.2.2) (pointI_has N)
  have uv : (mulI (absI h) (pointI N) p).Valid := mulI_valid _ _ hp hp2
  generalize mulI (absI h) (pointI N) p = u at *
  split at he
  ·cases he
  ·rename_i hc
   simp only [Bool.or_eq_true, decide_eq_true_eq, not_or, Int.not_le] at hc
   obtain ⟨c1, c2⟩ := hc
   have c1 : u.all = false := by simpa using c1
   split at he
   ·cases he
   ·rename_i hz
    cases he
    have hz : (divI (powI u p (k + 1)) (subI (numI 1) (divI u (numI (k + 2 : Nat)) p) p) p).all = false := by simpa using hz
    obtain ⟨cc, hcc⟩ : ∃ c, c = absQ t * N.q := ⟨_, rfl⟩
    rw [← hcc] at hu
    have hc0 : 0 ≤ cc := by rw [hcc]; exact Rat.mul_nonneg (absQ_spec t).1 r2
    have c4 := (q_lt _ _).1 c2
    rw [q_intD, Rat.intCast_natCast] at c4
    obtain ⟨u1, u2⟩ := hu.ends c1
    have hlt : cc < ((k + 2 : Nat) : Rat) := by grind
    have hK : (0 : Rat) < ((k + 2 : Nat) : Rat) := Rat.natCast_pos.2 (by omega)
    have hr1 : cc / ((k + 2 : Nat) : Rat) < 1 := by
     apply Rat.lt_of_mul_lt_mul_right (c := ((k + 2 : Nat) : Rat)) _ (Rat.le_of_lt hK)
     rw [Rat.div_mul_cancel (by grind), Rat.one_mul]; exact hlt
    have pv : (powI u p (k + 1)).Valid := mulI_valid _ _ hp hp2
    have dv : (divI u (numI (k + 2 : Nat)) p).Valid := divI_valid _ _ hp hp2
    have sv : (subI (numI 1) (divI u (numI (k + 2 : Nat)) p) p).Valid := addI_valid (numI_val 1 (by decide)) (negI_valid dv) hp hp2
    have hs := subI_has (numI_val 1 (by decide)) dv hp hp2 (numI_has 1) (divI_has uv (numI_val (k + 2) (by omega)) hp hp2 hu (numN_has (k + 2)))
    have hE := (divI_has pv sv hp hp2 (powI_has uv hp hp2 hu (k + 1) (by omega)) hs).ends hz
    generalize divI (powI u p (k + 1)) (subI (numI 1) (divI u (numI (k + 2 : Nat)) p) p) p = E at *
    have o : ((1 : Int) : Rat) = 1 := rfl
    rw [o] at hE
    have hsum : absQ (sumQ (fun s => TQ n M t (k + 1 + s) i l) d) ≤ E.hi.q := by
     have e1 := absQ_sum (fun s => TQ n M t (k + 1 + s) i l) d
     have e2 : sumQ (fun s => absQ (TQ n M t (k + 1 + s) i l)) d ≤ sumQ (fun s => eQ cc (k + 1 + s)) d := sumQ_le d fun s _ => by rw [hcc]; exact row_el (TQ_row r2 r1 (k + 1 + s)) hi hl
     have e3 : sumQ (fun s => eQ cc (k + 1 + s)) d ≤ sumQ (fun s => eQ cc (k + 1 + s)) (d + 1) := by
      rw [sumQ]; have := eQ_nonneg hc0 (k + 1 + d); grind
     have e4 := tail_le hc0 rfl (Rat.le_of_lt hr1) (k := k) d
     have e5 := eQ_nonneg hc0 (k + 1 + d)
     have hr0 : 0 ≤ cc / ((k + 2 : Nat) : Rat) := div_nonneg' hc0 hK
     generalize cc / ((k + 2 : Nat) : Rat) = r at *
     have e6 := Rat.mul_nonneg hr0 e5
     have hpos : (0 : Rat) < 1 - r := by grind
     refine Rat.le_trans (Rat.le_trans e1 (Rat.le_trans e2 e3)) (Rat.le_trans ?_ hE.2)
     apply Rat.le_of_mul_le_mul_right (c := 1 - r) _ hpos
     rw [Rat.div_mul_cancel (by grind)]
     grind
    obtain ⟨a1, a2, a3, _⟩ := absQ_spec (sumQ (fun s => TQ n M t (k + 1 + s) i l) d)
    refine .inr ⟨?_, ?_⟩
    ·show (negD E.hi).q ≤ _
     rw [q_neg]; grind
    ·show _ ≤ E.hi.q
     grind
theorem expM_has (ga : MOk m n n) (hh : h.Valid) (hp : 1 ≤ p) (hp2 : p ≤ 4096) (h1 : HasM n n m M) (h2 : h.has t) (ha : h.all = false) {k : Nat} (hk : k < 1000) {X : List (List Iv)} (hX : expM m h k p = some X) (N : Nat) (hN : k ≤ N) :
  HasM n n X (SQ n M t N) := by
 unfold expM at hX
 cases hr : restI m h k p with
 | none => rw [hr] at hX; cases hX
 | some e =>
  rw [hr] at hX
  simp only [Option.bind_some] at hX
  split at hX
  ·cases hX
  ·cases hX
   intro i l hi hl
   have s1 := sumM_ok (h := h) ga hp hp2 k
   obtain ⟨_, _, _, v, _⟩ := restI_sub ga ga hh hh hk hp hp2 (fun i j _ _ => Sub.refl _) (Sub.refl _) ha hr
   have v : e.Valid := by
    obtain ⟨e', he', _, v', _⟩ := restI_sub ga ga hh hh hk hp hp2 (fun i j _ _ => Sub.refl _) (Sub.refl _) ha hr
    rw [hr] at he'; cases he'; exact v'
   rw [elM_map s1 _ hi hl]
   obtain ⟨d, rfl⟩ : ∃ d, N = k + d := ⟨N - k, by omega⟩
   rw [SQ_diff]
   exact addI_has (elM_val s1 i l) v hp hp2 (sumM_has ga hh hp hp2 h1 h2 k (by omega) i l hi hl) (restI_has ga hh hp hp2 h1 h2 hk hr hi hl d)
end
open Go.RowKit Fp Pu
theorem low_val (s : Bool) {n d : Nat} (hd : 0 < d) : ((lowN s (n / Nat.gcd n d) : Int) : Rat) / ((d / Nat.gcd n d : Nat) : Rat) = (if s then -(n : Rat) else (n : Rat)) / (d : Rat) := by
 have hg : 0 < Nat.gcd n d := Nat.gcd_pos_of_pos_right _ hd
 have e1 : n / Nat.gcd n d * Nat.gcd n d = n := Nat.div_mul_cancel (Nat.gcd_dvd_left n d)
 have e2 : d / Nat.gcd n d * Nat.gcd n d = d := Nat.div_mul_cancel (Nat.gcd_dvd_right n d)
 have hd2 : 0 < d / Nat.gcd n d := by
  apply Nat.pos_of_ne_zero; intro h; rw [h, Nat.zero_mul] at e2; omega
 generalize Nat.gcd n d = g at *
 generalize n / g = n' at *
 generalize d / g = d' at *
 subst e1 e2
 have hgq : (0 : Rat) < (g : Rat) := Rat.natCast_pos.2 hg
 have hdq : (0 : Rat) < (d' : Rat) := Rat.natCast_pos.2 hd2
 have key : ∀ x : Rat, x / (d' : Rat) = x * (g : Rat) / ((d' : Rat) * (g : Rat)) := by
  intro x
  have h1 : x / (d' : Rat) * (d' : Rat) = x := Rat.div_mul_cancel (by grind)
  have h2 : x * (g : Rat) / ((d' : Rat) * (g : Rat)) * ((d' : Rat) * (g : Rat)) = x * (g : Rat) := Rat.div_mul_cancel (by have := Rat.mul_pos hdq hgq; grind)
  have h3 : x / (d' : Rat) * ((d' : Rat) * (g : Rat)) = x * (g : Rat) / ((d' : Rat) * (g : Rat)) * ((d' : Rat) * (g : Rat)) := by rw [h2, ← Rat.mul_assoc, h1]
  have hpos := Rat.mul_pos hdq hgq
  exact Rat.le_antisymm (Rat.le_of_mul_le_mul_right (by rw [h3]; exact Rat.le_refl) hpos) (Rat.le_of_mul_le_mul_right (by rw [h3]; exact Rat.le_refl) hpos)
 rw [key, Rat.natCast_mul, Rat.natCast_mul]
 congr 1
 unfold lowN
 cases s
 ·simp [Rat.intCast_natCast]
 ·simp [Rat.intCast_natCast, Rat.intCast_neg, Rat.neg_mul]
theorem low_cross (s : Bool) {n d : Nat} : lowN s (n / Nat.gcd n d) * (d : Int) = (if s then -(n : Int) else (n : Int)) * ((d / Nat.gcd n d : Nat) : Int) := by
 have e1 : n / Nat.gcd n d * Nat.gcd n d = n := Nat.div_mul_cancel (Nat.gcd_dvd_left n d)
 have e2 : d / Nat.gcd n d * Nat.gcd n d = d := Nat.div_mul_cancel (Nat.gcd_dvd_right n d)
 have key : (n / Nat.gcd n d) * d = n * (d / Nat.gcd n d) := by
  generalize Nat.gcd n d = g at *
  generalize n / g = n' at *
  generalize d / g = d' at *
  subst e1 e2
  grind
 have key' : ((n / Nat.gcd n d : Nat) : Int) * (d : Int) = (n : Int) * ((d / Nat.gcd n d : Nat) : Int) := by rw [← Int.natCast_mul, ← Int.natCast_mul, key]
 unfold lowN
 cases s
 ·exact key'
 ·show -_ * _ = -_ * _
  rw [Int.neg_mul, Int.neg_mul, key']
theorem cross_q {N n : Int} {D d : Nat} (hD : 1 ≤ D) (hd : 1 ≤ d) (h : N * (d : Int) = n * (D : Int)) : (N : Rat) / (D : Rat) = (n : Rat) / (d : Rat) := by
 have hDq : (0 : Rat) < (D : Rat) := Rat.natCast_pos.2 hD
 have hdq : (0 : Rat) < (d : Rat) := Rat.natCast_pos.2 hd
 have h1 : (N : Rat) / (D : Rat) * (D : Rat) = N := Rat.div_mul_cancel (by grind)
 have h2 : (n : Rat) / (d : Rat) * (d : Rat) = n := Rat.div_mul_cancel (by grind)
 have hq : (N : Rat) * (d : Rat) = (n : Rat) * (D : Rat) := by
  have := congrArg (fun z : Int => (z : Rat)) h
  simp only [Rat.intCast_mul, Rat.intCast_natCast] at this
  exact this
 have h3 : (N : Rat) / (D : Rat) * ((D : Rat) * (d : Rat)) = (n : Rat) / (d : Rat) * ((D : Rat) * (d : Rat)) := by
  rw [← Rat.mul_assoc, h1, hq]
  rw [Rat.mul_comm (D : Rat) (d : Rat), ← Rat.mul_assoc, h2]
 have hpos := Rat.mul_pos hDq hdq
 exact Rat.le_antisymm (Rat.le_of_mul_le_mul_right (by rw [h3]; exact Rat.le_refl) hpos) (Rat.le_of_mul_le_mul_right (by rw [h3]; exact Rat.le_refl) hpos)
theorem red_le {S P n d : Nat} (hP : 0 < P) (hd : 0 < d) (h : S * d = n * P) : S / Nat.gcd S P ≤ n ∧ P / Nat.gcd S P ≤ d := by
 have hg : 0 < Nat.gcd S P := Nat.gcd_pos_of_pos_right _ hP
 have e1 : S / Nat.gcd S P * Nat.gcd S P = S := Nat.div_mul_cancel (Nat.gcd_dvd_left S P)
 have e2 : P / Nat.gcd S P * Nat.gcd S P = P := Nat.div_mul_cancel (Nat.gcd_dvd_right S P)
 have hc : Nat.gcd (S / Nat.gcd S P) (P / Nat.gcd S P) = 1 := by rw [Nat.gcd_div (Nat.gcd_dvd_left S P) (Nat.gcd_dvd_right S P), Nat.div_self hg]
 generalize Nat.gcd S P = g at *
 generalize S / g = p at *
 generalize P / g = q at *
 subst e1 e2
 have h2 : p * d = n * q := by
  have : p * d * g = n * q * g := by grind
  exact Nat.eq_of_mul_eq_mul_right hg this
 refine ⟨?_, ?_⟩
 ·by_cases hn : n = 0
  ·rw [hn, Nat.zero_mul] at h2
   rcases Nat.mul_eq_zero.1 h2 with h | h <;> omega
  ·have : p ∣ n := Nat.Coprime.dvd_of_dvd_mul_right (show Nat.Coprime p q from hc) ⟨d, h2.symm⟩
   exact Nat.le_of_dvd (by omega) this
 ·have : q ∣ d := Nat.Coprime.dvd_of_dvd_mul_left (show Nat.Coprime q p from by rw [Nat.Coprime, Nat.gcd_comm]; exact hc) ⟨n, by rw [h2, Nat.mul_comm]⟩
  exact Nat.le_of_dvd hd this
theorem low_ok (s : Bool) {n d : Nat} (hd : 0 < d) (h1 : n / Nat.gcd n d ≤ 1073741824) (h2 : d / Nat.gcd n d ≤ 1073741824) : RatOk (lowN s (n / Nat.gcd n d)) (d / Nat.gcd n d) := by
 have hg : 0 < Nat.gcd n d := Nat.gcd_pos_of_pos_right _ hd
 have e2 : d / Nat.gcd n d * Nat.gcd n d = d := Nat.div_mul_cancel (Nat.gcd_dvd_right n d)
 have hn : (lowN s (n / Nat.gcd n d)).natAbs = n / Nat.gcd n d := by
  unfold lowN
  generalize n / Nat.gcd n d = q
  cases s <;> simp
 refine ⟨?_, h2, ?_, ?_, ?_⟩
 ·apply Nat.pos_of_ne_zero; intro h; rw [h, Nat.zero_mul] at e2; omega
 ·omega
 ·omega
 ·rw [hn, Nat.gcd_div (Nat.gcd_dvd_left n d) (Nat.gcd_dvd_right n d), Nat.div_self hg]
theorem P2_cut (e : Int) : P2 e * ((2 ^ (-e).toNat : Nat) : Rat) = ((2 ^ e.toNat : Nat) : Rat) := by
 rw [← P2_nat, ← P2_nat, ← P2_add]; congr 1; omega
theorem cmpN_le (x y : Nat) : (0 ≤ cmpN x y ↔ y ≤ x) ∧ (cmpN x y ≤ 0 ↔ x ≤ y) := by
 unfold cmpN
 split
 ·omega
 ·split <;> omega
theorem ratMag_q {a D : Nat} (hD : 1 ≤ D) (d : Dy) : (0 ≤ ratMag a D d ↔ (d.m : Rat) * P2 d.e ≤ (a : Rat) / (D : Rat)) ∧ (ratMag a D d ≤ 0 ↔ (a : Rat) / (D : Rat) ≤ (d.m : Rat) * P2 d.e) := by
 have hDq : (0 : Rat) < (D : Rat) := Rat.natCast_pos.2 hD
 have hPq : (0 : Rat) < ((2 ^ (-d.e).toNat : Nat) : Rat) := Rat.natCast_pos.2 (Nat.pow_pos (by decide))
 have hc : (a : Rat) / (D : Rat) * (D : Rat) = (a : Rat) := Rat.div_mul_cancel (by grind)
 have hP := P2_cut d.e
 have c := cmpN_le (a * 2 ^ (-d.e).toNat) (d.m * D * 2 ^ d.e.toNat)
 have mul_iff : ∀ x y : Rat, x ≤ y ↔ x * ((D : Rat) * ((2 ^ (-d.e).toNat : Nat) : Rat)) ≤ y * ((D : Rat) * ((2 ^ (-d.e).toNat : Nat) : Rat)) := fun x y =>
  ⟨fun h => Rat.mul_le_mul_of_nonneg_right h (Rat.le_of_lt (Rat.mul_pos hDq hPq)), fun h => Rat.le_of_mul_le_mul_right h (Rat.mul_pos hDq hPq)⟩
 have l : (d.m : Rat) * P2 d.e * ((D : Rat) * ((2 ^ (-d.e).toNat : Nat) : Rat)) = ((d.m * D * 2 ^ d.e.toNat : Nat) : Rat) := by
  rw [Rat.natCast_mul, Rat.natCast_mul, ← hP]; grind
 have r : (a : Rat) / (D : Rat) * ((D : Rat) * ((2 ^ (-d.e).toNat : Nat) : Rat)) = ((a * 2 ^ (-d.e).toNat : Nat) : Rat) := by
  rw [Rat.natCast_mul, ← Rat.mul_assoc, hc]
 unfold ratMag
 rw [mul_iff ((d.m : Rat) * P2 d.e), mul_iff ((a : Rat) / (D : Rat)), l, r, Rat.natCast_le_natCast, Rat.natCast_le_natCast]
 exact c
theorem ratMag_cases (a D : Nat) (d : Dy) : ratMag a D d = -1 ∨ ratMag a D d = 0 ∨ ratMag a D d = 1 := by
 unfold ratMag cmpN
 split
 ·exact .inl rfl
 ·split
  ·exact .inr (.inr rfl)
  ·exact .inr (.inl rfl)
theorem natAbs_q (N : Int) : ((N.natAbs : Nat) : Rat) = if N < 0 then -(N : Rat) else (N : Rat) := by
 split
 ·have : N = -((N.natAbs : Nat) : Int) := by omega
  have e : (N : Rat) = ((-((N.natAbs : Nat) : Int) : Int) : Rat) := by rw [← this]
  rw [e, Rat.intCast_neg, Rat.intCast_natCast, Rat.neg_neg]
 ·have : N = ((N.natAbs : Nat) : Int) := by omega
  have e : (N : Rat) = ((((N.natAbs : Nat) : Int) : Int) : Rat) := by rw [← this]
  rw [e, Rat.intCast_natCast]
theorem ratCmp_q {N : Int} {D : Nat} (hD : 1 ≤ D) (d : Dy) : (0 ≤ ratCmp N D d ↔ d.q ≤ (N : Rat) / (D : Rat)) ∧ (ratCmp N D d ≤ 0 ↔ (N : Rat) / (D : Rat) ≤ d.q) := by
 have hDq : (0 : Rat) < (D : Rat) := Rat.natCast_pos.2 hD
 have hi : (0 : Rat) < (D : Rat)⁻¹ := Rat.inv_pos.2 hDq
 obtain ⟨m1, m2⟩ := ratMag_q (a := N.natAbs) hD d
 have mc := ratMag_cases N.natAbs D d
 rw [natAbs_q] at m1 m2
 obtain ⟨s1, s2⟩ := q_sign d
 have hq := q_of d
 have sc := sign_cases d
 have n1 : N < 0 → (N : Rat) < 0 := fun h => Rat.intCast_neg_iff.2 h
 have n2 : 0 < N → (0 : Rat) < (N : Rat) := fun h => Rat.intCast_pos.2 h
 have n3 : N = 0 → (N : Rat) = 0 := fun h => by rw [h]; rfl
 have hm : d.m = 0 → d.q = 0 := fun h => by rw [q_of, h]; simp
 rw [Rat.div_def] at m1 m2 ⊢
 have e1 : (0 : Rat) < (N : Rat) → 0 < (N : Rat) * (D : Rat)⁻¹ := fun h => Rat.mul_pos h hi
 have e2 : (N : Rat) < 0 → (N : Rat) * (D : Rat)⁻¹ < 0 := fun h => by have := Rat.mul_pos (show 0 < -(N : Rat) by grind) hi; grind
 have e3 : (N : Rat) = 0 → (N : Rat) * (D : Rat)⁻¹ = 0 := fun h => by rw [h, Rat.zero_mul]
 unfold ratCmp sgnI
 generalize hR : (N : Rat) * (D : Rat)⁻¹ = R at *
 rcases Int.lt_trichotomy N 0 with h | h | h
 ·have hR0 := e2 (n1 h)
  rw [if_neg (show ¬ 0 < N by omega), if_pos h]
  rw [if_pos h, Rat.neg_mul, hR] at m1 m2
  rcases sc with ⟨a1, a2⟩ | ⟨a1, a2, a3⟩ | ⟨a1, a2, a3⟩
  ·have := hm a1
   rw [a2]; simp; grind
  ·rw [a2] at hq; simp only [if_true] at hq
   rw [a3]
   simp only [Int.lt_irrefl, if_false]
   rw [if_neg (by decide)]
   rcases mc with c | c | c <;> rw [c] at m1 m2 ⊢ <;> simp at m1 m2 ⊢ <;> grind
  ·have := s1.1 (by omega)
   rw [a3]; simp; grind
 ·have hR0 := e3 (n3 h)
  rw [if_neg (show ¬ 0 < N by omega), if_neg (show ¬ N < 0 by omega)]
  rcases sc with ⟨a1, a2⟩ | ⟨a1, a2, a3⟩ | ⟨a1, a2, a3⟩
  ·have := hm a1
   rw [a2]; simp; grind
  ·have := s2.1 (by omega)
   rw [a3]; simp; grind
  ·have := s1.1 (by omega)
   rw [a3]; simp; grind
 ·have hR0 := e1 (n2 h)
  rw [if_pos h]
  rw [if_neg (by omega), hR] at m1 m2
  rcases sc with ⟨a1, a2⟩ | ⟨a1, a2, a3⟩ | ⟨a1, a2, a3⟩
  ·have := hm a1
   rw [a2]; simp; grind
  ·have := s2.1 (by omega)
   rw [a3]; simp; grind
  ·rw [a2] at hq; simp only [Bool.false_eq_true, if_false] at hq
   rw [a3]
   simp only [Int.lt_irrefl, if_false]
   rw [if_neg (by decide)]
   rcases mc with c | c | c <;> rw [c] at m1 m2 ⊢ <;> simp at m1 m2 ⊢ <;> grind
theorem hasR_of {x : Iv} {N : Int} {D : Nat} (hD : 1 ≤ D) (h : x.has ((N : Rat) / (D : Rat))) : hasR x N D = true := by
 unfold hasR
 rcases h with h | ⟨h1, h2⟩
 ·rw [h]; rfl
 ·rw [decide_eq_true ((ratCmp_q hD x.lo).1.2 h1), decide_eq_true ((ratCmp_q hD x.hi).2.2 h2)]; simp
def nilQ (a b c : Rat) : QM := fun i j => if i = 0 ∧ j = 1 then a else if i = 0 ∧ j = 2 then b else if i = 1 ∧ j = 2 then c else 0
theorem three {i : Nat} (h : i < 3) : i = 0 ∨ i = 1 ∨ i = 2 := by omega
section
variable (a b c t : Rat)
theorem nilT1 {i l : Nat} (hi : i < 3) (hl : l < 3) : TQ 3 (nilQ a b c) t 1 i l = t * nilQ a b c i l := by
 have e : ((0 + 1 : Nat) : Rat) = 1 := rfl
 simp only [TQ, mulQ, sumQ, oneQ, e]
 rcases three hi with rfl | rfl | rfl <;> rcases three hl with rfl | rfl | rfl <;> simp [nilQ] <;> grind
theorem nilT2 {i l : Nat} (hi : i < 3) (hl : l < 3) : TQ 3 (nilQ a b c) t 2 i l = if i = 0 ∧ l = 2 then t * t * a * c / 2 else 0 := by
 have e : ((1 + 1 : Nat) : Rat) = 2 := rfl
 show t / ((1 + 1 : Nat) : Rat) * mulQ 3 (TQ 3 (nilQ a b c) t 1) (nilQ a b c) i l = _
 simp only [mulQ, sumQ, e]
 rw [nilT1 a b c t hi (by omega), nilT1 a b c t hi (by omega), nilT1 a b c t hi (by omega)]
 rcases three hi with rfl | rfl | rfl <;> rcases three hl with rfl | rfl | rfl <;> simp [nilQ] <;> grind
theorem nilT3 : ∀ j, ∀ {i l : Nat}, i < 3 → l < 3 → TQ 3 (nilQ a b c) t (3 + j) i l = 0
 | 0, i, l, hi, hl => by
  show t / ((2 + 1 : Nat) : Rat) * mulQ 3 (TQ 3 (nilQ a b c) t 2) (nilQ a b c) i l = _
  simp only [mulQ, sumQ]
  rw [nilT2 a b c t hi (by omega), nilT2 a b c t hi (by omega), nilT2 a b c t hi (by omega)]
  rcases three hi with rfl | rfl | rfl <;> rcases three hl with rfl | rfl | rfl <;> simp [nilQ] <;> grind
 | j + 1, i, l, hi, hl => by
  show t / ((3 + j + 1 : Nat) : Rat) * mulQ 3 (TQ 3 (nilQ a b c) t (3 + j)) (nilQ a b c) i l = _
  simp only [mulQ, sumQ]
  rw [nilT3 j hi (by omega), nilT3 j hi (by omega), nilT3 j hi (by omega)]
  grind
theorem nilS (j : Nat) {i l : Nat} (hi : i < 3) (hl : l < 3) : SQ 3 (nilQ a b c) t (2 + j) i l = oneQ i l + t * nilQ a b c i l + if i = 0 ∧ l = 2 then t * t * a * c / 2 else 0 := by
 rw [SQ_diff]
 have h0 : ∀ d, sumQ (fun s => TQ 3 (nilQ a b c) t (2 + 1 + s) i l) d = 0 := by
  intro d
  induction d with
  | zero => rfl
  | succ d ih => rw [sumQ, ih, nilT3 a b c t d hi hl]; grind
 rw [h0]
 show SQ 3 (nilQ a b c) t 0 i l + TQ 3 (nilQ a b c) t (0 + 1) i l + TQ 3 (nilQ a b c) t (1 + 1) i l + 0 = _
 rw [nilT1 a b c t hi hl, nilT2 a b c t hi hl]
 show oneQ i l + _ + _ + 0 = _
 grind
end
open Go.RowKit Fp Pu
def nilM (a b c : Int) : List (List Iv) := [[(pointI (canonZ 0 0)), (pointI (canonZ a (-4))), (pointI (canonZ b (-4)))], [(pointI (canonZ 0 0)), (pointI (canonZ 0 0)), (pointI (canonZ c (-4)))], [(pointI (canonZ 0 0)), (pointI (canonZ 0 0)), (pointI (canonZ 0 0))]]
theorem wrap_small (z : Int) (h1 : -9223372036854775808 ≤ z) (h2 : z ≤ 9223372036854775807) : IntKind.i64.wrap z = z := wrap_rng (k := .i64) ⟨h1, h2⟩
theorem ivs3_le (a b c : Iv) : E.le (.sl true 3 7 fun i j => (ivL a ++ ivL b ++ ivL c).getD (i * 7 + j) (.v (.bool false))) (ivsP [a, b, c]) := .sl fun i j hi hj => by
 rcases i with _ | _ | _ | i
 ·rcases j with _ | _ | _ | _ | _ | _ | _ | j
  all_goals first | exact ⟨.refl _, rfl⟩ | omega
 ·rcases j with _ | _ | _ | _ | _ | _ | _ | j
  all_goals first | exact ⟨.refl _, rfl⟩ | omega
 ·rcases j with _ | _ | _ | _ | _ | _ | _ | j
  all_goals first | exact ⟨.refl _, rfl⟩ | omega
 ·omega
theorem mat3_le (a b c : List Iv) : E.le (.sl true 3 1 fun i_ j_ => [(ivsP a), (ivsP b), (ivsP c)].getD (i_ * 1 + j_) (.v (.bool false))) (matP [a, b, c]) := .sl fun i j hi hj => by
 obtain rfl : j = 0 := by omega
 rcases i with _ | _ | _ | i
 all_goals first | exact ⟨.refl _, rfl⟩ | omega
set_option maxHeartbeats 1000000 in
theorem scaled_pc (n : Int) (h1 : -128 ≤ n) (h2 : n ≤ 127) : PCt 11 [(.v (.int .i8 n))] (ivP (pointI (canonZ n (-4)))) := by
 exact tr true Tryz.call11 Tryz.func11 (chain [.o 4 (.int (wrap_small _ (by omega) (by omega)) : PV.le (.e (iP (IntKind.i64.wrap n))) (.e (iP n))), .c (lawPoint_pc n (-4) (by omega) (by omega) (by omega))] <| .nil) (by kernel_rfl)
set_option maxHeartbeats 1000000 in
theorem of_at (n : Int) (k : Nat) (hk : k ≤ 17) (hp : 0 < 2 ^ k) (hp2 : 2 ^ k ≤ 131072) (hn1 : -1073741824 ≤ n) (hn2 : n ≤ 1073741824) (h1 : n.natAbs / Nat.gcd n.natAbs (2 ^ k) ≤ 1073741824) (h2 : 2 ^ k / Nat.gcd n.natAbs (2 ^ k) ≤ 1073741824) : PCt 13 [(iP n), (iP k)] (.agg [iP (lowN (decide (n < 0)) (n.natAbs / Nat.gcd n.natAbs (2 ^ k))), iP (((2 ^ k / Nat.gcd n.natAbs (2 ^ k) : Nat)) : Int)]) := by
 have hw : IntKind.i64.wrap (1 * 2 ^ k) = ((2 ^ k : Nat) : Int) := by rw [Int.one_mul, show (2 : Int) ^ k = ((2 ^ k : Nat) : Int) from by rw [Int.natCast_pow]; rfl]; exact wrap_small _ (by omega) (by omega)
 exact tr true Tryz.call13 Tryz.func13 (chain [.a (by omega : 0 ≤ ((k : Int) : Int) ∧ ((k : Int) : Int) ≤ ((64 : Nat) : Int)), .o 10 (.int hw : PV.le (.e (iP (IntKind.i64.wrap (1 * 2 ^ k)))) (.e (iP (((2 ^ k) : Nat) : Int)))),
  .c (r4Make_pc n (2 ^ k) (by omega) (by omega) (by omega) (by omega) h1 h2)] <| .nil) (by kernel_rfl)
theorem of_ex (n : Int) (k : Nat) (hk : k ≤ 17) (hn1 : -1073741824 ≤ n) (hn2 : n ≤ 1073741824) : ∃ N D, RatOk N D ∧ PCt 13 [iP n, iP (k : Int)] (.agg [iP N, iP (D : Int)]) ∧ N * ((2 ^ k : Nat) : Int) = n * (D : Int) ∧ N.natAbs ≤ n.natAbs ∧ D ≤ 2 ^ k := by
 have hp : 0 < 2 ^ k := Nat.pow_pos (by decide)
 have hp2 : 2 ^ k ≤ 131072 := Nat.pow_le_pow_right (n := 2) (by decide) hk
 have h1 : n.natAbs / Nat.gcd n.natAbs (2 ^ k) ≤ n.natAbs := Nat.div_le_self _ _
 have h2 : 2 ^ k / Nat.gcd n.natAbs (2 ^ k) ≤ 2 ^ k := Nat.div_le_self _ _
 refine ⟨_, _, low_ok (decide (n < 0)) hp (by omega) (by omega), of_at n k hk hp hp2 hn1 hn2 (by omega) (by omega), ?_, ?_, h2⟩
 ·rw [low_cross]
  congr 1
  by_cases h : n < 0
  ·rw [decide_eq_true h]; simp only [if_true]; omega
  ·rw [decide_eq_false h]; simp only [Bool.false_eq_true, if_false]; omega
 ·have : (lowN (decide (n < 0)) (n.natAbs / Nat.gcd n.natAbs (2 ^ k))).natAbs = n.natAbs / Nat.gcd n.natAbs (2 ^ k) := by
   unfold lowN
   generalize n.natAbs / Nat.gcd n.natAbs (2 ^ k) = q
   split <;> simp
  omega
set_option maxHeartbeats 1000000 in
theorem lawN_none (a b c h : Int) (k p : Nat) (ha1 : -128 ≤ a) (ha2 : a ≤ 127) (hb1 : -128 ≤ b) (hb2 : b ≤ 127) (hc1 : -128 ≤ c) (hc2 : c ≤ 127) (hh1 : -128 ≤ h) (hh2 : h ≤ 127) (hk : k ≤ 255) (hp : p ≤ 255) (hE : PCt 12 [matP (nilM a b c), ivP (pointI (canonZ h (-4))), iP (((1 + (k % 16)) : Nat) : Int), iP (((8 + (p % 100)) : Nat) : Int)] (.tup [.v (.slice none 0 0), iP 15])) : PCt 3 [(.v (.int .i8 a)), (.v (.int .i8 b)), (.v (.int .i8 c)), (.v (.int .i8 h)), (.v (.int .u8 (k : Int))), (.v (.int .u8 (p : Int)))] (bP true) := by
 exact tr true Tryz.call3 Tryz.func3 (chain [.c awake_pc, .c (lawPoint_pc 0 0 (by omega) (by omega) (by omega)), .c (scaled_pc a (by omega) (by omega)), .c (scaled_pc b (by omega) (by omega)),
  .o 33 (.e (ivs3_le _ _ _) : PV.le (.e (.sl true 3 7 fun i_ j_ => (ivL (pointI (canonZ 0 0)) ++ ivL (pointI (canonZ a (-4))) ++ ivL (pointI (canonZ b (-4)))).getD (i_ * 7 + j_) (.v (.bool false)))) (.e (ivsP [(pointI (canonZ 0 0)), (pointI (canonZ a (-4))), (pointI (canonZ b (-4)))]))),
  .c (lawPoint_pc 0 0 (by omega) (by omega) (by omega)), .c (lawPoint_pc 0 0 (by omega) (by omega) (by omega)), .c (scaled_pc c (by omega) (by omega)),
  .o 38 (.e (ivs3_le _ _ _) : PV.le (.e (.sl true 3 7 fun i_ j_ => (ivL (pointI (canonZ 0 0)) ++ ivL (pointI (canonZ 0 0)) ++ ivL (pointI (canonZ c (-4)))).getD (i_ * 7 + j_) (.v (.bool false)))) (.e (ivsP [(pointI (canonZ 0 0)), (pointI (canonZ 0 0)), (pointI (canonZ c (-4)))]))),
  .c (lawPoint_pc 0 0 (by omega) (by omega) (by omega)), .c (lawPoint_pc 0 0 (by omega) (by omega) (by omega)), .c (lawPoint_pc 0 0 (by omega) (by omega) (by omega)),
  .o 42 (.e (ivs3_le _ _ _) : PV.le (.e (.sl true 3 7 fun i_ j_ => (ivL (pointI (canonZ 0 0)) ++ ivL (pointI (canonZ 0 0)) ++ ivL (pointI (canonZ 0 0))).getD (i_ * 7 + j_) (.v (.bool false)))) (.e (ivsP [(pointI (canonZ 0 0)), (pointI (canonZ 0 0)), (pointI (canonZ 0 0))]))),
  .o 43 (.e (mat3_le _ _ _) : PV.le (.e (.sl true 3 1 fun i_ j_ => [(ivsP [(pointI (canonZ 0 0)), (pointI (canonZ a (-4))), (pointI (canonZ b (-4)))]), (ivsP [(pointI (canonZ 0 0)), (pointI (canonZ 0 0)), (pointI (canonZ c (-4)))]), (ivsP [(pointI (canonZ 0 0)), (pointI (canonZ 0 0)), (pointI (canonZ 0 0))])].getD (i_ * 1 + j_) (.v (.bool false)))) (.e (matP (nilM a b c)))),
  .c (scaled_pc h (by omega) (by omega)), .o 49 (.int (i64_nat _ (by omega)) : PV.le (.e (iP (IntKind.i64.wrap (k : Int)))) (.e (iP k))), .a (by omega : 0 ≤ ((k : Int) : Int) ∧ 0 < (16 : Int)),
  r64 (1 + (((k % 16) : Nat) : Int)) (by omega), .o 53 (.int (i64_nat _ (by omega)) : PV.le (.e (iP (IntKind.i64.wrap (p : Int)))) (.e (iP p))), .a (by omega : 0 ≤ ((p : Int) : Int) ∧ 0 < (100 : Int)),
  r64 (8 + (((p % 100) : Nat) : Int)) (by omega), .c (hE : PCt 12 [(matP (nilM a b c)), (ivP (pointI (canonZ h (-4)))), (iP (((1 + (k % 16)) : Nat) : Int)), (iP (((8 + (p % 100)) : Nat) : Int))] _),
  tB 60 (by decide : ((15 : Int) != 0) = true), tB 62 (by decide : ((15 : Int) == 15) = true)] <| .nil) (by kernel_rfl)
theorem mulB {x y : Int} {B : Int} (h1 : -B ≤ x) (h2 : x ≤ B) (h3 : -128 ≤ y) (h4 : y ≤ 127) : -(B * 128) ≤ x * y ∧ x * y ≤ B * 128 := by
 have hB : 0 ≤ B := by omega
 have k : x.natAbs * y.natAbs ≤ B.natAbs * 128 := Nat.mul_le_mul (by omega) (by omega)
 have e : (x * y).natAbs = x.natAbs * y.natAbs := Int.natAbs_mul x y
 omega
theorem mul8 {x y : Int} (h1 : -128 ≤ x) (h2 : x ≤ 127) (h3 : -128 ≤ y) (h4 : y ≤ 127) : -16384 ≤ x * y ∧ x * y ≤ 16384 := mulB (B := 128) h1 (by omega) h3 h4
set_option maxHeartbeats 1000000 in
theorem lawN_some (a b c h : Int) (k p : Nat) (ha1 : -128 ≤ a) (ha2 : a ≤ 127) (hb1 : -128 ≤ b) (hb2 : b ≤ 127) (hc1 : -128 ≤ c) (hc2 : c ≤ 127) (hh1 : -128 ≤ h) (hh2 : h ≤ 127) (hk : k ≤ 255) (hp : p ≤ 255) (X : List (List Iv)) (gX : MOk X 3 3) (hE : PCt 12 [matP (nilM a b c), ivP (pointI (canonZ h (-4))), iP (((1 + (k % 16)) : Nat) : Int), iP (((8 + (p % 100)) : Nat) : Int)] (.tup [matP X, iP 0])) (N1 : Int) (D1 : Nat) (N2 : Int) (D2 : Nat) (N3 : Int) (D3 : Nat) (N4 : Int) (D4 : Nat) (N5 : Int) (D5 : Nat) (N6 : Int) (D6 : Nat) (N7 : Int) (D7 : Nat) (h1 : PCt 13 [iP (b * h), iP 8] (.agg [(iP N1), (iP D1)])) (h2 : PCt 13 [iP (((a * c) * h) * h), iP 17] (.agg [(iP N2), (iP D2)])) (h3 : PCt 13 [iP 1, iP 0] (.agg [(iP N3), (iP D3)])) (h4 : PCt 13 [iP (a * h), iP 8] (.agg [(iP N4), (iP D4)])) (h5 : PCt 13 [iP 0, iP 0] (.agg [(iP N5), (iP D5)])) (h6 : PCt 13 [iP (c * h), iP 8] (.agg [(iP N6), (iP D6)])) (h7 : PCt 15 [(.agg [(iP N1), (iP D1)]), (.agg [(iP N2), (iP D2)])] (.tup [(.agg [(iP N7), (iP D7)]), iP 0])) (e00 : PCt 16 [ivP ((X.getD 0 []).getD 0 wholeI), (.agg [(iP N3), (iP D3)])] (bP true)) (e01 : PCt 16 [ivP ((X.getD 0 []).getD 1 wholeI), (.agg [(iP N4), (iP D4)])] (bP true)) (e02 : PCt 16 [ivP ((X.getD 0 []).getD 2 wholeI), (.agg [(iP N7), (iP D7)])] (bP true)) (e10 : PCt 16 [ivP ((X.getD 1 []).getD 0 wholeI), (.agg [(iP N5), (iP D5)])] (bP true)) (e11 : PCt 16 [ivP ((X.getD 1 []).getD 1 wholeI), (.agg [(iP N3), (iP D3)])] (bP true)) (e12 : PCt 16 [ivP ((X.getD 1 []).getD 2 wholeI), (.agg [(iP N6), (iP D6)])] (bP true)) (e20 : PCt 16 [ivP ((X.getD 2 []).getD 0 wholeI), (.agg [(iP N5), (iP D5)])] (bP true)) (e21 : PCt 16 [ivP ((X.getD 2 []).getD 1 wholeI), (.agg [(iP N5), (iP D5)])] (bP true)) (e22 : PCt 16 [ivP ((X.getD 2 []).getD 2 wholeI), (.agg [(iP N3), (iP D3)])] (bP true)) : PCt 3 [(.v (.int .i8 a)), (.v (.int .i8 b)), (.v (.int .i8 c)), (.v (.int .i8 h)), (.v (.int .u8 (k : Int))), (.v (.int .u8 (p : Int)))] (bP true) := by
 have m1 : -16384 ≤ b * h ∧ b * h ≤ 16384 := mul8 hb1 hb2 hh1 hh2
 have m2 : -16384 ≤ a * c ∧ a * c ≤ 16384 := mul8 ha1 ha2 hc1 hc2
 have m3 : -2097152 ≤ a * c * h ∧ a * c * h ≤ 2097152 := mulB m2.1 m2.2 hh1 hh2
 have m4 : -268435456 ≤ a * c * h * h ∧ a * c * h * h ≤ 268435456 := mulB m3.1 m3.2 hh1 hh2
 have m5 : -16384 ≤ a * h ∧ a * h ≤ 16384 := mul8 ha1 ha2 hh1 hh2
 have m6 : -16384 ≤ c * h ∧ c * h ≤ 16384 := mul8 hc1 hc2 hh1 hh2
 have rX := gX.rows
 have r0 := gX.len_at (show 0 < 3 by decide)
 have r1 := gX.len_at (show 1 < 3 by decide)
 have r2 := gX.len_at (show 2 < 3 by decide)
 exact tr true Tryz.call3 Tryz.func3 (chain [.c awake_pc, .c (lawPoint_pc 0 0 (by omega) (by omega) (by omega)), .c (scaled_pc a (by omega) (by omega)), .c (scaled_pc b (by omega) (by omega)),
  .o 33 (.e (ivs3_le _ _ _) : PV.le (.e (.sl true 3 7 fun i_ j_ => (ivL (pointI (canonZ 0 0)) ++ ivL (pointI (canonZ a (-4))) ++ ivL (pointI (canonZ b (-4)))).getD (i_ * 7 + j_) (.v (.bool false)))) (.e (ivsP [(pointI (canonZ 0 0)), (pointI (canonZ a (-4))), (pointI (canonZ b (-4)))]))),
  .c (lawPoint_pc 0 0 (by omega) (by omega) (by omega)), .c (lawPoint_pc 0 0 (by omega) (by omega) (by omega)), .c (scaled_pc c (by omega) (by omega)),
  .o 38 (.e (ivs3_le _ _ _) : PV.le (.e (.sl true 3 7 fun i_ j_ => (ivL (pointI (canonZ 0 0)) ++ ivL (pointI (canonZ 0 0)) ++ ivL (pointI (canonZ c (-4)))).getD (i_ * 7 + j_) (.v (.bool false)))) (.e (ivsP [(pointI (canonZ 0 0)), (pointI (canonZ 0 0)), (pointI (canonZ c (-4)))]))),
  .c (lawPoint_pc 0 0 (by omega) (by omega) (by omega)), .c (lawPoint_pc 0 0 (by omega) (by omega) (by omega)), .c (lawPoint_pc 0 0 (by omega) (by omega) (by omega)),
  .o 42 (.e (ivs3_le _ _ _) : PV.le (.e (.sl true 3 7 fun i_ j_ => (ivL (pointI (canonZ 0 0)) ++ ivL (pointI (canonZ 0 0)) ++ ivL (pointI (canonZ 0 0))).getD (i_ * 7 + j_) (.v (.bool false)))) (.e (ivsP [(pointI (canonZ 0 0)), (pointI (canonZ 0 0)), (pointI (canonZ 0 0))]))),
  .o 43 (.e (mat3_le _ _ _) : PV.le (.e (.sl true 3 1 fun i_ j_ => [(ivsP [(pointI (canonZ 0 0)), (pointI (canonZ a (-4))), (pointI (canonZ b (-4)))]), (ivsP [(pointI (canonZ 0 0)), (pointI (canonZ 0 0)), (pointI (canonZ c (-4)))]), (ivsP [(pointI (canonZ 0 0)), (pointI (canonZ 0 0)), (pointI (canonZ 0 0))])].getD (i_ * 1 + j_) (.v (.bool false)))) (.e (matP (nilM a b c)))),
  .c (scaled_pc h (by omega) (by omega)), .o 49 (.int (i64_nat _ (by omega)) : PV.le (.e (iP (IntKind.i64.wrap (k : Int)))) (.e (iP k))), .a (by omega : 0 ≤ ((k : Int) : Int) ∧ 0 < (16 : Int)),
  r64 (1 + (((k % 16) : Nat) : Int)) (by omega), .o 53 (.int (i64_nat _ (by omega)) : PV.le (.e (iP (IntKind.i64.wrap (p : Int)))) (.e (iP p))), .a (by omega : 0 ≤ ((p : Int) : Int) ∧ 0 < (100 : Int)),
  r64 (8 + (((p % 100) : Nat) : Int)) (by omega), .c (hE : PCt 12 [(matP (nilM a b c)), (ivP (pointI (canonZ h (-4)))), (iP (((1 + (k % 16)) : Nat) : Int)), (iP (((8 + (p % 100)) : Nat) : Int))] _),
  tB 60 (by decide : ((0 : Int) != 0) = false), .o 64 (.int (wrap_small _ (by omega) (by omega)) : PV.le (.e (iP (IntKind.i64.wrap a))) (.e (iP a))),
  .o 66 (.int (wrap_small _ (by omega) (by omega)) : PV.le (.e (iP (IntKind.i64.wrap b))) (.e (iP b))), .o 68 (.int (wrap_small _ (by omega) (by omega)) : PV.le (.e (iP (IntKind.i64.wrap c))) (.e (iP c))),
  .o 70 (.int (wrap_small _ (by omega) (by omega)) : PV.le (.e (iP (IntKind.i64.wrap h))) (.e (iP h))), r64 (b * h) (by omega), .c (h1 : PCt 13 [(iP (b * h)), (iP 8)] _), r64 (a * c) (by omega), r64 ((a * c) * h) (by omega),
  r64 (((a * c) * h) * h) (by omega), .c (h2 : PCt 13 [(iP (((a * c) * h) * h)), (iP 17)] _), .c (h7 : PCt 15 [(.agg [(iP N1), (iP D1)]), (.agg [(iP N2), (iP D2)])] _), .c (h3 : PCt 13 [(iP 1), (iP 0)] _),
  r64 (a * h) (by omega), .c (h4 : PCt 13 [(iP (a * h)), (iP 8)] _), .c (h5 : PCt 13 [(iP 0), (iP 0)] _), .c (h3 : PCt 13 [(iP 1), (iP 0)] _), r64 (c * h) (by omega), .c (h6 : PCt 13 [(iP (c * h)), (iP 8)] _),
  .c (h5 : PCt 13 [(iP 0), (iP 0)] _), .c (h5 : PCt 13 [(iP 0), (iP 0)] _), .c (h3 : PCt 13 [(iP 1), (iP 0)] _), .u 4, tB 117 (by decide : (decide ((0 : Int) < 3)) = true), .u 4, tB 120 (by decide : (decide ((0 : Int) < 3)) = true),
  tB 124 (natNe_false (by omega) : ((X.length : Int) != 3) = false), iX (0) (X.length) (by omega), tB 131 (natNe_false (by omega) : ((((X.getD 0 []).length : Nat) : Int) != 3) = false), iX (0) (X.length) (by omega),
  iX (0) ((X.getD 0 []).length) (by omega), iX (0) (3) (by omega), iX (0) (3) (by omega), .c (e00 : PCt 16 [(ivP ((X.getD 0 []).getD 0 wholeI)), (.agg [(iP N3), (iP D3)])] _), r64 (0 + 1) (by omega),
  .k [119, 149, 148, 147, 146, 145, 144, 143, 142, 141, 140, 139, 138, 137, 136, 135, 134, 131, 130, 129, 128, 127, 126, 24, 116, 23, 14] [], tB 120 (by decide : (decide (((0 + 1) : Int) < 3)) = true),
  tB 124 (natNe_false (by omega) : ((X.length : Int) != 3) = false), iX (0) (X.length) (by omega), tB 131 (natNe_false (by omega) : ((((X.getD 0 []).length : Nat) : Int) != 3) = false), iX (0) (X.length) (by omega),
  iX ((0 + 1)) ((X.getD 0 []).length) (by omega), iX (0) (3) (by omega), iX ((0 + 1)) (3) (by omega), .c (e01 : PCt 16 [(ivP ((X.getD 0 []).getD 1 wholeI)), (.agg [(iP N4), (iP D4)])] _), r64 ((0 + 1) + 1) (by omega),
  tB 120 (by decide : (decide ((((0 + 1) + 1) : Int) < 3)) = true), tB 124 (natNe_false (by omega) : ((X.length : Int) != 3) = false), iX (0) (X.length) (by omega),
  tB 131 (natNe_false (by omega) : ((((X.getD 0 []).length : Nat) : Int) != 3) = false), iX (0) (X.length) (by omega), iX (((0 + 1) + 1)) ((X.getD 0 []).length) (by omega), iX (0) (3) (by omega), iX (((0 + 1) + 1)) (3) (by omega),
  .c (e02 : PCt 16 [(ivP ((X.getD 0 []).getD 2 wholeI)), (.agg [(iP N7), (iP D7)])] _), r64 (((0 + 1) + 1) + 1) (by omega), tB 120 (by decide : (decide (((((0 + 1) + 1) + 1) : Int) < 3)) = false), r64 (0 + 1) (by omega),
  tB 117 (by decide : (decide (((0 + 1) : Int) < 3)) = true), .u 4, tB 120 (by decide : (decide ((0 : Int) < 3)) = true), tB 124 (natNe_false (by omega) : ((X.length : Int) != 3) = false), iX ((0 + 1)) (X.length) (by omega),
  tB 131 (natNe_false (by omega) : ((((X.getD 1 []).length : Nat) : Int) != 3) = false), iX ((0 + 1)) (X.length) (by omega), iX (0) ((X.getD 1 []).length) (by omega), iX ((0 + 1)) (3) (by omega), iX (0) (3) (by omega),
  .c (e10 : PCt 16 [(ivP ((X.getD 1 []).getD 0 wholeI)), (.agg [(iP N5), (iP D5)])] _), r64 (0 + 1) (by omega), tB 120 (by decide : (decide (((0 + 1) : Int) < 3)) = true),
  tB 124 (natNe_false (by omega) : ((X.length : Int) != 3) = false), iX ((0 + 1)) (X.length) (by omega), tB 131 (natNe_false (by omega) : ((((X.getD 1 []).length : Nat) : Int) != 3) = false), iX ((0 + 1)) (X.length) (by omega),
  iX ((0 + 1)) ((X.getD 1 []).length) (by omega), iX ((0 + 1)) (3) (by omega), iX ((0 + 1)) (3) (by omega), .c (e11 : PCt 16 [(ivP ((X.getD 1 []).getD 1 wholeI)), (.agg [(iP N3), (iP D3)])] _), r64 ((0 + 1) + 1) (by omega),
  tB 120 (by decide : (decide ((((0 + 1) + 1) : Int) < 3)) = true), tB 124 (natNe_false (by omega) : ((X.length : Int) != 3) = false), iX ((0 + 1)) (X.length) (by omega),
  tB 131 (natNe_false (by omega) : ((((X.getD 1 []).length : Nat) : Int) != 3) = false), iX ((0 + 1)) (X.length) (by omega), iX (((0 + 1) + 1)) ((X.getD 1 []).length) (by omega), iX ((0 + 1)) (3) (by omega),
  iX (((0 + 1) + 1)) (3) (by omega), .c (e12 : PCt 16 [(ivP ((X.getD 1 []).getD 2 wholeI)), (.agg [(iP N6), (iP D6)])] _), r64 (((0 + 1) + 1) + 1) (by omega),
  tB 120 (by decide : (decide (((((0 + 1) + 1) + 1) : Int) < 3)) = false), r64 ((0 + 1) + 1) (by omega), tB 117 (by decide : (decide ((((0 + 1) + 1) : Int) < 3)) = true), .u 4, tB 120 (by decide : (decide ((0 : Int) < 3)) = true),
  tB 124 (natNe_false (by omega) : ((X.length : Int) != 3) = false), iX (((0 + 1) + 1)) (X.length) (by omega), tB 131 (natNe_false (by omega) : ((((X.getD 2 []).length : Nat) : Int) != 3) = false),
  iX (((0 + 1) + 1)) (X.length) (by omega), iX (0) ((X.getD 2 []).length) (by omega), iX (((0 + 1) + 1)) (3) (by omega), iX (0) (3) (by omega),
  .c (e20 : PCt 16 [(ivP ((X.getD 2 []).getD 0 wholeI)), (.agg [(iP N5), (iP D5)])] _), r64 (0 + 1) (by omega), tB 120 (by decide : (decide (((0 + 1) : Int) < 3)) = true),
  tB 124 (natNe_false (by omega) : ((X.length : Int) != 3) = false), iX (((0 + 1) + 1)) (X.length) (by omega), tB 131 (natNe_false (by omega) : ((((X.getD 2 []).length : Nat) : Int) != 3) = false),
  iX (((0 + 1) + 1)) (X.length) (by omega), iX ((0 + 1)) ((X.getD 2 []).length) (by omega), iX (((0 + 1) + 1)) (3) (by omega), iX ((0 + 1)) (3) (by omega),
  .c (e21 : PCt 16 [(ivP ((X.getD 2 []).getD 1 wholeI)), (.agg [(iP N5), (iP D5)])] _), r64 ((0 + 1) + 1) (by omega), tB 120 (by decide : (decide ((((0 + 1) + 1) : Int) < 3)) = true),
  tB 124 (natNe_false (by omega) : ((X.length : Int) != 3) = false), iX (((0 + 1) + 1)) (X.length) (by omega), tB 131 (natNe_false (by omega) : ((((X.getD 2 []).length : Nat) : Int) != 3) = false),
  iX (((0 + 1) + 1)) (X.length) (by omega), iX (((0 + 1) + 1)) ((X.getD 2 []).length) (by omega), iX (((0 + 1) + 1)) (3) (by omega), iX (((0 + 1) + 1)) (3) (by omega),
  .c (e22 : PCt 16 [(ivP ((X.getD 2 []).getD 2 wholeI)), (.agg [(iP N3), (iP D3)])] _), r64 (((0 + 1) + 1) + 1) (by omega), tB 120 (by decide : (decide (((((0 + 1) + 1) + 1) : Int) < 3)) = false),
  r64 (((0 + 1) + 1) + 1) (by omega), tB 117 (by decide : (decide (((((0 + 1) + 1) + 1) : Int) < 3)) = false)] <| .nil) (by kernel_rfl)
theorem has_eq {x : Iv} {r s : Rat} (h : x.has r) (e : r = s) : x.has s := e ▸ h
theorem scale_valid {n : Int} (h1 : -1000 ≤ n) (h2 : n ≤ 1000) : (pointI (canonZ n (-4))).Valid := pointI_valid (canonZ_valid (by omega) (by decide) (by decide))
theorem zero_validI : (pointI (canonZ 0 0)).Valid := pointI_valid (canonZ_valid (by decide) (by decide) (by decide))
theorem scale_q (n : Int) (e : Int) : (canonZ n e).q = (n : Rat) * P2 e := by
 rw [q_at (k := e) (above_canonZ (Int.le_refl e)), num_canonZ (Int.le_refl e)]
 simp
theorem scale_has (n : Int) (e : Int) : (pointI (canonZ n e)).has ((n : Rat) * P2 e) := by have := pointI_has (canonZ n e); rwa [scale_q] at this
theorem mok_of {M : List (List Iv)} {n k : Nat} (h1 : 1 ≤ n) (h2 : n ≤ 8) (h3 : 1 ≤ k) (h4 : k ≤ 8) (hr : M.length = n) (hv : ∀ r, r ∈ M → r.length = k ∧ ∀ x, x ∈ r → x.Valid) : MOk M n k := ⟨hr, fun r h => (hv r h).1, fun r h => (hv r h).2, h1, h2, h3, h4⟩
theorem nilM_ok {a b c : Int} (ha1 : -128 ≤ a) (ha2 : a ≤ 127) (hb1 : -128 ≤ b) (hb2 : b ≤ 127) (hc1 : -128 ≤ c) (hc2 : c ≤ 127) : MOk (nilM a b c) 3 3 := by
 have va := scale_valid (n := a) (by omega) (by omega)
 have vb := scale_valid (n := b) (by omega) (by omega)
 have vc := scale_valid (n := c) (by omega) (by omega)
 have vz := zero_validI
 refine mok_of (by decide) (by decide) (by decide) (by decide) rfl fun r hr => ?_
 simp only [nilM, List.mem_cons, List.not_mem_nil, or_false] at hr
 rcases hr with rfl | rfl | rfl <;> refine ⟨rfl, fun x hx => ?_⟩ <;> simp only [List.mem_cons, List.not_mem_nil, or_false] at hx <;> rcases hx with rfl | rfl | rfl <;> assumption
theorem nilM_has (a b c : Int) : HasM 3 3 (nilM a b c) (nilQ ((a : Rat) * P2 (-4)) ((b : Rat) * P2 (-4)) ((c : Rat) * P2 (-4))) := by
 have hz : (pointI (canonZ 0 0)).has 0 := by have := scale_has 0 0; simpa using this
 intro i j hi hj
 rcases three hi with rfl | rfl | rfl <;> rcases three hj with rfl | rfl | rfl <;> simp only [nilQ] <;> first | exact hz | exact scale_has _ _
theorem law_nilpotent (a b c h k p : Int) (ha : rng .i8 a) (hb : rng .i8 b) (hc : rng .i8 c) (hh : rng .i8 h) (hk : rng .u8 k) (hp : rng .u8 p) :
  PCt 3 [.v (.int .i8 a), .v (.int .i8 b), .v (.int .i8 c), .v (.int .i8 h), .v (.int .u8 k), .v (.int .u8 p)] (bP true) := by
 simp only [rng] at ha hb hc hh hk hp
 obtain ⟨k, rfl⟩ := Int.eq_ofNat_of_zero_le hk.1
 obtain ⟨p, rfl⟩ := Int.eq_ofNat_of_zero_le hp.1
 obtain ⟨ha1, ha2⟩ := ha
 obtain ⟨hb1, hb2⟩ := hb
 obtain ⟨hc1, hc2⟩ := hc
 obtain ⟨hh1, hh2⟩ := hh
 have gM := nilM_ok ha1 ha2 hb1 hb2 hc1 hc2
 have vh := scale_valid (n := h) (by omega) (by omega)
 have E0 := exp_pc (nilM a b c) (pointI (canonZ h (-4))) 3 (1 + (k % 16)) (8 + (p % 100)) gM vh rfl (by omega) (by omega) (by omega) (by omega)
 cases hx : expM (nilM a b c) (pointI (canonZ h (-4))) (1 + (k % 16)) (8 + (p % 100)) with
 | none => exact lawN_none a b c h k p ha1 ha2 hb1 hb2 hc1 hc2 hh1 hh2 (by omega) (by omega) (E0.2 hx)
 | some X =>
  have gX := expM_ok gM vh (by omega) (by omega) (by omega) hx
  obtain ⟨d, hd⟩ : ∃ d, 1 + (k % 16) ≤ 2 + d := ⟨1 + k % 16, by omega⟩
  have hX := expM_has gM vh (by omega) (by omega) (nilM_has a b c) (scale_has h (-4)) rfl (by omega) hx (2 + d) hd
  have hX' : ∀ i j, i < 3 → j < 3 → ((X.getD i []).getD j wholeI).has (oneQ i j + (h : Rat) * P2 (-4) * nilQ ((a : Rat) * P2 (-4)) ((b : Rat) * P2 (-4)) ((c : Rat) * P2 (-4)) i j + if i = 0 ∧ j = 2 then (h : Rat) * P2 (-4) * ((h : Rat) * P2 (-4)) * ((a : Rat) * P2 (-4)) * ((c : Rat) * P2 (-4)) / 2 else 0) := by
   intro i j hi hj
   have := hX i j hi hj
   rwa [nilS _ _ _ _ d hi hj] at this
  have hE := E0.1 X hx
  clear hX E0 hx
  have m1 : -16384 ≤ b * h ∧ b * h ≤ 16384 := mul8 hb1 hb2 hh1 hh2
  have m2 : -16384 ≤ a * c ∧ a * c ≤ 16384 := mul8 ha1 ha2 hc1 hc2
  have m3 : -2097152 ≤ a * c * h ∧ a * c * h ≤ 2097152 := mulB m2.1 m2.2 hh1 hh2
  have m4 : -268435456 ≤ a * c * h * h ∧ a * c * h * h ≤ 268435456 := mulB m3.1 m3.2 hh1 hh2
  have m5 : -16384 ≤ a * h ∧ a * h ≤ 16384 := mul8 ha1 ha2 hh1 hh2
  have m6 : -16384 ≤ c * h ∧ c * h ≤ 16384 := mul8 hc1 hc2 hh1 hh2
  obtain ⟨N1, D1, o1, q1, c1, b1, f1⟩ := of_ex (b * h) 8 (by decide) (by omega) (by omega)
  obtain ⟨N2, D2, o2, q2, c2, b2, f2⟩ := of_ex (a * c * h * h) 17 (by decide) (by omega) (by omega)
  obtain ⟨N3, D3, o3, q3, c3, b3, f3⟩ := of_ex 1 0 (by decide) (by omega) (by omega)
  obtain ⟨N4, D4, o4, q4, c4, b4, f4⟩ := of_ex (a * h) 8 (by decide) (by omega) (by omega)
  obtain ⟨N5, D5, o5, q5, c5, b5, f5⟩ := of_ex 0 0 (by decide) (by omega) (by omega)
  obtain ⟨N6, D6, o6, q6, c6, b6, f6⟩ := of_ex (c * h) 8 (by decide) (by omega) (by omega)
  have e1 : (2 ^ 8 : Nat) = 256 := rfl
  have e2 : (2 ^ 17 : Nat) = 131072 := rfl
  rw [e1] at c1 f1 c4 f4 c6 f6
  rw [e2] at c2 f2
  have w1 : (N1 * (D2 : Int)).natAbs ≤ 16384 * 131072 := by rw [Int.natAbs_mul]; exact Nat.mul_le_mul (by omega) (by omega)
  have w2 : (N2 * (D1 : Int)).natAbs ≤ 268435456 * 256 := by rw [Int.natAbs_mul]; exact Nat.mul_le_mul (by omega) (by omega)
  have w3 : D1 * D2 ≤ 256 * 131072 := Nat.mul_le_mul f1 f2
  have w0 : 0 < D1 * D2 := Nat.mul_pos o1.d1 o2.d1
  have cS : (N1 * (D2 : Int) + N2 * (D1 : Int)) * 131072 = (b * h * 512 + a * c * h * h) * ((D1 * D2 : Nat) : Int) := by
   rw [Int.natCast_mul]
   have c1' : N1 * 256 = b * h * (D1 : Int) := c1
   have c2' : N2 * 131072 = a * c * h * h * (D2 : Int) := c2
   grind
  have cSn : (N1 * (D2 : Int) + N2 * (D1 : Int)).natAbs * 131072 = (b * h * 512 + a * c * h * h).natAbs * (D1 * D2) := by
   have := congrArg Int.natAbs cS
   rw [Int.natAbs_mul, Int.natAbs_mul, Int.natAbs_natCast] at this
   exact this
  obtain ⟨r1, r2⟩ := red_le w0 (show 0 < 131072 by decide) cSn
  have q7 := r4Add_pc N1 N2 D1 D2 o1 o2 (by omega) (by omega) (by omega) (by omega) (by omega) (by omega) (by omega) (by omega)
  have o7 := low_ok (decide (N1 * (D2 : Int) + N2 * (D1 : Int) < 0)) w0 (show (N1 * (D2 : Int) + N2 * (D1 : Int)).natAbs / Nat.gcd (N1 * (D2 : Int) + N2 * (D1 : Int)).natAbs (D1 * D2) ≤ 1073741824 by omega) (by omega)
  have c7 : lowN (decide (N1 * (D2 : Int) + N2 * (D1 : Int) < 0)) ((N1 * (D2 : Int) + N2 * (D1 : Int)).natAbs / Nat.gcd (N1 * (D2 : Int) + N2 * (D1 : Int)).natAbs (D1 * D2)) * ((D1 * D2 : Nat) : Int) = (N1 * (D2 : Int) + N2 * (D1 : Int)) * ((D1 * D2 / Nat.gcd (N1 * (D2 : Int) + N2 * (D1 : Int)).natAbs (D1 * D2) : Nat) : Int) := by
   rw [low_cross]
   congr 1
   generalize N1 * (D2 : Int) + N2 * (D1 : Int) = S
   by_cases h : S < 0
   ·rw [decide_eq_true h]; simp only [if_true]; omega
   ·rw [decide_eq_false h]; simp only [Bool.false_eq_true, if_false]; omega
  generalize lowN (decide (N1 * (D2 : Int) + N2 * (D1 : Int) < 0)) ((N1 * (D2 : Int) + N2 * (D1 : Int)).natAbs / Nat.gcd (N1 * (D2 : Int) + N2 * (D1 : Int)).natAbs (D1 * D2)) = N7 at *
  generalize D1 * D2 / Nat.gcd (N1 * (D2 : Int) + N2 * (D1 : Int)).natAbs (D1 * D2) = D7 at *
  have v7 : (N7 : Rat) / (D7 : Rat) = ((b * h * 512 + a * c * h * h : Int) : Rat) / ((131072 : Nat) : Rat) := by
   rw [cross_q o7.d1 w0 c7]
   exact cross_q w0 (by decide) cS
  have v3 := cross_q o3.d1 (show 1 ≤ 2 ^ 0 by decide) c3
  have v4 := cross_q o4.d1 (show 1 ≤ 256 by decide) c4
  have v5 := cross_q o5.d1 (show 1 ≤ 2 ^ 0 by decide) c5
  have v6 := cross_q o6.d1 (show 1 ≤ 256 by decide) c6
  have hP : P2 (-4) = 1 / 16 := by unfold P2; decide +kernel
  have one : (((1 : Int) : Rat)) / ((2 ^ 0 : Nat) : Rat) = 1 := by decide +kernel
  have zer : (((0 : Int) : Rat)) / ((2 ^ 0 : Nat) : Rat) = 0 := by decide +kernel
  have c256 : ((256 : Nat) : Rat) = 256 := rfl
  have c131 : ((131072 : Nat) : Rat) = 131072 := rfl
  rw [one] at v3
  rw [zer] at v5
  rw [Rat.intCast_mul, c256] at v4 v6
  rw [Rat.intCast_add, Rat.intCast_mul, Rat.intCast_mul, Rat.intCast_mul, Rat.intCast_mul, Rat.intCast_mul, c131, show ((512 : Int) : Rat) = 512 from rfl] at v7
  rw [hP] at hX'
  have hv : ∀ i j, ((X.getD i []).getD j wholeI).Valid := fun i j => mok_at gX i j
  have fin : ∀ i j (N : Int) (D : Nat), RatOk N D → ((X.getD i []).getD j wholeI).has ((N : Rat) / (D : Rat)) → PCt 16 [ivP ((X.getD i []).getD j wholeI), .agg [iP N, iP (D : Int)]] (bP true) := by
   intro i j N D ho hh
   have := has_pc _ N D (hv i j) ho
   rwa [hasR_of ho.d1 hh] at this
  refine lawN_some a b c h k p ha1 ha2 hb1 hb2 hc1 hc2 hh1 hh2 (by omega) (by omega) X gX ‹_› N1 D1 N2 D2 N3 D3 N4 D4 N5 D5 N6 D6 N7 D7 q1 q2 q3 q4 q5 q6 q7 (fin 0 0 _ _ o3 ?_) (fin 0 1 _ _ o4 ?_) (fin 0 2 _ _ o7 ?_) (fin 1 0 _ _ o5 ?_) (fin 1 1 _ _ o3 ?_) (fin 1 2 _ _ o6 ?_) (fin 2 0 _ _ o5 ?_) (fin 2 1 _ _ o5 ?_) (fin 2 2 _ _ o3 ?_)
  ·have := hX' 0 0 (by decide) (by decide)
   rw [v3]
   refine has_eq this ?_
   simp only [oneQ, nilQ]
   simp
   try grind
  ·have := hX' 0 1 (by decide) (by decide)
   rw [v4]
   refine has_eq this ?_
   simp only [oneQ, nilQ]
   simp
   try grind
  ·have := hX' 0 2 (by decide) (by decide)
   rw [v7]
   refine has_eq this ?_
   simp only [oneQ, nilQ]
   simp
   try grind
  ·have := hX' 1 0 (by decide) (by decide)
   rw [v5]
   refine has_eq this ?_
   simp only [oneQ, nilQ]
   simp
   try grind
  ·have := hX' 1 1 (by decide) (by decide)
   rw [v3]
   refine has_eq this ?_
   simp only [oneQ, nilQ]
   simp
   try grind
  ·have := hX' 1 2 (by decide) (by decide)
   rw [v6]
   refine has_eq this ?_
   simp only [oneQ, nilQ]
   simp
   try grind
  ·have := hX' 2 0 (by decide) (by decide)
   rw [v5]
   refine has_eq this ?_
   simp only [oneQ, nilQ]
   simp
   try grind
  ·have := hX' 2 1 (by decide) (by decide)
   rw [v5]
   refine has_eq this ?_
   simp only [oneQ, nilQ]
   simp
   try grind
  ·have := hX' 2 2 (by decide) (by decide)
   rw [v3]
   refine has_eq this ?_
   simp only [oneQ, nilQ]
   simp
   try grind
open Go.ChangeShapes Go.WideShapes Go.ChangeAt Go.RowKit Fp Pu
def nilpotentArgs : Array Value := #[.int .i8 0, .int .i8 0, .int .i8 0, .int .i8 0, .int .u8 0, .int .u8 0]
set_option maxRecDepth 100000 in
theorem nilpotent_contract (H : Type) (enc : TypeId × Value → H) (W : World) (base : Nat) (args : Array Value) (ds gs : List (DataW H)) (before : List MemPlace)
  (hval : ∀ (j : Nat) t v, Tryz.f3.params[j]? = some t → args[j]? = some v → Value.okWide Tryz.prog W .any base t v)
  (hW : DataW.Whole enc Tryz.prog Tryz.f3.params.toList Rows.variationNilpotentSpec.vars false W args.toList ds gs before) (hL : laidMetH Tryz.prog Rows.variationNilpotentRow.laid W) :
  Calls Tryz.prog 3 args W fun e W' => ∃ v, e = .returned v ∧ Rows.variationNilpotentSpec.post enc Tryz.prog Tryz.f3 false true false false W args v W' := by
 have hW' := hW
 obtain ⟨p, q, hA0, hV, rfl, hfz, hnd⟩ := hW
 have hA : DataW.TrodAll enc Tryz.prog W 0 (fun _ => true) true Tryz.f3.params.toList args.toList ds p := hA0
 rw [Tryz.params3] at hA hval
 obtain ⟨v0, vs0, d0, ds0, p0, q0, hvs, rfl, rfl, h0, hA0⟩ := trodAll_cons hA
 obtain ⟨v1, vs1, d1, ds1, p1, q1, rfl, rfl, rfl, h1, hA1⟩ := trodAll_cons hA0
 obtain ⟨v2, vs2, d2, ds2, p2, q2, rfl, rfl, rfl, h2, hA2⟩ := trodAll_cons hA1
 obtain ⟨v3, vs3, d3, ds3, p3, q3, rfl, rfl, rfl, h3, hA3⟩ := trodAll_cons hA2
 obtain ⟨v4, vs4, d4, ds4, p4, q4, rfl, rfl, rfl, h4, hA4⟩ := trodAll_cons hA3
 obtain ⟨v5, vs5, d5, ds5, p5, q5, rfl, rfl, rfl, h5, hA5⟩ := trodAll_cons hA4
 obtain ⟨rfl, rfl, rfl⟩ := trodAll_nil hA5
 obtain rfl : args = #[v0, v1, v2, v3, v4, v5] := by cases args; simp_all
 obtain ⟨rfl, rfl⟩ := trodVars_none hV
 obtain ⟨x0, rfl, rfl, rfl, b0⟩ := open_int Tryz.underlying22 (hval 0 22 v0 rfl rfl) h0
 obtain ⟨x1, rfl, rfl, rfl, b1⟩ := open_int Tryz.underlying22 (hval 1 22 v1 rfl rfl) h1
 obtain ⟨x2, rfl, rfl, rfl, b2⟩ := open_int Tryz.underlying22 (hval 2 22 v2 rfl rfl) h2
 obtain ⟨x3, rfl, rfl, rfl, b3⟩ := open_int Tryz.underlying22 (hval 3 22 v3 rfl rfl) h3
 obtain ⟨x4, rfl, rfl, rfl, b4⟩ := open_int Tryz.underlying5 (hval 4 5 v4 rfl rfl) h4
 obtain ⟨x5, rfl, rfl, rfl, b5⟩ := open_int Tryz.underlying5 (hval 5 5 v5 rfl rfl) h5
 clear hA0
 have hrun := (law_nilpotent x0 x1 x2 x3 x4 x5 (wf_rng b0) (wf_rng b1) (wf_rng b2) (wf_rng b3) (wf_rng b4) (wf_rng b5)).run W noB [.int .i8 x0, .int .i8 x1, .int .i8 x2, .int .i8 x3, .int .u8 x4, .int .u8 x5] (tb_of_laid rfl hL) (fun _ h => h.elim) (.cons (.v _) (.cons (.v _) (.cons (.v _) (.cons (.v _) (.cons (.v _) (.cons (.v _) (.nil _ _ _)))))))
 refine hrun.mono fun r W' ⟨v, hr, hb, hrep⟩ => ?_
 obtain rfl := Rep.v_inv hrep
 subst hr
 refine ⟨_, rfl, _, _, _, [], [] ++ ([] ++ ([] ++ ([] ++ ([] ++ ([]))))), [], hW', ?_, ?_, rfl, hb.frame _, fun h => by cases h⟩
 ·exact trodAll_mk1 (shut_bool Tryz.underlying4 _)
 ·exact ⟨[], _, (Below.trod laidOut (by kernel_rfl) (of_decide_eq_true (by kernel_rfl)) h0 hb (fun _ h => by cases h)), ⟨[], _, (Below.trod laidOut (by kernel_rfl) (of_decide_eq_true (by kernel_rfl)) h1 hb (fun _ h => by cases h)), ⟨[], _, (Below.trod laidOut (by kernel_rfl) (of_decide_eq_true (by kernel_rfl)) h2 hb (fun _ h => by cases h)), ⟨[], _, (Below.trod laidOut (by kernel_rfl) (of_decide_eq_true (by kernel_rfl)) h3 hb (fun _ h => by cases h)), ⟨[], _, (Below.trod laidOut (by kernel_rfl) (of_decide_eq_true (by kernel_rfl)) h4 hb (fun _ h => by cases h)), trodAll_mk1 (Below.trod laidOut (by kernel_rfl) (of_decide_eq_true (by kernel_rfl)) h5 hb (fun _ h => by cases h)), rfl⟩, rfl⟩, rfl⟩, rfl⟩, rfl⟩
theorem nilpotent_met (os : Os) : laidMet Tryz.prog Rows.variationNilpotentRow.laid ((laidWorld os nilpotentArgs).forCall (fun _ _ => 0) ⟨#[], nilpotentArgs, []⟩).memory :=
 laidMet_of_run' 8 (by kernel_rfl) (by kernel_rfl)
theorem nilpotent_reads (os : Os) {H : Type} (enc : TypeId × Value → H) : ∃ places, DataW.whole enc Tryz.prog ((laidWorld os nilpotentArgs).forCall (fun _ _ => 0) ⟨#[], nilpotentArgs, []⟩).memory Tryz.f3.params.toList Rows.variationNilpotentSpec.vars false nilpotentArgs.toList 8 = some ([.lit (.int .i8 0), .lit (.int .i8 0), .lit (.int .i8 0), .lit (.int .i8 0), .lit (.int .u8 0), .lit (.int .u8 0)], [], places) :=
 ⟨[], by kernel_rfl⟩
set_option maxRecDepth 100000 in
theorem nilpotent_lifted (os : Os) (started : os.Started) (H : Type) (enc : TypeId × Value → H) (F : Stop.Interp) :
  ReturnsInHanded {} Tryz.checked os 3 .any ((OpenSpec.ofChange Rows.variationNilpotentSpec).preRow enc Tryz.prog Tryz.f3 Rows.variationNilpotentRow.domain false Rows.variationNilpotentRow.laid) (((OpenSpec.ofChange Rows.variationNilpotentSpec).at F).post enc Tryz.prog Tryz.f3 false true false false) := by
 obtain ⟨places, hx⟩ := nilpotent_reads os enc
 refine returnsInHanded_of_row (C := Tryz.checked) (s := OpenSpec.ofChange Rows.variationNilpotentSpec) own started (by kernel_rfl) Tryz.func3
  (witness_row_at (enc := enc) (C := Tryz.checked) false (laidWorld os nilpotentArgs) nilpotentArgs rfl (by kernel_rfl) (by kernel_rfl) (by kernel_rfl)
   (OpenSpec.preRow_of_cond 8 hx (by kernel_rfl) (fun k hk => by cases hk) (by kernel_rfl) (nilpotent_met os))) ?_
 intro W base args ds gs before hval hW _ _ _ hL _ _
 exact nilpotent_contract H enc W base args ds gs before hval hW hL
theorem nilpotent_said : Rows.VariationNilpotentSaid :=
 OpenClaim.holds_of_cond 3 Tryz.f3 rfl rfl rfl rfl rfl rfl rfl ⟨rfl, rfl, rfl, rfl, rfl⟩ rfl rfl rfl rfl rfl (by kernel_rfl) Tryz.func3 (by kernel_rfl)
  (of_decide_eq_true (by kernel_rfl)) (by unfold Func.isWrapper; first | (rw [if_pos (by decide +kernel)]; kernel_rfl) | (rw [if_neg (by decide +kernel)]; exact ⟨rfl, rfl⟩))
  (fun os started H enc _ F => by rw [OpenClaim.pre_eq_preRow]; exact nilpotent_lifted os started H enc F)
theorem nilpotent_plain (f : FuncId) (fn : Func) (hf : Tryz.pinned.checked.prog.funcNamed "flowpipe/flowpipelaw32.VariationNilpotent" = some f) (hfn : Tryz.pinned.checked.prog.funcs[f]? = some fn) :
  false = Tryz.pinned.checked.prog.looks [] ∧ ∀ (j : Nat) t, fn.params[j]? = some t → Tryz.pinned.checked.prog.wantsStandIn t = false := by
 obtain rfl : f = 3 := Option.some.inj ((show Tryz.prog.funcNamed "flowpipe/flowpipelaw32.VariationNilpotent" = some 3 by kernel_rfl).symm.trans hf) |>.symm
 obtain rfl : fn = Tryz.f3 := (Option.some.inj (Tryz.func3.symm.trans hfn)).symm
 refine ⟨by kernel_rfl, fun j t ht => ?_⟩
 rw [Tryz.params3] at ht
 have : t = 22 ∨ t = 5 := by
  have := Array.mem_of_getElem? ht
  simp at this
  omega
 rcases this with rfl | rfl
 ·exact (show Tryz.prog.wantsStandIn 22 = false by kernel_rfl)
 ·exact (show Tryz.prog.wantsStandIn 5 = false by kernel_rfl)
theorem nilpotent_card : Rows.VariationNilpotentCardSaid :=
 Claim7.holds_tied_plain_at .later [] _ _ _ _ nilpotent_said (fun _ h => by cases h) (by kernel_rfl) (fun _ h => by cases h) variationNilpotent_row_tie rfl ⟨rfl, rfl⟩ (by kernel_rfl) rfl nilpotent_plain (by kernel_rfl)
end Go.Proofs.YtdppllbbgfekaaaGreatDoor
