/- The law VariationGroup returns true: the flow matrix of a sum of times meets the chain of both, for a matrix of points, and that one for the negative time, times it, contains the identity, for every input. -/
import Derived.Test.YtdppllbbgfekaaaGreatDoorM04
set_option linter.unusedSimpArgs false
set_option linter.unusedVariables false
namespace Go.Proofs.YtdppllbbgfekaaaGreatDoor
open Go.RowKit Fp Pu
def sumQ (f : Nat → Rat) : Nat → Rat
 | 0 => 0
 | n + 1 => sumQ f n + f n
theorem sumQ_congr {f g : Nat → Rat} : ∀ n, (∀ i, i < n → f i = g i) → sumQ f n = sumQ g n
 | 0, _ => rfl
 | n + 1, h => by rw [sumQ, sumQ, sumQ_congr n (fun i hi => h i (by omega)), h n (by omega)]
theorem sumQ_le {f g : Nat → Rat} : ∀ n, (∀ i, i < n → f i ≤ g i) → sumQ f n ≤ sumQ g n
 | 0, _ => Rat.le_refl
 | n + 1, h => by
  have h1 := sumQ_le n (fun i hi => h i (by omega))
  have h2 := h n (by omega)
  rw [sumQ, sumQ]; grind
theorem sumQ_nonneg {f : Nat → Rat} (n : Nat) (h : ∀ i, i < n → 0 ≤ f i) : 0 ≤ sumQ f n := by
 induction n with
 | zero => exact Rat.le_refl
 | succ n ih =>
  have h1 := ih (fun i hi => h i (by omega))
  have h2 := h n (by omega)
  rw [sumQ]; grind
theorem sumQ_mul (f : Nat → Rat) (c : Rat) : ∀ n, sumQ (fun i => c * f i) n = c * sumQ f n
 | 0 => by simp [sumQ]
 | n + 1 => by rw [sumQ, sumQ, sumQ_mul f c n]; grind
theorem sumQ_mul' (f : Nat → Rat) (c : Rat) : ∀ n, sumQ (fun i => f i * c) n = sumQ f n * c
 | 0 => by simp [sumQ]
 | n + 1 => by rw [sumQ, sumQ, sumQ_mul' f c n]; grind
theorem sumQ_add (f g : Nat → Rat) : ∀ n, sumQ (fun i => f i + g i) n = sumQ f n + sumQ g n
 | 0 => by simp only [sumQ]; grind
 | n + 1 => by rw [sumQ, sumQ, sumQ, sumQ_add f g n]; grind
theorem sumQ_comm (f : Nat → Nat → Rat) (m : Nat) : ∀ n, sumQ (fun i => sumQ (fun j => f i j) m) n = sumQ (fun j => sumQ (fun i => f i j) n) m
 | 0 => by
  have : ∀ m, sumQ (fun _ => (0 : Rat)) m = 0 := by
   intro m
   induction m with
   | zero => rfl
   | succ m ih => rw [sumQ, ih]; grind
  exact (this m).symm
 | n + 1 => by
  rw [sumQ, sumQ_comm f m n, ← sumQ_add]
  rfl
theorem sumQ_succ' (f : Nat → Rat) : ∀ n, sumQ f (n + 1) = f 0 + sumQ (fun i => f (i + 1)) n
 | 0 => by simp only [sumQ]; grind
 | n + 1 => by rw [sumQ, sumQ_succ' f n, sumQ]; grind
def absQ (x : Rat) : Rat := if 0 ≤ x then x else -x
theorem absQ_spec (x : Rat) : 0 ≤ absQ x ∧ x ≤ absQ x ∧ -x ≤ absQ x ∧ (absQ x = x ∧ 0 ≤ x ∨ absQ x = -x ∧ x ≤ 0) := by unfold absQ; split <;> grind
theorem absQ_le {x b : Rat} (h1 : x ≤ b) (h2 : -x ≤ b) : absQ x ≤ b := by unfold absQ; split <;> grind
theorem absQ_add (x y : Rat) : absQ (x + y) ≤ absQ x + absQ y := by
 obtain ⟨a1, a2, a3, _⟩ := absQ_spec x
 obtain ⟨b1, b2, b3, _⟩ := absQ_spec y
 exact absQ_le (by grind) (by grind)
theorem absQ_mul (x y : Rat) : absQ (x * y) = absQ x * absQ y := by
 obtain ⟨_, _, _, a⟩ := absQ_spec x
 obtain ⟨_, _, _, b⟩ := absQ_spec y
 obtain ⟨c1, _, _, c⟩ := absQ_spec (x * y)
 rcases a with ⟨e1, h1⟩ | ⟨e1, h1⟩ <;> rcases b with ⟨e2, h2⟩ | ⟨e2, h2⟩ <;> rw [e1, e2]
 ·have := Rat.mul_nonneg h1 h2; grind
 ·have := Rat.mul_nonneg h1 (show 0 ≤ -y by grind); grind
 ·have := Rat.mul_nonneg (show 0 ≤ -x by grind) h2; grind
 ·have := Rat.mul_nonneg (show 0 ≤ -x by grind) (show 0 ≤ -y by grind); grind
theorem absQ_sum (f : Nat → Rat) : ∀ n, absQ (sumQ f n) ≤ sumQ (fun i => absQ (f i)) n
 | 0 => by simp [sumQ, absQ]
 | n + 1 => by
  have h1 := absQ_sum f n
  have h2 := absQ_add (sumQ f n) (f n)
  rw [sumQ, sumQ]; grind
theorem absQ_zero : absQ 0 = 0 := rfl
abbrev QM := Nat → Nat → Rat
def mulQ (n : Nat) (A B : QM) : QM := fun i j => sumQ (fun q => A i q * B q j) n
def oneQ : QM := fun i j => if i = j then 1 else 0
def TQ (n : Nat) (M : QM) (t : Rat) : Nat → QM
 | 0 => oneQ
 | j + 1 => fun i l => t / ((j + 1 : Nat) : Rat) * mulQ n (TQ n M t j) M i l
def SQ (n : Nat) (M : QM) (t : Rat) : Nat → QM
 | 0 => oneQ
 | j + 1 => fun i l => SQ n M t j i l + TQ n M t (j + 1) i l
def HasM (n k : Nat) (X : List (List Iv)) (A : QM) : Prop := ∀ i j, i < n → j < k → (elM X i j).has (A i j)
theorem dotP_has {X Y : Nat → Iv} {f g : Nat → Rat} {p : Nat} (hp : 1 ≤ p) (hp2 : p ≤ 4096) (hX : ∀ q, (X q).Valid) (hY : ∀ q, (Y q).Valid) : ∀ k, (∀ q, q ≤ k → (X q).has (f q)) → (∀ q, q ≤ k → (Y q).has (g q)) →
  (dotP X Y p k).has (sumQ (fun q => f q * g q) (k + 1))
 | 0, h1, h2 => by
  have := mulI_has (hX 0) (hY 0) hp hp2 (h1 0 (Nat.le_refl _)) (h2 0 (Nat.le_refl _))
  rw [show sumQ (fun q => f q * g q) (0 + 1) = f 0 * g 0 by simp only [sumQ]; grind]
  exact this
 | k + 1, h1, h2 => addI_has (dotP_valid X Y hp hp2 k) (mulI_valid _ _ hp hp2) hp hp2 (dotP_has hp hp2 hX hY k (fun q hq => h1 q (by omega)) (fun q hq => h2 q (by omega)))
   (mulI_has (hX _) (hY _) hp hp2 (h1 _ (Nat.le_refl _)) (h2 _ (Nat.le_refl _)))
theorem mulM_has {a b : List (List Iv)} {A B : QM} {n k c p : Nat} (ga : MOk a n k) (gb : MOk b k c) (hp : 1 ≤ p) (hp2 : p ≤ 4096) (h1 : HasM n k a A) (h2 : HasM k c b B) : HasM n c (mulM a b p) (mulQ k A B) := by
 intro i j hi hj
 have k1 := ga.k1
 rw [elM_mul ga gb hi hj]
 have := dotP_has (f := fun q => A i q) (g := fun q => B q j) hp hp2 (elM_val ga i) (fun q => elM_val gb q j) (k - 1) (fun q hq => h1 i q hi (by omega)) (fun q hq => h2 q j (by omega) hj)
 rwa [show k - 1 + 1 = k by omega] at this
theorem scaleM_has {a : List (List Iv)} {x : Iv} {A : QM} {t : Rat} {n k p : Nat} (ga : MOk a n k) (hx : x.Valid) (hp : 1 ≤ p) (hp2 : p ≤ 4096) (h1 : HasM n k a A) (h2 : x.has t) : HasM n k (scaleM a x p) (fun i j => t * A i j) := by
 intro i j hi hj
 rw [elM_scale ga hi hj]
 exact mulI_has hx (elM_val ga i j) hp hp2 h2 (h1 i j hi hj)
theorem addM_has {a b : List (List Iv)} {A B : QM} {n k p : Nat} (ga : MOk a n k) (gb : MOk b n k) (hp : 1 ≤ p) (hp2 : p ≤ 4096) (h1 : HasM n k a A) (h2 : HasM n k b B) : HasM n k (addM a b p) (fun i j => A i j + B i j) := by
 intro i j hi hj
 rw [elM_add ga gb hi hj]
 exact addI_has (elM_val ga i j) (elM_val gb i j) hp hp2 (h1 i j hi hj) (h2 i j hi hj)
theorem oneD_q : (⟨false, 1, 0⟩ : Dy).q = 1 := by rw [q_of]; simp [P2_zero]
theorem identM_has (n : Nat) : HasM n n (identM n) oneQ := by
 intro i j hi hj
 rw [elM_ident hi hj]
 unfold oneQ
 split
 ·have := pointI_has ⟨false, 1, 0⟩; rwa [oneD_q] at this
 ·have := pointI_has zeroD; rwa [q_zero] at this
theorem numN_has (j : Nat) : (numI ((j : Nat) : Int)).has ((j : Nat) : Rat) := by have := numI_has ((j : Nat) : Int); rwa [Rat.intCast_natCast] at this
section
variable {m : List (List Iv)} {h : Iv} {M : QM} {t : Rat} {n p : Nat}
theorem termM_has (ga : MOk m n n) (hh : h.Valid) (hp : 1 ≤ p) (hp2 : p ≤ 4096) (h1 : HasM n n m M) (h2 : h.has t) : ∀ j, j < 4294967296 → HasM n n (termM m h p j) (TQ n M t j)
 | 0, _ => by unfold termM; rw [ga.rows]; exact identM_has n
 | j + 1, hj => scaleM_has (mulM_ok (termM_ok ga hp hp2 j) ga hp hp2) (divI_valid _ _ hp hp2) hp hp2 (mulM_has (termM_ok ga hp hp2 j) ga hp hp2 (termM_has ga hh hp hp2 h1 h2 j (by omega)) h1) (divI_has hh (numI_val (j + 1) hj) hp hp2 h2 (numN_has (j + 1)))
theorem sumM_has (ga : MOk m n n) (hh : h.Valid) (hp : 1 ≤ p) (hp2 : p ≤ 4096) (h1 : HasM n n m M) (h2 : h.has t) : ∀ j, j < 4294967296 → HasM n n (sumM m h p j) (SQ n M t j)
 | 0, _ => by unfold sumM; rw [ga.rows]; exact identM_has n
 | j + 1, hj => addM_has (sumM_ok ga hp hp2 j) (termM_ok ga hp hp2 (j + 1)) hp hp2 (sumM_has ga hh hp hp2 h1 h2 j (by omega)) (termM_has ga hh hp hp2 h1 h2 (j + 1) hj)
def RowLe (n : Nat) (A : QM) (b : Rat) : Prop := ∀ i, i < n → sumQ (fun l => absQ (A i l)) n ≤ b
theorem row_mul {A B : QM} {a b : Rat} (_h0 : 0 ≤ a) (hb : 0 ≤ b) (h1 : RowLe n A a) (h2 : RowLe n B b) : RowLe n (mulQ n A B) (a * b) := by
 intro i hi
 have e1 : sumQ (fun l => absQ (mulQ n A B i l)) n ≤ sumQ (fun l => sumQ (fun q => absQ (A i q) * absQ (B q l)) n) n :=
  sumQ_le n fun l _ => by
   have := absQ_sum (fun q => A i q * B q l) n
   rw [show (fun q => absQ (A i q * B q l)) = fun q => absQ (A i q) * absQ (B q l) from funext fun q => absQ_mul _ _] at this
   exact this
 rw [sumQ_comm] at e1
 have e2 : sumQ (fun q => sumQ (fun l => absQ (A i q) * absQ (B q l)) n) n ≤ sumQ (fun q => absQ (A i q) * b) n :=
  sumQ_le n fun q hq => by
   rw [sumQ_mul]
   exact Rat.mul_le_mul_of_nonneg_left (h2 q hq) (absQ_spec _).1
 rw [sumQ_mul'] at e2
 exact Rat.le_trans e1 (Rat.le_trans e2 (Rat.mul_le_mul_of_nonneg_right (h1 i hi) hb))
def eQ (c : Rat) : Nat → Rat
 | 0 => 1
 | j + 1 => eQ c j * (c / ((j + 1 : Nat) : Rat))
theorem natPos (j : Nat) : (0 : Rat) < ((j + 1 : Nat) : Rat) := Rat.natCast_pos.2 (by omega)
theorem div_nonneg' {a b : Rat} (h1 : 0 ≤ a) (h2 : 0 < b) : 0 ≤ a / b := by
 rw [Rat.div_def]; exact Rat.mul_nonneg h1 (Rat.le_of_lt (Rat.inv_pos.2 h2))
theorem eQ_nonneg {c : Rat} (h : 0 ≤ c) : ∀ j, 0 ≤ eQ c j
 | 0 => by simp only [eQ]; decide
 | j + 1 => Rat.mul_nonneg (eQ_nonneg h j) (div_nonneg' h (natPos j))
theorem sumQ_one (n i : Nat) : sumQ (fun l => absQ (oneQ i l)) n ≤ 1 ∧ (n ≤ i → sumQ (fun l => absQ (oneQ i l)) n = 0) := by
 induction n with
 | zero => exact ⟨by simp only [sumQ]; grind, fun _ => rfl⟩
 | succ n ih =>
  have e1 : absQ 1 = 1 := by decide
  simp only [sumQ, oneQ] at ih ⊢
  by_cases h : i = n
  ·have := ih.2 (by omega)
   rw [this, if_pos h, e1]
   exact ⟨by grind, fun h' => absurd h' (by omega)⟩
  ·rw [if_neg h, absQ_zero, Rat.add_zero]
   exact ⟨ih.1, fun h' => ih.2 (by omega)⟩
theorem TQ_row {N : Rat} (hN : 0 ≤ N) (h1 : RowLe n M N) : ∀ j, RowLe n (TQ n M t j) (eQ (absQ t * N) j)
 | 0 => fun i _ => (sumQ_one n i).1
 | j + 1 => by
  have hc : 0 ≤ absQ t * N := Rat.mul_nonneg (absQ_spec t).1 hN
  intro i hi
  have h := row_mul (eQ_nonneg hc j) hN (TQ_row hN h1 j) h1 i hi
  have e : (fun l => absQ (TQ n M t (j + 1) i l)) = fun l => absQ (t / ((j + 1 : Nat) : Rat)) * absQ (mulQ n (TQ n M t j) M i l) := funext fun l => absQ_mul _ _
  rw [e, sumQ_mul]
  have ht : absQ (t / ((j + 1 : Nat) : Rat)) = absQ t / ((j + 1 : Nat) : Rat) := by
   rw [Rat.div_def, Rat.div_def, absQ_mul]
   congr 1
   have := Rat.inv_pos.2 (natPos j)
   unfold absQ; rw [if_pos (Rat.le_of_lt this)]
  rw [ht]
  have h3 := Rat.mul_le_mul_of_nonneg_left h (div_nonneg' (absQ_spec t).1 (natPos j))
  refine Rat.le_trans h3 ?_
  have : absQ t / ((j + 1 : Nat) : Rat) * (eQ (absQ t * N) j * N) = eQ (absQ t * N) (j + 1) := by
   simp only [eQ, Rat.div_def]; grind
  rw [this]; exact Rat.le_refl
theorem row_el {A : QM} {b : Rat} (h : RowLe n A b) {i l : Nat} (hi : i < n) (hl : l < n) : absQ (A i l) ≤ b := by
 have h1 := h i hi
 have : ∀ m, l < m → absQ (A i l) ≤ sumQ (fun l => absQ (A i l)) m := by
  intro m hm
  induction m with
  | zero => omega
  | succ m ih =>
   rw [sumQ]
   have h0 := sumQ_nonneg m (f := fun l => absQ (A i l)) fun i _ => (absQ_spec _).1
   have h2 := (absQ_spec (A i m)).1
   by_cases hq : l = m
   ·subst hq; grind
   ·have := ih (by omega); grind
 exact Rat.le_trans (this n hl) h1
theorem tail_le {c r : Rat} {k : Nat} (hc : 0 ≤ c) (hr : r = c / ((k + 2 : Nat) : Rat)) (hr1 : r ≤ 1) : ∀ d, (1 - r) * sumQ (fun s => eQ c (k + 1 + s)) (d + 1) + r * eQ c (k + 1 + d) ≤ eQ c (k + 1)
 | 0 => by simp only [sumQ, Nat.add_zero]; grind
 | d + 1 => by
  have ih := tail_le hc hr hr1 d
  have h0 := eQ_nonneg hc (k + 1 + d)
  have hq : c / ((k + 1 + d + 1 : Nat) : Rat) ≤ r := by
   rw [hr, Rat.div_def, Rat.div_def]
   exact Rat.mul_le_mul_of_nonneg_left (inv_le (Rat.natCast_pos.2 (by omega)) (Rat.natCast_le_natCast.2 (by omega))) hc
  have hs : eQ c (k + 1 + (d + 1)) ≤ r * eQ c (k + 1 + d) := by
   show eQ c (k + 1 + d) * (c / ((k + 1 + d + 1 : Nat) : Rat)) ≤ _
   rw [Rat.mul_comm r]
   exact Rat.mul_le_mul_of_nonneg_left hq h0
  rw [sumQ]
  generalize sumQ (fun s => eQ c (k + 1 + s)) (d + 1) = S at *
  generalize eQ c (k + 1 + (d + 1)) = a' at *
  generalize eQ c (k + 1 + d) = a at *
  have : (1 - r) * (S + a') + r * a' = (1 - r) * S + a' := by grind
  grind
theorem SQ_diff (M : QM) (t : Rat) (k : Nat) (i l : Nat) : ∀ d, SQ n M t (k + d) i l = SQ n M t k i l + sumQ (fun s => TQ n M t (k + 1 + s) i l) d
 | 0 => by simp only [sumQ, Nat.add_zero]; grind
 | d + 1 => by
  show SQ n M t (k + d) i l + TQ n M t (k + d + 1) i l = _
  rw [SQ_diff M t k i l d, sumQ, show k + d + 1 = k + 1 + d by omega]
  grind
theorem nsum_row {r : List Iv} {f : Nat → Rat} (hp : 1 ≤ p) (hp2 : p ≤ 4096) (v : ∀ i, (r.getD i wholeI).Valid) : ∀ k, (∀ i, i < k → (r.getD i wholeI).has (f i)) → (∀ i, i < k → NGood r p i) → sumQ (fun i => absQ (f i)) k ≤ (nsum r p k).q
 | 0, _, _ => by rw [show nsum r p 0 = zeroD from rfl, q_zero]; exact Rat.le_refl
 | k + 1, hs, hg => by
  have ih := nsum_row hp hp2 v k (fun i hi => hs i (by omega)) (fun i hi => hg i (by omega))
  obtain ⟨g1, g2⟩ := hg k (by omega)
  have mv : ∀ {x : Iv}, x.Valid → (magI x).Canon := fun h => maxD_canon (absD_canon h.canons.1) (absD_canon h.canons.2)
  have A := rnd_up (canon_sumD (nsum_valid r hp hp2 k).canon (mv (v k))) hp hp2
  rw [q_sum] at A
  obtain ⟨a1, a2⟩ := A.1 g2
  obtain ⟨h1, h2⟩ := (hs k (by omega)).ends g1
  obtain ⟨m1, m2, _⟩ := magI_q (v k).q
  have : absQ (f k) ≤ (magI (r.getD k wholeI)).q := absQ_le (by grind) (by grind)
  rw [sumQ]
  have : nsum r p (k + 1) = rndD (sumD (nsum r p k) (magI (r.getD k wholeI))) p true := rfl
  rw [this]; grind
theorem normM_row (ga : MOk m n n) (hp : 1 ≤ p) (hp2 : p ≤ 4096) (h1 : HasM n n m M) {N : Dy} (hN : normM m p = some N) : RowLe n M N.q ∧ 0 ≤ N.q ∧ N.Valid ∧ N.neg = false := by
 have good : ∀ i, i < n → ∀ j, j < n → NGood (m.getD i []) p j := by
  intro i hi j hj
  apply Classical.byContradiction
  intro hc
  rw [normM_none (i := i) (by rw [ga.rows]; exact hi) (by rw [ga.len_at hi]; exact hj) hc] at hN
  cases hN
 have e : normM m p = some (nmost m p n) := by
  rw [← ga.rows]; exact normM_some fun i hi j hj => good i (by rw [← ga.rows]; exact hi) j (by rw [ga.len_at (by rw [← ga.rows]; exact hi)] at hj; exact hj)
 rw [e] at hN
 cases hN
 refine ⟨fun i hi => ?_, q_nn (nmost_nn m p n), nmost_valid m hp hp2 n, nmost_nn m p n⟩
 refine Rat.le_trans (nsum_row hp hp2 (elM_val ga i) n (fun j hj => h1 i j hi hj) (good i hi)) ?_
 have : ∀ x, i < x → x ≤ n → (nsum (m.getD i []) p n).q ≤ (nmost m p x).q := by
  intro x
  induction x with
  | zero => intro h; omega
  | succ x ih =>
   intro h1 h2
   rw [nmost_max, ga.len_at (by omega)]
   obtain ⟨a1, a2, _⟩ := q_max (nmost m p x) (nsum (m.getD x []) p n)
   by_cases hx : i = x
   ·subst hx; exact a2
   ·have := ih (by omega) (by omega); grind
 exact this n hi (Nat.le_refl _)
theorem powI_has {u : Iv} {c : Rat} (hu : u.Valid) (hp : 1 ≤ p) (hp2 : p ≤ 4096) (h : u.has c) : ∀ j, j < 4294967296 → (powI u p j).has (eQ c j)
 | 0, _ => numI_has 1
 | j + 1, hj => by
  have hv : (powI u p j).Valid := by
   cases j with
   | zero => exact numI_val 1 (by decide)
   | succ j => exact mulI_valid _ _ hp hp2
  exact mulI_has hv (divI_valid _ _ hp hp2) hp hp2 (powI_has hu hp hp2 h j (by omega)) (divI_has hu (numI_val (j + 1) hj) hp hp2 h (numN_has (j + 1)))
theorem restI_has (ga : MOk m n n) (hh : h.Valid) (hp : 1 ≤ p) (hp2 : p ≤ 4096) (h1 : HasM n n m M) (h2 : h.has t) {k : Nat} (hk : k < 1000) {e : Iv} (he : restI m h k p = some e) {i l : Nat} (hi : i < n) (hl : l < n) (d : Nat) :
  e.has (sumQ (fun s => TQ n M t (k + 1 + s) i l) d) := by
 unfold restI at he
 cases hN : normM m p with
 | none => rw [hN] at he; cases he
 | some N =>
  rw [hN] at he
  simp only [Option.bind_some] at he
  obtain ⟨r1, r2, r3, r4⟩ := normM_row ga hp hp2 h1 hN
  have hu : (mulI (absI h) (pointI N) p).has (absQ t * N.q) := mulI_has (absI_valid hh) (pointI_valid r3) hp hp2 (absI_has hh h2 (absQ_spec t).2.2.2) (pointI_has N)
  have uv : (mulI (absI h) (pointI N) p).Valid := mulI_valid _ _ hp hp2
  generalize mulI (absI h) (pointI N) p = u at *
  split at he
  ·cases he
  ·rename_i hc
   simp only [Bool.or_eq_true, decide_eq_true_eq, not_or, Int.not_le] at hc
   obtain ⟨c1, c2⟩ := hc
   have c1 : u.all = false := by simpa using c1
   split at he
   ·cases he
   ·rename_i hz
    cases he
    have hz : (divI (powI u p (k + 1)) (subI (numI 1) (divI u (numI (k + 2 : Nat)) p) p) p).all = false := by simpa using hz
    obtain ⟨cc, hcc⟩ : ∃ c, c = absQ t * N.q := ⟨_, rfl⟩
    rw [← hcc] at hu
    have hc0 : 0 ≤ cc := by rw [hcc]; exact Rat.mul_nonneg (absQ_spec t).1 r2
    have c4 := (q_lt _ _).1 c2
    rw [q_intD, Rat.intCast_natCast] at c4
    obtain ⟨u1, u2⟩ := hu.ends c1
    have hlt : cc < ((k + 2 : Nat) : Rat) := by grind
    have hK : (0 : Rat) < ((k + 2 : Nat) : Rat) := Rat.natCast_pos.2 (by omega)
    have hr1 : cc / ((k + 2 : Nat) : Rat) < 1 := by
     apply Rat.lt_of_mul_lt_mul_right (c := ((k + 2 : Nat) : Rat)) _ (Rat.le_of_lt hK)
     rw [Rat.div_mul_cancel (by grind), Rat.one_mul]; exact hlt
    have pv : (powI u p (k + 1)).Valid := mulI_valid _ _ hp hp2
    have dv : (divI u (numI (k + 2 : Nat)) p).Valid := divI_valid _ _ hp hp2
    have sv : (subI (numI 1) (divI u (numI (k + 2 : Nat)) p) p).Valid := addI_valid (numI_val 1 (by decide)) (negI_valid dv) hp hp2
    have hs := subI_has (numI_val 1 (by decide)) dv hp hp2 (numI_has 1) (divI_has uv (numI_val (k + 2) (by omega)) hp hp2 hu (numN_has (k + 2)))
    have hE := (divI_has pv sv hp hp2 (powI_has uv hp hp2 hu (k + 1) (by omega)) hs).ends hz
    generalize divI (powI u p (k + 1)) (subI (numI 1) (divI u (numI (k + 2 : Nat)) p) p) p = E at *
    have o : ((1 : Int) : Rat) = 1 := rfl
    rw [o] at hE
    have hsum : absQ (sumQ (fun s => TQ n M t (k + 1 + s) i l) d) ≤ E.hi.q := by
     have e1 := absQ_sum (fun s => TQ n M t (k + 1 + s) i l) d
     have e2 : sumQ (fun s => absQ (TQ n M t (k + 1 + s) i l)) d ≤ sumQ (fun s => eQ cc (k + 1 + s)) d := sumQ_le d fun s _ => by rw [hcc]; exact row_el (TQ_row r2 r1 (k + 1 + s)) hi hl
     have e3 : sumQ (fun s => eQ cc (k + 1 + s)) d ≤ sumQ (fun s => eQ cc (k + 1 + s)) (d + 1) := by
      rw [sumQ]; have := eQ_nonneg hc0 (k + 1 + d); grind
     have e4 := tail_le hc0 rfl (Rat.le_of_lt hr1) (k := k) d
     have e5 := eQ_nonneg hc0 (k + 1 + d)
     have hr0 : 0 ≤ cc / ((k + 2 : Nat) : Rat) := div_nonneg' hc0 hK
     generalize cc / ((k + 2 : Nat) : Rat) = r at *
     have e6 := Rat.mul_nonneg hr0 e5
     have hpos : (0 : Rat) < 1 - r := by grind
     refine Rat.le_trans (Rat.le_trans e1 (Rat.le_trans e2 e3)) (Rat.le_trans ?_ hE.2)
     apply Rat.le_of_mul_le_mul_right (c := 1 - r) _ hpos
     rw [Rat.div_mul_cancel (by grind)]
     grind
    obtain ⟨a1, a2, a3, _⟩ := absQ_spec (sumQ (fun s => TQ n M t (k + 1 + s) i l) d)
    refine .inr ⟨?_, ?_⟩
    ·show (negD E.hi).q ≤ _
     rw [q_neg]; grind
    ·show _ ≤ E.hi.q
     grind
theorem expM_has (ga : MOk m n n) (hh : h.Valid) (hp : 1 ≤ p) (hp2 : p ≤ 4096) (h1 : HasM n n m M) (h2 : h.has t) (ha : h.all = false) {k : Nat} (hk : k < 1000) {X : List (List Iv)} (hX : expM m h k p = some X) (N : Nat) (hN : k ≤ N) :
  HasM n n X (SQ n M t N) := by
 unfold expM at hX
 cases hr : restI m h k p with
 | none => rw [hr] at hX; cases hX
 | some e =>
  rw [hr] at hX
  simp only [Option.bind_some] at hX
  split at hX
  ·cases hX
  ·cases hX
   intro i l hi hl
   have s1 := sumM_ok (h := h) ga hp hp2 k
   obtain ⟨_, _, _, v, _⟩ := restI_sub ga ga hh hh hk hp hp2 (fun i j _ _ => Sub.refl _) (Sub.refl _) ha hr
   have v : e.Valid := by
    obtain ⟨e', he', _, v', _⟩ := restI_sub ga ga hh hh hk hp hp2 (fun i j _ _ => Sub.refl _) (Sub.refl _) ha hr
    rw [hr] at he'; cases he'; exact v'
   rw [elM_map s1 _ hi hl]
   obtain ⟨d, rfl⟩ : ∃ d, N = k + d := ⟨N - k, by omega⟩
   rw [SQ_diff]
   exact addI_has (elM_val s1 i l) v hp hp2 (sumM_has ga hh hp hp2 h1 h2 k (by omega) i l hi hl) (restI_has ga hh hp hp2 h1 h2 hk hr hi hl d)
end
open Go.RowKit Fp Pu
section
variable (a b c t : Rat)
end
open Go.RowKit Fp Pu
theorem wrap_small (z : Int) (h1 : -9223372036854775808 ≤ z) (h2 : z ≤ 9223372036854775807) : IntKind.i64.wrap z = z := wrap_rng (k := .i64) ⟨h1, h2⟩
set_option maxHeartbeats 1000000 in
theorem scaled_pc (n : Int) (h1 : -128 ≤ n) (h2 : n ≤ 127) : PCt 11 [(.v (.int .i8 n))] (ivP (pointI (canonZ n (-4)))) := by
 exact tr true Tryz.call11 Tryz.func11 (chain [.o 4 (.int (wrap_small _ (by omega) (by omega)) : PV.le (.e (iP (IntKind.i64.wrap n))) (.e (iP n))), .c (lawPoint_pc n (-4) (by omega) (by omega) (by omega))] <| .nil) (by kernel_rfl)
theorem scale_valid {n : Int} (h1 : -1000 ≤ n) (h2 : n ≤ 1000) : (pointI (canonZ n (-4))).Valid := pointI_valid (canonZ_valid (by omega) (by decide) (by decide))
theorem scale_q (n : Int) (e : Int) : (canonZ n e).q = (n : Rat) * P2 e := by
 rw [q_at (k := e) (above_canonZ (Int.le_refl e)), num_canonZ (Int.le_refl e)]
 simp
theorem scale_has (n : Int) (e : Int) : (pointI (canonZ n e)).has ((n : Rat) * P2 e) := by have := pointI_has (canonZ n e); rwa [scale_q] at this
open Go.RowKit Fp Pu
open Classical in
open Classical in
open Go.RowKit Fp Pu
def eqIv2_F (r s : List Iv) (g : FuncId) (cap : List E) (i : Nat) : PS := ⟨32, false, [(17, .e (iP i)), (16, .e (iP r.length)), (15, .e (ivsP r)), (1, .e (ivsP s)), (2, .e (.fn g cap))], []⟩
def eqRow2_F (a b : List (List Iv)) (g : FuncId) (cap : List E) (i : Nat) : PS := ⟨32, false, [(17, .e (iP i)), (16, .e (iP a.length)), (15, .e (matP a)), (1, .e (matP b)), (2, .e (.fn g cap))], []⟩
theorem eqIv_two (r s : List Iv) (g : FuncId) (cap : List E) (he : r.length = s.length) (hl : r.length ≤ 1000000) (hp : ∀ i, i < r.length → PCt g ((ivP (r.getD i wholeI)) :: (ivP (s.getD i wholeI)) :: cap) (bP true)) : PCt 76 [(ivsP r), (ivsP s), (.fn g cap)] (bP true) := by
 exact tr false Tryz.call76 Tryz.func76 (chain [tB 14 (natNe_false he : ((r.length : Int) != (s.length : Int)) = false),
  .s (Sp.upto (eqIv2_F r s g cap) 0 r.length (by omega) (fun i hi hlti => by
    exact spt (chain [tT 18 ((i : Int) < (r.length : Int)) (by omega), iX ((i : Int)) (r.length) (by omega), iX ((i : Int)) (s.length) (by omega),
     .c (hp i (by omega) : PCt g ((ivP (r.getD i wholeI)) :: (ivP (s.getD i wholeI)) :: cap) _), r64 ((i : Int) + 1) (by omega)] <| .nil) (by kernel_rfl))
  (fun hi => by
    exact spt (chain [tF 18 ((r.length : Int) < (r.length : Int)) (by omega)] <| .nil) (by kernel_rfl)) (by nofun) : LpT 4 Tryz.f76 (eqIv2_F r s g cap 0) (.exit 0) ⟨32, false, [], []⟩) .nil] <| .nil) (by kernel_rfl)
theorem eqRow_two (a b : List (List Iv)) (g : FuncId) (cap : List E) (he : a.length = b.length) (hl : a.length ≤ 1000000) (hp : ∀ i, i < a.length → PCt g ((ivsP (a.getD i [])) :: (ivsP (b.getD i [])) :: cap) (bP true)) : PCt 74 [(matP a), (matP b), (.fn g cap)] (bP true) := by
 exact tr false Tryz.call74 Tryz.func74 (chain [tB 14 (natNe_false he : ((a.length : Int) != (b.length : Int)) = false),
  .s (Sp.upto (eqRow2_F a b g cap) 0 a.length (by omega) (fun i hi hlti => by
    exact spt (chain [tT 18 ((i : Int) < (a.length : Int)) (by omega), iX ((i : Int)) (a.length) (by omega), iX ((i : Int)) (b.length) (by omega),
     .c (hp i (by omega) : PCt g ((ivsP (a.getD i [])) :: (ivsP (b.getD i [])) :: cap) _), r64 ((i : Int) + 1) (by omega)] <| .nil) (by kernel_rfl))
  (fun hi => by
    exact spt (chain [tF 18 ((a.length : Int) < (a.length : Int)) (by omega)] <| .nil) (by kernel_rfl)) (by nofun) : LpT 4 Tryz.f74 (eqRow2_F a b g cap 0) (.exit 0) ⟨32, false, [], []⟩) .nil] <| .nil) (by kernel_rfl)
theorem matInside1_pc (r s : List Iv) (he : r.length = s.length) (hl : r.length ≤ 1000) (hr : ∀ i, (r.getD i wholeI).Valid) (hs : ∀ i, (s.getD i wholeI).Valid) (hv : ∀ i, i < r.length → insI (r.getD i wholeI) (s.getD i wholeI) = true) : PCt 104 [(ivsP r), (ivsP s)] (bP true) := by
 exact tr true Tryz.call104 Tryz.func104 (chain [.c (eqIv_two r s 38 [] he (by omega) (fun i hi => by rw [← hv i hi]; exact ivInside_pc _ _ (hr i) (hs i)))] <| .nil) (by kernel_rfl)
theorem matInside_true (a b : List (List Iv)) (n k : Nat) (ga : MOk a n k) (gb : MOk b n k) (hv : ∀ i j, i < n → j < k → insI (elM a i j) (elM b i j) = true) : PCt 30 [(matP a), (matP b)] (bP true) := by
 have ra := ga.rows
 have rb := gb.rows
 have n8 := ga.n8
 have k8 := ga.k8
 exact tr true Tryz.call30 Tryz.func30 (chain [.c (matValid_pc _ _ _ ‹_› : PCt 103 [(matP a)] _), .c (matValid_pc _ _ _ ‹_› : PCt 103 [(matP b)] _),
  .c (eqRow_two a b 104 [] (by omega) (by omega) (fun i hi => matInside1_pc _ _ (by rw [ga.len_at (by omega), gb.len_at (by omega)]) (by rw [ga.len_at (by omega)]; omega) (elV ga i) (elV gb i) (fun j hj => hv i j (by omega) (by rw [ga.len_at (by omega)] at hj; exact hj))))] <| .nil) (by kernel_rfl)
open Go.RowKit Fp Pu
theorem insI_sub {x y : Iv} (h : Sub x y) : insI x y = true := by
 unfold insI
 rcases h with h | ⟨h1, h2, h3⟩
 ·rw [h]; rfl
 ·rw [h1, decide_eq_true ((q_le _ _).2 h2), decide_eq_true ((q_le _ _).2 h3)]; simp
open Go.RowKit Fp Pu
abbrev PCNt (f : FuncId) (args : List E) (nl : Bool) (T : TypeId) (n sz : Nat) (el : Nat → Nat → E) : Prop := PCN Tryz.prog Tb f args nl T n sz el
theorem trn {f : FuncId} {fn : Func} {args : List E} {nl : Bool} {T0 : TypeId} {n sz : Nat} {el : Nat → Nat → E} (hcall : ∀ (vs : Array Value) (w : World), (callFunc f vs).run Tryz.prog w = .ok (.enter f vs) w)
  (hf : Tryz.prog.funcs[f]? = some fn) (t : Tr Tryz.prog Tb) (h : readN TT fn args (.row nl T0 n sz el) t = t.ex fun _ => .a (Bx.le (.row nl T0 n sz el) (.row nl T0 n sz el)) .nil) : PCNt f args nl T0 n sz el :=
 PCN.tr' TT_ok mixed Tb_pers hcall hf t h
open Go.RowKit Fp Pu
def Fp.chainP (l : List (List (List Iv))) (p : Nat) : Nat → List (List Iv)
 | 0 => l.getD 0 []
 | x + 1 => mulM (l.getD (1 + x) []) (Fp.chainP l p x) p
def Fp.formB (l : List (List (List Iv))) (i : Nat) : Bool := decide ((l.getD i []).length ≠ (l.getD 0 []).length) || decide (((l.getD i []).getD 0 []).length ≠ (l.getD i []).length)
def Fp.MV (m : List (List Iv)) : Prop := MOk m m.length (m.getD 0 []).length
theorem chainP_ok {l : List (List (List Iv))} {n p : Nat} (hv : ∀ i, i < l.length → MOk (l.getD i []) n n) (hp1 : 8 ≤ p) (hp2 : p ≤ 512) : ∀ x, x < l.length → MOk (chainP l p x) n n
 | 0, h => hv 0 h
 | x + 1, h => mulM_ok (hv (1 + x) (by omega)) (chainP_ok hv hp1 hp2 x (by omega)) (by omega) (by omega)
def chF1 (l : List (List (List Iv))) (p : Nat) (x : Nat) : PS := ⟨74, true, [(42, .e (iP x)), (41, .e (iP (((l.getD 0 []).length : Nat) : Int))), (6, .own 39), (2, .box 2 0), (1, .e (iP p))], [(39, .row true 31 ((l.getD 0 []).length) 1 (matE (l.getD 0 []))), (2, .cells 62 [(matsP l)])]⟩
def chF2 (l : List (List (List Iv))) (p : Nat) (x : Nat) : PS := ⟨74, true, [(57, .e (iP x)), (56, .e (iP (((l.length - 1) : Nat) : Int))), (55, .e (.sl true (l.length - 1) 1 fun i_ j_ => (E.elf (matsP l)) (1 + i_) j_)), (6, .e (matP (chainP l p x))), (1, .e (iP p))], []⟩
theorem row0_le {nl : Bool} {T n n' sz : Nat} {f g h : Nat → Nat → E} (hn : n = n') (hh : ∀ i j, i < n → j < sz → g i j = h i j ∧ (h i j).nr 2 = true) : Bx.le (.row nl T (0 + n) sz fun i j => if i < 0 then f i j else g (i - 0) j) (.row nl T n' sz h) :=
 .row (by omega) fun i j hi hj => by
  have hi' : i < n := by omega
  simp only [Nat.not_lt_zero, if_false, Nat.sub_zero]
  exact ⟨.of_eq (hh i j hi' hj).1, (hh i j hi' hj).2⟩
theorem slz_le {nl : Bool} {n n' sz : Nat} {f g h : Nat → Nat → E} (hn : n = n') (hh : ∀ i j, i < n → j < sz → g i j = h i j ∧ (h i j).nr 2 = true) : E.le (.sl nl (0 + n) sz fun i j => if i < 0 then f i j else g (i - 0) j) (.sl nl n' sz h) := by
 subst hn
 rw [Nat.zero_add]
 exact .sl fun i j hi hj => by
  simp only [Nat.not_lt_zero, if_false, Nat.sub_zero]
  exact ⟨.of_eq (hh i j hi hj).1, (hh i j hi hj).2⟩
theorem rowSame_le {T n x : Nat} {M : List (List Iv)} : Bx.le (.row true T n 1 fun i' j' => if i' = x ∧ 0 ≤ j' ∧ j' < 0 + 1 then [ivsP (M.getD x [])].getD (j' - 0) .any else matE M i' j') (.row true T n 1 (matE M)) :=
 .row rfl fun i j hi hj => by
  obtain rfl : j = 0 := by omega
  refine ⟨.of_eq ?_, ivsP_nr _⟩
  split
  ·rename_i h; rw [h.1]; rfl
  ·rfl
theorem cloneIv_pc (r : List Iv) (h0 : 0 < r.length) (hl : r.length ≤ 1000) : PCt 109 [(ivsP r)] (ivsP r) := by
 exact tr true Tryz.call109 Tryz.func109 (chain [.a (by omega : 0 < r.length), .bo, .a (by omega : (0 + r.length) * 88 ≤ 140737488355328)] <| rR (ivsP r) (slz_le rfl fun i j hi hj => ⟨rfl, ivL_nr _ _ hj⟩ : E.le (.sl true (0 + r.length) 7 (fun i_ j_ => if i_ < 0 then (fun i_ j_ => ([] : List E).getD (i_ * 7 + j_) (.v (.bool false))) i_ j_ else (E.elf (ivsP r)) (i_ - 0) j_)) (ivsP r))) (by kernel_rfl)
theorem cloneMat_pc (l : List (List Iv)) (h0 : 0 < l.length) (hl : l.length ≤ 1000) : PCNt 108 [matP l] true 31 l.length 1 (matE l) := by
 exact trn Tryz.call108 Tryz.func108 (chain [.a (by omega : 0 < l.length), .bo, .a (by omega : (0 + l.length) * 24 ≤ 140737488355328)] <| .rb (row0_le rfl fun i j hi hj => ⟨rfl, ivsP_nr _⟩ : Bx.le (.row true 31 (0 + l.length) 1 (fun i_ j_ => if i_ < 0 then (fun i_ j_ => ([] : List E).getD (i_ * 1 + j_) (.v (.bool false))) i_ j_ else (E.elf (matP l)) (i_ - 0) j_)) (.row true 31 l.length 1 (matE l)))) (by kernel_rfl)
theorem chain1_pc (m : List (List Iv)) (n k : Nat) (hm : MOk m n k) : PCt 106 [(matP m)] (bP false) := by
 exact tr true Tryz.call106 Tryz.func106 (chain [.c (matValid_pc _ _ _ ‹_› : PCt 103 [(matP m)] _)] <| .nil) (by kernel_rfl)
theorem natNe_dec (a b : Nat) : ((a : Int) != (b : Int)) = decide (a ≠ b) := by
 by_cases h : a = b
 ·rw [decide_eq_false (by simpa using h)]; exact natNe_false h
 ·rw [decide_eq_true (by simpa using h)]; exact natNe_true h
theorem chain2_pc (l : List (List (List Iv))) (i : Nat) (hm : MV (l.getD i [])) (h0 : 0 < l.length) (hm0 : MV (l.getD 0 [])) : PCt 107 [(matP (l.getD i [])), (.ref 1 fun j_ => [(matsP l)].getD j_ .any)] (bP (formB l i)) := by
 have n1 := hm.n1
 have q1 := hm0.n1
 exact tr true Tryz.call107 Tryz.func107 (chain [iX (0) (l.length) (by omega)] <| .w ((((l.getD i []).length : Nat) : Int) = (((l.getD 0 []).length : Nat) : Int))
  (fun k1 => chain [tB 10 (bne_eq_false_iff_eq.2 k1), iX (0) ((l.getD i []).length) (by omega)] <| rQ (bP (((((l.getD i []).getD 0 []).length : Nat) : Int) != (((l.getD i []).length : Nat) : Int))) (bP (formB l i)) (by unfold formB; rw [natNe_dec, decide_eq_false (show ¬ ((l.getD i []).length) ≠ ((l.getD 0 []).length) by omega), Bool.false_or]))
  (fun k1 => chain [tB 10 (bne_iff_ne.2 k1)] <| rQ (bP true) (bP (formB l i)) (by unfold formB; rw [decide_eq_true (show ((l.getD i []).length) ≠ ((l.getD 0 []).length) by omega), Bool.true_or]))) (by kernel_rfl)
theorem chain_yes (l : List (List (List Iv))) (h0 : 0 < l.length) (hl : l.length ≤ 6) (n : Nat) (hv : ∀ i, i < l.length → MOk (l.getD i []) n n) (hf : ((List.range (l.length)).any (formB l)) = false) (p : Nat) (hp1 : 8 ≤ p) (hp2 : p ≤ 512) : PCt 33 [(matsP l), (iP p)] (.tup [(matP (chainP l p (l.length - 1))), (iP 0)]) := by
 have hg0 := hv 0 h0
 have r0 := hg0.rows
 have n1 := hg0.n1
 have n8 := hg0.n8
 have hvv : ∀ i, i < l.length → MV (l.getD i []) := fun i hi => by
  have g := hv i hi
  unfold MV
  rw [g.rows, g.len_at (show 0 < n by have := g.n1; omega)]
  exact g
 exact tr true Tryz.call33 Tryz.func33 (chain [tB 15 (natZ_false (by omega) : ((l.length : Int) == 0) = false), tF 19 (1000 < (l.length : Int)) (by omega),
  .c ((mat_any true l.length (fun i _ => matP (l.getD i [])) 106 [] (fun _ => false) (fun i hi => chain1_pc _ _ _ (hv i hi)) (by omega)).res (.of_eq (by rw [List.any_eq_false.2 (fun _ _ => by simp)])) : PCt 31 [(matsP l), (.fn 106 [])] _),
  tF 27 ((p : Int) < 8) (by omega), tF 30 (512 < (p : Int)) (by omega),
  .c (mat_any true l.length (fun i _ => matP (l.getD i [])) 107 [(.ref 1 fun j_ => [(matsP l)].getD j_ .any)] (formB l) (fun i hi => chain2_pc l i (hvv i hi) (by omega) (hvv 0 (by omega))) (by omega) : PCt 31 [(matsP l), (.fn 107 [(.ref 1 fun j_ => [(matsP l)].getD j_ .any)])] _),
  tB 35 (hf : ((List.range (l.length)).any (formB l)) = false), iX (0) (l.length) (by omega), .cn (cloneMat_pc _ (by omega) (by omega) : PCNt 108 [(matP (l.getD 0 []))] true 31 ((l.getD 0 []).length) 1 (matE (l.getD 0 []))),
  .s (Sp.upto (chF1 l p) 0 ((l.getD 0 []).length) (by omega) (fun x hx hltx => by
    have w1 := hg0.len_at (show x < n by omega)
    exact spt (chain [tT 43 ((x : Int) < (((l.getD 0 []).length : Nat) : Int)) (by omega), iX ((x : Int)) ((l.getD 0 []).length) (by omega), .a (by omega : x < (l.getD 0 []).length),
     .c (cloneIv_pc ((l.getD 0 []).getD x []) (by omega) (by omega)), iX ((x : Int)) ((l.getD 0 []).length) (by omega), .a (by omega : x < (l.getD 0 []).length), r64 ((x : Int) + 1) (by omega)] <| .e (chain [.b 39 (rowSame_le : Bx.le (.row true 31 ((l.getD 0 []).length) 1 (fun i' j' => if i' = x ∧ 0 ≤ j' ∧ j' < 0 + 1 then [(ivsP ((l.getD 0 []).getD x []))].getD (j' - 0) .any else (matE (l.getD 0 [])) i' j')) (.row true 31 ((l.getD 0 []).length) 1 (matE (l.getD 0 []))))] <| .nil)) (by kernel_rfl))
  (fun hx => by
    exact spt (chain [tF 43 ((((l.getD 0 []).length : Nat) : Int) < (((l.getD 0 []).length : Nat) : Int)) (by omega), .z 39] <| .e (chain [.o 6 (.e (matRow_le rfl) : PV.le (.e (.sl true ((l.getD 0 []).length) 1 (matE (l.getD 0 [])))) (.e (matP (l.getD 0 []))))] <| .nil)) (by kernel_rfl)) (by nofun) : LpT 9 Tryz.f33 (chF1 l p 0) (.exit 1) ⟨74, true, [(6, .e (matP (l.getD 0 []))), (2, .box 2 0), (1, .e (iP p))], [(2, .cells 62 [(matsP l)])]⟩) .nil,
  .a (by omega : 0 ≤ (1 : Int) ∧ (1 : Int) ≤ (l.length : Int)),
  .s (Sp.upto (chF2 l p) 0 (l.length - 1) (by omega) (fun x hx hltx => by
    have w1 := hv (1 + x) (by omega)
    have w2 := chainP_ok hv hp1 hp2 x (by omega)
    exact spt (chain [tT 58 ((x : Int) < (((l.length - 1) : Nat) : Int)) (by omega), iX ((x : Int)) ((l.length - 1)) (by omega), .c (matMul_pc (l.getD (1 + x) []) (chainP l p x) p n n n w1 w2 (by omega) (by omega)),
     tB 69 (by decide : ((0 : Int) != 0) = false), r64 ((x : Int) + 1) (by omega)] <| .e (chain [.o 6 (.e (.of_eq rfl) : PV.le (.e (matP (mulM (l.getD (1 + x) []) (chainP l p x) p))) (.e (matP (chainP l p (x + 1)))))] <| .nil)) (by kernel_rfl))
  (fun hx => by
    exact spt (chain [tF 58 ((((l.length - 1) : Nat) : Int) < (((l.length - 1) : Nat) : Int)) (by omega)] <| .nil) (by kernel_rfl)) (by nofun) : LpT 14 Tryz.f33 (chF2 l p 0) (.exit 3) ⟨74, true, [(6, .e (matP (chainP l p (l.length - 1))))], []⟩) (chain [.o 6 (.e (.of_eq rfl) : PV.le (.e (matP (l.getD 0 []))) (.e (matP (chainP l p 0))))] <| .nil)] <| .nil) (by kernel_rfl)
open Go.RowKit Fp Pu
theorem sumQ_tri (g : Nat → Nat → Rat) : ∀ m, sumQ (fun j => sumQ (g j) (m - j)) m = sumQ (fun s => sumQ (fun j => g j (s - j)) (s + 1)) m
 | 0 => rfl
 | m + 1 => by
  have ih := sumQ_tri g m
  have e1 : sumQ (fun j => sumQ (g j) (m + 1 - j)) m = sumQ (fun j => sumQ (g j) (m - j) + g j (m - j)) m :=
   sumQ_congr m fun j hj => by rw [show m + 1 - j = m - j + 1 by omega]; rfl
  have h1 : sumQ (g m) (m + 1 - m) = g m 0 := by
   rw [show m + 1 - m = 0 + 1 by omega]; simp only [sumQ]; grind
  have h2 : sumQ (fun j => g j (m - j)) (m + 1) = sumQ (fun j => g j (m - j)) m + g m (m - m) := rfl
  show sumQ (fun j => sumQ (g j) (m + 1 - j)) m + sumQ (g m) (m + 1 - m) = sumQ (fun s => sumQ (fun j => g j (s - j)) (s + 1)) m + sumQ (fun j => g j (m - j)) (m + 1)
  rw [e1, sumQ_add, h1, h2, ih, Nat.sub_self]
  grind
theorem sumQ_mono {f : Nat → Rat} (h : ∀ i, 0 ≤ f i) {m k : Nat} (hk : m ≤ k) : sumQ f m ≤ sumQ f k := by
 induction k with
 | zero =>
  have : m = 0 := by omega
  rw [this]; exact Rat.le_refl
 | succ k ih =>
  by_cases hm : m = k + 1
  ·rw [hm]; exact Rat.le_refl
  ·have := ih (by omega)
   have := h k
   rw [sumQ]; grind
theorem sumQ_split (f : Nat → Rat) (m : Nat) : ∀ d, sumQ f (m + d) = sumQ f m + sumQ (fun i => f (m + i)) d
 | 0 => by simp only [sumQ, Nat.add_zero]; grind
 | d + 1 => by
  show sumQ f (m + d) + f (m + d) = _
  rw [sumQ_split f m d, sumQ]; grind
theorem eQ_step (c : Rat) (j : Nat) : eQ c (j + 1) * ((j + 1 : Nat) : Rat) = c * eQ c j := by
 have h : c / ((j + 1 : Nat) : Rat) * ((j + 1 : Nat) : Rat) = c := Rat.div_mul_cancel (by have := natPos j; grind)
 simp only [eQ]; grind
theorem bin_eQ (a b : Rat) : ∀ s, sumQ (fun j => eQ b j * eQ a (s - j)) (s + 1) = eQ (a + b) s
 | 0 => by
  show 0 + eQ b 0 * eQ a 0 = 1
  simp only [eQ]; grind
 | s + 1 => by
  have ih := bin_eQ a b s
  have hp := natPos s
  have key : sumQ (fun j => eQ b j * eQ a (s + 1 - j)) (s + 2) * ((s + 1 : Nat) : Rat) = (a + b) * eQ (a + b) s := by
   have e0 : sumQ (fun j => eQ b j * eQ a (s + 1 - j)) (s + 2) * ((s + 1 : Nat) : Rat) = sumQ (fun j => (j : Rat) * (eQ b j * eQ a (s + 1 - j)) + eQ b j * (((s + 1 - j : Nat) : Rat) * eQ a (s + 1 - j))) (s + 2) := by
    rw [← sumQ_mul']
    refine sumQ_congr _ fun j hj => ?_
    have : ((s + 1 : Nat) : Rat) = (j : Rat) + ((s + 1 - j : Nat) : Rat) := by rw [← Rat.natCast_add]; congr 1; omega
    rw [this]; grind
   rw [e0, sumQ_add]
   have e1 : sumQ (fun j => (j : Rat) * (eQ b j * eQ a (s + 1 - j))) (s + 2) = b * eQ (a + b) s := by
    rw [sumQ_succ', ← ih, ← sumQ_mul]
    have z : (((0 : Nat) : Rat)) = 0 := rfl
    rw [z, Rat.zero_mul, Rat.zero_add]
    refine sumQ_congr _ fun j hj => ?_
    have h1 := eQ_step b j
    rw [show s + 1 - (j + 1) = s - j by omega]
    grind
   have e2 : sumQ (fun j => eQ b j * (((s + 1 - j : Nat) : Rat) * eQ a (s + 1 - j))) (s + 2) = a * eQ (a + b) s := by
    rw [show s + 2 = (s + 1) + 1 by omega, sumQ, Nat.sub_self, ← ih, ← sumQ_mul]
    have z : (((0 : Nat) : Rat)) = 0 := rfl
    rw [z, Rat.zero_mul, Rat.mul_zero, Rat.add_zero]
    refine sumQ_congr _ fun j hj => ?_
    have h1 := eQ_step a (s - j)
    rw [show s + 1 - j = s - j + 1 by omega]
    grind
   rw [e1, e2]; grind
  have h2 := eQ_step (a + b) s
  have h3 : sumQ (fun j => eQ b j * eQ a (s + 1 - j)) (s + 2) * ((s + 1 : Nat) : Rat) = eQ (a + b) (s + 1) * ((s + 1 : Nat) : Rat) := by rw [key, h2]
  exact Rat.le_antisymm (Rat.le_of_mul_le_mul_right (by rw [h3]; exact Rat.le_refl) hp) (Rat.le_of_mul_le_mul_right (by rw [h3]; exact Rat.le_refl) hp)
theorem eQ_abs (c : Rat) : ∀ j, absQ (eQ c j) = eQ (absQ c) j
 | 0 => by simp only [eQ]; decide
 | j + 1 => by
  simp only [eQ]
  rw [absQ_mul, eQ_abs c j]
  congr 1
  rw [Rat.div_def, Rat.div_def, absQ_mul]
  congr 1
  have := Rat.inv_pos.2 (natPos j)
  unfold absQ; rw [if_pos (Rat.le_of_lt this)]
def powQ (v : Rat) : Nat → Rat
 | 0 => 1
 | j + 1 => powQ v j * v
theorem powQ_add (v : Rat) (i : Nat) : ∀ j, powQ v (i + j) = powQ v i * powQ v j
 | 0 => by simp only [powQ, Nat.add_zero]; grind
 | j + 1 => by
  show powQ v (i + j) * v = _
  rw [powQ_add v i j, powQ]; grind
theorem powQ_nonneg {v : Rat} (h : 0 ≤ v) : ∀ j, 0 ≤ powQ v j
 | 0 => by simp only [powQ]; decide
 | j + 1 => Rat.mul_nonneg (powQ_nonneg h j) h
theorem eQ_scale (c v : Rat) : ∀ j, eQ (c * v) j = eQ c j * powQ v j
 | 0 => by simp only [eQ, powQ]; grind
 | j + 1 => by
  simp only [eQ, powQ]
  rw [eQ_scale c v j]
  simp only [Rat.div_def]; grind
theorem arch (q : Rat) : ∃ n : Nat, q ≤ (n : Rat) := by
 refine ⟨q.ceil.toNat, ?_⟩
 have h1 : q ≤ (q.ceil : Rat) := Rat.le_ceil
 have h2 : ((q.ceil : Int) : Rat) ≤ ((q.ceil.toNat : Nat) : Rat) := by
  rw [← Rat.intCast_natCast, Rat.intCast_le_intCast]; omega
 exact Rat.le_trans h1 h2
theorem tail_half {z : Rat} {J : Nat} (hz : 0 ≤ z) (hJ : z * 2 ≤ (J : Rat)) {m : Nat} (hm : J ≤ m) : eQ z (m + 1) * 2 ≤ eQ z m := by
 have h0 := eQ_nonneg hz m
 have h1 := eQ_step z m
 have hp := natPos m
 have hJm : z * 2 ≤ ((m + 1 : Nat) : Rat) := Rat.le_trans hJ (Rat.natCast_le_natCast.2 (by omega))
 apply Rat.le_of_mul_le_mul_right (c := ((m + 1 : Nat) : Rat)) _ hp
 have h2 := Rat.mul_le_mul_of_nonneg_left hJm h0
 grind
theorem tail_sum {z : Rat} {J : Nat} (hz : 0 ≤ z) (hJ : z * 2 ≤ (J : Rat)) {m : Nat} (hm : J ≤ m) : ∀ d, sumQ (fun i => eQ z (m + i)) d + eQ z (m + d) * 2 ≤ eQ z m * 2
 | 0 => by simp only [sumQ, Nat.add_zero]; grind
 | d + 1 => by
  have ih := tail_sum hz hJ hm d
  have h1 := tail_half hz hJ (show J ≤ m + d by omega)
  rw [sumQ, show m + (d + 1) = m + d + 1 by omega]
  grind
theorem tail_pow {z : Rat} {J : Nat} (hz : 0 ≤ z) (hJ : z * 2 ≤ (J : Rat)) : ∀ r : Nat, eQ z (J + r) * ((2 ^ r : Nat) : Rat) ≤ eQ z J
 | 0 => by simp
 | r + 1 => by
  have ih := tail_pow hz hJ r
  have h1 := tail_half hz hJ (show J ≤ J + r by omega)
  have hp : (0 : Rat) ≤ ((2 ^ r : Nat) : Rat) := Rat.natCast_nonneg
  have h2 := Rat.mul_le_mul_of_nonneg_right h1 hp
  rw [show (2 ^ (r + 1) : Nat) = 2 ^ r * 2 from Nat.pow_succ _ _, Rat.natCast_mul, show J + (r + 1) = J + r + 1 by omega]
  have e : ((2 : Nat) : Rat) = 2 := rfl
  rw [e]; grind
theorem tail_small {z ε : Rat} (hz : 0 ≤ z) (hε : 0 < ε) : ∃ m0, ∀ m, m0 ≤ m → ∀ d, sumQ (fun i => eQ z (m + i)) d ≤ ε := by
 obtain ⟨J, hJ⟩ := arch (z * 2)
 obtain ⟨r, hr⟩ := arch (eQ z J * 2 / ε)
 refine ⟨J + r, fun m hm d => ?_⟩
 obtain ⟨t, rfl⟩ : ∃ t, m = J + t := ⟨m - J, by omega⟩
 have h1 := tail_sum hz hJ (show J ≤ J + t by omega) d
 have h2 := tail_pow hz hJ t
 have h3 := eQ_nonneg hz (J + t + d)
 have h4 := eQ_nonneg hz (J + t)
 have hrt : (r : Rat) ≤ ((2 ^ t : Nat) : Rat) := Rat.natCast_le_natCast.2 (Nat.le_of_lt (Nat.lt_of_le_of_lt (show r ≤ t by omega) Nat.lt_two_pow_self))
 have h5 : eQ z J * 2 ≤ ε * ((2 ^ t : Nat) : Rat) := by
  have h6 : eQ z J * 2 / ε * ε = eQ z J * 2 := Rat.div_mul_cancel (by grind)
  have h7 := Rat.mul_le_mul_of_nonneg_right (Rat.le_trans hr hrt) (Rat.le_of_lt hε)
  grind
 have hp : (0 : Rat) < ((2 ^ t : Nat) : Rat) := Rat.natCast_pos.2 (Nat.pow_pos (by decide))
 have h8 : eQ z (J + t) * 2 ≤ ε := by
  apply Rat.le_of_mul_le_mul_right (c := ((2 ^ t : Nat) : Rat)) _ hp
  grind
 grind
def MP (n : Nat) (M : QM) : Nat → QM
 | 0 => oneQ
 | j + 1 => mulQ n (MP n M j) M
section
variable {n : Nat} {M : QM}
theorem TQ_MP (t : Rat) : ∀ j i l, TQ n M t j i l = eQ t j * MP n M j i l
 | 0, i, l => by simp only [TQ, eQ, MP]; grind
 | j + 1, i, l => by
  show t / ((j + 1 : Nat) : Rat) * sumQ (fun q => TQ n M t j i q * M q l) n = eQ t j * (t / ((j + 1 : Nat) : Rat)) * sumQ (fun q => MP n M j i q * M q l) n
  rw [sumQ_congr n fun q _ => show TQ n M t j i q * M q l = eQ t j * (MP n M j i q * M q l) by rw [TQ_MP t j i q]; grind, sumQ_mul]
  grind
theorem SQ_MP (t : Rat) (i l : Nat) : ∀ N, SQ n M t N i l = sumQ (fun j => eQ t j * MP n M j i l) (N + 1)
 | 0 => by simp only [SQ, sumQ, eQ, MP]; grind
 | N + 1 => by
  show SQ n M t N i l + TQ n M t (N + 1) i l = _
  rw [SQ_MP t i l N, TQ_MP]; rfl
theorem mulQ_one (A : QM) (i : Nat) {l : Nat} (hl : l < n) : mulQ n A oneQ i l = A i l := by
 have : ∀ m, sumQ (fun q => A i q * oneQ q l) m = if l < m then A i l else 0 := by
  intro m
  induction m with
  | zero => simp [sumQ]
  | succ m ih =>
   rw [sumQ, ih]
   unfold oneQ
   by_cases h1 : l < m
   ·rw [if_pos h1, if_neg (show ¬ m = l by omega), if_pos (show l < m + 1 by omega)]; grind
   ·by_cases h2 : m = l
    ·subst h2; rw [if_neg h1, if_pos rfl, if_pos (show m < m + 1 by omega)]; grind
    ·rw [if_neg h1, if_neg h2, if_neg (show ¬ l < m + 1 by omega)]; grind
 unfold mulQ
 rw [this, if_pos hl]
theorem mulQ_assoc (A B C : QM) (i l : Nat) : mulQ n A (mulQ n B C) i l = mulQ n (mulQ n A B) C i l := by
 unfold mulQ
 have e1 : ∀ q, A i q * sumQ (fun r => B q r * C r l) n = sumQ (fun r => A i q * (B q r * C r l)) n := fun q => (sumQ_mul _ _ n).symm
 have e2 : ∀ r, sumQ (fun q => A i q * B q r) n * C r l = sumQ (fun q => A i q * B q r * C r l) n := fun r => (sumQ_mul' _ _ n).symm
 rw [sumQ_congr n fun q _ => e1 q, sumQ_congr (f := fun q => sumQ (fun q_1 => A i q_1 * B q_1 q) n * C q l) n fun r _ => e2 r, sumQ_comm]
 exact sumQ_congr n fun r _ => sumQ_congr n fun q _ => by grind
theorem MP_add (j : Nat) : ∀ k i l, l < n → mulQ n (MP n M j) (MP n M k) i l = MP n M (j + k) i l
 | 0, i, l, hl => mulQ_one _ i hl
 | k + 1, i, l, hl => by
  show mulQ n (MP n M j) (mulQ n (MP n M k) M) i l = mulQ n (MP n M (j + k)) M i l
  rw [mulQ_assoc]
  exact sumQ_congr n fun q hq => by rw [MP_add j k i q hq]
theorem MP_row {v : Rat} (hv : 0 ≤ v) (h : RowLe n M v) : ∀ j, RowLe n (MP n M j) (powQ v j)
 | 0 => fun i _ => (sumQ_one n i).1
 | j + 1 => row_mul (powQ_nonneg hv j) hv (MP_row hv h j) h
theorem row_ex (n : Nat) (M : QM) : ∃ v, 0 ≤ v ∧ RowLe n M v := by
 refine ⟨sumQ (fun i => sumQ (fun l => absQ (M i l)) n) n, sumQ_nonneg n fun i _ => sumQ_nonneg n fun l _ => (absQ_spec _).1, fun i hi => ?_⟩
 have : ∀ m, i < m → sumQ (fun l => absQ (M i l)) n ≤ sumQ (fun i => sumQ (fun l => absQ (M i l)) n) m := by
  intro m hm
  induction m with
  | zero => omega
  | succ m ih =>
   rw [sumQ]
   have h0 : 0 ≤ sumQ (fun l => absQ (M m l)) n := sumQ_nonneg n fun l _ => (absQ_spec _).1
   have h1 : 0 ≤ sumQ (fun i => sumQ (fun l => absQ (M i l)) n) m := sumQ_nonneg m fun i _ => sumQ_nonneg n fun l _ => (absQ_spec _).1
   by_cases hq : i = m
   ·subst hq; grind
   ·have := ih (by omega); grind
 exact this n hi
theorem prod_MP (a b : Rat) (N : Nat) (i : Nat) {l : Nat} (hl : l < n) : mulQ n (SQ n M b N) (SQ n M a N) i l = sumQ (fun j => sumQ (fun k => eQ b j * eQ a k * MP n M (j + k) i l) (N + 1)) (N + 1) := by
 unfold mulQ
 have e1 : ∀ q, SQ n M b N i q * SQ n M a N q l = sumQ (fun j => sumQ (fun k => eQ b j * eQ a k * (MP n M j i q * MP n M k q l)) (N + 1)) (N + 1) := by
  intro q
  rw [SQ_MP, SQ_MP, ← sumQ_mul']
  refine sumQ_congr _ fun j _ => ?_
  rw [← sumQ_mul]
  exact sumQ_congr _ fun k _ => by grind
 rw [sumQ_congr n fun q _ => e1 q, sumQ_comm]
 refine sumQ_congr _ fun j _ => ?_
 rw [sumQ_comm]
 refine sumQ_congr _ fun k _ => ?_
 rw [← MP_add j k i l hl, sumQ_mul]
 rfl
theorem tri_MP (a b : Rat) (N : Nat) (i l : Nat) : sumQ (fun j => sumQ (fun k => eQ b j * eQ a k * MP n M (j + k) i l) (N + 1 - j)) (N + 1) = SQ n M (a + b) N i l := by
 rw [sumQ_tri (fun j k => eQ b j * eQ a k * MP n M (j + k) i l), SQ_MP]
 refine sumQ_congr _ fun s _ => ?_
 rw [← bin_eQ, ← sumQ_mul']
 exact sumQ_congr _ fun j hj => by rw [show j + (s - j) = s by omega]
theorem sq_tri (g : Nat → Nat → Rat) (m : Nat) : sumQ (fun j => sumQ (g j) m) m = sumQ (fun j => sumQ (g j) (m - j)) m + sumQ (fun j => sumQ (fun k => g j (m - j + k)) j) m := by
 rw [← sumQ_add]
 refine sumQ_congr _ fun j hj => ?_
 rw [← sumQ_split, show m - j + j = m by omega]
theorem group_diff {v : Rat} (hv : 0 ≤ v) (h : RowLe n M v) (a b : Rat) (N : Nat) {i l : Nat} (hi : i < n) (hl : l < n) :
  absQ (mulQ n (SQ n M b N) (SQ n M a N) i l - SQ n M (a + b) N i l) ≤ sumQ (fun s => eQ (absQ a * v + absQ b * v) (N + 1 + s)) (N + 1) := by
 have hx : 0 ≤ absQ a * v := Rat.mul_nonneg (absQ_spec a).1 hv
 have hy : 0 ≤ absQ b * v := Rat.mul_nonneg (absQ_spec b).1 hv
 have e1 : mulQ n (SQ n M b N) (SQ n M a N) i l = SQ n M (a + b) N i l + sumQ (fun j => sumQ (fun k => eQ b j * eQ a (N + 1 - j + k) * MP n M (j + (N + 1 - j + k)) i l) j) (N + 1) := by
  have := sq_tri (fun j k => eQ b j * eQ a k * MP n M (j + k) i l) (N + 1)
  rw [tri_MP, ← prod_MP a b N i hl] at this
  exact this
 have e2 : mulQ n (SQ n M b N) (SQ n M a N) i l - SQ n M (a + b) N i l = sumQ (fun j => sumQ (fun k => eQ b j * eQ a (N + 1 - j + k) * MP n M (j + (N + 1 - j + k)) i l) j) (N + 1) := by grind
 rw [e2]
 have e3 : absQ (sumQ (fun j => sumQ (fun k => eQ b j * eQ a (N + 1 - j + k) * MP n M (j + (N + 1 - j + k)) i l) j) (N + 1)) ≤ sumQ (fun j => sumQ (fun k => eQ (absQ b * v) j * eQ (absQ a * v) (N + 1 - j + k)) j) (N + 1) := by
  refine Rat.le_trans (absQ_sum _ _) (sumQ_le _ fun j _ => Rat.le_trans (absQ_sum _ _) (sumQ_le _ fun k _ => ?_))
  rw [absQ_mul, absQ_mul, eQ_abs, eQ_abs, eQ_scale, eQ_scale]
  have hr := row_el (MP_row hv h (j + (N + 1 - j + k))) hi hl
  rw [powQ_add] at hr
  have h1 := eQ_nonneg (absQ_spec b).1 j
  have h2 := eQ_nonneg (absQ_spec a).1 (N + 1 - j + k)
  have h3 := Rat.mul_le_mul_of_nonneg_left hr (Rat.mul_nonneg h1 h2)
  grind
 refine Rat.le_trans e3 ?_
 have q1 : sumQ (fun j => sumQ (fun k => eQ (absQ b * v) j * eQ (absQ a * v) k) (N + 1)) (N + 1) = sumQ (fun j => sumQ (fun k => eQ (absQ b * v) j * eQ (absQ a * v) k) (N + 1 - j)) (N + 1) + sumQ (fun j => sumQ (fun k => eQ (absQ b * v) j * eQ (absQ a * v) (N + 1 - j + k)) j) (N + 1) :=
  sq_tri (fun j k => eQ (absQ b * v) j * eQ (absQ a * v) k) (N + 1)
 have q2 : sumQ (fun j => sumQ (fun k => eQ (absQ b * v) j * eQ (absQ a * v) k) (N + 1 - j)) (N + 1) = sumQ (fun s => eQ (absQ a * v + absQ b * v) s) (N + 1) := by
  rw [sumQ_tri (fun j k => eQ (absQ b * v) j * eQ (absQ a * v) k)]
  exact sumQ_congr _ fun s _ => bin_eQ _ _ s
 have G0 : ∀ j k, 0 ≤ eQ (absQ b * v) j * eQ (absQ a * v) k := fun j k => Rat.mul_nonneg (eQ_nonneg hy j) (eQ_nonneg hx k)
 have q3 : sumQ (fun j => sumQ (fun k => eQ (absQ b * v) j * eQ (absQ a * v) k) (N + 1)) (N + 1) ≤ sumQ (fun s => eQ (absQ a * v + absQ b * v) s) (N + 1 + (N + 1)) := by
  rw [← sumQ_congr (f := fun s => sumQ (fun j => eQ (absQ b * v) j * eQ (absQ a * v) (s - j)) (s + 1)) _ fun s _ => bin_eQ _ _ s, ← sumQ_tri (fun j k => eQ (absQ b * v) j * eQ (absQ a * v) k)]
  refine Rat.le_trans (sumQ_le _ fun j hj => sumQ_mono (fun k => G0 j k) (show N + 1 ≤ N + 1 + (N + 1) - j by omega)) ?_
  exact sumQ_mono (fun j => sumQ_nonneg _ fun k _ => G0 j k) (by omega)
 rw [sumQ_split (fun s => eQ (absQ a * v + absQ b * v) s) (N + 1) (N + 1), q1, q2] at q3
 have cancel : ∀ A B C : Rat, A + B ≤ A + C → B ≤ C := by intro A B C h; grind
 exact cancel _ _ _ q3
theorem group_lim (n : Nat) (M : QM) (a b : Rat) {ε : Rat} (hε : 0 < ε) : ∃ N0, ∀ N, N0 ≤ N → ∀ i l, i < n → l < n → absQ (mulQ n (SQ n M b N) (SQ n M a N) i l - SQ n M (a + b) N i l) ≤ ε := by
 obtain ⟨v, hv, h⟩ := row_ex n M
 have hz : 0 ≤ absQ a * v + absQ b * v := by
  have hx : 0 ≤ absQ a * v := Rat.mul_nonneg (absQ_spec a).1 hv
  have hy : 0 ≤ absQ b * v := Rat.mul_nonneg (absQ_spec b).1 hv
  grind
 obtain ⟨m0, h0⟩ := tail_small hz hε
 exact ⟨m0, fun N hN i l hi hl => Rat.le_trans (group_diff hv h a b N hi hl) (h0 (N + 1) (by omega) (N + 1))⟩
theorem SQ_zero (N : Nat) (i l : Nat) : SQ n M 0 N i l = oneQ i l := by
 induction N with
 | zero => rfl
 | succ N ih =>
  show SQ n M 0 N i l + TQ n M 0 (N + 1) i l = _
  rw [ih, TQ_MP]
  simp only [eQ, Rat.div_def]; grind
end
theorem meet_lim {W Z : Iv} {P S : Nat → Rat} (wa : W.all = false) (za : Z.all = false) {k : Nat} (hW : ∀ N, k ≤ N → W.has (P N)) (hZ : ∀ N, k ≤ N → Z.has (S N)) (h : ∀ ε, 0 < ε → ∃ N0, ∀ N, N0 ≤ N → absQ (P N - S N) ≤ ε) : W.lo.q ≤ Z.hi.q ∧ Z.lo.q ≤ W.hi.q := by
 have key : ∀ ε, 0 < ε → W.lo.q ≤ Z.hi.q + ε ∧ Z.lo.q ≤ W.hi.q + ε := by
  intro ε hε
  obtain ⟨N0, h0⟩ := h ε hε
  have h1 := h0 (max N0 k) (by omega)
  obtain ⟨w1, w2⟩ := (hW (max N0 k) (by omega)).ends wa
  obtain ⟨z1, z2⟩ := (hZ (max N0 k) (by omega)).ends za
  obtain ⟨_, a2, a3, _⟩ := absQ_spec (P (max N0 k) - S (max N0 k))
  constructor <;> grind
 constructor
 ·apply Rat.not_lt.1; intro hlt
  have := (key ((W.lo.q - Z.hi.q) / 2) (by grind)).1
  grind
 ·apply Rat.not_lt.1; intro hlt
  have := (key ((Z.lo.q - W.hi.q) / 2) (by grind)).2
  grind
open Go.RowKit Fp Pu
open Go.RowKit Fp Pu
theorem getD_mem {α : Type} {l : List α} {d : α} {P : α → Prop} (h : ∀ x, x ∈ l → P x) (hd : P d) (i : Nat) : P (l.getD i d) := by
 by_cases hi : i < l.length
 ·rw [getD_eq_getElem hi]; exact h _ (List.getElem_mem hi)
 ·rw [List.getD_eq_getElem?_getD, List.getElem?_eq_none (by omega)]; exact hd
open Go.RowKit Fp Pu
def grpI (l : List Int) (s i j : Nat) : Iv := pointI (canonZ (l.getD (i * s + j) 0) (-4))
def grpM (l : List Int) (s : Nat) : List (List Iv) := wholeM s (fun _ => s) (grpI l s)
theorem mats2_le (a b : List (List Iv)) : E.le (.sl true 2 1 fun i_ j_ => [(matP a), (matP b)].getD (i_ * 1 + j_) (.v (.bool false))) (matsP [a, b]) := .sl fun i j hi hj => by
 obtain rfl : j = 0 := by omega
 obtain rfl | rfl : i = 0 ∨ i = 1 := by omega
 ·exact ⟨.refl _, rfl⟩
 ·exact ⟨.refl _, rfl⟩
def grFO (n : Nat) (l : List Int) (a b : Int) (k : Nat) (x : Nat) : PS := ⟨162, true, [(38, .e (iP x)), (37, .e (iP (((1 + (n % 3)) : Nat) : Int))), (12, .own 36), (11, .e (iP (((1 + (n % 3)) : Nat) : Int))), (1, .e (intsP .i8 l)), (2, .e (.v (.int .i8 a))), (3, .e (.v (.int .i8 b))), (4, .e (.v (.int .u8 (k : Int))))], [(36, .rows true 31 28 (1 + (n % 3)) 7 (lnE (buildM (1 + (n % 3)) (fun _ => (1 + (n % 3))) (grpI l (1 + (n % 3))) x 0)) (rowsE (buildM (1 + (n % 3)) (fun _ => (1 + (n % 3))) (grpI l (1 + (n % 3))) x 0)) .none)]⟩
def grFI (n : Nat) (l : List Int) (a b : Int) (k : Nat) (x : Nat) (y : Nat) : PS := ⟨162, true, [(42, .e (iP y)), (41, .e (iP (((1 + (n % 3)) : Nat) : Int))), (13, .e (iP x)), (38, .e (iP x)), (37, .e (iP (((1 + (n % 3)) : Nat) : Int))), (12, .own 36), (11, .e (iP (((1 + (n % 3)) : Nat) : Int))), (1, .e (intsP .i8 l)), (2, .e (.v (.int .i8 a))), (3, .e (.v (.int .i8 b))), (4, .e (.v (.int .u8 (k : Int))))], [(36, .rows true 31 28 (1 + (n % 3)) 7 (lnE (buildM (1 + (n % 3)) (fun _ => (1 + (n % 3))) (grpI l (1 + (n % 3))) x y)) (rowsE (buildM (1 + (n % 3)) (fun _ => (1 + (n % 3))) (grpI l (1 + (n % 3))) x y)) .none)]⟩
theorem grFI_lp (n : Nat) (l : List Int) (a b : Int) (k : Nat) (x : Nat) (hn : n ≤ 255) (hl : l.length ≤ 9223372036854775807) (hr : ∀ i, -128 ≤ l.getD i 0 ∧ l.getD i 0 ≤ 127) (hx3 : x < (1 + (n % 3))) : LpT 9 Tryz.f8 (grFI n l a b k x 0) (.exit 2) ⟨162, true, [(38, .e (iP x)), (37, .e (iP (((1 + (n % 3)) : Nat) : Int))), (12, .own 36), (11, .e (iP (((1 + (n % 3)) : Nat) : Int))), (1, .e (intsP .i8 l)), (2, .e (.v (.int .i8 a))), (3, .e (.v (.int .i8 b))), (4, .e (.v (.int .u8 (k : Int))))], [(36, .rows true 31 28 (1 + (n % 3)) 7 (lnE (buildM (1 + (n % 3)) (fun _ => (1 + (n % 3))) (grpI l (1 + (n % 3))) x (1 + (n % 3)))) (rowsE (buildM (1 + (n % 3)) (fun _ => (1 + (n % 3))) (grpI l (1 + (n % 3))) x (1 + (n % 3)))) .none)]⟩ :=
  Sp.upto (grFI n l a b k x) 0 (1 + (n % 3)) (by omega) (fun y hy hlty => by
    have hxn : x * (1 + (n % 3)) ≤ 3 * 3 := Nat.mul_le_mul (by omega) (by omega)
    have w1 := hr (x * (1 + (n % 3)) + y)
    have hle : lnE (buildM (1 + (n % 3)) (fun _ => (1 + (n % 3))) (grpI l (1 + (n % 3))) x y) x = y := lnE_at (by omega)
    by_cases c1 : x * (1 + (n % 3)) + y < l.length
    ·have h1 := one_len (pointI (canonZ (l.getD ((x * (1 + (n % 3))) + y) 0) (-4)))
     exact spt (chain [tT 43 ((y : Int) < (((1 + (n % 3)) : Nat) : Int)) (by omega), r64 ((x : Int) * (((1 + (n % 3)) : Nat) : Int)) (by omega), r64 ((((x * (1 + (n % 3))) : Nat) : Int) + (y : Int)) (by omega),
      tT 52 (((((x * (1 + (n % 3))) + y) : Nat) : Int) < (l.length : Int)) (by omega), r64 ((x : Int) * (((1 + (n % 3)) : Nat) : Int)) (by omega), r64 ((((x * (1 + (n % 3))) : Nat) : Int) + (y : Int)) (by omega),
      iX (((((x * (1 + (n % 3))) + y) : Nat) : Int)) (l.length) (by omega), iX ((x : Int)) ((1 + (n % 3))) (by omega), .a (by omega : x < (1 + (n % 3))), .c (scaled_pc (l.getD ((x * (1 + (n % 3))) + y) 0) (by omega) (by omega)),
      .o 69 (.e (ivs1_le _) : PV.le (.e (.sl true 1 7 fun i_ j_ => (ivL (pointI (canonZ (l.getD ((x * (1 + (n % 3))) + y) 0) (-4)))).getD (i_ * 7 + j_) (.v (.bool false)))) (.e (ivsP [(pointI (canonZ (l.getD ((x * (1 + (n % 3))) + y) 0) (-4)))]))),
      .a (by omega : x < (1 + (n % 3))), .a (by omega : ((lnE (buildM (1 + (n % 3)) (fun _ => (1 + (n % 3))) (grpI l (1 + (n % 3))) x y)) x + [(pointI (canonZ (l.getD ((x * (1 + (n % 3))) + y) 0) (-4)))].length) * 88 ≤ 140737488355328),
      iX ((x : Int)) ((1 + (n % 3))) (by omega), .a (rfl : x = x), .a (rfl : x = x), .a (by omega : x < (1 + (n % 3))), r64 ((y : Int) + 1) (by omega)] <| .e (chain [.b 36 (rows_push rfl (by omega) (by omega) rfl : Bx.le (.rows true 31 28 (1 + (n % 3)) 7 (fun q => if q = x then (lnE (buildM (1 + (n % 3)) (fun _ => (1 + (n % 3))) (grpI l (1 + (n % 3))) x y)) q + [(pointI (canonZ (l.getD ((x * (1 + (n % 3))) + y) 0) (-4)))].length else (lnE (buildM (1 + (n % 3)) (fun _ => (1 + (n % 3))) (grpI l (1 + (n % 3))) x y)) q) (fun q i j => if q = x then (if i < (lnE (buildM (1 + (n % 3)) (fun _ => (1 + (n % 3))) (grpI l (1 + (n % 3))) x y)) q then (rowsE (buildM (1 + (n % 3)) (fun _ => (1 + (n % 3))) (grpI l (1 + (n % 3))) x y)) q i j else (E.elf (ivsP [(pointI (canonZ (l.getD ((x * (1 + (n % 3))) + y) 0) (-4)))])) (i - (lnE (buildM (1 + (n % 3)) (fun _ => (1 + (n % 3))) (grpI l (1 + (n % 3))) x y)) q) j) else (rowsE (buildM (1 + (n % 3)) (fun _ => (1 + (n % 3))) (grpI l (1 + (n % 3))) x y)) q i j) .none) (.rows true 31 28 (1 + (n % 3)) 7 (lnE (buildM (1 + (n % 3)) (fun _ => (1 + (n % 3))) (grpI l (1 + (n % 3))) x (y + 1))) (rowsE (buildM (1 + (n % 3)) (fun _ => (1 + (n % 3))) (grpI l (1 + (n % 3))) x (y + 1))) .none))] <| .nil)) (by kernel_rfl)
    ·have hw0 : (l.getD ((x * (1 + (n % 3))) + y) 0) = 0 := by rw [List.getD_eq_getElem?_getD, List.getElem?_eq_none (by omega)]; rfl
     rw [hw0] at w1
     have h1 := one_len (pointI (canonZ 0 (-4)))
     exact spt (chain [tT 43 ((y : Int) < (((1 + (n % 3)) : Nat) : Int)) (by omega), r64 ((x : Int) * (((1 + (n % 3)) : Nat) : Int)) (by omega), r64 ((((x * (1 + (n % 3))) : Nat) : Int) + (y : Int)) (by omega),
      tF 52 (((((x * (1 + (n % 3))) + y) : Nat) : Int) < (l.length : Int)) (by omega), iX ((x : Int)) ((1 + (n % 3))) (by omega), .a (by omega : x < (1 + (n % 3))), .c (scaled_pc 0 (by omega) (by omega)),
      .o 69 (.e (ivs1_le _) : PV.le (.e (.sl true 1 7 fun i_ j_ => (ivL (pointI (canonZ 0 (-4)))).getD (i_ * 7 + j_) (.v (.bool false)))) (.e (ivsP [(pointI (canonZ 0 (-4)))]))), .a (by omega : x < (1 + (n % 3))),
      .a (by omega : ((lnE (buildM (1 + (n % 3)) (fun _ => (1 + (n % 3))) (grpI l (1 + (n % 3))) x y)) x + [(pointI (canonZ 0 (-4)))].length) * 88 ≤ 140737488355328), iX ((x : Int)) ((1 + (n % 3))) (by omega), .a (rfl : x = x),
      .a (rfl : x = x), .a (by omega : x < (1 + (n % 3))), r64 ((y : Int) + 1) (by omega)] <| .e (chain [.b 36 (rows_push rfl (by omega) (by omega) (by unfold grpI; rw [hw0]) : Bx.le (.rows true 31 28 (1 + (n % 3)) 7 (fun q => if q = x then (lnE (buildM (1 + (n % 3)) (fun _ => (1 + (n % 3))) (grpI l (1 + (n % 3))) x y)) q + [(pointI (canonZ 0 (-4)))].length else (lnE (buildM (1 + (n % 3)) (fun _ => (1 + (n % 3))) (grpI l (1 + (n % 3))) x y)) q) (fun q i j => if q = x then (if i < (lnE (buildM (1 + (n % 3)) (fun _ => (1 + (n % 3))) (grpI l (1 + (n % 3))) x y)) q then (rowsE (buildM (1 + (n % 3)) (fun _ => (1 + (n % 3))) (grpI l (1 + (n % 3))) x y)) q i j else (E.elf (ivsP [(pointI (canonZ 0 (-4)))])) (i - (lnE (buildM (1 + (n % 3)) (fun _ => (1 + (n % 3))) (grpI l (1 + (n % 3))) x y)) q) j) else (rowsE (buildM (1 + (n % 3)) (fun _ => (1 + (n % 3))) (grpI l (1 + (n % 3))) x y)) q i j) .none) (.rows true 31 28 (1 + (n % 3)) 7 (lnE (buildM (1 + (n % 3)) (fun _ => (1 + (n % 3))) (grpI l (1 + (n % 3))) x (y + 1))) (rowsE (buildM (1 + (n % 3)) (fun _ => (1 + (n % 3))) (grpI l (1 + (n % 3))) x (y + 1))) .none))] <| .nil)) (by kernel_rfl))
  (fun hy => by
    exact spt (chain [tF 43 ((((1 + (n % 3)) : Nat) : Int) < (((1 + (n % 3)) : Nat) : Int)) (by omega)] <| .nil) (by kernel_rfl)) (by nofun)
theorem grFO_lp (n : Nat) (l : List Int) (a b : Int) (k : Nat) (hn : n ≤ 255) (hl : l.length ≤ 9223372036854775807) (hr : ∀ i, -128 ≤ l.getD i 0 ∧ l.getD i 0 ≤ 127) : LpT 6 Tryz.f8 (grFO n l a b k 0) (.exit 0) ⟨162, true, [(12, .e (matP (grpM l (1 + (n % 3))))), (11, .e (iP (((1 + (n % 3)) : Nat) : Int))), (2, .e (.v (.int .i8 a))), (3, .e (.v (.int .i8 b))), (4, .e (.v (.int .u8 (k : Int))))], []⟩ :=
  Sp.upto (grFO n l a b k) 0 (1 + (n % 3)) (by omega) (fun x hx hltx => by
    exact spt (chain [tT 39 ((x : Int) < (((1 + (n % 3)) : Nat) : Int)) (by omega),
     .s (grFI_lp n l a b k x hn hl hr (by omega) : LpT 9 Tryz.f8 (grFI n l a b k x 0) (.exit 2) ⟨162, true, [(38, .e (iP x)), (37, .e (iP (((1 + (n % 3)) : Nat) : Int))), (12, .own 36), (11, .e (iP (((1 + (n % 3)) : Nat) : Int))), (1, .e (intsP .i8 l)), (2, .e (.v (.int .i8 a))), (3, .e (.v (.int .i8 b))), (4, .e (.v (.int .u8 (k : Int))))], [(36, .rows true 31 28 (1 + (n % 3)) 7 (lnE (buildM (1 + (n % 3)) (fun _ => (1 + (n % 3))) (grpI l (1 + (n % 3))) x (1 + (n % 3)))) (rowsE (buildM (1 + (n % 3)) (fun _ => (1 + (n % 3))) (grpI l (1 + (n % 3))) x (1 + (n % 3)))) .none)]⟩) .nil,
     r64 ((x : Int) + 1) (by omega)] <| .e (chain [.b 36 (rows_next rfl : Bx.le (.rows true 31 28 (1 + (n % 3)) 7 (lnE (buildM (1 + (n % 3)) (fun _ => (1 + (n % 3))) (grpI l (1 + (n % 3))) x (1 + (n % 3)))) (rowsE (buildM (1 + (n % 3)) (fun _ => (1 + (n % 3))) (grpI l (1 + (n % 3))) x (1 + (n % 3)))) .none) (.rows true 31 28 (1 + (n % 3)) 7 (lnE (buildM (1 + (n % 3)) (fun _ => (1 + (n % 3))) (grpI l (1 + (n % 3))) (x + 1) 0)) (rowsE (buildM (1 + (n % 3)) (fun _ => (1 + (n % 3))) (grpI l (1 + (n % 3))) (x + 1) 0)) .none))] <| .nil)) (by kernel_rfl))
  (fun hx => by
    exact spt (chain [tF 39 ((((1 + (n % 3)) : Nat) : Int) < (((1 + (n % 3)) : Nat) : Int)) (by omega), .z 36] <| .e (chain [.o 12 (.e matDone_le : PV.le (.e (.sl true (1 + (n % 3)) 1 fun k_ _ => .sl true ((lnE (buildM (1 + (n % 3)) (fun _ => (1 + (n % 3))) (grpI l (1 + (n % 3))) (1 + (n % 3)) 0)) k_) 7 ((rowsE (buildM (1 + (n % 3)) (fun _ => (1 + (n % 3))) (grpI l (1 + (n % 3))) (1 + (n % 3)) 0)) k_))) (.e (matP (grpM l (1 + (n % 3))))))] <| .nil)) (by kernel_rfl)) (by nofun)
def meetP (x y : Iv) : Prop := x.all = true ∨ y.all = true ∨ (cmpD x.lo y.hi ≤ 0 ∧ cmpD y.lo x.hi ≤ 0)
def meetI (x y : Iv) : Iv := if x.all then y else if y.all then x else ⟨maxD x.lo y.lo, minD x.hi y.hi, false⟩
theorem meet_cmp {x y : Iv} (hx : x.Valid) (hy : y.Valid) (h : meetP x y) (xa : x.all = false) (ya : y.all = false) : cmpD (maxD x.lo y.lo) (minD x.hi y.hi) ≤ 0 := by
 have h1 := hx.q
 have h2 := hy.q
 rcases h with h | h | ⟨h3, h4⟩
 ·rw [h] at xa; cases xa
 ·rw [h] at ya; cases ya
 ·rw [q_le] at h3 h4 ⊢
  obtain ⟨_, _, a⟩ := q_max x.lo y.lo
  obtain ⟨_, _, b⟩ := q_min x.hi y.hi
  rcases a with a | a <;> rcases b with b | b <;> rw [a, b] <;> assumption
set_option maxHeartbeats 1000000 in
theorem ivMeet_yes (x y : Iv) (hx : x.Valid) (hy : y.Valid) (hm : meetP x y) : PCt 22 [(ivP x), (ivP y)] (.tup [(ivP (meetI x y)), (bP true)]) := by
 obtain ⟨w1, w2⟩ := hx.ends
 obtain ⟨w3, w4⟩ := hy.ends
 exact tr true Tryz.call22 Tryz.func22 (chain [.c (ivValid_pc x ‹_›), .c (ivValid_pc y ‹_›)] <| .w (x.all = true)
  (fun k1 => chain [tB 19 (k1)] <| rQ (.tup [(ivP y), (bP true)]) (.tup [(ivP (meetI x y)), (bP true)]) (by unfold meetI; simp [k1]))
  (fun k1 => chain [tB 19 (Bool.eq_false_iff.2 k1)] <| .w (y.all = true)
   (fun k2 => chain [tB 23 (k2)] <| rQ (.tup [(ivP x), (bP true)]) (.tup [(ivP (meetI x y)), (bP true)]) (by unfold meetI; simp [k1, k2]))
   (fun k2 => by
    have hmc := meet_cmp hx hy hm (Bool.eq_false_iff.2 k1) (Bool.eq_false_iff.2 k2)
    exact chain [tB 23 (Bool.eq_false_iff.2 k2), .c (ivMore_pc x.lo y.lo ‹_› ‹_›), .c (ivLess_pc x.hi y.hi ‹_› ‹_›),
     .c (dyCmp_pc _ _ (maxD_valid w1 w3) (minD_valid w2 w4) : PCt 82 [(dyP (maxD x.lo y.lo)), (dyP (minD x.hi y.hi))] _)] <| .w (0 < (cmpD (maxD x.lo y.lo) (minD x.hi y.hi)))
     (fun k3 => .x (by exact absurd hmc (by omega)))
     (fun k3 => chain [tB 41 (decide_eq_false k3)] <| rQ (.tup [(ivP (Iv.mk (maxD x.lo y.lo) (minD x.hi y.hi) false)), (bP true)]) (.tup [(ivP (meetI x y)), (bP true)]) (by unfold meetI; simp [k1, k2]))))) (by kernel_rfl)
set_option maxHeartbeats 1000000 in
theorem meets11_pc (x y : Iv) (hx : x.Valid) (hy : y.Valid) (hm : meetP x y) : PCt 111 [(ivP x), (ivP y)] (bP true) := by
 exact tr true Tryz.call111 Tryz.func111 (chain [.c (ivMeet_yes x y hx hy hm)] <| .nil) (by kernel_rfl)
set_option maxHeartbeats 1000000 in
theorem meets1_pc (r s : List Iv) (he : r.length = s.length) (hl : r.length ≤ 1000) (hr : ∀ i, (r.getD i wholeI).Valid) (hs : ∀ i, (s.getD i wholeI).Valid) (hv : ∀ i, i < r.length → meetP (r.getD i wholeI) (s.getD i wholeI)) : PCt 110 [(ivsP r), (ivsP s)] (bP true) := by
 exact tr true Tryz.call110 Tryz.func110 (chain [.c (eqIv_two r s 111 [] he (by omega) (fun i hi => meets11_pc _ _ (hr i) (hs i) (hv i hi)))] <| .nil) (by kernel_rfl)
set_option maxHeartbeats 1000000 in
theorem meets_pc (a b : List (List Iv)) (n k : Nat) (ga : MOk a n k) (gb : MOk b n k) (hv : ∀ i j, i < n → j < k → meetP (elM a i j) (elM b i j)) : PCt 35 [(matP a), (matP b)] (bP true) := by
 have ra := ga.rows
 have rb := gb.rows
 have n8 := ga.n8
 have k8 := ga.k8
 exact tr true Tryz.call35 Tryz.func35 (chain [.c (eqRow_two a b 110 [] (by omega) (by omega) (fun i hi => meets1_pc _ _ (by rw [ga.len_at (by omega), gb.len_at (by omega)]) (by rw [ga.len_at (by omega)]; omega) (elV ga i) (elV gb i) (fun j hj => hv i j (by omega) (by rw [ga.len_at (by omega)] at hj; exact hj))))] <| .nil) (by kernel_rfl)
set_option maxHeartbeats 1000000 in
theorem grp_0 (n : Nat) (l : List Int) (a b : Int) (k : Nat) (hn : n ≤ 255) (hl : l.length ≤ 9223372036854775807) (hr : ∀ i, -128 ≤ l.getD i 0 ∧ l.getD i 0 ≤ 127) (ha1 : -128 ≤ a) (ha2 : a ≤ 127) (hb1 : -128 ≤ b) (hb2 : b ≤ 127) (hk : k ≤ 255) (e0 : Int) (e1 : Int) (e2 : Int) (e3 : Int) (h0 : PCt 12 [matP (grpM l (1 + (n % 3))), ivP (pointI (canonZ a (-4))), iP (((1 + (k % 16)) : Nat) : Int), iP 64] (.tup [.any, iP e0])) (h1 : PCt 12 [matP (grpM l (1 + (n % 3))), ivP (pointI (canonZ b (-4))), iP (((1 + (k % 16)) : Nat) : Int), iP 64] (.tup [.any, iP e1])) (h2 : PCt 12 [matP (grpM l (1 + (n % 3))), ivP (pointI (canonZ (a + b) (-4))), iP (((1 + (k % 16)) : Nat) : Int), iP 64] (.tup [.any, iP e2])) (h3 : PCt 12 [matP (grpM l (1 + (n % 3))), ivP (pointI (canonZ (0 - a) (-4))), iP (((1 + (k % 16)) : Nat) : Int), iP 64] (.tup [.any, iP e3])) (z0 : e0 ≠ 0) : PCt 8 [(.v (.int .u8 (n : Int))), (intsP .i8 l), (.v (.int .i8 a)), (.v (.int .i8 b)), (.v (.int .u8 (k : Int)))] (bP true) := by
 exact tr true Tryz.call8 Tryz.func8 (chain [.c awake_pc, .o 32 (.int (i64_nat _ (by omega)) : PV.le (.e (iP (IntKind.i64.wrap (n : Int)))) (.e (iP n))), .a (by omega : 0 ≤ ((n : Int) : Int) ∧ 0 < (3 : Int)),
  r64 (1 + (((n % 3) : Nat) : Int)) (by omega), .a (by omega : 0 ≤ ((((1 + (n % 3)) : Nat) : Int) : Int) ∧ ((((1 + (n % 3)) : Nat) : Int) : Int) ≤ ((((1 + (n % 3)) : Nat) : Int) : Int)),
  .a (by omega : ((24 : Nat) : Int) * (((1 + (n % 3)) : Nat) : Int) ≤ 281474976710656 ∧ ((((1 + (n % 3)) : Nat) : Int) : Int) ≤ 9223372036854775807),
  .s (grFO_lp n l a b k hn hl hr : LpT 6 Tryz.f8 (grFO n l a b k 0) (.exit 0) ⟨162, true, [(12, .e (matP (grpM l (1 + (n % 3))))), (11, .e (iP (((1 + (n % 3)) : Nat) : Int))), (2, .e (.v (.int .i8 a))), (3, .e (.v (.int .i8 b))), (4, .e (.v (.int .u8 (k : Int))))], []⟩) (chain [.b 36 (rows_init rfl : Bx.le (.rows true 31 28 (1 + (n % 3)) 7 (fun _ => 0) (fun _ _ _ => .any) .none) (.rows true 31 28 (1 + (n % 3)) 7 (lnE (buildM (1 + (n % 3)) (fun _ => (1 + (n % 3))) (grpI l (1 + (n % 3))) 0 0)) (rowsE (buildM (1 + (n % 3)) (fun _ => (1 + (n % 3))) (grpI l (1 + (n % 3))) 0 0)) .none))] <| .nil),
  .o 75 (.int (i64_nat _ (by omega)) : PV.le (.e (iP (IntKind.i64.wrap (k : Int)))) (.e (iP k))), .a (by omega : 0 ≤ ((k : Int) : Int) ∧ 0 < (16 : Int)), r64 (1 + (((k % 16) : Nat) : Int)) (by omega),
  .c (scaled_pc a (by omega) (by omega)), .c (h0 : PCt 12 [(matP (grpM l (1 + (n % 3)))), (ivP (pointI (canonZ a (-4)))), (iP (((1 + (k % 16)) : Nat) : Int)), (iP 64)] _), .c (scaled_pc b (by omega) (by omega)),
  .c (h1 : PCt 12 [(matP (grpM l (1 + (n % 3)))), (ivP (pointI (canonZ b (-4)))), (iP (((1 + (k % 16)) : Nat) : Int)), (iP 64)] _), .o 97 (.int (wrap_small _ (by omega) (by omega)) : PV.le (.e (iP (IntKind.i64.wrap a))) (.e (iP a))),
  .o 99 (.int (wrap_small _ (by omega) (by omega)) : PV.le (.e (iP (IntKind.i64.wrap b))) (.e (iP b))), r64 (a + b) (by omega), .c (lawPoint_pc (a + b) (-4) (by omega) (by omega) (by omega)),
  .c (h2 : PCt 12 [(matP (grpM l (1 + (n % 3)))), (ivP (pointI (canonZ (a + b) (-4)))), (iP (((1 + (k % 16)) : Nat) : Int)), (iP 64)] _), .o 109 (.int (wrap_small _ (by omega) (by omega)) : PV.le (.e (iP (IntKind.i64.wrap a))) (.e (iP a))),
  r64 (0 - a) (by omega), .c (lawPoint_pc (0 - a) (-4) (by omega) (by omega) (by omega)), .c (h3 : PCt 12 [(matP (grpM l (1 + (n % 3)))), (ivP (pointI (canonZ (0 - a) (-4)))), (iP (((1 + (k % 16)) : Nat) : Int)), (iP 64)] _),
  tB 117 (by simpa using z0 : (e0 == 0) = false), tB 142 (by simpa using z0 : (e0 == 0) = false)] <| .nil) (by kernel_rfl)
set_option maxHeartbeats 1000000 in
theorem grp_nn (n : Nat) (l : List Int) (a b : Int) (k : Nat) (hn : n ≤ 255) (hl : l.length ≤ 9223372036854775807) (hr : ∀ i, -128 ≤ l.getD i 0 ∧ l.getD i 0 ≤ 127) (ha1 : -128 ≤ a) (ha2 : a ≤ 127) (hb1 : -128 ≤ b) (hb2 : b ≤ 127) (hk : k ≤ 255) (X0 : List (List Iv)) (e1 : Int) (e2 : Int) (e3 : Int) (h0 : PCt 12 [matP (grpM l (1 + (n % 3))), ivP (pointI (canonZ a (-4))), iP (((1 + (k % 16)) : Nat) : Int), iP 64] (.tup [matP X0, iP 0])) (h1 : PCt 12 [matP (grpM l (1 + (n % 3))), ivP (pointI (canonZ b (-4))), iP (((1 + (k % 16)) : Nat) : Int), iP 64] (.tup [.any, iP e1])) (h2 : PCt 12 [matP (grpM l (1 + (n % 3))), ivP (pointI (canonZ (a + b) (-4))), iP (((1 + (k % 16)) : Nat) : Int), iP 64] (.tup [.any, iP e2])) (h3 : PCt 12 [matP (grpM l (1 + (n % 3))), ivP (pointI (canonZ (0 - a) (-4))), iP (((1 + (k % 16)) : Nat) : Int), iP 64] (.tup [.any, iP e3])) (z12 : e1 ≠ 0 ∨ e2 ≠ 0) (z3 : e3 ≠ 0) : PCt 8 [(.v (.int .u8 (n : Int))), (intsP .i8 l), (.v (.int .i8 a)), (.v (.int .i8 b)), (.v (.int .u8 (k : Int)))] (bP true) := by
 exact tr true Tryz.call8 Tryz.func8 (chain [.c awake_pc, .o 32 (.int (i64_nat _ (by omega)) : PV.le (.e (iP (IntKind.i64.wrap (n : Int)))) (.e (iP n))), .a (by omega : 0 ≤ ((n : Int) : Int) ∧ 0 < (3 : Int)),
  r64 (1 + (((n % 3) : Nat) : Int)) (by omega), .a (by omega : 0 ≤ ((((1 + (n % 3)) : Nat) : Int) : Int) ∧ ((((1 + (n % 3)) : Nat) : Int) : Int) ≤ ((((1 + (n % 3)) : Nat) : Int) : Int)),
  .a (by omega : ((24 : Nat) : Int) * (((1 + (n % 3)) : Nat) : Int) ≤ 281474976710656 ∧ ((((1 + (n % 3)) : Nat) : Int) : Int) ≤ 9223372036854775807),
  .s (grFO_lp n l a b k hn hl hr : LpT 6 Tryz.f8 (grFO n l a b k 0) (.exit 0) ⟨162, true, [(12, .e (matP (grpM l (1 + (n % 3))))), (11, .e (iP (((1 + (n % 3)) : Nat) : Int))), (2, .e (.v (.int .i8 a))), (3, .e (.v (.int .i8 b))), (4, .e (.v (.int .u8 (k : Int))))], []⟩) (chain [.b 36 (rows_init rfl : Bx.le (.rows true 31 28 (1 + (n % 3)) 7 (fun _ => 0) (fun _ _ _ => .any) .none) (.rows true 31 28 (1 + (n % 3)) 7 (lnE (buildM (1 + (n % 3)) (fun _ => (1 + (n % 3))) (grpI l (1 + (n % 3))) 0 0)) (rowsE (buildM (1 + (n % 3)) (fun _ => (1 + (n % 3))) (grpI l (1 + (n % 3))) 0 0)) .none))] <| .nil),
  .o 75 (.int (i64_nat _ (by omega)) : PV.le (.e (iP (IntKind.i64.wrap (k : Int)))) (.e (iP k))), .a (by omega : 0 ≤ ((k : Int) : Int) ∧ 0 < (16 : Int)), r64 (1 + (((k % 16) : Nat) : Int)) (by omega),
  .c (scaled_pc a (by omega) (by omega)), .c (h0 : PCt 12 [(matP (grpM l (1 + (n % 3)))), (ivP (pointI (canonZ a (-4)))), (iP (((1 + (k % 16)) : Nat) : Int)), (iP 64)] _), .c (scaled_pc b (by omega) (by omega)),
  .c (h1 : PCt 12 [(matP (grpM l (1 + (n % 3)))), (ivP (pointI (canonZ b (-4)))), (iP (((1 + (k % 16)) : Nat) : Int)), (iP 64)] _), .o 97 (.int (wrap_small _ (by omega) (by omega)) : PV.le (.e (iP (IntKind.i64.wrap a))) (.e (iP a))),
  .o 99 (.int (wrap_small _ (by omega) (by omega)) : PV.le (.e (iP (IntKind.i64.wrap b))) (.e (iP b))), r64 (a + b) (by omega), .c (lawPoint_pc (a + b) (-4) (by omega) (by omega) (by omega)),
  .c (h2 : PCt 12 [(matP (grpM l (1 + (n % 3)))), (ivP (pointI (canonZ (a + b) (-4)))), (iP (((1 + (k % 16)) : Nat) : Int)), (iP 64)] _), .o 109 (.int (wrap_small _ (by omega) (by omega)) : PV.le (.e (iP (IntKind.i64.wrap a))) (.e (iP a))),
  r64 (0 - a) (by omega), .c (lawPoint_pc (0 - a) (-4) (by omega) (by omega) (by omega)), .c (h3 : PCt 12 [(matP (grpM l (1 + (n % 3)))), (ivP (pointI (canonZ (0 - a) (-4)))), (iP (((1 + (k % 16)) : Nat) : Int)), (iP 64)] _),
  tB 117 (by decide : ((0 : Int) == 0) = true)] <| .w (e1 = 0)
  (fun k1 => chain [tB 120 (beq_iff_eq.2 k1)] <| .w (e2 = 0)
   (fun k2 => .x (by exact absurd k2 (z12.resolve_left (fun q => q k1))))
   (fun k2 => chain [tB 124 (beq_eq_false_iff_ne.2 k2), tB 142 (by decide : ((0 : Int) == 0) = true), tB 145 (by simpa using z3 : (e3 == 0) = false)] <| .nil))
  (fun k1 => chain [tB 120 (beq_eq_false_iff_ne.2 k1), tB 142 (by decide : ((0 : Int) == 0) = true), tB 145 (by simpa using z3 : (e3 == 0) = false)] <| .nil)) (by kernel_rfl)
set_option maxHeartbeats 1000000 in
theorem grp_ny (n : Nat) (l : List Int) (a b : Int) (k : Nat) (hn : n ≤ 255) (hl : l.length ≤ 9223372036854775807) (hr : ∀ i, -128 ≤ l.getD i 0 ∧ l.getD i 0 ≤ 127) (ha1 : -128 ≤ a) (ha2 : a ≤ 127) (hb1 : -128 ≤ b) (hb2 : b ≤ 127) (hk : k ≤ 255) (X0 : List (List Iv)) (e1 : Int) (e2 : Int) (X3 : List (List Iv)) (h0 : PCt 12 [matP (grpM l (1 + (n % 3))), ivP (pointI (canonZ a (-4))), iP (((1 + (k % 16)) : Nat) : Int), iP 64] (.tup [matP X0, iP 0])) (h1 : PCt 12 [matP (grpM l (1 + (n % 3))), ivP (pointI (canonZ b (-4))), iP (((1 + (k % 16)) : Nat) : Int), iP 64] (.tup [.any, iP e1])) (h2 : PCt 12 [matP (grpM l (1 + (n % 3))), ivP (pointI (canonZ (a + b) (-4))), iP (((1 + (k % 16)) : Nat) : Int), iP 64] (.tup [.any, iP e2])) (h3 : PCt 12 [matP (grpM l (1 + (n % 3))), ivP (pointI (canonZ (0 - a) (-4))), iP (((1 + (k % 16)) : Nat) : Int), iP 64] (.tup [matP X3, iP 0])) (z12 : e1 ≠ 0 ∨ e2 ≠ 0) (c3 : PCt 33 [matsP [X0, X3], iP 64] (.tup [matP (mulM X3 X0 64), iP 0])) (hIns : PCt 30 [matP (identM (1 + (n % 3))), matP (mulM X3 X0 64)] (bP true)) : PCt 8 [(.v (.int .u8 (n : Int))), (intsP .i8 l), (.v (.int .i8 a)), (.v (.int .i8 b)), (.v (.int .u8 (k : Int)))] (bP true) := by
 exact tr true Tryz.call8 Tryz.func8 (chain [.c awake_pc, .o 32 (.int (i64_nat _ (by omega)) : PV.le (.e (iP (IntKind.i64.wrap (n : Int)))) (.e (iP n))), .a (by omega : 0 ≤ ((n : Int) : Int) ∧ 0 < (3 : Int)),
  r64 (1 + (((n % 3) : Nat) : Int)) (by omega), .a (by omega : 0 ≤ ((((1 + (n % 3)) : Nat) : Int) : Int) ∧ ((((1 + (n % 3)) : Nat) : Int) : Int) ≤ ((((1 + (n % 3)) : Nat) : Int) : Int)),
  .a (by omega : ((24 : Nat) : Int) * (((1 + (n % 3)) : Nat) : Int) ≤ 281474976710656 ∧ ((((1 + (n % 3)) : Nat) : Int) : Int) ≤ 9223372036854775807),
  .s (grFO_lp n l a b k hn hl hr : LpT 6 Tryz.f8 (grFO n l a b k 0) (.exit 0) ⟨162, true, [(12, .e (matP (grpM l (1 + (n % 3))))), (11, .e (iP (((1 + (n % 3)) : Nat) : Int))), (2, .e (.v (.int .i8 a))), (3, .e (.v (.int .i8 b))), (4, .e (.v (.int .u8 (k : Int))))], []⟩) (chain [.b 36 (rows_init rfl : Bx.le (.rows true 31 28 (1 + (n % 3)) 7 (fun _ => 0) (fun _ _ _ => .any) .none) (.rows true 31 28 (1 + (n % 3)) 7 (lnE (buildM (1 + (n % 3)) (fun _ => (1 + (n % 3))) (grpI l (1 + (n % 3))) 0 0)) (rowsE (buildM (1 + (n % 3)) (fun _ => (1 + (n % 3))) (grpI l (1 + (n % 3))) 0 0)) .none))] <| .nil),
  .o 75 (.int (i64_nat _ (by omega)) : PV.le (.e (iP (IntKind.i64.wrap (k : Int)))) (.e (iP k))), .a (by omega : 0 ≤ ((k : Int) : Int) ∧ 0 < (16 : Int)), r64 (1 + (((k % 16) : Nat) : Int)) (by omega),
  .c (scaled_pc a (by omega) (by omega)), .c (h0 : PCt 12 [(matP (grpM l (1 + (n % 3)))), (ivP (pointI (canonZ a (-4)))), (iP (((1 + (k % 16)) : Nat) : Int)), (iP 64)] _), .c (scaled_pc b (by omega) (by omega)),
  .c (h1 : PCt 12 [(matP (grpM l (1 + (n % 3)))), (ivP (pointI (canonZ b (-4)))), (iP (((1 + (k % 16)) : Nat) : Int)), (iP 64)] _), .o 97 (.int (wrap_small _ (by omega) (by omega)) : PV.le (.e (iP (IntKind.i64.wrap a))) (.e (iP a))),
  .o 99 (.int (wrap_small _ (by omega) (by omega)) : PV.le (.e (iP (IntKind.i64.wrap b))) (.e (iP b))), r64 (a + b) (by omega), .c (lawPoint_pc (a + b) (-4) (by omega) (by omega) (by omega)),
  .c (h2 : PCt 12 [(matP (grpM l (1 + (n % 3)))), (ivP (pointI (canonZ (a + b) (-4)))), (iP (((1 + (k % 16)) : Nat) : Int)), (iP 64)] _), .o 109 (.int (wrap_small _ (by omega) (by omega)) : PV.le (.e (iP (IntKind.i64.wrap a))) (.e (iP a))),
  r64 (0 - a) (by omega), .c (lawPoint_pc (0 - a) (-4) (by omega) (by omega) (by omega)), .c (h3 : PCt 12 [(matP (grpM l (1 + (n % 3)))), (ivP (pointI (canonZ (0 - a) (-4)))), (iP (((1 + (k % 16)) : Nat) : Int)), (iP 64)] _),
  tB 117 (by decide : ((0 : Int) == 0) = true)] <| .w (e1 = 0)
  (fun k1 => chain [tB 120 (beq_iff_eq.2 k1)] <| .w (e2 = 0)
   (fun k2 => .x (by exact absurd k2 (z12.resolve_left (fun q => q k1))))
   (fun k2 => chain [tB 124 (beq_eq_false_iff_ne.2 k2), tB 142 (by decide : ((0 : Int) == 0) = true), tB 145 (by decide : ((0 : Int) == 0) = true),
    .o 150 (.e (mats2_le _ _) : PV.le (.e (.sl true 2 1 fun i_ j_ => [(matP X0), (matP X3)].getD (i_ * 1 + j_) (.v (.bool false)))) (.e (matsP [X0, X3]))), .c (c3 : PCt 33 [(matsP [X0, X3]), (iP 64)] _),
    tB 155 (by decide : ((0 : Int) == 0) = true), .c (matId_pc (1 + (n % 3)) (by omega) (by omega)), .c (hIns : PCt 30 [(matP (identM (1 + (n % 3)))), (matP (mulM X3 X0 64))] _)] <| .nil))
  (fun k1 => chain [tB 120 (beq_eq_false_iff_ne.2 k1), tB 142 (by decide : ((0 : Int) == 0) = true), tB 145 (by decide : ((0 : Int) == 0) = true),
   .o 150 (.e (mats2_le _ _) : PV.le (.e (.sl true 2 1 fun i_ j_ => [(matP X0), (matP X3)].getD (i_ * 1 + j_) (.v (.bool false)))) (.e (matsP [X0, X3]))), .c (c3 : PCt 33 [(matsP [X0, X3]), (iP 64)] _),
   tB 155 (by decide : ((0 : Int) == 0) = true), .c (matId_pc (1 + (n % 3)) (by omega) (by omega)), .c (hIns : PCt 30 [(matP (identM (1 + (n % 3)))), (matP (mulM X3 X0 64))] _)] <| .nil)) (by kernel_rfl)
set_option maxHeartbeats 1000000 in
theorem grp_yn (n : Nat) (l : List Int) (a b : Int) (k : Nat) (hn : n ≤ 255) (hl : l.length ≤ 9223372036854775807) (hr : ∀ i, -128 ≤ l.getD i 0 ∧ l.getD i 0 ≤ 127) (ha1 : -128 ≤ a) (ha2 : a ≤ 127) (hb1 : -128 ≤ b) (hb2 : b ≤ 127) (hk : k ≤ 255) (X0 : List (List Iv)) (X1 : List (List Iv)) (X2 : List (List Iv)) (e3 : Int) (h0 : PCt 12 [matP (grpM l (1 + (n % 3))), ivP (pointI (canonZ a (-4))), iP (((1 + (k % 16)) : Nat) : Int), iP 64] (.tup [matP X0, iP 0])) (h1 : PCt 12 [matP (grpM l (1 + (n % 3))), ivP (pointI (canonZ b (-4))), iP (((1 + (k % 16)) : Nat) : Int), iP 64] (.tup [matP X1, iP 0])) (h2 : PCt 12 [matP (grpM l (1 + (n % 3))), ivP (pointI (canonZ (a + b) (-4))), iP (((1 + (k % 16)) : Nat) : Int), iP 64] (.tup [matP X2, iP 0])) (h3 : PCt 12 [matP (grpM l (1 + (n % 3))), ivP (pointI (canonZ (0 - a) (-4))), iP (((1 + (k % 16)) : Nat) : Int), iP 64] (.tup [.any, iP e3])) (z3 : e3 ≠ 0) (c1 : PCt 33 [matsP [X0, X1], iP 64] (.tup [matP (mulM X1 X0 64), iP 0])) (hMeet : PCt 35 [matP (mulM X1 X0 64), matP X2] (bP true)) : PCt 8 [(.v (.int .u8 (n : Int))), (intsP .i8 l), (.v (.int .i8 a)), (.v (.int .i8 b)), (.v (.int .u8 (k : Int)))] (bP true) := by
 exact tr true Tryz.call8 Tryz.func8 (chain [.c awake_pc, .o 32 (.int (i64_nat _ (by omega)) : PV.le (.e (iP (IntKind.i64.wrap (n : Int)))) (.e (iP n))), .a (by omega : 0 ≤ ((n : Int) : Int) ∧ 0 < (3 : Int)),
  r64 (1 + (((n % 3) : Nat) : Int)) (by omega), .a (by omega : 0 ≤ ((((1 + (n % 3)) : Nat) : Int) : Int) ∧ ((((1 + (n % 3)) : Nat) : Int) : Int) ≤ ((((1 + (n % 3)) : Nat) : Int) : Int)),
  .a (by omega : ((24 : Nat) : Int) * (((1 + (n % 3)) : Nat) : Int) ≤ 281474976710656 ∧ ((((1 + (n % 3)) : Nat) : Int) : Int) ≤ 9223372036854775807),
  .s (grFO_lp n l a b k hn hl hr : LpT 6 Tryz.f8 (grFO n l a b k 0) (.exit 0) ⟨162, true, [(12, .e (matP (grpM l (1 + (n % 3))))), (11, .e (iP (((1 + (n % 3)) : Nat) : Int))), (2, .e (.v (.int .i8 a))), (3, .e (.v (.int .i8 b))), (4, .e (.v (.int .u8 (k : Int))))], []⟩) (chain [.b 36 (rows_init rfl : Bx.le (.rows true 31 28 (1 + (n % 3)) 7 (fun _ => 0) (fun _ _ _ => .any) .none) (.rows true 31 28 (1 + (n % 3)) 7 (lnE (buildM (1 + (n % 3)) (fun _ => (1 + (n % 3))) (grpI l (1 + (n % 3))) 0 0)) (rowsE (buildM (1 + (n % 3)) (fun _ => (1 + (n % 3))) (grpI l (1 + (n % 3))) 0 0)) .none))] <| .nil),
  .o 75 (.int (i64_nat _ (by omega)) : PV.le (.e (iP (IntKind.i64.wrap (k : Int)))) (.e (iP k))), .a (by omega : 0 ≤ ((k : Int) : Int) ∧ 0 < (16 : Int)), r64 (1 + (((k % 16) : Nat) : Int)) (by omega),
  .c (scaled_pc a (by omega) (by omega)), .c (h0 : PCt 12 [(matP (grpM l (1 + (n % 3)))), (ivP (pointI (canonZ a (-4)))), (iP (((1 + (k % 16)) : Nat) : Int)), (iP 64)] _), .c (scaled_pc b (by omega) (by omega)),
  .c (h1 : PCt 12 [(matP (grpM l (1 + (n % 3)))), (ivP (pointI (canonZ b (-4)))), (iP (((1 + (k % 16)) : Nat) : Int)), (iP 64)] _), .o 97 (.int (wrap_small _ (by omega) (by omega)) : PV.le (.e (iP (IntKind.i64.wrap a))) (.e (iP a))),
  .o 99 (.int (wrap_small _ (by omega) (by omega)) : PV.le (.e (iP (IntKind.i64.wrap b))) (.e (iP b))), r64 (a + b) (by omega), .c (lawPoint_pc (a + b) (-4) (by omega) (by omega) (by omega)),
  .c (h2 : PCt 12 [(matP (grpM l (1 + (n % 3)))), (ivP (pointI (canonZ (a + b) (-4)))), (iP (((1 + (k % 16)) : Nat) : Int)), (iP 64)] _), .o 109 (.int (wrap_small _ (by omega) (by omega)) : PV.le (.e (iP (IntKind.i64.wrap a))) (.e (iP a))),
  r64 (0 - a) (by omega), .c (lawPoint_pc (0 - a) (-4) (by omega) (by omega) (by omega)), .c (h3 : PCt 12 [(matP (grpM l (1 + (n % 3)))), (ivP (pointI (canonZ (0 - a) (-4)))), (iP (((1 + (k % 16)) : Nat) : Int)), (iP 64)] _),
  tB 117 (by decide : ((0 : Int) == 0) = true), tB 120 (by decide : ((0 : Int) == 0) = true), tB 124 (by decide : ((0 : Int) == 0) = true),
  .o 129 (.e (mats2_le _ _) : PV.le (.e (.sl true 2 1 fun i_ j_ => [(matP X0), (matP X1)].getD (i_ * 1 + j_) (.v (.bool false)))) (.e (matsP [X0, X1]))), .c (c1 : PCt 33 [(matsP [X0, X1]), (iP 64)] _),
  tB 134 (by decide : ((0 : Int) != 0) = false), .c (hMeet : PCt 35 [(matP (mulM X1 X0 64)), (matP X2)] _), tB 142 (by decide : ((0 : Int) == 0) = true), tB 145 (by simpa using z3 : (e3 == 0) = false)] <| .nil) (by kernel_rfl)
set_option maxHeartbeats 1000000 in
theorem grp_yy (n : Nat) (l : List Int) (a b : Int) (k : Nat) (hn : n ≤ 255) (hl : l.length ≤ 9223372036854775807) (hr : ∀ i, -128 ≤ l.getD i 0 ∧ l.getD i 0 ≤ 127) (ha1 : -128 ≤ a) (ha2 : a ≤ 127) (hb1 : -128 ≤ b) (hb2 : b ≤ 127) (hk : k ≤ 255) (X0 : List (List Iv)) (X1 : List (List Iv)) (X2 : List (List Iv)) (X3 : List (List Iv)) (h0 : PCt 12 [matP (grpM l (1 + (n % 3))), ivP (pointI (canonZ a (-4))), iP (((1 + (k % 16)) : Nat) : Int), iP 64] (.tup [matP X0, iP 0])) (h1 : PCt 12 [matP (grpM l (1 + (n % 3))), ivP (pointI (canonZ b (-4))), iP (((1 + (k % 16)) : Nat) : Int), iP 64] (.tup [matP X1, iP 0])) (h2 : PCt 12 [matP (grpM l (1 + (n % 3))), ivP (pointI (canonZ (a + b) (-4))), iP (((1 + (k % 16)) : Nat) : Int), iP 64] (.tup [matP X2, iP 0])) (h3 : PCt 12 [matP (grpM l (1 + (n % 3))), ivP (pointI (canonZ (0 - a) (-4))), iP (((1 + (k % 16)) : Nat) : Int), iP 64] (.tup [matP X3, iP 0])) (c1 : PCt 33 [matsP [X0, X1], iP 64] (.tup [matP (mulM X1 X0 64), iP 0])) (hMeet : PCt 35 [matP (mulM X1 X0 64), matP X2] (bP true)) (c3 : PCt 33 [matsP [X0, X3], iP 64] (.tup [matP (mulM X3 X0 64), iP 0])) (hIns : PCt 30 [matP (identM (1 + (n % 3))), matP (mulM X3 X0 64)] (bP true)) : PCt 8 [(.v (.int .u8 (n : Int))), (intsP .i8 l), (.v (.int .i8 a)), (.v (.int .i8 b)), (.v (.int .u8 (k : Int)))] (bP true) := by
 exact tr true Tryz.call8 Tryz.func8 (chain [.c awake_pc, .o 32 (.int (i64_nat _ (by omega)) : PV.le (.e (iP (IntKind.i64.wrap (n : Int)))) (.e (iP n))), .a (by omega : 0 ≤ ((n : Int) : Int) ∧ 0 < (3 : Int)),
  r64 (1 + (((n % 3) : Nat) : Int)) (by omega), .a (by omega : 0 ≤ ((((1 + (n % 3)) : Nat) : Int) : Int) ∧ ((((1 + (n % 3)) : Nat) : Int) : Int) ≤ ((((1 + (n % 3)) : Nat) : Int) : Int)),
  .a (by omega : ((24 : Nat) : Int) * (((1 + (n % 3)) : Nat) : Int) ≤ 281474976710656 ∧ ((((1 + (n % 3)) : Nat) : Int) : Int) ≤ 9223372036854775807),
  .s (grFO_lp n l a b k hn hl hr : LpT 6 Tryz.f8 (grFO n l a b k 0) (.exit 0) ⟨162, true, [(12, .e (matP (grpM l (1 + (n % 3))))), (11, .e (iP (((1 + (n % 3)) : Nat) : Int))), (2, .e (.v (.int .i8 a))), (3, .e (.v (.int .i8 b))), (4, .e (.v (.int .u8 (k : Int))))], []⟩) (chain [.b 36 (rows_init rfl : Bx.le (.rows true 31 28 (1 + (n % 3)) 7 (fun _ => 0) (fun _ _ _ => .any) .none) (.rows true 31 28 (1 + (n % 3)) 7 (lnE (buildM (1 + (n % 3)) (fun _ => (1 + (n % 3))) (grpI l (1 + (n % 3))) 0 0)) (rowsE (buildM (1 + (n % 3)) (fun _ => (1 + (n % 3))) (grpI l (1 + (n % 3))) 0 0)) .none))] <| .nil),
  .o 75 (.int (i64_nat _ (by omega)) : PV.le (.e (iP (IntKind.i64.wrap (k : Int)))) (.e (iP k))), .a (by omega : 0 ≤ ((k : Int) : Int) ∧ 0 < (16 : Int)), r64 (1 + (((k % 16) : Nat) : Int)) (by omega),
  .c (scaled_pc a (by omega) (by omega)), .c (h0 : PCt 12 [(matP (grpM l (1 + (n % 3)))), (ivP (pointI (canonZ a (-4)))), (iP (((1 + (k % 16)) : Nat) : Int)), (iP 64)] _), .c (scaled_pc b (by omega) (by omega)),
  .c (h1 : PCt 12 [(matP (grpM l (1 + (n % 3)))), (ivP (pointI (canonZ b (-4)))), (iP (((1 + (k % 16)) : Nat) : Int)), (iP 64)] _), .o 97 (.int (wrap_small _ (by omega) (by omega)) : PV.le (.e (iP (IntKind.i64.wrap a))) (.e (iP a))),
  .o 99 (.int (wrap_small _ (by omega) (by omega)) : PV.le (.e (iP (IntKind.i64.wrap b))) (.e (iP b))), r64 (a + b) (by omega), .c (lawPoint_pc (a + b) (-4) (by omega) (by omega) (by omega)),
  .c (h2 : PCt 12 [(matP (grpM l (1 + (n % 3)))), (ivP (pointI (canonZ (a + b) (-4)))), (iP (((1 + (k % 16)) : Nat) : Int)), (iP 64)] _), .o 109 (.int (wrap_small _ (by omega) (by omega)) : PV.le (.e (iP (IntKind.i64.wrap a))) (.e (iP a))),
  r64 (0 - a) (by omega), .c (lawPoint_pc (0 - a) (-4) (by omega) (by omega) (by omega)), .c (h3 : PCt 12 [(matP (grpM l (1 + (n % 3)))), (ivP (pointI (canonZ (0 - a) (-4)))), (iP (((1 + (k % 16)) : Nat) : Int)), (iP 64)] _),
  tB 117 (by decide : ((0 : Int) == 0) = true), tB 120 (by decide : ((0 : Int) == 0) = true), tB 124 (by decide : ((0 : Int) == 0) = true),
  .o 129 (.e (mats2_le _ _) : PV.le (.e (.sl true 2 1 fun i_ j_ => [(matP X0), (matP X1)].getD (i_ * 1 + j_) (.v (.bool false)))) (.e (matsP [X0, X1]))), .c (c1 : PCt 33 [(matsP [X0, X1]), (iP 64)] _),
  tB 134 (by decide : ((0 : Int) != 0) = false), .c (hMeet : PCt 35 [(matP (mulM X1 X0 64)), (matP X2)] _), tB 142 (by decide : ((0 : Int) == 0) = true), tB 145 (by decide : ((0 : Int) == 0) = true),
  .o 150 (.e (mats2_le _ _) : PV.le (.e (.sl true 2 1 fun i_ j_ => [(matP X0), (matP X3)].getD (i_ * 1 + j_) (.v (.bool false)))) (.e (matsP [X0, X3]))), .c (c3 : PCt 33 [(matsP [X0, X3]), (iP 64)] _),
  tB 155 (by decide : ((0 : Int) == 0) = true), .c (matId_pc (1 + (n % 3)) (by omega) (by omega)), .c (hIns : PCt 30 [(matP (identM (1 + (n % 3)))), (matP (mulM X3 X0 64))] _)] <| .nil) (by kernel_rfl)
theorem grpM_ok {l : List Int} {s : Nat} (h1 : 1 ≤ s) (h8 : s ≤ 8) (hr : ∀ i, -128 ≤ l.getD i 0 ∧ l.getD i 0 ≤ 127) : MOk (grpM l s) s s :=
 wholeM_ok h1 h8 h1 h8 fun i j => by have := hr (i * s + j); exact scale_valid (by omega) (by omega)
theorem grpM_has (l : List Int) (s : Nat) : HasM s s (grpM l s) (fun i j => ((l.getD (i * s + j) 0 : Int) : Rat) * P2 (-4)) := by
 intro i j hi hj
 unfold elM grpM
 rw [wholeM_row hi, range_getD hj]
 exact scale_has _ _
theorem chain2_yes {X Y : List (List Iv)} {n : Nat} (gX : MOk X n n) (gY : MOk Y n n) : PCt 33 [matsP [X, Y], iP 64] (.tup [matP (mulM Y X 64), iP 0]) := by
 have hv : ∀ i, i < [X, Y].length → MOk ([X, Y].getD i []) n n := by
  intro i hi
  obtain rfl | rfl : i = 0 ∨ i = 1 := by simp at hi; omega
  ·exact gX
  ·exact gY
 refine chain_yes [X, Y] (by simp) (by simp) n hv ?_ 64 (by decide) (by decide)
 have n1 := gX.n1
 rw [List.any_eq_false]
 intro i hi
 have hi' : i < [X, Y].length := List.mem_range.1 hi
 have g := hv i hi'
 have r := g.rows
 have r0 := g.len_at (show 0 < n by omega)
 have rx := gX.rows
 unfold formB
 rw [decide_eq_false (show ¬ ([X, Y].getD i []).length ≠ ([X, Y].getD 0 []).length by rw [r]; show ¬ n ≠ X.length; omega), decide_eq_false (show ¬ (([X, Y].getD i []).getD 0 []).length ≠ ([X, Y].getD i []).length by omega)]
 decide
theorem meetP_of {W Z : Iv} (h : W.all = false → Z.all = false → W.lo.q ≤ Z.hi.q ∧ Z.lo.q ≤ W.hi.q) : meetP W Z := by
 unfold meetP
 cases hw : W.all
 ·cases hz : Z.all
  ·exact .inr (.inr ⟨(q_le _ _).2 (h hw hz).1, (q_le _ _).2 (h hw hz).2⟩)
  ·exact .inr (.inl rfl)
 ·exact .inl rfl
theorem law_group (n : Int) (l : List Int) (a b k : Int) (hn : rng .u8 n) (hl : ∀ z, z ∈ l → rng .i8 z) (ha : rng .i8 a) (hb : rng .i8 b) (hk : rng .u8 k) (hlen : l.length ≤ 9223372036854775807) :
  PCt 8 [.v (.int .u8 n), intsP .i8 l, .v (.int .i8 a), .v (.int .i8 b), .v (.int .u8 k)] (bP true) := by
 simp only [rng] at hn hl ha hb hk
 obtain ⟨k, rfl⟩ := Int.eq_ofNat_of_zero_le hk.1
 obtain ⟨n, rfl⟩ := Int.eq_ofNat_of_zero_le hn.1
 have hr : ∀ i, -128 ≤ l.getD i 0 ∧ l.getD i 0 ≤ 127 := fun i => getD_mem (P := fun z => -128 ≤ z ∧ z ≤ 127) hl (by decide) i
 have s1 : 1 ≤ 1 + n % 3 := by omega
 have s8 : 1 + n % 3 ≤ 8 := by omega
 have gM := grpM_ok (l := l) s1 s8 hr
 have hM := grpM_has l (1 + n % 3)
 have hk2 : k ≤ 255 := by omega
 have hn2 : n ≤ 255 := by omega
 have E := fun (t : Int) (h1 : -1000 ≤ t) (h2 : t ≤ 1000) => exp_pc (grpM l (1 + n % 3)) (pointI (canonZ t (-4))) (1 + n % 3) (1 + k % 16) 64 gM (scale_valid h1 h2) rfl (by omega) (by omega) (by decide) (by decide)
 have G := fun (t : Int) (h1 : -1000 ≤ t) (h2 : t ≤ 1000) (X : List (List Iv)) (hx : expM (grpM l (1 + n % 3)) (pointI (canonZ t (-4))) (1 + k % 16) 64 = some X) => expM_ok gM (scale_valid h1 h2) (show 1 + k % 16 ≤ 1000 by omega) (show 8 ≤ 64 by decide) (show 64 ≤ 512 by decide) hx
 have H := fun (t : Int) (h1 : -1000 ≤ t) (h2 : t ≤ 1000) (X : List (List Iv)) (hx : expM (grpM l (1 + n % 3)) (pointI (canonZ t (-4))) (1 + k % 16) 64 = some X) (N : Nat) (hN : 1 + k % 16 ≤ N) => expM_has gM (scale_valid h1 h2) (show 1 ≤ 64 by decide) (show 64 ≤ 4096 by decide) hM (scale_has t (-4)) rfl (show 1 + k % 16 < 1000 by omega) hx N hN
 have tot : ∀ t : Int, -1000 ≤ t → t ≤ 1000 → ∃ e, PCt 12 [matP (grpM l (1 + n % 3)), ivP (pointI (canonZ t (-4))), iP ((1 + k % 16 : Nat) : Int), iP 64] (.tup [.any, iP e]) ∧ (expM (grpM l (1 + n % 3)) (pointI (canonZ t (-4))) (1 + k % 16) 64 = none → e ≠ 0) := by
  intro t h1 h2
  cases hx : expM (grpM l (1 + n % 3)) (pointI (canonZ t (-4))) (1 + k % 16) 64 with
  | some x => exact ⟨0, ((E t h1 h2).1 x hx).res (.tup (.cons (any_le _) (.cons (.refl _) .nil))), fun h => by cases h⟩
  | none => exact ⟨15, ((E t h1 h2).2 hx).res (.tup (.cons (any_le _) (.cons (.refl _) .nil))), fun _ => by decide⟩
 obtain ⟨e0, t0, z0⟩ := tot a (by omega) (by omega)
 obtain ⟨e1, t1, z1⟩ := tot b (by omega) (by omega)
 obtain ⟨e2, t2, z2⟩ := tot (a + b) (by omega) (by omega)
 obtain ⟨e3, t3, z3⟩ := tot (0 - a) (by omega) (by omega)
 cases hx0 : expM (grpM l (1 + n % 3)) (pointI (canonZ a (-4))) (1 + k % 16) 64 with
 | none => exact grp_0 n l a b k hn2 hlen hr (by omega) (by omega) (by omega) (by omega) hk2 e0 e1 e2 e3 t0 t1 t2 t3 (z0 hx0)
 | some X0 =>
  have g0 := G a (by omega) (by omega) X0 hx0
  have q0 := (E a (by omega) (by omega)).1 X0 hx0
  have H0 := H a (by omega) (by omega) X0 hx0
  have scl : ∀ x y : Int, ((x : Rat) * P2 (-4)) + ((y : Rat) * P2 (-4)) = ((x + y : Int) : Rat) * P2 (-4) := fun x y => by rw [Rat.intCast_add, Rat.add_mul]
  have meet1 : ∀ X1 X2, expM (grpM l (1 + n % 3)) (pointI (canonZ b (-4))) (1 + k % 16) 64 = some X1 → expM (grpM l (1 + n % 3)) (pointI (canonZ (a + b) (-4))) (1 + k % 16) 64 = some X2 → PCt 35 [matP (mulM X1 X0 64), matP X2] (bP true) := by
   intro X1 X2 hx1 hx2
   have g1 := G b (by omega) (by omega) X1 hx1
   have g2 := G (a + b) (by omega) (by omega) X2 hx2
   have gp := mulM_ok g1 g0 (show 1 ≤ 64 by decide) (show 64 ≤ 4096 by decide)
   refine meets_pc _ _ _ _ gp g2 fun i j hi hj => meetP_of fun wa za => ?_
   refine meet_lim wa za (fun N hN => mulM_has g1 g0 (show 1 ≤ 64 by decide) (show 64 ≤ 4096 by decide) (H b (by omega) (by omega) X1 hx1 N hN) (H0 N hN) i j hi hj) (fun N hN => H (a + b) (by omega) (by omega) X2 hx2 N hN i j hi hj) fun ε hε => ?_
   obtain ⟨N0, h0⟩ := group_lim (1 + n % 3) (fun i j => ((l.getD (i * (1 + n % 3) + j) 0 : Int) : Rat) * P2 (-4)) ((a : Rat) * P2 (-4)) ((b : Rat) * P2 (-4)) hε
   rw [scl] at h0
   exact ⟨N0, fun N hN => h0 N hN i j hi hj⟩
  have back : ∀ X3, expM (grpM l (1 + n % 3)) (pointI (canonZ (0 - a) (-4))) (1 + k % 16) 64 = some X3 → PCt 30 [matP (identM (1 + n % 3)), matP (mulM X3 X0 64)] (bP true) := by
   intro X3 hx3
   have g3 := G (0 - a) (by omega) (by omega) X3 hx3
   have gp := mulM_ok g3 g0 (show 1 ≤ 64 by decide) (show 64 ≤ 4096 by decide)
   have gi := identM_ok s1 s8
   refine matInside_true _ _ _ _ gi gp fun i j hi hj => insI_sub ?_
   have hid := identM_has (1 + n % 3) i j hi hj
   rw [elM_ident hi hj] at hid ⊢
   cases wa : (elM (mulM X3 X0 64) i j).all
   ·right
    have hm := meet_lim (W := elM (mulM X3 X0 64) i j) (Z := pointI (if i = j then ⟨false, 1, 0⟩ else zeroD)) wa rfl (fun N hN => mulM_has g3 g0 (show 1 ≤ 64 by decide) (show 64 ≤ 4096 by decide) (H (0 - a) (by omega) (by omega) X3 hx3 N hN) (H0 N hN) i j hi hj) (k := 1 + k % 16) (S := fun _ => oneQ i j) (fun N hN => hid) fun ε hε => ?_
    ·exact ⟨rfl, hm.1, hm.2⟩
    ·obtain ⟨N0, h0⟩ := group_lim (1 + n % 3) (fun i j => ((l.getD (i * (1 + n % 3) + j) 0 : Int) : Rat) * P2 (-4)) ((a : Rat) * P2 (-4)) (((0 - a : Int) : Rat) * P2 (-4)) hε
     rw [scl, show a + (0 - a) = 0 by omega, show ((0 : Int) : Rat) = 0 from rfl, Rat.zero_mul] at h0
     refine ⟨N0, fun N hN => ?_⟩
     have := h0 N hN i j hi hj
     rwa [SQ_zero] at this
   ·exact .inl wa
  cases hx1 : expM (grpM l (1 + n % 3)) (pointI (canonZ b (-4))) (1 + k % 16) 64 with
  | none =>
   cases hx3 : expM (grpM l (1 + n % 3)) (pointI (canonZ (0 - a) (-4))) (1 + k % 16) 64 with
   | none => exact grp_nn n l a b k hn2 hlen hr (by omega) (by omega) (by omega) (by omega) hk2 X0 e1 e2 e3 q0 t1 t2 t3 (.inl (z1 hx1)) (z3 hx3)
   | some X3 => exact grp_ny n l a b k hn2 hlen hr (by omega) (by omega) (by omega) (by omega) hk2 X0 e1 e2 X3 q0 t1 t2 ((E (0 - a) (by omega) (by omega)).1 X3 hx3) (.inl (z1 hx1)) (chain2_yes g0 (G (0 - a) (by omega) (by omega) X3 hx3)) (back X3 hx3)
  | some X1 =>
   cases hx2 : expM (grpM l (1 + n % 3)) (pointI (canonZ (a + b) (-4))) (1 + k % 16) 64 with
   | none =>
    cases hx3 : expM (grpM l (1 + n % 3)) (pointI (canonZ (0 - a) (-4))) (1 + k % 16) 64 with
    | none => exact grp_nn n l a b k hn2 hlen hr (by omega) (by omega) (by omega) (by omega) hk2 X0 e1 e2 e3 q0 t1 t2 t3 (.inr (z2 hx2)) (z3 hx3)
    | some X3 => exact grp_ny n l a b k hn2 hlen hr (by omega) (by omega) (by omega) (by omega) hk2 X0 e1 e2 X3 q0 t1 t2 ((E (0 - a) (by omega) (by omega)).1 X3 hx3) (.inr (z2 hx2)) (chain2_yes g0 (G (0 - a) (by omega) (by omega) X3 hx3)) (back X3 hx3)
   | some X2 =>
    have q1 := (E b (by omega) (by omega)).1 X1 hx1
    have q2 := (E (a + b) (by omega) (by omega)).1 X2 hx2
    have c1 := chain2_yes g0 (G b (by omega) (by omega) X1 hx1)
    cases hx3 : expM (grpM l (1 + n % 3)) (pointI (canonZ (0 - a) (-4))) (1 + k % 16) 64 with
    | none => exact grp_yn n l a b k hn2 hlen hr (by omega) (by omega) (by omega) (by omega) hk2 X0 X1 X2 e3 q0 q1 q2 t3 (z3 hx3) c1 (meet1 X1 X2 hx1 hx2)
    | some X3 => exact grp_yy n l a b k hn2 hlen hr (by omega) (by omega) (by omega) (by omega) hk2 X0 X1 X2 X3 q0 q1 q2 ((E (0 - a) (by omega) (by omega)).1 X3 hx3) c1 (meet1 X1 X2 hx1 hx2) (chain2_yes g0 (G (0 - a) (by omega) (by omega) X3 hx3)) (back X3 hx3)
open Go.ChangeShapes Go.WideShapes Go.ChangeAt Go.RowKit Fp Pu
def groupArgs : Array Value := #[.int .u8 0, .slice none 0 0, .int .i8 0, .int .i8 0, .int .u8 0]
set_option maxRecDepth 100000 in
theorem group_contract (H : Type) (enc : TypeId × Value → H) (W : World) (base : Nat) (args : Array Value) (ds gs : List (DataW H)) (before : List MemPlace)
  (hval : ∀ (j : Nat) t v, Tryz.f8.params[j]? = some t → args[j]? = some v → Value.okWide Tryz.prog W .any base t v)
  (hW : DataW.Whole enc Tryz.prog Tryz.f8.params.toList Rows.variationGroupSpec.vars false W args.toList ds gs before) (hL : laidMetH Tryz.prog Rows.variationGroupRow.laid W) :
  Calls Tryz.prog 8 args W fun e W' => ∃ v, e = .returned v ∧ Rows.variationGroupSpec.post enc Tryz.prog Tryz.f8 false true false false W args v W' := by
 have hW' := hW
 obtain ⟨p, q, hA0, hV, rfl, hfz, hnd⟩ := hW
 have hA : DataW.TrodAll enc Tryz.prog W 0 (fun _ => true) true Tryz.f8.params.toList args.toList ds p := hA0
 rw [Tryz.params8] at hA hval
 obtain ⟨v0, vs0, d0, ds0, p0, q0, hvs, rfl, rfl, h0, hA0⟩ := trodAll_cons hA
 obtain ⟨v1, vs1, d1, ds1, p1, q1, rfl, rfl, rfl, h1, hA1⟩ := trodAll_cons hA0
 obtain ⟨v2, vs2, d2, ds2, p2, q2, rfl, rfl, rfl, h2, hA2⟩ := trodAll_cons hA1
 obtain ⟨v3, vs3, d3, ds3, p3, q3, rfl, rfl, rfl, h3, hA3⟩ := trodAll_cons hA2
 obtain ⟨v4, vs4, d4, ds4, p4, q4, rfl, rfl, rfl, h4, hA4⟩ := trodAll_cons hA3
 obtain ⟨rfl, rfl, rfl⟩ := trodAll_nil hA4
 obtain rfl : args = #[v0, v1, v2, v3, v4] := by cases args; simp_all
 obtain ⟨rfl, rfl⟩ := trodVars_none hV
 obtain ⟨x0, rfl, rfl, rfl, b0⟩ := open_int Tryz.underlying5 (hval 0 5 v0 rfl rfl) h0
 obtain ⟨a1, len1, cap1, rfl⟩ := okWide_slice Tryz.underlying67 (hval 1 67 v1 rfl rfl)
 obtain ⟨x2, rfl, rfl, rfl, b2⟩ := open_int Tryz.underlying22 (hval 2 22 v2 rfl rfl) h2
 obtain ⟨x3, rfl, rfl, rfl, b3⟩ := open_int Tryz.underlying22 (hval 3 22 v3 rfl rfl) h3
 obtain ⟨x4, rfl, rfl, rfl, b4⟩ := open_int Tryz.underlying5 (hval 4 5 v4 rfl rfl) h4
 have h1k := h1
 obtain ⟨fuel1, hf1⟩ := h1
 clear hA0
 have hlt1 : ∀ x ∈ p1, x.block < W.heap.size := fun x hx => hW'.lt x (by simp [hx])
 obtain ⟨x1, w1, hv1, g1, r1⟩ := open_intsP (k := .i8) (fun _ => rfl) Tryz.underlying67 Tryz.underlying22 (by kernel_rfl) hf1
 obtain rfl : Value.slice a1 len1 cap1 = w1 := by
  have : (Value.slice a1 len1 cap1).cells.toList = [Value.slice a1 len1 cap1] := rfl
  rw [this] at hv1
  simpa using hv1
 have hrun := (law_group x0 x1 x2 x3 x4 (wf_rng b0) g1 (wf_rng b2) (wf_rng b3) (wf_rng b4) (intsP_len r1)).run W noB [.int .u8 x0, .slice a1 len1 cap1, .int .i8 x2, .int .i8 x3, .int .u8 x4] (tb_of_laid rfl hL) (fun _ h => h.elim) (.cons (.v _) (.cons r1 (.cons (.v _) (.cons (.v _) (.cons (.v _) (.nil _ _ _))))))
 refine hrun.mono fun r W' ⟨v, hr, hb, hrep⟩ => ?_
 obtain rfl := Rep.v_inv hrep
 subst hr
 refine ⟨_, rfl, _, _, _, [], [] ++ (p1 ++ ([] ++ ([] ++ ([])))), [], hW', ?_, ?_, rfl, hb.frame _, fun h => by cases h⟩
 ·exact trodAll_mk1 (shut_bool Tryz.underlying4 _)
 ·exact ⟨[], _, (Below.trod laidOut (by kernel_rfl) (of_decide_eq_true (by kernel_rfl)) h0 hb (fun _ h => by cases h)), ⟨p1, _, (Below.trod laidOut (by kernel_rfl) (of_decide_eq_true (by kernel_rfl)) h1k hb hlt1), ⟨[], _, (Below.trod laidOut (by kernel_rfl) (of_decide_eq_true (by kernel_rfl)) h2 hb (fun _ h => by cases h)), ⟨[], _, (Below.trod laidOut (by kernel_rfl) (of_decide_eq_true (by kernel_rfl)) h3 hb (fun _ h => by cases h)), trodAll_mk1 (Below.trod laidOut (by kernel_rfl) (of_decide_eq_true (by kernel_rfl)) h4 hb (fun _ h => by cases h)), rfl⟩, rfl⟩, rfl⟩, rfl⟩
theorem group_met (os : Os) : laidMet Tryz.prog Rows.variationGroupRow.laid ((laidWorld os groupArgs).forCall (fun _ _ => 0) ⟨#[], groupArgs, []⟩).memory :=
 laidMet_of_run' 8 (by kernel_rfl) (by kernel_rfl)
theorem group_reads (os : Os) {H : Type} (enc : TypeId × Value → H) : ∃ places, DataW.whole enc Tryz.prog ((laidWorld os groupArgs).forCall (fun _ _ => 0) ⟨#[], groupArgs, []⟩).memory Tryz.f8.params.toList Rows.variationGroupSpec.vars false groupArgs.toList 8 = some ([.lit (.int .u8 0), .nil, .lit (.int .i8 0), .lit (.int .i8 0), .lit (.int .u8 0)], [], places) :=
 ⟨[], by kernel_rfl⟩
set_option maxRecDepth 100000 in
theorem group_lifted (os : Os) (started : os.Started) (H : Type) (enc : TypeId × Value → H) (F : Stop.Interp) :
  ReturnsInHanded {} Tryz.checked os 8 .any ((OpenSpec.ofChange Rows.variationGroupSpec).preRow enc Tryz.prog Tryz.f8 Rows.variationGroupRow.domain false Rows.variationGroupRow.laid) (((OpenSpec.ofChange Rows.variationGroupSpec).at F).post enc Tryz.prog Tryz.f8 false true false false) := by
 obtain ⟨places, hx⟩ := group_reads os enc
 refine returnsInHanded_of_row (C := Tryz.checked) (s := OpenSpec.ofChange Rows.variationGroupSpec) own started (by kernel_rfl) Tryz.func8
  (witness_row_at (enc := enc) (C := Tryz.checked) false (laidWorld os groupArgs) groupArgs rfl (by kernel_rfl) (by kernel_rfl) (by kernel_rfl)
   (OpenSpec.preRow_of_cond 8 hx (by kernel_rfl) (fun k hk => by cases hk) (by kernel_rfl) (group_met os))) ?_
 intro W base args ds gs before hval hW _ _ _ hL _ _
 exact group_contract H enc W base args ds gs before hval hW hL
theorem group_said : Rows.VariationGroupSaid :=
 OpenClaim.holds_of_cond 8 Tryz.f8 rfl rfl rfl rfl rfl rfl rfl ⟨rfl, rfl, rfl, rfl, rfl⟩ rfl rfl rfl rfl rfl (by kernel_rfl) Tryz.func8 (by kernel_rfl)
  (of_decide_eq_true (by kernel_rfl)) (by unfold Func.isWrapper; first | (rw [if_pos (by decide +kernel)]; kernel_rfl) | (rw [if_neg (by decide +kernel)]; exact ⟨rfl, rfl⟩))
  (fun os started H enc _ F => by rw [OpenClaim.pre_eq_preRow]; exact group_lifted os started H enc F)
theorem group_plain (f : FuncId) (fn : Func) (hf : Tryz.pinned.checked.prog.funcNamed "flowpipe/flowpipelaw32.VariationGroup" = some f) (hfn : Tryz.pinned.checked.prog.funcs[f]? = some fn) :
  false = Tryz.pinned.checked.prog.looks [] ∧ ∀ (j : Nat) t, fn.params[j]? = some t → Tryz.pinned.checked.prog.wantsStandIn t = false := by
 obtain rfl : f = 8 := Option.some.inj ((show Tryz.prog.funcNamed "flowpipe/flowpipelaw32.VariationGroup" = some 8 by kernel_rfl).symm.trans hf) |>.symm
 obtain rfl : fn = Tryz.f8 := (Option.some.inj (Tryz.func8.symm.trans hfn)).symm
 refine ⟨by kernel_rfl, fun j t ht => ?_⟩
 rw [Tryz.params8] at ht
 have : t = 5 ∨ t = 67 ∨ t = 22 := by
  have := Array.mem_of_getElem? ht
  simp only [List.mem_toArray, List.mem_cons, List.not_mem_nil, or_false] at this
  rcases this with h | h | h | h | h <;> subst h <;> simp
 rcases this with rfl | rfl | rfl
 ·exact (show Tryz.prog.wantsStandIn 5 = false by kernel_rfl)
 ·exact (show Tryz.prog.wantsStandIn 67 = false by kernel_rfl)
 ·exact (show Tryz.prog.wantsStandIn 22 = false by kernel_rfl)
theorem group_card : Rows.VariationGroupCardSaid :=
 Claim7.holds_tied_plain_at .later [] _ _ _ _ group_said (fun _ h => by cases h) (by kernel_rfl) (fun _ h => by cases h) variationGroup_row_tie rfl ⟨rfl, rfl⟩ (by kernel_rfl) rfl group_plain (by kernel_rfl)
end Go.Proofs.YtdppllbbgfekaaaGreatDoor
