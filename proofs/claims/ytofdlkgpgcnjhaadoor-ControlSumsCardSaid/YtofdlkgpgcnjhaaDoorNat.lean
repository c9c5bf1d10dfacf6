/- Plain arithmetic: limbs, bits, shifts, sums, and dyadic numbers. No program is in sight here. -/
namespace Go.Proofs.YtofdlkgpgcnjhaaDoor.Fp

/-- The value of a list of limbs, the lowest first. -/
def val : List Nat → Nat
  | [] => 0
  | x :: l => x + 4294967296 * val l

def Ok32 (L : List Nat) : Prop := ∀ x, x ∈ L → x < 4294967296

theorem Ok32.nil : Ok32 [] := by intro x h; cases h
theorem Ok32.cons {x : Nat} {l : List Nat} (hx : x < 4294967296) (h : Ok32 l) : Ok32 (x :: l) := by
  intro y hy; rcases List.mem_cons.1 hy with rfl | hy; exact hx; exact h _ hy
theorem Ok32.head {x : Nat} {l : List Nat} (h : Ok32 (x :: l)) : x < 4294967296 := h x (by simp)
theorem Ok32.tail {x : Nat} {l : List Nat} (h : Ok32 (x :: l)) : Ok32 l := fun y hy => h y (by simp [hy])
theorem Ok32.append {l m : List Nat} (h : Ok32 l) (k : Ok32 m) : Ok32 (l ++ m) := by
  intro x hx; rcases List.mem_append.1 hx with hx | hx; exact h _ hx; exact k _ hx
theorem Ok32.take {l : List Nat} (h : Ok32 l) (n : Nat) : Ok32 (l.take n) := fun x hx => h x (List.mem_of_mem_take hx)
theorem Ok32.drop {l : List Nat} (h : Ok32 l) (n : Nat) : Ok32 (l.drop n) := fun x hx => h x (List.mem_of_mem_drop hx)
theorem Ok32.get {l : List Nat} (h : Ok32 l) {i : Nat} (hi : i < l.length) : l[i] < 4294967296 := h _ (List.getElem_mem hi)
theorem Ok32.getD {l : List Nat} (h : Ok32 l) (i : Nat) : l.getD i 0 < 4294967296 := by
  rw [List.getD_eq_getElem?_getD]
  by_cases hi : i < l.length
  · rw [List.getElem?_eq_getElem hi]; exact h.get hi
  · rw [List.getElem?_eq_none (by omega)]; decide
theorem Ok32.replicate0 (n : Nat) : Ok32 (List.replicate n 0) := by
  intro x hx; rw [List.mem_replicate] at hx; rw [hx.2]; decide

@[simp] theorem val_nil : val [] = 0 := rfl
@[simp] theorem val_cons (x : Nat) (l : List Nat) : val (x :: l) = x + 4294967296 * val l := rfl

theorem val_append (l m : List Nat) : val (l ++ m) = val l + 4294967296 ^ l.length * val m := by
  induction l with
  | nil => simp
  | cons x l ih =>
    simp only [List.cons_append, val_cons, ih, List.length_cons, Nat.pow_succ]
    rw [Nat.mul_add, Nat.mul_comm (4294967296 ^ l.length) 4294967296, Nat.mul_assoc]; omega

theorem val_lt {l : List Nat} (h : Ok32 l) : val l < 4294967296 ^ l.length := by
  induction l with
  | nil => simp
  | cons x l ih =>
    have h1 := h.head
    have h2 := ih h.tail
    simp only [val_cons, List.length_cons, Nat.pow_succ]
    have : val l + 1 ≤ 4294967296 ^ l.length := h2
    have := Nat.mul_le_mul_left 4294967296 this
    rw [Nat.mul_comm (4294967296 ^ l.length)]
    omega

theorem val_replicate0 (n : Nat) : val (List.replicate n 0) = 0 := by
  induction n with
  | zero => rfl
  | succ n ih => simp [List.replicate_succ, ih]

theorem val_take_drop (l : List Nat) (n : Nat) (hn : n ≤ l.length) : val l = val (l.take n) + 4294967296 ^ n * val (l.drop n) := by
  conv => lhs; rw [← List.take_append_drop n l, val_append]
  rw [List.length_take, Nat.min_eq_left hn]

theorem val_take_succ (l : List Nat) (n : Nat) (hn : n < l.length) : val (l.take (n + 1)) = val (l.take n) + 4294967296 ^ n * l[n] := by
  rw [List.take_succ_eq_append_getElem hn, val_append, List.length_take, Nat.min_eq_left (by omega)]
  simp

theorem val_take_mod {l : List Nat} (h : Ok32 l) (n : Nat) : val (l.take n) = val l % 4294967296 ^ n := by
  by_cases hn : n ≤ l.length
  · rw [val_take_drop l n hn, Nat.add_mul_mod_self_left, Nat.mod_eq_of_lt]
    have := val_lt (h.take n)
    rwa [List.length_take, Nat.min_eq_left hn] at this
  · rw [List.take_of_length_le (by omega), Nat.mod_eq_of_lt]
    refine Nat.lt_of_lt_of_le (val_lt h) (Nat.pow_le_pow_right (by decide) (by omega))

theorem val_drop_div {l : List Nat} (h : Ok32 l) (n : Nat) : val (l.drop n) = val l / 4294967296 ^ n := by
  by_cases hn : n ≤ l.length
  · rw [val_take_drop l n hn]
    have := val_lt (h.take n)
    rw [List.length_take, Nat.min_eq_left hn] at this
    rw [Nat.add_mul_div_left _ _ (Nat.pow_pos (by decide)), Nat.div_eq_of_lt this, Nat.zero_add]
  · rw [List.drop_eq_nil_of_le (by omega), Nat.div_eq_of_lt]; rfl
    exact Nat.lt_of_lt_of_le (val_lt h) (Nat.pow_le_pow_right (by decide) (by omega))

/-! ### trimmed lists -/

/-- Without zeros at the end. -/
def trimL : List Nat → List Nat
  | [] => []
  | x :: l => match trimL l with
    | [] => if x = 0 then [] else [x]
    | y :: m => x :: y :: m

/-- The length without zeros at the end. -/
def tlen (L : List Nat) : Nat := (trimL L).length

theorem trimL_append_zero (l : List Nat) : trimL (l ++ [0]) = trimL l := by
  induction l with
  | nil => rfl
  | cons x l ih => simp only [List.cons_append, trimL, ih]

theorem trimL_append_nz (l : List Nat) (x : Nat) (hx : x ≠ 0) : trimL (l ++ [x]) = l ++ [x] := by
  induction l with
  | nil => simp [trimL, hx]
  | cons y l ih =>
    simp only [List.cons_append, trimL, ih]
    cases l <;> rfl

theorem trimL_eq_take (L : List Nat) : trimL L = L.take (tlen L) := by
  unfold tlen
  induction L with
  | nil => rfl
  | cons x l ih =>
    simp only [trimL]
    cases h : trimL l with
    | nil => by_cases hx : x = 0 <;> simp [hx]
    | cons y m =>
      rw [h] at ih
      simp only [List.length_cons, List.take_succ_cons]
      rw [List.length_cons] at ih
      rw [← ih]

theorem tlen_le (L : List Nat) : tlen L ≤ L.length := by
  have h := congrArg List.length (trimL_eq_take L)
  rw [List.length_take] at h
  unfold tlen at h ⊢; omega

theorem val_trimL (L : List Nat) : val (trimL L) = val L := by
  induction L with
  | nil => rfl
  | cons x l ih =>
    simp only [trimL]
    cases h : trimL l with
    | nil => rw [h] at ih; by_cases hx : x = 0 <;> simp [hx, ← ih]
    | cons y m => rw [h] at ih; simp only [val_cons] at ih ⊢; rw [ih]

theorem Ok32.trimL {L : List Nat} (h : Ok32 L) : Ok32 (Fp.trimL L) := by rw [trimL_eq_take]; exact h.take _

/-- A list without zeros at its end. -/
def Trim (L : List Nat) : Prop := trimL L = L

theorem trim_trimL (L : List Nat) : Trim (trimL L) := by
  unfold Trim
  induction L with
  | nil => rfl
  | cons x l ih =>
    simp only [trimL]
    cases h : trimL l with
    | nil => by_cases hx : x = 0 <;> simp [hx, trimL]
    | cons y m => rw [h] at ih; simp only [trimL] at ih ⊢; rw [ih]

theorem Trim.nil : Trim [] := rfl

theorem trim_iff (L : List Nat) : Trim L ↔ ∀ h : 0 < L.length, L[L.length - 1] ≠ 0 := by
  rcases List.eq_nil_or_concat L with rfl | ⟨l, x, rfl⟩
  · simp [Trim, trimL]
  · simp only [List.concat_eq_append, List.length_append, List.length_singleton, Nat.add_sub_cancel, List.getElem_concat_length]
    constructor
    · intro h _ hx
      subst hx
      have := congrArg List.length h
      rw [trimL_append_zero] at this
      have h2 := tlen_le l
      unfold tlen at h2
      rw [List.length_append] at this
      simp at this; omega
    · intro h
      exact trimL_append_nz l x (h (by omega))

/-- tlen is found from the top. -/
theorem tlen_take_zero (L : List Nat) (n : Nat) (hn : n < L.length) (h0 : L[n] = 0) : tlen (L.take (n + 1)) = tlen (L.take n) := by
  unfold tlen
  rw [List.take_succ_eq_append_getElem hn, h0, trimL_append_zero]
theorem tlen_take_nz (L : List Nat) (n : Nat) (hn : n < L.length) (h0 : L[n] ≠ 0) : tlen (L.take (n + 1)) = n + 1 := by
  unfold tlen
  rw [List.take_succ_eq_append_getElem hn, trimL_append_nz _ _ h0]
  simp; omega

theorem Trim.cons_tail {x : Nat} {l : List Nat} (h : Trim (x :: l)) : Trim l := by
  rw [trim_iff] at h ⊢
  intro hl
  have := h (by simp)
  simp only [List.length_cons, Nat.add_sub_cancel] at this
  have e : (x :: l)[l.length]'(by simp) = l[l.length - 1] := by
    rw [List.getElem_cons]; rw [dif_neg (by omega)]
  rwa [e] at this

theorem Trim.val_pos {L : List Nat} (h : Trim L) (hl : L ≠ []) : 0 < val L := by
  induction L with
  | nil => exact absurd rfl hl
  | cons x l ih =>
    simp only [val_cons]
    by_cases hl' : l = []
    · subst hl'
      have := (trim_iff _).1 h (by simp)
      simp at this
      simp; omega
    · have := ih h.cons_tail hl'
      omega

/-- A trimmed list is found from its value. -/
theorem Trim.ext {L M : List Nat} (hL : Trim L) (hM : Trim M) (kL : Ok32 L) (kM : Ok32 M) (h : val L = val M) : L = M := by
  induction L generalizing M with
  | nil =>
    by_cases hm : M = []
    · exact hm.symm
    · have := hM.val_pos hm; rw [← h] at this; simp at this
  | cons x l ih =>
    cases M with
    | nil => have := hL.val_pos (by simp); rw [h] at this; simp at this
    | cons y m =>
      simp only [val_cons] at h
      have h1 := kL.head
      have h2 := kM.head
      have e : x = y := by omega
      subst e
      rw [ih hL.cons_tail hM.cons_tail kL.tail kM.tail (by omega)]

/-- The limbs of a number. -/
def limbs (n : Nat) : List Nat := if n = 0 then [] else n % 4294967296 :: limbs (n / 4294967296)
termination_by n
decreasing_by exact Nat.div_lt_self (by omega) (by decide)

theorem limbs_zero : limbs 0 = [] := by rw [limbs]; rfl
theorem limbs_pos {n : Nat} (h : n ≠ 0) : limbs n = n % 4294967296 :: limbs (n / 4294967296) := by rw [limbs, if_neg h]

theorem val_limbs (n : Nat) : val (limbs n) = n := by
  induction n using Nat.strongRecOn with
  | _ n ih =>
    by_cases h : n = 0
    · subst h; rw [limbs_zero]; rfl
    · rw [limbs_pos h, val_cons, ih _ (Nat.div_lt_self (by omega) (by decide))]
      exact Nat.mod_add_div n 4294967296

theorem ok_limbs (n : Nat) : Ok32 (limbs n) := by
  induction n using Nat.strongRecOn with
  | _ n ih =>
    by_cases h : n = 0
    · subst h; rw [limbs_zero]; exact Ok32.nil
    · rw [limbs_pos h]
      exact Ok32.cons (Nat.mod_lt _ (by decide)) (ih _ (Nat.div_lt_self (by omega) (by decide)))

theorem trim_limbs (n : Nat) : Trim (limbs n) := by
  induction n using Nat.strongRecOn with
  | _ n ih =>
    by_cases h : n = 0
    · subst h; rw [limbs_zero]; exact Trim.nil
    · rw [limbs_pos h]
      have h1 := ih _ (Nat.div_lt_self (by omega) (by decide : 1 < 4294967296))
      unfold Trim at h1 ⊢
      simp only [trimL, h1]
      by_cases h2 : n / 4294967296 = 0
      · rw [h2, limbs_zero]
        have : n % 4294967296 ≠ 0 := by omega
        simp [this]
      · rw [limbs_pos h2]

theorem trimL_eq_limbs {L : List Nat} (h : Ok32 L) : trimL L = limbs (val L) :=
  Trim.ext (trim_trimL L) (trim_limbs _) h.trimL (ok_limbs _) (by rw [val_trimL, val_limbs])

theorem Trim.eq_limbs {L : List Nat} (h : Trim L) (k : Ok32 L) : L = limbs (val L) := by
  rw [← trimL_eq_limbs k]; exact h.symm

theorem limbs_eq_nil {n : Nat} : limbs n = [] ↔ n = 0 := by
  constructor
  · intro h; have := val_limbs n; rw [h] at this; exact this.symm
  · rintro rfl; exact limbs_zero

theorem limbs_length_le {n k : Nat} (h : n < 4294967296 ^ k) : (limbs n).length ≤ k := by
  induction k generalizing n with
  | zero => simp at h; subst h; rw [limbs_zero]; simp
  | succ k ih =>
    by_cases h0 : n = 0
    · subst h0; rw [limbs_zero]; simp
    · rw [limbs_pos h0, List.length_cons]
      have : n / 4294967296 < 4294967296 ^ k := by
        rw [Nat.div_lt_iff_lt_mul (by decide)]; rwa [Nat.pow_succ] at h
      have := ih this
      omega

theorem lt_of_limbs_length {n k : Nat} (h : (limbs n).length ≤ k) : n < 4294967296 ^ k := by
  have h1 := val_lt (ok_limbs n)
  rw [val_limbs] at h1
  exact Nat.lt_of_lt_of_le h1 (Nat.pow_le_pow_right (by decide) h)

/-! ### bits -/

/-- How many bits a number has. -/
def bitsN (n : Nat) : Nat := if n = 0 then 0 else n.log2 + 1

theorem bitsN_zero : bitsN 0 = 0 := rfl
theorem bitsN_le_iff {n k : Nat} : bitsN n ≤ k ↔ n < 2 ^ k := by
  unfold bitsN
  by_cases h : n = 0
  · subst h; simp [Nat.pow_pos]
  · rw [if_neg h, ← Nat.log2_lt h]; omega
theorem lt_bitsN_iff {n k : Nat} : k < bitsN n ↔ 2 ^ k ≤ n := by
  have := @bitsN_le_iff n k
  omega
theorem bitsN_eq {n k : Nat} (h1 : 2 ^ k ≤ n) (h2 : n < 2 ^ (k + 1)) : bitsN n = k + 1 := by
  have a := lt_bitsN_iff.2 h1
  have b := bitsN_le_iff.2 h2
  omega
theorem lt_two_pow_bitsN (n : Nat) : n < 2 ^ bitsN n := bitsN_le_iff.1 (Nat.le_refl _)
theorem two_pow_le_of_bitsN {n : Nat} (h : n ≠ 0) : 2 ^ (bitsN n - 1) ≤ n := by
  have : bitsN n - 1 < bitsN n := by
    have : bitsN n ≠ 0 := by unfold bitsN; simp [h]
    omega
  exact lt_bitsN_iff.1 this
theorem bitsN_pos {n : Nat} (h : n ≠ 0) : 0 < bitsN n := by unfold bitsN; simp [h]
theorem bitsN_mono {m n : Nat} (h : m ≤ n) : bitsN m ≤ bitsN n := bitsN_le_iff.2 (Nat.lt_of_le_of_lt h (lt_two_pow_bitsN n))
theorem bitsN_mul_pow {n : Nat} (h : n ≠ 0) (k : Nat) : bitsN (n * 2 ^ k) = bitsN n + k := by
  have h1 := lt_two_pow_bitsN n
  have h2 := two_pow_le_of_bitsN h
  have h3 := bitsN_pos h
  have e : bitsN n + k = (bitsN n - 1 + k) + 1 := by omega
  rw [e]
  apply bitsN_eq
  · rw [Nat.pow_add]; exact Nat.mul_le_mul_right _ h2
  · rw [← e, Nat.pow_add]; exact Nat.mul_lt_mul_of_pos_right h1 (Nat.pow_pos (by decide))

theorem pow32 (k : Nat) : (4294967296 : Nat) ^ k = 2 ^ (32 * k) := by
  rw [Nat.pow_mul]

/-- The bits of a trimmed list. -/
theorem bitsN_val_concat {l : List Nat} {x : Nat} (h : Ok32 (l ++ [x])) (hx : x ≠ 0) : bitsN (val (l ++ [x])) = 32 * l.length + bitsN x := by
  rw [val_append]
  simp only [val_cons, val_nil, Nat.mul_zero, Nat.add_zero]
  have hl : val l < 4294967296 ^ l.length := val_lt (fun y hy => h y (by simp [hy]))
  rw [pow32] at hl ⊢
  have h1 := lt_two_pow_bitsN x
  have h2 := two_pow_le_of_bitsN hx
  have h3 := bitsN_pos hx
  have e : 32 * l.length + bitsN x = (32 * l.length + (bitsN x - 1)) + 1 := by omega
  rw [e]
  apply bitsN_eq
  · rw [Nat.pow_add]
    have := Nat.mul_le_mul_left (2 ^ (32 * l.length)) h2
    omega
  · rw [← e, Nat.pow_add]
    have := Nat.mul_le_mul_left (2 ^ (32 * l.length)) (show x + 1 ≤ 2 ^ bitsN x from h1)
    rw [Nat.mul_add] at this
    omega

/-! ### comparing -/

/-- -1, 0, 1 -/
def cmpN (a b : Nat) : Int := if a < b then -1 else if b < a then 1 else 0

theorem val_lt_of_length {L M : List Nat} (kL : Ok32 L) (hM : Trim M) (h : L.length < M.length) : val L < val M := by
  rcases List.eq_nil_or_concat M with rfl | ⟨m, x, rfl⟩
  · simp at h
  · simp only [List.concat_eq_append, List.length_append, List.length_singleton] at h hM ⊢
    have hx : x ≠ 0 := by
      have := (trim_iff _).1 hM (by simp)
      simpa using this
    have h1 := val_lt kL
    rw [val_append]
    have h2 : (4294967296 : Nat) ^ L.length ≤ 4294967296 ^ m.length := Nat.pow_le_pow_right (by decide) (by omega)
    have h3 : (4294967296 : Nat) ^ m.length * 1 ≤ 4294967296 ^ m.length * val [x] := Nat.mul_le_mul_left _ (by simp; omega)
    omega

/-- Two lists of one length that are alike above i. -/
theorem val_lt_at {L M : List Nat} (kL : Ok32 L) (i : Nat) (hi : i < L.length) (hlen : L.length = M.length) (htop : L.drop (i + 1) = M.drop (i + 1)) (hlt : L[i] < M[i]'(by omega)) : val L < val M := by
  rw [val_take_drop L (i + 1) (by omega), val_take_drop M (i + 1) (by omega), htop, val_take_succ L i hi, val_take_succ M i (by omega)]
  have h1 := val_lt (kL.take i)
  rw [List.length_take, Nat.min_eq_left (by omega)] at h1
  have h2 := Nat.mul_le_mul_left (4294967296 ^ i) (show L[i] + 1 ≤ M[i]'(by omega) from hlt)
  rw [Nat.mul_add] at h2
  omega

/-! ### shifts -/

theorem val_shr (L : List Nat) (k : Nat) (h : Ok32 L) : val (L.drop k) = val L / 2 ^ (32 * k) := by
  rw [val_drop_div h, pow32]


/-! ### a shift to the right -/
def shrL (s : Nat) : List Nat → List Nat
  | [] => []
  | x :: l => ((x + 4294967296 * l.getD 0 0) / 2 ^ s) % 4294967296 :: shrL s l

theorem shrL_length (s : Nat) (L : List Nat) : (shrL s L).length = L.length := by
  induction L with
  | nil => rfl
  | cons x l ih => simp [shrL, ih]

theorem shrL_get (s : Nat) (L : List Nat) (i : Nat) (h : i < L.length) : (shrL s L)[i]? = some (((L[i] + 4294967296 * L.getD (i + 1) 0) / 2 ^ s) % 4294967296) := by
  induction L generalizing i with
  | nil => simp at h
  | cons x l ih =>
    cases i with
    | zero => simp [shrL]
    | succ i =>
      simp only [List.length_cons] at h
      simp only [shrL, List.getElem?_cons_succ, ih i (by omega), List.getElem_cons_succ]
      congr 1

theorem ok_shrL (s : Nat) (L : List Nat) : Ok32 (shrL s L) := by
  induction L with
  | nil => exact Ok32.nil
  | cons x l ih => exact Ok32.cons (Nat.mod_lt _ (by decide)) ih

theorem val_shrL {L : List Nat} (h : Ok32 L) (s : Nat) (hs : s < 32) : val (shrL s L) = val L / 2 ^ s := by
  induction L with
  | nil => simp [shrL]
  | cons x l ih =>
    have e : 32 = s + (32 - s) := by omega
    have e2 : (4294967296 : Nat) = 2 ^ s * 2 ^ (32 - s) := by rw [← Nat.pow_add, ← e]
    have hp : 0 < 2 ^ s := Nat.pow_pos (by decide)
    have hx := h.head
    simp only [shrL, val_cons, ih h.tail]
    generalize hv : val l = v
    have hh : l.getD 0 0 = v % 4294967296 := by
      rw [← hv]
      cases l with
      | nil => simp
      | cons y m =>
        have := h.tail.head
        simp [val_cons]; omega
    rw [hh]
    have f1 : (x + 4294967296 * (v % 4294967296)) / 2 ^ s = x / 2 ^ s + 2 ^ (32 - s) * (v % 4294967296) := by
      rw [show x + 4294967296 * (v % 4294967296) = x + 2 ^ s * (2 ^ (32 - s) * (v % 4294967296)) by rw [← Nat.mul_assoc, ← e2], Nat.add_mul_div_left _ _ hp]
    have f2 : (x + 4294967296 * v) / 2 ^ s = x / 2 ^ s + 2 ^ (32 - s) * v := by
      rw [show x + 4294967296 * v = x + 2 ^ s * (2 ^ (32 - s) * v) by rw [← Nat.mul_assoc, ← e2], Nat.add_mul_div_left _ _ hp]
    rw [f1, f2]
    have hxs : x / 2 ^ s < 2 ^ (32 - s) := by
      rw [Nat.div_lt_iff_lt_mul hp, Nat.mul_comm, ← e2]; exact hx
    generalize x / 2 ^ s = q at hxs ⊢
    have g1 : (4294967296 : Nat) = 2 ^ (32 - s) * 2 ^ s := by rw [Nat.mul_comm]; exact e2
    have g2 : v = 2 ^ s * (v / 2 ^ s) + v % 2 ^ s := (Nat.div_add_mod v (2 ^ s)).symm
    have g3 : (q + 2 ^ (32 - s) * (v % 4294967296)) % 4294967296 = q + 2 ^ (32 - s) * (v % 2 ^ s) := by
      have k1 : v % 4294967296 % 2 ^ s = v % 2 ^ s := by
        rw [e2, Nat.mod_mul_right_mod]
      have k2 : (v % 4294967296) = 2 ^ s * (v % 4294967296 / 2 ^ s) + v % 2 ^ s := by
        rw [← k1]; exact (Nat.div_add_mod _ _).symm
      conv => lhs; rw [k2]
      rw [Nat.mul_add, ← Nat.mul_assoc, ← g1]
      rw [show q + (4294967296 * (v % 4294967296 / 2 ^ s) + 2 ^ (32 - s) * (v % 2 ^ s)) = (q + 2 ^ (32 - s) * (v % 2 ^ s)) + 4294967296 * (v % 4294967296 / 2 ^ s) by omega, Nat.add_mul_mod_self_left]
      apply Nat.mod_eq_of_lt
      have : v % 2 ^ s + 1 ≤ 2 ^ s := Nat.mod_lt _ hp
      have := Nat.mul_le_mul_left (2 ^ (32 - s)) this
      rw [← g1, Nat.mul_add] at this
      omega
    rw [g3]
    conv => rhs; rw [g2, Nat.mul_add, ← Nat.mul_assoc, ← g1]
    omega

/-- The floor of limbs by 2^n, with whole limbs dropped first. -/
theorem val_shr_all {L : List Nat} (h : Ok32 L) (n : Nat) : val (shrL (n % 32) (L.drop (n / 32))) = val L / 2 ^ n := by
  rw [val_shrL (h.drop _) _ (Nat.mod_lt _ (by decide)), val_shr _ _ h, Nat.div_div_eq_div_mul, ← Nat.pow_add]
  congr 2; omega

/-! ### a shift to the left: what has been made, with the carry -/
theorem shl_step {out a : List Nat} {i c s n0 : Nat} (hi : i < a.length) (hlen : out.length = n0 + i)
    (h : val out + 4294967296 ^ (n0 + i) * c = val (a.take i) * 2 ^ s * 4294967296 ^ n0) :
    val (out ++ [(a[i] * 2 ^ s + c) % 4294967296]) + 4294967296 ^ (n0 + (i + 1)) * ((a[i] * 2 ^ s + c) / 4294967296) = val (a.take (i + 1)) * 2 ^ s * 4294967296 ^ n0 := by
  rw [val_append, val_take_succ a i hi, hlen]
  simp only [val_cons, val_nil, Nat.mul_zero, Nat.add_zero]
  generalize hx : a[i] * 2 ^ s + c = x
  have e := Nat.mod_add_div x 4294967296
  have p : 4294967296 ^ (n0 + (i + 1)) = 4294967296 ^ (n0 + i) * 4294967296 := by rw [← Nat.add_assoc, Nat.pow_succ]
  rw [p, Nat.add_assoc, Nat.mul_assoc (4294967296 ^ (n0 + i)), ← Nat.mul_add, e, ← hx, Nat.mul_add, ← Nat.add_assoc, Nat.add_right_comm, h, Nat.add_mul, Nat.add_mul]
  congr 1
  rw [Nat.pow_add]
  ac_rfl

/-! ### sums -/
theorem add_step {out a b : List Nat} {i c y : Nat} (hi : i < a.length) (hlen : out.length = i)
    (hb : val (b.take (i + 1)) = val (b.take i) + 4294967296 ^ i * y)
    (h : val out + 4294967296 ^ i * c = val (a.take i) + val (b.take i)) :
    val (out ++ [(a[i] + y + c) % 4294967296]) + 4294967296 ^ (i + 1) * ((a[i] + y + c) / 4294967296) = val (a.take (i + 1)) + val (b.take (i + 1)) := by
  rw [val_append, val_take_succ a i hi, hb, hlen]
  simp only [val_cons, val_nil, Nat.mul_zero, Nat.add_zero]
  generalize hx : a[i] + y + c = x
  have e := Nat.mod_add_div x 4294967296
  rw [Nat.pow_succ, Nat.add_assoc, Nat.mul_assoc, ← Nat.mul_add, e, ← hx, Nat.mul_add, Nat.mul_add]
  omega

theorem val_take_getD (b : List Nat) (i : Nat) : val (b.take (i + 1)) = val (b.take i) + 4294967296 ^ i * b.getD i 0 := by
  by_cases hi : i < b.length
  · rw [val_take_succ b i hi, List.getD_eq_getElem?_getD, List.getElem?_eq_getElem hi]; rfl
  · rw [List.take_of_length_le (by omega), List.take_of_length_le (by omega), List.getD_eq_getElem?_getD, List.getElem?_eq_none (by omega)]; simp

/-! ### differences -/
theorem sub_step {out a b : List Nat} {i c y d c' : Nat} (hi : i < a.length) (hlen : out.length = i)
    (hb : val (b.take (i + 1)) = val (b.take i) + 4294967296 ^ i * y)
    (hd : d + y + c = a[i] + 4294967296 * c')
    (h : val out + val (b.take i) = val (a.take i) + 4294967296 ^ i * c) :
    val (out ++ [d]) + val (b.take (i + 1)) = val (a.take (i + 1)) + 4294967296 ^ (i + 1) * c' := by
  rw [val_append, val_take_succ a i hi, hb, hlen]
  simp only [val_cons, val_nil, Nat.mul_zero, Nat.add_zero]
  have e := congrArg (4294967296 ^ i * ·) hd
  simp only [Nat.mul_add, ← Nat.mul_assoc] at e
  rw [Nat.pow_succ]
  omega


/-! ### the zero bits at the bottom -/

/-- The number of the zero bits at the bottom; 0 for 0. -/
def ctzN (n : Nat) : Nat := if n = 0 then 0 else if n % 2 = 1 then 0 else ctzN (n / 2) + 1
termination_by n
decreasing_by omega

theorem ctzN_zero : ctzN 0 = 0 := by rw [ctzN]; rfl
theorem ctzN_odd {n : Nat} (h : n % 2 = 1) : ctzN n = 0 := by rw [ctzN, if_neg (by omega), if_pos h]
theorem ctzN_even {n : Nat} (h : n ≠ 0) (h2 : n % 2 = 0) : ctzN n = ctzN (n / 2) + 1 := by rw [ctzN, if_neg h, if_neg (by omega)]

theorem ctzN_spec {n : Nat} (h : n ≠ 0) : ∃ m, m % 2 = 1 ∧ n = m * 2 ^ ctzN n := by
  induction n using Nat.strongRecOn with
  | _ n ih =>
    by_cases h2 : n % 2 = 1
    · exact ⟨n, h2, by rw [ctzN_odd h2]; omega⟩
    · obtain ⟨m, hm, he⟩ := ih (n / 2) (by omega) (by omega)
      refine ⟨m, hm, ?_⟩
      rw [ctzN_even h (by omega), Nat.pow_succ, ← Nat.mul_assoc, ← he]; omega

theorem ctzN_mul {m : Nat} (hm : m % 2 = 1) (k : Nat) : ctzN (m * 2 ^ k) = k := by
  induction k with
  | zero => rw [Nat.pow_zero, Nat.mul_one, ctzN_odd hm]
  | succ k ih =>
    have hp : 0 < m * 2 ^ k := Nat.mul_pos (by omega) (Nat.pow_pos (by decide))
    have e : m * 2 ^ (k + 1) = m * 2 ^ k * 2 := by rw [Nat.pow_succ, Nat.mul_assoc]
    rw [e, ctzN_even (by omega) (by omega), Nat.mul_div_cancel _ (by decide), ih]

theorem odd_div_ctz {n : Nat} (h : n ≠ 0) : (n / 2 ^ ctzN n) % 2 = 1 := by
  obtain ⟨m, hm, he⟩ := ctzN_spec h
  have : n / 2 ^ ctzN n = m := by conv => lhs; rw [he, ctzN_mul hm]; rw [Nat.mul_div_cancel _ (Nat.pow_pos (by decide))]
  rw [this]; exact hm

theorem div_ctz_mul {n : Nat} (h : n ≠ 0) : (n / 2 ^ ctzN n) * 2 ^ ctzN n = n := by
  obtain ⟨m, hm, he⟩ := ctzN_spec h
  have : n / 2 ^ ctzN n = m := by conv => lhs; rw [he, ctzN_mul hm]; rw [Nat.mul_div_cancel _ (Nat.pow_pos (by decide))]
  rw [this]; exact he.symm

theorem pow_ctz_le {n : Nat} (h : n ≠ 0) : 2 ^ ctzN n ≤ n := by
  obtain ⟨m, hm, he⟩ := ctzN_spec h
  conv => rhs; rw [he]
  exact Nat.le_mul_of_pos_left _ (by omega)

/-- A low limb that is not zero decides. -/
theorem ctzN_low {x v : Nat} (hx : x ≠ 0) (hlt : x < 4294967296) : ctzN (x + 4294967296 * v) = ctzN x := by
  obtain ⟨m, hm, he⟩ := ctzN_spec hx
  have hk : ctzN x < 32 := by
    have h1 := pow_ctz_le hx
    rcases Nat.lt_or_ge (ctzN x) 32 with h | h
    · exact h
    · have := Nat.pow_le_pow_right (n := 2) (by decide) h
      have e : (2 : Nat) ^ 32 = 4294967296 := by decide
      omega
  have e : x + 4294967296 * v = (m + 2 ^ (32 - ctzN x) * v) * 2 ^ ctzN x := by
    rw [Nat.add_mul, ← he, Nat.mul_right_comm, ← Nat.pow_add, Nat.sub_add_cancel (by omega)]
  conv => lhs; rw [e]
  apply ctzN_mul
  have : 2 ^ (32 - ctzN x) = 2 * 2 ^ (31 - ctzN x) := by rw [show 32 - ctzN x = (31 - ctzN x) + 1 by omega, Nat.pow_succ, Nat.mul_comm]
  rw [this, Nat.mul_assoc, Nat.add_mul_mod_self_left]; exact hm

theorem ctzN_shift {v : Nat} (hv : v ≠ 0) (k : Nat) : ctzN (2 ^ k * v) = k + ctzN v := by
  obtain ⟨m, hm, he⟩ := ctzN_spec hv
  conv => lhs; rw [he, ← Nat.mul_assoc, Nat.mul_comm (2 ^ k), Nat.mul_assoc, ← Nat.pow_add]
  exact ctzN_mul hm _

theorem val_eq_zero_iff {L : List Nat} : val L = 0 ↔ ∀ x, x ∈ L → x = 0 := by
  induction L with
  | nil => simp
  | cons x l ih =>
    simp only [val_cons, List.mem_cons]
    constructor
    · intro h y hy
      rcases hy with rfl | hy
      · omega
      · exact ih.1 (by omega) y hy
    · intro h
      have h1 := h x (.inl rfl)
      have h2 := ih.2 (fun y hy => h y (.inr hy))
      omega

/-- The first limb that is not zero. -/
theorem ctzN_val {L : List Nat} (h : Ok32 L) (i : Nat) (hi : i < L.length) (h0 : ∀ j, (hj : j < i) → L[j] = 0) (hx : L[i] ≠ 0) : ctzN (val L) = 32 * i + ctzN L[i] := by
  rw [val_take_drop L i (by omega)]
  have : val (L.take i) = 0 := by
    rw [val_eq_zero_iff]
    intro y hy
    obtain ⟨j, hj, rfl⟩ := List.getElem_of_mem hy
    rw [List.length_take] at hj
    rw [List.getElem_take]; exact h0 j (by omega)
  rw [this, Nat.zero_add, pow32, List.drop_eq_getElem_cons hi, val_cons]
  rw [ctzN_shift (by omega), ctzN_low hx (h.get hi)]

/-! ### products, as the reference and the program make them -/

theorem val_set {L : List Nat} {k x : Nat} (hk : k < L.length) : val (L.set k x) + 4294967296 ^ k * L[k] = val L + 4294967296 ^ k * x := by
  induction L generalizing k with
  | nil => simp at hk
  | cons y l ih =>
    cases k with
    | zero => simp; omega
    | succ k =>
      simp only [List.length_cons] at hk
      have := ih (k := k) (by omega)
      simp only [List.set_cons_succ, val_cons, List.getElem_cons_succ, Nat.pow_succ]
      have e1 : (4294967296 ^ k * 4294967296 * l[k]) = 4294967296 * (4294967296 ^ k * l[k]) := by ac_rfl
      have e2 : (4294967296 ^ k * 4294967296 * x) = 4294967296 * (4294967296 ^ k * x) := by ac_rfl
      rw [e1, e2]; omega

theorem Ok32.set {L : List Nat} (h : Ok32 L) (k : Nat) {x : Nat} (hx : x < 4294967296) : Ok32 (L.set k x) := by
  intro y hy
  rcases List.mem_or_eq_of_mem_set hy with hy | rfl
  · exact h _ hy
  · exact hx

/-! ### dyadic numbers -/

/-- A number: sign, mantissa, exponent, in the canonical form. -/
structure Dy where
  neg : Bool
  m : Nat
  e : Int

/-- 0 has one form; else the mantissa is odd. -/
def Dy.Canon (d : Dy) : Prop := (d.m = 0 ∧ d.neg = false ∧ d.e = 0) ∨ d.m % 2 = 1

/-- The canonical form of (-1)^neg m 2^e. -/
def canon (neg : Bool) (m : Nat) (e : Int) : Dy := if m = 0 then ⟨false, 0, 0⟩ else ⟨neg, m / 2 ^ ctzN m, e + ctzN m⟩

theorem canon_canon (neg : Bool) (m : Nat) (e : Int) : (canon neg m e).Canon := by
  unfold canon
  split
  · exact .inl ⟨rfl, rfl, rfl⟩
  · rename_i h; exact .inr (odd_div_ctz h)

theorem Dy.Canon.canon_eq {d : Dy} (h : d.Canon) : canon d.neg d.m d.e = d := by
  obtain ⟨s, m, e⟩ := d
  rcases h with ⟨h1, h2, h3⟩ | h
  · simp only at h1 h2 h3; subst h1 h2 h3; rfl
  · simp only at h ⊢
    unfold canon
    rw [if_neg (by omega), ctzN_odd h]; simp

def inRange (d : Dy) : Prop := d.m = 0 ∨ bitsN d.m ≤ 4096 ∧ -16384 ≤ d.e ∧ d.e ≤ 16384 ∧ (bitsN d.m : Int) + d.e ≤ 16384
instance (d : Dy) : Decidable (inRange d) := by unfold inRange; infer_instance

/-- A valid number. -/
structure Dy.Valid (d : Dy) : Prop where
  canon : d.Canon
  range : inRange d

def zeroD : Dy := ⟨false, 0, 0⟩
theorem zeroD_valid : zeroD.Valid := ⟨.inl ⟨rfl, rfl, rfl⟩, .inl rfl⟩

def Dy.sign (d : Dy) : Int := if d.m = 0 then 0 else if d.neg then -1 else 1
def Dy.top (d : Dy) : Int := if d.m = 0 then 0 else bitsN d.m + d.e


/-- The magnitude, counted in units of 2^e. -/
def Dy.mag (d : Dy) (e : Int) : Nat := d.m * 2 ^ (d.e - e).toNat
/-- With the sign. -/
def Dy.num (d : Dy) (e : Int) : Int := if d.neg then -(d.mag e : Int) else d.mag e

/-- Two numbers compared: -1, 0, 1. -/
def cmpD (a b : Dy) : Int :=
  if a.num (min a.e b.e) < b.num (min a.e b.e) then -1 else if b.num (min a.e b.e) < a.num (min a.e b.e) then 1 else 0

theorem mag_pos {d : Dy} (h : d.m ≠ 0) (e : Int) : 0 < d.mag e := Nat.mul_pos (by omega) (Nat.pow_pos (by decide))
theorem mag_zero {d : Dy} (h : d.m = 0) (e : Int) : d.mag e = 0 := by unfold Dy.mag; rw [h, Nat.zero_mul]
theorem bitsN_mag {d : Dy} (h : d.m ≠ 0) {e : Int} (he : e ≤ d.e) : (bitsN (d.mag e) : Int) = bitsN d.m + d.e - e := by
  unfold Dy.mag; rw [bitsN_mul_pow h]; omega

/-- The tops decide. -/
theorem mag_lt_of_top {a b : Dy} (ha : a.m ≠ 0) (hb : b.m ≠ 0) {e : Int} (h1 : e ≤ a.e) (h2 : e ≤ b.e) (h : a.top < b.top) : a.mag e < b.mag e := by
  have k1 := bitsN_mag ha h1
  have k2 := bitsN_mag hb h2
  unfold Dy.top at h
  rw [if_neg ha, if_neg hb] at h
  rcases Nat.lt_or_ge (a.mag e) (b.mag e) with h' | h'
  · exact h'
  · have := bitsN_mono h'; omega

/-- The comparison of magnitudes, as both programs make it. -/
def cmpMag (a b : Dy) : Int := cmpN (a.mag (min a.e b.e)) (b.mag (min a.e b.e))

theorem cmpMag_top_lt {a b : Dy} (ha : a.m ≠ 0) (hb : b.m ≠ 0) (h : a.top < b.top) : cmpMag a b = -1 := by
  unfold cmpMag cmpN; rw [if_pos (mag_lt_of_top ha hb (Int.min_le_left _ _) (Int.min_le_right _ _) h)]
theorem cmpMag_top_gt {a b : Dy} (ha : a.m ≠ 0) (hb : b.m ≠ 0) (h : b.top < a.top) : cmpMag a b = 1 := by
  have := mag_lt_of_top hb ha (Int.min_le_right a.e b.e) (Int.min_le_left _ _) h
  unfold cmpMag cmpN; rw [if_neg (by omega), if_pos this]

theorem sign_cases (d : Dy) : (d.m = 0 ∧ d.sign = 0) ∨ (d.m ≠ 0 ∧ d.neg = true ∧ d.sign = -1) ∨ (d.m ≠ 0 ∧ d.neg = false ∧ d.sign = 1) := by
  unfold Dy.sign
  by_cases h : d.m = 0
  · exact .inl ⟨h, if_pos h⟩
  · cases hn : d.neg
    · exact .inr (.inr ⟨h, rfl, by simp [h]⟩)
    · exact .inr (.inl ⟨h, rfl, by simp [h]⟩)

theorem num_sign {d : Dy} (e : Int) : (d.sign = 0 → d.num e = 0) ∧ (d.sign = -1 → d.num e < 0 ∧ d.num e = -(d.mag e)) ∧ (d.sign = 1 → 0 < d.num e ∧ d.num e = d.mag e) := by
  unfold Dy.num
  rcases sign_cases d with ⟨h1, h2⟩ | ⟨h1, h2, h3⟩ | ⟨h1, h2, h3⟩
  · rw [h2, mag_zero h1]; simp
  · have := mag_pos h1 e; rw [h3, h2]; simp; omega
  · have := mag_pos h1 e; rw [h3, h2]; simp; omega

/-- As the program compares. -/
theorem cmpD_prog (a b : Dy) : cmpD a b = if a.sign < b.sign then -1 else if b.sign < a.sign then 1 else if a.sign = 0 then 0 else a.sign * cmpMag a b := by
  unfold cmpD cmpMag cmpN
  generalize min a.e b.e = e
  obtain ⟨p1, p2, p3⟩ := num_sign (d := a) e
  obtain ⟨q1, q2, q3⟩ := num_sign (d := b) e
  generalize a.num e = x at *
  generalize b.num e = y at *
  generalize a.mag e = x' at *
  generalize b.mag e = y' at *
  have ha : a.sign = 0 ∨ a.sign = -1 ∨ a.sign = 1 := by rcases sign_cases a with ⟨_, h⟩ | ⟨_, _, h⟩ | ⟨_, _, h⟩ <;> simp [h]
  have hb : b.sign = 0 ∨ b.sign = -1 ∨ b.sign = 1 := by rcases sign_cases b with ⟨_, h⟩ | ⟨_, _, h⟩ | ⟨_, _, h⟩ <;> simp [h]
  generalize a.sign = s at *
  generalize b.sign = t at *
  rcases ha with rfl | rfl | rfl <;> rcases hb with rfl | rfl | rfl <;> simp at p1 p2 p3 q1 q2 q3 <;> (repeat' split) <;> omega

theorem cmpD_cases (a b : Dy) : cmpD a b = -1 ∨ cmpD a b = 0 ∨ cmpD a b = 1 := by unfold cmpD; split; simp; split <;> simp


/-- The canonical form of z 2^e. -/
def canonZ (z : Int) (e : Int) : Dy := canon (decide (z < 0)) z.natAbs e

/-- The sum, whether it is in range or not. -/
def sumD (a b : Dy) : Dy :=
  if a.m = 0 then b else if b.m = 0 then a else canonZ (a.num (min a.e b.e) + b.num (min a.e b.e)) (min a.e b.e)

/-- The opposite. -/
def negD (d : Dy) : Dy := ⟨!d.neg && decide (d.m ≠ 0), d.m, d.e⟩

theorem negD_canon {d : Dy} (h : d.Canon) : (negD d).Canon := by
  rcases h with ⟨h1, h2, h3⟩ | h
  · exact .inl ⟨h1, by simp [negD, h1], h3⟩
  · exact .inr h
theorem negD_valid {d : Dy} (h : d.Valid) : (negD d).Valid := ⟨negD_canon h.canon, h.range⟩

theorem sign_canon (n : Bool) (m : Nat) (e : Int) : (canon n m e).sign = if m = 0 then 0 else if n then -1 else 1 := by
  unfold canon
  by_cases h : m = 0
  · simp [h, Dy.sign]
  · have : (canon n m e).m ≠ 0 := by unfold canon; rw [if_neg h]; have := odd_div_ctz h; simp only; omega
    unfold canon at this
    rw [if_neg h] at this ⊢
    unfold Dy.sign
    rw [if_neg this, if_neg h]

theorem sign_canonZ (z e : Int) : (canonZ z e).sign = if z < 0 then -1 else if 0 < z then 1 else 0 := by
  unfold canonZ; rw [sign_canon]
  by_cases h : z < 0
  · rw [if_neg (by omega), if_pos h]; simp [h]
  · rw [if_neg h]
    by_cases h0 : 0 < z
    · rw [if_neg (by omega), if_pos h0]; simp [h]
    · rw [if_neg h0, if_pos (by omega)]

theorem num_negD (d : Dy) (e : Int) (hd : d.m ≠ 0) : (negD d).num e = -(d.num e) := by
  unfold Dy.num negD Dy.mag
  cases d.neg <;> simp [hd]

/-- As the reference compares, where tops and signs are alike. -/
theorem cmpD_sum {a b : Dy} (ha : a.m ≠ 0) (hb : b.m ≠ 0) : (sumD a (negD b)).sign = cmpD a b := by
  unfold sumD
  rw [if_neg ha, if_neg (by simpa [negD] using hb), sign_canonZ]
  have e1 : (negD b).e = b.e := rfl
  rw [e1, num_negD _ _ hb]
  unfold cmpD
  generalize a.num _ = x
  generalize b.num _ = y
  repeat' split
  all_goals omega

theorem cmpD_top_lt {a b : Dy} (ha : a.m ≠ 0) (hb : b.m ≠ 0) (hs : a.sign = b.sign) (h : a.top < b.top) : cmpD a b = -a.sign := by
  rw [cmpD_prog, if_neg (by omega), if_neg (by omega), cmpMag_top_lt ha hb h]
  split <;> omega
theorem cmpD_top_gt {a b : Dy} (ha : a.m ≠ 0) (hb : b.m ≠ 0) (hs : a.sign = b.sign) (h : b.top < a.top) : cmpD a b = a.sign := by
  rw [cmpD_prog, if_neg (by omega), if_neg (by omega), cmpMag_top_gt ha hb h]
  split <;> omega

/-- As the reference compares. -/
theorem cmpD_ref (a b : Dy) : cmpD a b = if a.sign ≠ b.sign then (if a.sign < b.sign then -1 else 1) else if a.sign = 0 then 0 else
    if a.top ≠ b.top then (if (a.top < b.top) = (0 < a.sign) then -1 else 1) else (sumD a (negD b)).sign := by
  by_cases hs : a.sign = b.sign
  · rw [if_neg (by simpa using hs)]
    by_cases h0 : a.sign = 0
    · rw [if_pos h0, cmpD_prog, if_neg (by omega), if_neg (by omega), if_pos h0]
    · rw [if_neg h0]
      have ha : a.m ≠ 0 := by intro h; exact h0 (by unfold Dy.sign; rw [if_pos h])
      have hb : b.m ≠ 0 := by intro h; exact h0 (by rw [hs]; unfold Dy.sign; rw [if_pos h])
      have hc : a.sign = -1 ∨ a.sign = 1 := by rcases sign_cases a with ⟨_, h⟩ | ⟨_, _, h⟩ | ⟨_, _, h⟩ <;> simp_all
      by_cases ht : a.top = b.top
      · rw [if_neg (by simpa using ht), cmpD_sum ha hb]
      · rw [if_pos (by simpa using ht)]
        rcases Int.lt_or_gt_of_ne ht with h | h
        · rw [cmpD_top_lt ha hb hs h]; rcases hc with h' | h' <;> rw [h'] <;> simp [h]
        · rw [cmpD_top_gt ha hb hs h]; rcases hc with h' | h' <;> rw [h'] <;> simp [show ¬ a.top < b.top by omega]
  · rw [if_pos (by simpa using hs), cmpD_prog]
    by_cases h : a.sign < b.sign
    · rw [if_pos h, if_pos h]
    · rw [if_neg h, if_neg h, if_pos (by omega)]


theorem add_step2 {out : List Nat} {k c x y P Q P' Q' : Nat} (hlen : out.length = k) (h : val out + 4294967296 ^ k * c = P + Q)
    (hP : P' = P + 4294967296 ^ k * x) (hQ : Q' = Q + 4294967296 ^ k * y) :
    val (out ++ [(c + x + y) % 4294967296]) + 4294967296 ^ (k + 1) * ((c + x + y) / 4294967296) = P' + Q' := by
  rw [val_append, hlen, hP, hQ]
  simp only [val_cons, val_nil, Nat.mul_zero, Nat.add_zero]
  generalize hx : c + x + y = z
  have e := Nat.mod_add_div z 4294967296
  rw [Nat.pow_succ, Nat.add_assoc, Nat.mul_assoc, ← Nat.mul_add, e, ← hx, Nat.mul_add, Nat.mul_add]
  omega

theorem sub_step2 {out : List Nat} {k c x y d c' P Q P' Q' : Nat} (hlen : out.length = k) (h : val out + Q = P + 4294967296 ^ k * c)
    (hP : P' = P + 4294967296 ^ k * x) (hQ : Q' = Q + 4294967296 ^ k * y) (hd : d + y + c = x + 4294967296 * c') :
    val (out ++ [d]) + Q' = P' + 4294967296 ^ (k + 1) * c' := by
  rw [val_append, hlen, hP, hQ]
  simp only [val_cons, val_nil, Nat.mul_zero, Nat.add_zero]
  have e := congrArg (4294967296 ^ k * ·) hd
  simp only [Nat.mul_add, ← Nat.mul_assoc] at e
  rw [Nat.pow_succ]
  omega

/-- The last borrow is 0. -/
theorem sub_last {out : List Nat} {n c P Q : Nat} (ho : Ok32 out) (hlen : out.length = n) (h : val out + Q = P + 4294967296 ^ n * c) (hle : Q ≤ P) : c = 0 ∧ val out = P - Q := by
  have h1 := val_lt ho
  rw [hlen] at h1
  rcases c with _ | c
  · exact ⟨rfl, by omega⟩
  · exfalso
    have : 4294967296 ^ n * 1 ≤ 4294967296 ^ n * (c + 1) := Nat.mul_le_mul_left _ (by omega)
    omega

/-- A bit of a list of limbs. -/
theorem bit_val {L : List Nat} (h : Ok32 L) (k : Nat) (hk : k / 32 < L.length) : val L / 2 ^ k % 2 = L[k / 32] / 2 ^ (k % 32) % 2 := by
  have e : k = 32 * (k / 32) + k % 32 := by omega
  conv => lhs; rw [e, Nat.pow_add, ← Nat.div_div_eq_div_mul, ← pow32, ← val_drop_div h, List.drop_eq_getElem_cons hk, val_cons]
  have hs : k % 32 < 32 := Nat.mod_lt _ (by decide)
  have e2 : (4294967296 : Nat) = 2 ^ (k % 32) * (2 * 2 ^ (31 - k % 32)) := by
    rw [← Nat.pow_succ', ← Nat.pow_add, show k % 32 + (31 - k % 32).succ = 32 by omega]
  conv => lhs; rw [e2, Nat.mul_assoc, Nat.add_mul_div_left _ _ (Nat.pow_pos (by decide)), Nat.mul_assoc, Nat.add_mul_mod_self_left]

theorem bit_below_ctz {n k : Nat} (h : n ≠ 0) (hk : k < ctzN n) : n / 2 ^ k % 2 = 0 := by
  obtain ⟨m, hm, he⟩ := ctzN_spec h
  generalize ctzN n = c at *
  rw [he, show c = k + (c - k) by omega, Nat.pow_add, ← Nat.mul_assoc, Nat.mul_right_comm, Nat.mul_div_cancel _ (Nat.pow_pos (by decide)), show c - k = (c - k - 1) + 1 by omega, Nat.pow_succ, ← Nat.mul_assoc, Nat.mul_mod_left]
theorem bit_at_ctz {n : Nat} (h : n ≠ 0) : n / 2 ^ ctzN n % 2 = 1 := odd_div_ctz h
theorem ctz_lt {L : List Nat} (h : Ok32 L) (h0 : val L ≠ 0) : ctzN (val L) / 32 < L.length := by
  have h1 := pow_ctz_le h0
  have h2 := val_lt h
  rw [pow32] at h2
  have h3 : 2 ^ ctzN (val L) < 2 ^ (32 * L.length) := Nat.lt_of_le_of_lt h1 h2
  have := (Nat.pow_lt_pow_iff_right (by decide : 1 < 2)).1 h3
  omega
end Go.Proofs.YtofdlkgpgcnjhaaDoor.Fp
