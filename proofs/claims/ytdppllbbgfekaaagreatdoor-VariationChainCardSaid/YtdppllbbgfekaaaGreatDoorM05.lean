/- The law VariationChain returns true: Chain returns the product that the reference makes, or the specified error, for every input. -/
import Derived.Test.YtdppllbbgfekaaaGreatDoorM04
set_option linter.unusedSimpArgs false
set_option linter.unusedVariables false
namespace Go.Proofs.YtdppllbbgfekaaaGreatDoor
open Go.RowKit Fp Pu
abbrev vda0 (a : List (List Iv)) (b : List (List Iv)) (p) := fun i j => dotP (fun q => (a.getD i []).getD q wholeI) (fun q => (b.getD q []).getD j wholeI) p ((a.getD i []).length - 1)
abbrev vda1 (a : List (List Iv)) (x) (b : List (List Iv)) (k) (p) := dotP (fun q => (a.getD x []).getD q wholeI) (fun q => (b.getD q []).getD k wholeI) p ((a.getD x []).length - 1)
def dotFam (r : List Iv) (g : FuncId) (cap : List E) (Y : Nat → Iv) (p : Nat) (c : Nat) : PS := ⟨35, true, [(8, .e (iP (((c + 1) : Nat) : Int))), (7, .box 7 0), (6, .box 6 0), (0, .e (ivsP r)), (1, .e (.fn g cap)), (2, .e (iP p))], [(7, .cells 28 (ivL (dotP (fun q => r.getD q wholeI) Y p c))), (6, .cells 28 [(bP false), (.v (.slice none 0 0)), (iP 0), (bP false), (.v (.slice none 0 0)), (iP 0), (bP false)])]⟩
def mulMFam (a b : List (List Iv)) (p : Nat) (x : Nat) : PS := ⟨66, true, [(37, .e (iP x)), (36, .e (iP a.length)), (8, .own 34), (4, .box 4 0), (0, .e (matP a)), (2, .e (iP p))], [(34, .rows true 31 28 a.length 7 (lnE (buildM a.length (fun _ => (b.getD 0 []).length) (vda0 a b p) x 0)) (rowsE (buildM a.length (fun _ => (b.getD 0 []).length) (vda0 a b p) x 0)) .none), (4, .cells 32 [(matP b)])]⟩
def mulMFamIn (a b : List (List Iv)) (p : Nat) (x : Nat) (k : Nat) : PS := ⟨66, true, [(44, .e (iP k)), (43, .e (iP (((b.getD 0 []).length : Nat) : Int))), (9, .e (iP x)), (37, .e (iP x)), (36, .e (iP a.length)), (8, .own 34), (4, .box 4 0), (0, .e (matP a)), (2, .e (iP p))], [(34, .rows true 31 28 a.length 7 (lnE (buildM a.length (fun _ => (b.getD 0 []).length) (vda0 a b p) x k)) (rowsE (buildM a.length (fun _ => (b.getD 0 []).length) (vda0 a b p) x k)) .none), (4, .cells 32 [(matP b)])]⟩
theorem dot_pc (r : List Iv) (g : FuncId) (cap : List E) (Y : Nat → Iv) (p : Nat) (hl : r.length ≤ 1000) (h0 : 0 < r.length) (hr : ∀ i, i < r.length → (r.getD i wholeI).Valid) (hy : ∀ i, (Y i).Valid) (hg : ∀ i, i < r.length → PCt g (iP (i : Int) :: cap) (ivP (Y i))) (hp1 : 8 ≤ p) (hp2 : p ≤ 512) : PCt 122 [(ivsP r), (.fn g cap), (iP p)] (ivP (dotP (fun q => r.getD q wholeI) Y p (r.length - 1))) := by
 have w1 := hr 0 h0
 have w2 := hy 0
 exact tr true Tryz.call122 Tryz.func122 (chain [iX (0) (r.length) (by omega), .c (hg 0 (by omega) : PCt g ((iP 0) :: cap) _), .c (ivMul_pc (r.getD 0 wholeI) (Y 0) p ‹_› ‹_› (by omega) (by omega)),
  .s (Sp.upto (dotFam r g cap Y p) 0 (r.length - 1) (by omega) (fun c hc hltc => by
    have w1 := hr (c + 1) (by omega)
    have w2 := hy (c + 1)
    have w3 := dotP_valid (fun q => r.getD q wholeI) Y (show 1 ≤ p by omega) (by omega) c
    have w4 := mulI_valid (r.getD (c + 1) wholeI) (Y (c + 1)) (show 1 ≤ p by omega) (by omega)
    exact spt (chain [tT 19 ((((c + 1) : Nat) : Int) < (r.length : Int)) (by omega), iX ((((c + 1) : Nat) : Int)) (r.length) (by omega), .c (hg (c + 1) (by omega) : PCt g ((iP (((c + 1) : Nat) : Int)) :: cap) _),
     .c (ivMul_pc (r.getD (c + 1) wholeI) (Y (c + 1)) p ‹_› ‹_› (by omega) (by omega)),
     .c (ivAdd_pc (dotP (fun q => r.getD q wholeI) Y p c) (mulI (r.getD (c + 1) wholeI) (Y (c + 1)) p) p ‹_› ‹_› (by omega) (by omega)), r64 ((((c + 1) : Nat) : Int) + 1) (by omega)] <| .e (chain [.b 7 (.of_eq rfl : Bx.le (.cells 28 (ivL (addI (dotP (fun q => r.getD q wholeI) Y p c) (mulI (r.getD (c + 1) wholeI) (Y (c + 1)) p) p))) (.cells 28 (ivL (dotP (fun q => r.getD q wholeI) Y p (c + 1)))))] <| .nil)) (by kernel_rfl))
  (fun hc => by
    exact spt (chain [tF 19 (((((r.length - 1) + 1) : Nat) : Int) < (r.length : Int)) (by omega)] <| .nil) (by kernel_rfl)) (by nofun) : LpT 3 Tryz.f122 (dotFam r g cap Y p 0) (.exit 0) ⟨35, true, [(7, .box 7 0), (6, .box 6 0)], [(7, .cells 28 (ivL (dotP (fun q => r.getD q wholeI) Y p (r.length - 1)))), (6, .cells 28 [(bP false), (.v (.slice none 0 0)), (iP 0), (bP false), (.v (.slice none 0 0)), (iP 0), (bP false)])]⟩) (chain [.o 8 (.int (by first | rfl | omega | (simp only [Nat.add_mul, Nat.one_mul]; omega)) : PV.le (.e (iP 1)) (.e (iP (((0 + 1) : Nat) : Int)))),
  .b 7 (.of_eq rfl : Bx.le (.cells 28 (ivL (mulI (r.getD 0 wholeI) (Y 0) p))) (.cells 28 (ivL (dotP (fun q => r.getD q wholeI) Y p 0))))] <| .nil)] <| .nil) (by kernel_rfl)
theorem mul1_pc (q j : Nat) (b : List (List Iv)) (hq : q < b.length) (hj : j < (b.getD q []).length) : PCt 123 [(iP q), (.ref 1 fun j_ => [(matP b)].getD j_ .any), (.ref 1 fun j_ => [(iP j)].getD j_ .any)] (ivP ((b.getD q []).getD j wholeI)) := by
 exact tr true Tryz.call123 Tryz.func123 (chain [iX ((q : Int)) (b.length) (by omega), iX ((j : Int)) ((b.getD q []).length) (by omega)] <| .nil) (by kernel_rfl)
theorem elV {b : List (List Iv)} {k c : Nat} (gb : MOk b k c) (q j : Nat) : ((b.getD q []).getD j wholeI).Valid := by
 by_cases hq : q < k
 ·by_cases hj : j < c
  ·exact gb.val_at hq hj
  ·rw [List.getD_eq_getElem?_getD, List.getElem?_eq_none (by rw [gb.len_at hq]; omega)]; exact wholeI_valid
 ·rw [List.getD_eq_getElem?_getD (l := b), List.getElem?_eq_none (by rw [gb.rows]; omega)]; exact wholeI_valid
theorem matMul_pc (a b : List (List Iv)) (p : Nat) (n k c : Nat) (ga : MOk a n k) (gb : MOk b k c) (hp1 : 8 ≤ p) (hp2 : p ≤ 512) : PCt 43 [(matP a), (matP b), (iP p)] (.tup [matP (mulM a b p), iP 0]) := by
 have ra := ga.rows
 have rb := gb.rows
 have n1 := ga.n1
 have n8 := ga.n8
 have kk1 := ga.k1
 have kk8 := ga.k8
 have cc8 := gb.k8
 have la := ga.len_at (show 0 < n by omega)
 have lb := gb.len_at (show 0 < k by omega)
 have ew : wholeM a.length (fun _ => (b.getD 0 []).length) (fun i j => dotP (fun q => (a.getD i []).getD q wholeI) (fun q => (b.getD q []).getD j wholeI) p ((a.getD i []).length - 1)) = mulM a b p := by
  rw [← wholeM_mulM (n := n) (k := k - 1) (c := c) (a := a) (b := b) (p := p) ra (fun i hi => by rw [ga.len_at hi]; omega) (by omega) lb, ra, lb]
  unfold wholeM
  apply List.map_congr_left
  intro i hi
  have e := ga.len_at (List.mem_range.1 hi)
  simp only [e]
 exact tr true Tryz.call43 Tryz.func43 (chain [.c (matValid_pc _ _ _ ‹_› : PCt 103 [(matP a)] _), .c (matValid_pc _ _ _ ‹_› : PCt 103 [(matP b)] _), .c (mxPrecise_pc _ : PCt 121 [(iP p)] _),
  tB 22 (precB_true.2 ⟨by omega, by omega⟩ : (precB (p : Int)) = true), iX (0) (a.length) (by omega), tB 31 (natNe_false (by omega) : ((((a.getD 0 []).length : Nat) : Int) != (b.length : Int)) = false),
  .a (by omega : 0 ≤ ((a.length : Int) : Int) ∧ ((a.length : Int) : Int) ≤ ((a.length : Int) : Int)),
  .a (by omega : ((24 : Nat) : Int) * (a.length : Int) ≤ 281474976710656 ∧ ((a.length : Int) : Int) ≤ 9223372036854775807),
  .s (Sp.upto (mulMFam a b p) 0 a.length (by omega) (fun x hx hltx => by
    have lax := ga.len_at (show x < n by omega)
    exact spt (chain [tT 38 ((x : Int) < (a.length : Int)) (by omega), iX (0) (b.length) (by omega),
     .s (Sp.upto (mulMFamIn a b p x) 0 ((b.getD 0 []).length) (by omega) (fun k hk hltk => by
    have hle : lnE (buildM a.length (fun _ => (b.getD 0 []).length) (fun i j => dotP (fun q => (a.getD i []).getD q wholeI) (fun q => (b.getD q []).getD j wholeI) p ((a.getD i []).length - 1)) x k) x = k := lnE_at (by omega)
    have h1 := one_len (dotP (fun q => (a.getD x []).getD q wholeI) (fun q => (b.getD q []).getD k wholeI) p ((a.getD x []).length - 1))
    exact spt (chain [tT 45 ((k : Int) < (((b.getD 0 []).length : Nat) : Int)) (by omega), iX ((x : Int)) (a.length) (by omega), .a (by omega : x < a.length), iX ((x : Int)) (a.length) (by omega),
     .c (dot_pc _ 123 _ (fun q => (b.getD q []).getD k wholeI) p (by omega) (by omega) (fun q hq => ga.val_at (by omega) (by rw [lax] at hq; exact hq)) (fun q => elV gb q k) (fun q hq => mul1_pc q k b (by omega) (by rw [gb.len_at (by omega)]; omega)) (by omega) (by omega) : PCt 122 [(ivsP (a.getD x [])), (.fn 123 [(.ref 1 fun j_ => [(matP b)].getD j_ .any), (.ref 1 fun j_ => [(iP k)].getD j_ .any)]), (iP p)] _),
     .o 60 (.e (ivs1_le _) : PV.le (.e (.sl true 1 7 fun i_ j_ => (ivL (vda1 a x b k p)).getD (i_ * 7 + j_) (.v (.bool false)))) (.e (ivsP [(vda1 a x b k p)]))),
     .a (by omega : x < a.length),
     .a (by omega : ((lnE (buildM a.length (fun _ => (b.getD 0 []).length) (fun i j => dotP (fun q => (a.getD i []).getD q wholeI) (fun q => (b.getD q []).getD j wholeI) p ((a.getD i []).length - 1)) x k)) x + [(dotP (fun q => (a.getD x []).getD q wholeI) (fun q => (b.getD q []).getD k wholeI) p ((a.getD x []).length - 1))].length) * 88 ≤ 140737488355328),
     iX ((x : Int)) (a.length) (by omega), .a (rfl : x = x), .a (rfl : x = x), .a (by omega : x < a.length), r64 ((k : Int) + 1) (by omega)] <| .e (chain [.b 34 (rows_push rfl (by omega) (by omega) rfl : Bx.le (.rows true 31 28 a.length 7 (fun q => if q = x then (lnE (buildM a.length (fun _ => (b.getD 0 []).length) (vda0 a b p) x k)) q + [(vda1 a x b k p)].length else (lnE (buildM a.length (fun _ => (b.getD 0 []).length) (vda0 a b p) x k)) q) (fun q i j => if q = x then (if i < (lnE (buildM a.length (fun _ => (b.getD 0 []).length) (vda0 a b p) x k)) q then (rowsE (buildM a.length (fun _ => (b.getD 0 []).length) (vda0 a b p) x k)) q i j else (E.elf (ivsP [(vda1 a x b k p)])) (i - (lnE (buildM a.length (fun _ => (b.getD 0 []).length) (vda0 a b p) x k)) q) j) else (rowsE (buildM a.length (fun _ => (b.getD 0 []).length) (vda0 a b p) x k)) q i j) .none) (.rows true 31 28 a.length 7 (lnE (buildM a.length (fun _ => (b.getD 0 []).length) (vda0 a b p) x (k + 1))) (rowsE (buildM a.length (fun _ => (b.getD 0 []).length) (vda0 a b p) x (k + 1))) .none))] <| .nil)) (by kernel_rfl))
  (fun hk => by
    exact spt (chain [tF 45 ((((b.getD 0 []).length : Nat) : Int) < (((b.getD 0 []).length : Nat) : Int)) (by omega)] <| .nil) (by kernel_rfl)) (by nofun) : LpT 12 Tryz.f43 (mulMFamIn a b p x 0) (.exit 3) ⟨66, true, [(37, .e (iP x)), (36, .e (iP a.length)), (8, .own 34), (4, .box 4 0), (0, .e (matP a)), (2, .e (iP p))], [(34, .rows true 31 28 a.length 7 (lnE (buildM a.length (fun _ => (b.getD 0 []).length) (vda0 a b p) x ((b.getD 0 []).length))) (rowsE (buildM a.length (fun _ => (b.getD 0 []).length) (vda0 a b p) x ((b.getD 0 []).length))) .none), (4, .cells 32 [(matP b)])]⟩) .nil,
     r64 ((x : Int) + 1) (by omega)] <| .e (chain [.b 34 (rows_next rfl : Bx.le (.rows true 31 28 a.length 7 (lnE (buildM a.length (fun _ => (b.getD 0 []).length) (vda0 a b p) x ((b.getD 0 []).length))) (rowsE (buildM a.length (fun _ => (b.getD 0 []).length) (vda0 a b p) x ((b.getD 0 []).length))) .none) (.rows true 31 28 a.length 7 (lnE (buildM a.length (fun _ => (b.getD 0 []).length) (vda0 a b p) (x + 1) 0)) (rowsE (buildM a.length (fun _ => (b.getD 0 []).length) (vda0 a b p) (x + 1) 0)) .none))] <| .nil)) (by kernel_rfl))
  (fun hx => by
    exact spt (chain [tF 38 ((a.length : Int) < (a.length : Int)) (by omega)] <| .nil) (by kernel_rfl)) (by nofun) : LpT 9 Tryz.f43 (mulMFam a b p 0) (.exit 1) ⟨66, true, [(8, .own 34)], [(34, .rows true 31 28 a.length 7 (lnE (buildM a.length (fun _ => (b.getD 0 []).length) (vda0 a b p) a.length 0)) (rowsE (buildM a.length (fun _ => (b.getD 0 []).length) (vda0 a b p) a.length 0)) .none)]⟩) (chain [.b 34 (rows_init rfl : Bx.le (.rows true 31 28 a.length 7 (fun _ => 0) (fun _ _ _ => .any) .none) (.rows true 31 28 a.length 7 (lnE (buildM a.length (fun _ => (b.getD 0 []).length) (vda0 a b p) 0 0)) (rowsE (buildM a.length (fun _ => (b.getD 0 []).length) (vda0 a b p) 0 0)) .none))] <| .nil)] <| rR (.tup [matP (mulM a b p), iP 0]) (by
      rw [← ew, ← buildM_done]; exact .tup (.cons (matRows_le (buildM_len _ _ _ _ _).symm) (.cons (.refl _) .nil)) : E.le (.tup [(.sl true a.length 1 fun k_ _ => .sl true ((lnE (buildM a.length (fun _ => (b.getD 0 []).length) (fun i j => dotP (fun q => (a.getD i []).getD q wholeI) (fun q => (b.getD q []).getD j wholeI) p ((a.getD i []).length - 1)) a.length 0)) k_) 7 ((rowsE (buildM a.length (fun _ => (b.getD 0 []).length) (fun i j => dotP (fun q => (a.getD i []).getD q wholeI) (fun q => (b.getD q []).getD j wholeI) p ((a.getD i []).length - 1)) a.length 0)) k_)), (iP 0)]) (.tup [matP (mulM a b p), iP 0]))) (by kernel_rfl)
theorem scale1_pc (i j : Nat) (x y : Iv) (p : Nat) (hx : x.Valid) (hy : y.Valid) (hp1 : 8 ≤ p) (hp2 : p ≤ 512) : PCt 125 [(iP i), (iP j), (ivP y), (.ref 7 fun j_ => [(bP x.lo.neg), (slP (limbs x.lo.m)), (iP x.lo.e), (bP x.hi.neg), (slP (limbs x.hi.m)), (iP x.hi.e), (bP x.all)].getD j_ .any), (.ref 1 fun j_ => [(iP p)].getD j_ .any)] (ivP (mulI x y p)) := by
 exact tr true Tryz.call125 Tryz.func125 (chain [.c (ivMul_pc x y p ‹_› ‹_› (by omega) (by omega))] <| .nil) (by kernel_rfl)
theorem matScale_pc (a : List (List Iv)) (x : Iv) (n k p : Nat) (ga : MOk a n k) (hx : x.Valid) (hp1 : 8 ≤ p) (hp2 : p ≤ 512) : PCt 44 [(matP a), (ivP x), (iP p)] (matP (scaleM a x p)) := by
 have ra := ga.rows
 have n8 := ga.n8
 exact tr true Tryz.call44 Tryz.func44 (chain [.c (matValid_pc _ _ _ ‹_› : PCt 103 [(matP a)] _), .c (ivValid_pc x ‹_›), .c (mxPrecise_pc _ : PCt 121 [(iP p)] _), tB 17 (precB_true.2 ⟨by omega, by omega⟩ : (precB (p : Int)) = true),
  .c (matEach_pc a 125 [(.ref 7 fun j_ => [(bP x.lo.neg), (slP (limbs x.lo.m)), (iP x.lo.e), (bP x.hi.neg), (slP (limbs x.hi.m)), (iP x.hi.e), (bP x.all)].getD j_ .any), (.ref 1 fun j_ => [(iP p)].getD j_ .any)] (fun i j => mulI x ((a.getD i []).getD j wholeI) p) (by omega) (fun i => Nat.le_trans (ga.len_le i) (by decide)) (fun i j hi hj => scale1_pc _ _ _ _ _ hx (ga.val_at (by omega) (by rw [ga.len_at (by omega)] at hj; exact hj)) hp1 hp2))] <| rQ (matP (wholeM a.length (fun q => (a.getD q []).length) (fun i j => mulI x ((a.getD i []).getD j wholeI) p))) (matP (scaleM a x p)) (by rw [wholeM_scaleM])) (by kernel_rfl)
open Go.RowKit Fp Pu
def Fp.nsum (r : List Iv) (p : Nat) : Nat → Dy
 | 0 => zeroD
 | k + 1 => rndD (sumD (nsum r p k) (magI (r.getD k wholeI))) p true
structure Fp.NGood (r : List Iv) (p k : Nat) : Prop where
 all : (r.getD k wholeI).all = false
 err : rndE (sumD (nsum r p k) (magI (r.getD k wholeI))) p true = 0
def Fp.nmost (m : List (List Iv)) (p : Nat) : Nat → Dy
 | 0 => zeroD
 | x + 1 => if 0 < cmpD (nsum (m.getD x []) p (m.getD x []).length) (nmost m p x) then nsum (m.getD x []) p (m.getD x []).length else nmost m p x
theorem nsum_valid (r : List Iv) {p : Nat} (hp : 1 ≤ p) (hp2 : p ≤ 4096) : ∀ k, (nsum r p k).Valid
 | 0 => zeroD_valid
 | k + 1 => cut_valid _ _ _ _ _ _ hp hp2
theorem nmost_valid (m : List (List Iv)) {p : Nat} (hp : 1 ≤ p) (hp2 : p ≤ 4096) : ∀ x, (nmost m p x).Valid
 | 0 => zeroD_valid
 | x + 1 => by
  unfold nmost; split
  ·exact nsum_valid _ hp hp2 _
  ·exact nmost_valid m hp hp2 x
theorem foldl_none (p : Nat) (l : List Iv) : l.foldl (fun s x => s.bind fun s => if x.all then none else if rndE (sumD s (magI x)) p true ≠ 0 then none else some (rndD (sumD s (magI x)) p true)) none = none := by
 induction l with
 | nil => rfl
 | cons x l ih => rw [List.foldl_cons]; exact ih
theorem rowNorm_step (p : Nat) (r : List Iv) : ∀ (l : List Iv) (k : Nat), (∀ i, i < l.length → l.getD i wholeI = r.getD (k + i) wholeI) →
  ((∀ i, k ≤ i → i < k + l.length → NGood r p i) → l.foldl (fun s x => s.bind fun s => if x.all then none else if rndE (sumD s (magI x)) p true ≠ 0 then none else some (rndD (sumD s (magI x)) p true)) (some (nsum r p k)) = some (nsum r p (k + l.length))) ∧
  (∀ i, k ≤ i → i < k + l.length → ¬ NGood r p i → l.foldl (fun s x => s.bind fun s => if x.all then none else if rndE (sumD s (magI x)) p true ≠ 0 then none else some (rndD (sumD s (magI x)) p true)) (some (nsum r p k)) = none)
 | [], k, _ => ⟨fun _ => rfl, fun i h1 h2 => by simp at h2; omega⟩
 | x :: l, k, h => by
  have e : x = r.getD k wholeI := h 0 (by simp)
  have ih := rowNorm_step p r l (k + 1) (fun i hi => by have := h (i + 1) (by simp; omega); rw [show k + 1 + i = k + (i + 1) by omega, ← this]; rfl)
  rw [List.foldl_cons]
  have hs : ∀ (g : NGood r p k), ((some (nsum r p k)).bind fun s => if x.all then none else if rndE (sumD s (magI x)) p true ≠ 0 then none else some (rndD (sumD s (magI x)) p true)) = some (nsum r p (k + 1)) := by
   intro g
   have h1 := g.all
   have h2 := g.err
   rw [← e] at h1 h2
   simp only [Option.bind_some, h1, Bool.false_eq_true, if_false, h2, ne_eq, not_true_eq_false]
   rw [e]; rfl
  have hf : ¬ NGood r p k → ((some (nsum r p k)).bind fun s => if x.all then none else if rndE (sumD s (magI x)) p true ≠ 0 then none else some (rndD (sumD s (magI x)) p true)) = none := by
   intro g
   simp only [Option.bind_some]
   by_cases h1 : x.all = true
   ·rw [if_pos h1]
   ·rw [if_neg h1]
    by_cases h2 : rndE (sumD (nsum r p k) (magI x)) p true = 0
    ·exact absurd ⟨by rw [← e]; simpa using h1, by rw [← e]; exact h2⟩ g
    ·rw [if_pos h2]
  refine ⟨fun hg => ?_, fun i h1 h2 hb => ?_⟩
  ·rw [hs (hg k (by omega) (by simp)), ih.1 (fun i h1 h2 => hg i (by omega) (by simp; omega))]
   congr 2
   simp; omega
  ·by_cases g : NGood r p k
   ·rw [hs g]
    refine ih.2 i ?_ (by simp at h2; omega) hb
    by_cases hik : i = k
    ·subst hik; exact absurd g hb
    ·omega
   ·rw [hf g, foldl_none]
theorem rowNorm_some {r : List Iv} {p : Nat} (h : ∀ i, i < r.length → NGood r p i) : rowNorm r p = some (nsum r p r.length) := by
 have := (rowNorm_step p r r 0 (fun i _ => by rw [Nat.zero_add])).1 (fun i _ hi => h i (by omega))
 rwa [Nat.zero_add] at this
theorem rowNorm_none {r : List Iv} {p i : Nat} (hi : i < r.length) (h : ¬ NGood r p i) : rowNorm r p = none :=
 (rowNorm_step p r r 0 (fun i _ => by rw [Nat.zero_add])).2 i (by omega) (by omega) h
theorem normM_step (p : Nat) (m : List (List Iv)) : ∀ (l : List (List Iv)) (x : Nat), (∀ i, i < l.length → l.getD i [] = m.getD (x + i) []) →
  ((∀ i, x ≤ i → i < x + l.length → ∀ k, k < (m.getD i []).length → NGood (m.getD i []) p k) → l.foldl (fun s r => s.bind fun s => (rowNorm r p).map fun n => if 0 < cmpD n s then n else s) (some (nmost m p x)) = some (nmost m p (x + l.length))) ∧
  (∀ i, x ≤ i → i < x + l.length → ∀ k, k < (m.getD i []).length → ¬ NGood (m.getD i []) p k → l.foldl (fun s r => s.bind fun s => (rowNorm r p).map fun n => if 0 < cmpD n s then n else s) (some (nmost m p x)) = none)
 | [], x, _ => ⟨fun _ => rfl, fun i h1 h2 => by simp at h2; omega⟩
 | r :: l, x, h => by
  have e : r = m.getD x [] := h 0 (by simp)
  have ih := normM_step p m l (x + 1) (fun i hi => by have := h (i + 1) (by simp; omega); rw [show x + 1 + i = x + (i + 1) by omega, ← this]; rfl)
  have hn : ∀ (l : List (List Iv)), l.foldl (fun s r => s.bind fun s => (rowNorm r p).map fun n => if 0 < cmpD n s then n else s) none = none := by
   intro l; induction l with
   | nil => rfl
   | cons y l ih => rw [List.foldl_cons]; exact ih
  rw [List.foldl_cons]
  refine ⟨fun hg => ?_, fun i h1 h2 k hk hb => ?_⟩
  ·rw [e, Option.bind_some, rowNorm_some (hg x (by omega) (by simp)), Option.map_some]
   have := ih.1 (fun i h1 h2 => hg i (by omega) (by simp; omega))
   rw [show x + (m.getD x [] :: l).length = x + 1 + l.length by simp only [List.length_cons]; omega]
   exact this
  ·by_cases g : ∀ k, k < (m.getD x []).length → NGood (m.getD x []) p k
   ·rw [e, Option.bind_some, rowNorm_some g, Option.map_some]
    refine ih.2 i ?_ (by simp at h2; omega) k hk hb
    by_cases hix : i = x
    ·subst hix; exact absurd (g k hk) hb
    ·omega
   ·have ⟨k', hk', hb'⟩ : ∃ k', k' < (m.getD x []).length ∧ ¬ NGood (m.getD x []) p k' := by
     apply Classical.byContradiction
     intro hc
     exact g fun k hk => Classical.byContradiction fun q => hc ⟨k, hk, q⟩
    rw [e, Option.bind_some, rowNorm_none hk' hb', Option.map_none, hn]
theorem normM_some {m : List (List Iv)} {p : Nat} (h : ∀ i, i < m.length → ∀ k, k < (m.getD i []).length → NGood (m.getD i []) p k) : normM m p = some (nmost m p m.length) := by
 have := (normM_step p m m 0 (fun i _ => by rw [Nat.zero_add])).1 (fun i _ hi => h i (by omega))
 rwa [Nat.zero_add] at this
theorem normM_none {m : List (List Iv)} {p i k : Nat} (hi : i < m.length) (hk : k < (m.getD i []).length) (h : ¬ NGood (m.getD i []) p k) : normM m p = none :=
 (normM_step p m m 0 (fun i _ => by rw [Nat.zero_add])).2 i (by omega) (by omega) k hk h
theorem zero_cells : Les [bP false, .v (.slice none 0 0), iP 0] [bP zeroD.neg, slP (limbs zeroD.m), iP zeroD.e] := .cons (.refl _) (.cons nilLimb_le (.cons (.refl _) .nil))
open Go.RowKit Fp Pu
structure Fp.Iv.NN (x : Iv) : Prop where
 lo : x.lo.neg = false
 hi : x.hi.neg = false
theorem canon_nn (m : Nat) (e : Int) : (canon false m e).neg = false := by unfold canon; split <;> rfl
theorem cutD_nn (m : Nat) (e : Int) (more : Bool) (p : Nat) (up : Bool) : (cutD false m e more p up).neg = false := by
 unfold cutD
 split
 ·split
  ·rfl
  ·exact canon_nn _ _
 ·exact canon_nn _ _
theorem rndD_nn {d : Dy} (h : d.neg = false) (p : Nat) (up : Bool) : (rndD d p up).neg = false := by unfold rndD; rw [h]; exact cutD_nn _ _ _ _ _
theorem prodD_nn {a b : Dy} (ha : a.neg = false) (hb : b.neg = false) : (prodD a b).neg = false := by unfold prodD; rw [ha, hb]; exact canon_nn _ _
theorem divD_nn {a b : Dy} (ha : a.neg = false) (hb : b.neg = false) (p : Nat) (up : Bool) : (divD a b p up).neg = false := by
 unfold divD; rw [ha, hb]; split
 ·rfl
 ·exact cutD_nn _ _ _ _ _
theorem minD_nn {a b : Dy} (ha : a.neg = false) (hb : b.neg = false) : (minD a b).neg = false := by unfold minD; split <;> assumption
theorem maxD_nn {a b : Dy} (ha : a.neg = false) (hb : b.neg = false) : (maxD a b).neg = false := by unfold maxD; split <;> assumption
theorem num_nn {a : Dy} (ha : a.neg = false) (k : Int) : 0 ≤ a.num k := by unfold Dy.num; rw [ha]; simp
theorem sumD_nn {a b : Dy} (ha : a.neg = false) (hb : b.neg = false) : (sumD a b).neg = false := by
 unfold sumD
 split
 ·exact hb
 ·split
  ·exact ha
  ·unfold canonZ
   have h1 := num_nn ha (min a.e b.e)
   have h2 := num_nn hb (min a.e b.e)
   rw [decide_eq_false (by omega)]
   exact canon_nn _ _
theorem whole_nn : wholeI.NN := ⟨rfl, rfl⟩
theorem fourI_nn {DD : Dy → Dy → Bool → Dy} {EE : Dy → Dy → Bool → Int} {x y : Iv} (hx : x.NN) (hy : y.NN) (h : ∀ a b up, a.neg = false → b.neg = false → (DD a b up).neg = false) : (fourI DD EE x y).NN := by
 unfold fourI
 split
 ·exact ⟨minD_nn (minD_nn (minD_nn (h _ _ _ hx.lo hy.lo) (h _ _ _ hx.lo hy.hi)) (h _ _ _ hx.hi hy.lo)) (h _ _ _ hx.hi hy.hi),
   maxD_nn (maxD_nn (maxD_nn (h _ _ _ hx.lo hy.lo) (h _ _ _ hx.lo hy.hi)) (h _ _ _ hx.hi hy.lo)) (h _ _ _ hx.hi hy.hi)⟩
 ·exact whole_nn
theorem mulI_nn {x y : Iv} (hx : x.NN) (hy : y.NN) (p : Nat) : (mulI x y p).NN := by
 unfold mulI; split
 ·exact whole_nn
 ·exact fourI_nn hx hy fun a b up ha hb => rndD_nn (prodD_nn ha hb) p up
theorem divI_nn {x y : Iv} (hx : x.NN) (hy : y.NN) (p : Nat) : (divI x y p).NN := by
 unfold divI; split
 ·exact whole_nn
 ·exact fourI_nn hx hy fun a b up ha hb => divD_nn ha hb p up
theorem absI_nn (x : Iv) : (absI x).NN := by
 unfold absI; split
 ·exact whole_nn
 ·refine ⟨?_, maxD_nn rfl rfl⟩
  show (migI x).neg = false
  unfold migI; split
  ·rfl
  ·exact minD_nn rfl rfl
theorem pointI_nn {d : Dy} (h : d.neg = false) : (pointI d).NN := ⟨h, h⟩
theorem numI_nn (n : Nat) : (numI ((n : Nat) : Int)).NN := by
 refine pointI_nn ?_
 rw [intD_nat]; exact canon_nn _ _
theorem powI_nn {u : Iv} (hu : u.NN) (p : Nat) : ∀ j, (powI u p j).NN
 | 0 => numI_nn 1
 | j + 1 => mulI_nn (powI_nn hu p j) (divI_nn hu (numI_nn (j + 1)) p) p
theorem nsum_nn (r : List Iv) (p : Nat) : ∀ k, (nsum r p k).neg = false
 | 0 => rfl
 | k + 1 => rndD_nn (sumD_nn (nsum_nn r p k) (maxD_nn rfl rfl)) p true
theorem nmost_nn (m : List (List Iv)) (p : Nat) : ∀ x, (nmost m p x).neg = false
 | 0 => rfl
 | x + 1 => by
  unfold nmost; split
  ·exact nsum_nn _ _ _
  ·exact nmost_nn m p x
theorem num_lt {a b : Dy} (ha : a.neg = false) (hb : b.neg = false) (hlt : cmpD a b < 0) {k : Int} (h1 : k ≤ a.e) (h2 : k ≤ b.e) : a.m * 2 ^ (a.e - k).toNat < b.m * 2 ^ (b.e - k).toNat := by
 rw [cmpD_at (k := k) (.inr h1) (.inr h2)] at hlt
 have h : a.num k < b.num k := by
  unfold cmpI at hlt
  split at hlt
  ·assumption
  ·split at hlt <;> omega
 unfold Dy.num Dy.mag at h
 rw [ha, hb] at h
 simp only [Bool.false_eq_true, if_false] at h
 exact Int.ofNat_lt.1 h
theorem divD_le_one {a b : Dy} (ha : a.neg = false) (hb : b.neg = false) (b0 : b.m ≠ 0) (hlt : cmpD a b < 0) (p : Nat) : cmpD (divD a b p false) (canon false 1 0) ≤ 0 := by
 unfold divD
 by_cases a0 : a.m = 0
 ·rw [if_pos a0]
  have : zeroD = canon false 0 0 := rfl
  rw [this]
  exact (canon_le_mag (s := false) (K := 0) (Int.le_refl _) (Int.le_refl _) (by simp)).1 rfl
 rw [if_neg a0, ha, hb]
 generalize hK : divK a b p 2 = K
 generalize hq : a.m * 2 ^ K / b.m = q
 generalize hE : a.e - b.e - (K : Int) = E
 have hqb : q * b.m ≤ a.m * 2 ^ K := by rw [← hq]; exact Nat.div_mul_le_self _ _
 have key : q * 2 ^ (E - min E 0).toNat < 2 ^ (0 - min E 0).toNat := by
  have hk1 : min (a.e - K) b.e ≤ a.e := by omega
  have hk2 : min (a.e - K) b.e ≤ b.e := by omega
  have h := num_lt ha hb hlt hk1 hk2
  have e1 : (a.e - min (a.e - K) b.e).toNat = K + (E - min E 0).toNat := by omega
  have e2 : (b.e - min (a.e - K) b.e).toNat = (0 - min E 0).toNat := by omega
  rw [e1, e2, Nat.pow_add, ← Nat.mul_assoc] at h
  have h3 : q * b.m * 2 ^ (E - min E 0).toNat < b.m * 2 ^ (0 - min E 0).toNat := Nat.lt_of_le_of_lt (Nat.mul_le_mul_right _ hqb) h
  rw [Nat.mul_comm q, Nat.mul_assoc] at h3
  exact Nat.lt_of_mul_lt_mul_left h3
 have hqe : q = 0 ∨ (bitsN q : Int) + E ≤ 0 := by
  by_cases hE0 : 0 ≤ E
  ·left
   rw [show (0 - min E 0).toNat = 0 by omega, Nat.pow_zero] at key
   rcases Nat.mul_eq_zero.1 (Nat.lt_one_iff.1 key) with h | h
   ·exact h
   ·exact absurd h (Nat.ne_of_gt (Nat.pow_pos (by decide)))
  ·right
   rw [show (E - min E 0).toNat = 0 by omega, Nat.pow_zero, Nat.mul_one] at key
   have := bitsN_le_iff.2 key
   omega
 generalize decide (a.m * 2 ^ K % b.m ≠ 0) = more
 have hQ : cutQ q E more p (false != false) = q / 2 ^ cutK q E p := by unfold cutQ; simp
 have hsm : q / 2 ^ cutK q E p ≠ 0 → (bitsN (q / 2 ^ cutK q E p) : Int) + E + cutK q E p ≤ 0 := by
  intro hn
  have hb2 := bitsN_mul_pow hn (cutK q E p)
  have hm := bitsN_mono (Nat.div_mul_le_self q (2 ^ cutK q E p))
  rcases hqe with h | h
  ·rw [h, Nat.zero_div] at hn; exact absurd rfl hn
  ·omega
 have hO : cutOver q E more p (false != false) = false := by
  unfold cutOver
  rw [hQ]
  by_cases hn : q / 2 ^ cutK q E p = 0
  ·simp [hn]
  ·have := hsm hn
   rw [decide_eq_false (show ¬ 16384 < (bitsN (q / 2 ^ cutK q E p) : Int) + E + cutK q E p by omega)]
   simp
 unfold cutD
 rw [show ((false != false) != false) = (false != false) from rfl, hO, if_neg (by decide), hQ]
 refine (canon_le_mag (s := (false != false)) (K := min E 0) (by omega) (by omega) ?_).1 rfl
 rw [Nat.one_mul, show (E + (cutK q E p : Int) - min E 0).toNat = cutK q E p + (E - min E 0).toNat by omega, Nat.pow_add, ← Nat.mul_assoc]
 exact Nat.le_of_lt (Nat.lt_of_le_of_lt (Nat.mul_le_mul_right _ (Nat.div_mul_le_self _ _)) key)
theorem numI_valid' : (numI 1).Valid := pointI_valid (intD_valid 1 (by decide))
theorem Fp.Iv.Valid.ends' {x : Iv} (h : x.Valid) : x.lo.Canon ∧ x.hi.Canon := ⟨h.ends.1.canon, h.ends.2.canon⟩
theorem nn_of_sign {d : Dy} (hd : d.Canon) (h : 0 ≤ d.sign) : d.neg = false := by
 unfold Dy.sign at h
 rcases hd with ⟨_, h2, _⟩ | h1
 ·exact h2
 ·rw [if_neg (by omega)] at h
  cases hn : d.neg with
  | false => rfl
  | true => rw [hn] at h; simp at h
theorem sign_of_nn {d : Dy} (h : d.neg = false) : 0 ≤ d.sign := by
 unfold Dy.sign; rw [h]; split
 ·omega
 ·simp
theorem intD_pos {c : Nat} (hc : 0 < c) : (intD ((c : Nat) : Int)).m ≠ 0 := by
 rw [intD_nat]
 exact (canon_bits (s := false) (e := 0) (by omega)).2.2.1
theorem numI_sign {c : Nat} (hc : 0 < c) : signI (numI ((c : Nat) : Int)) = 1 := by
 unfold signI numI pointI
 simp only [Bool.false_eq_true, if_false]
 rw [if_pos]
 unfold Dy.sign
 rw [if_neg (intD_pos hc), show (intD ((c : Nat) : Int)).neg = false by rw [intD_nat]; exact canon_nn _ _]
 simp
theorem rest_nn {u t : Iv} {c p : Nat} (hu : u.NN) (hc : 0 < c) (hua : u.all = false) (hlt : cmpD u.hi (intD ((c : Nat) : Int)) < 0) (ht : t.NN)
  (he : (divI t (subI (numI 1) (divI u (numI ((c : Nat) : Int)) p) p) p).all = false) (hp1 : 1 ≤ p) (hp2 : p ≤ 4096) : (divI t (subI (numI 1) (divI u (numI ((c : Nat) : Int)) p) p) p).NN := by
 have hone : (numI 1).NN := numI_nn 1
 generalize hq : divI u (numI ((c : Nat) : Int)) p = q at *
 have hqn : q.NN := hq ▸ divI_nn hu (numI_nn c) p
 have hqv : q.Valid := hq ▸ divI_valid _ _ hp1 hp2
 have hden : ∀ d : Iv, d.all = true → (divI t d p).all = true := fun d hd => by unfold divI; rw [hd]; simp [wholeI]
 have hdall : (subI (numI 1) q p).all = false := by
  cases h : (subI (numI 1) q p).all with
  | false => rfl
  | true => rw [hden _ h] at he; cases he
 have hqa : q.all = false := by
  cases h : q.all with
  | false => rfl
  | true =>
   exfalso
   have : (subI (numI 1) q p) = wholeI := by
    unfold subI negI addI
    rw [h]; simp [wholeI]
   rw [this] at hdall; cases hdall
 have hqlo : cmpD q.lo (canon false 1 0) ≤ 0 := by
  have hf : q = fourI (fun a b up => divD a b p up) (fun a b up => divE a b p up) u (numI ((c : Nat) : Int)) := by
   rw [← hq]
   unfold divI
   rw [if_neg]
   rw [hua, numI_sign hc]
   simp [numI, pointI]
  have hlo : q.lo = minD (minD (minD (divD u.lo (intD ((c : Nat) : Int)) p false) (divD u.lo (intD ((c : Nat) : Int)) p false)) (divD u.hi (intD ((c : Nat) : Int)) p false)) (divD u.hi (intD ((c : Nat) : Int)) p false) := by
   rw [hf] at hqa ⊢
   unfold fourI at hqa ⊢
   split
   ·rfl
   ·rename_i hne
    rw [if_neg hne] at hqa
    cases hqa
  rw [hlo]
  exact le_trans (minD_right _ _) (divD_le_one hu.hi (by rw [intD_nat]; exact canon_nn _ _) (intD_pos hc) hlt p)
 have hone' : intD 1 = canon false 1 0 := intD_nat 1
 have hsum : 0 ≤ (sumD (intD 1) (negD q.lo)).sign := by
  by_cases h0 : q.lo.m = 0
  ·have : (negD q.lo).m = 0 := h0
   have : sumD (intD 1) (negD q.lo) = intD 1 := by
    unfold sumD
    rw [if_neg (show (intD 1).m ≠ 0 from intD_pos (c := 1) (by decide)), if_pos this]
   rw [this]
   exact sign_of_nn hone.lo
  ·rw [cmpD_sum (show (intD 1).m ≠ 0 from intD_pos (c := 1) (by decide)) h0, hone', cmpD_neg]
   omega
 have hdv : (subI (numI 1) q p).Valid := addI_valid (numI_valid' ) (negI_valid hqv) hp1 hp2
 have hadd : subI (numI 1) q p = madeI (rndD (sumD (intD 1) (negD q.hi)) p false) (rndE (sumD (intD 1) (negD q.hi)) p false) (rndD (sumD (intD 1) (negD q.lo)) p true) (rndE (sumD (intD 1) (negD q.lo)) p true) := by
  unfold subI negI addI
  rw [hqa]
  rfl
 have hhi : (subI (numI 1) q p).hi = rndD (sumD (intD 1) (negD q.lo)) p true := by
  rw [hadd] at hdall ⊢
  unfold madeI at hdall ⊢
  split
  ·rename_i h; rw [if_pos h] at hdall; cases hdall
  ·rfl
 have hsc : (sumD (intD 1) (negD q.lo)).Canon := canon_sumD (by rw [hone']; exact canon_canon _ _ _) (negD_canon (hqv.ends'.1))
 have hhin : (subI (numI 1) q p).hi.neg = false := by
  rw [hhi]; exact rndD_nn (nn_of_sign hsc hsum) p true
 have hsg : signI (subI (numI 1) q p) ≠ 0 := by
  intro hz
  have : (divI t (subI (numI 1) q p) p).all = true := by unfold divI; rw [if_pos (by rw [hz]; simp)]; rfl
  rw [this] at he; cases he
 have hlon : (subI (numI 1) q p).lo.neg = false := by
  unfold signI at hsg
  rw [hdall] at hsg
  simp only [Bool.false_eq_true, if_false] at hsg
  have hh := sign_of_nn hhin
  split at hsg
  ·rename_i h
   cases hn : (subI (numI 1) q p).lo.neg with
   | false => rfl
   | true => unfold Dy.sign at h; rw [hn] at h; split at h <;> simp at h
  ·rw [if_neg (by omega)] at hsg
   exact absurd rfl hsg
 exact divI_nn ht ⟨hlon, hhin⟩ p
open Go.RowKit Fp Pu
theorem identM_ok {n : Nat} (h1 : 1 ≤ n) (h8 : n ≤ 8) : MOk (identM n) n n :=
 wholeM_ok (F := fun i j => pointI (if i = j then ⟨false, 1, 0⟩ else zeroD)) h1 h8 h1 h8 fun i j => by
  split
  ·exact numI_valid'
  ·exact pointI_valid zeroD_valid
theorem headD_len {b : List (List Iv)} {k c : Nat} (gb : MOk b k c) : (b.headD []).length = c := by
 cases b with
 | nil => have := gb.rows; have := gb.n1; simp at *; omega
 | cons r b => exact gb.row r (by simp)
theorem mulM_ok {a b : List (List Iv)} {n k c p : Nat} (ga : MOk a n k) (gb : MOk b k c) (hp1 : 1 ≤ p) (hp2 : p ≤ 4096) : MOk (mulM a b p) n c := by
 refine ⟨by simp [mulM, ga.rows], fun r hr => ?_, fun r hr x hx => ?_, ga.n1, ga.n8, gb.k1, gb.k8⟩
 ·obtain ⟨q, _, rfl⟩ := List.mem_map.1 hr
  rw [List.length_map, List.length_range, headD_len gb]
 ·obtain ⟨q, _, rfl⟩ := List.mem_map.1 hr
  obtain ⟨j, _, rfl⟩ := List.mem_map.1 hx
  exact dotI_valid hp1 hp2
theorem scaleM_ok {a : List (List Iv)} {x : Iv} {n k p : Nat} (ga : MOk a n k) (hp1 : 1 ≤ p) (hp2 : p ≤ 4096) : MOk (scaleM a x p) n k := by
 refine ⟨by simp [scaleM, ga.rows], fun r hr => ?_, fun r hr y hy => ?_, ga.n1, ga.n8, ga.k1, ga.k8⟩
 ·obtain ⟨q, hq, rfl⟩ := List.mem_map.1 hr
  simp [ga.row q hq]
 ·obtain ⟨q, _, rfl⟩ := List.mem_map.1 hr
  obtain ⟨z, _, rfl⟩ := List.mem_map.1 hy
  exact mulI_valid _ _ hp1 hp2
theorem mem_zipWith' {α β γ : Type} {f : α → β → γ} {l : List α} {m : List β} {z : γ} (h : z ∈ List.zipWith f l m) : ∃ x y, x ∈ l ∧ y ∈ m ∧ z = f x y := by
 induction l generalizing m with
 | nil => simp at h
 | cons a l ih =>
  cases m with
  | nil => simp at h
  | cons b m =>
   rw [List.zipWith_cons_cons] at h
   rcases List.mem_cons.1 h with h | h
   ·exact ⟨a, b, by simp, by simp, h⟩
   ·obtain ⟨x, y, h1, h2, h3⟩ := ih h
    exact ⟨x, y, by simp [h1], by simp [h2], h3⟩
theorem addM_ok {a b : List (List Iv)} {n k p : Nat} (ga : MOk a n k) (gb : MOk b n k) (hp1 : 1 ≤ p) (hp2 : p ≤ 4096) : MOk (addM a b p) n k := by
 refine ⟨by simp [addM, ga.rows, gb.rows], fun r hr => ?_, fun r hr y hy => ?_, ga.n1, ga.n8, ga.k1, ga.k8⟩
 ·obtain ⟨u, v, h1, h2, rfl⟩ := mem_zipWith' hr
  simp [ga.row u h1, gb.row v h2]
 ·obtain ⟨u, v, h1, h2, rfl⟩ := mem_zipWith' hr
  obtain ⟨x, z, h3, h4, rfl⟩ := mem_zipWith' hy
  exact addI_valid (ga.ok u h1 x h3) (gb.ok v h2 z h4) hp1 hp2
theorem termM_ok {m : List (List Iv)} {h : Iv} {n p : Nat} (ga : MOk m n n) (hp1 : 1 ≤ p) (hp2 : p ≤ 4096) : ∀ j, MOk (termM m h p j) n n
 | 0 => by
  have := ga.rows
  unfold termM; rw [this]; exact identM_ok ga.n1 ga.n8
 | j + 1 => scaleM_ok (mulM_ok (termM_ok ga hp1 hp2 j) ga hp1 hp2) hp1 hp2
theorem sumM_ok {m : List (List Iv)} {h : Iv} {n p : Nat} (ga : MOk m n n) (hp1 : 1 ≤ p) (hp2 : p ≤ 4096) : ∀ j, MOk (sumM m h p j) n n
 | 0 => by
  have := ga.rows
  unfold sumM; rw [this]; exact identM_ok ga.n1 ga.n8
 | j + 1 => addM_ok (sumM_ok ga hp1 hp2 j) (termM_ok ga hp1 hp2 (j + 1)) hp1 hp2
open Go.RowKit Fp Pu
abbrev qja0 (a : List (List Iv)) (b : List (List Iv)) (p) := fun i_ => (List.range (a.getD i_ []).length).map (fun j_ => (addI ((a.getD i_ []).getD j_ wholeI) ((b.getD i_ []).getD j_ wholeI) p))
abbrev qja2 (b : List (List Iv)) := fun i_ => (List.range b.length).map (fun j_ => ((b.getD j_ []).getD i_ wholeI))
abbrev qja3 (a : List (List Iv)) (x) (b : List (List Iv)) (p) := fun j_ => (addI ((a.getD x []).getD j_ wholeI) ((b.getD x []).getD j_ wholeI) p)
abbrev qja4 (a : List (List Iv)) (x) := fun q => (a.getD x []).getD q wholeI
abbrev qja6 (a : List (List Iv)) (i_ : Nat) := fun q => (a.getD i_ []).getD q wholeI
abbrev qja7 (b : List (List Iv)) (x) := fun j_ => ((b.getD j_ []).getD x wholeI)
abbrev qja9 (a : List (List Iv)) (x) (y) (b : List (List Iv)) (p) := addI ((a.getD x []).getD y wholeI) ((b.getD x []).getD y wholeI) p
def trM (b : List (List Iv)) : List (List Iv) := ((List.range (b.getD 0 []).length).map (qja2 b))
def r7AddFB (a b : List (List Iv)) (p : Nat) (x : Nat) : PS := ⟨97, true, [(11, .own 11), (12, .e (iP x)), (0, .e (matP a)), (1, .e (matP b)), (2, .e (iP p)), (3, .e (bP false))], [(11, .row true 31 x 1 (matE ((List.range x).map (qja0 a b p))))]⟩
def r7AddFC (a b : List (List Iv)) (p : Nat) (x : Nat) (y : Nat) : PS := ⟨97, true, [(13, .own 13), (14, .e (iP y)), (11, .own 11), (12, .e (iP x)), (0, .e (matP a)), (1, .e (matP b)), (2, .e (iP p)), (3, .e (bP false))], [(13, .row true 28 y 7 (ivsE ((List.range y).map (qja3 a x b p)))), (11, .row true 31 x 1 (matE ((List.range x).map (qja0 a b p))))]⟩
def r7DotF (xs ys : List Iv) (p : Nat) (c : Nat) : PS := ⟨37, true, [(8, .e (iP (((c + 1) : Nat) : Int))), (7, .box 7 0), (6, .box 6 0), (0, .e (ivsP xs)), (1, .e (ivsP ys)), (2, .e (iP p))], [(7, .cells 28 (ivL (dotP (fun q => xs.getD q wholeI) (fun q => ys.getD q wholeI) p c))), (6, .cells 28 [(bP false), (.v (.slice none 0 0)), (iP 0), (bP false), (.v (.slice none 0 0)), (iP 0), (bP false)])]⟩
def r7TrFB (b : List (List Iv)) (x : Nat) : PS := ⟨39, true, [(3, .own 3), (4, .e (iP x)), (0, .e (matP b))], [(3, .row true 31 x 1 (matE ((List.range x).map (qja2 b))))]⟩
def r7TrFC (b : List (List Iv)) (x : Nat) (y : Nat) : PS := ⟨39, true, [(5, .own 5), (6, .e (iP y)), (3, .own 3), (4, .e (iP x)), (0, .e (matP b))], [(5, .row true 28 y 7 (ivsE ((List.range y).map (qja7 b x)))), (3, .row true 31 x 1 (matE ((List.range x).map (qja2 b))))]⟩
def r7MulFB (a b : List (List Iv)) (p : Nat) (x : Nat) : PS := ⟨60, true, [(10, .own 10), (11, .e (iP x)), (9, .e (matP (trM b))), (0, .e (matP a)), (2, .e (iP p))], [(10, .row true 31 x 1 (matE ((List.range x).map (fun i_ => (List.range (trM b).length).map (fun j_ => (dotP (qja6 a i_) (fun q => ((trM b).getD j_ []).getD q wholeI) p ((a.getD i_ []).length - 1)))))))]⟩
def r7MulFC (a b : List (List Iv)) (p : Nat) (x : Nat) (y : Nat) : PS := ⟨60, true, [(12, .own 12), (13, .e (iP y)), (10, .own 10), (11, .e (iP x)), (9, .e (matP (trM b))), (0, .e (matP a)), (2, .e (iP p))], [(12, .row true 28 y 7 (ivsE ((List.range y).map (fun j_ => (dotP (qja4 a x) (fun q => ((trM b).getD j_ []).getD q wholeI) p ((a.getD x []).length - 1)))))), (10, .row true 31 x 1 (matE ((List.range x).map (fun i_ => (List.range (trM b).length).map (fun j_ => (dotP (qja6 a i_) (fun q => ((trM b).getD j_ []).getD q wholeI) p ((a.getD i_ []).length - 1)))))))]⟩
theorem r7Valid_pc (m : List (List Iv)) (n k : Nat) (h : MOk m n k) : PCt 96 [matP m] (bP true) := by
 have := r7ValidR_pc (rawsM m) h.good (by have := h.n8; simp [rawsM, h.rows]; omega) (fun i => by rw [rawsM_getD]; have := h.len_le i; simp only [rawsI, List.length_map]; omega)
 rwa [matP_raw, matOkB_true.2 h.rok] at this
set_option maxHeartbeats 2000000 in
theorem r7Fault_pc (a b : List (List Iv)) (n k n2 k2 p : Nat) (ga : MOk a n k) (gb : MOk b n2 k2) (hp1 : 8 ≤ p) (hp2 : p ≤ 512) : PCt 141 [(matP a), (matP b), (iP p)] (iP 0) := by
 exact tr true Tryz.call141 Tryz.func141 (chain [.c (r7Valid_pc _ _ _ ‹_› : PCt 96 [(matP a)] _), .c (r7Valid_pc _ _ _ ‹_› : PCt 96 [(matP b)] _), .c (refPrec_pc _ : PCt 58 [(iP p)] _),
  tB 16 (precB_true.2 ⟨by omega, by omega⟩ : (precB (p : Int)) = true)] <| .nil) (by kernel_rfl)
set_option maxHeartbeats 2000000 in
theorem r7Add_pc (a b : List (List Iv)) (n k p : Nat) (ga : MOk a n k) (gb : MOk b n k) (hp1 : 8 ≤ p) (hp2 : p ≤ 512) : PCt 65 [(matP a), (matP b), (iP p), (bP false)] (.tup [matP (addM a b p), iP 0]) := by
 have ra := ga.rows
 have rb := gb.rows
 have n1 := ga.n1
 have n8 := ga.n8
 have k1 := ga.k1
 have k8 := ga.k8
 have l0 := ga.len_at (show 0 < n by omega)
 have l1 := gb.len_at (show 0 < n by omega)
 exact tr true Tryz.call65 Tryz.func65 (chain [.c (r7Fault_pc _ _ _ _ _ _ _ ‹_› ‹_› (by omega) (by omega) : PCt 141 [(matP a), (matP b), (iP p)] _), tB 20 (by decide : ((0 : Int) != 0) = false),
  tB 26 (natNe_false (by omega) : ((a.length : Int) != (b.length : Int)) = false), iX (0) (a.length) (by omega), iX (0) (b.length) (by omega),
  tB 36 (natNe_false (by omega) : ((((a.getD 0 []).length : Nat) : Int) != (((b.getD 0 []).length : Nat) : Int)) = false),
  .y 11 11 true 31 1 (matE ((List.range 0).map (qja0 a b p))),
  .s (Sp.upto (r7AddFB a b p) 0 a.length (by omega) (fun x hx hltx => by
    have lx := ga.len_at (show x < n by omega)
    have ly := gb.len_at (show x < n by omega)
    exact spt (chain [tT 41 ((x : Int) < (a.length : Int)) (by omega), .y 13 13 true 28 7 (ivsE ((List.range 0).map (qja3 a x b p))),
     .s (Sp.upto (r7AddFC a b p x) 0 ((a.getD x []).length) (by omega) (fun y hy hlty => by
    have w1 := ga.val_at (show x < n by omega) (show y < k by omega)
    have w2 := gb.val_at (show x < n by omega) (show y < k by omega)
    have ho1 := one_len (addI ((a.getD x []).getD y wholeI) ((b.getD x []).getD y wholeI) p)
    exact spt (chain [iX ((x : Int)) (a.length) (by omega), tT 50 ((y : Int) < (((a.getD x []).length : Nat) : Int)) (by omega), iX ((x : Int)) (a.length) (by omega), iX ((y : Int)) ((a.getD x []).length) (by omega),
     iX ((x : Int)) (b.length) (by omega), iX ((y : Int)) ((b.getD x []).length) (by omega), .c (r5Add_pc ((a.getD x []).getD y wholeI) ((b.getD x []).getD y wholeI) p ‹_› ‹_› (by omega) (by omega)),
     .o 90 (.e (ivs1_le _) : PV.le (.e (.sl true 1 7 fun i_ j_ => (ivL (qja9 a x y b p)).getD (i_ * 7 + j_) (.v (.bool false)))) (.e (ivsP [(qja9 a x y b p)]))),
     .a (by omega : (y + [(addI ((a.getD x []).getD y wholeI) ((b.getD x []).getD y wholeI) p)].length) * 88 ≤ 140737488355328), r64 ((y : Int) + 1) (by omega)] <| .e (chain [.b 13 (ivs_pushR rfl rfl rfl : Bx.le (.row true 28 (y + [(qja9 a x y b p)].length) 7 (fun i_ j_ => if i_ < y then (ivsE ((List.range y).map (qja3 a x b p))) i_ j_ else (E.elf (ivsP [(qja9 a x y b p)])) (i_ - y) j_)) (.row true 28 (y + 1) 7 (ivsE ((List.range (y + 1)).map (qja3 a x b p)))))] <| .nil)) (by kernel_rfl))
  (fun hy => by
    exact spt (chain [iX ((x : Int)) (a.length) (by omega), tF 50 ((((a.getD x []).length : Nat) : Int) < (((a.getD x []).length : Nat) : Int)) (by omega), .z 13] <| .e (chain [.o 13 (.e (ivsRow_le (by simp)) : PV.le (.e (.sl true ((a.getD x []).length) 7 (ivsE ((List.range ((a.getD x []).length)).map (fun j_ => (addI ((a.getD x []).getD j_ wholeI) ((b.getD x []).getD j_ wholeI) p)))))) (.e (ivsP ((List.range (a.getD x []).length).map (fun j_ => (addI ((a.getD x []).getD j_ wholeI) ((b.getD x []).getD j_ wholeI) p))))))] <| .nil)) (by kernel_rfl)) (by nofun) : LpT 12 Tryz.f65 (r7AddFC a b p x 0) (.exit 2) ⟨97, true, [(13, .e (ivsP ((List.range (a.getD x []).length).map (qja3 a x b p)))), (11, .own 11), (12, .e (iP x)), (0, .e (matP a)), (1, .e (matP b)), (2, .e (iP p)), (3, .e (bP false))], [(11, .row true 31 x 1 (matE ((List.range x).map (qja0 a b p))))]⟩) .nil,
     .a (by omega : (x + 1) * 24 ≤ 140737488355328), r64 ((x : Int) + 1) (by omega)] <| .e (chain [.b 11 (mat_pushR rfl rfl rfl (fun j hj => by cases Nat.lt_one_iff.1 hj; rfl) : Bx.le (.row true 31 (x + 1) 1 (fun i_ j_ => if i_ < x then (matE ((List.range x).map (qja0 a b p))) i_ j_ else (E.elf (.sl true 1 1 fun i_ j_ => [(ivsP ((List.range (a.getD x []).length).map (qja3 a x b p)))].getD (i_ * 1 + j_) (.v (.bool false)))) (i_ - x) j_)) (.row true 31 (x + 1) 1 (matE ((List.range (x + 1)).map (qja0 a b p)))))] <| .nil)) (by kernel_rfl))
  (fun hx => by
    exact spt (chain [tF 41 ((a.length : Int) < (a.length : Int)) (by omega), .z 11] <| .e (chain [.o 11 (.e (matRow_le (by simp)) : PV.le (.e (.sl true a.length 1 (matE ((List.range a.length).map (fun i_ => (List.range (a.getD i_ []).length).map (fun j_ => (addI ((a.getD i_ []).getD j_ wholeI) ((b.getD i_ []).getD j_ wholeI) p))))))) (.e (matP ((List.range a.length).map (fun i_ => (List.range (a.getD i_ []).length).map (fun j_ => (addI ((a.getD i_ []).getD j_ wholeI) ((b.getD i_ []).getD j_ wholeI) p)))))))] <| .nil)) (by kernel_rfl)) (by nofun) : LpT 8 Tryz.f65 (r7AddFB a b p 0) (.exit 0) ⟨97, true, [(11, .e (matP ((List.range a.length).map (qja0 a b p))))], []⟩) .nil] <| rQ (.tup [(matP ((List.range a.length).map (fun i_ => (List.range (a.getD i_ []).length).map (fun j_ => (addI ((a.getD i_ []).getD j_ wholeI) ((b.getD i_ []).getD j_ wholeI) p))))), (iP 0)]) (.tup [matP (addM a b p), iP 0]) (by rw [← wholeM_addM ga gb]; rfl)) (by kernel_rfl)
set_option maxHeartbeats 2000000 in
theorem r7Dot_pc (xs ys : List Iv) (p : Nat) (h0 : 0 < xs.length) (hl : xs.length ≤ 1000) (hlen : ys.length = xs.length) (hx : ∀ i, i < xs.length → (xs.getD i wholeI).Valid) (hy : ∀ i, i < xs.length → (ys.getD i wholeI).Valid) (hp1 : 8 ≤ p) (hp2 : p ≤ 512) : PCt 143 [(ivsP xs), (ivsP ys), (iP p)] (ivP (dotP (fun q => xs.getD q wholeI) (fun q => ys.getD q wholeI) p (xs.length - 1))) := by
 have w1 := hx 0 h0
 have w2 := hy 0 h0
 exact tr true Tryz.call143 Tryz.func143 (chain [iX (0) (xs.length) (by omega), iX (0) (ys.length) (by omega), .c (r5Mul_pc (xs.getD 0 wholeI) (ys.getD 0 wholeI) p ‹_› ‹_› (by omega) (by omega)),
  .s (Sp.upto (r7DotF xs ys p) 0 (xs.length - 1) (by omega) (fun c hc hltc => by
    have w1 := hx (c + 1) (by omega)
    have w2 := hy (c + 1) (by omega)
    have w3 := dotP_valid (fun q => xs.getD q wholeI) (fun q => ys.getD q wholeI) (show 1 ≤ p by omega) (by omega) c
    exact spt (chain [tT 20 ((((c + 1) : Nat) : Int) < (xs.length : Int)) (by omega), iX ((((c + 1) : Nat) : Int)) (xs.length) (by omega), iX ((((c + 1) : Nat) : Int)) (ys.length) (by omega),
     .c (r5Mul_pc (xs.getD (c + 1) wholeI) (ys.getD (c + 1) wholeI) p ‹_› ‹_› (by omega) (by omega)),
     .c (r5Add_pc (dotP (fun q => xs.getD q wholeI) (fun q => ys.getD q wholeI) p c) (mulI (xs.getD (c + 1) wholeI) (ys.getD (c + 1) wholeI) p) p ‹_› (mulI_valid _ _ (by omega) (by omega)) (by omega) (by omega)),
     r64 ((((c + 1) : Nat) : Int) + 1) (by omega)] <| .e (chain [.b 7 (.of_eq rfl : Bx.le (.cells 28 (ivL (addI (dotP (fun q => xs.getD q wholeI) (fun q => ys.getD q wholeI) p c) (mulI (xs.getD (c + 1) wholeI) (ys.getD (c + 1) wholeI) p) p))) (.cells 28 (ivL (dotP (fun q => xs.getD q wholeI) (fun q => ys.getD q wholeI) p (c + 1)))))] <| .nil)) (by kernel_rfl))
  (fun hc => by
    exact spt (chain [tF 20 (((((xs.length - 1) + 1) : Nat) : Int) < (xs.length : Int)) (by omega)] <| .nil) (by kernel_rfl)) (by nofun) : LpT 3 Tryz.f143 (r7DotF xs ys p 0) (.exit 0) ⟨37, true, [(7, .box 7 0), (6, .box 6 0)], [(7, .cells 28 (ivL (dotP (fun q => xs.getD q wholeI) (fun q => ys.getD q wholeI) p (xs.length - 1)))), (6, .cells 28 [(bP false), (.v (.slice none 0 0)), (iP 0), (bP false), (.v (.slice none 0 0)), (iP 0), (bP false)])]⟩) (chain [.o 8 (.int (by first | rfl | omega | (simp only [Nat.add_mul, Nat.one_mul]; omega)) : PV.le (.e (iP 1)) (.e (iP (((0 + 1) : Nat) : Int)))),
  .b 7 (.of_eq rfl : Bx.le (.cells 28 (ivL (mulI (xs.getD 0 wholeI) (ys.getD 0 wholeI) p))) (.cells 28 (ivL (dotP (fun q => xs.getD q wholeI) (fun q => ys.getD q wholeI) p 0))))] <| .nil)] <| .nil) (by kernel_rfl)
set_option maxHeartbeats 2000000 in
theorem r7Transpose_pc (b : List (List Iv)) (k c : Nat) (gb : MOk b k c) : PCt 142 [(matP b)] (matP (trM b)) := by
 have rb := gb.rows
 have n1 := gb.n1
 have n8 := gb.n8
 have k8 := gb.k8
 have l0 := gb.len_at (show 0 < k by omega)
 exact tr true Tryz.call142 Tryz.func142 (chain [.c (r7Valid_pc _ _ _ ‹_› : PCt 96 [(matP b)] _), .y 3 3 true 31 1 (matE ((List.range 0).map (qja2 b))),
  .s (Sp.upto (r7TrFB b) 0 ((b.getD 0 []).length) (by omega) (fun x hx hltx => by
    exact spt (chain [iX (0) (b.length) (by omega), tT 15 ((x : Int) < (((b.getD 0 []).length : Nat) : Int)) (by omega), .y 5 5 true 28 7 (ivsE ((List.range 0).map (qja7 b x))),
     .s (Sp.upto (r7TrFC b x) 0 b.length (by omega) (fun y hy hlty => by
    have w1 := gb.val_at (show y < k by omega) (show x < c by omega)
    have lyy := gb.len_at (show y < k by omega)
    have ho1 := one_len ((b.getD y []).getD x wholeI)
    exact spt (chain [tT 21 ((y : Int) < (b.length : Int)) (by omega), iX ((y : Int)) (b.length) (by omega), iX ((x : Int)) ((b.getD y []).length) (by omega),
     .o 32 (.e (ivs1_le _) : PV.le (.e (.sl true 1 7 fun i_ j_ => (ivL ((b.getD y []).getD x wholeI)).getD (i_ * 7 + j_) (.v (.bool false)))) (.e (ivsP [((b.getD y []).getD x wholeI)]))),
     .a (by omega : (y + [((b.getD y []).getD x wholeI)].length) * 88 ≤ 140737488355328), r64 ((y : Int) + 1) (by omega)] <| .e (chain [.b 5 (ivs_pushR rfl rfl rfl : Bx.le (.row true 28 (y + [((b.getD y []).getD x wholeI)].length) 7 (fun i_ j_ => if i_ < y then (ivsE ((List.range y).map (qja7 b x))) i_ j_ else (E.elf (ivsP [((b.getD y []).getD x wholeI)])) (i_ - y) j_)) (.row true 28 (y + 1) 7 (ivsE ((List.range (y + 1)).map (qja7 b x)))))] <| .nil)) (by kernel_rfl))
  (fun hy => by
    exact spt (chain [tF 21 ((b.length : Int) < (b.length : Int)) (by omega), .z 5] <| .e (chain [.o 5 (.e (ivsRow_le (by simp)) : PV.le (.e (.sl true b.length 7 (ivsE ((List.range b.length).map (fun j_ => ((b.getD j_ []).getD x wholeI)))))) (.e (ivsP ((List.range b.length).map (fun j_ => ((b.getD j_ []).getD x wholeI))))))] <| .nil)) (by kernel_rfl)) (by nofun) : LpT 9 Tryz.f142 (r7TrFC b x 0) (.exit 2) ⟨39, true, [(5, .e (ivsP ((List.range b.length).map (qja7 b x)))), (3, .own 3), (4, .e (iP x)), (0, .e (matP b))], [(3, .row true 31 x 1 (matE ((List.range x).map (qja2 b))))]⟩) .nil,
     .a (by omega : (x + 1) * 24 ≤ 140737488355328), r64 ((x : Int) + 1) (by omega)] <| .e (chain [.b 3 (mat_pushR rfl rfl rfl (fun j hj => by cases Nat.lt_one_iff.1 hj; rfl) : Bx.le (.row true 31 (x + 1) 1 (fun i_ j_ => if i_ < x then (matE ((List.range x).map (qja2 b))) i_ j_ else (E.elf (.sl true 1 1 fun i_ j_ => [(ivsP ((List.range b.length).map (qja7 b x)))].getD (i_ * 1 + j_) (.v (.bool false)))) (i_ - x) j_)) (.row true 31 (x + 1) 1 (matE ((List.range (x + 1)).map (qja2 b)))))] <| .nil)) (by kernel_rfl))
  (fun hx => by
    exact spt (chain [iX (0) (b.length) (by omega), tF 15 ((((b.getD 0 []).length : Nat) : Int) < (((b.getD 0 []).length : Nat) : Int)) (by omega), .z 3] <| .e (chain [.o 3 (.e (matRow_le (by simp)) : PV.le (.e (.sl true ((b.getD 0 []).length) 1 (matE ((List.range ((b.getD 0 []).length)).map (fun i_ => (List.range b.length).map (fun j_ => ((b.getD j_ []).getD i_ wholeI))))))) (.e (matP ((List.range (b.getD 0 []).length).map (fun i_ => (List.range b.length).map (fun j_ => ((b.getD j_ []).getD i_ wholeI)))))))] <| .nil)) (by kernel_rfl)) (by nofun) : LpT 5 Tryz.f142 (r7TrFB b 0) (.exit 0) ⟨39, true, [(3, .e (matP ((List.range (b.getD 0 []).length).map (qja2 b))))], []⟩) .nil] <| .nil) (by kernel_rfl)
theorem trM_row {b : List (List Iv)} {k c : Nat} (gb : MOk b k c) {y : Nat} (hy : y < c) : ((trM b).getD y []).length = k ∧ ∀ q, ((trM b).getD y []).getD q wholeI = (b.getD q []).getD y wholeI := by
 have l0 := gb.len_at (show 0 < k by have := gb.n1; omega)
 have rb := gb.rows
 unfold trM
 rw [rows_getD (by omega)]
 refine ⟨by simp [rb], fun q => ?_⟩
 by_cases hq : q < b.length
 ·rw [range_getD hq]
 ·rw [List.getD_eq_getElem?_getD (l := List.map _ _), List.getElem?_eq_none (by simp; omega), List.getD_eq_getElem?_getD (l := b), List.getElem?_eq_none (by omega)]; simp
theorem trM_len {b : List (List Iv)} {k c : Nat} (gb : MOk b k c) : (trM b).length = c := by
 have l0 := gb.len_at (show 0 < k by have := gb.n1; omega)
 unfold trM; rw [List.length_map, List.length_range]; exact l0
theorem trM_mulM {a b : List (List Iv)} {n k c p : Nat} (ga : MOk a n k) (gb : MOk b k c) : ((List.range a.length).map (fun i_ => (List.range (trM b).length).map (fun j_ => (dotP (fun q => (a.getD i_ []).getD q wholeI) (fun q => ((trM b).getD j_ []).getD q wholeI) p ((a.getD i_ []).length - 1))))) = mulM a b p := by
 obtain ⟨k', rfl⟩ : ∃ k', k = k' + 1 := ⟨k - 1, by have := ga.k1; omega⟩
 have l0 := gb.len_at (show 0 < k' + 1 by omega)
 rw [← wholeM_mulM (n := n) (k := k') (c := c) ga.rows (fun i hi => ga.len_at hi) gb.rows l0, trM_len gb, ga.rows]
 unfold wholeM
 apply List.map_congr_left
 intro i hi
 have hi := List.mem_range.1 hi
 apply List.map_congr_left
 intro j hj
 have hj := List.mem_range.1 hj
 rw [ga.len_at hi, Nat.add_sub_cancel]
 congr 1
 funext q
 exact (trM_row gb hj).2 q
set_option maxHeartbeats 2000000 in
theorem r7Mul_pc (a b : List (List Iv)) (n k c p : Nat) (ga : MOk a n k) (gb : MOk b k c) (hp1 : 8 ≤ p) (hp2 : p ≤ 512) : PCt 60 [(matP a), (matP b), (iP p)] (.tup [matP (mulM a b p), iP 0]) := by
 have ra := ga.rows
 have rb := gb.rows
 have n1 := ga.n1
 have n8 := ga.n8
 have k1 := ga.k1
 have k8 := ga.k8
 have c8 := gb.k8
 have l0 := ga.len_at (show 0 < n by omega)
 have tl := trM_len gb
 exact tr true Tryz.call60 Tryz.func60 (chain [.c (r7Fault_pc _ _ _ _ _ _ _ ‹_› ‹_› (by omega) (by omega) : PCt 141 [(matP a), (matP b), (iP p)] _), tB 19 (by decide : ((0 : Int) != 0) = false), iX (0) (a.length) (by omega),
  tB 27 (natNe_false (by omega) : ((((a.getD 0 []).length : Nat) : Int) != (b.length : Int)) = false), .c (r7Transpose_pc _ _ _ gb : PCt 142 [(matP b)] _),
  .y 10 10 true 31 1 (matE ((List.range 0).map (fun i_ => (List.range (trM b).length).map (fun j_ => (dotP (qja6 a i_) (fun q => ((trM b).getD j_ []).getD q wholeI) p ((a.getD i_ []).length - 1)))))),
  .s (Sp.upto (r7MulFB a b p) 0 a.length (by omega) (fun x hx hltx => by
    have lx := ga.len_at (show x < n by omega)
    exact spt (chain [tT 33 ((x : Int) < (a.length : Int)) (by omega),
     .y 12 12 true 28 7 (ivsE ((List.range 0).map (fun j_ => (dotP (qja4 a x) (fun q => ((trM b).getD j_ []).getD q wholeI) p ((a.getD x []).length - 1))))),
     .s (Sp.upto (r7MulFC a b p x) 0 ((trM b).length) (by omega) (fun y hy hlty => by
    obtain ⟨t1, t2⟩ := trM_row gb (show y < c by omega)
    have hdl : ((trM b).getD y []).length = (a.getD x []).length := by omega
    have hdx : ∀ i, i < (a.getD x []).length → ((a.getD x []).getD i wholeI).Valid := fun i hi => ga.val_at (show x < n by omega) (by omega)
    have hdy : ∀ i, i < (a.getD x []).length → (((trM b).getD y []).getD i wholeI).Valid := fun i hi => by rw [t2 i]; exact gb.val_at (show i < k by omega) (by omega)
    have ho1 := one_len (dotP (fun q => (a.getD x []).getD q wholeI) (fun q => ((trM b).getD y []).getD q wholeI) p ((a.getD x []).length - 1))
    exact spt (chain [tT 39 ((y : Int) < (((trM b).length : Nat) : Int)) (by omega), iX ((x : Int)) (a.length) (by omega), iX ((y : Int)) ((trM b).length) (by omega),
     .c (r7Dot_pc _ _ _ (by omega) (by omega) hdl hdx hdy (by omega) (by omega) : PCt 143 [(ivsP (a.getD x [])), (ivsP ((trM b).getD y [])), (iP p)] _),
     .o 53 (.e (ivs1_le _) : PV.le (.e (.sl true 1 7 fun i_ j_ => (ivL (dotP (qja4 a x) (fun q => ((trM b).getD y []).getD q wholeI) p ((a.getD x []).length - 1))).getD (i_ * 7 + j_) (.v (.bool false)))) (.e (ivsP [(dotP (qja4 a x) (fun q => ((trM b).getD y []).getD q wholeI) p ((a.getD x []).length - 1))]))),
     .a (by omega : (y + [(dotP (fun q => (a.getD x []).getD q wholeI) (fun q => ((trM b).getD y []).getD q wholeI) p ((a.getD x []).length - 1))].length) * 88 ≤ 140737488355328), r64 ((y : Int) + 1) (by omega)] <| .e (chain [.b 12 (ivs_pushR rfl rfl rfl : Bx.le (.row true 28 (y + [(dotP (qja4 a x) (fun q => ((trM b).getD y []).getD q wholeI) p ((a.getD x []).length - 1))].length) 7 (fun i_ j_ => if i_ < y then (ivsE ((List.range y).map (fun j_ => (dotP (qja4 a x) (fun q => ((trM b).getD j_ []).getD q wholeI) p ((a.getD x []).length - 1))))) i_ j_ else (E.elf (ivsP [(dotP (qja4 a x) (fun q => ((trM b).getD y []).getD q wholeI) p ((a.getD x []).length - 1))])) (i_ - y) j_)) (.row true 28 (y + 1) 7 (ivsE ((List.range (y + 1)).map (fun j_ => (dotP (qja4 a x) (fun q => ((trM b).getD j_ []).getD q wholeI) p ((a.getD x []).length - 1)))))))] <| .nil)) (by kernel_rfl))
  (fun hy => by
    exact spt (chain [tF 39 ((((trM b).length : Nat) : Int) < (((trM b).length : Nat) : Int)) (by omega), .z 12] <| .e (chain [.o 12 (.e (ivsRow_le (by simp)) : PV.le (.e (.sl true ((trM b).length) 7 (ivsE ((List.range ((trM b).length)).map (fun j_ => (dotP (fun q => (a.getD x []).getD q wholeI) (fun q => ((trM b).getD j_ []).getD q wholeI) p ((a.getD x []).length - 1))))))) (.e (ivsP ((List.range (trM b).length).map (fun j_ => (dotP (fun q => (a.getD x []).getD q wholeI) (fun q => ((trM b).getD j_ []).getD q wholeI) p ((a.getD x []).length - 1)))))))] <| .nil)) (by kernel_rfl)) (by nofun) : LpT 13 Tryz.f60 (r7MulFC a b p x 0) (.exit 2) ⟨60, true, [(12, .e (ivsP ((List.range (trM b).length).map (fun j_ => (dotP (qja4 a x) (fun q => ((trM b).getD j_ []).getD q wholeI) p ((a.getD x []).length - 1)))))), (10, .own 10), (11, .e (iP x)), (9, .e (matP (trM b))), (0, .e (matP a)), (2, .e (iP p))], [(10, .row true 31 x 1 (matE ((List.range x).map (fun i_ => (List.range (trM b).length).map (fun j_ => (dotP (qja6 a i_) (fun q => ((trM b).getD j_ []).getD q wholeI) p ((a.getD i_ []).length - 1)))))))]⟩) .nil,
     .a (by omega : (x + 1) * 24 ≤ 140737488355328), r64 ((x : Int) + 1) (by omega)] <| .e (chain [.b 10 (mat_pushR rfl rfl rfl (fun j hj => by cases Nat.lt_one_iff.1 hj; rfl) : Bx.le (.row true 31 (x + 1) 1 (fun i_ j_ => if i_ < x then (matE ((List.range x).map (fun i_ => (List.range (trM b).length).map (fun j_ => (dotP (qja6 a i_) (fun q => ((trM b).getD j_ []).getD q wholeI) p ((a.getD i_ []).length - 1)))))) i_ j_ else (E.elf (.sl true 1 1 fun i_ j_ => [(ivsP ((List.range (trM b).length).map (fun j_ => (dotP (qja4 a x) (fun q => ((trM b).getD j_ []).getD q wholeI) p ((a.getD x []).length - 1)))))].getD (i_ * 1 + j_) (.v (.bool false)))) (i_ - x) j_)) (.row true 31 (x + 1) 1 (matE ((List.range (x + 1)).map (fun i_ => (List.range (trM b).length).map (fun j_ => (dotP (qja6 a i_) (fun q => ((trM b).getD j_ []).getD q wholeI) p ((a.getD i_ []).length - 1))))))))] <| .nil)) (by kernel_rfl))
  (fun hx => by
    exact spt (chain [tF 33 ((a.length : Int) < (a.length : Int)) (by omega), .z 10] <| .e (chain [.o 10 (.e (matRow_le (by simp)) : PV.le (.e (.sl true a.length 1 (matE ((List.range a.length).map (fun i_ => (List.range (trM b).length).map (fun j_ => (dotP (fun q => (a.getD i_ []).getD q wholeI) (fun q => ((trM b).getD j_ []).getD q wholeI) p ((a.getD i_ []).length - 1)))))))) (.e (matP ((List.range a.length).map (fun i_ => (List.range (trM b).length).map (fun j_ => (dotP (fun q => (a.getD i_ []).getD q wholeI) (fun q => ((trM b).getD j_ []).getD q wholeI) p ((a.getD i_ []).length - 1))))))))] <| .nil)) (by kernel_rfl)) (by nofun) : LpT 9 Tryz.f60 (r7MulFB a b p 0) (.exit 0) ⟨60, true, [(10, .e (matP ((List.range a.length).map (fun i_ => (List.range (trM b).length).map (fun j_ => (dotP (qja6 a i_) (fun q => ((trM b).getD j_ []).getD q wholeI) p ((a.getD i_ []).length - 1)))))))], []⟩) .nil] <| rQ (.tup [(matP ((List.range a.length).map (fun i_ => (List.range (trM b).length).map (fun j_ => (dotP (fun q => (a.getD i_ []).getD q wholeI) (fun q => ((trM b).getD j_ []).getD q wholeI) p ((a.getD i_ []).length - 1)))))), (iP 0)]) (.tup [matP (mulM a b p), iP 0]) (by rw [← trM_mulM ga gb]; try rfl)) (by kernel_rfl)
open Go.RowKit Fp Pu
def Fp.oneD : Dy := ⟨false, 1, 0⟩
theorem oneD_valid : oneD.Valid := by have := intD_valid 1 (by decide); rw [intD_nat] at this; exact this
def idFam (n : Nat) (x : Nat) : PS := ⟨42, true, [(17, .e (iP x)), (16, .e (iP n)), (3, .own 14), (0, .e (iP n))], [(14, .rows true 31 28 n 7 (lnE (buildM n (fun _ => n) (fun i j => pointI (if i = j then ⟨false, 1, 0⟩ else zeroD)) x 0)) (rowsE (buildM n (fun _ => n) (fun i j => pointI (if i = j then ⟨false, 1, 0⟩ else zeroD)) x 0)) .none)]⟩
def idFamIn (n x : Nat) (k : Nat) : PS := ⟨42, true, [(21, .e (iP k)), (20, .e (iP n)), (4, .e (iP x)), (17, .e (iP x)), (16, .e (iP n)), (3, .own 14), (0, .e (iP n))], [(14, .rows true 31 28 n 7 (lnE (buildM n (fun _ => n) (fun i j => pointI (if i = j then ⟨false, 1, 0⟩ else zeroD)) x k)) (rowsE (buildM n (fun _ => n) (fun i j => pointI (if i = j then ⟨false, 1, 0⟩ else zeroD)) x k)) .none)]⟩
theorem dyInt_pc (n : Nat) (h : n < 4294967296) : PCt 112 [(iP n)] (dyP (intD (n : Int))) := by
 have ok2 : Ok32 [n % 4294967296, n / 4294967296 % 4294967296] := Ok32.cons (Nat.mod_lt _ (by decide)) (Ok32.cons (Nat.mod_lt _ (by decide)) Ok32.nil)
 exact tr true Tryz.call112 Tryz.func112 (chain [.o 5 (.int (u64_nat _ (by omega)) : PV.le (.e (.v (.int .u64 (IntKind.u64.wrap (n : Int))))) (.e (.v (.int .u64 (n : Int))))), tF 7 ((n : Int) < 0) (by omega), tF 11 ((n : Int) < 0) (by omega),
  .o 13 (.int (u32_nat _) : PV.le (.e (.v (.int .u32 (IntKind.u32.wrap (n : Int))))) (.e (.v (.int .u32 (((n % 4294967296) : Nat) : Int))))), .a (by omega : 0 ≤ (32 : Int) ∧ (32 : Int) ≤ ((64 : Nat) : Int)),
  .o 15 (.int (shr32_nat _) : PV.le (.e (.v (.int .u64 ((n : Int) / 2 ^ 32)))) (.e (.v (.int .u64 (((n / 4294967296) : Nat) : Int))))),
  .o 16 (.int (u32_nat _) : PV.le (.e (.v (.int .u32 (IntKind.u32.wrap (((n / 4294967296) : Nat) : Int))))) (.e (.v (.int .u32 ((((n / 4294967296) % 4294967296) : Nat) : Int))))),
  .o 17 (.e (two_le _ _) : PV.le (.e (.sl false 2 1 fun i_ j_ => [(.v (.int .u32 (((n % 4294967296) : Nat) : Int))), (.v (.int .u32 ((((n / 4294967296) % 4294967296) : Nat) : Int)))].getD (i_ * 1 + j_) (.v (.bool false)))) (.e (slP [(n % 4294967296), ((n / 4294967296) % 4294967296)]))),
  .c (dyCanonL_pc _ _ _ ok2 (by simp) (by decide) (by decide) : PCt 174 [(bP false), (slP [(n % 4294967296), ((n / 4294967296) % 4294967296)]), (iP 0)] _)] <| rQ (dyP (canon false (val [(n % 4294967296), ((n / 4294967296) % 4294967296)]) 0)) (dyP (intD (n : Int))) (by rw [val_two, show n % 4294967296 + 4294967296 * (n / 4294967296 % 4294967296) = n by omega, intD_nat])) (by kernel_rfl)
theorem num_pc (n : Nat) (h : n < 4294967296) : PCt 46 [(iP n)] (ivP (numI (n : Int))) := by
 have v := intD_valid n h
 exact tr true Tryz.call46 Tryz.func46 (chain [.c (dyInt_pc _ (by omega) : PCt 112 [(iP n)] _), .c (ivPoint_pc (intD (n : Int)) ‹_›)] <| .nil) (by kernel_rfl)
theorem matId_pc (n : Nat) (h1 : 1 ≤ n) (h8 : n ≤ 8) : PCt 36 [(iP n)] (matP (identM n)) := by
 have v1 := oneD_valid
 have v0 := zeroD_valid
 have int1 : PCt 112 [iP 1] (dyP oneD) := dyInt_pc 1 (by decide)
 have int0 : PCt 112 [iP 0] (dyP zeroD) := dyInt_pc 0 (by decide)
 have ew : wholeM n (fun _ => n) (fun i j => pointI (if i = j then ⟨false, 1, 0⟩ else zeroD)) = identM n := rfl
 exact tr true Tryz.call36 Tryz.func36 (chain [tF 8 ((n : Int) < 1) (by omega), tF 11 (8 < (n : Int)) (by omega), .a (by omega : 0 ≤ ((n : Int) : Int) ∧ ((n : Int) : Int) ≤ ((n : Int) : Int)),
  .a (by omega : ((24 : Nat) : Int) * (n : Int) ≤ 281474976710656 ∧ ((n : Int) : Int) ≤ 9223372036854775807),
  .s (Sp.upto (idFam n) 0 n (by omega) (fun x hx hltx => by
    exact spt (chain [tT 18 ((x : Int) < (n : Int)) (by omega),
     .s (Sp.upto (idFamIn n x) 0 n (by omega) (fun k hk hltk => by
    have hle : lnE (buildM n (fun _ => n) (fun i j => pointI (if i = j then ⟨false, 1, 0⟩ else zeroD)) x k) x = k := lnE_at (by omega)
    by_cases c1 : x = k
    ·have h1 := one_len (pointI oneD)
     exact spt (chain [tT 22 ((k : Int) < (n : Int)) (by omega), tB 26 (natEq_true c1 : ((x : Int) == (k : Int)) = true), iX ((x : Int)) (n) (by omega), .a (by omega : x < n), .c (int1 : PCt 112 [(iP 1)] _),
      .c (ivPoint_pc oneD ‹_›), .o 36 (.e (ivs1_le _) : PV.le (.e (.sl true 1 7 fun i_ j_ => (ivL (pointI oneD)).getD (i_ * 7 + j_) (.v (.bool false)))) (.e (ivsP [(pointI oneD)]))), .a (by omega : x < n),
      .a (by omega : ((lnE (buildM n (fun _ => n) (fun i j => pointI (if i = j then ⟨false, 1, 0⟩ else zeroD)) x k)) x + [(pointI oneD)].length) * 88 ≤ 140737488355328), iX ((x : Int)) (n) (by omega), .a (rfl : x = x), .a (rfl : x = x),
      .a (by omega : x < n), r64 ((k : Int) + 1) (by omega)] <| .e (chain [.b 14 (rows_push rfl (by omega) (by omega) (by rw [if_pos c1]; rfl) : Bx.le (.rows true 31 28 n 7 (fun q => if q = x then (lnE (buildM n (fun _ => n) (fun i j => pointI (if i = j then ⟨false, 1, 0⟩ else zeroD)) x k)) q + [(pointI oneD)].length else (lnE (buildM n (fun _ => n) (fun i j => pointI (if i = j then ⟨false, 1, 0⟩ else zeroD)) x k)) q) (fun q i j => if q = x then (if i < (lnE (buildM n (fun _ => n) (fun i j => pointI (if i = j then ⟨false, 1, 0⟩ else zeroD)) x k)) q then (rowsE (buildM n (fun _ => n) (fun i j => pointI (if i = j then ⟨false, 1, 0⟩ else zeroD)) x k)) q i j else (E.elf (ivsP [(pointI oneD)])) (i - (lnE (buildM n (fun _ => n) (fun i j => pointI (if i = j then ⟨false, 1, 0⟩ else zeroD)) x k)) q) j) else (rowsE (buildM n (fun _ => n) (fun i j => pointI (if i = j then ⟨false, 1, 0⟩ else zeroD)) x k)) q i j) .none) (.rows true 31 28 n 7 (lnE (buildM n (fun _ => n) (fun i j => pointI (if i = j then ⟨false, 1, 0⟩ else zeroD)) x (k + 1))) (rowsE (buildM n (fun _ => n) (fun i j => pointI (if i = j then ⟨false, 1, 0⟩ else zeroD)) x (k + 1))) .none))] <| .nil)) (by kernel_rfl)
    ·have h1 := one_len (pointI zeroD)
     exact spt (chain [tT 22 ((k : Int) < (n : Int)) (by omega), tB 26 (natEq_false c1 : ((x : Int) == (k : Int)) = false), iX ((x : Int)) (n) (by omega), .a (by omega : x < n), .c (int0 : PCt 112 [(iP 0)] _),
      .c (ivPoint_pc zeroD ‹_›), .o 36 (.e (ivs1_le _) : PV.le (.e (.sl true 1 7 fun i_ j_ => (ivL (pointI zeroD)).getD (i_ * 7 + j_) (.v (.bool false)))) (.e (ivsP [(pointI zeroD)]))), .a (by omega : x < n),
      .a (by omega : ((lnE (buildM n (fun _ => n) (fun i j => pointI (if i = j then ⟨false, 1, 0⟩ else zeroD)) x k)) x + [(pointI zeroD)].length) * 88 ≤ 140737488355328), iX ((x : Int)) (n) (by omega), .a (rfl : x = x), .a (rfl : x = x),
      .a (by omega : x < n), r64 ((k : Int) + 1) (by omega)] <| .e (chain [.b 14 (rows_push rfl (by omega) (by omega) (by rw [if_neg c1]) : Bx.le (.rows true 31 28 n 7 (fun q => if q = x then (lnE (buildM n (fun _ => n) (fun i j => pointI (if i = j then ⟨false, 1, 0⟩ else zeroD)) x k)) q + [(pointI zeroD)].length else (lnE (buildM n (fun _ => n) (fun i j => pointI (if i = j then ⟨false, 1, 0⟩ else zeroD)) x k)) q) (fun q i j => if q = x then (if i < (lnE (buildM n (fun _ => n) (fun i j => pointI (if i = j then ⟨false, 1, 0⟩ else zeroD)) x k)) q then (rowsE (buildM n (fun _ => n) (fun i j => pointI (if i = j then ⟨false, 1, 0⟩ else zeroD)) x k)) q i j else (E.elf (ivsP [(pointI zeroD)])) (i - (lnE (buildM n (fun _ => n) (fun i j => pointI (if i = j then ⟨false, 1, 0⟩ else zeroD)) x k)) q) j) else (rowsE (buildM n (fun _ => n) (fun i j => pointI (if i = j then ⟨false, 1, 0⟩ else zeroD)) x k)) q i j) .none) (.rows true 31 28 n 7 (lnE (buildM n (fun _ => n) (fun i j => pointI (if i = j then ⟨false, 1, 0⟩ else zeroD)) x (k + 1))) (rowsE (buildM n (fun _ => n) (fun i j => pointI (if i = j then ⟨false, 1, 0⟩ else zeroD)) x (k + 1))) .none))] <| .nil)) (by kernel_rfl))
  (fun hk => by
    exact spt (chain [tF 22 ((n : Int) < (n : Int)) (by omega)] <| .nil) (by kernel_rfl)) (by nofun) : LpT 8 Tryz.f36 (idFamIn n x 0) (.exit 2) ⟨42, true, [(17, .e (iP x)), (16, .e (iP n)), (3, .own 14), (0, .e (iP n))], [(14, .rows true 31 28 n 7 (lnE (buildM n (fun _ => n) (fun i j => pointI (if i = j then ⟨false, 1, 0⟩ else zeroD)) x n)) (rowsE (buildM n (fun _ => n) (fun i j => pointI (if i = j then ⟨false, 1, 0⟩ else zeroD)) x n)) .none)]⟩) .nil,
     r64 ((x : Int) + 1) (by omega)] <| .e (chain [.b 14 (rows_next rfl : Bx.le (.rows true 31 28 n 7 (lnE (buildM n (fun _ => n) (fun i j => pointI (if i = j then ⟨false, 1, 0⟩ else zeroD)) x n)) (rowsE (buildM n (fun _ => n) (fun i j => pointI (if i = j then ⟨false, 1, 0⟩ else zeroD)) x n)) .none) (.rows true 31 28 n 7 (lnE (buildM n (fun _ => n) (fun i j => pointI (if i = j then ⟨false, 1, 0⟩ else zeroD)) (x + 1) 0)) (rowsE (buildM n (fun _ => n) (fun i j => pointI (if i = j then ⟨false, 1, 0⟩ else zeroD)) (x + 1) 0)) .none))] <| .nil)) (by kernel_rfl))
  (fun hx => by
    exact spt (chain [tF 18 ((n : Int) < (n : Int)) (by omega)] <| .nil) (by kernel_rfl)) (by nofun) : LpT 5 Tryz.f36 (idFam n 0) (.exit 0) ⟨42, true, [(3, .own 14)], [(14, .rows true 31 28 n 7 (lnE (buildM n (fun _ => n) (fun i j => pointI (if i = j then ⟨false, 1, 0⟩ else zeroD)) n 0)) (rowsE (buildM n (fun _ => n) (fun i j => pointI (if i = j then ⟨false, 1, 0⟩ else zeroD)) n 0)) .none)]⟩) (chain [.b 14 (rows_init rfl : Bx.le (.rows true 31 28 n 7 (fun _ => 0) (fun _ _ _ => .any) .none) (.rows true 31 28 n 7 (lnE (buildM n (fun _ => n) (fun i j => pointI (if i = j then ⟨false, 1, 0⟩ else zeroD)) 0 0)) (rowsE (buildM n (fun _ => n) (fun i j => pointI (if i = j then ⟨false, 1, 0⟩ else zeroD)) 0 0)) .none))] <| .nil)] <| rR (matP (identM n)) (by
      rw [← ew, ← buildM_done]; exact matRows_le (buildM_len _ _ _ _ _).symm : E.le (.sl true n 1 fun k_ _ => .sl true ((lnE (buildM n (fun _ => n) (fun i j => pointI (if i = j then ⟨false, 1, 0⟩ else zeroD)) n 0)) k_) 7 ((rowsE (buildM n (fun _ => n) (fun i j => pointI (if i = j then ⟨false, 1, 0⟩ else zeroD)) n 0)) k_)) (matP (identM n)))) (by kernel_rfl)
open Go.RowKit Fp Pu
abbrev vfa0 (m : List (List Iv)) (x) (p) := nsum (m.getD x []) p ((m.getD x []).length)
abbrev vfa3 (m : List (List Iv)) (x) (k) := magI ((m.getD x []).getD k wholeI)
abbrev vfa1 (m : List (List Iv)) (x) (p) (k) := dyL (rndD (sumD (nsum (m.getD x []) p k) (vfa3 m x k)) p true)
abbrev vfa2 : E := .agg [(bP false), (.v (.slice none 0 0)), (iP 0)]
def normFam (m : List (List Iv)) (p : Nat) (x : Nat) : PS := ⟨64, true, [(27, .e (iP x)), (26, .e (iP m.length)), (25, .e (matP m)), (6, .box 6 0), (4, .box 4 0), (1, .e (iP p))], [(6, .cells 26 (dyL (nmost m p x))), (4, .cells 26 [(bP false), (.v (.slice none 0 0)), (iP 0)])]⟩
def normFamIn (m : List (List Iv)) (p x : Nat) (k : Nat) : PS := ⟨64, true, [(33, .e (iP k)), (32, .e (iP (((m.getD x []).length : Nat) : Int))), (31, .e (ivsP (m.getD x []))), (9, .box 9 0), (27, .e (iP x)), (26, .e (iP m.length)), (25, .e (matP m)), (6, .box 6 0), (4, .box 4 0), (1, .e (iP p))], [(9, .cells 26 (dyL (nsum (m.getD x []) p k))), (6, .cells 26 (dyL (nmost m p x))), (4, .cells 26 [(bP false), (.v (.slice none 0 0)), (iP 0)])]⟩
def normFA (m : List (List Iv)) (p N : Nat) (x : Nat) : PS := ⟨64, true, [(27, .e (iP x)), (26, .e (iP m.length)), (25, .e (matP m)), (6, .box 6 0), (4, .box 4 0), (1, .e (iP p))], [(6, .cells 26 (dyL (nmost m p x))), (4, .cells 26 [(bP false), (.v (.slice none 0 0)), (iP 0)])]⟩
def normFAIn (m : List (List Iv)) (p N K : Nat) (k : Nat) : PS := ⟨64, true, [(33, .e (iP k)), (32, .e (iP (((m.getD N []).length : Nat) : Int))), (31, .e (ivsP (m.getD N []))), (9, .box 9 0), (27, .e (iP N)), (26, .e (iP m.length)), (25, .e (matP m)), (6, .box 6 0), (4, .box 4 0), (1, .e (iP p))], [(9, .cells 26 (dyL (nsum (m.getD N []) p k))), (6, .cells 26 (dyL (nmost m p N))), (4, .cells 26 [(bP false), (.v (.slice none 0 0)), (iP 0)])]⟩
def normFB (m : List (List Iv)) (p N : Nat) (x : Nat) : PS := ⟨64, true, [(27, .e (iP x)), (26, .e (iP m.length)), (25, .e (matP m)), (6, .box 6 0), (4, .box 4 0), (1, .e (iP p))], [(6, .cells 26 (dyL (nmost m p x))), (4, .cells 26 [(bP false), (.v (.slice none 0 0)), (iP 0)])]⟩
def normFBIn (m : List (List Iv)) (p N K : Nat) (k : Nat) : PS := ⟨64, true, [(33, .e (iP k)), (32, .e (iP (((m.getD N []).length : Nat) : Int))), (31, .e (ivsP (m.getD N []))), (9, .box 9 0), (27, .e (iP N)), (26, .e (iP m.length)), (25, .e (matP m)), (6, .box 6 0), (4, .box 4 0), (1, .e (iP p))], [(9, .cells 26 (dyL (nsum (m.getD N []) p k))), (6, .cells 26 (dyL (nmost m p N))), (4, .cells 26 [(bP false), (.v (.slice none 0 0)), (iP 0)])]⟩
theorem ivMag_all (x : Iv) (hx : x.Valid) (hxa : x.all = true) : PCt 182 [(ivP x)] (.tup [dyP zeroD, bP false]) := by
 exact tr true Tryz.call182 Tryz.func182 (chain [.o 5 (.e (ivs1_le _) : PV.le (.e (.sl true 1 7 fun i_ j_ => (ivL x).getD (i_ * 7 + j_) (.v (.bool false)))) (.e (ivsP [x]))), .c (ivKnown1_pc _ ‹_› : PCt 90 [(ivsP [x])] _), tB 6 (by rw [hxa]; rfl : (!x.all) = false),
  .o 8 (.e zeroP_le : PV.le (.e vfa2) (.e (dyP zeroD)))] <| .nil) (by kernel_rfl)
theorem norm_some (m : List (List Iv)) (n c p : Nat) (ga : MOk m n c) (hp1 : 8 ≤ p) (hp2 : p ≤ 512) (hg : ∀ x, x < m.length → ∀ k, k < (m.getD x []).length → NGood (m.getD x []) p k) : PCt 117 [(matP m), (iP p)] (.tup [dyP (nmost m p m.length), bP true]) := by
 have ra := ga.rows
 have n8 := ga.n8
 have c8 := ga.k8
 exact tr true Tryz.call117 Tryz.func117 (chain [.c (matValid_pc _ _ _ ‹_› : PCt 103 [(matP m)] _), .c (mxPrecise_pc _ : PCt 121 [(iP p)] _), tB 21 (precB_true.2 ⟨by omega, by omega⟩ : (precB (p : Int)) = true),
  .s (Sp.upto (normFam m p) 0 m.length (by omega) (fun x hx hltx => by
    have lx := ga.len_at (show x < n by omega)
    have u1 := nsum_valid (m.getD x []) (show 1 ≤ p by omega) (by omega) (m.getD x []).length
    have u2 := nmost_valid m (show 1 ≤ p by omega) (by omega) x
    by_cases c1 : 0 < cmpD (nsum (m.getD x []) p ((m.getD x []).length)) (nmost m p x)
    ·exact spt (chain [tT 28 ((x : Int) < (m.length : Int)) (by omega), iX ((x : Int)) (m.length) (by omega),
      .s (Sp.upto (normFamIn m p x) 0 ((m.getD x []).length) (by omega) (fun k hk hltk => by
    have gg := (hg x (by omega)) k (by omega)
    have v1 := nsum_valid (m.getD x []) (show 1 ≤ p by omega) (by omega) k
    have v2 := ga.val_at (show x < n by omega) (show k < c by omega)
    have gga := gg.all
    have v3 := magI_valid v2.ends.1 v2.ends.2
    exact spt (chain [tT 34 ((k : Int) < (((m.getD x []).length : Nat) : Int)) (by omega), iX ((k : Int)) ((m.getD x []).length) (by omega), .c (ivMag_pc ((m.getD x []).getD k wholeI) ‹_› gga),
     .c (rdAddUp_pc (nsum (m.getD x []) p k) (vfa3 m x k) p ‹_› ‹_› (by omega) (by omega)),
     tB 53 (by rw [gg.err]; rfl : ((rndE (sumD (nsum (m.getD x []) p k) (magI ((m.getD x []).getD k wholeI))) p true) != 0) = false), r64 ((k : Int) + 1) (by omega)] <| .e (chain [.b 9 (.of_eq rfl : Bx.le (.cells 26 (vfa1 m x p k)) (.cells 26 (dyL (nsum (m.getD x []) p (k + 1)))))] <| .nil)) (by kernel_rfl))
  (fun hk => by
    exact spt (chain [tF 34 ((((m.getD x []).length : Nat) : Int) < (((m.getD x []).length : Nat) : Int)) (by omega)] <| .nil) (by kernel_rfl)) (by nofun) : LpT 9 Tryz.f117 (normFamIn m p x 0) (.exit 2) ⟨64, true, [(9, .box 9 0), (27, .e (iP x)), (26, .e (iP m.length)), (25, .e (matP m)), (6, .box 6 0), (4, .box 4 0), (1, .e (iP p))], [(9, .cells 26 (dyL (vfa0 m x p))), (6, .cells 26 (dyL (nmost m p x))), (4, .cells 26 [(bP false), (.v (.slice none 0 0)), (iP 0)])]⟩) (chain [.b 9 (.cells (fun _ => rfl) zero_cells : Bx.le (.cells 26 [(bP false), (.v (.slice none 0 0)), (iP 0)]) (.cells 26 (dyL (nsum (m.getD x []) p 0))))] <| .nil),
      .c (dyCmp_pc _ _ ‹_› ‹_› : PCt 82 [(dyP (vfa0 m x p)), (dyP (nmost m p x))] _), tB 60 (decide_eq_true c1), r64 ((x : Int) + 1) (by omega)] <| .e (chain [.b 6 (.of_eq (by rw [show nmost m p (x + 1) = (vfa0 m x p) from if_pos c1]) : Bx.le (.cells 26 (dyL (vfa0 m x p))) (.cells 26 (dyL (nmost m p (x + 1)))))] <| .nil)) (by kernel_rfl)
    ·exact spt (chain [tT 28 ((x : Int) < (m.length : Int)) (by omega), iX ((x : Int)) (m.length) (by omega),
      .s (Sp.upto (normFamIn m p x) 0 ((m.getD x []).length) (by omega) (fun k hk hltk => by
    have gg := (hg x (by omega)) k (by omega)
    have v1 := nsum_valid (m.getD x []) (show 1 ≤ p by omega) (by omega) k
    have v2 := ga.val_at (show x < n by omega) (show k < c by omega)
    have gga := gg.all
    have v3 := magI_valid v2.ends.1 v2.ends.2
    exact spt (chain [tT 34 ((k : Int) < (((m.getD x []).length : Nat) : Int)) (by omega), iX ((k : Int)) ((m.getD x []).length) (by omega), .c (ivMag_pc ((m.getD x []).getD k wholeI) ‹_› gga),
     .c (rdAddUp_pc (nsum (m.getD x []) p k) (vfa3 m x k) p ‹_› ‹_› (by omega) (by omega)),
     tB 53 (by rw [gg.err]; rfl : ((rndE (sumD (nsum (m.getD x []) p k) (magI ((m.getD x []).getD k wholeI))) p true) != 0) = false), r64 ((k : Int) + 1) (by omega)] <| .e (chain [.b 9 (.of_eq rfl : Bx.le (.cells 26 (vfa1 m x p k)) (.cells 26 (dyL (nsum (m.getD x []) p (k + 1)))))] <| .nil)) (by kernel_rfl))
  (fun hk => by
    exact spt (chain [tF 34 ((((m.getD x []).length : Nat) : Int) < (((m.getD x []).length : Nat) : Int)) (by omega)] <| .nil) (by kernel_rfl)) (by nofun) : LpT 9 Tryz.f117 (normFamIn m p x 0) (.exit 2) ⟨64, true, [(9, .box 9 0), (27, .e (iP x)), (26, .e (iP m.length)), (25, .e (matP m)), (6, .box 6 0), (4, .box 4 0), (1, .e (iP p))], [(9, .cells 26 (dyL (vfa0 m x p))), (6, .cells 26 (dyL (nmost m p x))), (4, .cells 26 [(bP false), (.v (.slice none 0 0)), (iP 0)])]⟩) (chain [.b 9 (.cells (fun _ => rfl) zero_cells : Bx.le (.cells 26 [(bP false), (.v (.slice none 0 0)), (iP 0)]) (.cells 26 (dyL (nsum (m.getD x []) p 0))))] <| .nil),
      .c (dyCmp_pc _ _ ‹_› ‹_› : PCt 82 [(dyP (vfa0 m x p)), (dyP (nmost m p x))] _), tB 60 (decide_eq_false c1), r64 ((x : Int) + 1) (by omega)] <| .e (chain [.b 6 (.of_eq (by rw [show nmost m p (x + 1) = (nmost m p x) from if_neg c1]) : Bx.le (.cells 26 (dyL (nmost m p x))) (.cells 26 (dyL (nmost m p (x + 1)))))] <| .nil)) (by kernel_rfl))
  (fun hx => by
    exact spt (chain [tF 28 ((m.length : Int) < (m.length : Int)) (by omega)] <| .nil) (by kernel_rfl)) (by nofun) : LpT 5 Tryz.f117 (normFam m p 0) (.exit 0) ⟨64, true, [(6, .box 6 0), (4, .box 4 0)], [(6, .cells 26 (dyL (nmost m p m.length))), (4, .cells 26 [(bP false), (.v (.slice none 0 0)), (iP 0)])]⟩) (chain [.b 6 (.cells (fun _ => rfl) zero_cells : Bx.le (.cells 26 [(bP false), (.v (.slice none 0 0)), (iP 0)]) (.cells 26 (dyL (nmost m p 0))))] <| .nil)] <| .nil) (by kernel_rfl)
theorem norm_bad1 (m : List (List Iv)) (n c p : Nat) (ga : MOk m n c) (hp1 : 8 ≤ p) (hp2 : p ≤ 512) (N K : Nat) (hN : N < m.length) (hK : K < (m.getD N []).length) (hg : ∀ x, x < N → ∀ k, k < (m.getD x []).length → NGood (m.getD x []) p k) (hgN : ∀ k, k < K → NGood (m.getD N []) p k) (hbad : ((m.getD N []).getD K wholeI).all = true) : PCt 117 [(matP m), (iP p)] (.tup [dyP zeroD, bP false]) := by
 have ra := ga.rows
 have n8 := ga.n8
 have c8 := ga.k8
 exact tr true Tryz.call117 Tryz.func117 (chain [.c (matValid_pc _ _ _ ‹_› : PCt 103 [(matP m)] _), .c (mxPrecise_pc _ : PCt 121 [(iP p)] _), tB 21 (precB_true.2 ⟨by omega, by omega⟩ : (precB (p : Int)) = true),
  .s (Sp.upto (normFA m p N) 0 N (by omega) (fun x hx hltx => by
    have lx := ga.len_at (show x < n by omega)
    have u1 := nsum_valid (m.getD x []) (show 1 ≤ p by omega) (by omega) (m.getD x []).length
    have u2 := nmost_valid m (show 1 ≤ p by omega) (by omega) x
    by_cases c1 : 0 < cmpD (nsum (m.getD x []) p ((m.getD x []).length)) (nmost m p x)
    ·exact spt (chain [tT 28 ((x : Int) < (m.length : Int)) (by omega), iX ((x : Int)) (m.length) (by omega),
      .s (Sp.upto (normFamIn m p x) 0 ((m.getD x []).length) (by omega) (fun k hk hltk => by
    have gg := (hg x (by omega)) k (by omega)
    have v1 := nsum_valid (m.getD x []) (show 1 ≤ p by omega) (by omega) k
    have v2 := ga.val_at (show x < n by omega) (show k < c by omega)
    have gga := gg.all
    have v3 := magI_valid v2.ends.1 v2.ends.2
    exact spt (chain [tT 34 ((k : Int) < (((m.getD x []).length : Nat) : Int)) (by omega), iX ((k : Int)) ((m.getD x []).length) (by omega), .c (ivMag_pc ((m.getD x []).getD k wholeI) ‹_› gga),
     .c (rdAddUp_pc (nsum (m.getD x []) p k) (vfa3 m x k) p ‹_› ‹_› (by omega) (by omega)),
     tB 53 (by rw [gg.err]; rfl : ((rndE (sumD (nsum (m.getD x []) p k) (magI ((m.getD x []).getD k wholeI))) p true) != 0) = false), r64 ((k : Int) + 1) (by omega)] <| .e (chain [.b 9 (.of_eq rfl : Bx.le (.cells 26 (vfa1 m x p k)) (.cells 26 (dyL (nsum (m.getD x []) p (k + 1)))))] <| .nil)) (by kernel_rfl))
  (fun hk => by
    exact spt (chain [tF 34 ((((m.getD x []).length : Nat) : Int) < (((m.getD x []).length : Nat) : Int)) (by omega)] <| .nil) (by kernel_rfl)) (by nofun) : LpT 9 Tryz.f117 (normFamIn m p x 0) (.exit 2) ⟨64, true, [(9, .box 9 0), (27, .e (iP x)), (26, .e (iP m.length)), (25, .e (matP m)), (6, .box 6 0), (4, .box 4 0), (1, .e (iP p))], [(9, .cells 26 (dyL (vfa0 m x p))), (6, .cells 26 (dyL (nmost m p x))), (4, .cells 26 [(bP false), (.v (.slice none 0 0)), (iP 0)])]⟩) (chain [.b 9 (.cells (fun _ => rfl) zero_cells : Bx.le (.cells 26 [(bP false), (.v (.slice none 0 0)), (iP 0)]) (.cells 26 (dyL (nsum (m.getD x []) p 0))))] <| .nil),
      .c (dyCmp_pc _ _ ‹_› ‹_› : PCt 82 [(dyP (vfa0 m x p)), (dyP (nmost m p x))] _), tB 60 (decide_eq_true c1), r64 ((x : Int) + 1) (by omega)] <| .e (chain [.b 6 (.of_eq (by rw [show nmost m p (x + 1) = (vfa0 m x p) from if_pos c1]) : Bx.le (.cells 26 (dyL (vfa0 m x p))) (.cells 26 (dyL (nmost m p (x + 1)))))] <| .nil)) (by kernel_rfl)
    ·exact spt (chain [tT 28 ((x : Int) < (m.length : Int)) (by omega), iX ((x : Int)) (m.length) (by omega),
      .s (Sp.upto (normFamIn m p x) 0 ((m.getD x []).length) (by omega) (fun k hk hltk => by
    have gg := (hg x (by omega)) k (by omega)
    have v1 := nsum_valid (m.getD x []) (show 1 ≤ p by omega) (by omega) k
    have v2 := ga.val_at (show x < n by omega) (show k < c by omega)
    have gga := gg.all
    have v3 := magI_valid v2.ends.1 v2.ends.2
    exact spt (chain [tT 34 ((k : Int) < (((m.getD x []).length : Nat) : Int)) (by omega), iX ((k : Int)) ((m.getD x []).length) (by omega), .c (ivMag_pc ((m.getD x []).getD k wholeI) ‹_› gga),
     .c (rdAddUp_pc (nsum (m.getD x []) p k) (vfa3 m x k) p ‹_› ‹_› (by omega) (by omega)),
     tB 53 (by rw [gg.err]; rfl : ((rndE (sumD (nsum (m.getD x []) p k) (magI ((m.getD x []).getD k wholeI))) p true) != 0) = false), r64 ((k : Int) + 1) (by omega)] <| .e (chain [.b 9 (.of_eq rfl : Bx.le (.cells 26 (vfa1 m x p k)) (.cells 26 (dyL (nsum (m.getD x []) p (k + 1)))))] <| .nil)) (by kernel_rfl))
  (fun hk => by
    exact spt (chain [tF 34 ((((m.getD x []).length : Nat) : Int) < (((m.getD x []).length : Nat) : Int)) (by omega)] <| .nil) (by kernel_rfl)) (by nofun) : LpT 9 Tryz.f117 (normFamIn m p x 0) (.exit 2) ⟨64, true, [(9, .box 9 0), (27, .e (iP x)), (26, .e (iP m.length)), (25, .e (matP m)), (6, .box 6 0), (4, .box 4 0), (1, .e (iP p))], [(9, .cells 26 (dyL (vfa0 m x p))), (6, .cells 26 (dyL (nmost m p x))), (4, .cells 26 [(bP false), (.v (.slice none 0 0)), (iP 0)])]⟩) (chain [.b 9 (.cells (fun _ => rfl) zero_cells : Bx.le (.cells 26 [(bP false), (.v (.slice none 0 0)), (iP 0)]) (.cells 26 (dyL (nsum (m.getD x []) p 0))))] <| .nil),
      .c (dyCmp_pc _ _ ‹_› ‹_› : PCt 82 [(dyP (vfa0 m x p)), (dyP (nmost m p x))] _), tB 60 (decide_eq_false c1), r64 ((x : Int) + 1) (by omega)] <| .e (chain [.b 6 (.of_eq (by rw [show nmost m p (x + 1) = (nmost m p x) from if_neg c1]) : Bx.le (.cells 26 (dyL (nmost m p x))) (.cells 26 (dyL (nmost m p (x + 1)))))] <| .nil)) (by kernel_rfl))
  (fun hx => by
    have lN := ga.len_at (show N < n by omega)
    exact spt (chain [tT 28 ((N : Int) < (m.length : Int)) (by omega), iX ((N : Int)) (m.length) (by omega),
    .s (Sp.upto (normFAIn m p N K) 0 K (by omega) (fun k hk hltk => by
    have gg := hgN k (by omega)
    have v1 := nsum_valid (m.getD N []) (show 1 ≤ p by omega) (by omega) k
    have v2 := ga.val_at (show N < n by omega) (show k < c by omega)
    have gga := gg.all
    have v3 := magI_valid v2.ends.1 v2.ends.2
    exact spt (chain [tT 34 ((k : Int) < (((m.getD N []).length : Nat) : Int)) (by omega), iX ((k : Int)) ((m.getD N []).length) (by omega), .c (ivMag_pc ((m.getD N []).getD k wholeI) ‹_› gga),
     .c (rdAddUp_pc (nsum (m.getD N []) p k) (magI ((m.getD N []).getD k wholeI)) p ‹_› ‹_› (by omega) (by omega)),
     tB 53 (by rw [gg.err]; rfl : ((rndE (sumD (nsum (m.getD N []) p k) (magI ((m.getD N []).getD k wholeI))) p true) != 0) = false), r64 ((k : Int) + 1) (by omega)] <| .e (chain [.b 9 (.of_eq rfl : Bx.le (.cells 26 (dyL (rndD (sumD (nsum (m.getD N []) p k) (magI ((m.getD N []).getD k wholeI))) p true))) (.cells 26 (dyL (nsum (m.getD N []) p (k + 1)))))] <| .nil)) (by kernel_rfl))
  (fun hk => by
    have v1 := nsum_valid (m.getD N []) (show 1 ≤ p by omega) (by omega) K
    have v2 := ga.val_at (show N < n by omega) (show K < c by omega)
    have v3 := magI_valid v2.ends.1 v2.ends.2
    exact spt (chain [tT 34 ((K : Int) < (((m.getD N []).length : Nat) : Int)) (by omega), iX ((K : Int)) ((m.getD N []).length) (by omega), .c (ivMag_all _ ‹_› hbad : PCt 182 [(ivP ((m.getD N []).getD K wholeI))] _),
    .o 44 (.e zeroP_le : PV.le (.e vfa2) (.e (dyP zeroD)))] <| .nil) (by kernel_rfl)) (by nofun) : LpT 9 Tryz.f117 (normFAIn m p N K 0) .ret ⟨64, true, [(5, .e (bP false)), (4, .box 4 0)], [(4, .cells 26 (dyL zeroD))]⟩) (chain [.b 9 (.cells (fun _ => rfl) zero_cells : Bx.le (.cells 26 [(bP false), (.v (.slice none 0 0)), (iP 0)]) (.cells 26 (dyL (nsum (m.getD N []) p 0))))] <| .nil)] <| .nil) (by kernel_rfl)) (by nofun) : LpT 5 Tryz.f117 (normFA m p N 0) .ret ⟨64, true, [(5, .e (bP false)), (4, .box 4 0)], [(4, .cells 26 (dyL zeroD))]⟩) (chain [.b 6 (.cells (fun _ => rfl) zero_cells : Bx.le (.cells 26 [(bP false), (.v (.slice none 0 0)), (iP 0)]) (.cells 26 (dyL (nmost m p 0))))] <| .nil)] <| .nil) (by kernel_rfl)
theorem norm_bad2 (m : List (List Iv)) (n c p : Nat) (ga : MOk m n c) (hp1 : 8 ≤ p) (hp2 : p ≤ 512) (N K : Nat) (hN : N < m.length) (hK : K < (m.getD N []).length) (hg : ∀ x, x < N → ∀ k, k < (m.getD x []).length → NGood (m.getD x []) p k) (hgN : ∀ k, k < K → NGood (m.getD N []) p k) (hall : ((m.getD N []).getD K wholeI).all = false) (hbad : ¬ rndE (sumD (nsum (m.getD N []) p K) (magI ((m.getD N []).getD K wholeI))) p true = 0) : PCt 117 [(matP m), (iP p)] (.tup [dyP zeroD, bP false]) := by
 have ra := ga.rows
 have n8 := ga.n8
 have c8 := ga.k8
 exact tr true Tryz.call117 Tryz.func117 (chain [.c (matValid_pc _ _ _ ‹_› : PCt 103 [(matP m)] _), .c (mxPrecise_pc _ : PCt 121 [(iP p)] _), tB 21 (precB_true.2 ⟨by omega, by omega⟩ : (precB (p : Int)) = true),
  .s (Sp.upto (normFB m p N) 0 N (by omega) (fun x hx hltx => by
    have lx := ga.len_at (show x < n by omega)
    have u1 := nsum_valid (m.getD x []) (show 1 ≤ p by omega) (by omega) (m.getD x []).length
    have u2 := nmost_valid m (show 1 ≤ p by omega) (by omega) x
    by_cases c1 : 0 < cmpD (nsum (m.getD x []) p ((m.getD x []).length)) (nmost m p x)
    ·exact spt (chain [tT 28 ((x : Int) < (m.length : Int)) (by omega), iX ((x : Int)) (m.length) (by omega),
      .s (Sp.upto (normFamIn m p x) 0 ((m.getD x []).length) (by omega) (fun k hk hltk => by
    have gg := (hg x (by omega)) k (by omega)
    have v1 := nsum_valid (m.getD x []) (show 1 ≤ p by omega) (by omega) k
    have v2 := ga.val_at (show x < n by omega) (show k < c by omega)
    have gga := gg.all
    have v3 := magI_valid v2.ends.1 v2.ends.2
    exact spt (chain [tT 34 ((k : Int) < (((m.getD x []).length : Nat) : Int)) (by omega), iX ((k : Int)) ((m.getD x []).length) (by omega), .c (ivMag_pc ((m.getD x []).getD k wholeI) ‹_› gga),
     .c (rdAddUp_pc (nsum (m.getD x []) p k) (vfa3 m x k) p ‹_› ‹_› (by omega) (by omega)),
     tB 53 (by rw [gg.err]; rfl : ((rndE (sumD (nsum (m.getD x []) p k) (magI ((m.getD x []).getD k wholeI))) p true) != 0) = false), r64 ((k : Int) + 1) (by omega)] <| .e (chain [.b 9 (.of_eq rfl : Bx.le (.cells 26 (vfa1 m x p k)) (.cells 26 (dyL (nsum (m.getD x []) p (k + 1)))))] <| .nil)) (by kernel_rfl))
  (fun hk => by
    exact spt (chain [tF 34 ((((m.getD x []).length : Nat) : Int) < (((m.getD x []).length : Nat) : Int)) (by omega)] <| .nil) (by kernel_rfl)) (by nofun) : LpT 9 Tryz.f117 (normFamIn m p x 0) (.exit 2) ⟨64, true, [(9, .box 9 0), (27, .e (iP x)), (26, .e (iP m.length)), (25, .e (matP m)), (6, .box 6 0), (4, .box 4 0), (1, .e (iP p))], [(9, .cells 26 (dyL (vfa0 m x p))), (6, .cells 26 (dyL (nmost m p x))), (4, .cells 26 [(bP false), (.v (.slice none 0 0)), (iP 0)])]⟩) (chain [.b 9 (.cells (fun _ => rfl) zero_cells : Bx.le (.cells 26 [(bP false), (.v (.slice none 0 0)), (iP 0)]) (.cells 26 (dyL (nsum (m.getD x []) p 0))))] <| .nil),
      .c (dyCmp_pc _ _ ‹_› ‹_› : PCt 82 [(dyP (vfa0 m x p)), (dyP (nmost m p x))] _), tB 60 (decide_eq_true c1), r64 ((x : Int) + 1) (by omega)] <| .e (chain [.b 6 (.of_eq (by rw [show nmost m p (x + 1) = (vfa0 m x p) from if_pos c1]) : Bx.le (.cells 26 (dyL (vfa0 m x p))) (.cells 26 (dyL (nmost m p (x + 1)))))] <| .nil)) (by kernel_rfl)
    ·exact spt (chain [tT 28 ((x : Int) < (m.length : Int)) (by omega), iX ((x : Int)) (m.length) (by omega),
      .s (Sp.upto (normFamIn m p x) 0 ((m.getD x []).length) (by omega) (fun k hk hltk => by
    have gg := (hg x (by omega)) k (by omega)
    have v1 := nsum_valid (m.getD x []) (show 1 ≤ p by omega) (by omega) k
    have v2 := ga.val_at (show x < n by omega) (show k < c by omega)
    have gga := gg.all
    have v3 := magI_valid v2.ends.1 v2.ends.2
    exact spt (chain [tT 34 ((k : Int) < (((m.getD x []).length : Nat) : Int)) (by omega), iX ((k : Int)) ((m.getD x []).length) (by omega), .c (ivMag_pc ((m.getD x []).getD k wholeI) ‹_› gga),
     .c (rdAddUp_pc (nsum (m.getD x []) p k) (vfa3 m x k) p ‹_› ‹_› (by omega) (by omega)),
     tB 53 (by rw [gg.err]; rfl : ((rndE (sumD (nsum (m.getD x []) p k) (magI ((m.getD x []).getD k wholeI))) p true) != 0) = false), r64 ((k : Int) + 1) (by omega)] <| .e (chain [.b 9 (.of_eq rfl : Bx.le (.cells 26 (vfa1 m x p k)) (.cells 26 (dyL (nsum (m.getD x []) p (k + 1)))))] <| .nil)) (by kernel_rfl))
  (fun hk => by
    exact spt (chain [tF 34 ((((m.getD x []).length : Nat) : Int) < (((m.getD x []).length : Nat) : Int)) (by omega)] <| .nil) (by kernel_rfl)) (by nofun) : LpT 9 Tryz.f117 (normFamIn m p x 0) (.exit 2) ⟨64, true, [(9, .box 9 0), (27, .e (iP x)), (26, .e (iP m.length)), (25, .e (matP m)), (6, .box 6 0), (4, .box 4 0), (1, .e (iP p))], [(9, .cells 26 (dyL (vfa0 m x p))), (6, .cells 26 (dyL (nmost m p x))), (4, .cells 26 [(bP false), (.v (.slice none 0 0)), (iP 0)])]⟩) (chain [.b 9 (.cells (fun _ => rfl) zero_cells : Bx.le (.cells 26 [(bP false), (.v (.slice none 0 0)), (iP 0)]) (.cells 26 (dyL (nsum (m.getD x []) p 0))))] <| .nil),
      .c (dyCmp_pc _ _ ‹_› ‹_› : PCt 82 [(dyP (vfa0 m x p)), (dyP (nmost m p x))] _), tB 60 (decide_eq_false c1), r64 ((x : Int) + 1) (by omega)] <| .e (chain [.b 6 (.of_eq (by rw [show nmost m p (x + 1) = (nmost m p x) from if_neg c1]) : Bx.le (.cells 26 (dyL (nmost m p x))) (.cells 26 (dyL (nmost m p (x + 1)))))] <| .nil)) (by kernel_rfl))
  (fun hx => by
    have lN := ga.len_at (show N < n by omega)
    exact spt (chain [tT 28 ((N : Int) < (m.length : Int)) (by omega), iX ((N : Int)) (m.length) (by omega),
    .s (Sp.upto (normFBIn m p N K) 0 K (by omega) (fun k hk hltk => by
    have gg := hgN k (by omega)
    have v1 := nsum_valid (m.getD N []) (show 1 ≤ p by omega) (by omega) k
    have v2 := ga.val_at (show N < n by omega) (show k < c by omega)
    have gga := gg.all
    have v3 := magI_valid v2.ends.1 v2.ends.2
    exact spt (chain [tT 34 ((k : Int) < (((m.getD N []).length : Nat) : Int)) (by omega), iX ((k : Int)) ((m.getD N []).length) (by omega), .c (ivMag_pc ((m.getD N []).getD k wholeI) ‹_› gga),
     .c (rdAddUp_pc (nsum (m.getD N []) p k) (magI ((m.getD N []).getD k wholeI)) p ‹_› ‹_› (by omega) (by omega)),
     tB 53 (by rw [gg.err]; rfl : ((rndE (sumD (nsum (m.getD N []) p k) (magI ((m.getD N []).getD k wholeI))) p true) != 0) = false), r64 ((k : Int) + 1) (by omega)] <| .e (chain [.b 9 (.of_eq rfl : Bx.le (.cells 26 (dyL (rndD (sumD (nsum (m.getD N []) p k) (magI ((m.getD N []).getD k wholeI))) p true))) (.cells 26 (dyL (nsum (m.getD N []) p (k + 1)))))] <| .nil)) (by kernel_rfl))
  (fun hk => by
    have v1 := nsum_valid (m.getD N []) (show 1 ≤ p by omega) (by omega) K
    have v2 := ga.val_at (show N < n by omega) (show K < c by omega)
    have v3 := magI_valid v2.ends.1 v2.ends.2
    exact spt (chain [tT 34 ((K : Int) < (((m.getD N []).length : Nat) : Int)) (by omega), iX ((K : Int)) ((m.getD N []).length) (by omega), .c (ivMag_pc ((m.getD N []).getD K wholeI) ‹_› hall),
    .c (rdAddUp_pc (nsum (m.getD N []) p K) (magI ((m.getD N []).getD K wholeI)) p ‹_› ‹_› (by omega) (by omega)),
    tB 53 (by simpa using hbad : ((rndE (sumD (nsum (m.getD N []) p K) (magI ((m.getD N []).getD K wholeI))) p true) != 0) = true), .o 54 (.e zeroP_le : PV.le (.e vfa2) (.e (dyP zeroD)))] <| .nil) (by kernel_rfl)) (by nofun) : LpT 9 Tryz.f117 (normFBIn m p N K 0) .ret ⟨64, true, [(5, .e (bP false)), (4, .box 4 0)], [(4, .cells 26 (dyL zeroD))]⟩) (chain [.b 9 (.cells (fun _ => rfl) zero_cells : Bx.le (.cells 26 [(bP false), (.v (.slice none 0 0)), (iP 0)]) (.cells 26 (dyL (nsum (m.getD N []) p 0))))] <| .nil)] <| .nil) (by kernel_rfl)) (by nofun) : LpT 5 Tryz.f117 (normFB m p N 0) .ret ⟨64, true, [(5, .e (bP false)), (4, .box 4 0)], [(4, .cells 26 (dyL zeroD))]⟩) (chain [.b 6 (.cells (fun _ => rfl) zero_cells : Bx.le (.cells 26 [(bP false), (.v (.slice none 0 0)), (iP 0)]) (.cells 26 (dyL (nmost m p 0))))] <| .nil)] <| .nil) (by kernel_rfl)
open Go.RowKit Fp Pu
abbrev vga0 (h) (d : Dy) (p) (k) := divI (mulI (absI h) (pointI d) p) (numI (((k + 2) : Nat) : Int)) p
abbrev vga1 (h) (d : Dy) (p) (k) := powI (mulI (absI h) (pointI d) p) p (k + 1)
abbrev vga2 (h) (d : Dy) (p) (x : Nat) := divI (mulI (absI h) (pointI d) p) (numI (((x + 1) : Nat) : Int)) p
def restFam (m : List (List Iv)) (h : Iv) (d : Dy) (k p : Nat) (x : Nat) : PS := ⟨79, true, [(14, .e (iP (((x + 1) : Nat) : Int))), (13, .box 13 0), (12, .box 12 0), (8, .box 8 0), (2, .e (iP k)), (3, .e (iP p))], [(13, .cells 28 (ivL (powI (mulI (absI h) (pointI d) p) p x))), (12, .cells 28 (ivL (mulI (absI h) (pointI d) p))), (8, .cells 28 [(bP false), (.v (.slice none 0 0)), (iP 0), (bP false), (.v (.slice none 0 0)), (iP 0), (bP false)])]⟩
theorem first_bad {Q : Nat → Prop} {n : Nat} (h : ¬ ∀ i, i < n → Q i) : ∃ N, N < n ∧ ¬ Q N ∧ ∀ i, i < N → Q i := by
 induction n with
 | zero => exact absurd (fun i hi => absurd hi (Nat.not_lt_zero i)) h
 | succ n ih =>
  by_cases hn : ∀ i, i < n → Q i
  ·refine ⟨n, by omega, fun q => h fun i hi => ?_, hn⟩
   by_cases hin : i = n
   ·rw [hin]; exact q
   ·exact hn i (by omega)
  ·obtain ⟨N, h1, h2, h3⟩ := ih hn
   exact ⟨N, by omega, h2, h3⟩
theorem norm_yes (m : List (List Iv)) (n c p : Nat) (ga : MOk m n c) (hp1 : 8 ≤ p) (hp2 : p ≤ 512) (d : Dy) (hd : normM m p = some d) : PCt 117 [matP m, iP (p : Int)] (.tup [dyP d, bP true]) ∧ d.Valid := by
 have hg : ∀ x, x < m.length → ∀ k, k < (m.getD x []).length → NGood (m.getD x []) p k := by
  intro x hx k hk
  apply Classical.byContradiction
  intro q
  rw [normM_none hx hk q] at hd
  cases hd
 rw [normM_some hg] at hd
 cases hd
 exact ⟨norm_some m n c p ga hp1 hp2 hg, nmost_valid m (by omega) (by omega) _⟩
theorem norm_no (m : List (List Iv)) (n c p : Nat) (ga : MOk m n c) (hp1 : 8 ≤ p) (hp2 : p ≤ 512) (hd : normM m p = none) : PCt 117 [matP m, iP (p : Int)] (.tup [dyP zeroD, bP false]) := by
 have hb : ¬ ∀ x, x < m.length → ∀ k, k < (m.getD x []).length → NGood (m.getD x []) p k := fun hg => by rw [normM_some hg] at hd; cases hd
 obtain ⟨N, h1, h2, h3⟩ := first_bad (Q := fun x => ∀ k, k < (m.getD x []).length → NGood (m.getD x []) p k) hb
 obtain ⟨K, k1, k2, k3⟩ := first_bad h2
 by_cases ha : ((m.getD N []).getD K wholeI).all = true
 ·exact norm_bad1 m n c p ga hp1 hp2 N K h1 k1 h3 k3 ha
 ·exact norm_bad2 m n c p ga hp1 hp2 N K h1 k1 h3 k3 (by simpa using ha) (fun q => k2 ⟨by simpa using ha, q⟩)
theorem numI_valid (n : Nat) (h : n < 4294967296) : (numI (n : Int)).Valid := pointI_valid (intD_valid n h)
theorem powI_valid (u : Iv) {p : Nat} (hp : 1 ≤ p) (hp2 : p ≤ 4096) : ∀ j, (powI u p j).Valid
 | 0 => numI_valid 1 (by decide)
 | j + 1 => mulI_valid _ _ hp hp2
theorem zeroIv_le : E.le (.agg [bP false, .v (.slice none 0 0), iP 0, bP false, .v (.slice none 0 0), iP 0, bP false]) (ivP ⟨zeroD, zeroD, false⟩) :=
 .agg (.cons (.refl _) (.cons nilLimb_le (.cons (.refl _) (.cons (.refl _) (.cons nilLimb_le (.cons (.refl _) (.cons (.refl _) .nil)))))))
theorem rest_no1 (m : List (List Iv)) (h : Iv) (n c k p : Nat) (ga : MOk m n c) (hh : h.Valid) (hk : k ≤ 1000) (hp1 : 8 ≤ p) (hp2 : p ≤ 512) (hd : normM m p = none) : PCt 42 [(matP m), (ivP h), (iP k), (iP p)] (.tup [ivP ⟨zeroD, zeroD, false⟩, bP false]) := by
 exact tr true Tryz.call42 Tryz.func42 (chain [.c (norm_no _ _ _ _ ga hp1 hp2 hd : PCt 117 [(matP m), (iP p)] _)] <| rR (.tup [ivP ⟨zeroD, zeroD, false⟩, bP false]) (.tup (.cons zeroIv_le (.cons (.refl _) .nil)) : E.le (.tup [(.agg [(bP false), (.v (.slice none 0 0)), (iP 0), (bP false), (.v (.slice none 0 0)), (iP 0), (bP false)]), (bP false)]) (.tup [ivP ⟨zeroD, zeroD, false⟩, bP false]))) (by kernel_rfl)
theorem rest_no2 (m : List (List Iv)) (h : Iv) (n c k p : Nat) (ga : MOk m n c) (hh : h.Valid) (hk : k ≤ 1000) (hp1 : 8 ≤ p) (hp2 : p ≤ 512) (d : Dy) (hn : PCt 117 [matP m, iP (p : Int)] (.tup [dyP d, bP true])) (hd : d.Valid) (hu : (mulI (absI h) (pointI d) p).all = true) : PCt 42 [(matP m), (ivP h), (iP k), (iP p)] (.tup [ivP ⟨zeroD, zeroD, false⟩, bP false]) := by
 have va := absI_valid hh
 have vp := pointI_valid hd
 have vu := mulI_valid (absI h) (pointI d) (show 1 ≤ p by omega) (show p ≤ 4096 by omega)
 exact tr true Tryz.call42 Tryz.func42 (chain [.c (hn : PCt 117 [(matP m), (iP p)] _), .c (ivAbs_pc h ‹_›), .c (ivPoint_pc d ‹_›), .c (ivMul_pc (absI h) (pointI d) p ‹_› ‹_› (by omega) (by omega)),
  tB 32 (hu : (mulI (absI h) (pointI d) p).all = true)] <| rR (.tup [ivP ⟨zeroD, zeroD, false⟩, bP false]) (.tup (.cons zeroIv_le (.cons (.refl _) .nil)) : E.le (.tup [(.agg [(bP false), (.v (.slice none 0 0)), (iP 0), (bP false), (.v (.slice none 0 0)), (iP 0), (bP false)]), (bP false)]) (.tup [ivP ⟨zeroD, zeroD, false⟩, bP false]))) (by kernel_rfl)
theorem rest_no3 (m : List (List Iv)) (h : Iv) (n c k p : Nat) (ga : MOk m n c) (hh : h.Valid) (hk : k ≤ 1000) (hp1 : 8 ≤ p) (hp2 : p ≤ 512) (d : Dy) (hn : PCt 117 [matP m, iP (p : Int)] (.tup [dyP d, bP true])) (hd : d.Valid) (hu : (mulI (absI h) (pointI d) p).all = false) (hc : 0 ≤ cmpD (mulI (absI h) (pointI d) p).hi (intD (((k + 2) : Nat) : Int))) : PCt 42 [(matP m), (ivP h), (iP k), (iP p)] (.tup [ivP ⟨zeroD, zeroD, false⟩, bP false]) := by
 have va := absI_valid hh
 have vp := pointI_valid hd
 have vu := mulI_valid (absI h) (pointI d) (show 1 ≤ p by omega) (show p ≤ 4096 by omega)
 have vk := intD_valid (k + 2) (by omega)
 have ve := vu.ends.2
 exact tr true Tryz.call42 Tryz.func42 (chain [.c (hn : PCt 117 [(matP m), (iP p)] _), .c (ivAbs_pc h ‹_›), .c (ivPoint_pc d ‹_›), .c (ivMul_pc (absI h) (pointI d) p ‹_› ‹_› (by omega) (by omega)),
  tB 32 (hu : (mulI (absI h) (pointI d) p).all = false), r64 ((k : Int) + 2) (by omega), .c (dyInt_pc (k + 2) (by omega)),
  .c (dyCmp_pc _ _ ‹_› ‹_› : PCt 82 [(dyP ((mulI (absI h) (pointI d) p).hi)), (dyP (intD (((k + 2) : Nat) : Int)))] _), tB 40 (decide_eq_true hc)] <| rR (.tup [ivP ⟨zeroD, zeroD, false⟩, bP false]) (.tup (.cons zeroIv_le (.cons (.refl _) .nil)) : E.le (.tup [(.agg [(bP false), (.v (.slice none 0 0)), (iP 0), (bP false), (.v (.slice none 0 0)), (iP 0), (bP false)]), (bP false)]) (.tup [ivP ⟨zeroD, zeroD, false⟩, bP false]))) (by kernel_rfl)
theorem rest_no4 (m : List (List Iv)) (h : Iv) (n c k p : Nat) (ga : MOk m n c) (hh : h.Valid) (hk : k ≤ 1000) (hp1 : 8 ≤ p) (hp2 : p ≤ 512) (d : Dy) (hn : PCt 117 [matP m, iP (p : Int)] (.tup [dyP d, bP true])) (hd : d.Valid) (hu : (mulI (absI h) (pointI d) p).all = false) (hc : ¬ 0 ≤ cmpD (mulI (absI h) (pointI d) p).hi (intD (((k + 2) : Nat) : Int))) (he : (divI (powI (mulI (absI h) (pointI d) p) p (k + 1)) (subI (numI 1) (divI (mulI (absI h) (pointI d) p) (numI (((k + 2) : Nat) : Int)) p) p) p).all = true) : PCt 42 [(matP m), (ivP h), (iP k), (iP p)] (.tup [ivP (divI (powI (mulI (absI h) (pointI d) p) p (k + 1)) (subI (numI 1) (divI (mulI (absI h) (pointI d) p) (numI (((k + 2) : Nat) : Int)) p) p) p), bP false]) := by
 have va := absI_valid hh
 have vp := pointI_valid hd
 have vu := mulI_valid (absI h) (pointI d) (show 1 ≤ p by omega) (show p ≤ 4096 by omega)
 have vk := intD_valid (k + 2) (by omega)
 have ve := vu.ends.2
 have w1 := powI_valid (mulI (absI h) (pointI d) p) (show 1 ≤ p by omega) (by omega) (k + 1)
 have w2 := numI_valid (k + 2) (by omega)
 have w3 : (numI 1).Valid := numI_valid 1 (by decide)
 have w4 := divI_valid (mulI (absI h) (pointI d) p) (numI (((k + 2) : Nat) : Int)) (show 1 ≤ p by omega) (by omega)
 have w5 : (subI (numI 1) (divI (mulI (absI h) (pointI d) p) (numI (((k + 2) : Nat) : Int)) p) p).Valid := addI_valid w3 (negI_valid w4) (by omega) (by omega)
 have w6 := divI_valid (powI (mulI (absI h) (pointI d) p) p (k + 1)) (subI (numI 1) (divI (mulI (absI h) (pointI d) p) (numI (((k + 2) : Nat) : Int)) p) p) (show 1 ≤ p by omega) (by omega)
 have w7 := w6.ends.2
 exact tr true Tryz.call42 Tryz.func42 (chain [.c (hn : PCt 117 [(matP m), (iP p)] _), .c (ivAbs_pc h ‹_›), .c (ivPoint_pc d ‹_›), .c (ivMul_pc (absI h) (pointI d) p ‹_› ‹_› (by omega) (by omega)),
  tB 32 (hu : (mulI (absI h) (pointI d) p).all = false), r64 ((k : Int) + 2) (by omega), .c (dyInt_pc (k + 2) (by omega)),
  .c (dyCmp_pc _ _ ‹_› ‹_› : PCt 82 [(dyP ((mulI (absI h) (pointI d) p).hi)), (dyP (intD (((k + 2) : Nat) : Int)))] _), tB 40 (decide_eq_false hc), .c (num_pc 1 (by omega)),
  .s (Sp.upto (restFam m h d k p) 0 (k + 1) (by omega) (fun x hx hltx => by
    have w1 := powI_valid (mulI (absI h) (pointI d) p) (show 1 ≤ p by omega) (by omega) x
    have w2 := numI_valid (x + 1) (by omega)
    have w3 := divI_valid (mulI (absI h) (pointI d) p) (numI (((x + 1) : Nat) : Int)) (show 1 ≤ p by omega) (by omega)
    exact spt (chain [r64 ((k : Int) + 1) (by omega), tT 47 ((((x + 1) : Nat) : Int) ≤ (((k + 1) : Nat) : Int)) (by omega), .c (num_pc (x + 1) (by omega)),
     .c (ivDiv_pc (mulI (absI h) (pointI d) p) (numI (((x + 1) : Nat) : Int)) p ‹_› ‹_› (by omega) (by omega)),
     .c (ivMul_pc (powI (mulI (absI h) (pointI d) p) p x) (vga2 h d p x) p ‹_› ‹_› (by omega) (by omega)), r64 ((((x + 1) : Nat) : Int) + 1) (by omega)] <| .e (chain [.b 13 (.of_eq rfl : Bx.le (.cells 28 (ivL (mulI (powI (mulI (absI h) (pointI d) p) p x) (vga2 h d p x) p))) (.cells 28 (ivL (powI (mulI (absI h) (pointI d) p) p (x + 1)))))] <| .nil)) (by kernel_rfl))
  (fun hx => by
    exact spt (chain [r64 ((k : Int) + 1) (by omega), tF 47 (((((k + 1) + 1) : Nat) : Int) ≤ (((k + 1) : Nat) : Int)) (by omega)] <| .nil) (by kernel_rfl)) (by nofun) : LpT 9 Tryz.f42 (restFam m h d k p 0) (.exit 0) ⟨79, true, [(13, .box 13 0), (12, .box 12 0), (8, .box 8 0), (2, .e (iP k)), (3, .e (iP p))], [(13, .cells 28 (ivL (vga1 h d p k))), (12, .cells 28 (ivL (mulI (absI h) (pointI d) p))), (8, .cells 28 [(bP false), (.v (.slice none 0 0)), (iP 0), (bP false), (.v (.slice none 0 0)), (iP 0), (bP false)])]⟩) (chain [.o 14 (.int (by first | rfl | omega | (simp only [Nat.add_mul, Nat.one_mul]; omega)) : PV.le (.e (iP 1)) (.e (iP (((0 + 1) : Nat) : Int)))),
  .b 13 (.of_eq rfl : Bx.le (.cells 28 (ivL (numI 1))) (.cells 28 (ivL (powI (mulI (absI h) (pointI d) p) p 0))))] <| .nil),
  .c (num_pc 1 (by omega)), r64 ((k : Int) + 2) (by omega), .c (num_pc (k + 2) (by omega)), .c (ivDiv_pc (mulI (absI h) (pointI d) p) (numI (((k + 2) : Nat) : Int)) p ‹_› ‹_› (by omega) (by omega)),
  .c (ivSub_pc (numI 1) (vga0 h d p k) p ‹_› ‹_› (by omega) (by omega)),
  .c (ivDiv_pc (vga1 h d p k) (subI (numI 1) (vga0 h d p k) p) p ‹_› ‹_› (by omega) (by omega)),
  tB 71 (he : (divI (vga1 h d p k) (subI (numI 1) (vga0 h d p k) p) p).all = true)] <| .nil) (by kernel_rfl)
theorem rest_yes (m : List (List Iv)) (h : Iv) (n c k p : Nat) (ga : MOk m n c) (hh : h.Valid) (hk : k ≤ 1000) (hp1 : 8 ≤ p) (hp2 : p ≤ 512) (d : Dy) (hn : PCt 117 [matP m, iP (p : Int)] (.tup [dyP d, bP true])) (hd : d.Valid) (hu : (mulI (absI h) (pointI d) p).all = false) (hc : ¬ 0 ≤ cmpD (mulI (absI h) (pointI d) p).hi (intD (((k + 2) : Nat) : Int))) (he : (divI (powI (mulI (absI h) (pointI d) p) p (k + 1)) (subI (numI 1) (divI (mulI (absI h) (pointI d) p) (numI (((k + 2) : Nat) : Int)) p) p) p).all = false) : PCt 42 [(matP m), (ivP h), (iP k), (iP p)] (.tup [ivP ⟨negD (divI (powI (mulI (absI h) (pointI d) p) p (k + 1)) (subI (numI 1) (divI (mulI (absI h) (pointI d) p) (numI (((k + 2) : Nat) : Int)) p) p) p).hi, (divI (powI (mulI (absI h) (pointI d) p) p (k + 1)) (subI (numI 1) (divI (mulI (absI h) (pointI d) p) (numI (((k + 2) : Nat) : Int)) p) p) p).hi, false⟩, bP true]) := by
 have va := absI_valid hh
 have vp := pointI_valid hd
 have vu := mulI_valid (absI h) (pointI d) (show 1 ≤ p by omega) (show p ≤ 4096 by omega)
 have vk := intD_valid (k + 2) (by omega)
 have ve := vu.ends.2
 have w1 := powI_valid (mulI (absI h) (pointI d) p) (show 1 ≤ p by omega) (by omega) (k + 1)
 have w2 := numI_valid (k + 2) (by omega)
 have w3 : (numI 1).Valid := numI_valid 1 (by decide)
 have w4 := divI_valid (mulI (absI h) (pointI d) p) (numI (((k + 2) : Nat) : Int)) (show 1 ≤ p by omega) (by omega)
 have w5 : (subI (numI 1) (divI (mulI (absI h) (pointI d) p) (numI (((k + 2) : Nat) : Int)) p) p).Valid := addI_valid w3 (negI_valid w4) (by omega) (by omega)
 have w6 := divI_valid (powI (mulI (absI h) (pointI d) p) p (k + 1)) (subI (numI 1) (divI (mulI (absI h) (pointI d) p) (numI (((k + 2) : Nat) : Int)) p) p) (show 1 ≤ p by omega) (by omega)
 have w7 := w6.ends.2
 exact tr true Tryz.call42 Tryz.func42 (chain [.c (hn : PCt 117 [(matP m), (iP p)] _), .c (ivAbs_pc h ‹_›), .c (ivPoint_pc d ‹_›), .c (ivMul_pc (absI h) (pointI d) p ‹_› ‹_› (by omega) (by omega)),
  tB 32 (hu : (mulI (absI h) (pointI d) p).all = false), r64 ((k : Int) + 2) (by omega), .c (dyInt_pc (k + 2) (by omega)),
  .c (dyCmp_pc _ _ ‹_› ‹_› : PCt 82 [(dyP ((mulI (absI h) (pointI d) p).hi)), (dyP (intD (((k + 2) : Nat) : Int)))] _), tB 40 (decide_eq_false hc), .c (num_pc 1 (by omega)),
  .s (Sp.upto (restFam m h d k p) 0 (k + 1) (by omega) (fun x hx hltx => by
    have w1 := powI_valid (mulI (absI h) (pointI d) p) (show 1 ≤ p by omega) (by omega) x
    have w2 := numI_valid (x + 1) (by omega)
    have w3 := divI_valid (mulI (absI h) (pointI d) p) (numI (((x + 1) : Nat) : Int)) (show 1 ≤ p by omega) (by omega)
    exact spt (chain [r64 ((k : Int) + 1) (by omega), tT 47 ((((x + 1) : Nat) : Int) ≤ (((k + 1) : Nat) : Int)) (by omega), .c (num_pc (x + 1) (by omega)),
     .c (ivDiv_pc (mulI (absI h) (pointI d) p) (numI (((x + 1) : Nat) : Int)) p ‹_› ‹_› (by omega) (by omega)),
     .c (ivMul_pc (powI (mulI (absI h) (pointI d) p) p x) (vga2 h d p x) p ‹_› ‹_› (by omega) (by omega)), r64 ((((x + 1) : Nat) : Int) + 1) (by omega)] <| .e (chain [.b 13 (.of_eq rfl : Bx.le (.cells 28 (ivL (mulI (powI (mulI (absI h) (pointI d) p) p x) (vga2 h d p x) p))) (.cells 28 (ivL (powI (mulI (absI h) (pointI d) p) p (x + 1)))))] <| .nil)) (by kernel_rfl))
  (fun hx => by
    exact spt (chain [r64 ((k : Int) + 1) (by omega), tF 47 (((((k + 1) + 1) : Nat) : Int) ≤ (((k + 1) : Nat) : Int)) (by omega)] <| .nil) (by kernel_rfl)) (by nofun) : LpT 9 Tryz.f42 (restFam m h d k p 0) (.exit 0) ⟨79, true, [(13, .box 13 0), (12, .box 12 0), (8, .box 8 0), (2, .e (iP k)), (3, .e (iP p))], [(13, .cells 28 (ivL (vga1 h d p k))), (12, .cells 28 (ivL (mulI (absI h) (pointI d) p))), (8, .cells 28 [(bP false), (.v (.slice none 0 0)), (iP 0), (bP false), (.v (.slice none 0 0)), (iP 0), (bP false)])]⟩) (chain [.o 14 (.int (by first | rfl | omega | (simp only [Nat.add_mul, Nat.one_mul]; omega)) : PV.le (.e (iP 1)) (.e (iP (((0 + 1) : Nat) : Int)))),
  .b 13 (.of_eq rfl : Bx.le (.cells 28 (ivL (numI 1))) (.cells 28 (ivL (powI (mulI (absI h) (pointI d) p) p 0))))] <| .nil),
  .c (num_pc 1 (by omega)), r64 ((k : Int) + 2) (by omega), .c (num_pc (k + 2) (by omega)), .c (ivDiv_pc (mulI (absI h) (pointI d) p) (numI (((k + 2) : Nat) : Int)) p ‹_› ‹_› (by omega) (by omega)),
  .c (ivSub_pc (numI 1) (vga0 h d p k) p ‹_› ‹_› (by omega) (by omega)),
  .c (ivDiv_pc (vga1 h d p k) (subI (numI 1) (vga0 h d p k) p) p ‹_› ‹_› (by omega) (by omega)),
  tB 71 (he : (divI (vga1 h d p k) (subI (numI 1) (vga0 h d p k) p) p).all = false),
  .c (dyNeg_pc _ ‹_› : PCt 92 [(dyP ((divI (vga1 h d p k) (subI (numI 1) (vga0 h d p k) p) p).hi))] _)] <| .nil) (by kernel_rfl)
open Go.RowKit Fp Pu
open Go.RowKit Fp Pu
theorem range_any (r : List Iv) : ((List.range (r.length)).any fun j_ => (r.getD j_ wholeI).all) = r.any fun x => x.all := by
 rw [Bool.eq_iff_iff, List.any_eq_true, List.any_eq_true]
 constructor
 ·rintro ⟨j, h1, h2⟩
  have hj := List.mem_range.1 h1
  rw [getD_eq_getElem hj] at h2
  exact ⟨_, List.getElem_mem hj, h2⟩
 ·rintro ⟨x, h1, h2⟩
  obtain ⟨j, hj, rfl⟩ := List.mem_iff_getElem.1 h1
  exact ⟨j, List.mem_range.2 hj, by rw [getD_eq_getElem hj]; exact h2⟩
theorem range_anyM (m : List (List Iv)) : ((List.range (m.length)).any fun i_ => (m.getD i_ []).any fun x => x.all) = m.any fun r => r.any fun x => x.all := by
 rw [Bool.eq_iff_iff, List.any_eq_true, List.any_eq_true]
 constructor
 ·rintro ⟨j, h1, h2⟩
  have hj := List.mem_range.1 h1
  rw [getD_eq_getElem hj] at h2
  exact ⟨_, List.getElem_mem hj, h2⟩
 ·rintro ⟨x, h1, h2⟩
  obtain ⟨j, hj, rfl⟩ := List.mem_iff_getElem.1 h1
  exact ⟨j, List.mem_range.2 hj, by rw [getD_eq_getElem hj]; exact h2⟩
theorem all11_pc (x : Iv) : PCt 136 [(ivP x)] (bP x.all) := by
 exact tr true Tryz.call136 Tryz.func136 (.nil) (by kernel_rfl)
theorem all1_pc (r : List Iv) (hl : r.length ≤ 1000) : PCt 135 [(ivsP r)] (bP (r.any fun x => x.all)) := by
 exact tr true Tryz.call135 Tryz.func135 (chain [.c (iv_any true r.length (ivsE r) 136 [] (fun j_ => (r.getD j_ wholeI).all) (fun j hj => all11_pc _) (by omega) : PCt 55 [(ivsP r), (.fn 136 [])] _)] <| rQ (bP ((List.range (r.length)).any fun j_ => (r.getD j_ wholeI).all)) (bP (r.any fun x => x.all)) (by rw [range_any])) (by kernel_rfl)
theorem all_pc (m : List (List Iv)) (hl : m.length ≤ 1000) (hr : ∀ i, (m.getD i []).length ≤ 1000) : PCt 49 [(matP m)] (bP (m.any fun r => r.any fun x => x.all)) := by
 exact tr true Tryz.call49 Tryz.func49 (chain [.c (row_any true m.length (matE m) 135 [] (fun i_ => (m.getD i_ []).any fun x => x.all) (fun i hi => all1_pc _ (hr i)) (by omega) : PCt 53 [(matP m), (.fn 135 [])] _)] <| rQ (bP ((List.range (m.length)).any fun i_ => (m.getD i_ []).any fun x => x.all)) (bP (m.any fun r => r.any fun x => x.all)) (by rw [range_anyM])) (by kernel_rfl)
theorem square_pc (m : List (List Iv)) (n c : Nat) (ga : MOk m n c) : PCt 40 [(matP m)] (bP (decide (n = c))) := by
 have ra := ga.rows
 have n1 := ga.n1
 have la := ga.len_at (show 0 < n by omega)
 by_cases h : n = c
 ·exact tr true Tryz.call40 Tryz.func40 (chain [.c (matValid_pc _ _ _ ‹_› : PCt 103 [(matP m)] _), iX (0) (m.length) (by omega), tB 12 (natEq_true (by omega) : ((m.length : Int) == (((m.getD 0 []).length : Nat) : Int)) = true)] <| rQ (bP true) (bP (decide (n = c))) (by rw [decide_eq_true h])) (by kernel_rfl)
 ·exact tr true Tryz.call40 Tryz.func40 (chain [.c (matValid_pc _ _ _ ‹_› : PCt 103 [(matP m)] _), iX (0) (m.length) (by omega), tB 12 (natEq_false (by omega) : ((m.length : Int) == (((m.getD 0 []).length : Nat) : Int)) = false)] <| rQ (bP false) (bP (decide (n = c))) (by rw [decide_eq_false h])) (by kernel_rfl)
open Go.RowKit Fp Pu
theorem neg_le_self {d : Dy} (hd : d.neg = false) : cmpD (negD d) d ≤ 0 := by
 rw [le_iff (k := d.e) (.inr (show d.e ≤ (negD d).e from Int.le_refl _)) (.inr (Int.le_refl _))]
 have h1 := num_nn hd d.e
 by_cases h0 : d.m = 0
 ·have : (negD d).num d.e = 0 := by unfold Dy.num Dy.mag negD; simp [h0]
  omega
 ·rw [num_negD d d.e h0]; omega
theorem rest_pc (m : List (List Iv)) (h : Iv) (n c k p : Nat) (ga : MOk m n c) (hh : h.Valid) (hk : k ≤ 1000) (hp1 : 8 ≤ p) (hp2 : p ≤ 512) :
  (∀ e, restI m h k p = some e → PCt 42 [matP m, ivP h, iP (k : Int), iP (p : Int)] (.tup [ivP e, bP true]) ∧ e.Valid ∧ e.all = false) ∧
  (restI m h k p = none → ∃ x : Iv, PCt 42 [matP m, ivP h, iP (k : Int), iP (p : Int)] (.tup [ivP x, bP false])) := by
 cases hn : normM m p with
 | none =>
  refine ⟨fun e he => ?_, fun _ => ⟨_, rest_no1 m h n c k p ga hh hk hp1 hp2 hn⟩⟩
  unfold restI at he; rw [hn] at he; cases he
 | some d =>
  obtain ⟨hp, hd⟩ := norm_yes m n c p ga hp1 hp2 d hn
  have hdn : d.neg = false := by
   have hg : ∀ i, i < m.length → ∀ k, k < (m.getD i []).length → NGood (m.getD i []) p k := by
    intro i hi k hk
    apply Classical.byContradiction
    intro q
    rw [normM_none hi hk q] at hn
    cases hn
   rw [normM_some hg] at hn
   cases hn
   exact nmost_nn _ _ _
  have hun : (mulI (absI h) (pointI d) p).NN := mulI_nn (absI_nn h) (pointI_nn hdn) p
  unfold restI
  rw [hn, Option.bind_some]
  simp only
  by_cases hu : (mulI (absI h) (pointI d) p).all = true
  ·rw [if_pos (by rw [hu]; rfl)]
   exact ⟨fun e hx => (by cases hx), fun _ => ⟨_, rest_no2 m h n c k p ga hh hk hp1 hp2 d hp hd hu⟩⟩
  ·replace hu : (mulI (absI h) (pointI d) p).all = false := by simpa using hu
   by_cases hc : 0 ≤ cmpD (mulI (absI h) (pointI d) p).hi (intD (((k + 2) : Nat) : Int))
   ·rw [if_pos (by rw [hu, decide_eq_true hc]; rfl)]
    exact ⟨fun e hx => (by cases hx), fun _ => ⟨_, rest_no3 m h n c k p ga hh hk hp1 hp2 d hp hd hu hc⟩⟩
   ·rw [if_neg (by rw [hu, decide_eq_false hc]; decide)]
    by_cases he : (divI (powI (mulI (absI h) (pointI d) p) p (k + 1)) (subI (numI 1) (divI (mulI (absI h) (pointI d) p) (numI (((k + 2) : Nat) : Int)) p) p) p).all = true
    ·rw [if_pos he]
     exact ⟨fun e hx => (by cases hx), fun _ => ⟨_, rest_no4 m h n c k p ga hh hk hp1 hp2 d hp hd hu hc he⟩⟩
    ·rw [if_neg he]
     replace he : (divI (powI (mulI (absI h) (pointI d) p) p (k + 1)) (subI (numI 1) (divI (mulI (absI h) (pointI d) p) (numI (((k + 2) : Nat) : Int)) p) p) p).all = false := by simpa using he
     have hv := divI_valid (powI (mulI (absI h) (pointI d) p) p (k + 1)) (subI (numI 1) (divI (mulI (absI h) (pointI d) p) (numI (((k + 2) : Nat) : Int)) p) p) (show 1 ≤ p by omega) (show p ≤ 4096 by omega)
     have hnn := rest_nn (c := k + 2) hun (by omega) hu (by omega) (powI_nn hun p (k + 1)) he (show 1 ≤ p by omega) (by omega)
     refine ⟨fun e hx => ?_, fun hx => (by cases hx)⟩
     cases hx
     exact ⟨rest_yes m h n c k p ga hh hk hp1 hp2 d hp hd hu hc he, .inr ⟨rfl, negD_valid hv.ends.2, hv.ends.2, neg_le_self hnn.hi⟩, rfl⟩
open Go.RowKit Fp Pu
theorem MOk.rows_le {m : List (List Iv)} {n k : Nat} (h : MOk m n k) : m.length ≤ 1000 ∧ ∀ i, (m.getD i []).length ≤ 1000 := ⟨by have := h.rows; have := h.n8; omega, fun i => by have := h.len_le i; omega⟩
open Go.RowKit Fp Pu
abbrev vja0 (m : List (List Iv)) (h : Iv) (p) (k) (e : Iv) := fun i_ => (List.range (((sumM m h p k).getD i_ []).length)).map (fun j_ => addI (((sumM m h p k).getD i_ []).getD j_ wholeI) e p)
abbrev vja1 (m : List (List Iv)) (h : Iv) (p) (k) (x) (e : Iv) := fun j_ => addI (((sumM m h p k).getD x []).getD j_ wholeI) e p
abbrev vja2 (m : List (List Iv)) (h : Iv) (p) (k) (e : Iv) := (List.range ((sumM m h p k).length)).map (vja0 m h p k e)
abbrev vja3 (m : List (List Iv)) (h : Iv) (p) (k) (x) (y) (e : Iv) := addI (((sumM m h p k).getD x []).getD y wholeI) e p
abbrev vja4 (m : List (List Iv)) (h : Iv) (p) (k) (x) (e : Iv) := ivsP ((List.range (((sumM m h p k).getD x []).length)).map (vja1 m h p k x e))
def expFamA (m : List (List Iv)) (h e : Iv) (k p : Nat) (x : Nat) : PS := ⟨122, true, [(14, .e (iP (((x + 1) : Nat) : Int))), (13, .e (matP (sumM m h p x))), (12, .e (matP (termM m h p x))), (10, .box 10 0), (5, .box 5 0), (0, .e (matP m)), (2, .e (iP k)), (3, .e (iP p))], [(10, .cells 28 (ivL e)), (5, .cells 28 (ivL h))]⟩
def expFamB (m : List (List Iv)) (h e : Iv) (k p : Nat) (x : Nat) : PS := ⟨122, true, [(17, .own 17), (96, .e (iP x)), (95, .e (iP (((sumM m h p k).length : Nat) : Int))), (94, .e (matP (sumM m h p k))), (10, .box 10 0), (3, .e (iP p))], [(17, .row true 31 x 1 (matE ((List.range x).map (vja0 m h p k e)))), (10, .cells 28 (ivL e))]⟩
def expFamC (m : List (List Iv)) (h e : Iv) (k p x : Nat) (y : Nat) : PS := ⟨122, true, [(20, .own 20), (102, .e (iP y)), (101, .e (iP ((((sumM m h p k).getD x []).length : Nat) : Int))), (100, .e (ivsP ((sumM m h p k).getD x []))), (17, .own 17), (96, .e (iP x)), (95, .e (iP (((sumM m h p k).length : Nat) : Int))), (94, .e (matP (sumM m h p k))), (10, .box 10 0), (3, .e (iP p))], [(20, .row true 28 y 7 (ivsE ((List.range y).map (vja1 m h p k x e)))), (17, .row true 31 x 1 (matE ((List.range x).map (vja0 m h p k e)))), (10, .cells 28 (ivL e))]⟩
theorem exp_no1 (m : List (List Iv)) (h : Iv) (n k p : Nat) (ga : MOk m n n) (hh : h.Valid) (hha : h.all = false) (hk1 : 1 ≤ k) (hk : k ≤ 16) (hp1 : 8 ≤ p) (hp2 : p ≤ 512) (hr : restI m h k p = none) : PCt 12 [(matP m), (ivP h), (iP k), (iP p)] (.tup [.v (.slice none 0 0), iP 15]) := by
 have ra := ga.rows
 have n1 := ga.n1
 have n8 := ga.n8
 obtain ⟨x0, hx0⟩ := (rest_pc m h n n k p ga hh (by omega) hp1 hp2).2 hr
 exact tr true Tryz.call12 Tryz.func12 (chain [.c (square_pc _ _ _ ga : PCt 40 [(matP m)] _), tT 24 (n = n) rfl, .c (ivValid_pc h ‹_›), tB 33 (hha : h.all = false), tF 36 ((p : Int) < 8) (by omega), tF 39 (512 < (p : Int)) (by omega),
  tF 43 ((k : Int) < 1) (by omega), tF 47 (16 < (k : Int)) (by omega), .c (hx0 : PCt 42 [(matP m), (ivP h), (iP k), (iP p)] _)] <| .nil) (by kernel_rfl)
theorem exp_no2 (m : List (List Iv)) (h : Iv) (n k p : Nat) (ga : MOk m n n) (hh : h.Valid) (hha : h.all = false) (hk1 : 1 ≤ k) (hk : k ≤ 16) (hp1 : 8 ≤ p) (hp2 : p ≤ 512) (e : Iv) (hr : restI m h k p = some e) (hall : (((List.range ((sumM m h p k).length)).map (fun i_ => (List.range (((sumM m h p k).getD i_ []).length)).map (fun j_ => addI (((sumM m h p k).getD i_ []).getD j_ wholeI) e p))).any fun r => r.any fun x => x.all) = true) : PCt 12 [(matP m), (ivP h), (iP k), (iP p)] (.tup [.v (.slice none 0 0), iP 15]) := by
 have ra := ga.rows
 have n1 := ga.n1
 have n8 := ga.n8
 obtain ⟨hr1, hev, hea⟩ := (rest_pc m h n n k p ga hh (by omega) hp1 hp2).1 e hr
 have gs := sumM_ok (h := h) (p := p) ga (by omega) (by omega) k
 have rs := gs.rows
 have hrows : ∀ i, (((List.range ((sumM m h p k).length)).map (fun i_ => (List.range (((sumM m h p k).getD i_ []).length)).map (fun j_ => addI (((sumM m h p k).getD i_ []).getD j_ wholeI) e p))).getD i []).length ≤ 1000 := by
  intro i
  by_cases hi : i < (sumM m h p k).length
  ·rw [rows_getD hi]; have := gs.len_le i; simp only [List.length_map, List.length_range]; omega
  ·rw [List.getD_eq_getElem?_getD, List.getElem?_eq_none (by simpa using hi)]; exact Nat.zero_le _
 exact tr true Tryz.call12 Tryz.func12 (chain [.c (square_pc _ _ _ ga : PCt 40 [(matP m)] _), tT 24 (n = n) rfl, .c (ivValid_pc h ‹_›), tB 33 (hha : h.all = false), tF 36 ((p : Int) < 8) (by omega), tF 39 (512 < (p : Int)) (by omega),
  tF 43 ((k : Int) < 1) (by omega), tF 47 (16 < (k : Int)) (by omega), .c (hr1 : PCt 42 [(matP m), (ivP h), (iP k), (iP p)] _), .c (matId_pc m.length (by omega) (by omega)),
  .s (Sp.upto (expFamA m h e k p) 0 k (by omega) (fun x hx hltx => by
    have w1 := termM_ok (h := h) ga (show 1 ≤ p by omega) (by omega) x
    have w2 := mulM_ok w1 ga (show 1 ≤ p by omega) (show p ≤ 4096 by omega)
    have w3 := numI_valid (x + 1) (by omega)
    have w4 := divI_valid h (numI (((x + 1) : Nat) : Int)) (show 1 ≤ p by omega) (show p ≤ 4096 by omega)
    have w5 := sumM_ok (h := h) ga (show 1 ≤ p by omega) (by omega) x
    have w6 : MOk (scaleM (mulM (termM m h p x) m p) (divI h (numI (((x + 1) : Nat) : Int)) p) p) n n := scaleM_ok w2 (show 1 ≤ p by omega) (by omega)
    exact spt (chain [tT 65 ((((x + 1) : Nat) : Int) ≤ (k : Int)) (by omega), .c (matMul_pc _ _ _ _ _ _ ‹_› ‹_› (by omega) (by omega) : PCt 43 [(matP (termM m h p x)), (matP m), (iP p)] _),
     tB 76 (by decide : ((0 : Int) != 0) = false), .c (num_pc (x + 1) (by omega)), .c (ivDiv_pc h (numI (((x + 1) : Nat) : Int)) p ‹_› ‹_› (by omega) (by omega)),
     .c (matScale_pc _ _ _ _ _ ‹_› ‹_› (by omega) (by omega) : PCt 44 [(matP (mulM (termM m h p x) m p)), (ivP (divI h (numI (((x + 1) : Nat) : Int)) p)), (iP p)] _),
     .c (matAdd_pc _ _ _ _ _ ‹_› ‹_› (by omega) (by omega) : PCt 47 [(matP (sumM m h p x)), (matP (scaleM (mulM (termM m h p x) m p) (divI h (numI (((x + 1) : Nat) : Int)) p) p)), (iP p)] _),
     tB 93 (by decide : ((0 : Int) != 0) = false), r64 ((((x + 1) : Nat) : Int) + 1) (by omega)] <| .nil) (by kernel_rfl))
  (fun hx => by
    exact spt (chain [tF 65 ((((k + 1) : Nat) : Int) ≤ (k : Int)) (by omega)] <| .nil) (by kernel_rfl)) (by nofun) : LpT 11 Tryz.f12 (expFamA m h e k p 0) (.exit 0) ⟨122, true, [(13, .e (matP (sumM m h p k))), (10, .box 10 0), (3, .e (iP p))], [(10, .cells 28 (ivL e))]⟩) (chain [.o 14 (.int (by first | rfl | omega | (simp only [Nat.add_mul, Nat.one_mul]; omega)) : PV.le (.e (iP 1)) (.e (iP (((0 + 1) : Nat) : Int))))] <| .nil),
  .y 17 17 true 31 1 (matE ((List.range 0).map (vja0 m h p k e))),
  .s (Sp.upto (expFamB m h e k p) 0 ((sumM m h p k).length) (by omega) (fun x hx hltx => by
    have lx := gs.len_at (show x < n by omega)
    exact spt (chain [tT 97 ((x : Int) < (((sumM m h p k).length : Nat) : Int)) (by omega), iX ((x : Int)) ((sumM m h p k).length) (by omega),
     .y 20 20 true 28 7 (ivsE ((List.range 0).map (vja1 m h p k x e))),
     .s (Sp.upto (expFamC m h e k p x) 0 (((sumM m h p k).getD x []).length) (by omega) (fun y hy hlty => by
    have w1 := gs.val_at (show x < n by omega) (show y < n by omega)
    have h1 := one_len (addI (((sumM m h p k).getD x []).getD y wholeI) e p)
    exact spt (chain [tT 103 ((y : Int) < ((((sumM m h p k).getD x []).length : Nat) : Int)) (by omega), iX ((y : Int)) (((sumM m h p k).getD x []).length) (by omega),
     .c (ivAdd_pc (((sumM m h p k).getD x []).getD y wholeI) e p ‹_› ‹_› (by omega) (by omega)),
     .o 111 (.e (ivs1_le _) : PV.le (.e (.sl true 1 7 fun i_ j_ => (ivL (vja3 m h p k x y e)).getD (i_ * 7 + j_) (.v (.bool false)))) (.e (ivsP [(vja3 m h p k x y e)]))),
     .a (by omega : (y + [(addI (((sumM m h p k).getD x []).getD y wholeI) e p)].length) * 88 ≤ 140737488355328), r64 ((y : Int) + 1) (by omega)] <| .e (chain [.b 20 (ivs_pushR rfl rfl rfl : Bx.le (.row true 28 (y + [(vja3 m h p k x y e)].length) 7 (fun i_ j_ => if i_ < y then (ivsE ((List.range y).map (vja1 m h p k x e))) i_ j_ else (E.elf (ivsP [(vja3 m h p k x y e)])) (i_ - y) j_)) (.row true 28 (y + 1) 7 (ivsE ((List.range (y + 1)).map (vja1 m h p k x e)))))] <| .nil)) (by kernel_rfl))
  (fun hy => by
    exact spt (chain [tF 103 (((((sumM m h p k).getD x []).length : Nat) : Int) < ((((sumM m h p k).getD x []).length : Nat) : Int)) (by omega), .z 20] <| .e (chain [.o 20 (.e (ivsRow_le (by simp)) : PV.le (.e (.sl true (((sumM m h p k).getD x []).length) 7 (ivsE ((List.range (((sumM m h p k).getD x []).length)).map (fun j_ => addI (((sumM m h p k).getD x []).getD j_ wholeI) e p))))) (.e (ivsP ((List.range (((sumM m h p k).getD x []).length)).map (fun j_ => addI (((sumM m h p k).getD x []).getD j_ wholeI) e p)))))] <| .nil)) (by kernel_rfl)) (by nofun) : LpT 26 Tryz.f12 (expFamC m h e k p x 0) (.exit 4) ⟨122, true, [(20, .e (vja4 m h p k x e)), (17, .own 17), (96, .e (iP x)), (95, .e (iP (((sumM m h p k).length : Nat) : Int))), (94, .e (matP (sumM m h p k))), (10, .box 10 0), (3, .e (iP p))], [(17, .row true 31 x 1 (matE ((List.range x).map (vja0 m h p k e)))), (10, .cells 28 (ivL e))]⟩) .nil,
     .a (by omega : (x + 1) * 24 ≤ 140737488355328), r64 ((x : Int) + 1) (by omega)] <| .e (chain [.b 17 (mat_pushR rfl rfl rfl (fun j hj => by cases Nat.lt_one_iff.1 hj; rfl) : Bx.le (.row true 31 (x + 1) 1 (fun i_ j_ => if i_ < x then (matE ((List.range x).map (vja0 m h p k e))) i_ j_ else (E.elf (.sl true 1 1 fun i_ j_ => [(vja4 m h p k x e)].getD (i_ * 1 + j_) (.v (.bool false)))) (i_ - x) j_)) (.row true 31 (x + 1) 1 (matE ((List.range (x + 1)).map (vja0 m h p k e)))))] <| .nil)) (by kernel_rfl))
  (fun hx => by
    exact spt (chain [tF 97 ((((sumM m h p k).length : Nat) : Int) < (((sumM m h p k).length : Nat) : Int)) (by omega), .z 17] <| .e (chain [.o 17 (.e (matRow_le (by simp)) : PV.le (.e (.sl true ((sumM m h p k).length) 1 (matE ((List.range ((sumM m h p k).length)).map (fun i_ => (List.range (((sumM m h p k).getD i_ []).length)).map (fun j_ => addI (((sumM m h p k).getD i_ []).getD j_ wholeI) e p)))))) (.e (matP ((List.range ((sumM m h p k).length)).map (fun i_ => (List.range (((sumM m h p k).getD i_ []).length)).map (fun j_ => addI (((sumM m h p k).getD i_ []).getD j_ wholeI) e p))))))] <| .nil)) (by kernel_rfl)) (by nofun) : LpT 22 Tryz.f12 (expFamB m h e k p 0) (.exit 2) ⟨122, true, [(17, .e (matP (vja2 m h p k e)))], []⟩) .nil,
  .c (all_pc (vja2 m h p k e) (by simp; omega) hrows),
  tB 120 (hall : (((vja2 m h p k e)).any fun r => r.any fun x => x.all) = true)] <| .nil) (by kernel_rfl)
theorem exp_yes (m : List (List Iv)) (h : Iv) (n k p : Nat) (ga : MOk m n n) (hh : h.Valid) (hha : h.all = false) (hk1 : 1 ≤ k) (hk : k ≤ 16) (hp1 : 8 ≤ p) (hp2 : p ≤ 512) (e : Iv) (hr : restI m h k p = some e) (hall : (((List.range ((sumM m h p k).length)).map (fun i_ => (List.range (((sumM m h p k).getD i_ []).length)).map (fun j_ => addI (((sumM m h p k).getD i_ []).getD j_ wholeI) e p))).any fun r => r.any fun x => x.all) = false) : PCt 12 [(matP m), (ivP h), (iP k), (iP p)] (.tup [matP ((List.range ((sumM m h p k).length)).map (fun i_ => (List.range (((sumM m h p k).getD i_ []).length)).map (fun j_ => addI (((sumM m h p k).getD i_ []).getD j_ wholeI) e p))), iP 0]) := by
 have ra := ga.rows
 have n1 := ga.n1
 have n8 := ga.n8
 obtain ⟨hr1, hev, hea⟩ := (rest_pc m h n n k p ga hh (by omega) hp1 hp2).1 e hr
 have gs := sumM_ok (h := h) (p := p) ga (by omega) (by omega) k
 have rs := gs.rows
 have hrows : ∀ i, (((List.range ((sumM m h p k).length)).map (fun i_ => (List.range (((sumM m h p k).getD i_ []).length)).map (fun j_ => addI (((sumM m h p k).getD i_ []).getD j_ wholeI) e p))).getD i []).length ≤ 1000 := by
  intro i
  by_cases hi : i < (sumM m h p k).length
  ·rw [rows_getD hi]; have := gs.len_le i; simp only [List.length_map, List.length_range]; omega
  ·rw [List.getD_eq_getElem?_getD, List.getElem?_eq_none (by simpa using hi)]; exact Nat.zero_le _
 exact tr true Tryz.call12 Tryz.func12 (chain [.c (square_pc _ _ _ ga : PCt 40 [(matP m)] _), tT 24 (n = n) rfl, .c (ivValid_pc h ‹_›), tB 33 (hha : h.all = false), tF 36 ((p : Int) < 8) (by omega), tF 39 (512 < (p : Int)) (by omega),
  tF 43 ((k : Int) < 1) (by omega), tF 47 (16 < (k : Int)) (by omega), .c (hr1 : PCt 42 [(matP m), (ivP h), (iP k), (iP p)] _), .c (matId_pc m.length (by omega) (by omega)),
  .s (Sp.upto (expFamA m h e k p) 0 k (by omega) (fun x hx hltx => by
    have w1 := termM_ok (h := h) ga (show 1 ≤ p by omega) (by omega) x
    have w2 := mulM_ok w1 ga (show 1 ≤ p by omega) (show p ≤ 4096 by omega)
    have w3 := numI_valid (x + 1) (by omega)
    have w4 := divI_valid h (numI (((x + 1) : Nat) : Int)) (show 1 ≤ p by omega) (show p ≤ 4096 by omega)
    have w5 := sumM_ok (h := h) ga (show 1 ≤ p by omega) (by omega) x
    have w6 : MOk (scaleM (mulM (termM m h p x) m p) (divI h (numI (((x + 1) : Nat) : Int)) p) p) n n := scaleM_ok w2 (show 1 ≤ p by omega) (by omega)
    exact spt (chain [tT 65 ((((x + 1) : Nat) : Int) ≤ (k : Int)) (by omega), .c (matMul_pc _ _ _ _ _ _ ‹_› ‹_› (by omega) (by omega) : PCt 43 [(matP (termM m h p x)), (matP m), (iP p)] _),
     tB 76 (by decide : ((0 : Int) != 0) = false), .c (num_pc (x + 1) (by omega)), .c (ivDiv_pc h (numI (((x + 1) : Nat) : Int)) p ‹_› ‹_› (by omega) (by omega)),
     .c (matScale_pc _ _ _ _ _ ‹_› ‹_› (by omega) (by omega) : PCt 44 [(matP (mulM (termM m h p x) m p)), (ivP (divI h (numI (((x + 1) : Nat) : Int)) p)), (iP p)] _),
     .c (matAdd_pc _ _ _ _ _ ‹_› ‹_› (by omega) (by omega) : PCt 47 [(matP (sumM m h p x)), (matP (scaleM (mulM (termM m h p x) m p) (divI h (numI (((x + 1) : Nat) : Int)) p) p)), (iP p)] _),
     tB 93 (by decide : ((0 : Int) != 0) = false), r64 ((((x + 1) : Nat) : Int) + 1) (by omega)] <| .nil) (by kernel_rfl))
  (fun hx => by
    exact spt (chain [tF 65 ((((k + 1) : Nat) : Int) ≤ (k : Int)) (by omega)] <| .nil) (by kernel_rfl)) (by nofun) : LpT 11 Tryz.f12 (expFamA m h e k p 0) (.exit 0) ⟨122, true, [(13, .e (matP (sumM m h p k))), (10, .box 10 0), (3, .e (iP p))], [(10, .cells 28 (ivL e))]⟩) (chain [.o 14 (.int (by first | rfl | omega | (simp only [Nat.add_mul, Nat.one_mul]; omega)) : PV.le (.e (iP 1)) (.e (iP (((0 + 1) : Nat) : Int))))] <| .nil),
  .y 17 17 true 31 1 (matE ((List.range 0).map (vja0 m h p k e))),
  .s (Sp.upto (expFamB m h e k p) 0 ((sumM m h p k).length) (by omega) (fun x hx hltx => by
    have lx := gs.len_at (show x < n by omega)
    exact spt (chain [tT 97 ((x : Int) < (((sumM m h p k).length : Nat) : Int)) (by omega), iX ((x : Int)) ((sumM m h p k).length) (by omega),
     .y 20 20 true 28 7 (ivsE ((List.range 0).map (vja1 m h p k x e))),
     .s (Sp.upto (expFamC m h e k p x) 0 (((sumM m h p k).getD x []).length) (by omega) (fun y hy hlty => by
    have w1 := gs.val_at (show x < n by omega) (show y < n by omega)
    have h1 := one_len (addI (((sumM m h p k).getD x []).getD y wholeI) e p)
    exact spt (chain [tT 103 ((y : Int) < ((((sumM m h p k).getD x []).length : Nat) : Int)) (by omega), iX ((y : Int)) (((sumM m h p k).getD x []).length) (by omega),
     .c (ivAdd_pc (((sumM m h p k).getD x []).getD y wholeI) e p ‹_› ‹_› (by omega) (by omega)),
     .o 111 (.e (ivs1_le _) : PV.le (.e (.sl true 1 7 fun i_ j_ => (ivL (vja3 m h p k x y e)).getD (i_ * 7 + j_) (.v (.bool false)))) (.e (ivsP [(vja3 m h p k x y e)]))),
     .a (by omega : (y + [(addI (((sumM m h p k).getD x []).getD y wholeI) e p)].length) * 88 ≤ 140737488355328), r64 ((y : Int) + 1) (by omega)] <| .e (chain [.b 20 (ivs_pushR rfl rfl rfl : Bx.le (.row true 28 (y + [(vja3 m h p k x y e)].length) 7 (fun i_ j_ => if i_ < y then (ivsE ((List.range y).map (vja1 m h p k x e))) i_ j_ else (E.elf (ivsP [(vja3 m h p k x y e)])) (i_ - y) j_)) (.row true 28 (y + 1) 7 (ivsE ((List.range (y + 1)).map (vja1 m h p k x e)))))] <| .nil)) (by kernel_rfl))
  (fun hy => by
    exact spt (chain [tF 103 (((((sumM m h p k).getD x []).length : Nat) : Int) < ((((sumM m h p k).getD x []).length : Nat) : Int)) (by omega), .z 20] <| .e (chain [.o 20 (.e (ivsRow_le (by simp)) : PV.le (.e (.sl true (((sumM m h p k).getD x []).length) 7 (ivsE ((List.range (((sumM m h p k).getD x []).length)).map (fun j_ => addI (((sumM m h p k).getD x []).getD j_ wholeI) e p))))) (.e (ivsP ((List.range (((sumM m h p k).getD x []).length)).map (fun j_ => addI (((sumM m h p k).getD x []).getD j_ wholeI) e p)))))] <| .nil)) (by kernel_rfl)) (by nofun) : LpT 26 Tryz.f12 (expFamC m h e k p x 0) (.exit 4) ⟨122, true, [(20, .e (vja4 m h p k x e)), (17, .own 17), (96, .e (iP x)), (95, .e (iP (((sumM m h p k).length : Nat) : Int))), (94, .e (matP (sumM m h p k))), (10, .box 10 0), (3, .e (iP p))], [(17, .row true 31 x 1 (matE ((List.range x).map (vja0 m h p k e)))), (10, .cells 28 (ivL e))]⟩) .nil,
     .a (by omega : (x + 1) * 24 ≤ 140737488355328), r64 ((x : Int) + 1) (by omega)] <| .e (chain [.b 17 (mat_pushR rfl rfl rfl (fun j hj => by cases Nat.lt_one_iff.1 hj; rfl) : Bx.le (.row true 31 (x + 1) 1 (fun i_ j_ => if i_ < x then (matE ((List.range x).map (vja0 m h p k e))) i_ j_ else (E.elf (.sl true 1 1 fun i_ j_ => [(vja4 m h p k x e)].getD (i_ * 1 + j_) (.v (.bool false)))) (i_ - x) j_)) (.row true 31 (x + 1) 1 (matE ((List.range (x + 1)).map (vja0 m h p k e)))))] <| .nil)) (by kernel_rfl))
  (fun hx => by
    exact spt (chain [tF 97 ((((sumM m h p k).length : Nat) : Int) < (((sumM m h p k).length : Nat) : Int)) (by omega), .z 17] <| .e (chain [.o 17 (.e (matRow_le (by simp)) : PV.le (.e (.sl true ((sumM m h p k).length) 1 (matE ((List.range ((sumM m h p k).length)).map (fun i_ => (List.range (((sumM m h p k).getD i_ []).length)).map (fun j_ => addI (((sumM m h p k).getD i_ []).getD j_ wholeI) e p)))))) (.e (matP ((List.range ((sumM m h p k).length)).map (fun i_ => (List.range (((sumM m h p k).getD i_ []).length)).map (fun j_ => addI (((sumM m h p k).getD i_ []).getD j_ wholeI) e p))))))] <| .nil)) (by kernel_rfl)) (by nofun) : LpT 22 Tryz.f12 (expFamB m h e k p 0) (.exit 2) ⟨122, true, [(17, .e (matP (vja2 m h p k e)))], []⟩) .nil,
  .c (all_pc (vja2 m h p k e) (by simp; omega) hrows),
  tB 120 (hall : (((vja2 m h p k e)).any fun r => r.any fun x => x.all) = false)] <| .nil) (by kernel_rfl)
open Go.RowKit Fp Pu
theorem range_rows {s : List (List Iv)} {e : Iv} {p : Nat} : ((List.range (s.length)).map (fun i_ => (List.range ((s.getD i_ []).length)).map (fun j_ => addI ((s.getD i_ []).getD j_ wholeI) e p))) = s.map fun r => r.map fun x => addI x e p := by
 apply List.ext_getElem
 ·simp
 ·intro i h1 h2
  have hi : i < s.length := by simpa using h2
  simp only [List.getElem_map, List.getElem_range]
  rw [getD_eq_getElem hi]
  apply List.ext_getElem
  ·simp
  ·intro j h3 h4
   have hj : j < s[i].length := by simpa using h4
   simp only [List.getElem_map, List.getElem_range]
   rw [getD_eq_getElem hj]
theorem exp_pc (m : List (List Iv)) (h : Iv) (n k p : Nat) (ga : MOk m n n) (hh : h.Valid) (hha : h.all = false) (hk1 : 1 ≤ k) (hk : k ≤ 16) (hp1 : 8 ≤ p) (hp2 : p ≤ 512) :
  (∀ x, expM m h k p = some x → PCt 12 [matP m, ivP h, iP (k : Int), iP (p : Int)] (.tup [matP x, iP 0])) ∧
  (expM m h k p = none → PCt 12 [matP m, ivP h, iP (k : Int), iP (p : Int)] (.tup [.v (.slice none 0 0), iP 15])) := by
 unfold expM
 cases hr : restI m h k p with
 | none => exact ⟨fun x hx => (by cases hx), fun _ => exp_no1 m h n k p ga hh hha hk1 hk hp1 hp2 hr⟩
 | some e =>
  rw [Option.bind_some]
  simp only
  cases hall : ((sumM m h p k).map fun r => r.map fun x => addI x e p).any fun r => r.any fun x => x.all with
  | true =>
   rw [if_pos rfl]
   exact ⟨fun x hx => (by cases hx), fun _ => exp_no2 m h n k p ga hh hha hk1 hk hp1 hp2 e hr (by rw [range_rows]; exact hall)⟩
  | false =>
   rw [if_neg (by decide)]
   refine ⟨fun x hx => ?_, fun hx => (by cases hx)⟩
   cases hx
   have := exp_yes m h n k p ga hh hha hk1 hk hp1 hp2 e hr (by rw [range_rows]; exact hall)
   rwa [range_rows] at this
open Go.RowKit Fp Pu
open Go.RowKit Fp Pu
def eqIv_F (r : List Iv) (g : FuncId) (cap : List E) (i : Nat) : PS := ⟨32, false, [(17, .e (iP i)), (16, .e (iP r.length)), (15, .e (ivsP r)), (1, .e (ivsP r)), (2, .e (.fn g cap))], []⟩
def eqRow_F (m : List (List Iv)) (g : FuncId) (cap : List E) (i : Nat) : PS := ⟨32, false, [(17, .e (iP i)), (16, .e (iP m.length)), (15, .e (matP m)), (1, .e (matP m)), (2, .e (.fn g cap))], []⟩
theorem lawD_pc (n e : Int) (h1 : n.natAbs < 4294967296) (h2 : -1000 ≤ e) (h3 : e ≤ 1000) : PCt 21 [(iP n), (iP e)] (dyP (canonZ n e)) := by
 have hrg : inRange (canon (Dy.neg (intD n)) (Dy.m (intD n)) ((Dy.e (intD n)) + e)) := by rw [canon_again]; exact (canonZ_valid h1 h2 h3).range
 exact tr true Tryz.call21 Tryz.func21 (chain [.c (refIntZ_pc _ (by omega) : PCt 70 [(iP n)] _), .c (refScale_pc _ _ (intZ_valid (by omega)) (by omega) (by omega) hrg : PCt 79 [(dyP (intD n)), (iP e)] _)] <| rQ (dyP (canon (Dy.neg (intD n)) (Dy.m (intD n)) ((Dy.e (intD n)) + e))) (dyP (canonZ n e)) (by rw [canon_again])) (by kernel_rfl)
theorem lawPoint_pc (n e : Int) (h1 : n.natAbs < 4294967296) (h2 : -1000 ≤ e) (h3 : e ≤ 1000) : PCt 10 [(iP n), (iP e)] (ivP (pointI (canonZ n e))) := by
 have hv := canonZ_valid h1 h2 h3
 exact tr true Tryz.call10 Tryz.func10 (chain [.c (lawD_pc _ _ (by omega) (by omega) (by omega) : PCt 21 [(iP n), (iP e)] _), .c (r5Point_pc (canonZ n e))] <| .nil) (by kernel_rfl)
def insI (x y : Iv) : Bool := y.all || (!x.all && (decide (cmpD y.lo x.lo ≤ 0) && decide (cmpD x.hi y.hi ≤ 0)))
theorem ivInside_pc (x y : Iv) (hx : x.Valid) (hy : y.Valid) : PCt 38 [(ivP x), (ivP y)] (bP (insI x y)) := by
 obtain ⟨v1, v2⟩ := hx.ends
 obtain ⟨v3, v4⟩ := hy.ends
 exact tr true Tryz.call38 Tryz.func38 (chain [.c (ivValid_pc x ‹_›), .c (ivValid_pc y ‹_›)] <| .w (y.all = true)
  (fun k1 => chain [tB 14 (k1)] <| rQ (bP true) (bP (insI x y)) (by unfold insI; simp [k1]))
  (fun k1 => chain [tB 14 (Bool.eq_false_iff.2 k1)] <| .w (x.all = true)
   (fun k2 => chain [tB 17 (k2)] <| rQ (bP false) (bP (insI x y)) (by unfold insI; simp [k1, k2]))
   (fun k2 => chain [tB 17 (Bool.eq_false_iff.2 k2), .c (dyCmp_pc _ _ ‹_› ‹_› : PCt 82 [(dyP y.lo), (dyP x.lo)] _)] <| .w ((cmpD y.lo x.lo) ≤ 0)
    (fun k3 => chain [tB 25 (decide_eq_true k3), .c (dyCmp_pc _ _ ‹_› ‹_› : PCt 82 [(dyP x.hi), (dyP y.hi)] _)] <| rQ (bP (decide ((cmpD x.hi y.hi) ≤ 0))) (bP (insI x y)) (by unfold insI; simp [k1, k2, k3]))
    (fun k3 => chain [tB 25 (decide_eq_false k3)] <| rQ (bP false) (bP (insI x y)) (by unfold insI; simp [k1, k2, k3]))))) (by kernel_rfl)
def longB (d : RD) : Bool := decide (20 < d.L.length) || (decide (300 < d.e) || decide (d.e < -300))
def shortB (l : List RI) : Bool := decide (l.length ≤ 8) && !((List.range (l.length)).any fun j_ => longB (l.getD j_ rwhole).lo || longB (l.getD j_ rwhole).hi)
def smallB (m : List (List RI)) : Bool := decide (m.length ≤ 5) && !((List.range (m.length)).any fun i_ => !shortB (m.getD i_ []))
theorem long_pc (d : RD) : PCt 57 [(.agg [(bP d.neg), (slP d.L), (iP d.e)])] (bP (longB d)) := by
 exact tr true Tryz.call57 Tryz.func57 (.w (20 < (d.L.length : Int))
  (fun k1 => chain [tB 6 (decide_eq_true k1)] <| rR (bP (longB d)) (by
      exact .of_eq (by
       have : longB d = true := by unfold longB; simp [show 20 < d.L.length from by omega]
       rw [this]) : E.le (bP true) (bP (longB d))))
  (fun k1 => chain [tB 6 (decide_eq_false k1)] <| .w (300 < d.e)
   (fun k2 => chain [tB 10 (decide_eq_true k2)] <| rR (bP (longB d)) (by
      exact .of_eq (by
       have : longB d = true := by unfold longB; simp [show ¬ 20 < d.L.length from by omega, k2]
       rw [this]) : E.le (bP true) (bP (longB d))))
   (fun k2 => chain [tB 10 (decide_eq_false k2)] <| rR (bP (longB d)) (by
      exact .of_eq (by
       have : longB d = (decide (d.e < (-300))) := by unfold longB; simp [show ¬ 20 < d.L.length from by omega, k2]
       rw [this]) : E.le (bP (decide (d.e < (-300)))) (bP (longB d)))))) (by kernel_rfl)
theorem short1_pc (x : RI) : PCt 56 [(riP x)] (bP (longB x.lo || longB x.hi)) := by
 exact tr true Tryz.call56 Tryz.func56 (chain [.c (long_pc _ : PCt 57 [(rdP x.lo)] _)] <| .w (longB x.lo = true)
  (fun k1 => chain [tB 5 (k1)] <| rQ (bP true) (bP (longB x.lo || longB x.hi)) (by simp [k1]))
  (fun k1 => chain [tB 5 (Bool.eq_false_iff.2 k1), .c (long_pc _ : PCt 57 [(rdP x.hi)] _)] <| rQ (bP (longB x.hi)) (bP (longB x.lo || longB x.hi)) (by simp [k1]))) (by kernel_rfl)
theorem short_pc (r : List RI) : PCt 18 [(risP r)] (bP (shortB r)) := by
 exact tr true Tryz.call18 Tryz.func18 (.w ((r.length : Int) ≤ 8)
  (fun k1 => chain [tB 5 (decide_eq_true k1), .c (iv_any true _ _ 56 [] (fun j_ => longB (r.getD j_ rwhole).lo || longB (r.getD j_ rwhole).hi) (fun j hj => short1_pc _) (by omega) : PCt 55 [(risP r), (.fn 56 [])] _)] <| rQ (bP (!((List.range (r.length)).any fun j_ => longB (r.getD j_ rwhole).lo || longB (r.getD j_ rwhole).hi))) (bP (shortB r)) (by unfold shortB; simp [show r.length ≤ 8 from by omega]))
  (fun k1 => chain [tB 5 (decide_eq_false k1)] <| rQ (bP false) (bP (shortB r)) (by unfold shortB; simp [show ¬ r.length ≤ 8 from by omega]))) (by kernel_rfl)
theorem small1_pc (r : List RI) : PCt 54 [(risP r)] (bP (!shortB r)) := by
 exact tr true Tryz.call54 Tryz.func54 (chain [.c (short_pc _ : PCt 18 [(risP r)] _)] <| .nil) (by kernel_rfl)
theorem small_pc (m : List (List RI)) : PCt 17 [(rmatP m)] (bP (smallB m)) := by
 exact tr true Tryz.call17 Tryz.func17 (.w ((m.length : Int) ≤ 5)
  (fun k1 => chain [tB 5 (decide_eq_true k1), .c (row_any true _ _ 54 [] (fun i_ => !shortB (m.getD i_ [])) (fun i hi => small1_pc _) (by omega) : PCt 53 [(rmatP m), (.fn 54 [])] _)] <| rQ (bP (!((List.range (m.length)).any fun i_ => !shortB (m.getD i_ [])))) (bP (smallB m)) (by unfold smallB; simp [show m.length ≤ 5 from by omega]))
  (fun k1 => chain [tB 5 (decide_eq_false k1)] <| rQ (bP false) (bP (smallB m)) (by unfold smallB; simp [show ¬ m.length ≤ 5 from by omega]))) (by kernel_rfl)
theorem eqIv_same (r : List Iv) (g : FuncId) (cap : List E) (hl : r.length ≤ 1000000) (hp : ∀ i, i < r.length → PCt g ((ivP (r.getD i wholeI)) :: (ivP (r.getD i wholeI)) :: cap) (bP true)) : PCt 76 [(ivsP r), (ivsP r), (.fn g cap)] (bP true) := by
 exact tr false Tryz.call76 Tryz.func76 (chain [tB 14 (natNe_false rfl : ((r.length : Int) != (r.length : Int)) = false),
  .s (Sp.upto (eqIv_F r g cap) 0 r.length (by omega) (fun i hi hlti => by
    exact spt (chain [tT 18 ((i : Int) < (r.length : Int)) (by omega), iX ((i : Int)) (r.length) (by omega), iX ((i : Int)) (r.length) (by omega),
     .c (hp i (by omega) : PCt g ((ivP (r.getD i wholeI)) :: (ivP (r.getD i wholeI)) :: cap) _), r64 ((i : Int) + 1) (by omega)] <| .nil) (by kernel_rfl))
  (fun hi => by
    exact spt (chain [tF 18 ((r.length : Int) < (r.length : Int)) (by omega)] <| .nil) (by kernel_rfl)) (by nofun) : LpT 4 Tryz.f76 (eqIv_F r g cap 0) (.exit 0) ⟨32, false, [], []⟩) .nil] <| .nil) (by kernel_rfl)
theorem eqRow_same (m : List (List Iv)) (g : FuncId) (cap : List E) (hl : m.length ≤ 1000000) (hp : ∀ i, i < m.length → PCt g ((ivsP (m.getD i [])) :: (ivsP (m.getD i [])) :: cap) (bP true)) : PCt 74 [(matP m), (matP m), (.fn g cap)] (bP true) := by
 exact tr false Tryz.call74 Tryz.func74 (chain [tB 14 (natNe_false rfl : ((m.length : Int) != (m.length : Int)) = false),
  .s (Sp.upto (eqRow_F m g cap) 0 m.length (by omega) (fun i hi hlti => by
    exact spt (chain [tT 18 ((i : Int) < (m.length : Int)) (by omega), iX ((i : Int)) (m.length) (by omega), iX ((i : Int)) (m.length) (by omega),
     .c (hp i (by omega) : PCt g ((ivsP (m.getD i [])) :: (ivsP (m.getD i [])) :: cap) _), r64 ((i : Int) + 1) (by omega)] <| .nil) (by kernel_rfl))
  (fun hi => by
    exact spt (chain [tF 18 ((m.length : Int) < (m.length : Int)) (by omega)] <| .nil) (by kernel_rfl)) (by nofun) : LpT 4 Tryz.f74 (eqRow_F m g cap 0) (.exit 0) ⟨32, false, [], []⟩) .nil] <| .nil) (by kernel_rfl)
theorem r5Equal_same (x : Iv) (hx : x.Valid) : PCt 78 [(ivP x), (ivP x)] (bP true) := by
 have l1 := hx.ends.1.limbs
 have l2 := hx.ends.2.limbs
 exact tr true Tryz.call78 Tryz.func78 (chain [tB 9 (beq_self_eq_true _ : (x.all == x.all) = true), .c (refEqual_pc _ _ true (iff_of_true rfl rfl) (by omega) (by omega) : PCt 158 [(dyP x.lo), (dyP x.lo)] _),
  .c (refEqual_pc _ _ true (iff_of_true rfl rfl) (by omega) (by omega) : PCt 158 [(dyP x.hi), (dyP x.hi)] _)] <| .nil) (by kernel_rfl)
theorem equal11_same (x : Iv) (hx : x.Valid) : PCt 77 [(ivP x), (ivP x)] (bP true) := by
 exact tr true Tryz.call77 Tryz.func77 (.w (x.all = true)
  (fun k1 => chain [tB 6 (k1), tB 9 (k1)] <| .nil)
  (fun k1 => chain [tB 6 (Bool.eq_false_iff.2 k1), .c (r5Equal_same _ ‹_› : PCt 78 [(ivP x), (ivP x)] _)] <| .nil)) (by kernel_rfl)
theorem equal1_same (r : List Iv) (hl : r.length ≤ 1000) (hv : ∀ j, j < r.length → (r.getD j wholeI).Valid) : PCt 75 [(ivsP r), (ivsP r)] (bP true) := by
 exact tr true Tryz.call75 Tryz.func75 (chain [.c (eqIv_same r 77 [] (by omega) (fun j hj => equal11_same _ (hv j hj)) : PCt 76 [(ivsP r), (ivsP r), (.fn 77 [])] _)] <| .nil) (by kernel_rfl)
theorem equal_same (m : List (List Iv)) (hl : m.length ≤ 1000) (hr : ∀ i, i < m.length → (m.getD i []).length ≤ 1000) (hv : ∀ i, i < m.length → ∀ j, j < (m.getD i []).length → ((m.getD i []).getD j wholeI).Valid) : PCt 20 [(matP m), (matP m)] (bP true) := by
 exact tr true Tryz.call20 Tryz.func20 (chain [.c (eqRow_same m 75 [] (by omega) (fun i hi => equal1_same _ (hr i hi) (hv i hi)) : PCt 74 [(matP m), (matP m), (.fn 75 [])] _)] <| .nil) (by kernel_rfl)
open Go.RowKit Fp Pu
theorem expM_ok {m x : List (List Iv)} {h : Iv} {n k p : Nat} (ga : MOk m n n) (hh : h.Valid) (hk : k ≤ 1000) (hp1 : 8 ≤ p) (hp2 : p ≤ 512) (hx : expM m h k p = some x) : MOk x n n := by
 unfold expM at hx
 cases hr : restI m h k p with
 | none => rw [hr] at hx; cases hx
 | some e =>
  rw [hr, Option.bind_some] at hx
  simp only at hx
  obtain ⟨_, hev, _⟩ := (rest_pc m h n n k p ga hh hk hp1 hp2).1 e hr
  have gs := sumM_ok (h := h) (p := p) ga (by omega) (by omega) k
  split at hx
  ·cases hx
  ·cases hx
   refine ⟨by rw [List.length_map]; exact gs.rows, fun r hr => ?_, fun r hr y hy => ?_, gs.n1, gs.n8, gs.k1, gs.k8⟩
   ·obtain ⟨r', h1, rfl⟩ := List.mem_map.1 hr
    rw [List.length_map]; exact gs.row r' h1
   ·obtain ⟨r', h1, rfl⟩ := List.mem_map.1 hr
    obtain ⟨y', h2, rfl⟩ := List.mem_map.1 hy
    exact addI_valid (gs.ok r' h1 y' h2) hev (by omega) (by omega)
theorem raw_lists {m : List (List RI)} (r : ROk m) (g : MGood m) : ∃ m', m = rawsM m' ∧ MOk m' m.length (m.getD 0 []).length := by
 have hok : ∀ q, q ∈ m → ∀ x, x ∈ q → x.Ok := by
  intro q hq x hx
  obtain ⟨i, hi, rfl⟩ := List.mem_iff_getElem.1 hq
  obtain ⟨j, hj, rfl⟩ := List.mem_iff_getElem.1 hx
  have := r.ok i hi j (by rw [getD_eq_getElem hi]; exact hj)
  rw [getD_eq_getElem hi, getD_eq_getElem hj] at this
  exact this
 refine ⟨m.map fun q => q.map RI.iv, ?_, ?_, ?_, ?_, r.n1, r.n8, r.k1, r.k8⟩
 ·unfold rawsM rawsI
  rw [List.map_map]
  symm
  refine (List.map_congr_left fun q hq => ?_).trans (List.map_id _)
  show (q.map RI.iv).map Iv.raw = id q
  rw [List.map_map]
  exact (List.map_congr_left fun x hx => (hok q hq x hx).eq (g q hq x hx)).trans (List.map_id _)
 ·rw [List.length_map]
 ·intro q hq
  obtain ⟨q', h1, rfl⟩ := List.mem_map.1 hq
  rw [List.length_map]
  obtain ⟨i, hi, rfl⟩ := List.mem_iff_getElem.1 h1
  have := r.row i hi
  rw [getD_eq_getElem hi] at this
  exact this
 ·intro q hq x hx
  obtain ⟨q', h1, rfl⟩ := List.mem_map.1 hq
  obtain ⟨x', h2, rfl⟩ := List.mem_map.1 hx
  exact (hok q' h1 x' h2).valid
theorem mok_at {m : List (List Iv)} {n k : Nat} (g : MOk m n k) (i j : Nat) : ((m.getD i []).getD j wholeI).Valid := by
 by_cases hi : i < m.length
 ·rw [getD_eq_getElem (d := []) hi]
  by_cases hj : j < m[i].length
  ·rw [getD_eq_getElem hj]
   exact g.ok _ (List.getElem_mem hi) _ (List.getElem_mem hj)
  ·rw [List.getD_eq_getElem?_getD, List.getElem?_eq_none (by omega)]; exact wholeI_valid
 ·rw [List.getD_eq_getElem?_getD (l := m), List.getElem?_eq_none (by omega)]
  exact wholeI_valid
open Go.RowKit Fp Pu
open Go.RowKit Fp Pu
def awM : List (List Iv) := [[(pointI (canonZ 0 0)), (pointI (canonZ 1 0))], [(pointI (canonZ 0 0)), (pointI (canonZ 0 0))]]
def awH : Iv := (pointI (canonZ 1 (-1)))
def awX : List (List Iv) := [[⟨⟨false, 562735496296199119, -59⟩, ⟨false, 590186008310647857, -59⟩, false⟩, ⟨⟨false, 274505120144487375, -59⟩, ⟨false, 301955632158936113, -59⟩, false⟩], [⟨⟨true, 439208192231179801, -64⟩, ⟨false, 439208192231179801, -64⟩, false⟩, ⟨⟨false, 562735496296199119, -59⟩, ⟨false, 590186008310647857, -59⟩, false⟩]]
theorem awM_ok : MOk awM 2 2 where
 rows := rfl
 row := by intro r hr; simp only [awM, List.mem_cons, List.not_mem_nil, or_false] at hr; rcases hr with rfl | rfl <;> rfl
 ok := by
  intro r hr x hx
  simp only [awM, List.mem_cons, List.not_mem_nil, or_false] at hr
  rcases hr with rfl | rfl <;> simp only [List.mem_cons, List.not_mem_nil, or_false] at hx <;> rcases hx with rfl | rfl <;> exact pointI_valid (canonZ_valid (by decide) (by decide) (by decide))
 n1 := by decide
 n8 := by decide
 k1 := by decide
 k8 := by decide
theorem awH_ok : awH.Valid := pointI_valid (canonZ_valid (by decide) (by decide) (by decide))
theorem awX_is : expM awM awH 2 60 = some awX := by kernel_rfl
theorem awExp_pc : PCt 12 [matP awM, ivP awH, iP 2, iP 60] (.tup [matP awX, iP 0]) :=
 (exp_pc awM awH 2 2 60 awM_ok awH_ok rfl (by decide) (by decide) (by decide) (by decide)).1 awX awX_is
theorem awX_ok : MOk awX 2 2 := expM_ok awM_ok awH_ok (by decide) (by decide) (by decide) awX_is
def awXx : Iv := (awX.getD 0 []).getD 1 wholeI
theorem awXx_ok : awXx.Valid := mok_at awX_ok 0 1
theorem awCmp_pc : PCt 37 [.agg [iP 11, iP 21], dyP awXx.hi] (.tup [iP (ratCmp 11 21 awXx.hi), iP 0]) :=
 ratCompare_pc 11 21 awXx.hi awXx_ok.ends.2 (by decide) (by decide) (by decide) (by decide) (by decide)
theorem mat2_le (a b : List Iv) : E.le (.sl true 2 1 fun i_ j_ => [(ivsP a), (ivsP b)].getD (i_ * 1 + j_) (.v (.bool false))) (matP [a, b]) := .sl fun i j hi hj => by
 obtain rfl : j = 0 := by omega
 obtain rfl | rfl : i = 0 ∨ i = 1 := by omega
 ·exact ⟨.refl _, rfl⟩
 ·exact ⟨.refl _, rfl⟩
theorem ivEx_ok : (Iv.mk (canonZ 120 (-8)) (canonZ 135 (-8)) false).Valid := .inr ⟨rfl, canonZ_valid (n := 120) (e := -8) (by decide) (by decide) (by decide), canonZ_valid (n := 135) (e := -8) (by decide) (by decide) (by decide), by decide +kernel⟩
theorem insI_ex : insI awXx (Iv.mk (canonZ 120 (-8)) (canonZ 135 (-8)) false) = true := by kernel_rfl
set_option maxHeartbeats 1000000 in
theorem awake_pc  : PCt 9 [] (bP true) := by
 have l1 : awX.length = 2 := rfl
 have l2 : (awX.getD 0 []).length = 2 := rfl
 exact tr true Tryz.call9 Tryz.func9 (chain [.c (lawPoint_pc 0 0 (by omega) (by omega) (by omega)), .c (lawPoint_pc 1 0 (by omega) (by omega) (by omega)),
  .o 8 (.e (ivs2_le _ _) : PV.le (.e (.sl true 2 7 fun i_ j_ => (ivL (pointI (canonZ 0 0)) ++ ivL (pointI (canonZ 1 0))).getD (i_ * 7 + j_) (.v (.bool false)))) (.e (ivsP [(pointI (canonZ 0 0)), (pointI (canonZ 1 0))]))),
  .c (lawPoint_pc 0 0 (by omega) (by omega) (by omega)), .c (lawPoint_pc 0 0 (by omega) (by omega) (by omega)),
  .o 11 (.e (ivs2_le _ _) : PV.le (.e (.sl true 2 7 fun i_ j_ => (ivL (pointI (canonZ 0 0)) ++ ivL (pointI (canonZ 0 0))).getD (i_ * 7 + j_) (.v (.bool false)))) (.e (ivsP [(pointI (canonZ 0 0)), (pointI (canonZ 0 0))]))),
  .o 12 (.e (mat2_le _ _) : PV.le (.e (.sl true 2 1 fun i_ j_ => [(ivsP [(pointI (canonZ 0 0)), (pointI (canonZ 1 0))]), (ivsP [(pointI (canonZ 0 0)), (pointI (canonZ 0 0))])].getD (i_ * 1 + j_) (.v (.bool false)))) (.e (matP awM))),
  .c (lawPoint_pc 1 (-1) (by omega) (by omega) (by omega)), .c (awExp_pc : PCt 12 [(matP awM), (ivP (pointI (canonZ 1 (-1)))), (iP 2), (iP 60)] _), tB 20 (by decide : ((0 : Int) != 0) = false),
  tB 24 (by kernel_rfl : ((awX.length : Int) != 2) = false), iX (0) (awX.length) (by omega), tB 31 (by kernel_rfl : ((((awX.getD 0 []).length : Nat) : Int) != 2) = false), iX (0) (awX.length) (by omega),
  iX (1) ((awX.getD 0 []).length) (by omega), .c (awCmp_pc : PCt 37 [(.agg [(iP 11), (iP 21)]), (dyP (((awX.getD 0 []).getD 1 wholeI).hi))] _), tB 45 (by decide : ((0 : Int) == 0) = true),
  tB 48 (by kernel_rfl : (decide ((ratCmp 11 21 awXx.hi) ≤ 0)) = true), iX (0) (awX.length) (by omega), iX (1) ((awX.getD 0 []).length) (by omega), .c (lawD_pc 120 (-8) (by omega) (by omega) (by omega)),
  .c (lawD_pc 135 (-8) (by omega) (by omega) (by omega)), .c (ivInside_pc ((awX.getD 0 []).getD 1 wholeI) (Iv.mk (canonZ 120 (-8)) (canonZ 135 (-8)) false) awXx_ok (ivEx_ok))] <| rQ (bP (insI ((awX.getD 0 []).getD 1 wholeI) (Iv.mk (canonZ 120 (-8)) (canonZ 135 (-8)) false))) (bP true) (congrArg bP insI_ex)) (by kernel_rfl)
open Go.RowKit Fp Pu
set_option maxHeartbeats 1000000 in
theorem eqRow_nil  : PCt 74 [(.v (.slice none 0 0)), (.v (.slice none 0 0)), (.fn 75 [])] (bP true) := by
 exact tr false Tryz.call74 Tryz.func74 (chain [tB 14 (by decide : ((0 : Int) != 0) = false), .u 70, tB 18 (by decide : (decide ((0 : Int) < 0)) = false)] <| .nil) (by kernel_rfl)
set_option maxHeartbeats 1000000 in
theorem equal_nil  : PCt 20 [(.v (.slice none 0 0)), (.v (.slice none 0 0))] (bP true) := by
 exact tr true Tryz.call20 Tryz.func20 (chain [.c (eqRow_nil : PCt 74 [(.v (.slice none 0 0)), (.v (.slice none 0 0)), (.fn 75 [])] _)] <| .nil) (by kernel_rfl)
theorem small_le {m : List (List RI)} (h : smallB m = true) : m.length ≤ 5 := by
 unfold smallB at h
 simp only [Bool.and_eq_true, decide_eq_true_eq] at h
 exact h.1
theorem small_rows {m : List (List RI)} (h : smallB m = true) (i : Nat) : (m.getD i []).length ≤ 8 := by
 unfold smallB at h
 simp only [Bool.and_eq_true, decide_eq_true_eq, Bool.not_eq_true'] at h
 by_cases hi : i < m.length
 ·have := List.any_eq_false.1 h.2 i (List.mem_range.2 hi)
  have : shortB (m.getD i []) = true := by simpa using this
  unfold shortB at this
  simp only [Bool.and_eq_true, decide_eq_true_eq] at this
  exact this.1
 ·rw [List.getD_eq_getElem?_getD, List.getElem?_eq_none (by omega)]
  exact Nat.zero_le _
theorem small_len {m : List (List RI)} (h : smallB m = true) : m.length ≤ 1000000 := by have := small_le h; omega
theorem small_row {m : List (List RI)} (h : smallB m = true) (i : Nat) : (m.getD i []).length ≤ 1000000 := by have := small_rows h i; omega
open Go.RowKit Fp Pu
abbrev PCNt (f : FuncId) (args : List E) (nl : Bool) (T : TypeId) (n sz : Nat) (el : Nat → Nat → E) : Prop := PCN Tryz.prog Tb f args nl T n sz el
theorem trn {f : FuncId} {fn : Func} {args : List E} {nl : Bool} {T0 : TypeId} {n sz : Nat} {el : Nat → Nat → E} (hcall : ∀ (vs : Array Value) (w : World), (callFunc f vs).run Tryz.prog w = .ok (.enter f vs) w)
  (hf : Tryz.prog.funcs[f]? = some fn) (t : Tr Tryz.prog Tb) (h : readN TT fn args (.row nl T0 n sz el) t = t.ex fun _ => .a (Bx.le (.row nl T0 n sz el) (.row nl T0 n sz el)) .nil) : PCNt f args nl T0 n sz el :=
 PCN.tr' TT_ok mixed Tb_pers hcall hf t h
open Go.RowKit Fp Pu
def Fp.chainP (l : List (List (List Iv))) (p : Nat) : Nat → List (List Iv)
 | 0 => l.getD 0 []
 | x + 1 => mulM (l.getD (1 + x) []) (Fp.chainP l p x) p
def Fp.formB (l : List (List (List Iv))) (i : Nat) : Bool := decide ((l.getD i []).length ≠ (l.getD 0 []).length) || decide (((l.getD i []).getD 0 []).length ≠ (l.getD i []).length)
def Fp.MV (m : List (List Iv)) : Prop := MOk m m.length (m.getD 0 []).length
theorem chainP_ok {l : List (List (List Iv))} {n p : Nat} (hv : ∀ i, i < l.length → MOk (l.getD i []) n n) (hp1 : 8 ≤ p) (hp2 : p ≤ 512) : ∀ x, x < l.length → MOk (chainP l p x) n n
 | 0, h => hv 0 h
 | x + 1, h => mulM_ok (hv (1 + x) (by omega)) (chainP_ok hv hp1 hp2 x (by omega)) (by omega) (by omega)
def chF1 (l : List (List (List Iv))) (p : Nat) (x : Nat) : PS := ⟨74, true, [(42, .e (iP x)), (41, .e (iP (((l.getD 0 []).length : Nat) : Int))), (6, .own 39), (2, .box 2 0), (1, .e (iP p))], [(39, .row true 31 ((l.getD 0 []).length) 1 (matE (l.getD 0 []))), (2, .cells 62 [(matsP l)])]⟩
def chF2 (l : List (List (List Iv))) (p : Nat) (x : Nat) : PS := ⟨74, true, [(57, .e (iP x)), (56, .e (iP (((l.length - 1) : Nat) : Int))), (55, .e (.sl true (l.length - 1) 1 fun i_ j_ => (E.elf (matsP l)) (1 + i_) j_)), (6, .e (matP (chainP l p x))), (1, .e (iP p))], []⟩
theorem row0_le {nl : Bool} {T n n' sz : Nat} {f g h : Nat → Nat → E} (hn : n = n') (hh : ∀ i j, i < n → j < sz → g i j = h i j ∧ (h i j).nr 2 = true) : Bx.le (.row nl T (0 + n) sz fun i j => if i < 0 then f i j else g (i - 0) j) (.row nl T n' sz h) :=
 .row (by omega) fun i j hi hj => by
  have hi' : i < n := by omega
  simp only [Nat.not_lt_zero, if_false, Nat.sub_zero]
  exact ⟨.of_eq (hh i j hi' hj).1, (hh i j hi' hj).2⟩
theorem slz_le {nl : Bool} {n n' sz : Nat} {f g h : Nat → Nat → E} (hn : n = n') (hh : ∀ i j, i < n → j < sz → g i j = h i j ∧ (h i j).nr 2 = true) : E.le (.sl nl (0 + n) sz fun i j => if i < 0 then f i j else g (i - 0) j) (.sl nl n' sz h) := by
 subst hn
 rw [Nat.zero_add]
 exact .sl fun i j hi hj => by
  simp only [Nat.not_lt_zero, if_false, Nat.sub_zero]
  exact ⟨.of_eq (hh i j hi hj).1, (hh i j hi hj).2⟩
theorem rowSame_le {T n x : Nat} {M : List (List Iv)} : Bx.le (.row true T n 1 fun i' j' => if i' = x ∧ 0 ≤ j' ∧ j' < 0 + 1 then [ivsP (M.getD x [])].getD (j' - 0) .any else matE M i' j') (.row true T n 1 (matE M)) :=
 .row rfl fun i j hi hj => by
  obtain rfl : j = 0 := by omega
  refine ⟨.of_eq ?_, ivsP_nr _⟩
  split
  ·rename_i h; rw [h.1]; rfl
  ·rfl
theorem cloneIv_pc (r : List Iv) (h0 : 0 < r.length) (hl : r.length ≤ 1000) : PCt 109 [(ivsP r)] (ivsP r) := by
 exact tr true Tryz.call109 Tryz.func109 (chain [.a (by omega : 0 < r.length), .bo, .a (by omega : (0 + r.length) * 88 ≤ 140737488355328)] <| rR (ivsP r) (slz_le rfl fun i j hi hj => ⟨rfl, ivL_nr _ _ hj⟩ : E.le (.sl true (0 + r.length) 7 (fun i_ j_ => if i_ < 0 then (fun i_ j_ => ([] : List E).getD (i_ * 7 + j_) (.v (.bool false))) i_ j_ else (E.elf (ivsP r)) (i_ - 0) j_)) (ivsP r))) (by kernel_rfl)
theorem cloneMat_pc (l : List (List Iv)) (h0 : 0 < l.length) (hl : l.length ≤ 1000) : PCNt 108 [matP l] true 31 l.length 1 (matE l) := by
 exact trn Tryz.call108 Tryz.func108 (chain [.a (by omega : 0 < l.length), .bo, .a (by omega : (0 + l.length) * 24 ≤ 140737488355328)] <| .rb (row0_le rfl fun i j hi hj => ⟨rfl, ivsP_nr _⟩ : Bx.le (.row true 31 (0 + l.length) 1 (fun i_ j_ => if i_ < 0 then (fun i_ j_ => ([] : List E).getD (i_ * 1 + j_) (.v (.bool false))) i_ j_ else (E.elf (matP l)) (i_ - 0) j_)) (.row true 31 l.length 1 (matE l)))) (by kernel_rfl)
theorem chain1_pc (m : List (List Iv)) (n k : Nat) (hm : MOk m n k) : PCt 106 [(matP m)] (bP false) := by
 exact tr true Tryz.call106 Tryz.func106 (chain [.c (matValid_pc _ _ _ ‹_› : PCt 103 [(matP m)] _)] <| .nil) (by kernel_rfl)
theorem natNe_dec (a b : Nat) : ((a : Int) != (b : Int)) = decide (a ≠ b) := by
 by_cases h : a = b
 ·rw [decide_eq_false (by simpa using h)]; exact natNe_false h
 ·rw [decide_eq_true (by simpa using h)]; exact natNe_true h
theorem chain2_pc (l : List (List (List Iv))) (i : Nat) (hm : MV (l.getD i [])) (h0 : 0 < l.length) (hm0 : MV (l.getD 0 [])) : PCt 107 [(matP (l.getD i [])), (.ref 1 fun j_ => [(matsP l)].getD j_ .any)] (bP (formB l i)) := by
 have n1 := hm.n1
 have q1 := hm0.n1
 exact tr true Tryz.call107 Tryz.func107 (chain [iX (0) (l.length) (by omega)] <| .w ((((l.getD i []).length : Nat) : Int) = (((l.getD 0 []).length : Nat) : Int))
  (fun k1 => chain [tB 10 (bne_eq_false_iff_eq.2 k1), iX (0) ((l.getD i []).length) (by omega)] <| rQ (bP (((((l.getD i []).getD 0 []).length : Nat) : Int) != (((l.getD i []).length : Nat) : Int))) (bP (formB l i)) (by unfold formB; rw [natNe_dec, decide_eq_false (show ¬ ((l.getD i []).length) ≠ ((l.getD 0 []).length) by omega), Bool.false_or]))
  (fun k1 => chain [tB 10 (bne_iff_ne.2 k1)] <| rQ (bP true) (bP (formB l i)) (by unfold formB; rw [decide_eq_true (show ((l.getD i []).length) ≠ ((l.getD 0 []).length) by omega), Bool.true_or]))) (by kernel_rfl)
theorem chain_range (l : List (List (List Iv))) (h0 : 0 < l.length) (hl : l.length ≤ 6) (hv : ∀ i, i < l.length → MV (l.getD i [])) (p : Int) (hp : ¬ (8 ≤ p ∧ p ≤ 512)) : PCt 33 [(matsP l), (iP p)] (.tup [(.v (.slice none 0 0)), (iP 2)]) := by
 exact tr true Tryz.call33 Tryz.func33 (chain [tB 15 (natZ_false (by omega) : ((l.length : Int) == 0) = false), tF 19 (1000 < (l.length : Int)) (by omega),
  .c ((mat_any true l.length (fun i _ => matP (l.getD i [])) 106 [] (fun _ => false) (fun i hi => chain1_pc _ _ _ (hv i hi)) (by omega)).res (.of_eq (by rw [List.any_eq_false.2 (fun _ _ => by simp)])) : PCt 31 [(matsP l), (.fn 106 [])] _)] <| .w (p < 8)
  (fun k1 => chain [tB 27 (decide_eq_true k1)] <| .nil)
  (fun k1 => chain [tB 27 (decide_eq_false k1)] <| .w (512 < p)
   (fun k2 => chain [tB 30 (decide_eq_true k2)] <| .nil)
   (fun k2 => .x (by exact absurd ⟨by omega, by omega⟩ hp)))) (by kernel_rfl)
theorem chain_form (l : List (List (List Iv))) (h0 : 0 < l.length) (hl : l.length ≤ 6) (hv : ∀ i, i < l.length → MV (l.getD i [])) (p : Nat) (hp1 : 8 ≤ p) (hp2 : p ≤ 512) (hf : ((List.range (l.length)).any (formB l)) = true) : PCt 33 [(matsP l), (iP p)] (.tup [(.v (.slice none 0 0)), (iP 3)]) := by
 exact tr true Tryz.call33 Tryz.func33 (chain [tB 15 (natZ_false (by omega) : ((l.length : Int) == 0) = false), tF 19 (1000 < (l.length : Int)) (by omega),
  .c ((mat_any true l.length (fun i _ => matP (l.getD i [])) 106 [] (fun _ => false) (fun i hi => chain1_pc _ _ _ (hv i hi)) (by omega)).res (.of_eq (by rw [List.any_eq_false.2 (fun _ _ => by simp)])) : PCt 31 [(matsP l), (.fn 106 [])] _),
  tF 27 ((p : Int) < 8) (by omega), tF 30 (512 < (p : Int)) (by omega),
  .c (mat_any true l.length (fun i _ => matP (l.getD i [])) 107 [(.ref 1 fun j_ => [(matsP l)].getD j_ .any)] (formB l) (fun i hi => chain2_pc l i (hv i hi) (by omega) (hv 0 (by omega))) (by omega) : PCt 31 [(matsP l), (.fn 107 [(.ref 1 fun j_ => [(matsP l)].getD j_ .any)])] _),
  tB 35 (hf : ((List.range (l.length)).any (formB l)) = true)] <| .nil) (by kernel_rfl)
theorem chain_yes (l : List (List (List Iv))) (h0 : 0 < l.length) (hl : l.length ≤ 6) (n : Nat) (hv : ∀ i, i < l.length → MOk (l.getD i []) n n) (hf : ((List.range (l.length)).any (formB l)) = false) (p : Nat) (hp1 : 8 ≤ p) (hp2 : p ≤ 512) : PCt 33 [(matsP l), (iP p)] (.tup [(matP (chainP l p (l.length - 1))), (iP 0)]) := by
 have hg0 := hv 0 h0
 have r0 := hg0.rows
 have n1 := hg0.n1
 have n8 := hg0.n8
 have hvv : ∀ i, i < l.length → MV (l.getD i []) := fun i hi => by
  have g := hv i hi
  unfold MV
  rw [g.rows, g.len_at (show 0 < n by have := g.n1; omega)]
  exact g
 exact tr true Tryz.call33 Tryz.func33 (chain [tB 15 (natZ_false (by omega) : ((l.length : Int) == 0) = false), tF 19 (1000 < (l.length : Int)) (by omega),
  .c ((mat_any true l.length (fun i _ => matP (l.getD i [])) 106 [] (fun _ => false) (fun i hi => chain1_pc _ _ _ (hv i hi)) (by omega)).res (.of_eq (by rw [List.any_eq_false.2 (fun _ _ => by simp)])) : PCt 31 [(matsP l), (.fn 106 [])] _),
  tF 27 ((p : Int) < 8) (by omega), tF 30 (512 < (p : Int)) (by omega),
  .c (mat_any true l.length (fun i _ => matP (l.getD i [])) 107 [(.ref 1 fun j_ => [(matsP l)].getD j_ .any)] (formB l) (fun i hi => chain2_pc l i (hvv i hi) (by omega) (hvv 0 (by omega))) (by omega) : PCt 31 [(matsP l), (.fn 107 [(.ref 1 fun j_ => [(matsP l)].getD j_ .any)])] _),
  tB 35 (hf : ((List.range (l.length)).any (formB l)) = false), iX (0) (l.length) (by omega), .cn (cloneMat_pc _ (by omega) (by omega) : PCNt 108 [(matP (l.getD 0 []))] true 31 ((l.getD 0 []).length) 1 (matE (l.getD 0 []))),
  .s (Sp.upto (chF1 l p) 0 ((l.getD 0 []).length) (by omega) (fun x hx hltx => by
    have w1 := hg0.len_at (show x < n by omega)
    exact spt (chain [tT 43 ((x : Int) < (((l.getD 0 []).length : Nat) : Int)) (by omega), iX ((x : Int)) ((l.getD 0 []).length) (by omega), .a (by omega : x < (l.getD 0 []).length),
     .c (cloneIv_pc ((l.getD 0 []).getD x []) (by omega) (by omega)), iX ((x : Int)) ((l.getD 0 []).length) (by omega), .a (by omega : x < (l.getD 0 []).length), r64 ((x : Int) + 1) (by omega)] <| .e (chain [.b 39 (rowSame_le : Bx.le (.row true 31 ((l.getD 0 []).length) 1 (fun i' j' => if i' = x ∧ 0 ≤ j' ∧ j' < 0 + 1 then [(ivsP ((l.getD 0 []).getD x []))].getD (j' - 0) .any else (matE (l.getD 0 [])) i' j')) (.row true 31 ((l.getD 0 []).length) 1 (matE (l.getD 0 []))))] <| .nil)) (by kernel_rfl))
  (fun hx => by
    exact spt (chain [tF 43 ((((l.getD 0 []).length : Nat) : Int) < (((l.getD 0 []).length : Nat) : Int)) (by omega), .z 39] <| .e (chain [.o 6 (.e (matRow_le rfl) : PV.le (.e (.sl true ((l.getD 0 []).length) 1 (matE (l.getD 0 [])))) (.e (matP (l.getD 0 []))))] <| .nil)) (by kernel_rfl)) (by nofun) : LpT 9 Tryz.f33 (chF1 l p 0) (.exit 1) ⟨74, true, [(6, .e (matP (l.getD 0 []))), (2, .box 2 0), (1, .e (iP p))], [(2, .cells 62 [(matsP l)])]⟩) .nil,
  .a (by omega : 0 ≤ (1 : Int) ∧ (1 : Int) ≤ (l.length : Int)),
  .s (Sp.upto (chF2 l p) 0 (l.length - 1) (by omega) (fun x hx hltx => by
    have w1 := hv (1 + x) (by omega)
    have w2 := chainP_ok hv hp1 hp2 x (by omega)
    exact spt (chain [tT 58 ((x : Int) < (((l.length - 1) : Nat) : Int)) (by omega), iX ((x : Int)) ((l.length - 1)) (by omega), .c (matMul_pc (l.getD (1 + x) []) (chainP l p x) p n n n w1 w2 (by omega) (by omega)),
     tB 69 (by decide : ((0 : Int) != 0) = false), r64 ((x : Int) + 1) (by omega)] <| .e (chain [.o 6 (.e (.of_eq rfl) : PV.le (.e (matP (mulM (l.getD (1 + x) []) (chainP l p x) p))) (.e (matP (chainP l p (x + 1)))))] <| .nil)) (by kernel_rfl))
  (fun hx => by
    exact spt (chain [tF 58 ((((l.length - 1) : Nat) : Int) < (((l.length - 1) : Nat) : Int)) (by omega)] <| .nil) (by kernel_rfl)) (by nofun) : LpT 14 Tryz.f33 (chF2 l p 0) (.exit 3) ⟨74, true, [(6, .e (matP (chainP l p (l.length - 1))))], []⟩) (chain [.o 6 (.e (.of_eq rfl) : PV.le (.e (matP (l.getD 0 []))) (.e (matP (chainP l p 0))))] <| .nil)] <| .nil) (by kernel_rfl)
open Go.RowKit Fp Pu
def r32cF0 (l : List (List (List RI))) (p : Int) (x : Nat) : PS := ⟨84, true, [(6, .e (iP x)), (0, .e (rmatsP l)), (1, .e (iP p))], []⟩
def r32cF1 (l : List (List (List Iv))) (p : Int) (x : Nat) : PS := ⟨84, true, [(6, .e (iP x)), (0, .e (matsP l)), (1, .e (iP p))], []⟩
def r32cF1A (l : List (List (List Iv))) (p : Nat) (x : Nat) : PS := ⟨84, true, [(6, .e (iP x)), (0, .e (matsP l)), (1, .e (iP p))], []⟩
def r32cF2A (l : List (List (List Iv))) (p : Nat) (x : Nat) : PS := ⟨84, true, [(7, .e (iP x)), (0, .e (matsP l)), (1, .e (iP p))], []⟩
def r32cF1B (l : List (List (List Iv))) (p : Nat) (x : Nat) : PS := ⟨84, true, [(6, .e (iP x)), (0, .e (matsP l)), (1, .e (iP p))], []⟩
def r32cF2B (l : List (List (List Iv))) (p : Nat) (x : Nat) : PS := ⟨84, true, [(7, .e (iP x)), (0, .e (matsP l)), (1, .e (iP p))], []⟩
def r32cF1Y (l : List (List (List Iv))) (p : Nat) (x : Nat) : PS := ⟨84, true, [(6, .e (iP x)), (0, .e (matsP l)), (1, .e (iP p))], []⟩
def r32cF2 (l : List (List (List Iv))) (p : Nat) (x : Nat) : PS := ⟨84, true, [(7, .e (iP x)), (0, .e (matsP l)), (1, .e (iP p))], []⟩
def r32cF3 (l : List (List (List Iv))) (p : Nat) (x : Nat) : PS := ⟨84, true, [(9, .e (iP (((1 + x) : Nat) : Int))), (8, .e (matP (chainP l p x))), (0, .e (matsP l)), (1, .e (iP p))], []⟩
set_option maxHeartbeats 1000000 in
theorem r32Chain_nil (l : List (List (List RI))) (p : Int) (h : l.length = 0) : PCt 34 [(rmatsP l), (iP p)] (.tup [(.v (.slice none 0 0)), (iP 1)]) := by
 exact tr true Tryz.call34 Tryz.func34 (chain [tB 12 (natZ_true h : ((l.length : Int) == 0) = true)] <| .nil) (by kernel_rfl)
set_option maxHeartbeats 1000000 in
theorem r32Chain_arg (l : List (List (List RI))) (hl : l.length ≤ 6) (hg : ∀ i, MGood (l.getD i [])) (hl1 : ∀ i, (l.getD i []).length ≤ 1000000) (hl2 : ∀ i j, ((l.getD i []).getD j []).length ≤ 1000000) (p : Int) (N : Nat) (hN0 : N < l.length) (hlo : ∀ x, x < N → matOkB (l.getD x []) = true) (hN : matOkB (l.getD N []) = false) : PCt 34 [(rmatsP l), (iP p)] (.tup [(.v (.slice none 0 0)), (iP 1)]) := by
 exact tr true Tryz.call34 Tryz.func34 (chain [tB 12 (natZ_false (by omega) : ((l.length : Int) == 0) = false), tF 16 (1000 < (l.length : Int)) (by omega),
  .s (Sp.upto (r32cF0 l p) 0 N (by omega) (fun x hx hltx => by
    exact spt (chain [tT 21 ((x : Int) < (l.length : Int)) (by omega), iX ((x : Int)) (l.length) (by omega), .c (r7ValidR_pc _ (hg _) (hl1 _) (hl2 _) : PCt 96 [(rmatP (l.getD x []))] _),
     tB 28 (hlo x (by omega) : (matOkB (l.getD x [])) = true), r64 ((x : Int) + 1) (by omega)] <| .nil) (by kernel_rfl))
  (fun hx => by
    exact spt (chain [tT 21 ((N : Int) < (l.length : Int)) (by omega), iX ((N : Int)) (l.length) (by omega), .c (r7ValidR_pc _ (hg _) (hl1 _) (hl2 _) : PCt 96 [(rmatP (l.getD N []))] _), tB 28 (hN : (matOkB (l.getD N [])) = false)] <| .nil) (by kernel_rfl)) (by nofun) : LpT 4 Tryz.f34 (r32cF0 l p 0) .ret ⟨84, true, [(5, .e (iP 1)), (4, .e (.v (.slice none 0 0)))], []⟩) .nil] <| .nil) (by kernel_rfl)
set_option maxHeartbeats 1000000 in
theorem r32Chain_range (l : List (List (List Iv))) (h0 : 0 < l.length) (hl : l.length ≤ 6) (hv : ∀ i, i < l.length → MV (l.getD i [])) (p : Int) (hpb : precB p = false) : PCt 34 [(matsP l), (iP p)] (.tup [(.v (.slice none 0 0)), (iP 2)]) := by
 exact tr true Tryz.call34 Tryz.func34 (chain [tB 12 (natZ_false (by omega) : ((l.length : Int) == 0) = false), tF 16 (1000 < (l.length : Int)) (by omega),
  .s (Sp.upto (r32cF1 l p) 0 l.length (by omega) (fun x hx hltx => by
    have w1 := hv x (by omega)
    exact spt (chain [tT 21 ((x : Int) < (l.length : Int)) (by omega), iX ((x : Int)) (l.length) (by omega), .c (r7Valid_pc _ _ _ w1 : PCt 96 [(matP (l.getD x []))] _), r64 ((x : Int) + 1) (by omega)] <| .nil) (by kernel_rfl))
  (fun hx => by
    exact spt (chain [tF 21 ((l.length : Int) < (l.length : Int)) (by omega)] <| .nil) (by kernel_rfl)) (by nofun) : LpT 4 Tryz.f34 (r32cF1 l p 0) (.exit 0) ⟨84, true, [(0, .e (matsP l)), (1, .e (iP p))], []⟩) .nil,
  .c (refPrec_pc _ : PCt 58 [(iP p)] _), tB 31 (hpb : (precB p) = false)] <| .nil) (by kernel_rfl)
theorem formB_false {l : List (List (List Iv))} {i : Nat} (h : formB l i = false) : (l.getD i []).length = (l.getD 0 []).length ∧ ((l.getD i []).getD 0 []).length = (l.getD i []).length := by
 unfold formB at h
 rw [Bool.or_eq_false_iff, decide_eq_false_iff_not, decide_eq_false_iff_not] at h
 exact ⟨by omega, by omega⟩
set_option maxHeartbeats 1000000 in
theorem r32Chain_formA (l : List (List (List Iv))) (h0 : 0 < l.length) (hl : l.length ≤ 6) (hv : ∀ i, i < l.length → MV (l.getD i [])) (p : Nat) (hp1 : 8 ≤ p) (hp2 : p ≤ 512) (N : Nat) (hN0 : N < l.length) (hlo : ∀ x, x < N → formB l x = false) (hN : ¬ (l.getD N []).length = ((l.getD N []).getD 0 []).length) : PCt 34 [(matsP l), (iP p)] (.tup [(.v (.slice none 0 0)), (iP 3)]) := by
 exact tr true Tryz.call34 Tryz.func34 (chain [tB 12 (natZ_false (by omega) : ((l.length : Int) == 0) = false), tF 16 (1000 < (l.length : Int)) (by omega),
  .s (Sp.upto (r32cF1A l p) 0 l.length (by omega) (fun x hx hltx => by
    have w1 := hv x (by omega)
    exact spt (chain [tT 21 ((x : Int) < (l.length : Int)) (by omega), iX ((x : Int)) (l.length) (by omega), .c (r7Valid_pc _ _ _ w1 : PCt 96 [(matP (l.getD x []))] _), r64 ((x : Int) + 1) (by omega)] <| .nil) (by kernel_rfl))
  (fun hx => by
    exact spt (chain [tF 21 ((l.length : Int) < (l.length : Int)) (by omega)] <| .nil) (by kernel_rfl)) (by nofun) : LpT 4 Tryz.f34 (r32cF1A l p 0) (.exit 0) ⟨84, true, [(0, .e (matsP l)), (1, .e (iP p))], []⟩) .nil,
  .c (refPrec_pc _ : PCt 58 [(iP p)] _), tB 31 (precB_true.2 ⟨by omega, by omega⟩ : (precB (p : Int)) = true),
  .s (Sp.upto (r32cF2A l p) 0 N (by omega) (fun x hx hltx => by
    have w1 := hv x (by omega)
    have n1 := w1.n1
    have f1 := formB_false (hlo x (by omega))
    exact spt (chain [tT 36 ((x : Int) < (l.length : Int)) (by omega), iX ((x : Int)) (l.length) (by omega), iX ((x : Int)) (l.length) (by omega), iX (0) ((l.getD x []).length) (by omega),
     tB 51 (natNe_false (by omega) : ((((l.getD x []).length : Nat) : Int) != ((((l.getD x []).getD 0 []).length : Nat) : Int)) = false), iX ((x : Int)) (l.length) (by omega), iX (0) (l.length) (by omega),
     tB 62 (natNe_false (by omega) : ((((l.getD x []).length : Nat) : Int) != (((l.getD 0 []).length : Nat) : Int)) = false), r64 ((x : Int) + 1) (by omega)] <| .nil) (by kernel_rfl))
  (fun hx => by
    have w1 := hv N (by omega)
    have n1 := w1.n1
    exact spt (chain [tT 36 ((N : Int) < (l.length : Int)) (by omega), iX ((N : Int)) (l.length) (by omega), iX ((N : Int)) (l.length) (by omega), iX (0) ((l.getD N []).length) (by omega),
    tB 51 (natNe_true (by omega) : ((((l.getD N []).length : Nat) : Int) != ((((l.getD N []).getD 0 []).length : Nat) : Int)) = true)] <| .nil) (by kernel_rfl)) (by nofun) : LpT 11 Tryz.f34 (r32cF2A l p 0) .ret ⟨84, true, [(5, .e (iP 3)), (4, .e (.v (.slice none 0 0)))], []⟩) .nil] <| .nil) (by kernel_rfl)
set_option maxHeartbeats 1000000 in
theorem r32Chain_formB (l : List (List (List Iv))) (h0 : 0 < l.length) (hl : l.length ≤ 6) (hv : ∀ i, i < l.length → MV (l.getD i [])) (p : Nat) (hp1 : 8 ≤ p) (hp2 : p ≤ 512) (N : Nat) (hN0 : N < l.length) (hlo : ∀ x, x < N → formB l x = false) (hN1 : (l.getD N []).length = ((l.getD N []).getD 0 []).length) (hN : ¬ (l.getD N []).length = (l.getD 0 []).length) : PCt 34 [(matsP l), (iP p)] (.tup [(.v (.slice none 0 0)), (iP 3)]) := by
 exact tr true Tryz.call34 Tryz.func34 (chain [tB 12 (natZ_false (by omega) : ((l.length : Int) == 0) = false), tF 16 (1000 < (l.length : Int)) (by omega),
  .s (Sp.upto (r32cF1B l p) 0 l.length (by omega) (fun x hx hltx => by
    have w1 := hv x (by omega)
    exact spt (chain [tT 21 ((x : Int) < (l.length : Int)) (by omega), iX ((x : Int)) (l.length) (by omega), .c (r7Valid_pc _ _ _ w1 : PCt 96 [(matP (l.getD x []))] _), r64 ((x : Int) + 1) (by omega)] <| .nil) (by kernel_rfl))
  (fun hx => by
    exact spt (chain [tF 21 ((l.length : Int) < (l.length : Int)) (by omega)] <| .nil) (by kernel_rfl)) (by nofun) : LpT 4 Tryz.f34 (r32cF1B l p 0) (.exit 0) ⟨84, true, [(0, .e (matsP l)), (1, .e (iP p))], []⟩) .nil,
  .c (refPrec_pc _ : PCt 58 [(iP p)] _), tB 31 (precB_true.2 ⟨by omega, by omega⟩ : (precB (p : Int)) = true),
  .s (Sp.upto (r32cF2B l p) 0 N (by omega) (fun x hx hltx => by
    have w1 := hv x (by omega)
    have n1 := w1.n1
    have f1 := formB_false (hlo x (by omega))
    exact spt (chain [tT 36 ((x : Int) < (l.length : Int)) (by omega), iX ((x : Int)) (l.length) (by omega), iX ((x : Int)) (l.length) (by omega), iX (0) ((l.getD x []).length) (by omega),
     tB 51 (natNe_false (by omega) : ((((l.getD x []).length : Nat) : Int) != ((((l.getD x []).getD 0 []).length : Nat) : Int)) = false), iX ((x : Int)) (l.length) (by omega), iX (0) (l.length) (by omega),
     tB 62 (natNe_false (by omega) : ((((l.getD x []).length : Nat) : Int) != (((l.getD 0 []).length : Nat) : Int)) = false), r64 ((x : Int) + 1) (by omega)] <| .nil) (by kernel_rfl))
  (fun hx => by
    have w1 := hv N (by omega)
    have n1 := w1.n1
    exact spt (chain [tT 36 ((N : Int) < (l.length : Int)) (by omega), iX ((N : Int)) (l.length) (by omega), iX ((N : Int)) (l.length) (by omega), iX (0) ((l.getD N []).length) (by omega),
    tB 51 (natNe_false (by omega) : ((((l.getD N []).length : Nat) : Int) != ((((l.getD N []).getD 0 []).length : Nat) : Int)) = false), iX ((N : Int)) (l.length) (by omega), iX (0) (l.length) (by omega),
    tB 62 (natNe_true (by omega) : ((((l.getD N []).length : Nat) : Int) != (((l.getD 0 []).length : Nat) : Int)) = true)] <| .nil) (by kernel_rfl)) (by nofun) : LpT 11 Tryz.f34 (r32cF2B l p 0) .ret ⟨84, true, [(5, .e (iP 3)), (4, .e (.v (.slice none 0 0)))], []⟩) .nil] <| .nil) (by kernel_rfl)
set_option maxHeartbeats 1000000 in
theorem r32Chain_yes (l : List (List (List Iv))) (h0 : 0 < l.length) (hl : l.length ≤ 6) (hv : ∀ i, i < l.length → MV (l.getD i [])) (n : Nat) (hvn : ∀ i, i < l.length → MOk (l.getD i []) n n) (hlo : ∀ x, x < l.length → formB l x = false) (p : Nat) (hp1 : 8 ≤ p) (hp2 : p ≤ 512) : PCt 34 [(matsP l), (iP p)] (.tup [(matP (chainP l p (l.length - 1))), (iP 0)]) := by
 exact tr true Tryz.call34 Tryz.func34 (chain [tB 12 (natZ_false (by omega) : ((l.length : Int) == 0) = false), tF 16 (1000 < (l.length : Int)) (by omega),
  .s (Sp.upto (r32cF1Y l p) 0 l.length (by omega) (fun x hx hltx => by
    have w1 := hv x (by omega)
    exact spt (chain [tT 21 ((x : Int) < (l.length : Int)) (by omega), iX ((x : Int)) (l.length) (by omega), .c (r7Valid_pc _ _ _ w1 : PCt 96 [(matP (l.getD x []))] _), r64 ((x : Int) + 1) (by omega)] <| .nil) (by kernel_rfl))
  (fun hx => by
    exact spt (chain [tF 21 ((l.length : Int) < (l.length : Int)) (by omega)] <| .nil) (by kernel_rfl)) (by nofun) : LpT 4 Tryz.f34 (r32cF1Y l p 0) (.exit 0) ⟨84, true, [(0, .e (matsP l)), (1, .e (iP p))], []⟩) .nil,
  .c (refPrec_pc _ : PCt 58 [(iP p)] _), tB 31 (precB_true.2 ⟨by omega, by omega⟩ : (precB (p : Int)) = true),
  .s (Sp.upto (r32cF2 l p) 0 l.length (by omega) (fun x hx hltx => by
    have w1 := hv x (by omega)
    have n1 := w1.n1
    have f1 := formB_false (hlo x (by omega))
    exact spt (chain [tT 36 ((x : Int) < (l.length : Int)) (by omega), iX ((x : Int)) (l.length) (by omega), iX ((x : Int)) (l.length) (by omega), iX (0) ((l.getD x []).length) (by omega),
     tB 51 (natNe_false (by omega) : ((((l.getD x []).length : Nat) : Int) != ((((l.getD x []).getD 0 []).length : Nat) : Int)) = false), iX ((x : Int)) (l.length) (by omega), iX (0) (l.length) (by omega),
     tB 62 (natNe_false (by omega) : ((((l.getD x []).length : Nat) : Int) != (((l.getD 0 []).length : Nat) : Int)) = false), r64 ((x : Int) + 1) (by omega)] <| .nil) (by kernel_rfl))
  (fun hx => by
    exact spt (chain [tF 36 ((l.length : Int) < (l.length : Int)) (by omega)] <| .nil) (by kernel_rfl)) (by nofun) : LpT 11 Tryz.f34 (r32cF2 l p 0) (.exit 2) ⟨84, true, [(0, .e (matsP l)), (1, .e (iP p))], []⟩) .nil,
  iX (0) (l.length) (by omega),
  .s (Sp.upto (r32cF3 l p) 0 (l.length - 1) (by omega) (fun x hx hltx => by
    have w1 := hvn (1 + x) (by omega)
    have w2 := chainP_ok hvn hp1 hp2 x (by omega)
    exact spt (chain [tT 70 ((((1 + x) : Nat) : Int) < (l.length : Int)) (by omega), iX ((((1 + x) : Nat) : Int)) (l.length) (by omega), .c (r7Mul_pc (l.getD (1 + x) []) (chainP l p x) n n n p w1 w2 (by omega) (by omega)),
     r64 ((((1 + x) : Nat) : Int) + 1) (by omega)] <| .e (chain [.o 9 (.int (by first | rfl | omega | (simp only [Nat.add_mul, Nat.one_mul]; omega)) : PV.le (.e (iP ((((1 + x) + 1) : Nat) : Int))) (.e (iP (((1 + (x + 1)) : Nat) : Int)))),
  .o 8 (.e (.of_eq rfl) : PV.le (.e (matP (mulM (l.getD (1 + x) []) (chainP l p x) p))) (.e (matP (chainP l p (x + 1)))))] <| .nil)) (by kernel_rfl))
  (fun hx => by
    exact spt (chain [tF 70 ((((1 + (l.length - 1)) : Nat) : Int) < (l.length : Int)) (by omega)] <| .nil) (by kernel_rfl)) (by nofun) : LpT 17 Tryz.f34 (r32cF3 l p 0) (.exit 4) ⟨84, true, [(8, .e (matP (chainP l p (l.length - 1))))], []⟩) (chain [.o 9 (.int (by first | rfl | omega | (simp only [Nat.add_mul, Nat.one_mul]; omega)) : PV.le (.e (iP 1)) (.e (iP (((1 + 0) : Nat) : Int)))), .o 8 (.e (.of_eq rfl) : PV.le (.e (matP (l.getD 0 []))) (.e (matP (chainP l p 0))))] <| .nil)] <| .nil) (by kernel_rfl)
theorem r32Chain_form (l : List (List (List Iv))) (h0 : 0 < l.length) (hl : l.length ≤ 6) (hv : ∀ i, i < l.length → MV (l.getD i [])) (p : Nat) (hp1 : 8 ≤ p) (hp2 : p ≤ 512) (hf : (List.range (l.length)).any (formB l) = true) : PCt 34 [matsP l, iP (p : Int)] (.tup [(.v (.slice none 0 0)), (iP 3)]) := by
 rw [List.any_eq_true] at hf
 obtain ⟨i, hi, hb⟩ := hf
 obtain ⟨N, hN, hbN, hlo⟩ := least_true ⟨i, List.mem_range.1 hi, hb⟩
 by_cases h : (l.getD N []).length = ((l.getD N []).getD 0 []).length
 ·refine r32Chain_formB l h0 hl hv p hp1 hp2 N hN hlo h fun q => ?_
  unfold formB at hbN
  rw [Bool.or_eq_true, decide_eq_true_eq, decide_eq_true_eq] at hbN
  omega
 ·exact r32Chain_formA l h0 hl hv p hp1 hp2 N hN hlo h
open Go.RowKit Fp Pu
set_option maxHeartbeats 1000000 in
theorem chainR1_pc (m : List (List RI)) (g : MGood m) (hl : m.length ≤ 1000000) (hrows : ∀ i, (m.getD i []).length ≤ 1000000) : PCt 106 [(rmatP m)] (bP (!(matOkB m))) := by
 exact tr true Tryz.call106 Tryz.func106 (chain [.c (matValidR_pc m g hl hrows)] <| .nil) (by kernel_rfl)
set_option maxHeartbeats 1000000 in
theorem chain_arg (l : List (List (List RI))) (hl : l.length ≤ 6) (hg : ∀ i, MGood (l.getD i [])) (hl1 : ∀ i, (l.getD i []).length ≤ 1000000) (hl2 : ∀ i j, ((l.getD i []).getD j []).length ≤ 1000000) (p : Int) (hc : l.length ≠ 0 → ((List.range (l.length)).any fun i_ => !matOkB (l.getD i_ [])) = true) : PCt 33 [(rmatsP l), (iP p)] (.tup [(.v (.slice none 0 0)), (iP 1)]) := by
 exact tr true Tryz.call33 Tryz.func33 (.w ((l.length : Int) = 0)
  (fun k1 => chain [tB 15 (beq_iff_eq.2 k1)] <| .nil)
  (fun k1 => by
   have hc1 := hc (by omega)
   exact chain [tB 15 (beq_eq_false_iff_ne.2 k1), tF 19 (1000 < (l.length : Int)) (by omega),
    .c (mat_any true l.length (fun i _ => rmatP (l.getD i [])) 106 [] (fun i_ => !matOkB (l.getD i_ [])) (fun i hi => chainR1_pc _ (hg i) (hl1 i) (hl2 i)) (by omega) : PCt 31 [(rmatsP l), (.fn 106 [])] _)] <| .w (((List.range (l.length)).any fun i_ => !matOkB (l.getD i_ [])) = true)
    (fun k2 => chain [tB 23 (k2)] <| .nil)
    (fun k2 => .x (by exact absurd hc1 k2)))) (by kernel_rfl)
theorem r32Chain_argX (l : List (List (List RI))) (hl : l.length ≤ 6) (hg : ∀ i, MGood (l.getD i [])) (hl1 : ∀ i, (l.getD i []).length ≤ 1000000) (hl2 : ∀ i j, ((l.getD i []).getD j []).length ≤ 1000000) (p : Int) (hc : l.length ≠ 0 → ((List.range (l.length)).any fun i_ => !matOkB (l.getD i_ [])) = true) : PCt 34 [rmatsP l, iP p] (.tup [(.v (.slice none 0 0)), (iP 1)]) := by
 by_cases h : l.length = 0
 ·exact r32Chain_nil l p h
 ·obtain ⟨i, hi, hb⟩ := List.any_eq_true.1 (hc h)
  obtain ⟨N, hN, hbN, hlo⟩ := least_true (p := fun i_ => !matOkB (l.getD i_ [])) ⟨i, List.mem_range.1 hi, hb⟩
  exact r32Chain_arg l hl hg hl1 hl2 p N hN (fun x hx => by simpa using hlo x hx) (by simpa using hbN)
set_option maxHeartbeats 1000000 in
theorem lawC1_pc (m : List (List RI)) : PCt 32 [(rmatP m)] (bP (!(smallB m))) := by
 exact tr true Tryz.call32 Tryz.func32 (chain [.c (small_pc m)] <| .nil) (by kernel_rfl)
def looksC (l : List (List (List RI))) (p : Int) : Prop := l.length ≤ 6 ∧ ((List.range (l.length)).any fun i_ => !smallB (l.getD i_ [])) = false ∧ ¬ (128 < p ∧ p ≤ 512)
set_option maxHeartbeats 1000000 in
theorem lawC_early (l : List (List (List RI))) (p : Int) (hE : ¬ looksC l p) : PCt 7 [(rmatsP l), (iP p)] (bP true) := by
 exact tr true Tryz.call7 Tryz.func7 (chain [.c awake_pc] <| .w (6 < (l.length : Int))
  (fun k1 => chain [tB 13 (decide_eq_true k1)] <| .nil)
  (fun k1 => chain [tB 13 (decide_eq_false k1), .c (mat_any true l.length (fun i _ => rmatP (l.getD i [])) 32 [] (fun i_ => !smallB (l.getD i_ [])) (fun i hi => lawC1_pc _) (by omega) : PCt 31 [(rmatsP l), (.fn 32 [])] _)] <| .w (((List.range (l.length)).any fun i_ => !smallB (l.getD i_ [])) = true)
   (fun k2 => chain [tB 16 (k2)] <| .nil)
   (fun k2 => chain [tB 16 (Bool.eq_false_iff.2 k2)] <| .w (128 < p)
    (fun k3 => chain [tB 20 (decide_eq_true k3)] <| .w (p ≤ 512)
     (fun k4 => chain [tB 23 (decide_eq_true k4)] <| .nil)
     (fun k4 => .x (by exact absurd ⟨by omega, by simpa using k2, by omega⟩ hE)))
    (fun k3 => .x (by exact absurd ⟨by omega, by simpa using k2, by omega⟩ hE))))) (by kernel_rfl)
set_option maxHeartbeats 1000000 in
theorem lawC_arg (l : List (List (List RI))) (p : Int) (hE : looksC l p) (hg : ∀ i, MGood (l.getD i [])) (hl1 : ∀ i, (l.getD i []).length ≤ 1000000) (hl2 : ∀ i j, ((l.getD i []).getD j []).length ≤ 1000000) (hc : l.length ≠ 0 → ((List.range (l.length)).any fun i_ => !matOkB (l.getD i_ [])) = true) : PCt 7 [(rmatsP l), (iP p)] (bP true) := by
 obtain ⟨q1, q2, q3⟩ := hE
 exact tr true Tryz.call7 Tryz.func7 (chain [.c awake_pc, tF 13 (6 < (l.length : Int)) (by omega), .c (mat_any true l.length (fun i _ => rmatP (l.getD i [])) 32 [] (fun i_ => !smallB (l.getD i_ [])) (fun i hi => lawC1_pc _) (by omega) : PCt 31 [(rmatsP l), (.fn 32 [])] _),
  tB 16 (q2 : ((List.range (l.length)).any fun i_ => !smallB (l.getD i_ [])) = false)] <| .w (128 < p)
  (fun k1 => chain [tB 20 (decide_eq_true k1)] <| .w (p ≤ 512)
   (fun k2 => .x (by exact absurd ⟨by omega, by omega⟩ q3))
   (fun k2 => chain [tB 23 (decide_eq_false k2), .c (chain_arg l q1 hg hl1 hl2 p hc), .c (r32Chain_argX l q1 hg hl1 hl2 p hc : PCt 34 [(rmatsP l), (iP p)] _), tB 40 (by decide : ((1 : Int) == 1) = true), .c equal_nil] <| .nil))
  (fun k1 => chain [tB 20 (decide_eq_false k1), .c (chain_arg l q1 hg hl1 hl2 p hc), .c (r32Chain_argX l q1 hg hl1 hl2 p hc : PCt 34 [(rmatsP l), (iP p)] _), tB 40 (by decide : ((1 : Int) == 1) = true), .c equal_nil] <| .nil)) (by kernel_rfl)
set_option maxHeartbeats 1000000 in
theorem lawC_range (l : List (List (List Iv))) (h0 : 0 < l.length) (q1 : l.length ≤ 6) (q2 : ((List.range (l.length)).any fun i_ => !smallB (rawsM (l.getD i_ []))) = false) (hv : ∀ i, i < l.length → MV (l.getD i [])) (p : Int) (q3 : ¬ (128 < p ∧ p ≤ 512)) (hp : ¬ (8 ≤ p ∧ p ≤ 512)) : PCt 7 [(matsP l), (iP p)] (bP true) := by
 exact tr true Tryz.call7 Tryz.func7 (chain [.c awake_pc, tF 13 (6 < (l.length : Int)) (by omega),
  .c (mat_any true l.length (fun i _ => matP (l.getD i [])) 32 [] (fun i_ => !smallB (rawsM (l.getD i_ []))) (fun i hi => by rw [← matP_raw]; exact lawC1_pc _) (by omega) : PCt 31 [(matsP l), (.fn 32 [])] _),
  tB 16 (q2 : ((List.range (l.length)).any fun i_ => !smallB (rawsM (l.getD i_ []))) = false)] <| .w (128 < p)
  (fun k1 => chain [tB 20 (decide_eq_true k1)] <| .w (p ≤ 512)
   (fun k2 => .x (by exact absurd ⟨by omega, by omega⟩ q3))
   (fun k2 => chain [tB 23 (decide_eq_false k2), .c (chain_range l h0 q1 hv p hp), .c (r32Chain_range l h0 q1 hv p (precB_false.2 hp)), tB 40 (by decide : ((2 : Int) == 2) = true), .c equal_nil] <| .nil))
  (fun k1 => chain [tB 20 (decide_eq_false k1), .c (chain_range l h0 q1 hv p hp), .c (r32Chain_range l h0 q1 hv p (precB_false.2 hp)), tB 40 (by decide : ((2 : Int) == 2) = true), .c equal_nil] <| .nil)) (by kernel_rfl)
set_option maxHeartbeats 1000000 in
theorem lawC_form (l : List (List (List Iv))) (h0 : 0 < l.length) (q1 : l.length ≤ 6) (q2 : ((List.range (l.length)).any fun i_ => !smallB (rawsM (l.getD i_ []))) = false) (hv : ∀ i, i < l.length → MV (l.getD i []))  (p : Nat) (q3 : ¬ (128 < (p : Int) ∧ (p : Int) ≤ 512)) (hp1 : 8 ≤ p) (hp2 : p ≤ 512) (hf : ((List.range (l.length)).any (formB l)) = true) : PCt 7 [(matsP l), (iP p)] (bP true) := by
 exact tr true Tryz.call7 Tryz.func7 (chain [.c awake_pc, tF 13 (6 < (l.length : Int)) (by omega),
  .c (mat_any true l.length (fun i _ => matP (l.getD i [])) 32 [] (fun i_ => !smallB (rawsM (l.getD i_ []))) (fun i hi => by rw [← matP_raw]; exact lawC1_pc _) (by omega) : PCt 31 [(matsP l), (.fn 32 [])] _),
  tB 16 (q2 : ((List.range (l.length)).any fun i_ => !smallB (rawsM (l.getD i_ []))) = false)] <| .w (128 < (p : Int))
  (fun k1 => chain [tB 20 (decide_eq_true k1)] <| .w ((p : Int) ≤ 512)
   (fun k2 => .x (by exact absurd ⟨by omega, by omega⟩ q3))
   (fun k2 => chain [tB 23 (decide_eq_false k2), .c (chain_form l h0 q1 hv p hp1 hp2 hf), .c (r32Chain_form l h0 q1 hv p hp1 hp2 hf : PCt 34 [(matsP l), (iP p)] _), tB 40 (by decide : ((3 : Int) == 3) = true), .c equal_nil] <| .nil))
  (fun k1 => chain [tB 20 (decide_eq_false k1), .c (chain_form l h0 q1 hv p hp1 hp2 hf), .c (r32Chain_form l h0 q1 hv p hp1 hp2 hf : PCt 34 [(matsP l), (iP p)] _), tB 40 (by decide : ((3 : Int) == 3) = true), .c equal_nil] <| .nil)) (by kernel_rfl)
set_option maxHeartbeats 1000000 in
theorem lawC_yes (l : List (List (List Iv))) (h0 : 0 < l.length) (q1 : l.length ≤ 6) (q2 : ((List.range (l.length)).any fun i_ => !smallB (rawsM (l.getD i_ []))) = false) (hv : ∀ i, i < l.length → MV (l.getD i []))  (p : Nat) (q3 : ¬ (128 < (p : Int) ∧ (p : Int) ≤ 512)) (hp1 : 8 ≤ p) (hp2 : p ≤ 512) (n : Nat) (hvn : ∀ i, i < l.length → MOk (l.getD i []) n n) (hf : ((List.range (l.length)).any (formB l)) = false) : PCt 7 [(matsP l), (iP p)] (bP true) := by
 have hlo : ∀ x, x < l.length → formB l x = false := fun x hx => by simpa using List.any_eq_false.1 hf x (List.mem_range.2 hx)
 have gx := chainP_ok hvn hp1 hp2 (l.length - 1) (by omega)
 have hEq := equal_same (chainP l p (l.length - 1)) (MOk.rows_le gx).1 (fun i _ => (MOk.rows_le gx).2 i) (fun i _ j _ => mok_at gx i j)
 exact tr true Tryz.call7 Tryz.func7 (chain [.c awake_pc, tF 13 (6 < (l.length : Int)) (by omega),
  .c (mat_any true l.length (fun i _ => matP (l.getD i [])) 32 [] (fun i_ => !smallB (rawsM (l.getD i_ []))) (fun i hi => by rw [← matP_raw]; exact lawC1_pc _) (by omega) : PCt 31 [(matsP l), (.fn 32 [])] _),
  tB 16 (q2 : ((List.range (l.length)).any fun i_ => !smallB (rawsM (l.getD i_ []))) = false)] <| .w (128 < (p : Int))
  (fun k1 => chain [tB 20 (decide_eq_true k1)] <| .w ((p : Int) ≤ 512)
   (fun k2 => .x (by exact absurd ⟨by omega, by omega⟩ q3))
   (fun k2 => chain [tB 23 (decide_eq_false k2), .c (chain_yes l h0 q1 n hvn hf p hp1 hp2), .c (r32Chain_yes l h0 q1 hv n hvn hlo p hp1 hp2), tB 40 (by decide : ((0 : Int) == 0) = true),
    .c (hEq : PCt 20 [(matP (chainP l p (l.length - 1))), (matP (chainP l p (l.length - 1)))] _)] <| .nil))
  (fun k1 => chain [tB 20 (decide_eq_false k1), .c (chain_yes l h0 q1 n hvn hf p hp1 hp2), .c (r32Chain_yes l h0 q1 hv n hvn hlo p hp1 hp2), tB 40 (by decide : ((0 : Int) == 0) = true),
   .c (hEq : PCt 20 [(matP (chainP l p (l.length - 1))), (matP (chainP l p (l.length - 1)))] _)] <| .nil)) (by kernel_rfl)
theorem lists_raw {l : List (List (List RI))} (hg : ∀ m, m ∈ l → MGood m) (hok : ∀ m, m ∈ l → ROk m) : ∃ l' : List (List (List Iv)), l = l'.map rawsM ∧ ∀ m, m ∈ l' → MV m := by
 induction l with
 | nil => exact ⟨[], rfl, fun m h => by cases h⟩
 | cons m l ih =>
  obtain ⟨l', rfl, h2⟩ := ih (fun m hm => hg m (by simp [hm])) (fun m hm => hok m (by simp [hm]))
  obtain ⟨m', e, g⟩ := raw_lists (hok m (by simp)) (hg m (by simp))
  refine ⟨m' :: l', by rw [e]; rfl, fun q hq => ?_⟩
  rcases List.mem_cons.1 hq with hq | hq
  ·subst hq
   have r := g.rows
   have e1 := g.len_at (show 0 < m.length from g.n1)
   unfold MV
   rw [r, e1]; exact g
  ·exact h2 q hq
theorem getD_mem {α : Type} {l : List α} {d : α} {P : α → Prop} (h : ∀ x, x ∈ l → P x) (hd : P d) (i : Nat) : P (l.getD i d) := by
 by_cases hi : i < l.length
 ·rw [getD_eq_getElem hi]; exact h _ (List.getElem_mem hi)
 ·rw [List.getD_eq_getElem?_getD, List.getElem?_eq_none (by omega)]; exact hd
theorem getD_rawsM (l : List (List (List Iv))) (i : Nat) : (l.map rawsM).getD i [] = rawsM (l.getD i []) := by
 rw [List.getD_eq_getElem?_getD, List.getD_eq_getElem?_getD, List.getElem?_map]
 cases l[i]? <;> rfl
theorem law_chain (l : List (List (List RI))) (p : Int) (hg : ∀ m, m ∈ l → MGood m) : PCt 7 [rmatsP l, iP p] (bP true) := by
 by_cases hE : looksC l p
 ·have hE' := hE
  obtain ⟨q1, q2, q3⟩ := hE'
  have sm : ∀ i, i < l.length → smallB (l.getD i []) = true := fun i hi => by simpa using List.any_eq_false.1 q2 i (List.mem_range.2 hi)
  have hg' := getD_mem (d := ([] : List (List RI))) hg (fun r hr => by cases hr)
  by_cases hc : l.length ≠ 0 → ((List.range (l.length)).any fun i_ => !matOkB (l.getD i_ [])) = true
  ·refine lawC_arg l p hE hg' (fun i => ?_) (fun i j => ?_) hc
   ·by_cases hi : i < l.length
    ·exact small_len (sm i hi)
    ·rw [List.getD_eq_getElem?_getD, List.getElem?_eq_none (by omega)]; simp
   ·by_cases hi : i < l.length
    ·exact small_row (sm i hi) j
    ·rw [List.getD_eq_getElem?_getD (l := l), List.getElem?_eq_none (by omega)]; simp
  ·have h0 : 0 < l.length := by
    apply Classical.byContradiction; intro q; exact hc fun h => absurd h (by omega)
   have hok : ∀ i, i < l.length → ROk (l.getD i []) := fun i hi => by
    have : ((List.range (l.length)).any fun i_ => !matOkB (l.getD i_ [])) = false := by simpa using fun q => hc fun _ => q
    exact matOkB_true.1 (by simpa using List.any_eq_false.1 this i (List.mem_range.2 hi))
   obtain ⟨l', rfl, hv⟩ := lists_raw hg (fun m hm => by
    obtain ⟨i, hi, rfl⟩ := List.getElem_of_mem hm
    have := hok i hi; rwa [getD_eq_getElem hi] at this)
   rw [List.length_map] at h0 q1
   have q2' : ((List.range (l'.length)).any fun i_ => !smallB (rawsM (l'.getD i_ []))) = false := by
    rw [← q2, List.length_map]; congr 1; funext i; rw [getD_rawsM]
   have hv' : ∀ i, i < l'.length → MV (l'.getD i []) := fun i hi => by rw [getD_eq_getElem hi]; exact hv _ (List.getElem_mem hi)
   rw [matsP_raw]
   by_cases hp : 8 ≤ p ∧ p ≤ 512
   ·obtain ⟨p', rfl⟩ := Int.eq_ofNat_of_zero_le (show 0 ≤ p by omega)
    cases hf : (List.range (l'.length)).any (formB l') with
    | true => exact lawC_form l' h0 q1 q2' hv' p' q3 (by omega) (by omega) hf
    | false =>
     refine lawC_yes l' h0 q1 q2' hv' p' q3 (by omega) (by omega) (l'.getD 0 []).length (fun i hi => ?_) hf
     obtain ⟨e1, e2⟩ := formB_false (show formB l' i = false by simpa using List.any_eq_false.1 hf i (List.mem_range.2 hi))
     have := hv' i hi
     unfold MV at this
     rw [e2, e1] at this
     exact this
   ·exact lawC_range l' h0 q1 q2' hv' p q3 hp
 ·exact lawC_early l p hE
open Go.ChangeShapes Go.WideShapes Go.ChangeAt Go.RowKit Fp Pu
def chArgs : Array Value := #[.slice none 0 0, .int .i64 0]
section
variable {H : Type} {enc : TypeId × Value → H} {W : World} {fuel : Nat} {cs : List Value} {x : DataW H × List MemPlace}
theorem open_rmats (h : DataW.trod enc Tryz.prog W 0 (fun _ => true) true fuel 62 cs = some x) (hlt : ∀ p ∈ x.2, p.block < W.heap.size) :
  ∃ l v, cs = [v] ∧ (∀ m, m ∈ l → MGood m) ∧ Rep noB noB W (rmatsP l) v := by
 have hC : Tryz.prog.cellsOf 32 = 1 := by kernel_rfl
 rcases Deep.open_slice Tryz.underlying62 h with ⟨rfl, _⟩ | ⟨a, len, cap, m, n, D, Pl, rfl, hb, hl, hm, hmm, rfl, hx⟩
 ·exact ⟨[], _, rfl, (fun y hy => by cases hy), .sl true 0 1 _ none 0 (fun _ _ => .bool false) (Nat.le_refl _) (by decide) (fun _ => rfl) (fun i j hi => absurd hi (Nat.not_lt_zero i)) (fun i j hi => absurd hi (Nat.not_lt_zero i)) (fun i j hi => absurd hi (Nat.not_lt_zero i)) (fun i j hi => absurd hi (Nat.not_lt_zero i))⟩
 ·simp only [if_true] at hmm
  subst hmm
  have ex : ∀ i, ∃ y : List (List RI), i < len → ∃ v, W.cells? 0 (a.add (i * 1)) 1 = some [v] ∧ MGood y ∧ Rep noB noB W (rmatP y) v := by
   intro i
   by_cases hi : i < len
   ·obtain ⟨cs', h1, h2⟩ := hx i (by omega)
    rw [hC] at h1
    obtain ⟨y, v, rfl, h3, h4⟩ := open_rmat h2 (fun p hp => hlt p (List.mem_append_right _ (List.mem_flatMap.2 ⟨i, List.mem_range.2 (by omega), hp⟩)))
    exact ⟨y, fun _ => ⟨v, h1, h3, h4⟩⟩
   ·exact ⟨[], fun h => absurd h hi⟩
  let X : Nat → List (List RI) := fun i => Classical.choose (ex i)
  have hX : ∀ i, i < len → ∃ v, W.cells? 0 (a.add (i * 1)) 1 = some [v] ∧ MGood (X i) ∧ Rep noB noB W (rmatP (X i)) v := fun i => Classical.choose_spec (ex i)
  have hlen : ((List.range len).map X).length = len := by simp
  refine ⟨(List.range len).map X, _, rfl, ?_, ?_⟩
  ·intro r hr
   obtain ⟨i, hi, rfl⟩ := List.mem_map.1 hr
   obtain ⟨v, _, h2, _⟩ := hX i (List.mem_range.1 hi)
   exact h2
  ·have hget : ∀ i, i < len → ((List.range len).map X).getD i [] = X i := by
    intro i hi
    rw [List.getD_eq_getElem?_getD, List.getElem?_map, List.getElem?_range hi]
    rfl
   have := rep_slice (W := W) (a := a) (len := len) (cap := m) (nl := true) (fun i _ => rmatP (((List.range len).map X).getD i [])) hl hm (show 0 < 1 by decide)
    (fun i j _ hj => ⟨rfl, fun _ => rfl, rfl⟩)
    (fun i hi => by
     obtain ⟨v, h1, _, h3⟩ := hX i hi
     refine ⟨[v], h1, fun j hj => ?_⟩
     obtain rfl : j = 0 := by omega
     exact ⟨v, rfl, by rw [hget i hi]; exact h3⟩)
   unfold rmatsP
   rw [hlen]
   exact this
end
set_option maxRecDepth 100000 in
theorem chain_contract (H : Type) (enc : TypeId × Value → H) (W : World) (base : Nat) (args : Array Value) (ds gs : List (DataW H)) (before : List MemPlace)
  (hval : ∀ (j : Nat) t v, Tryz.f7.params[j]? = some t → args[j]? = some v → Value.okWide Tryz.prog W .any base t v)
  (hW : DataW.Whole enc Tryz.prog Tryz.f7.params.toList Rows.variationChainSpec.vars false W args.toList ds gs before) (hL : laidMetH Tryz.prog Rows.variationChainRow.laid W) :
  Calls Tryz.prog 7 args W fun e W' => ∃ v, e = .returned v ∧ Rows.variationChainSpec.post enc Tryz.prog Tryz.f7 false true false false W args v W' := by
 have hW' := hW
 obtain ⟨p, q, hA0, hV, rfl, hfz, hnd⟩ := hW
 have hA : DataW.TrodAll enc Tryz.prog W 0 (fun _ => true) true Tryz.f7.params.toList args.toList ds p := hA0
 rw [Tryz.params7] at hA hval
 obtain ⟨v0, v1, d0, d1, p0, p1, rfl, rfl, rfl, h0, h1⟩ := trodAll_two hA
 obtain ⟨rfl, rfl⟩ := trodVars_none hV
 obtain ⟨a, len, cap, rfl⟩ := okWide_slice Tryz.underlying62 (hval 0 62 v0 rfl rfl)
 obtain ⟨pr, rfl, rfl, rfl, _⟩ := open_int Tryz.underlying3 (hval 1 3 v1 rfl rfl) h1
 have h0k := h0
 obtain ⟨fuel, hf⟩ := h0
 clear hA0
 simp only [List.append_nil] at hW'
 have hlt0 : ∀ x ∈ p0, x.block < W.heap.size := fun x hx => hW'.lt x (by simpa using hx)
 obtain ⟨l, v, hv, gl, rl⟩ := open_rmats hf hlt0
 obtain rfl : Value.slice a len cap = v := by
  have : (Value.slice a len cap).cells.toList = [Value.slice a len cap] := rfl
  rw [this] at hv
  simpa using hv
 have hrun := (law_chain l pr gl).run W noB [.slice a len cap, .int .i64 pr] (tb_of_laid rfl hL) (fun _ h => h.elim)
  (.cons rl (.cons (.v _) (.nil _ _ _)))
 refine hrun.mono fun r W' ⟨v, hr, hb, hrep⟩ => ?_
 obtain rfl := Rep.v_inv hrep
 subst hr
 refine ⟨_, rfl, _, _, _, [], p0 ++ ([] ++ []), [], hW', ?_, ?_, rfl, hb.frame _, fun h => by cases h⟩
 ·exact trodAll_mk1 (shut_bool Tryz.underlying4 _)
 ·exact trodAll_mk2 (Below.trod laidOut (by kernel_rfl) (of_decide_eq_true (by kernel_rfl)) h0k hb hlt0)
   (Below.trod laidOut (by kernel_rfl) (of_decide_eq_true (by kernel_rfl)) h1 hb (fun _ h => by cases h))
theorem chain_met (os : Os) : laidMet Tryz.prog Rows.variationChainRow.laid ((laidWorld os chArgs).forCall (fun _ _ => 0) ⟨#[], chArgs, []⟩).memory :=
 laidMet_of_run' 8 (by kernel_rfl) (by kernel_rfl)
theorem chain_reads (os : Os) {H : Type} (enc : TypeId × Value → H) : ∃ places, DataW.whole enc Tryz.prog ((laidWorld os chArgs).forCall (fun _ _ => 0) ⟨#[], chArgs, []⟩).memory Tryz.f7.params.toList Rows.variationChainSpec.vars false chArgs.toList 8 = some ([.nil, .lit (.int .i64 0)], [], places) :=
 ⟨[], by kernel_rfl⟩
set_option maxRecDepth 100000 in
theorem chain_lifted (os : Os) (started : os.Started) (H : Type) (enc : TypeId × Value → H) (F : Stop.Interp) :
  ReturnsInHanded {} Tryz.checked os 7 .any ((OpenSpec.ofChange Rows.variationChainSpec).preRow enc Tryz.prog Tryz.f7 Rows.variationChainRow.domain false Rows.variationChainRow.laid) (((OpenSpec.ofChange Rows.variationChainSpec).at F).post enc Tryz.prog Tryz.f7 false true false false) := by
 obtain ⟨places, hx⟩ := chain_reads os enc
 refine returnsInHanded_of_row (C := Tryz.checked) (s := OpenSpec.ofChange Rows.variationChainSpec) own started (by kernel_rfl) Tryz.func7
  (witness_row_at (enc := enc) (C := Tryz.checked) false (laidWorld os chArgs) chArgs rfl (by kernel_rfl) (by kernel_rfl) (by kernel_rfl)
   (OpenSpec.preRow_of_cond 8 hx (by kernel_rfl) (fun k hk => by cases hk) (by kernel_rfl) (chain_met os))) ?_
 intro W base args ds gs before hval hW _ _ _ hL _ _
 exact chain_contract H enc W base args ds gs before hval hW hL
theorem chain_said : Rows.VariationChainSaid :=
 OpenClaim.holds_of_cond 7 Tryz.f7 rfl rfl rfl rfl rfl rfl rfl ⟨rfl, rfl, rfl, rfl, rfl⟩ rfl rfl rfl rfl rfl (by kernel_rfl) Tryz.func7 (by kernel_rfl)
  (of_decide_eq_true (by kernel_rfl)) (by unfold Func.isWrapper; first | (rw [if_pos (by decide +kernel)]; kernel_rfl) | (rw [if_neg (by decide +kernel)]; exact ⟨rfl, rfl⟩))
  (fun os started H enc _ F => by rw [OpenClaim.pre_eq_preRow]; exact chain_lifted os started H enc F)
theorem chain_plain (f : FuncId) (fn : Func) (hf : Tryz.pinned.checked.prog.funcNamed "flowpipe/flowpipelaw32.VariationChain" = some f) (hfn : Tryz.pinned.checked.prog.funcs[f]? = some fn) :
  false = Tryz.pinned.checked.prog.looks [] ∧ ∀ (j : Nat) t, fn.params[j]? = some t → Tryz.pinned.checked.prog.wantsStandIn t = false := by
 obtain rfl : f = 7 := Option.some.inj ((show Tryz.prog.funcNamed "flowpipe/flowpipelaw32.VariationChain" = some 7 by kernel_rfl).symm.trans hf) |>.symm
 obtain rfl : fn = Tryz.f7 := (Option.some.inj (Tryz.func7.symm.trans hfn)).symm
 refine ⟨by kernel_rfl, fun j t ht => ?_⟩
 rw [Tryz.params7] at ht
 have : t = 62 ∨ t = 3 := by
  have := Array.mem_of_getElem? ht
  simp at this
  omega
 rcases this with rfl | rfl
 ·exact (show Tryz.prog.wantsStandIn 62 = false by kernel_rfl)
 ·exact (show Tryz.prog.wantsStandIn 3 = false by kernel_rfl)
theorem chain_card : Rows.VariationChainCardSaid :=
 Claim7.holds_tied_plain_at .later [] _ _ _ _ chain_said (fun _ h => by cases h) (by kernel_rfl) (fun _ h => by cases h) variationChain_row_tie rfl ⟨rfl, rfl⟩ (by kernel_rfl) rfl chain_plain (by kernel_rfl)
end Go.Proofs.YtdppllbbgfekaaaGreatDoor
