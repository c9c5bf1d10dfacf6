/- ControlSums: the law for every input; its row and its card. -/
import Derived.Test.YtofdlkgpgcnjhaaDoorCa
import Derived.Test.YtofdlkgpgcnjhaaDoorSg
namespace Go.Proofs.YtofdlkgpgcnjhaaDoor
open Go.ChangeShapes Go.WideShapes Go.ChangeAt Go.RowKit Fp

theorem lawSums_any (s : Bool) (A : Option Addr) (c : Nat) (L : List Nat) (e : Int) (t : Bool) (B : Option Addr) (d : Nat) (M : List Nat) (f : Int) (w : World)
    (hs : Sl w A c L) (hr : Sl w B d M) (he1 : -9223372036854775808 ≤ e) (he2 : e ≤ 9223372036854775807) (hf1 : -9223372036854775808 ≤ f) (hf2 : f ≤ 9223372036854775807) (hTb : Tb w) :
    Calls Tryd.prog 5 #[.agg #[.bool s, .slice A L.length c, .int .i64 e], .agg #[.bool t, .slice B M.length d, .int .i64 f]] w fun r w' => r = .returned (.bool true) ∧ Ext w w' := by
  by_cases h1 : L.length ≤ 4
  · by_cases h2 : M.length ≤ 4
    · by_cases h3 : Dok s L e
      · by_cases h4 : Dok t M f
        · by_cases h5 : 0 < Dy.sign ⟨s, val L, e⟩
          · by_cases h6 : 0 < Dy.sign ⟨t, val M, f⟩
            · by_cases h7 : -500 ≤ e
              · by_cases h8 : -500 ≤ f
                · by_cases h9 : Dy.top ⟨s, val L, e⟩ ≤ 500
                  · obtain ⟨a, va, rfl, rfl, rfl, ma⟩ := h3.dy hs
                    obtain ⟨b, vb, rfl, rfl, rfl, mb⟩ := h4.dy hr
                    rw [ma] at h5 h9
                    rw [mb] at h6
                    obtain ⟨p, rfl, p0⟩ := D_of va.canon h5 h7
                    obtain ⟨q, rfl, q0⟩ := D_of vb.canon h6 h8
                    have ht : (D (2 * p)).top = (bitsN (2 * p) : Int) - 501 := D_top (by omega)
                    have h9' : (D (2 * p)).top ≤ 500 := h9
                    exact sums_good (2 * p) (2 * q) A c B d w hs hr hTb (by omega) (by omega) (by omega) (by omega) (by omega) vb h1 h2 h7 h8 h9'
                  · exact sums_bad9 s A c L e t B d M f w hs hr he1 he2 hf1 hf2 hTb h1 h2 h3 h4 h5 h6 h7 h8 h9
                · exact sums_bad8 s A c L e t B d M f w hs hr he1 he2 hf1 hf2 hTb h1 h2 h3 h4 h5 h6 h7 h8
              · exact sums_bad7 s A c L e t B d M f w hs hr he1 he2 hf1 hf2 hTb h1 h2 h3 h4 h5 h6 h7
            · exact sums_bad6 s A c L e t B d M f w hs hr he1 he2 hf1 hf2 hTb h1 h2 h3 h4 h5 h6
          · exact sums_bad5 s A c L e t B d M f w hs hr he1 he2 hf1 hf2 hTb h1 h2 h3 h4 h5
        · exact sums_bad4 s A c L e t B d M f w hs hr he1 he2 hf1 hf2 hTb h1 h2 h3 h4
      · exact sums_bad3 s A c L e t B d M f w hs hr he1 he2 hf1 hf2 hTb h1 h2 h3
    · exact sums_bad2 s A c L e t B d M f w hs hr he1 he2 hf1 hf2 hTb h1 h2
  · exact sums_bad1 s A c L e t B d M f w hs hr he1 he2 hf1 hf2 hTb h1

def two0 : Value := .agg #[.bool false, .slice none 0 0, .int .i64 0]
def twoD {H : Type} : DataW H := .agg [.lit (.bool false), .nil, .lit (.int .i64 0)]

theorem sums_contract (H : Type) (enc : TypeId × Value → H) (W : World) (base : Nat) (args : Array Value) (ds gs : List (DataW H)) (before : List MemPlace)
    (hval : ∀ (j : Nat) t v, Tryd.f5.params[j]? = some t → args[j]? = some v → Value.okWide Tryd.prog W .any base t v)
    (hW : DataW.Whole enc Tryd.prog Tryd.f5.params.toList Rows.controlSumsSpec.vars false W args.toList ds gs before) (hL : laidMetH Tryd.prog Rows.controlSumsRow.laid W) :
    Calls Tryd.prog 5 args W fun e W' => ∃ v, e = .returned v ∧ Rows.controlSumsSpec.post enc Tryd.prog Tryd.f5 false true false false W args v W' := by
  have hW' := hW
  obtain ⟨p, q, hA0, hV, rfl, hfz, hnd⟩ := hW
  have hA : DataW.TrodAll enc Tryd.prog W 0 (fun _ => true) true Tryd.f5.params.toList args.toList ds p := hA0
  rw [Tryd.params5] at hA hval
  obtain ⟨v0, v1, d0, d1, p0, p1, rfl, rfl, rfl, h0, h1⟩ := trodAll_two hA
  obtain ⟨rfl, rfl⟩ := trodVars_none hV
  obtain ⟨cs, rfl, hsz⟩ := okWide_struct Tryd.underlying24 (hval 0 24 v0 rfl rfl)
  obtain ⟨cs', rfl, hsz'⟩ := okWide_struct Tryd.underlying24 (hval 1 24 v1 rfl rfl)
  have h0k := h0
  have h1k := h1
  obtain ⟨fuel, hf⟩ := h0
  obtain ⟨fuel', hf'⟩ := h1
  clear hA0
  simp only [List.append_nil] at hW'
  have hlt : ∀ x ∈ p0 ++ p1, x.block < W.heap.size := fun x hx => by simpa using hW'.lt x hx
  have hlt0 : ∀ x ∈ p0, x.block < W.heap.size := fun x hx => hlt x (List.mem_append.2 (.inl hx))
  have hlt1 : ∀ x ∈ p1, x.block < W.heap.size := fun x hx => hlt x (List.mem_append.2 (.inr hx))
  obtain ⟨s, A, L, cap, e, hcs, hsl, he1, he2⟩ := open_dy hf hlt0
  obtain ⟨s', A', L', cap', e', hcs', hsl', he1', he2'⟩ := open_dy hf' hlt1
  have hcs2 : cs = #[.bool s, .slice A L.length cap, .int .i64 e] := by
    have : cs.toList = _ := hcs
    exact Array.ext' this
  have hcs3 : cs' = #[.bool s', .slice A' L'.length cap', .int .i64 e'] := by
    have : cs'.toList = _ := hcs'
    exact Array.ext' this
  subst hcs2
  subst hcs3
  refine (lawSums_any s A cap L e s' A' cap' L' e' W hsl hsl' he1 he2 he1' he2' (tb_of_laid rfl hL)).mono fun r W' ⟨hr, hb⟩ => ?_
  subst hr
  refine ⟨_, rfl, _, _, _, [], p0 ++ p1, [], hW', ?_, ?_, rfl, hb.frame _, fun h => by cases h⟩
  · exact trodAll_mk1 (shut_bool Tryd.underlying4 _)
  · exact trodAll_mk2 (Below.trod laidOut (by kernel_rfl) (of_decide_eq_true (by kernel_rfl)) h0k hb hlt0) (Below.trod laidOut (by kernel_rfl) (of_decide_eq_true (by kernel_rfl)) h1k hb hlt1)

theorem sums_met (os : Os) : laidMet Tryd.prog Rows.controlSumsRow.laid ((laidWorld os #[two0, two0]).forCall (fun _ _ => 0) ⟨#[], #[two0, two0], []⟩).memory :=
  laidMet_of_run' 8 (by kernel_rfl) (by kernel_rfl)
theorem sums_reads (os : Os) {H : Type} (enc : TypeId × Value → H) : ∃ places, DataW.whole enc Tryd.prog ((laidWorld os #[two0, two0]).forCall (fun _ _ => 0) ⟨#[], #[two0, two0], []⟩).memory Tryd.f5.params.toList Rows.controlSumsSpec.vars false #[two0, two0].toList 8 = some ([twoD, twoD], [], places) :=
  ⟨[], by kernel_rfl⟩

set_option maxRecDepth 100000 in
theorem sums_lifted (os : Os) (started : os.Started) (H : Type) (enc : TypeId × Value → H) (F : Stop.Interp) :
    ReturnsInHanded {} Tryd.checked os 5 .any ((OpenSpec.ofChange Rows.controlSumsSpec).preRow enc Tryd.prog Tryd.f5 Rows.controlSumsRow.domain false Rows.controlSumsRow.laid) (((OpenSpec.ofChange Rows.controlSumsSpec).at F).post enc Tryd.prog Tryd.f5 false true false false) := by
  obtain ⟨places, hx⟩ := sums_reads os enc
  refine returnsInHanded_of_row (C := Tryd.checked) (s := OpenSpec.ofChange Rows.controlSumsSpec) own started (by kernel_rfl) Tryd.func5
    (witness_row_at (enc := enc) (C := Tryd.checked) false (laidWorld os #[two0, two0]) #[two0, two0] rfl (by kernel_rfl) (by kernel_rfl) (by kernel_rfl)
      (OpenSpec.preRow_of_cond 8 hx (by kernel_rfl) (fun k hk => by cases hk) (by kernel_rfl) (sums_met os))) ?_
  intro W base args ds gs before hval hW _ _ _ hL _ _
  exact sums_contract H enc W base args ds gs before hval hW hL

theorem sums_said : Rows.ControlSumsSaid :=
  OpenClaim.holds_of_cond 5 Tryd.f5 rfl rfl rfl rfl rfl rfl rfl ⟨rfl, rfl, rfl, rfl, rfl⟩ rfl rfl rfl rfl rfl (by kernel_rfl) Tryd.func5 (by kernel_rfl)
    (of_decide_eq_true (by kernel_rfl)) (by unfold Func.isWrapper; first | (rw [if_pos (by decide +kernel)]; kernel_rfl) | (rw [if_neg (by decide +kernel)]; exact ⟨rfl, rfl⟩))
    (fun os started H enc _ F => by rw [OpenClaim.pre_eq_preRow]; exact sums_lifted os started H enc F)

theorem sums_plain (f : FuncId) (fn : Func) (hf : Tryd.pinned.checked.prog.funcNamed "flowpipe/flowpipelaw30.ControlSums" = some f) (hfn : Tryd.pinned.checked.prog.funcs[f]? = some fn) :
    false = Tryd.pinned.checked.prog.looks [] ∧ ∀ (j : Nat) t, fn.params[j]? = some t → Tryd.pinned.checked.prog.wantsStandIn t = false := by
  obtain rfl : f = 5 := Option.some.inj ((show Tryd.prog.funcNamed "flowpipe/flowpipelaw30.ControlSums" = some 5 by kernel_rfl).symm.trans hf) |>.symm
  obtain rfl : fn = Tryd.f5 := (Option.some.inj (Tryd.func5.symm.trans hfn)).symm
  refine ⟨by kernel_rfl, fun j t ht => ?_⟩
  rw [Tryd.params5] at ht
  obtain rfl : t = 24 := by simpa using Array.mem_of_getElem? ht
  exact (show Tryd.prog.wantsStandIn 24 = false by kernel_rfl)

theorem sums_card : Rows.ControlSumsCardSaid :=
  Claim7.holds_tied_plain_at .later [] _ _ _ _ sums_said (fun _ h => by cases h) (by kernel_rfl) (fun _ h => by cases h) controlSums_row_tie rfl ⟨rfl, rfl⟩ (by kernel_rfl) rfl sums_plain (by kernel_rfl)
end Go.Proofs.YtofdlkgpgcnjhaaDoor
