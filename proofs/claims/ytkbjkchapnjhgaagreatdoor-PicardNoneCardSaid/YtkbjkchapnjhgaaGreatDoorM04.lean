/- Texts: Uw Ux Uy Uz Va Px Iz Mo Ma Mb Zb Ba Di Bb Bi Dp Bc Sa Bh Bg Jc Bd Be Bf Zc Bl Bj. -/
import Derived.Test.YtkbjkchapnjhgaaGreatDoorM03
import Derived.DeepKeys
set_option linter.unusedSimpArgs false
set_option linter.unusedVariables false
namespace Go.Proofs.YtkbjkchapnjhgaaGreatDoor
open Go.RowKit Fp Pu
theorem rdDiv_pc (a b:Dy) (p:Nat) (up:Bool) (ha:a.Valid) (hb:b.Valid) (b0:b.m ≠ 0) (hp1:8 ≤ p) (hp2:p ≤ 512):PCt 191 [(dyP a),(dyP b),(iP p),(bP up)] (.tup [dyP (divD a b p up),iP (divE a b p up)]):=by
 by_cases a0:a.m=0
 ·have e1:divD a b p up=zeroD ∧ divE a b p up=0:=by unfold divD divE; rw [if_pos a0,if_pos a0]; exact ⟨rfl,rfl⟩
  exact tr true Tryz.call191 Tryz.func191 (chain [.o 18 (.e (dys2_le _ _):PV.le (.e (.sl true 2 3 fun i_ j_=>(dyL a ++ dyL b).getD (i_ * 3+j_) (.v (.bool false)))) (.e (dysP [a,b]))),
   .c (rdFault2_pc _ _ _ ‹_› ‹_› (by omega) (by omega):PCt 136 [(iP p),(dysP [a,b])] _),tB 21 (by decide:((0:Int) != 0)=false),
   tB 28 (natZ_false (limbs_len_ne b0):((((limbs b.m).length:Nat):Int) == 0)=false),tB 34 (natZ_true (limbs_len0.2 a0):((((limbs a.m).length:Nat):Int) == 0)=true),
   .o 35 (.e zeroP_le:PV.le (.e (.agg [(bP false),(.v (.slice none 0 0)),(iP 0)])) (.e (dyP zeroD)))] <| rQ (.tup [(dyP zeroD),(iP 0)]) (.tup [dyP (divD a b p up),iP (divE a b p up)]) (by rw [e1.1,e1.2])) (by kernel_rfl)
 ·have va:=ha.limbs
  have vb:=hb.limbs
  have xa:=ha.exp
  have xb:=hb.exp
  have ra:=ha.range.resolve_left a0
  have rb:=hb.range.resolve_left b0
  have pa:=bitsN_pos a0
  have pb:=bitsN_pos b0
  have hK:divK a b p 3=p+3+bitsN b.m - bitsN a.m:=rfl
  have bs:=bitsN_mul_pow a0 (divK a b p 3)
  have z1:(limbs (a.m * 2 ^ divK a b p 3)).length ≤ 256:=limbs_of_bits (by omega)
  have hq:=div_bits a0 b0 p 3 (by decide)
  have q0:a.m * 2 ^ divK a b p 3 / b.m ≠ 0:=by intro q; rw [q,bitsN_zero] at hq; omega
  have z2:(limbs (a.m * 2 ^ divK a b p 3 / b.m)).length ≤ 256:=limbs_of_bits (by have:=bitsN_mono (Nat.div_le_self (a.m * 2 ^ divK a b p 3) b.m); omega)
  have z3:(limbs (a.m * 2 ^ divK a b p 3 % b.m)).length ≤ 256:=limbs_of_bits (by have:=bitsN_mono (Nat.le_of_lt (Nat.mod_lt (a.m * 2 ^ divK a b p 3) (Nat.pos_of_ne_zero b0))); omega)
  have hb0:decide (0 < ((bitsN (a.m * 2 ^ divK a b p 3 % b.m):Nat):Int))=decide (a.m * 2 ^ divK a b p 3 % b.m ≠ 0):=by
   by_cases h:a.m * 2 ^ divK a b p 3 % b.m=0
   ·rw [h,bitsN_zero]; rfl
   ·have:=bitsN_pos h
    rw [decide_eq_true h,decide_eq_true (by omega)]
  obtain ⟨d1,d2⟩:=div_more a0 b0 p up
  have h0:a.m * 2 ^ divK a b p 3 / b.m ≠ 0 ∨ a.m * 2 ^ divK a b p 3 / b.m=0 ∧ a.e - ((divK a b p 3:Nat):Int) - b.e=0 ∧ decide (0 < ((bitsN (a.m * 2 ^ divK a b p 3 % b.m):Nat):Int))=false:=.inl q0
  have hm:decide (0 < ((bitsN (a.m * 2 ^ divK a b p 3 % b.m):Nat):Int))=true → p < bitsN (a.m * 2 ^ divK a b p 3 / b.m):=fun _=>hq
  exact tr true Tryz.call191 Tryz.func191 (chain [.o 18 (.e (dys2_le _ _):PV.le (.e (.sl true 2 3 fun i_ j_=>(dyL a ++ dyL b).getD (i_ * 3+j_) (.v (.bool false)))) (.e (dysP [a,b]))),
   .c (rdFault2_pc _ _ _ ‹_› ‹_› (by omega) (by omega):PCt 136 [(iP p),(dysP [a,b])] _),tB 21 (by decide:((0:Int) != 0)=false),
   tB 28 (natZ_false (limbs_len_ne b0):((((limbs b.m).length:Nat):Int) == 0)=false),tB 34 (natZ_false (limbs_len_ne a0):((((limbs a.m).length:Nat):Int) == 0)=false),r64 ((p:Int)+3) (by omega),
   .c (dyBits_pc _ ‹_›:PCt 203 [(dyP b)] _),r64 (((p:Int)+3)+(((bitsN (Dy.m b)):Nat):Int)) (by omega),.c (dyBits_pc _ ‹_›:PCt 203 [(dyP a)] _),
   r64 ((((p:Int)+3)+(((bitsN (Dy.m b)):Nat):Int)) - (((bitsN (Dy.m a)):Nat):Int)) (by omega),
   .o 44 (.int (by split <;> omega):PV.le (.e (iP (if ((((p:Int)+3)+(((bitsN (Dy.m b)):Nat):Int)) - (((bitsN (Dy.m a)):Nat):Int)) > 0 then ((((p:Int)+3)+(((bitsN (Dy.m b)):Nat):Int)) - (((bitsN (Dy.m a)):Nat):Int)) else 0))) (.e (iP (((divK a b p 3):Nat):Int)))),
   .c (rdShl_pc a.m (divK a b p 3) (by omega) (by omega) (by omega)),.c (natDivMod_pc _ _ (by omega) (by omega) ‹_›:PCt 204 [(slP (limbs (a.m * 2 ^ (divK a b p 3)))),(slP (limbs b.m))] _),
   r64 (a.e - (((divK a b p 3):Nat):Int)) (by omega),r64 ((a.e - (((divK a b p 3):Nat):Int)) - b.e) (by omega),.c (natBitsM_pc _ (by omega):PCt 108 [(slP (limbs ((a.m * 2 ^ (divK a b p 3)) % b.m)))] _),
   .c (rdSigned_pc (! (a.neg == b.neg)) ((a.m * 2 ^ (divK a b p 3)) / b.m) ((a.e - (((divK a b p 3):Nat):Int)) - b.e) (decide (0 < (((bitsN ((a.m * 2 ^ (divK a b p 3)) % b.m)):Nat):Int))) up p (by omega) ‹_› (by omega) (by omega) (by omega) (by omega) ‹_›)] <| rQ (.tup [(dyP (cutD (!(a.neg == b.neg)) ((a.m * 2 ^ (divK a b p 3)) / b.m) ((a.e - (((divK a b p 3):Nat):Int)) - b.e) (decide (0 < (((bitsN ((a.m * 2 ^ (divK a b p 3)) % b.m)):Nat):Int))) p up)),(iP (cutE (!(a.neg == b.neg)) ((a.m * 2 ^ (divK a b p 3)) / b.m) ((a.e - (((divK a b p 3):Nat):Int)) - b.e) (decide (0 < (((bitsN ((a.m * 2 ^ (divK a b p 3)) % b.m)):Nat):Int))) p up))]) (.tup [dyP (divD a b p up),iP (divE a b p up)]) (by rw [← d1,← d2,← hb0]; rfl)) (by kernel_rfl)
theorem rdDivDown_pc (a b:Dy) (p:Nat) (ha:a.Valid) (hb:b.Valid) (b0:b.m ≠ 0) (hp1:8 ≤ p) (hp2:p ≤ 512):PCt 166 [(dyP a),(dyP b),(iP p)] (.tup [dyP (divD a b p false),iP (divE a b p false)]):=by
 exact tr true Tryz.call166 Tryz.func166 (chain [.c (rdDiv_pc a b p false ‹_› ‹_› ‹_› (by omega) (by omega))] <| .nil) (by kernel_rfl)
theorem rdDivUp_pc (a b:Dy) (p:Nat) (ha:a.Valid) (hb:b.Valid) (b0:b.m ≠ 0) (hp1:8 ≤ p) (hp2:p ≤ 512):PCt 167 [(dyP a),(dyP b),(iP p)] (.tup [dyP (divD a b p true),iP (divE a b p true)]):=by
 exact tr true Tryz.call167 Tryz.func167 (chain [.c (rdDiv_pc a b p true ‹_› ‹_› ‹_› (by omega) (by omega))] <| .nil) (by kernel_rfl)
open Go.RowKit Fp Pu
def ivKnownFT (l:List Iv) (i:Nat):PS:=⟨19,true,[(7,.e (iP i)),(6,.e (iP l.length)),(5,.e (ivsP l))],[]⟩
def ivKnownFF (l:List Iv) (N:Nat) (i:Nat):PS:=⟨19,true,[(7,.e (iP i)),(6,.e (iP l.length)),(5,.e (ivsP l))],[]⟩
theorem ivs1_le (a:Iv):E.le (.sl true 1 7 fun i j=>(ivL a).getD (i * 7+j) (.v (.bool false))) (ivsP [a]):=.sl fun i j hi hj=>by
 obtain rfl:i=0:=by omega
 rcases j with _ | _ | _ | _ | _ | _ | _ | j
 all_goals first | exact ⟨.refl _,rfl⟩ | omega
theorem ivs2_le (a b:Iv):E.le (.sl true 2 7 fun i j=>(ivL a ++ ivL b).getD (i * 7+j) (.v (.bool false))) (ivsP [a,b]):=.sl fun i j hi hj=>by
 obtain rfl | rfl:i=0 ∨ i=1:=by omega
 all_goals
  rcases j with _ | _ | _ | _ | _ | _ | _ | j
  all_goals first | exact ⟨.refl _,rfl⟩ | omega
theorem ivOff {x:Iv} (h:x.Valid) (ha:x.all=false):x.lo.Valid ∧ x.hi.Valid ∧ cmpD x.lo x.hi ≤ 0:=by
 rcases h with ⟨h1,_⟩ | ⟨_,h⟩
 ·rw [ha] at h1; cases h1
 ·exact h
theorem ivOn {x:Iv} (h:x.Valid) (ha:x.all=true):x.lo=zeroD ∧ x.hi=zeroD:=by
 rcases h with ⟨_,h⟩ | ⟨h1,_⟩
 ·exact h
 ·rw [ha] at h1; cases h1
theorem ivWhole_pc  : PCt 31 [] (ivP wholeI):=by
 exact tr true Tryz.call31 Tryz.func31 (chain [.o 1 (.e wholeP_le:PV.le (.e (.agg [(bP false),(.v (.slice none 0 0)),(iP 0),(bP false),(.v (.slice none 0 0)),(iP 0),(bP true)])) (.e (ivP wholeI)))] <| .nil) (by kernel_rfl)
theorem ivMade_pc (lo hi:Dy) (e f:Int):PCt 89 [(dyP lo),(iP e),(dyP hi),(iP f)] (ivP (madeI lo e hi f)):=by
 by_cases he:e=0
 ·by_cases hf:f=0
  ·exact tr true Tryz.call89 Tryz.func89 (chain [tB 10 (by rw [he]; rfl:(e != 0)=false),tB 13 (by rw [hf]; rfl:(f != 0)=false)] <| rQ (ivP (Iv.mk lo hi false)) (ivP (madeI lo e hi f)) (by rw [show madeI lo e hi f=⟨lo,hi,false⟩ by unfold madeI; rw [if_neg (by simp [he,hf])]]; try rfl)) (by kernel_rfl)
  ·exact tr true Tryz.call89 Tryz.func89 (chain [tB 10 (by rw [he]; rfl:(e != 0)=false),tB 13 (by simpa using hf:(f != 0)=true),.c ivWhole_pc] <| rQ (ivP wholeI) (ivP (madeI lo e hi f)) (by rw [show madeI lo e hi f=wholeI by unfold madeI; rw [if_pos (.inr hf)]])) (by kernel_rfl)
 ·exact tr true Tryz.call89 Tryz.func89 (chain [tB 10 (by simpa using he:(e != 0)=true),.c ivWhole_pc] <| rQ (ivP wholeI) (ivP (madeI lo e hi f)) (by rw [show madeI lo e hi f=wholeI by unfold madeI; rw [if_pos (.inl he)]])) (by kernel_rfl)
theorem ivZero_pc  : PCt 97 [(dyP zeroD)] (bP true):=by
 exact tr true Tryz.call97 Tryz.func97 (chain [tB 4 (rfl:zeroD.neg=false),tB 10 (natZ_true (limbs_len0.2 rfl):((((limbs zeroD.m).length:Nat):Int) == 0)=true),tB 15 (rfl:(zeroD.e == 0)=true)] <| .nil) (by kernel_rfl)
theorem ivValid_pc (x:Iv) (hx:x.Valid):PCt 73 [(ivP x)] (bP true):=by
 by_cases hxa:x.all=true
 ·obtain ⟨h1,h2⟩:=ivOn hx hxa
  exact tr true Tryz.call73 Tryz.func73 (chain [tB 5 (hxa:x.all=true),.c (by rw [h1]; exact ivZero_pc:PCt 97 [(dyP x.lo)] (bP true)),.c (by rw [h2]; exact ivZero_pc:PCt 97 [(dyP x.hi)] (bP true))] <| .nil) (by kernel_rfl)
 ·replace hxa:x.all=false:=by simpa using hxa
  obtain ⟨h1,h2,h3⟩:=ivOff hx hxa
  exact tr true Tryz.call73 Tryz.func73 (chain [tB 5 (hxa:x.all=false),.c (dyValid_pc _ ‹_›:PCt 30 [(dyP x.lo)] _),.c (dyValid_pc _ ‹_›:PCt 30 [(dyP x.hi)] _),.c (dyCmp_pc _ _ ‹_› ‹_›:PCt 71 [(dyP x.lo),(dyP x.hi)] _),
   tB 30 (decide_eq_true h3)] <| .nil) (by kernel_rfl)
theorem ivKnown_true (l:List Iv) (hl:l.length ≤ 1000) (hv:∀ i,i < l.length → (l.getD i wholeI).Valid) (ha:∀ i,i < l.length → (l.getD i wholeI).all=false):PCt 85 [(ivsP l)] (bP true):=by
 exact tr true Tryz.call85 Tryz.func85 (chain [.s (Sp.upto (ivKnownFT l) 0 l.length (by omega) (fun i hi hlti=>by
    have hvi:=hv i (by omega)
    have hai:=ha i (by omega)
    exact spt (chain [tT 8 ((i:Int) < (l.length:Int)) (by omega),iX ((i:Int)) (l.length) (by omega),tB 12 (hai:(l.getD i wholeI).all=false),.c (ivValid_pc (l.getD i wholeI) ‹_›),
     r64 ((i:Int)+1) (by omega)] <| .nil) (by kernel_rfl))
  (fun hi=>by
    exact spt (chain [tF 8 ((l.length:Int) < (l.length:Int)) (by omega)] <| .nil) (by kernel_rfl)) (by nofun):LpT 2 Tryz.f85 (ivKnownFT l 0) (.exit 0) ⟨19,true,[],[]⟩) .nil] <| .nil) (by kernel_rfl)
theorem ivKnown_false (l:List Iv) (hl:l.length ≤ 1000) (hv:∀ i,i < l.length → (l.getD i wholeI).Valid) (N:Nat) (hN:N < l.length) (ha:∀ i,i < N → (l.getD i wholeI).all=false) (hN2:(l.getD N wholeI).all=true):PCt 85 [(ivsP l)] (bP false):=by
 exact tr true Tryz.call85 Tryz.func85 (chain [.s (Sp.upto (ivKnownFF l N) 0 N (by omega) (fun i hi hlti=>by
    have hvi:=hv i (by omega)
    have hai:=ha i (by omega)
    exact spt (chain [tT 8 ((i:Int) < (l.length:Int)) (by omega),iX ((i:Int)) (l.length) (by omega),tB 12 (hai:(l.getD i wholeI).all=false),.c (ivValid_pc (l.getD i wholeI) ‹_›),
     r64 ((i:Int)+1) (by omega)] <| .nil) (by kernel_rfl))
  (fun hi=>by
    exact spt (chain [tT 8 ((N:Int) < (l.length:Int)) (by omega),iX ((N:Int)) (l.length) (by omega),tB 12 (hN2:(l.getD N wholeI).all=true)] <| .nil) (by kernel_rfl)) (by nofun):LpT 2 Tryz.f85 (ivKnownFF l N 0) .ret ⟨19,true,[(2,.e (bP false))],[]⟩) .nil] <| .nil) (by kernel_rfl)
theorem ivKnown1_pc (x:Iv) (hx:x.Valid):PCt 85 [ivsP [x]] (bP (!x.all)):=by
 have hv:∀ i,i < [x].length → ([x].getD i wholeI).Valid:=fun i hi=>(match i,hi with
  | 0,_=>hx
  | n+1,hi=>absurd hi (by simp))
 cases hxa:x.all with
 | true=>exact ivKnown_false [x] (by simp) hv 0 (by simp) (fun i hi=>absurd hi (Nat.not_lt_zero i)) hxa
 | false=>exact ivKnown_true [x] (by simp) hv (fun i hi=>(match i,hi with
  | 0,_=>hxa
  | n+1,hi=>absurd hi (by simp)))
theorem ivKnown2_pc (x y:Iv) (hx:x.Valid) (hy:y.Valid):PCt 85 [ivsP [x,y]] (bP (!(x.all || y.all))):=by
 have hv:∀ i,i < [x,y].length → ([x,y].getD i wholeI).Valid:=fun i hi=>(match i,hi with
  | 0,_=>hx
  | 1,_=>hy
  | n+2,hi=>absurd hi (by simp))
 cases hxa:x.all with
 | true=>exact ivKnown_false [x,y] (by simp) hv 0 (by simp) (fun i hi=>absurd hi (Nat.not_lt_zero i)) hxa
 | false=>cases hya:y.all with
  | true=>exact ivKnown_false [x,y] (by simp) hv 1 (by simp) (fun i hi=>(match i,hi with
   | 0,_=>hxa
   | n+1,hi=>absurd hi (by omega))) hya
  | false=>exact ivKnown_true [x,y] (by simp) hv (fun i hi=>(match i,hi with
   | 0,_=>hxa
   | 1,_=>hya
   | n+2,hi=>absurd hi (by simp)))
theorem ivAdd_pc (x y:Iv) (p:Nat) (hx:x.Valid) (hy:y.Valid) (hp1:8 ≤ p) (hp2:p ≤ 512):PCt 59 [(ivP x),(ivP y),(iP p)] (ivP (addI x y p)):=by
 by_cases hk:(x.all || y.all)=true
 ·exact tr true Tryz.call59 Tryz.func59 (chain [.o 13 (.e (ivs2_le _ _):PV.le (.e (.sl true 2 7 fun i_ j_=>(ivL x ++ ivL y).getD (i_ * 7+j_) (.v (.bool false)))) (.e (ivsP [x,y]))),.c (ivKnown2_pc _ _ ‹_› ‹_›:PCt 85 [(ivsP [x,y])] _),
   tB 14 (by rw [hk]; rfl:(!(x.all || y.all))=false),.c ivWhole_pc] <| rQ (ivP wholeI) (ivP (addI x y p)) (by rw [show addI x y p=wholeI by unfold addI; rw [if_pos hk]])) (by kernel_rfl)
 ·replace hk:(x.all || y.all)=false:=by simpa using hk
  have hxa:x.all=false:=by cases h:x.all; rfl; rw [h] at hk; simp at hk
  have hya:y.all=false:=by cases h:y.all; rfl; rw [h] at hk; simp at hk
  obtain ⟨v1,v2,v3⟩:=ivOff hx hxa
  obtain ⟨v4,v5,v6⟩:=ivOff hy hya
  exact tr true Tryz.call59 Tryz.func59 (chain [.o 13 (.e (ivs2_le _ _):PV.le (.e (.sl true 2 7 fun i_ j_=>(ivL x ++ ivL y).getD (i_ * 7+j_) (.v (.bool false)))) (.e (ivsP [x,y]))),.c (ivKnown2_pc _ _ ‹_› ‹_›:PCt 85 [(ivsP [x,y])] _),
   tB 14 (by rw [hk]; rfl:(!(x.all || y.all))=true),.c (ivPermitted_pc _:PCt 86 [(iP p)] _),tB 18 (precB_true.2 ⟨by omega,by omega⟩:(precB (p:Int))=true),
   .c (rdAddDown_pc x.lo y.lo p ‹_› ‹_› (by omega) (by omega)),.c (rdAddUp_pc x.hi y.hi p ‹_› ‹_› (by omega) (by omega)),
   .c (ivMade_pc (rndD (sumD x.lo y.lo) p false) (rndD (sumD x.hi y.hi) p true) (rndE (sumD x.lo y.lo) p false) (rndE (sumD x.hi y.hi) p true))] <| rQ (ivP (madeI (rndD (sumD x.lo y.lo) p false) (rndE (sumD x.lo y.lo) p false) (rndD (sumD x.hi y.hi) p true) (rndE (sumD x.hi y.hi) p true))) (ivP (addI x y p)) (by rw [show addI x y p=_ by unfold addI; rw [if_neg (by rw [hk]; decide)]])) (by kernel_rfl)
theorem ivNeg_pc (x:Iv) (hx:x.Valid):PCt 170 [(ivP x)] (ivP (negI x)):=by
 by_cases hxa:x.all=true
 ·exact tr true Tryz.call170 Tryz.func170 (chain [.o 4 (.e (ivs1_le _):PV.le (.e (.sl true 1 7 fun i_ j_=>(ivL x).getD (i_ * 7+j_) (.v (.bool false)))) (.e (ivsP [x]))),.c (ivKnown1_pc _ ‹_›:PCt 85 [(ivsP [x])] _),tB 5 (by rw [hxa]; rfl:(!x.all)=false),
   .c ivWhole_pc] <| rQ (ivP wholeI) (ivP (negI x)) (by rw [show negI x=wholeI by unfold negI; rw [if_pos hxa]])) (by kernel_rfl)
 ·replace hxa:x.all=false:=by simpa using hxa
  obtain ⟨v1,v2,v3⟩:=ivOff hx hxa
  exact tr true Tryz.call170 Tryz.func170 (chain [.o 4 (.e (ivs1_le _):PV.le (.e (.sl true 1 7 fun i_ j_=>(ivL x).getD (i_ * 7+j_) (.v (.bool false)))) (.e (ivsP [x]))),.c (ivKnown1_pc _ ‹_›:PCt 85 [(ivsP [x])] _),tB 5 (by rw [hxa]; rfl:(!x.all)=true),
   .c (dyNeg_pc _ ‹_›:PCt 105 [(dyP x.hi)] _),.c (dyNeg_pc _ ‹_›:PCt 105 [(dyP x.lo)] _)] <| rQ (ivP (Iv.mk (negD x.hi) (negD x.lo) false)) (ivP (negI x)) (by rw [show negI x=⟨negD x.hi,negD x.lo,false⟩ by unfold negI; rw [if_neg (by rw [hxa]; decide)]]; try rfl)) (by kernel_rfl)
theorem ivSub_pc (x y:Iv) (p:Nat) (hx:x.Valid) (hy:y.Valid) (hp1:8 ≤ p) (hp2:p ≤ 512):PCt 168 [(ivP x),(ivP y),(iP p)] (ivP (subI x y p)):=by
 have hn:=negI_valid hy
 exact tr true Tryz.call168 Tryz.func168 (chain [.c (ivNeg_pc y ‹_›),.c (ivAdd_pc x (negI y) p ‹_› ‹_› (by omega) (by omega))] <| .nil) (by kernel_rfl)
theorem ivPoint_pc (d:Dy) (hd:d.Valid):PCt 13 [(dyP d)] (ivP (pointI d)):=by
 exact tr true Tryz.call13 Tryz.func13 (chain [.c (dyValid_pc _ ‹_›:PCt 30 [(dyP d)] _)] <| .nil) (by kernel_rfl)
theorem dyAbs_pc (d:Dy) (hd:d.Valid):PCt 210 [(dyP d)] (dyP (absD d)):=by
 have hl:=hd.limbs
 by_cases h0:d.m=0
 ·have e1:absD d=zeroD:=by
   rcases hd.canon with q | q
   ·unfold absD zeroD; rw [q.1,q.2.2]
   ·omega
  exact tr true Tryz.call210 Tryz.func210 (chain [.c (dyValid_pc _ ‹_›:PCt 30 [(dyP d)] _),tB 10 (natZ_true (limbs_len0.2 h0):((((limbs d.m).length:Nat):Int) == 0)=true),
   .o 12 (.e zeroP_le:PV.le (.e (.agg [(bP false),(.v (.slice none 0 0)),(iP 0)])) (.e (dyP zeroD)))] <| rQ (dyP zeroD) (dyP (absD d)) (by rw [e1])) (by kernel_rfl)
 ·exact tr true Tryz.call210 Tryz.func210 (chain [.c (dyValid_pc _ ‹_›:PCt 30 [(dyP d)] _),tB 10 (natZ_false (limbs_len_ne h0):((((limbs d.m).length:Nat):Int) == 0)=false),.c (clone_pc _ (ok_limbs _) (by omega):PCt 102 [(slP (limbs d.m))] _)] <| .nil) (by kernel_rfl)
theorem ivLess_pc (a b:Dy) (ha:a.Valid) (hb:b.Valid):PCt 106 [(dyP a),(dyP b)] (dyP (minD a b)):=by
 have hc:=cmpD_neg a b
 by_cases h:(cmpD a b ≤ 0)
 ·exact tr true Tryz.call106 Tryz.func106 (chain [.c (dyCmp_pc _ _ ‹_› ‹_›:PCt 71 [(dyP a),(dyP b)] _),tB 8 (decide_eq_true h)] <| rQ (dyP a) (dyP (minD a b)) (by unfold minD; rw [if_neg (by omega)])) (by kernel_rfl)
 ·exact tr true Tryz.call106 Tryz.func106 (chain [.c (dyCmp_pc _ _ ‹_› ‹_›:PCt 71 [(dyP a),(dyP b)] _),tB 8 (decide_eq_false h)] <| rQ (dyP b) (dyP (minD a b)) (by unfold minD; rw [if_pos (by omega)])) (by kernel_rfl)
theorem ivMore_pc (a b:Dy) (ha:a.Valid) (hb:b.Valid):PCt 107 [(dyP a),(dyP b)] (dyP (maxD a b)):=by
 have hc:=cmpD_neg a b
 by_cases h:(0 ≤ cmpD a b)
 ·exact tr true Tryz.call107 Tryz.func107 (chain [.c (dyCmp_pc _ _ ‹_› ‹_›:PCt 71 [(dyP a),(dyP b)] _),tB 8 (decide_eq_true h)] <| rQ (dyP a) (dyP (maxD a b)) (by unfold maxD; rw [if_neg (by omega)])) (by kernel_rfl)
 ·exact tr true Tryz.call107 Tryz.func107 (chain [.c (dyCmp_pc _ _ ‹_› ‹_›:PCt 71 [(dyP a),(dyP b)] _),tB 8 (decide_eq_false h)] <| rQ (dyP b) (dyP (maxD a b)) (by unfold maxD; rw [if_pos (by omega)])) (by kernel_rfl)
theorem ivSign_pc (x:Iv) (hx:x.Valid):PCt 192 [(ivP x)] (iP (signI x)):=by
 by_cases hxa:x.all=true
 ·exact tr true Tryz.call192 Tryz.func192 (chain [.o 5 (.e (ivs1_le _):PV.le (.e (.sl true 1 7 fun i_ j_=>(ivL x).getD (i_ * 7+j_) (.v (.bool false)))) (.e (ivsP [x]))),.c (ivKnown1_pc _ ‹_›:PCt 85 [(ivsP [x])] _),tB 6 (by rw [hxa]; rfl:(!x.all)=false)] <| rQ (iP 0) (iP (signI x)) (by rw [show signI x=0 by unfold signI; rw [if_pos hxa]])) (by kernel_rfl)
 ·replace hxa:x.all=false:=by simpa using hxa
  obtain ⟨v1,v2,v3⟩:=ivOff hx hxa
  by_cases h1:0 < x.lo.sign
  ·exact tr true Tryz.call192 Tryz.func192 (chain [.o 5 (.e (ivs1_le _):PV.le (.e (.sl true 1 7 fun i_ j_=>(ivL x).getD (i_ * 7+j_) (.v (.bool false)))) (.e (ivsP [x]))),.c (ivKnown1_pc _ ‹_›:PCt 85 [(ivsP [x])] _),tB 6 (by rw [hxa]; rfl:(!x.all)=true),
    .c (dySign_pc _ ‹_›:PCt 51 [(dyP x.lo)] _),tB 12 (decide_eq_true h1)] <| rQ (iP 1) (iP (signI x)) (by rw [show signI x=1 by unfold signI; rw [if_neg (by rw [hxa]; decide)]; simp [h1]])) (by kernel_rfl)
  ·by_cases h2:x.hi.sign < 0
   ·exact tr true Tryz.call192 Tryz.func192 (chain [.o 5 (.e (ivs1_le _):PV.le (.e (.sl true 1 7 fun i_ j_=>(ivL x).getD (i_ * 7+j_) (.v (.bool false)))) (.e (ivsP [x]))),.c (ivKnown1_pc _ ‹_›:PCt 85 [(ivsP [x])] _),tB 6 (by rw [hxa]; rfl:(!x.all)=true),
     .c (dySign_pc _ ‹_›:PCt 51 [(dyP x.lo)] _),tB 12 (decide_eq_false h1),.c (dySign_pc _ ‹_›:PCt 51 [(dyP x.hi)] _),tB 17 (decide_eq_true h2)] <| rQ (iP (-1)) (iP (signI x)) (by rw [show signI x = -1 by unfold signI; rw [if_neg (by rw [hxa]; decide)]; simp [h1,h2]])) (by kernel_rfl)
   ·exact tr true Tryz.call192 Tryz.func192 (chain [.o 5 (.e (ivs1_le _):PV.le (.e (.sl true 1 7 fun i_ j_=>(ivL x).getD (i_ * 7+j_) (.v (.bool false)))) (.e (ivsP [x]))),.c (ivKnown1_pc _ ‹_›:PCt 85 [(ivsP [x])] _),tB 6 (by rw [hxa]; rfl:(!x.all)=true),
     .c (dySign_pc _ ‹_›:PCt 51 [(dyP x.lo)] _),tB 12 (decide_eq_false h1),.c (dySign_pc _ ‹_›:PCt 51 [(dyP x.hi)] _),tB 17 (decide_eq_false h2)] <| rQ (iP 0) (iP (signI x)) (by rw [show signI x=0 by unfold signI; rw [if_neg (by rw [hxa]; decide)]; simp [h1,h2]])) (by kernel_rfl)
theorem ivMag_pc (x:Iv) (hx:x.Valid) (hxa:x.all=false):PCt 206 [(ivP x)] (.tup [dyP (magI x),bP true]):=by
 obtain ⟨v1,v2,v3⟩:=ivOff hx hxa
 have w1:=absD_valid v1
 have w2:=absD_valid v2
 exact tr true Tryz.call206 Tryz.func206 (chain [.o 5 (.e (ivs1_le _):PV.le (.e (.sl true 1 7 fun i_ j_=>(ivL x).getD (i_ * 7+j_) (.v (.bool false)))) (.e (ivsP [x]))),.c (ivKnown1_pc _ ‹_›:PCt 85 [(ivsP [x])] _),tB 6 (by rw [hxa]; rfl:(!x.all)=true),
  .c (dyAbs_pc x.lo ‹_›),.c (dyAbs_pc x.hi ‹_›),.c (ivMore_pc (absD x.lo) (absD x.hi) ‹_› ‹_›)] <| .nil) (by kernel_rfl)
theorem ivMig_pc (x:Iv) (hx:x.Valid) (hxa:x.all=false):PCt 205 [(ivP x)] (.tup [dyP (migI x),bP true]):=by
 obtain ⟨v1,v2,v3⟩:=ivOff hx hxa
 have w1:=absD_valid v1
 have w2:=absD_valid v2
 by_cases hs:signI x=0
 ·exact tr true Tryz.call205 Tryz.func205 (chain [.o 5 (.e (ivs1_le _):PV.le (.e (.sl true 1 7 fun i_ j_=>(ivL x).getD (i_ * 7+j_) (.v (.bool false)))) (.e (ivsP [x]))),.c (ivKnown1_pc _ ‹_›:PCt 85 [(ivsP [x])] _),tB 6 (by rw [hxa]; rfl:(!x.all)=true),
   .c (ivSign_pc x ‹_›),tB 11 (by rw [hs]; rfl:((signI x) == 0)=true),.o 12 (.e zeroP_le:PV.le (.e (.agg [(bP false),(.v (.slice none 0 0)),(iP 0)])) (.e (dyP zeroD)))] <| rQ (.tup [(dyP zeroD),(bP true)]) (.tup [dyP (migI x),bP true]) (by rw [show migI x=zeroD by unfold migI; rw [if_pos hs]])) (by kernel_rfl)
 ·exact tr true Tryz.call205 Tryz.func205 (chain [.o 5 (.e (ivs1_le _):PV.le (.e (.sl true 1 7 fun i_ j_=>(ivL x).getD (i_ * 7+j_) (.v (.bool false)))) (.e (ivsP [x]))),.c (ivKnown1_pc _ ‹_›:PCt 85 [(ivsP [x])] _),tB 6 (by rw [hxa]; rfl:(!x.all)=true),
   .c (ivSign_pc x ‹_›),tB 11 (by simpa using hs:((signI x) == 0)=false),.c (dyAbs_pc x.lo ‹_›),.c (dyAbs_pc x.hi ‹_›),.c (ivLess_pc (absD x.lo) (absD x.hi) ‹_› ‹_›)] <| rQ (.tup [(dyP (minD (absD x.lo) (absD x.hi))),(bP true)]) (.tup [dyP (migI x),bP true]) (by rw [show migI x=minD (absD x.lo) (absD x.hi) by unfold migI; rw [if_neg hs]])) (by kernel_rfl)
theorem ivAbs_pc (x:Iv) (hx:x.Valid):PCt 193 [(ivP x)] (ivP (absI x)):=by
 by_cases hxa:x.all=true
 ·exact tr true Tryz.call193 Tryz.func193 (chain [.o 8 (.e (ivs1_le _):PV.le (.e (.sl true 1 7 fun i_ j_=>(ivL x).getD (i_ * 7+j_) (.v (.bool false)))) (.e (ivsP [x]))),.c (ivKnown1_pc _ ‹_›:PCt 85 [(ivsP [x])] _),tB 9 (by rw [hxa]; rfl:(!x.all)=false),
   .c ivWhole_pc] <| rQ (ivP wholeI) (ivP (absI x)) (by rw [show absI x=wholeI by unfold absI; rw [if_pos hxa]])) (by kernel_rfl)
 ·replace hxa:x.all=false:=by simpa using hxa
  obtain ⟨v1,v2,v3⟩:=ivOff hx hxa
  exact tr true Tryz.call193 Tryz.func193 (chain [.o 8 (.e (ivs1_le _):PV.le (.e (.sl true 1 7 fun i_ j_=>(ivL x).getD (i_ * 7+j_) (.v (.bool false)))) (.e (ivsP [x]))),.c (ivKnown1_pc _ ‹_›:PCt 85 [(ivsP [x])] _),tB 9 (by rw [hxa]; rfl:(!x.all)=true),
   .c (ivMig_pc x ‹_› hxa),.c (ivMag_pc x ‹_› hxa)] <| rQ (ivP (Iv.mk (migI x) (magI x) false)) (ivP (absI x)) (by rw [show absI x=⟨migI x,magI x,false⟩ by unfold absI; rw [if_neg (by rw [hxa]; decide)]]; try rfl)) (by kernel_rfl)
open Go.RowKit Fp Pu
def ivFour1 (x y:Iv) (p:Nat) (gd gu:FuncId) (DD:Dy → Dy → Bool → Dy) (EE:Dy → Dy → Bool → Int):PS:=⟨96,true,[(41,.e (iP 0)),(40,.e (.agg (ivL (Iv.mk x.lo y.lo x.lo.neg) ++ [(slP (limbs x.lo.m)),(iP x.lo.e)] ++ ivL (Iv.mk y.hi x.hi y.lo.neg) ++ [(slP (limbs y.lo.m)),(iP y.lo.e)] ++ dyL x.hi ++ dyL y.hi))),(12,.box 12 0),(10,.box 10 0),(2,.e (iP p)),(3,.e (.fn gd [])),(4,.e (.fn gu []))],[(12,.cells 26 (ivL (Iv.mk (DD x.lo y.lo false) (DD x.lo y.lo true) false))),(10,.cells 26 [(bP false),(.v (.slice none 0 0)),(iP 0),(bP false),(.v (.slice none 0 0)),(iP 0),(bP false)])]⟩
def ivFour2 (x y:Iv) (p:Nat) (gd gu:FuncId) (DD:Dy → Dy → Bool → Dy) (EE:Dy → Dy → Bool → Int):PS:=⟨96,true,[(41,.e (iP (0+1))),(40,.e (.agg (ivL (Iv.mk x.lo y.lo x.lo.neg) ++ [(slP (limbs x.lo.m)),(iP x.lo.e)] ++ ivL (Iv.mk y.hi x.hi y.lo.neg) ++ [(slP (limbs y.lo.m)),(iP y.lo.e)] ++ dyL x.hi ++ dyL y.hi))),(12,.box 12 0),(10,.box 10 0),(2,.e (iP p)),(3,.e (.fn gd [])),(4,.e (.fn gu []))],[(12,.cells 26 (ivL (Iv.mk (minD (DD x.lo y.lo false) (DD x.lo y.hi false)) (maxD (DD x.lo y.lo true) (DD x.lo y.hi true)) false))),(10,.cells 26 [(bP false),(.v (.slice none 0 0)),(iP 0),(bP false),(.v (.slice none 0 0)),(iP 0),(bP false)])]⟩
def ivFour3 (x y:Iv) (p:Nat) (gd gu:FuncId) (DD:Dy → Dy → Bool → Dy) (EE:Dy → Dy → Bool → Int):PS:=⟨96,true,[(41,.e (iP ((0+1)+1))),(40,.e (.agg (ivL (Iv.mk x.lo y.lo x.lo.neg) ++ [(slP (limbs x.lo.m)),(iP x.lo.e)] ++ ivL (Iv.mk y.hi x.hi y.lo.neg) ++ [(slP (limbs y.lo.m)),(iP y.lo.e)] ++ dyL x.hi ++ dyL y.hi))),(12,.box 12 0),(10,.box 10 0),(2,.e (iP p)),(3,.e (.fn gd [])),(4,.e (.fn gu []))],[(12,.cells 26 (ivL (Iv.mk (minD (minD (DD x.lo y.lo false) (DD x.lo y.hi false)) (DD x.hi y.lo false)) (maxD (maxD (DD x.lo y.lo true) (DD x.lo y.hi true)) (DD x.hi y.lo true)) false))),(10,.cells 26 [(bP false),(.v (.slice none 0 0)),(iP 0),(bP false),(.v (.slice none 0 0)),(iP 0),(bP false)])]⟩
def ivFour4 (x y:Iv) (p:Nat) (gd gu:FuncId) (DD:Dy → Dy → Bool → Dy) (EE:Dy → Dy → Bool → Int):PS:=⟨96,true,[(41,.e (iP (((0+1)+1)+1))),(40,.e (.agg (ivL (Iv.mk x.lo y.lo x.lo.neg) ++ [(slP (limbs x.lo.m)),(iP x.lo.e)] ++ ivL (Iv.mk y.hi x.hi y.lo.neg) ++ [(slP (limbs y.lo.m)),(iP y.lo.e)] ++ dyL x.hi ++ dyL y.hi))),(12,.box 12 0),(10,.box 10 0),(2,.e (iP p)),(3,.e (.fn gd [])),(4,.e (.fn gu []))],[(12,.cells 26 (ivL (Iv.mk (minD (minD (minD (DD x.lo y.lo false) (DD x.lo y.hi false)) (DD x.hi y.lo false)) (DD x.hi y.hi false)) (maxD (maxD (maxD (DD x.lo y.lo true) (DD x.lo y.hi true)) (DD x.hi y.lo true)) (DD x.hi y.hi true)) false))),(10,.cells 26 [(bP false),(.v (.slice none 0 0)),(iP 0),(bP false),(.v (.slice none 0 0)),(iP 0),(bP false)])]⟩
theorem ivFour_pc (x y:Iv) (p:Nat) (gd gu:FuncId) (DD:Dy → Dy → Bool → Dy) (EE:Dy → Dy → Bool → Int) (hd:∀ a b,(a=x.lo ∨ a=x.hi) → (b=y.lo ∨ b=y.hi) → PCt gd [dyP a,dyP b,iP (p:Int)] (.tup [dyP (DD a b false),iP (EE a b false)]))
  (hu:∀ a b,(a=x.lo ∨ a=x.hi) → (b=y.lo ∨ b=y.hi) → PCt gu [dyP a,dyP b,iP (p:Int)] (.tup [dyP (DD a b true),iP (EE a b true)])) (hv:∀ a b up,(DD a b up).Valid):PCt 90 [(ivP x),(ivP y),(iP p),(.fn gd []),(.fn gu [])] (ivP (fourI DD EE x y)):=by
 exact tr true Tryz.call90 Tryz.func90 (chain [.u 5,tB 42 (by decide:(decide ((0:Int) < 4))=true)] <| .w ((EE x.lo y.lo false)=0)
  (fun k1=>.w ((EE x.lo y.lo true)=0)
   (fun k2=>chain [.j 3 (ivFour1 x y p gd gu DD EE)
   (chain [iX (0) (4) (by omega),iX (0) (2) (by omega),iX (1) (2) (by omega),.c (hd _ _ (.inl rfl) (.inl rfl):PCt gd ((dyP x.lo) :: (dyP y.lo) :: (iP p) :: []) _),iX (0) (2) (by omega),iX (1) (2) (by omega),
    .c (hu _ _ (.inl rfl) (.inl rfl):PCt gu ((dyP x.lo) :: (dyP y.lo) :: (iP p) :: []) _),tB 66 (bne_eq_false_iff_eq.2 k1),tB 69 (bne_eq_false_iff_eq.2 k2),tB 73 (by decide:((0:Int) == 0)=true),
    tB 84 (by decide:((0:Int) == 0)=true)] <| .nil),
    r64 (0+1) (by omega),tB 42 (by decide:(decide (((0+1):Int) < 4))=true)] <| .w ((EE x.lo y.hi false)=0)
    (fun k3=>.w ((EE x.lo y.hi true)=0)
     (fun k4=>chain [.j 3 (ivFour2 x y p gd gu DD EE)
   (chain [iX ((0+1)) (4) (by omega),iX (0) (2) (by omega),iX (1) (2) (by omega),.c (hd _ _ (.inl rfl) (.inr rfl):PCt gd ((dyP x.lo) :: (dyP y.hi) :: (iP p) :: []) _),iX (0) (2) (by omega),iX (1) (2) (by omega),
    .c (hu _ _ (.inl rfl) (.inr rfl):PCt gu ((dyP x.lo) :: (dyP y.hi) :: (iP p) :: []) _),tB 66 (bne_eq_false_iff_eq.2 k3),tB 69 (bne_eq_false_iff_eq.2 k4),tB 73 (by decide:(((0+1):Int) == 0)=false),
    .c (dyCmp_pc _ _ (hv _ _ _) (hv _ _ _):PCt 71 [(dyP (DD x.lo y.hi false)),(dyP (DD x.lo y.lo false))] _)] <| .w ((cmpD (DD x.lo y.hi false) (DD x.lo y.lo false)) < 0)
    (fun m1=>chain [tB 79 (decide_eq_true m1),tB 84 (by decide:(((0+1):Int) == 0)=false),.c (dyCmp_pc _ _ (hv _ _ _) (hv _ _ _):PCt 71 [(dyP (DD x.lo y.hi true)),(dyP (DD x.lo y.lo true))] _)] <| .w (0 < (cmpD (DD x.lo y.hi true) (DD x.lo y.lo true)))
     (fun m2=>chain [tB 90 (decide_eq_true m2)] <| .e (chain [.b 12 (.of_eq (by rw [show minD (DD x.lo y.lo false) (DD x.lo y.hi false)=(DD x.lo y.hi false) from if_pos m1,show maxD (DD x.lo y.lo true) (DD x.lo y.hi true)=(DD x.lo y.hi true) from if_pos m2]):Bx.le (.cells 26 (ivL (Iv.mk (DD x.lo y.hi false) (DD x.lo y.hi true) false))) (.cells 26 (ivL (Iv.mk (minD (DD x.lo y.lo false) (DD x.lo y.hi false)) (maxD (DD x.lo y.lo true) (DD x.lo y.hi true)) false))))] <| .nil))
     (fun m2=>chain [tB 90 (decide_eq_false m2)] <| .e (chain [.b 12 (.of_eq (by rw [show minD (DD x.lo y.lo false) (DD x.lo y.hi false)=(DD x.lo y.hi false) from if_pos m1,show maxD (DD x.lo y.lo true) (DD x.lo y.hi true)=(DD x.lo y.lo true) from if_neg m2]):Bx.le (.cells 26 (ivL (Iv.mk (DD x.lo y.hi false) (DD x.lo y.lo true) false))) (.cells 26 (ivL (Iv.mk (minD (DD x.lo y.lo false) (DD x.lo y.hi false)) (maxD (DD x.lo y.lo true) (DD x.lo y.hi true)) false))))] <| .nil)))
    (fun m1=>chain [tB 79 (decide_eq_false m1),tB 84 (by decide:(((0+1):Int) == 0)=false),.c (dyCmp_pc _ _ (hv _ _ _) (hv _ _ _):PCt 71 [(dyP (DD x.lo y.hi true)),(dyP (DD x.lo y.lo true))] _)] <| .w (0 < (cmpD (DD x.lo y.hi true) (DD x.lo y.lo true)))
     (fun m2=>chain [tB 90 (decide_eq_true m2)] <| .e (chain [.b 12 (.of_eq (by rw [show minD (DD x.lo y.lo false) (DD x.lo y.hi false)=(DD x.lo y.lo false) from if_neg m1,show maxD (DD x.lo y.lo true) (DD x.lo y.hi true)=(DD x.lo y.hi true) from if_pos m2]):Bx.le (.cells 26 (ivL (Iv.mk (DD x.lo y.lo false) (DD x.lo y.hi true) false))) (.cells 26 (ivL (Iv.mk (minD (DD x.lo y.lo false) (DD x.lo y.hi false)) (maxD (DD x.lo y.lo true) (DD x.lo y.hi true)) false))))] <| .nil))
     (fun m2=>chain [tB 90 (decide_eq_false m2)] <| .e (chain [.b 12 (.of_eq (by rw [show minD (DD x.lo y.lo false) (DD x.lo y.hi false)=(DD x.lo y.lo false) from if_neg m1,show maxD (DD x.lo y.lo true) (DD x.lo y.hi true)=(DD x.lo y.lo true) from if_neg m2]):Bx.le (.cells 26 (ivL (Iv.mk (DD x.lo y.lo false) (DD x.lo y.lo true) false))) (.cells 26 (ivL (Iv.mk (minD (DD x.lo y.lo false) (DD x.lo y.hi false)) (maxD (DD x.lo y.lo true) (DD x.lo y.hi true)) false))))] <| .nil)))),
      r64 ((0+1)+1) (by omega),tB 42 (by decide:(decide ((((0+1)+1):Int) < 4))=true)] <| .w ((EE x.hi y.lo false)=0)
      (fun k5=>.w ((EE x.hi y.lo true)=0)
       (fun k6=>chain [.j 3 (ivFour3 x y p gd gu DD EE)
   (chain [iX (((0+1)+1)) (4) (by omega),iX (0) (2) (by omega),iX (1) (2) (by omega),.c (hd _ _ (.inr rfl) (.inl rfl):PCt gd ((dyP x.hi) :: (dyP y.lo) :: (iP p) :: []) _),iX (0) (2) (by omega),iX (1) (2) (by omega),
    .c (hu _ _ (.inr rfl) (.inl rfl):PCt gu ((dyP x.hi) :: (dyP y.lo) :: (iP p) :: []) _),tB 66 (bne_eq_false_iff_eq.2 k5),tB 69 (bne_eq_false_iff_eq.2 k6),tB 73 (by decide:((((0+1)+1):Int) == 0)=false),
    .c (dyCmp_pc _ _ (hv _ _ _) (minD_valid (hv _ _ _) (hv _ _ _)):PCt 71 [(dyP (DD x.hi y.lo false)),(dyP (minD (DD x.lo y.lo false) (DD x.lo y.hi false)))] _)] <| .w ((cmpD (DD x.hi y.lo false) (minD (DD x.lo y.lo false) (DD x.lo y.hi false))) < 0)
    (fun m1=>chain [tB 79 (decide_eq_true m1),tB 84 (by decide:((((0+1)+1):Int) == 0)=false),
     .c (dyCmp_pc _ _ (hv _ _ _) (maxD_valid (hv _ _ _) (hv _ _ _)):PCt 71 [(dyP (DD x.hi y.lo true)),(dyP (maxD (DD x.lo y.lo true) (DD x.lo y.hi true)))] _)] <| .w (0 < (cmpD (DD x.hi y.lo true) (maxD (DD x.lo y.lo true) (DD x.lo y.hi true))))
     (fun m2=>chain [tB 90 (decide_eq_true m2)] <| .e (chain [.b 12 (.of_eq (by rw [show minD (minD (DD x.lo y.lo false) (DD x.lo y.hi false)) (DD x.hi y.lo false)=(DD x.hi y.lo false) from if_pos m1,show maxD (maxD (DD x.lo y.lo true) (DD x.lo y.hi true)) (DD x.hi y.lo true)=(DD x.hi y.lo true) from if_pos m2]):Bx.le (.cells 26 (ivL (Iv.mk (DD x.hi y.lo false) (DD x.hi y.lo true) false))) (.cells 26 (ivL (Iv.mk (minD (minD (DD x.lo y.lo false) (DD x.lo y.hi false)) (DD x.hi y.lo false)) (maxD (maxD (DD x.lo y.lo true) (DD x.lo y.hi true)) (DD x.hi y.lo true)) false))))] <| .nil))
     (fun m2=>chain [tB 90 (decide_eq_false m2)] <| .e (chain [.b 12 (.of_eq (by rw [show minD (minD (DD x.lo y.lo false) (DD x.lo y.hi false)) (DD x.hi y.lo false)=(DD x.hi y.lo false) from if_pos m1,show maxD (maxD (DD x.lo y.lo true) (DD x.lo y.hi true)) (DD x.hi y.lo true)=(maxD (DD x.lo y.lo true) (DD x.lo y.hi true)) from if_neg m2]):Bx.le (.cells 26 (ivL (Iv.mk (DD x.hi y.lo false) (maxD (DD x.lo y.lo true) (DD x.lo y.hi true)) false))) (.cells 26 (ivL (Iv.mk (minD (minD (DD x.lo y.lo false) (DD x.lo y.hi false)) (DD x.hi y.lo false)) (maxD (maxD (DD x.lo y.lo true) (DD x.lo y.hi true)) (DD x.hi y.lo true)) false))))] <| .nil)))
    (fun m1=>chain [tB 79 (decide_eq_false m1),tB 84 (by decide:((((0+1)+1):Int) == 0)=false),
     .c (dyCmp_pc _ _ (hv _ _ _) (maxD_valid (hv _ _ _) (hv _ _ _)):PCt 71 [(dyP (DD x.hi y.lo true)),(dyP (maxD (DD x.lo y.lo true) (DD x.lo y.hi true)))] _)] <| .w (0 < (cmpD (DD x.hi y.lo true) (maxD (DD x.lo y.lo true) (DD x.lo y.hi true))))
     (fun m2=>chain [tB 90 (decide_eq_true m2)] <| .e (chain [.b 12 (.of_eq (by rw [show minD (minD (DD x.lo y.lo false) (DD x.lo y.hi false)) (DD x.hi y.lo false)=(minD (DD x.lo y.lo false) (DD x.lo y.hi false)) from if_neg m1,show maxD (maxD (DD x.lo y.lo true) (DD x.lo y.hi true)) (DD x.hi y.lo true)=(DD x.hi y.lo true) from if_pos m2]):Bx.le (.cells 26 (ivL (Iv.mk (minD (DD x.lo y.lo false) (DD x.lo y.hi false)) (DD x.hi y.lo true) false))) (.cells 26 (ivL (Iv.mk (minD (minD (DD x.lo y.lo false) (DD x.lo y.hi false)) (DD x.hi y.lo false)) (maxD (maxD (DD x.lo y.lo true) (DD x.lo y.hi true)) (DD x.hi y.lo true)) false))))] <| .nil))
     (fun m2=>chain [tB 90 (decide_eq_false m2)] <| .e (chain [.b 12 (.of_eq (by rw [show minD (minD (DD x.lo y.lo false) (DD x.lo y.hi false)) (DD x.hi y.lo false)=(minD (DD x.lo y.lo false) (DD x.lo y.hi false)) from if_neg m1,show maxD (maxD (DD x.lo y.lo true) (DD x.lo y.hi true)) (DD x.hi y.lo true)=(maxD (DD x.lo y.lo true) (DD x.lo y.hi true)) from if_neg m2]):Bx.le (.cells 26 (ivL (Iv.mk (minD (DD x.lo y.lo false) (DD x.lo y.hi false)) (maxD (DD x.lo y.lo true) (DD x.lo y.hi true)) false))) (.cells 26 (ivL (Iv.mk (minD (minD (DD x.lo y.lo false) (DD x.lo y.hi false)) (DD x.hi y.lo false)) (maxD (maxD (DD x.lo y.lo true) (DD x.lo y.hi true)) (DD x.hi y.lo true)) false))))] <| .nil)))),
        r64 (((0+1)+1)+1) (by omega),tB 42 (by decide:(decide (((((0+1)+1)+1):Int) < 4))=true)] <| .w ((EE x.hi y.hi false)=0)
        (fun k7=>.w ((EE x.hi y.hi true)=0)
         (fun k8=>chain [.j 3 (ivFour4 x y p gd gu DD EE)
   (chain [iX ((((0+1)+1)+1)) (4) (by omega),iX (0) (2) (by omega),iX (1) (2) (by omega),.c (hd _ _ (.inr rfl) (.inr rfl):PCt gd ((dyP x.hi) :: (dyP y.hi) :: (iP p) :: []) _),iX (0) (2) (by omega),iX (1) (2) (by omega),
    .c (hu _ _ (.inr rfl) (.inr rfl):PCt gu ((dyP x.hi) :: (dyP y.hi) :: (iP p) :: []) _),tB 66 (bne_eq_false_iff_eq.2 k7),tB 69 (bne_eq_false_iff_eq.2 k8),tB 73 (by decide:(((((0+1)+1)+1):Int) == 0)=false),
    .c (dyCmp_pc _ _ (hv _ _ _) (minD_valid (minD_valid (hv _ _ _) (hv _ _ _)) (hv _ _ _)):PCt 71 [(dyP (DD x.hi y.hi false)),(dyP (minD (minD (DD x.lo y.lo false) (DD x.lo y.hi false)) (DD x.hi y.lo false)))] _)] <| .w ((cmpD (DD x.hi y.hi false) (minD (minD (DD x.lo y.lo false) (DD x.lo y.hi false)) (DD x.hi y.lo false))) < 0)
    (fun m1=>chain [tB 79 (decide_eq_true m1),tB 84 (by decide:(((((0+1)+1)+1):Int) == 0)=false),
     .c (dyCmp_pc _ _ (hv _ _ _) (maxD_valid (maxD_valid (hv _ _ _) (hv _ _ _)) (hv _ _ _)):PCt 71 [(dyP (DD x.hi y.hi true)),(dyP (maxD (maxD (DD x.lo y.lo true) (DD x.lo y.hi true)) (DD x.hi y.lo true)))] _)] <| .w (0 < (cmpD (DD x.hi y.hi true) (maxD (maxD (DD x.lo y.lo true) (DD x.lo y.hi true)) (DD x.hi y.lo true))))
     (fun m2=>chain [tB 90 (decide_eq_true m2)] <| .e (chain [.b 12 (.of_eq (by rw [show minD (minD (minD (DD x.lo y.lo false) (DD x.lo y.hi false)) (DD x.hi y.lo false)) (DD x.hi y.hi false)=(DD x.hi y.hi false) from if_pos m1,show maxD (maxD (maxD (DD x.lo y.lo true) (DD x.lo y.hi true)) (DD x.hi y.lo true)) (DD x.hi y.hi true)=(DD x.hi y.hi true) from if_pos m2]):Bx.le (.cells 26 (ivL (Iv.mk (DD x.hi y.hi false) (DD x.hi y.hi true) false))) (.cells 26 (ivL (Iv.mk (minD (minD (minD (DD x.lo y.lo false) (DD x.lo y.hi false)) (DD x.hi y.lo false)) (DD x.hi y.hi false)) (maxD (maxD (maxD (DD x.lo y.lo true) (DD x.lo y.hi true)) (DD x.hi y.lo true)) (DD x.hi y.hi true)) false))))] <| .nil))
     (fun m2=>chain [tB 90 (decide_eq_false m2)] <| .e (chain [.b 12 (.of_eq (by rw [show minD (minD (minD (DD x.lo y.lo false) (DD x.lo y.hi false)) (DD x.hi y.lo false)) (DD x.hi y.hi false)=(DD x.hi y.hi false) from if_pos m1,show maxD (maxD (maxD (DD x.lo y.lo true) (DD x.lo y.hi true)) (DD x.hi y.lo true)) (DD x.hi y.hi true)=(maxD (maxD (DD x.lo y.lo true) (DD x.lo y.hi true)) (DD x.hi y.lo true)) from if_neg m2]):Bx.le (.cells 26 (ivL (Iv.mk (DD x.hi y.hi false) (maxD (maxD (DD x.lo y.lo true) (DD x.lo y.hi true)) (DD x.hi y.lo true)) false))) (.cells 26 (ivL (Iv.mk (minD (minD (minD (DD x.lo y.lo false) (DD x.lo y.hi false)) (DD x.hi y.lo false)) (DD x.hi y.hi false)) (maxD (maxD (maxD (DD x.lo y.lo true) (DD x.lo y.hi true)) (DD x.hi y.lo true)) (DD x.hi y.hi true)) false))))] <| .nil)))
    (fun m1=>chain [tB 79 (decide_eq_false m1),tB 84 (by decide:(((((0+1)+1)+1):Int) == 0)=false),
     .c (dyCmp_pc _ _ (hv _ _ _) (maxD_valid (maxD_valid (hv _ _ _) (hv _ _ _)) (hv _ _ _)):PCt 71 [(dyP (DD x.hi y.hi true)),(dyP (maxD (maxD (DD x.lo y.lo true) (DD x.lo y.hi true)) (DD x.hi y.lo true)))] _)] <| .w (0 < (cmpD (DD x.hi y.hi true) (maxD (maxD (DD x.lo y.lo true) (DD x.lo y.hi true)) (DD x.hi y.lo true))))
     (fun m2=>chain [tB 90 (decide_eq_true m2)] <| .e (chain [.b 12 (.of_eq (by rw [show minD (minD (minD (DD x.lo y.lo false) (DD x.lo y.hi false)) (DD x.hi y.lo false)) (DD x.hi y.hi false)=(minD (minD (DD x.lo y.lo false) (DD x.lo y.hi false)) (DD x.hi y.lo false)) from if_neg m1,show maxD (maxD (maxD (DD x.lo y.lo true) (DD x.lo y.hi true)) (DD x.hi y.lo true)) (DD x.hi y.hi true)=(DD x.hi y.hi true) from if_pos m2]):Bx.le (.cells 26 (ivL (Iv.mk (minD (minD (DD x.lo y.lo false) (DD x.lo y.hi false)) (DD x.hi y.lo false)) (DD x.hi y.hi true) false))) (.cells 26 (ivL (Iv.mk (minD (minD (minD (DD x.lo y.lo false) (DD x.lo y.hi false)) (DD x.hi y.lo false)) (DD x.hi y.hi false)) (maxD (maxD (maxD (DD x.lo y.lo true) (DD x.lo y.hi true)) (DD x.hi y.lo true)) (DD x.hi y.hi true)) false))))] <| .nil))
     (fun m2=>chain [tB 90 (decide_eq_false m2)] <| .e (chain [.b 12 (.of_eq (by rw [show minD (minD (minD (DD x.lo y.lo false) (DD x.lo y.hi false)) (DD x.hi y.lo false)) (DD x.hi y.hi false)=(minD (minD (DD x.lo y.lo false) (DD x.lo y.hi false)) (DD x.hi y.lo false)) from if_neg m1,show maxD (maxD (maxD (DD x.lo y.lo true) (DD x.lo y.hi true)) (DD x.hi y.lo true)) (DD x.hi y.hi true)=(maxD (maxD (DD x.lo y.lo true) (DD x.lo y.hi true)) (DD x.hi y.lo true)) from if_neg m2]):Bx.le (.cells 26 (ivL (Iv.mk (minD (minD (DD x.lo y.lo false) (DD x.lo y.hi false)) (DD x.hi y.lo false)) (maxD (maxD (DD x.lo y.lo true) (DD x.lo y.hi true)) (DD x.hi y.lo true)) false))) (.cells 26 (ivL (Iv.mk (minD (minD (minD (DD x.lo y.lo false) (DD x.lo y.hi false)) (DD x.hi y.lo false)) (DD x.hi y.hi false)) (maxD (maxD (maxD (DD x.lo y.lo true) (DD x.lo y.hi true)) (DD x.hi y.lo true)) (DD x.hi y.hi true)) false))))] <| .nil)))),
          r64 ((((0+1)+1)+1)+1) (by omega),tB 42 (by decide:(decide ((((((0+1)+1)+1)+1):Int) < 4))=false)] <| rQ (ivP (Iv.mk (minD (minD (minD (DD x.lo y.lo false) (DD x.lo y.hi false)) (DD x.hi y.lo false)) (DD x.hi y.hi false)) (maxD (maxD (maxD (DD x.lo y.lo true) (DD x.lo y.hi true)) (DD x.hi y.lo true)) (DD x.hi y.hi true)) false)) (ivP (fourI DD EE x y)) (by rw [show fourI DD EE x y=⟨(minD (minD (minD (DD x.lo y.lo false) (DD x.lo y.hi false)) (DD x.hi y.lo false)) (DD x.hi y.hi false)),(maxD (maxD (maxD (DD x.lo y.lo true) (DD x.lo y.hi true)) (DD x.hi y.lo true)) (DD x.hi y.hi true)),false⟩ from if_pos ⟨⟨k1,k2⟩,⟨k3,k4⟩,⟨k5,k6⟩,⟨k7,k8⟩⟩]; try rfl))
         (fun k8=>chain [iX ((((0+1)+1)+1)) (4) (by omega),iX (0) (2) (by omega),iX (1) (2) (by omega),.c (hd _ _ (.inr rfl) (.inr rfl):PCt gd ((dyP x.hi) :: (dyP y.hi) :: (iP p) :: []) _),iX (0) (2) (by omega),iX (1) (2) (by omega),
          .c (hu _ _ (.inr rfl) (.inr rfl):PCt gu ((dyP x.hi) :: (dyP y.hi) :: (iP p) :: []) _),tB 66 (bne_eq_false_iff_eq.2 k7),tB 69 (bne_iff_ne.2 k8),.c ivWhole_pc] <| rQ (ivP wholeI) (ivP (fourI DD EE x y)) (by rw [show fourI DD EE x y=wholeI from if_neg (by rintro ⟨⟨q0,r0⟩,⟨q1,r1⟩,⟨q2,r2⟩,⟨q3,r3⟩⟩; exact k8 r3)])))
        (fun k7=>chain [iX ((((0+1)+1)+1)) (4) (by omega),iX (0) (2) (by omega),iX (1) (2) (by omega),.c (hd _ _ (.inr rfl) (.inr rfl):PCt gd ((dyP x.hi) :: (dyP y.hi) :: (iP p) :: []) _),iX (0) (2) (by omega),iX (1) (2) (by omega),
         .c (hu _ _ (.inr rfl) (.inr rfl):PCt gu ((dyP x.hi) :: (dyP y.hi) :: (iP p) :: []) _),tB 66 (bne_iff_ne.2 k7),.c ivWhole_pc] <| rQ (ivP wholeI) (ivP (fourI DD EE x y)) (by rw [show fourI DD EE x y=wholeI from if_neg (by rintro ⟨⟨q0,r0⟩,⟨q1,r1⟩,⟨q2,r2⟩,⟨q3,r3⟩⟩; exact k7 q3)])))
       (fun k6=>chain [iX (((0+1)+1)) (4) (by omega),iX (0) (2) (by omega),iX (1) (2) (by omega),.c (hd _ _ (.inr rfl) (.inl rfl):PCt gd ((dyP x.hi) :: (dyP y.lo) :: (iP p) :: []) _),iX (0) (2) (by omega),iX (1) (2) (by omega),
        .c (hu _ _ (.inr rfl) (.inl rfl):PCt gu ((dyP x.hi) :: (dyP y.lo) :: (iP p) :: []) _),tB 66 (bne_eq_false_iff_eq.2 k5),tB 69 (bne_iff_ne.2 k6),.c ivWhole_pc] <| rQ (ivP wholeI) (ivP (fourI DD EE x y)) (by rw [show fourI DD EE x y=wholeI from if_neg (by rintro ⟨⟨q0,r0⟩,⟨q1,r1⟩,⟨q2,r2⟩,⟨q3,r3⟩⟩; exact k6 r2)])))
      (fun k5=>chain [iX (((0+1)+1)) (4) (by omega),iX (0) (2) (by omega),iX (1) (2) (by omega),.c (hd _ _ (.inr rfl) (.inl rfl):PCt gd ((dyP x.hi) :: (dyP y.lo) :: (iP p) :: []) _),iX (0) (2) (by omega),iX (1) (2) (by omega),
       .c (hu _ _ (.inr rfl) (.inl rfl):PCt gu ((dyP x.hi) :: (dyP y.lo) :: (iP p) :: []) _),tB 66 (bne_iff_ne.2 k5),.c ivWhole_pc] <| rQ (ivP wholeI) (ivP (fourI DD EE x y)) (by rw [show fourI DD EE x y=wholeI from if_neg (by rintro ⟨⟨q0,r0⟩,⟨q1,r1⟩,⟨q2,r2⟩,⟨q3,r3⟩⟩; exact k5 q2)])))
     (fun k4=>chain [iX ((0+1)) (4) (by omega),iX (0) (2) (by omega),iX (1) (2) (by omega),.c (hd _ _ (.inl rfl) (.inr rfl):PCt gd ((dyP x.lo) :: (dyP y.hi) :: (iP p) :: []) _),iX (0) (2) (by omega),iX (1) (2) (by omega),
      .c (hu _ _ (.inl rfl) (.inr rfl):PCt gu ((dyP x.lo) :: (dyP y.hi) :: (iP p) :: []) _),tB 66 (bne_eq_false_iff_eq.2 k3),tB 69 (bne_iff_ne.2 k4),.c ivWhole_pc] <| rQ (ivP wholeI) (ivP (fourI DD EE x y)) (by rw [show fourI DD EE x y=wholeI from if_neg (by rintro ⟨⟨q0,r0⟩,⟨q1,r1⟩,⟨q2,r2⟩,⟨q3,r3⟩⟩; exact k4 r1)])))
    (fun k3=>chain [iX ((0+1)) (4) (by omega),iX (0) (2) (by omega),iX (1) (2) (by omega),.c (hd _ _ (.inl rfl) (.inr rfl):PCt gd ((dyP x.lo) :: (dyP y.hi) :: (iP p) :: []) _),iX (0) (2) (by omega),iX (1) (2) (by omega),
     .c (hu _ _ (.inl rfl) (.inr rfl):PCt gu ((dyP x.lo) :: (dyP y.hi) :: (iP p) :: []) _),tB 66 (bne_iff_ne.2 k3),.c ivWhole_pc] <| rQ (ivP wholeI) (ivP (fourI DD EE x y)) (by rw [show fourI DD EE x y=wholeI from if_neg (by rintro ⟨⟨q0,r0⟩,⟨q1,r1⟩,⟨q2,r2⟩,⟨q3,r3⟩⟩; exact k3 q1)])))
   (fun k2=>chain [iX (0) (4) (by omega),iX (0) (2) (by omega),iX (1) (2) (by omega),.c (hd _ _ (.inl rfl) (.inl rfl):PCt gd ((dyP x.lo) :: (dyP y.lo) :: (iP p) :: []) _),iX (0) (2) (by omega),iX (1) (2) (by omega),
    .c (hu _ _ (.inl rfl) (.inl rfl):PCt gu ((dyP x.lo) :: (dyP y.lo) :: (iP p) :: []) _),tB 66 (bne_eq_false_iff_eq.2 k1),tB 69 (bne_iff_ne.2 k2),.c ivWhole_pc] <| rQ (ivP wholeI) (ivP (fourI DD EE x y)) (by rw [show fourI DD EE x y=wholeI from if_neg (by rintro ⟨⟨q0,r0⟩,⟨q1,r1⟩,⟨q2,r2⟩,⟨q3,r3⟩⟩; exact k2 r0)])))
  (fun k1=>chain [iX (0) (4) (by omega),iX (0) (2) (by omega),iX (1) (2) (by omega),.c (hd _ _ (.inl rfl) (.inl rfl):PCt gd ((dyP x.lo) :: (dyP y.lo) :: (iP p) :: []) _),iX (0) (2) (by omega),iX (1) (2) (by omega),
   .c (hu _ _ (.inl rfl) (.inl rfl):PCt gu ((dyP x.lo) :: (dyP y.lo) :: (iP p) :: []) _),tB 66 (bne_iff_ne.2 k1),.c ivWhole_pc] <| rQ (ivP wholeI) (ivP (fourI DD EE x y)) (by rw [show fourI DD EE x y=wholeI from if_neg (by rintro ⟨⟨q0,r0⟩,⟨q1,r1⟩,⟨q2,r2⟩,⟨q3,r3⟩⟩; exact k1 q0)]))) (by kernel_rfl)
open Go.RowKit Fp Pu
theorem sign_ends {y:Iv} (hy:y.Valid) (hs:signI y ≠ 0):y.lo.m ≠ 0 ∧ y.hi.m ≠ 0:=by
 unfold signI at hs
 have ha:y.all=false:=by
  cases h:y.all with
  | false=>rfl
  | true=>rw [h] at hs; exact absurd rfl hs
 obtain ⟨v1,v2,v3⟩:=ivOff hy ha
 rw [ha] at hs
 simp only [Bool.false_eq_true,if_false] at hs
 have z:∀ d:Dy,d.m=0 → d.sign=0:=fun d h=>by unfold Dy.sign; rw [if_pos h]
 have hc:=cmpD_prog y.lo y.hi
 rw [hc] at v3
 constructor
 ·intro h0
  have:=z _ h0
  rw [this] at hs v3
  split at hs
  ·omega
  ·split at hs
   ·split at v3 <;> omega
   ·exact hs rfl
 ·intro h0
  have:=z _ h0
  rw [this] at hs v3
  split at hs
  ·split at v3 <;> omega
  ·split at hs
   ·omega
   ·exact hs rfl
theorem divD_valid (a b:Dy) {p:Nat} (up:Bool) (hp:1 ≤ p) (hp2:p ≤ 4096):(divD a b p up).Valid:=by
 unfold divD; split
 ·exact zeroD_valid
 ·exact cut_valid _ _ _ _ _ _ hp hp2
theorem ivMul_pc (x y:Iv) (p:Nat) (hx:x.Valid) (hy:y.Valid) (hp1:8 ≤ p) (hp2:p ≤ 512):PCt 60 [(ivP x),(ivP y),(iP p)] (ivP (mulI x y p)):=by
 by_cases hk:(x.all || y.all)=true
 ·exact tr true Tryz.call60 Tryz.func60 (chain [.o 9 (.e (ivs2_le _ _):PV.le (.e (.sl true 2 7 fun i_ j_=>(ivL x ++ ivL y).getD (i_ * 7+j_) (.v (.bool false)))) (.e (ivsP [x,y]))),.c (ivKnown2_pc _ _ ‹_› ‹_›:PCt 85 [(ivsP [x,y])] _),
   tB 10 (by rw [hk]; rfl:(!(x.all || y.all))=false),.c ivWhole_pc] <| rQ (ivP wholeI) (ivP (mulI x y p)) (by rw [show mulI x y p=wholeI by unfold mulI; rw [if_pos hk]])) (by kernel_rfl)
 ·replace hk:(x.all || y.all)=false:=by simpa using hk
  have hxa:x.all=false:=by cases h:x.all; rfl; rw [h] at hk; simp at hk
  have hya:y.all=false:=by cases h:y.all; rfl; rw [h] at hk; simp at hk
  obtain ⟨v1,v2,v3⟩:=ivOff hx hxa
  obtain ⟨v4,v5,v6⟩:=ivOff hy hya
  exact tr true Tryz.call60 Tryz.func60 (chain [.o 9 (.e (ivs2_le _ _):PV.le (.e (.sl true 2 7 fun i_ j_=>(ivL x ++ ivL y).getD (i_ * 7+j_) (.v (.bool false)))) (.e (ivsP [x,y]))),.c (ivKnown2_pc _ _ ‹_› ‹_›:PCt 85 [(ivsP [x,y])] _),
   tB 10 (by rw [hk]; rfl:(!(x.all || y.all))=true),.c (ivPermitted_pc _:PCt 86 [(iP p)] _),tB 14 (precB_true.2 ⟨by omega,by omega⟩:(precB (p:Int))=true),
   .c (ivFour_pc x y p 91 92 (fun a b up=>rndD (mulD a b) p up) (fun a b up=>rndE (mulD a b) p up) (fun a b ha hb=>rdMulDown_pc a b p (by rcases ha with rfl | rfl; exact v1; exact v2) (by rcases hb with rfl | rfl; exact v4; exact v5) hp1 hp2) (fun a b ha hb=>rdMulUp_pc a b p (by rcases ha with rfl | rfl; exact v1; exact v2) (by rcases hb with rfl | rfl; exact v4; exact v5) hp1 hp2) (fun a b up=>cut_valid _ _ _ _ _ _ (by omega) (by omega)))] <| rQ (ivP (fourI (fun a b up=>rndD (mulD a b) p up) (fun a b up=>rndE (mulD a b) p up) x y)) (ivP (mulI x y p)) (by rw [show mulI x y p=_ by unfold mulI; rw [if_neg (by rw [hk]; decide)]]; rfl)) (by kernel_rfl)
theorem ivDiv_pc (x y:Iv) (p:Nat) (hx:x.Valid) (hy:y.Valid) (hp1:8 ≤ p) (hp2:p ≤ 512):PCt 169 [(ivP x),(ivP y),(iP p)] (ivP (divI x y p)):=by
 by_cases hk:(x.all || y.all)=true
 ·exact tr true Tryz.call169 Tryz.func169 (chain [.o 9 (.e (ivs2_le _ _):PV.le (.e (.sl true 2 7 fun i_ j_=>(ivL x ++ ivL y).getD (i_ * 7+j_) (.v (.bool false)))) (.e (ivsP [x,y]))),.c (ivKnown2_pc _ _ ‹_› ‹_›:PCt 85 [(ivsP [x,y])] _),
   tB 10 (by rw [hk]; rfl:(!(x.all || y.all))=false),.c ivWhole_pc] <| rQ (ivP wholeI) (ivP (divI x y p)) (by rw [show divI x y p=wholeI by unfold divI; rw [if_pos (by rw [hk]; rfl)]])) (by kernel_rfl)
 ·replace hk:(x.all || y.all)=false:=by simpa using hk
  have hxa:x.all=false:=by cases h:x.all; rfl; rw [h] at hk; simp at hk
  have hya:y.all=false:=by cases h:y.all; rfl; rw [h] at hk; simp at hk
  obtain ⟨v1,v2,v3⟩:=ivOff hx hxa
  obtain ⟨v4,v5,v6⟩:=ivOff hy hya
  by_cases hs:signI y=0
  ·exact tr true Tryz.call169 Tryz.func169 (chain [.o 9 (.e (ivs2_le _ _):PV.le (.e (.sl true 2 7 fun i_ j_=>(ivL x ++ ivL y).getD (i_ * 7+j_) (.v (.bool false)))) (.e (ivsP [x,y]))),.c (ivKnown2_pc _ _ ‹_› ‹_›:PCt 85 [(ivsP [x,y])] _),
    tB 10 (by rw [hk]; rfl:(!(x.all || y.all))=true),.c (ivPermitted_pc _:PCt 86 [(iP p)] _),tB 14 (precB_true.2 ⟨by omega,by omega⟩:(precB (p:Int))=true),.c (ivSign_pc y ‹_›),
    tB 20 (by rw [hs]; rfl:((signI y) == 0)=true),.c ivWhole_pc] <| rQ (ivP wholeI) (ivP (divI x y p)) (by rw [show divI x y p=wholeI by unfold divI; rw [if_pos (by rw [hk,decide_eq_true hs]; rfl)]])) (by kernel_rfl)
  ·obtain ⟨n1,n2⟩:=sign_ends hy hs
   exact tr true Tryz.call169 Tryz.func169 (chain [.o 9 (.e (ivs2_le _ _):PV.le (.e (.sl true 2 7 fun i_ j_=>(ivL x ++ ivL y).getD (i_ * 7+j_) (.v (.bool false)))) (.e (ivsP [x,y]))),.c (ivKnown2_pc _ _ ‹_› ‹_›:PCt 85 [(ivsP [x,y])] _),
    tB 10 (by rw [hk]; rfl:(!(x.all || y.all))=true),.c (ivPermitted_pc _:PCt 86 [(iP p)] _),tB 14 (precB_true.2 ⟨by omega,by omega⟩:(precB (p:Int))=true),.c (ivSign_pc y ‹_›),
    tB 20 (by simpa using hs:((signI y) == 0)=false),
    .c (ivFour_pc x y p 166 167 (fun a b up=>divD a b p up) (fun a b up=>divE a b p up) (fun a b ha hb=>rdDivDown_pc a b p (by rcases ha with rfl | rfl; exact v1; exact v2) (by rcases hb with rfl | rfl; exact v4; exact v5) (by rcases hb with rfl | rfl; exact n1; exact n2) hp1 hp2) (fun a b ha hb=>rdDivUp_pc a b p (by rcases ha with rfl | rfl; exact v1; exact v2) (by rcases hb with rfl | rfl; exact v4; exact v5) (by rcases hb with rfl | rfl; exact n1; exact n2) hp1 hp2) (fun a b up=>divD_valid a b up (by omega) (by omega)))] <| rQ (ivP (fourI (fun a b up=>divD a b p up) (fun a b up=>divE a b p up) x y)) (ivP (divI x y p)) (by rw [show divI x y p=_ by unfold divI; rw [if_neg (by rw [hk,decide_eq_false hs]; decide)]])) (by kernel_rfl)
open Go.RowKit Fp Pu
theorem ivZeroR_yes (d:RD) (h:d.Zero):PCt 97 [(rdP d)] (bP true):=by
 obtain ⟨h1,h2,h3⟩:=h
 exact tr true Tryz.call97 Tryz.func97 (chain [tB 4 (h1:d.neg=false),tB 10 (natZ_true (by rw [h2]; rfl):((d.L.length:Int) == 0)=true),tB 15 (by rw [h3]; rfl:(d.e == 0)=true)] <| .nil) (by kernel_rfl)
theorem ivZeroR_no (d:RD) (h:¬ d.Zero):PCt 97 [(rdP d)] (bP false):=by
 by_cases h1:d.neg=true
 ·exact tr true Tryz.call97 Tryz.func97 (chain [tB 4 (h1:d.neg=true)] <| .nil) (by kernel_rfl)
 ·replace h1:d.neg=false:=by simpa using h1
  by_cases h2:d.L=[]
  ·have h3:¬ d.e=0:=fun q=>h ⟨h1,h2,q⟩
   exact tr true Tryz.call97 Tryz.func97 (chain [tB 4 (h1:d.neg=false),tB 10 (natZ_true (by rw [h2]; rfl):((d.L.length:Int) == 0)=true),tB 15 (by simpa using h3:(d.e == 0)=false)] <| .nil) (by kernel_rfl)
  ·exact tr true Tryz.call97 Tryz.func97 (chain [tB 4 (h1:d.neg=false),tB 10 (natZ_false (fun q=>h2 (List.length_eq_zero_iff.1 q)):((d.L.length:Int) == 0)=false)] <| .nil) (by kernel_rfl)
theorem ivValidR_yes (x:RI) (g:x.Good) (h:x.Ok):PCt 73 [riP x] (bP true):=by
 have:=ivValid_pc x.iv h.valid
 rwa [← ivP_raw,h.eq g] at this
theorem ivValidR_no (x:RI) (g:x.Good) (h:¬ x.Ok):PCt 73 [(riP x)] (bP false):=by
 have ga:=g.lo
 have gb:=g.hi
 by_cases ha:x.all=true
 ·by_cases h1:x.lo.Zero
  ·have h2:¬ x.hi.Zero:=fun q=>h (.inl ⟨ha,h1,q⟩)
   exact tr true Tryz.call73 Tryz.func73 (chain [tB 5 (ha:x.all=true),.c (ivZeroR_yes x.lo h1),.c (ivZeroR_no x.hi h2)] <| .nil) (by kernel_rfl)
  ·exact tr true Tryz.call73 Tryz.func73 (chain [tB 5 (ha:x.all=true),.c (ivZeroR_no x.lo h1)] <| .nil) (by kernel_rfl)
 ·replace ha:x.all=false:=by simpa using ha
  by_cases h1:x.lo.Ok
  ·by_cases h2:x.hi.Ok
   ·have h3:¬ cmpD x.lo.dy x.hi.dy ≤ 0:=fun q=>h (.inr ⟨ha,h1,h2,q⟩)
    have v1:=h1.valid
    have v2:=h2.valid
    have e1:riP x=ivP x.iv:=by rw [← ivP_raw,show x.iv.raw=x by show RI.mk x.lo.dy.raw x.hi.dy.raw x.all=x; rw [h1.eq ga,h2.eq gb]]
    rw [e1]
    exact tr true Tryz.call73 Tryz.func73 (chain [tB 5 (ha:x.iv.all=false),.c (dyValid_pc _ ‹_›:PCt 30 [(dyP x.iv.lo)] _),.c (dyValid_pc _ ‹_›:PCt 30 [(dyP x.iv.hi)] _),
     .c (dyCmp_pc _ _ ‹_› ‹_›:PCt 71 [(dyP x.iv.lo),(dyP x.iv.hi)] _),tB 30 (decide_eq_false h3)] <| .nil) (by kernel_rfl)
   ·exact tr true Tryz.call73 Tryz.func73 (chain [tB 5 (ha:x.all=false),.c (dyValidR_pc _ ‹_› true (by simp [h1]):PCt 30 [(rdP x.lo)] _),.c (dyValidR_pc _ ‹_› false (by simp [h2]):PCt 30 [(rdP x.hi)] _)] <| .nil) (by kernel_rfl)
  ·exact tr true Tryz.call73 Tryz.func73 (chain [tB 5 (ha:x.all=false),.c (dyValidR_pc _ ‹_› false (by simp [h1]):PCt 30 [(rdP x.lo)] _)] <| .nil) (by kernel_rfl)
theorem ivValidR_pc (x:RI) (g:x.Good):PCt 73 [riP x] (bP (okB x)):=by
 by_cases h:x.Ok
 ·rw [okB_true.2 h]; exact ivValidR_yes x g h
 ·rw [show okB x=false by simpa using fun q=>h (okB_true.1 q)]; exact ivValidR_no x g h
open Go.RowKit Fp Pu
abbrev ivsE (xs:List Iv):Nat → Nat → E:=fun i j=>(ivL (xs.getD i wholeI)).getD j .any
theorem ivL_nr (x:Iv) (j:Nat) (hj:j < 7):((ivL x).getD j .any).nr 2=true:=by
 rcases j with _ | _ | _ | _ | _ | _ | _ | j
 all_goals first | rfl | omega
theorem ivs_push {T n:Nat} {xs:List Iv} {y:Iv} (hn:n=xs.length) :
  Bx.le (.row true T (n + [y].length) 7 fun i j=>if i < n then ivsE xs i j else (E.elf (ivsP [y])) (i - n) j) (.row true T (xs ++ [y]).length 7 (ivsE (xs ++ [y]))):=by
 subst hn
 refine .row (by simp) fun i j hi hj=>⟨.of_eq ?_,ivL_nr _ _ hj⟩
 by_cases h:i < xs.length
 ·rw [if_pos h]
  show (ivL (xs.getD i wholeI)).getD j .any=(ivL ((xs ++ [y]).getD i wholeI)).getD j .any
  congr 2
  simp [List.getD_eq_getElem?_getD,List.getElem?_append_left h]
 ·have hi':i=xs.length:=by simp at hi; omega
  subst hi'
  rw [if_neg h,Nat.sub_self]
  show (ivL y).getD j .any=(ivL ((xs ++ [y]).getD xs.length wholeI)).getD j .any
  congr 2
  simp [List.getD_eq_getElem?_getD]
theorem one_len {α:Type} (y:α):[y].length=1:=rfl
theorem range_getD {n i:Nat} {F:Nat → Iv} (h:i < n):((List.range n).map F).getD i wholeI=F i:=by
 simp [List.getD_eq_getElem?_getD,h]
end Go.Proofs.YtkbjkchapnjhgaaGreatDoor
namespace Go.Proofs.YtkbjkchapnjhgaaGreatDoor.Fp
section
variable {a b:Dy} {k:Int}
end
theorem grid_down {m gm p:Nat} {e ge K:Int} (hp:1 ≤ p) (hg:bitsN gm ≤ p) (hge:-16384 ≤ ge) (k1:K ≤ e) (k2:K ≤ ge)
  (h:gm * 2 ^ (ge - K).toNat ≤ m * 2 ^ (e - K).toNat):gm * 2 ^ (ge - K).toNat ≤ cutQ m e false p false * 2 ^ (e+cutK m e p - K).toNat:=by
 have hq:cutQ m e false p false=m / 2 ^ cutK m e p:=by unfold cutQ; simp
 rw [hq]
 have hm:=Nat.div_add_mod m (2 ^ cutK m e p)
 have hr:=Nat.mod_lt m (Nat.pow_pos (n:=cutK m e p) (by decide:0 < 2))
 obtain ⟨k,hk⟩:∃ k,k=cutK m e p:=⟨_,rfl⟩
 rw [← hk] at hm hr ⊢
 have e1:(e+(k:Int) - K).toNat=k+(e - K).toNat:=by omega
 rw [e1,Nat.pow_add]
 generalize hE:2 ^ (e - K).toNat=E at *
 have hE0:0 < E:=by rw [← hE]; exact Nat.pow_pos (by decide)
 have hmE:m * E < (m / 2 ^ k+1) * (2 ^ k * E):=by
  rw [← Nat.mul_assoc]
  refine Nat.mul_lt_mul_of_pos_right ?_ hE0
  rw [Nat.add_mul,Nat.one_mul,Nat.mul_comm]
  omega
 by_cases hc:e+k ≤ ge
 ·
  have e2:(ge - K).toNat=(ge - (e+k)).toNat+(k+(e - K).toNat):=by omega
  rw [e2,Nat.pow_add,Nat.pow_add 2 k,hE] at h ⊢
  rw [← Nat.mul_assoc] at h ⊢
  generalize gm * 2 ^ (ge - (e+k)).toNat=g at *
  have:g < m / 2 ^ k+1:=by
   apply Classical.byContradiction
   intro h'
   have:=Nat.mul_le_mul_right (2 ^ k * E) (show m / 2 ^ k+1 ≤ g by omega)
   omega
  exact Nat.mul_le_mul_right _ (by omega)
 ·by_cases hk0:k=0
  ·subst hk0
   rw [Nat.pow_zero,Nat.div_one,Nat.one_mul]
   exact h
  ·
   have hb:(bitsN m:Int) - p=k:=by unfold cutK at hk; omega
   have hm0:m ≠ 0:=by intro h0; rw [h0] at hb; simp [bitsN] at hb; omega
   have h1:=two_pow_le_of_bitsN hm0
   have h2:2 ^ (bitsN m - 1 - k) ≤ m / 2 ^ k:=by
    rw [Nat.le_div_iff_mul_le (Nat.pow_pos (by decide)),← Nat.pow_add]
    exact Nat.le_trans (Nat.pow_le_pow_right (by decide) (by have:=bitsN_pos hm0; omega)) h1
   have h3:gm < 2 ^ p:=bitsN_le_iff.1 hg
   refine Nat.le_trans (Nat.mul_le_mul_right _ (Nat.le_of_lt h3)) (Nat.le_trans ?_ (Nat.mul_le_mul_right _ h2))
   rw [← hE,← Nat.pow_add,← Nat.pow_add,← Nat.pow_add]
   exact Nat.pow_le_pow_right (by decide) (by omega)
theorem grid_up {m gm p:Nat} {e ge K:Int} (hp:1 ≤ p) (hg:bitsN gm ≤ p) (hge:-16384 ≤ ge) (k1:K ≤ e) (k2:K ≤ ge)
  (h:m * 2 ^ (e - K).toNat ≤ gm * 2 ^ (ge - K).toNat):cutQ m e false p true * 2 ^ (e+cutK m e p - K).toNat ≤ gm * 2 ^ (ge - K).toNat:=by
 have hq0:cutQ m e false p false=m / 2 ^ cutK m e p:=by unfold cutQ; simp
 have hq1:cutQ m e false p true=m / 2 ^ cutK m e p+if m % 2 ^ cutK m e p ≠ 0 then 1 else 0:=by unfold cutQ; simp
 have hm:=Nat.div_add_mod m (2 ^ cutK m e p)
 obtain ⟨k,hk⟩:∃ k,k=cutK m e p:=⟨_,rfl⟩
 rw [hq1]
 rw [← hk] at hm ⊢
 have e1:(e+(k:Int) - K).toNat=k+(e - K).toNat:=by omega
 rw [e1,Nat.pow_add]
 generalize hE:2 ^ (e - K).toNat=E at *
 have hE0:0 < E:=by rw [← hE]; exact Nat.pow_pos (by decide)
 by_cases hr:m % 2 ^ k=0
 ·rw [if_neg (by omega),Nat.add_zero,← Nat.mul_assoc]
  refine Nat.le_trans (Nat.le_of_eq ?_) h
  congr 1
  rw [Nat.mul_comm]; omega
 ·rw [if_pos hr]
  have hk0:k ≠ 0:=by intro h0; rw [h0,Nat.pow_zero,Nat.mod_one] at hr; exact hr rfl
  have hlt:m / 2 ^ k * (2 ^ k * E) < gm * 2 ^ (ge - K).toNat:=by
   refine Nat.lt_of_lt_of_le ?_ h
   rw [← Nat.mul_assoc]
   refine Nat.mul_lt_mul_of_pos_right ?_ hE0
   rw [Nat.mul_comm]; omega
  by_cases hc:e+k ≤ ge
  ·have e2:(ge - K).toNat=(ge - (e+k)).toNat+(k+(e - K).toNat):=by omega
   have e3:gm * 2 ^ (ge - K).toNat=gm * 2 ^ (ge - (e+k)).toNat * (2 ^ k * E):=by rw [e2,Nat.pow_add,Nat.pow_add 2 k,hE,Nat.mul_assoc]
   rw [e3] at hlt ⊢
   generalize gm * 2 ^ (ge - (e+k)).toNat=g at *
   have:m / 2 ^ k < g:=Nat.lt_of_mul_lt_mul_right hlt
   exact Nat.mul_le_mul_right _ this
  ·
   exfalso
   have hb:(bitsN m:Int) - p=k:=by unfold cutK at hk; omega
   have hm0:m ≠ 0:=by intro h0; rw [h0] at hr; simp at hr
   have h1:=two_pow_le_of_bitsN hm0
   have hbp:=bitsN_pos hm0
   have h3:gm < 2 ^ p:=bitsN_le_iff.1 hg
   have h4:gm * 2 ^ (ge - K).toNat ≤ 2 ^ (bitsN m - 1) * E:=by
    refine Nat.le_trans (Nat.mul_le_mul_right _ (Nat.le_of_lt h3)) ?_
    rw [← hE,← Nat.pow_add,← Nat.pow_add]
    exact Nat.pow_le_pow_right (by decide) (by omega)
   have h5:2 ^ (bitsN m - 1 - k) ≤ m / 2 ^ k:=by
    rw [Nat.le_div_iff_mul_le (Nat.pow_pos (by decide)),← Nat.pow_add]
    exact Nat.le_trans (Nat.pow_le_pow_right (by decide) (by omega)) h1
   have h6:2 ^ (bitsN m - 1) * E ≤ m / 2 ^ k * (2 ^ k * E):=by
    rw [← Nat.mul_assoc]
    refine Nat.mul_le_mul_right _ ?_
    have:=Nat.mul_le_mul_right (2 ^ k) h5
    rw [← Nat.pow_add] at this
    exact Nat.le_trans (Nat.pow_le_pow_right (by decide) (by omega)) this
   omega
def P2 (k:Int):Rat:=(2:Rat) ^ k
theorem P2_pos (k:Int):0 < P2 k:=Rat.zpow_pos (by decide)
theorem P2_add (a b:Int):P2 (a+b)=P2 a * P2 b:=Rat.zpow_add (by decide) a b
theorem P2_nat (n:Nat):P2 (n:Int)=((2 ^ n:Nat):Rat):=by unfold P2; rw [Rat.zpow_natCast]; simp
theorem P2_zero:P2 0=1:=by have:=P2_nat 0; simpa using this
theorem P2_split {e k:Int} (h:k ≤ e):P2 e=((2 ^ (e - k).toNat:Nat):Rat) * P2 k:=by
 rw [← P2_nat,← P2_add]; congr 1; omega
theorem mul_P2_le {x y:Rat} (k:Int):x * P2 k ≤ y * P2 k ↔ x ≤ y :=
 ⟨fun h=>Rat.le_of_mul_le_mul_right h (P2_pos k),fun h=>Rat.mul_le_mul_of_nonneg_right h (Rat.le_of_lt (P2_pos k))⟩
theorem mag_le {m n:Nat} {e f K:Int} (h1:K ≤ e) (h2:K ≤ f):(m:Rat) * P2 e ≤ (n:Rat) * P2 f ↔ m * 2 ^ (e - K).toNat ≤ n * 2 ^ (f - K).toNat:=by
 rw [P2_split h1,P2_split h2,← Rat.mul_assoc,← Rat.mul_assoc,mul_P2_le,← Rat.natCast_mul,← Rat.natCast_mul,Rat.natCast_le_natCast]
def Dy.q (d:Dy):Rat:=((d.num d.e:Int):Rat) * P2 d.e
theorem q_at {d:Dy} {k:Int} (h:Above d k):d.q=((d.num k:Int):Rat) * P2 k:=by
 unfold Dy.q
 rcases h with h | h
 ·rw [num_zero h,num_zero h]; simp
 ·rw [num_scale h (Int.le_refl _),P2_split h,← Rat.mul_assoc,Rat.intCast_mul,Rat.intCast_natCast]
theorem q_le (a b:Dy):cmpD a b ≤ 0 ↔ a.q ≤ b.q:=by
 obtain ⟨k,ka,kb⟩:∃ k:Int,k ≤ a.e ∧ k ≤ b.e:=⟨min a.e b.e,by omega,by omega⟩
 rw [le_iff (.inr ka) (.inr kb),q_at (.inr ka),q_at (.inr kb),mul_P2_le,Rat.intCast_le_intCast]
theorem q_sum (a b:Dy):(sumD a b).q=a.q+b.q:=by
 obtain ⟨k,ka,kb⟩:∃ k:Int,k ≤ a.e ∧ k ≤ b.e:=⟨min a.e b.e,by omega,by omega⟩
 rw [q_at (above_sumD (.inr ka) (.inr kb)),q_at (.inr ka),q_at (.inr kb),sumD_num (.inr ka) (.inr kb),Rat.intCast_add,Rat.add_mul]
theorem q_neg (a:Dy):(negD a).q = -a.q:=by
 rw [q_at (above_negD (.inr (Int.le_refl a.e))),num_neg,Rat.intCast_neg,Rat.neg_mul]; rfl
theorem q_canon (s:Bool) (m:Nat) (e:Int):(canon s m e).q=if s then -((m:Rat) * P2 e) else (m:Rat) * P2 e:=by
 rw [q_at (above_canon (Int.le_refl e)),num_canon (Int.le_refl e)]
 have:(e - e).toNat=0:=by omega
 rw [this]
 cases s <;> simp [Rat.intCast_neg,Rat.neg_mul,Rat.intCast_natCast]
theorem q_of (a:Dy):a.q=if a.neg then -((a.m:Rat) * P2 a.e) else (a.m:Rat) * P2 a.e:=by
 unfold Dy.q Dy.num Dy.mag
 have:(a.e - a.e).toNat=0:=by omega
 rw [this]
 cases a.neg <;> simp [Rat.intCast_neg,Rat.neg_mul,Rat.intCast_natCast]
theorem q_prod (a b:Dy):(prodD a b).q=a.q * b.q:=by
 unfold prodD
 rw [q_canon,q_of a,q_of b,P2_add,Rat.natCast_mul]
 cases a.neg <;> cases b.neg <;> simp <;> grind
theorem q_zero:zeroD.q=0:=by rw [q_of]; simp [zeroD]
theorem q_intD (n:Int):(intD n).q=(n:Rat):=by
 unfold intD
 rw [q_at (k:=0) (above_canonZ (Int.le_refl 0)),num_canonZ (Int.le_refl 0),P2_zero]
 simp
theorem q_abs (d:Dy):0 ≤ (absD d).q ∧ d.q ≤ (absD d).q ∧ -d.q ≤ (absD d).q ∧ ((absD d).q=d.q ∨ (absD d).q = -d.q):=by
 have h:(absD d).q=(d.m:Rat) * P2 d.e:=by rw [q_of]; rfl
 have h0:0 ≤ (d.m:Rat) * P2 d.e:=Rat.mul_nonneg (Rat.natCast_nonneg) (Rat.le_of_lt (P2_pos _))
 rw [h,q_of d]
 cases d.neg <;> simp <;> grind
theorem q_sign (d:Dy):(0 < d.sign ↔ 0 < d.q) ∧ (d.sign < 0 ↔ d.q < 0):=by
 have h:=P2_pos d.e
 have hm:d.m ≠ 0 → 0 < (d.m:Rat) * P2 d.e:=fun h0=>Rat.mul_pos (Rat.natCast_pos.2 (by omega)) h
 rw [q_of]
 unfold Dy.sign
 by_cases h0:d.m=0
 ·simp [h0]
 ·have:=hm h0
  rw [if_neg h0]
  cases d.neg <;> simp <;> grind
theorem q_max (a b:Dy):a.q ≤ (maxD a b).q ∧ b.q ≤ (maxD a b).q ∧ ((maxD a b).q=a.q ∨ (maxD a b).q=b.q) :=
 ⟨(q_le _ _).1 (maxD_left a b),(q_le _ _).1 (maxD_right a b),by unfold maxD; split; exact .inr rfl; exact .inl rfl⟩
theorem q_min (a b:Dy):(minD a b).q ≤ a.q ∧ (minD a b).q ≤ b.q ∧ ((minD a b).q=a.q ∨ (minD a b).q=b.q) :=
 ⟨(q_le _ _).1 (minD_left a b),(q_le _ _).1 (minD_right a b),by unfold minD; split; exact .inr rfl; exact .inl rfl⟩
def GM (p:Nat) (g:Rat):Prop:=∃ (m:Nat) (e:Int),bitsN m ≤ p ∧ -16384 ≤ e ∧ (bitsN m:Int)+e ≤ 16384 ∧ g=(m:Rat) * P2 e
def G (p:Nat) (g:Rat):Prop:=GM p g ∨ GM p (-g)
theorem GM.nonneg {p:Nat} {g:Rat} (h:GM p g):0 ≤ g:=by
 obtain ⟨m,e,_,_,_,rfl⟩:=h
 exact Rat.mul_nonneg (Rat.natCast_nonneg) (Rat.le_of_lt (P2_pos _))
theorem GM_zero (p:Nat):GM p 0:=⟨0,0,by simp [bitsN_zero],by omega,by simp [bitsN_zero],by simp⟩
theorem G.neg {p:Nat} {g:Rat} (h:G p g):G p (-g):=by
 rcases h with h | h
 ·exact .inr (by rw [Rat.neg_neg]; exact h)
 ·exact .inl h
theorem G.pos {p:Nat} {g:Rat} (h:G p g) (h0:0 ≤ g):GM p g:=by
 rcases h with h | h
 ·exact h
 ·have:=h.nonneg
  have:g=0:=by grind
  rw [this]; exact GM_zero p
theorem bitsN_pow (k:Nat):bitsN (2 ^ k)=k+1:=bitsN_eq (Nat.le_refl _) (Nat.pow_lt_pow_right (by decide) (by omega))
theorem bitsN_one:bitsN 1=1:=bitsN_pow 0
section
variable {m p:Nat} {e:Int}
theorem trunc_over (hp:1 ≤ p) (hp2:p ≤ 4096) (ho:cutOver m e false p false=true) :
  GM p (((2 ^ p - 1:Nat):Rat) * P2 (16384 - p)) ∧ ((2 ^ p - 1:Nat):Rat) * P2 (16384 - p) ≤ (m:Rat) * P2 e ∧ ∀ g,GM p g → g ≤ ((2 ^ p - 1:Nat):Rat) * P2 (16384 - p):=by
 have hpp:2 ≤ 2 ^ p:=by
  have:=Nat.pow_le_pow_right (n:=2) (by decide) hp
  omega
 have hb:bitsN (2 ^ p - 1)=p:=by
  obtain ⟨j,rfl⟩:∃ j,p=j+1:=⟨p - 1,by omega⟩
  have h2:2 ^ (j+1)=2 ^ j * 2:=Nat.pow_succ _ _
  have h3:=Nat.pow_pos (n:=j) (by decide:0 < 2)
  exact bitsN_eq (by omega) (by omega)
 refine ⟨⟨_,_,Nat.le_of_eq hb,by omega,by omega,rfl⟩,?_,?_⟩
 ·obtain ⟨c1,c2⟩:=cut_mag m e p
  unfold cutOver at ho
  simp only [Bool.and_eq_true,decide_eq_true_eq] at ho
  obtain ⟨o1,o2⟩:=ho
  have hq:=two_pow_le_of_bitsN o1
  have hbp:=bitsN_pos o1
  obtain ⟨K,k1,k2⟩:∃ K:Int,K ≤ e ∧ K ≤ 16384 - p:=⟨min e (16384 - p),by omega,by omega⟩
  rw [mag_le k2 k1]
  have h1:2 ^ (bitsN (cutQ m e false p false) - 1) * 2 ^ cutK m e p ≤ m:=Nat.le_trans (Nat.mul_le_mul_right _ hq) c1
  have h2:=Nat.mul_le_mul_right (2 ^ (e - K).toNat) h1
  rw [← Nat.pow_add,← Nat.pow_add] at h2
  refine Nat.le_trans (Nat.mul_le_mul_right _ (Nat.sub_le _ _)) (Nat.le_trans ?_ h2)
  rw [← Nat.pow_add]
  exact Nat.pow_le_pow_right (by decide) (by omega)
 ·rintro g ⟨gm,ge,b1,b2,b3,rfl⟩
  by_cases hc:ge ≤ 16384 - p
  ·have:gm < 2 ^ p:=bitsN_le_iff.1 b1
   rw [mag_le (K:=ge) (Int.le_refl _) hc]
   have e0:(ge - ge).toNat=0:=by omega
   rw [e0,Nat.pow_zero,Nat.mul_one]
   exact Nat.le_trans (show gm ≤ 2 ^ p - 1 by omega) (Nat.le_mul_of_pos_right _ (Nat.pow_pos (by decide)))
  ·rw [mag_le (K:=16384 - p) (by omega) (Int.le_refl _)]
   have e0:((16384:Int) - p - (16384 - p)).toNat=0:=by omega
   rw [e0,Nat.pow_zero,Nat.mul_one]
   have h1:gm < 2 ^ (16384 - ge).toNat:=by
    by_cases h0:gm=0
    ·rw [h0]; exact Nat.pow_pos (by decide)
    ·exact bitsN_le_iff.1 (by omega)
   have h2:=Nat.mul_lt_mul_of_pos_right h1 (Nat.pow_pos (n:=(ge - (16384 - p)).toNat) (by decide:0 < 2))
   by_cases hg:ge ≤ 16384
   ·rw [← Nat.pow_add,show (16384 - ge).toNat+(ge - (16384 - (p:Int))).toNat=p by omega] at h2
    omega
   ·have:gm=0:=by
     rw [show (16384 - ge).toNat=0 by omega] at h1; simpa using h1
    rw [this,Nat.zero_mul]; omega
theorem trunc_fit (hp:1 ≤ p) (ho:¬ cutOver m e false p false=true) :
  GM p (((cutQ m e false p false:Nat):Rat) * P2 (e+cutK m e p)) ∧ ((cutQ m e false p false:Nat):Rat) * P2 (e+cutK m e p) ≤ (m:Rat) * P2 e ∧
  ∀ g,GM p g → g ≤ (m:Rat) * P2 e → g ≤ ((cutQ m e false p false:Nat):Rat) * P2 (e+cutK m e p):=by
 obtain ⟨c1,c2⟩:=cut_mag m e p
 have hk:-16384 ≤ e+(cutK m e p:Int):=by unfold cutK; omega
 refine ⟨?_,?_,?_⟩
 ·by_cases h0:cutQ m e false p false=0
  ·rw [h0]; simpa using GM_zero p
  ·have hq:cutQ m e false p false < 2 ^ p:=by
    have:=div_cut_bits m e p
    unfold cutQ; simpa using this
   unfold cutOver at ho
   simp only [ne_eq,h0,not_false_eq_true,decide_true,Bool.true_and,decide_eq_true_eq] at ho
   exact ⟨_,_,bitsN_le_iff.2 hq,hk,by omega,rfl⟩
 ·rw [mag_le (K:=e) (by omega) (Int.le_refl _)]
  rw [show (e - e).toNat=0 by omega,show (e+(cutK m e p:Int) - e).toNat=cutK m e p by omega,Nat.pow_zero,Nat.mul_one]
  exact c1
 ·rintro g ⟨gm,ge,b1,b2,b3,rfl⟩ h
  obtain ⟨K,k1,k2⟩:∃ K:Int,K ≤ e ∧ K ≤ ge:=⟨min e ge,by omega,by omega⟩
  rw [mag_le k2 k1] at h
  rw [mag_le (K:=K) k2 (by omega)]
  exact grid_down hp b1 b2 k1 k2 h
theorem ceil_over (hp:1 ≤ p) (ho:cutOver m e false p true=true) (g:Rat) (hg:GM p g):¬ (m:Rat) * P2 e ≤ g:=by
 obtain ⟨gm,ge,b1,b2,b3,rfl⟩:=hg
 intro h
 obtain ⟨K,k1,k2⟩:∃ K:Int,K ≤ e ∧ K ≤ ge:=⟨min e ge,by omega,by omega⟩
 rw [mag_le k1 k2] at h
 have h:=grid_up hp b1 b2 k1 k2 h
 unfold cutOver at ho
 simp only [Bool.and_eq_true,decide_eq_true_eq] at ho
 obtain ⟨o1,o2⟩:=ho
 have hq:=two_pow_le_of_bitsN o1
 have hbp:=bitsN_pos o1
 have h3:gm < 2 ^ bitsN gm:=lt_two_pow_bitsN gm
 have h4:=Nat.mul_lt_mul_of_pos_right h3 (Nat.pow_pos (n:=(ge - K).toNat) (by decide:0 < 2))
 have h5:=Nat.mul_le_mul_right (2 ^ (e+(cutK m e p:Int) - K).toNat) hq
 rw [← Nat.pow_add] at h4 h5
 have h6:2 ^ (bitsN gm+(ge - K).toNat) ≤ 2 ^ (bitsN (cutQ m e false p true) - 1+(e+(cutK m e p:Int) - K).toNat):=Nat.pow_le_pow_right (by decide) (by omega)
 omega
theorem ceil_fit (hp:1 ≤ p) (ho:¬ cutOver m e false p true=true) :
  GM p (((cutQ m e false p true:Nat):Rat) * P2 (e+cutK m e p)) ∧ (m:Rat) * P2 e ≤ ((cutQ m e false p true:Nat):Rat) * P2 (e+cutK m e p) ∧
  ∀ g,GM p g → (m:Rat) * P2 e ≤ g → ((cutQ m e false p true:Nat):Rat) * P2 (e+cutK m e p) ≤ g:=by
 obtain ⟨c1,c2⟩:=cut_mag m e p
 have hk:-16384 ≤ e+(cutK m e p:Int):=by unfold cutK; omega
 refine ⟨?_,?_,?_⟩
 ·by_cases h0:cutQ m e false p true=0
  ·rw [h0]; simpa using GM_zero p
  ·unfold cutOver at ho
   simp only [ne_eq,h0,not_false_eq_true,decide_true,Bool.true_and,decide_eq_true_eq] at ho
   rcases Nat.lt_or_eq_of_le (cutQ_le m e false p true) with hq | hq
   ·exact ⟨_,_,bitsN_le_iff.2 hq,hk,by omega,rfl⟩
   ·rw [hq] at ho ⊢
    rw [bitsN_pow] at ho
    refine ⟨1,p+(e+cutK m e p),by rw [bitsN_one]; exact hp,by omega,by rw [bitsN_one]; omega,?_⟩
    rw [P2_add (p:Int),P2_nat p,show ((1:Nat):Rat)=1 from rfl,Rat.one_mul]
 ·rw [mag_le (K:=e) (Int.le_refl _) (by omega)]
  rw [show (e - e).toNat=0 by omega,show (e+(cutK m e p:Int) - e).toNat=cutK m e p by omega,Nat.pow_zero,Nat.mul_one]
  exact c2
 ·rintro g ⟨gm,ge,b1,b2,b3,rfl⟩ h
  obtain ⟨K,k1,k2⟩:∃ K:Int,K ≤ e ∧ K ≤ ge:=⟨min e ge,by omega,by omega⟩
  rw [mag_le k1 k2] at h
  rw [mag_le (K:=K) (by omega) k2]
  exact grid_up hp b1 b2 k1 k2 h
end
def Dn (p:Nat) (v:Rat) (D:Dy) (E:Int):Prop:=(E=0 → G p D.q ∧ D.q ≤ v) ∧ ∀ g,G p g → g ≤ v → E=0 ∧ g ≤ D.q
def Up (p:Nat) (v:Rat) (D:Dy) (E:Int):Prop:=(E=0 → G p D.q ∧ v ≤ D.q) ∧ ∀ g,G p g → v ≤ g → E=0 ∧ D.q ≤ g
theorem Dn.of {p:Nat} {v w:Rat} {D:Dy} {E:Int} (h:Dn p v D E) (k:∀ g,G p g → (g ≤ v ↔ g ≤ w)):Dn p w D E :=
 ⟨fun e=>⟨(h.1 e).1,(k _ (h.1 e).1).1 (h.1 e).2⟩,fun g hg hw=>h.2 g hg ((k g hg).2 hw)⟩
theorem Up.of {p:Nat} {v w:Rat} {D:Dy} {E:Int} (h:Up p v D E) (k:∀ g,G p g → (v ≤ g ↔ w ≤ g)):Up p w D E :=
 ⟨fun e=>⟨(h.1 e).1,(k _ (h.1 e).1).1 (h.1 e).2⟩,fun g hg hw=>h.2 g hg ((k g hg).2 hw)⟩
theorem cut_dn (neg:Bool) (m:Nat) (e:Int) {p:Nat} (hp:1 ≤ p) (hp2:p ≤ 4096):Dn p (canon neg m e).q (cutD neg m e false p false) (cutE neg m e false p false):=by
 have hv:0 ≤ (m:Rat) * P2 e:=Rat.mul_nonneg (Rat.natCast_nonneg) (Rat.le_of_lt (P2_pos _))
 rw [q_canon]
 cases neg
 ·
  have hE:cutE false m e false p false=0:=by unfold cutE; simp
  rw [hE]
  unfold cutD
  simp only [bne_self_eq_false,Bool.false_eq_true,if_false]
  by_cases ho:cutOver m e false p false=true
  ·obtain ⟨t1,t2,t3⟩:=trunc_over hp hp2 ho
   rw [if_pos ho]; (first | unfold Dn | unfold Up); rw [q_canon]
   simp only [Bool.false_eq_true,if_false]
   refine ⟨fun _=>⟨.inl t1,t2⟩,fun g hg hle=>⟨trivial,?_⟩⟩
   by_cases h0:0 ≤ g
   ·exact t3 g (hg.pos h0)
   ·have:=t1.nonneg; grind
  ·obtain ⟨t1,t2,t3⟩:=trunc_fit hp ho
   rw [if_neg ho]; (first | unfold Dn | unfold Up); rw [q_canon]
   simp only [Bool.false_eq_true,if_false]
   refine ⟨fun _=>⟨.inl t1,t2⟩,fun g hg hle=>⟨trivial,?_⟩⟩
   by_cases h0:0 ≤ g
   ·exact t3 g (hg.pos h0) hle
   ·have:=t1.nonneg; grind
 ·unfold cutD cutE
  simp only [Bool.bne_false,Bool.and_true,if_true]
  by_cases ho:cutOver m e false p true=true
  ·rw [if_pos ho,if_pos ho]
   refine ⟨fun h=>by simp at h,fun g hg hle=>?_⟩
   exact absurd (show (m:Rat) * P2 e ≤ -g by grind) (ceil_over hp ho _ (hg.neg.pos (by grind)))
  ·obtain ⟨t1,t2,t3⟩:=ceil_fit hp ho
   rw [if_neg ho,if_neg ho]; (first | unfold Dn | unfold Up); rw [q_canon]
   simp only [if_true]
   refine ⟨fun _=>⟨.inr (by rw [Rat.neg_neg]; exact t1),by grind⟩,fun g hg hle=>⟨trivial,?_⟩⟩
   have:=t3 (-g) (hg.neg.pos (by grind)) (by grind)
   grind
theorem cut_up (neg:Bool) (m:Nat) (e:Int) {p:Nat} (hp:1 ≤ p) (hp2:p ≤ 4096):Up p (canon neg m e).q (cutD neg m e false p true) (cutE neg m e false p true):=by
 have hv:0 ≤ (m:Rat) * P2 e:=Rat.mul_nonneg (Rat.natCast_nonneg) (Rat.le_of_lt (P2_pos _))
 rw [q_canon]
 cases neg
 ·unfold cutD cutE
  simp only [Bool.bne_true,Bool.not_false,Bool.and_true,if_true,Bool.false_eq_true,if_false]
  by_cases ho:cutOver m e false p true=true
  ·rw [if_pos ho,if_pos ho]
   refine ⟨fun h=>by simp at h,fun g hg hle=>?_⟩
   exact absurd hle (ceil_over hp ho _ (hg.pos (by grind)))
  ·obtain ⟨t1,t2,t3⟩:=ceil_fit hp ho
   rw [if_neg ho,if_neg ho]; (first | unfold Dn | unfold Up); rw [q_canon]
   simp only [Bool.false_eq_true,if_false]
   exact ⟨fun _=>⟨.inl t1,t2⟩,fun g hg hle=>⟨trivial,t3 g (hg.pos (by grind)) hle⟩⟩
 ·have hE:cutE true m e false p true=0:=by unfold cutE; simp
  rw [hE]
  unfold cutD
  simp only [bne_self_eq_false,Bool.false_eq_true,if_false,if_true]
  by_cases ho:cutOver m e false p false=true
  ·obtain ⟨t1,t2,t3⟩:=trunc_over hp hp2 ho
   rw [if_pos ho]; (first | unfold Dn | unfold Up); rw [q_canon]
   simp only [if_true]
   refine ⟨fun _=>⟨.inr (by rw [Rat.neg_neg]; exact t1),by grind⟩,fun g hg hle=>⟨trivial,?_⟩⟩
   by_cases h0:0 ≤ -g
   ·have:=t3 (-g) (hg.neg.pos h0); grind
   ·have:=t1.nonneg; grind
  ·obtain ⟨t1,t2,t3⟩:=trunc_fit hp ho
   rw [if_neg ho]; (first | unfold Dn | unfold Up); rw [q_canon]
   simp only [if_true]
   refine ⟨fun _=>⟨.inr (by rw [Rat.neg_neg]; exact t1),by grind⟩,fun g hg hle=>⟨trivial,?_⟩⟩
   by_cases h0:0 ≤ -g
   ·have:=t3 (-g) (hg.neg.pos h0) (by grind); grind
   ·have:=t1.nonneg; grind
theorem rnd_dn {d:Dy} (hd:d.Canon) {p:Nat} (hp:1 ≤ p) (hp2:p ≤ 4096):Dn p d.q (rndD d p false) (rndE d p false):=by
 have:=cut_dn d.neg d.m d.e hp hp2; rwa [hd.canon_eq] at this
theorem rnd_up {d:Dy} (hd:d.Canon) {p:Nat} (hp:1 ≤ p) (hp2:p ≤ 4096):Up p d.q (rndD d p true) (rndE d p true):=by
 have:=cut_up d.neg d.m d.e hp hp2; rwa [hd.canon_eq] at this
def Iv.has (x:Iv) (r:Rat):Prop:=x.all=true ∨ (x.lo.q ≤ r ∧ r ≤ x.hi.q)
def Sub (x y:Iv):Prop:=y.all=true ∨ (x.all=false ∧ y.lo.q ≤ x.lo.q ∧ x.hi.q ≤ y.hi.q)
theorem Sub.refl (x:Iv):Sub x x:=by
 cases h:x.all
 ·exact .inr ⟨h,Rat.le_refl,Rat.le_refl⟩
 ·exact .inl h
theorem Sub.has {x y:Iv} (h:Sub x y) {r:Rat} (k:x.has r):y.has r:=by
 rcases h with h | ⟨h1,h2,h3⟩
 ·exact .inl h
 ·rcases k with k | ⟨k1,k2⟩
  ·rw [h1] at k; cases k
  ·exact .inr ⟨by grind,by grind⟩
theorem Sub.known {x y:Iv} (h:Sub x y) (k:y.all=false):x.all=false ∧ y.lo.q ≤ x.lo.q ∧ x.hi.q ≤ y.hi.q:=by
 rcases h with h | h
 ·rw [h] at k; cases k
 ·exact h
theorem Iv.Valid.q {x:Iv} (h:x.Valid):x.lo.q ≤ x.hi.q:=by
 rcases h with ⟨_,h2,h3⟩ | ⟨_,_,_,h⟩
 ·rw [h2,h3]; exact Rat.le_refl
 ·exact (q_le _ _).1 h
theorem Iv.Valid.canons {x:Iv} (h:x.Valid):x.lo.Canon ∧ x.hi.Canon:=by
 rcases h with ⟨_,h2,h3⟩ | ⟨_,h2,h3,_⟩
 ·rw [h2,h3]; exact ⟨zeroD_valid.canon,zeroD_valid.canon⟩
 ·exact ⟨h2.canon,h3.canon⟩
theorem Iv.Valid.has_lo {x:Iv} (h:x.Valid):x.has x.lo.q:=.inr ⟨Rat.le_refl,h.q⟩
theorem Iv.Valid.has_hi {x:Iv} (h:x.Valid):x.has x.hi.q:=.inr ⟨h.q,Rat.le_refl⟩
structure Best (p:Nat) (S:Rat → Prop) (X:Iv):Prop where
 has:∀ r,S r → X.has r
 on:X.all=false → G p X.lo.q ∧ G p X.hi.q
 least:∀ L U,G p L → G p U → (∀ r,S r → L ≤ r ∧ r ≤ U) → X.all=false ∧ L ≤ X.lo.q ∧ X.hi.q ≤ U
theorem Best.sub {p:Nat} {S T:Rat → Prop} {X Y:Iv} (h:Best p S X) (k:Best p T Y) (hs:∀ r,S r → T r):Sub X Y:=by
 cases hy:Y.all
 ·right
  obtain ⟨k1,k2⟩:=k.on hy
  refine h.least _ _ k1 k2 fun r hr=>?_
  rcases k.has r (hs r hr) with h1 | h1
  ·rw [hy] at h1; cases h1
  ·exact h1
 ·exact .inl hy
theorem addI_best {x y:Iv} (hx:x.Valid) (hy:y.Valid) (xa:x.all=false) (ya:y.all=false) {p:Nat} (hp:1 ≤ p) (hp2:p ≤ 4096) :
  Best p (fun r=>∃ a b,x.has a ∧ y.has b ∧ r=a+b) (addI x y p):=by
 have A:=rnd_dn (canon_sumD hx.canons.1 hy.canons.1) hp hp2
 have B:=rnd_up (canon_sumD hx.canons.2 hy.canons.2) hp hp2
 rw [q_sum] at A B
 unfold addI madeI
 rw [xa,ya]
 simp only [Bool.or_self,Bool.false_eq_true,if_false]
 have has:∀ r,(∃ a b,x.has a ∧ y.has b ∧ r=a+b) → x.lo.q+y.lo.q ≤ r ∧ r ≤ x.hi.q+y.hi.q:=by
  rintro r ⟨a,b,ha,hb,rfl⟩
  rcases ha with ha | ha
  ·rw [xa] at ha; cases ha
  ·rcases hb with hb | hb
   ·rw [ya] at hb; cases hb
   ·grind
 have least:∀ L U,G p L → G p U → (∀ r,(∃ a b,x.has a ∧ y.has b ∧ r=a+b) → L ≤ r ∧ r ≤ U) →
   (rndE (sumD x.lo y.lo) p false=0 ∧ L ≤ (rndD (sumD x.lo y.lo) p false).q) ∧ rndE (sumD x.hi y.hi) p true=0 ∧ (rndD (sumD x.hi y.hi) p true).q ≤ U:=fun L U hL hU h =>
  ⟨A.2 L hL (h _ ⟨_,_,hx.has_lo,hy.has_lo,rfl⟩).1,B.2 U hU (h _ ⟨_,_,hx.has_hi,hy.has_hi,rfl⟩).2⟩
 split
 ·rename_i he
  refine ⟨fun _ _=>.inl rfl,fun h=>absurd h (by decide),fun L U hL hU h=>?_⟩
  obtain ⟨⟨e1,_⟩,e2,_⟩:=least L U hL hU h
  rcases he with he | he
  ·exact absurd e1 he
  ·exact absurd e2 he
 ·rename_i he
  obtain ⟨a1,a2⟩:=A.1 (by omega)
  obtain ⟨b1,b2⟩:=B.1 (by omega)
  refine ⟨fun r hr=>.inr ?_,fun _=>⟨a1,b1⟩,fun L U hL hU h=>?_⟩
  ·obtain ⟨h1,h2⟩:=has r hr
   exact ⟨Rat.le_trans a2 h1,Rat.le_trans h2 b2⟩
  ·obtain ⟨⟨_,e1⟩,_,e2⟩:=least L U hL hU h
   exact ⟨rfl,e1,e2⟩
theorem addI_wh {x y:Iv} (p:Nat) (h:x.all=true ∨ y.all=true):addI x y p=wholeI:=by
 unfold addI
 rw [if_pos (by rcases h with h | h <;> rw [h] <;> simp)]
theorem addI_has {x y:Iv} (hx:x.Valid) (hy:y.Valid) {p:Nat} (hp:1 ≤ p) (hp2:p ≤ 4096) {a b:Rat} (ha:x.has a) (hb:y.has b):(addI x y p).has (a+b):=by
 cases xa:x.all
 ·cases ya:y.all
  ·exact (addI_best hx hy xa ya hp hp2).has _ ⟨a,b,ha,hb,rfl⟩
  ·rw [addI_wh p (.inr ya)]; exact .inl rfl
 ·rw [addI_wh p (.inl xa)]; exact .inl rfl
theorem negI_has {x:Iv} {a:Rat} (ha:x.has a):(negI x).has (-a):=by
 unfold negI
 rcases ha with ha | ⟨h1,h2⟩
 ·rw [if_pos ha]; exact .inl rfl
 ·split
  ·exact .inl rfl
  ·refine .inr ⟨?_,?_⟩
   ·show (negD x.hi).q ≤ _
    rw [q_neg]; grind
   ·show _ ≤ (negD x.lo).q
    rw [q_neg]; grind
theorem four_best {p:Nat} {D:Dy → Dy → Bool → Dy} {E:Dy → Dy → Bool → Int} {f:Rat → Rat → Rat} {x y:Iv} {S:Rat → Prop}
  (hD:∀ a b,(a=x.lo ∨ a=x.hi) → (b=y.lo ∨ b=y.hi) → Dn p (f a.q b.q) (D a b false) (E a b false) ∧ Up p (f a.q b.q) (D a b true) (E a b true) ∧ S (f a.q b.q))
  (hS:∀ r,S r → (f x.lo.q y.lo.q ≤ r ∨ f x.lo.q y.hi.q ≤ r ∨ f x.hi.q y.lo.q ≤ r ∨ f x.hi.q y.hi.q ≤ r) ∧ (r ≤ f x.lo.q y.lo.q ∨ r ≤ f x.lo.q y.hi.q ∨ r ≤ f x.hi.q y.lo.q ∨ r ≤ f x.hi.q y.hi.q)) :
  Best p S (fourI D E x y):=by
 obtain ⟨a1,a2,a3⟩:=hD x.lo y.lo (.inl rfl) (.inl rfl)
 obtain ⟨b1,b2,b3⟩:=hD x.lo y.hi (.inl rfl) (.inr rfl)
 obtain ⟨c1,c2,c3⟩:=hD x.hi y.lo (.inr rfl) (.inl rfl)
 obtain ⟨d1,d2,d3⟩:=hD x.hi y.hi (.inr rfl) (.inr rfl)
 have least:∀ L U,G p L → G p U → (∀ r,S r → L ≤ r ∧ r ≤ U) →
   ((E x.lo y.lo false=0 ∧ L ≤ (D x.lo y.lo false).q) ∧ E x.lo y.lo true=0 ∧ (D x.lo y.lo true).q ≤ U) ∧ ((E x.lo y.hi false=0 ∧ L ≤ (D x.lo y.hi false).q) ∧ E x.lo y.hi true=0 ∧ (D x.lo y.hi true).q ≤ U) ∧
   ((E x.hi y.lo false=0 ∧ L ≤ (D x.hi y.lo false).q) ∧ E x.hi y.lo true=0 ∧ (D x.hi y.lo true).q ≤ U) ∧ ((E x.hi y.hi false=0 ∧ L ≤ (D x.hi y.hi false).q) ∧ E x.hi y.hi true=0 ∧ (D x.hi y.hi true).q ≤ U):=fun L U hL hU h =>
  ⟨⟨a1.2 L hL (h _ a3).1,a2.2 U hU (h _ a3).2⟩,⟨b1.2 L hL (h _ b3).1,b2.2 U hU (h _ b3).2⟩,⟨c1.2 L hL (h _ c3).1,c2.2 U hU (h _ c3).2⟩,⟨d1.2 L hL (h _ d3).1,d2.2 U hU (h _ d3).2⟩⟩
 unfold fourI
 split
 ·rename_i he
  obtain ⟨⟨e1,e2⟩,⟨e3,e4⟩,⟨e5,e6⟩,⟨e7,e8⟩⟩:=he
  obtain ⟨ga,la⟩:=a1.1 e1
  obtain ⟨gA,lA⟩:=a2.1 e2
  obtain ⟨gb,lb⟩:=b1.1 e3
  obtain ⟨gB,lB⟩:=b2.1 e4
  obtain ⟨gc,lc⟩:=c1.1 e5
  obtain ⟨gC,lC⟩:=c2.1 e6
  obtain ⟨gd,ld⟩:=d1.1 e7
  obtain ⟨gD,lD⟩:=d2.1 e8
  obtain ⟨m1,m2,m3⟩:=q_min (D x.lo y.lo false) (D x.lo y.hi false)
  obtain ⟨m4,m5,m6⟩:=q_min (minD (D x.lo y.lo false) (D x.lo y.hi false)) (D x.hi y.lo false)
  obtain ⟨m7,m8,m9⟩:=q_min (minD (minD (D x.lo y.lo false) (D x.lo y.hi false)) (D x.hi y.lo false)) (D x.hi y.hi false)
  obtain ⟨n1,n2,n3⟩:=q_max (D x.lo y.lo true) (D x.lo y.hi true)
  obtain ⟨n4,n5,n6⟩:=q_max (maxD (D x.lo y.lo true) (D x.lo y.hi true)) (D x.hi y.lo true)
  obtain ⟨n7,n8,n9⟩:=q_max (maxD (maxD (D x.lo y.lo true) (D x.lo y.hi true)) (D x.hi y.lo true)) (D x.hi y.hi true)
  generalize (minD (D x.lo y.lo false) (D x.lo y.hi false))=u1 at *
  generalize (minD u1 (D x.hi y.lo false))=u2 at *
  generalize (minD u2 (D x.hi y.hi false))=u3 at *
  generalize (maxD (D x.lo y.lo true) (D x.lo y.hi true))=v1 at *
  generalize (maxD v1 (D x.hi y.lo true))=v2 at *
  generalize (maxD v2 (D x.hi y.hi true))=v3 at *
  refine ⟨fun r hr=>.inr ?_,fun _=>⟨?_,?_⟩,fun L U hL hU h=>⟨rfl,?_,?_⟩⟩
  ·obtain ⟨h1,h2⟩:=hS r hr
   constructor
   ·show u3.q ≤ r
    rcases h1 with h1 | h1 | h1 | h1 <;> grind
   ·show r ≤ v3.q
    rcases h2 with h1 | h1 | h1 | h1 <;> grind
  ·show G p u3.q
   rcases m9 with h | h
   ·rw [h]; rcases m6 with h | h
    ·rw [h]; rcases m3 with h | h <;> rw [h] <;> assumption
    ·rw [h]; assumption
   ·rw [h]; assumption
  ·show G p v3.q
   rcases n9 with h | h
   ·rw [h]; rcases n6 with h | h
    ·rw [h]; rcases n3 with h | h <;> rw [h] <;> assumption
    ·rw [h]; assumption
   ·rw [h]; assumption
  ·obtain ⟨⟨⟨_,k1⟩,_,k2⟩,⟨⟨_,k3⟩,_,k4⟩,⟨⟨_,k5⟩,_,k6⟩,⟨⟨_,k7⟩,_,k8⟩⟩:=least L U hL hU h
   show L ≤ u3.q
   rcases m9 with h | h
   ·rw [h]; rcases m6 with h | h
    ·rw [h]; rcases m3 with h | h <;> rw [h] <;> assumption
    ·rw [h]; assumption
   ·rw [h]; assumption
  ·obtain ⟨⟨⟨_,k1⟩,_,k2⟩,⟨⟨_,k3⟩,_,k4⟩,⟨⟨_,k5⟩,_,k6⟩,⟨⟨_,k7⟩,_,k8⟩⟩:=least L U hL hU h
   show v3.q ≤ U
   rcases n9 with h | h
   ·rw [h]; rcases n6 with h | h
    ·rw [h]; rcases n3 with h | h <;> rw [h] <;> assumption
    ·rw [h]; assumption
   ·rw [h]; assumption
 ·rename_i he
  refine ⟨fun _ _=>.inl rfl,fun h=>absurd h (by decide),fun L U hL hU h=>?_⟩
  obtain ⟨⟨⟨k1,_⟩,k2,_⟩,⟨⟨k3,_⟩,k4,_⟩,⟨⟨k5,_⟩,k6,_⟩,⟨⟨k7,_⟩,k8,_⟩⟩:=least L U hL hU h
  exact absurd ⟨⟨k1,k2⟩,⟨k3,k4⟩,⟨k5,k6⟩,k7,k8⟩ he
theorem corners {a b c d x y:Rat} (h1:a ≤ x) (h2:x ≤ b) (h3:c ≤ y) (h4:y ≤ d) :
  (a * c ≤ x * y ∨ a * d ≤ x * y ∨ b * c ≤ x * y ∨ b * d ≤ x * y) ∧ (x * y ≤ a * c ∨ x * y ≤ a * d ∨ x * y ≤ b * c ∨ x * y ≤ b * d):=by
 have mono:∀ {u v w:Rat},u ≤ v → 0 ≤ w → u * w ≤ v * w:=fun h k=>Rat.mul_le_mul_of_nonneg_right h k
 have anti:∀ {u v w:Rat},u ≤ v → w ≤ 0 → v * w ≤ u * w:=by
  intro u v w h k
  have:=mono h (show 0 ≤ -w by grind)
  grind
 have side:∀ t:Rat,(t * c ≤ t * y ∨ t * d ≤ t * y) ∧ (t * y ≤ t * c ∨ t * y ≤ t * d):=by
  intro t
  rw [Rat.mul_comm t c,Rat.mul_comm t d,Rat.mul_comm t y]
  rcases Rat.le_total (a:=0) (b:=t) with h | h
  ·exact ⟨.inl (mono h3 h),.inr (mono h4 h)⟩
  ·exact ⟨.inr (anti h4 h),.inl (anti h3 h)⟩
 have sa:=side a
 have sb:=side b
 rcases Rat.le_total (a:=0) (b:=y) with h | h
 ·have m1:=mono h1 h
  have m2:=mono h2 h
  clear mono anti side
  constructor
  ·rcases sa.1 with k | k <;> grind
  ·rcases sb.2 with k | k <;> grind
 ·have m1:=anti h1 h
  have m2:=anti h2 h
  clear mono anti side
  constructor
  ·rcases sb.1 with k | k <;> grind
  ·rcases sa.2 with k | k <;> grind
theorem Iv.has.ends {x:Iv} {r:Rat} (h:x.has r) (k:x.all=false):x.lo.q ≤ r ∧ r ≤ x.hi.q:=by
 rcases h with h | h
 ·rw [k] at h; cases h
 ·exact h
theorem canon_prodD (a b:Dy):(prodD a b).Canon:=canon_canon _ _ _
theorem mulI_best {x y:Iv} (hx:x.Valid) (hy:y.Valid) (xa:x.all=false) (ya:y.all=false) {p:Nat} (hp:1 ≤ p) (hp2:p ≤ 4096) :
  Best p (fun r=>∃ a b,x.has a ∧ y.has b ∧ r=a * b) (mulI x y p):=by
 unfold mulI
 rw [xa,ya]
 simp only [Bool.or_self,Bool.false_eq_true,if_false]
 refine four_best (f:=fun a b=>a * b) (fun a b ha hb=>⟨?_,?_,a.q,b.q,?_,?_,rfl⟩) (fun r ⟨a,b,ha,hb,e⟩=>?_)
 ·have:=rnd_dn (canon_prodD a b) hp hp2; rwa [q_prod] at this
 ·have:=rnd_up (canon_prodD a b) hp hp2; rwa [q_prod] at this
 ·rcases ha with rfl | rfl; exact hx.has_lo; exact hx.has_hi
 ·rcases hb with rfl | rfl; exact hy.has_lo; exact hy.has_hi
 ·obtain ⟨h1,h2⟩:=ha.ends xa
  obtain ⟨h3,h4⟩:=hb.ends ya
  rw [e]; exact corners h1 h2 h3 h4
theorem mulI_wh {x y:Iv} (p:Nat) (h:x.all=true ∨ y.all=true):mulI x y p=wholeI:=by
 unfold mulI
 rw [if_pos (by rcases h with h | h <;> rw [h] <;> simp)]
theorem mulI_has {x y:Iv} (hx:x.Valid) (hy:y.Valid) {p:Nat} (hp:1 ≤ p) (hp2:p ≤ 4096) {a b:Rat} (ha:x.has a) (hb:y.has b):(mulI x y p).has (a * b):=by
 cases xa:x.all
 ·cases ya:y.all
  ·exact (mulI_best hx hy xa ya hp hp2).has _ ⟨a,b,ha,hb,rfl⟩
  ·rw [mulI_wh p (.inr ya)]; exact .inl rfl
 ·rw [mulI_wh p (.inl xa)]; exact .inl rfl
theorem sign_split {y:Iv} (_hy:y.Valid) (h:signI y ≠ 0):y.all=false ∧ (0 < y.lo.q ∨ y.hi.q < 0):=by
 unfold signI at h
 cases ya:y.all
 ·rw [ya] at h
  simp only [Bool.false_eq_true,if_false] at h
  refine ⟨rfl,?_⟩
  split at h
  ·rename_i h1; exact .inl ((q_sign _).1.1 h1)
  ·split at h
   ·rename_i h1; exact .inr ((q_sign _).2.1 h1)
   ·exact absurd rfl h
 ·rw [ya] at h; simp at h
theorem sign_of {y:Iv} (ya:y.all=false) (h:0 < y.lo.q ∨ y.hi.q < 0):signI y ≠ 0:=by
 unfold signI
 rw [ya]
 simp only [Bool.false_eq_true,if_false]
 rcases h with h | h
 ·rw [if_pos ((q_sign _).1.2 h)]; decide
 ·split
  ·decide
  ·rw [if_pos ((q_sign _).2.2 h)]; decide
theorem magI_q {x:Iv} (h:x.lo.q ≤ x.hi.q):x.hi.q ≤ (magI x).q ∧ -x.lo.q ≤ (magI x).q ∧ ((magI x).q=x.hi.q ∨ (magI x).q = -x.lo.q):=by
 obtain ⟨a1,a2,a3,a4⟩:=q_abs x.lo
 obtain ⟨b1,b2,b3,b4⟩:=q_abs x.hi
 obtain ⟨c1,c2,c3⟩:=q_max (absD x.lo) (absD x.hi)
 unfold magI
 generalize (maxD (absD x.lo) (absD x.hi)).q=M at *
 refine ⟨by grind,by grind,?_⟩
 rcases c3 with c3 | c3
 ·rcases a4 with a4 | a4
  ·grind
  ·grind
 ·rcases b4 with b4 | b4
  ·grind
  ·grind
theorem magI_sub {x x':Iv} (hx:x.Valid) (hx':x'.Valid) (h:Sub x x') (xa:x'.all=false):(magI x).q ≤ (magI x').q:=by
 obtain ⟨h1,h2,h3⟩:=h.known xa
 obtain ⟨a1,a2,a3⟩:=magI_q hx.q
 obtain ⟨b1,b2,b3⟩:=magI_q hx'.q
 grind
theorem migI_q {x:Iv} (hx:x.Valid) (xa:x.all=false):0 ≤ (migI x).q ∧ (x.lo.q ≤ 0 → 0 ≤ x.hi.q → (migI x).q=0) ∧ (0 < x.lo.q → (migI x).q=x.lo.q) ∧ (x.hi.q < 0 → (migI x).q = -x.hi.q):=by
 have hle:=hx.q
 obtain ⟨a1,a2,a3,a4⟩:=q_abs x.lo
 obtain ⟨b1,b2,b3,b4⟩:=q_abs x.hi
 obtain ⟨c1,c2,c3⟩:=q_min (absD x.lo) (absD x.hi)
 by_cases hs:signI x=0
 ·have hn:¬ (0 < x.lo.q ∨ x.hi.q < 0):=fun h=>sign_of xa h hs
  have:migI x=zeroD:=by unfold migI; rw [if_pos hs]
  rw [this,q_zero]
  refine ⟨Rat.le_refl,fun _ _=>rfl,fun h=>absurd (.inl h) hn,fun h=>absurd (.inr h) hn⟩
 ·obtain ⟨_,h0⟩:=sign_split hx hs
  have:migI x=minD (absD x.lo) (absD x.hi):=by unfold migI; rw [if_neg hs]
  rw [this]
  generalize (minD (absD x.lo) (absD x.hi)).q=M at *
  generalize (absD x.lo).q=u at *
  generalize (absD x.hi).q=v at *
  refine ⟨by grind,by grind,by grind,by grind⟩
theorem absI_sub {x x':Iv} (hx:x.Valid) (hx':x'.Valid) (h:Sub x x'):Sub (absI x) (absI x'):=by
 cases xa:x'.all
 ·obtain ⟨h1,h2,h3⟩:=h.known xa
  unfold absI
  rw [h1,xa]
  refine .inr ⟨rfl,?_,magI_sub hx hx' h xa⟩
  show (migI x').q ≤ (migI x).q
  obtain ⟨a1,a2,a3,a4⟩:=migI_q hx h1
  obtain ⟨b1,b2,b3,b4⟩:=migI_q hx' xa
  have:=hx.q
  by_cases c1:0 < x'.lo.q
  ·rw [b3 c1,a3 (by grind)]; exact h2
  ·by_cases c2:x'.hi.q < 0
   ·rw [b4 c2,a4 (by grind)]; grind
   ·rw [b2 (by grind) (by grind)]; exact a1
 ·refine .inl ?_
  unfold absI; rw [if_pos xa]; rfl
theorem absI_has {x:Iv} (hx:x.Valid) {r s:Rat} (h:x.has r) (hs:s=r ∧ 0 ≤ r ∨ s = -r ∧ r ≤ 0):(absI x).has s:=by
 unfold absI
 cases xa:x.all
 ·obtain ⟨h1,h2⟩:=h.ends xa
  obtain ⟨a1,a2,a3⟩:=magI_q hx.q
  obtain ⟨b1,b2,b3,b4⟩:=migI_q hx xa
  refine .inr ⟨?_,?_⟩
  ·show (migI x).q ≤ s
   by_cases c1:0 < x.lo.q
   ·rw [b3 c1]; grind
   ·by_cases c2:x.hi.q < 0
    ·rw [b4 c2]; grind
    ·rw [b2 (by grind) (by grind)]; grind
  ·show s ≤ (magI x).q
   grind
 ·exact .inl rfl
theorem pointI_has (d:Dy):(pointI d).has d.q:=.inr ⟨Rat.le_refl,Rat.le_refl⟩
def pwD (d:Dy) (p:Nat) (up:Bool):Nat → Dy × Int
 | 0=>(rndD d p up,rndE d p up)
 | k+1=>if (pwD d p up k).2 ≠ 0 then pwD d p up k else (rndD (prodD (pwD d p up k).1 d) p up,rndE (prodD (pwD d p up k).1 d) p up)
def endP (d:Dy) (n p:Nat) (up:Bool):Dy × Int:=if d.sign < 0 then (negD (pwD (negD d) p (!up) (n - 1)).1,(pwD (negD d) p (!up) (n - 1)).2) else pwD d p up (n - 1)
def powY (x:Iv) (n:Nat):Iv:=if n % 2=0 then absI x else x
def pwrI (x:Iv) (n p:Nat):Iv :=
 if x.all then wholeI else if n=0 then pointI ⟨false,1,0⟩
 else madeI (endP (powY x n).lo n p false).1 (endP (powY x n).lo n p false).2 (endP (powY x n).hi n p true).1 (endP (powY x n).hi n p true).2
def rpow (r:Rat):Nat → Rat
 | 0=>1
 | n+1=>rpow r n * r
theorem rpow_nonneg {r:Rat} (h:0 ≤ r):∀ n,0 ≤ rpow r n
 | 0=>by show (0:Rat) ≤ 1; decide
 | n+1=>Rat.mul_nonneg (rpow_nonneg h n) h
theorem rpow_mono {a b:Rat} (h0:0 ≤ a) (h:a ≤ b):∀ n,rpow a n ≤ rpow b n
 | 0=>Rat.le_refl
 | n+1=>by
  have ih:=rpow_mono h0 h n
  have m1:=Rat.mul_le_mul_of_nonneg_right ih h0
  have m2:=Rat.mul_le_mul_of_nonneg_left h (rpow_nonneg (Rat.le_trans h0 h) n)
  exact Rat.le_trans m1 m2
theorem rpow_neg (r:Rat):∀ n,rpow (-r) n=if n % 2=0 then rpow r n else -rpow r n
 | 0=>rfl
 | n+1=>by
  have ih:=rpow_neg r n
  simp only [rpow,ih]
  have:n % 2=0 ∨ n % 2=1:=by omega
  rcases this with h | h
  ·have h':(n+1) % 2=1:=by omega
   rw [h,h']; simp; grind
  ·have h':(n+1) % 2=0:=by omega
   rw [h,h']; simp; grind
theorem rpow_odd {a b:Rat} {n:Nat} (hn:n % 2=1) (h:a ≤ b):rpow a n ≤ rpow b n:=by
 by_cases h0:0 ≤ a
 ·exact rpow_mono h0 h n
 ·have ea:=rpow_neg (-a) n
  rw [Rat.neg_neg,hn] at ea
  simp only [Nat.one_ne_zero,if_false] at ea
  by_cases hb:0 ≤ b
  ·have h1:=rpow_nonneg (show 0 ≤ -a by grind) n
   have h2:=rpow_nonneg hb n
   grind
  ·have eb:=rpow_neg (-b) n
   rw [Rat.neg_neg,hn] at eb
   simp only [Nat.one_ne_zero,if_false] at eb
   have:=rpow_mono (show 0 ≤ -b by grind) (show -b ≤ -a by grind) n
   grind
theorem pw_dn {d:Dy} (hd:d.Canon) (h0:0 ≤ d.q) {p:Nat} (hp:1 ≤ p) (hp2:p ≤ 4096):∀ k,(pwD d p false k).2=0 → 0 ≤ (pwD d p false k).1.q ∧ (pwD d p false k).1.q ≤ rpow d.q (k+1)
 | 0,he=>by
  have A:=rnd_dn hd hp hp2
  refine ⟨(A.2 0 (.inl (GM_zero p)) h0).2,?_⟩
  have:=(A.1 he).2
  simp only [rpow,Rat.one_mul]; exact this
 | k+1,he=>by
  by_cases hk:(pwD d p false k).2 ≠ 0
  ·exfalso; simp only [pwD,if_pos hk] at he; exact hk he
  ·have hk0:(pwD d p false k).2=0:=by omega
   obtain ⟨i1,i2⟩:=pw_dn hd h0 hp hp2 k hk0
   have A:=rnd_dn (canon_prodD (pwD d p false k).1 d) hp hp2
   rw [q_prod] at A
   simp only [pwD,if_neg hk] at he ⊢
   refine ⟨(A.2 0 (.inl (GM_zero p)) (Rat.mul_nonneg i1 h0)).2,?_⟩
   have h1:=(A.1 he).2
   have h2:=Rat.mul_le_mul_of_nonneg_right i2 h0
   exact Rat.le_trans h1 h2
theorem pw_up {d:Dy} (hd:d.Canon) (h0:0 ≤ d.q) {p:Nat} (hp:1 ≤ p) (hp2:p ≤ 4096):∀ k,(pwD d p true k).2=0 → rpow d.q (k+1) ≤ (pwD d p true k).1.q
 | 0,he=>by
  have A:=rnd_up hd hp hp2
  have:=(A.1 he).2
  simp only [rpow,Rat.one_mul]; exact this
 | k+1,he=>by
  by_cases hk:(pwD d p true k).2 ≠ 0
  ·exfalso; simp only [pwD,if_pos hk] at he; exact hk he
  ·have hk0:(pwD d p true k).2=0:=by omega
   have i2:=pw_up hd h0 hp hp2 k hk0
   have A:=rnd_up (canon_prodD (pwD d p true k).1 d) hp hp2
   rw [q_prod] at A
   simp only [pwD,if_neg hk] at he ⊢
   have h1:=(A.1 he).2
   have h2:=Rat.mul_le_mul_of_nonneg_right i2 h0
   exact Rat.le_trans h2 h1
theorem end_dn {d:Dy} (hd:d.Canon) {n p:Nat} (hn:1 ≤ n) (hs:0 ≤ d.q ∨ n % 2=1) (hp:1 ≤ p) (hp2:p ≤ 4096) (he:(endP d n p false).2=0):(endP d n p false).1.q ≤ rpow d.q n:=by
 unfold endP at he ⊢
 by_cases h:d.sign < 0
 ·rw [if_pos h] at he ⊢
  have hq:=(q_sign d).2.1 h
  have hodd:=hs.resolve_left (by grind)
  have:=pw_up (negD_canon hd) (by rw [q_neg]; grind) hp hp2 (n - 1) he
  rw [show n - 1+1=n by omega,q_neg,rpow_neg,hodd] at this
  simp only [Nat.one_ne_zero,if_false] at this
  show (negD _).q ≤ _
  rw [q_neg]
  simp only [Bool.not_false]
  grind
 ·rw [if_neg h] at he ⊢
  have h0:0 ≤ d.q:=by
   apply Rat.not_lt.1
   intro hlt
   exact h ((q_sign d).2.2 hlt)
  have:=(pw_dn hd h0 hp hp2 (n - 1) he).2
  rwa [show n - 1+1=n by omega] at this
theorem end_up {d:Dy} (hd:d.Canon) {n p:Nat} (hn:1 ≤ n) (hs:0 ≤ d.q ∨ n % 2=1) (hp:1 ≤ p) (hp2:p ≤ 4096) (he:(endP d n p true).2=0):rpow d.q n ≤ (endP d n p true).1.q:=by
 unfold endP at he ⊢
 by_cases h:d.sign < 0
 ·rw [if_pos h] at he ⊢
  have hq:=(q_sign d).2.1 h
  have hodd:=hs.resolve_left (by grind)
  have:=(pw_dn (negD_canon hd) (by rw [q_neg]; grind) hp hp2 (n - 1) he).2
  rw [show n - 1+1=n by omega,q_neg,rpow_neg,hodd] at this
  simp only [Nat.one_ne_zero,if_false] at this
  show _ ≤ (negD _).q
  rw [q_neg]
  simp only [Bool.not_true]
  grind
 ·rw [if_neg h] at he ⊢
  have h0:0 ≤ d.q:=by
   apply Rat.not_lt.1
   intro hlt
   exact h ((q_sign d).2.2 hlt)
  have:=pw_up hd h0 hp hp2 (n - 1) he
  rwa [show n - 1+1=n by omega] at this
theorem pwrI_has {x:Iv} (hx:x.Valid) {n p:Nat} (hp:1 ≤ p) (hp2:p ≤ 4096) {r:Rat} (h:x.has r):(pwrI x n p).has (rpow r n):=by
 unfold pwrI
 cases xa:x.all
 ·simp only [Bool.false_eq_true,if_false]
  by_cases hn:n=0
  ·rw [if_pos hn]
   subst hn
   have e:(⟨false,1,0⟩:Dy).q=1:=by decide +kernel
   refine .inr ⟨?_,?_⟩
   ·show (⟨false,1,0⟩:Dy).q ≤ 1
    rw [e]; exact Rat.le_refl
   ·show 1 ≤ (⟨false,1,0⟩:Dy).q
    rw [e]; exact Rat.le_refl
  ·rw [if_neg hn]
   obtain ⟨s,hs,hs0,hsn⟩:∃ s,(powY x n).has s ∧ (n % 2=0 → 0 ≤ (powY x n).lo.q ∧ 0 ≤ s) ∧ rpow r n=rpow s n:=by
    unfold powY
    by_cases hev:n % 2=0
    ·rw [if_pos hev]
     have hl:0 ≤ (absI x).lo.q:=by
      unfold absI
      rw [xa]
      show 0 ≤ (migI x).q
      unfold migI
      split
      ·rw [q_zero]; exact Rat.le_refl
      ·obtain ⟨_,_,m⟩:=q_min (absD x.lo) (absD x.hi)
       rcases m with m | m <;> rw [m]
       ·exact (q_abs x.lo).1
       ·exact (q_abs x.hi).1
     by_cases hr:0 ≤ r
     ·exact ⟨r,absI_has hx h (.inl ⟨rfl,hr⟩),fun _=>⟨hl,hr⟩,rfl⟩
     ·refine ⟨-r,absI_has hx h (.inr ⟨rfl,by grind⟩),fun _=>⟨hl,by grind⟩,?_⟩
      rw [rpow_neg,if_pos hev]
    ·rw [if_neg hev]
     exact ⟨r,h,fun q=>absurd q hev,rfl⟩
   have hyv:(powY x n).Valid:=by unfold powY; split; exact absI_valid hx; exact hx
   have ya:(powY x n).all=false:=by
    unfold powY; split
    ·unfold absI; rw [xa]; rfl
    ·exact xa
   rw [hsn]
   generalize powY x n=y at *
   obtain ⟨s1,s2⟩:=hs.ends ya
   obtain ⟨c1,c2⟩:=hyv.canons
   unfold madeI
   split
   ·exact .inl rfl
   ·rename_i he
    have hodd:¬ n % 2=0 → n % 2=1:=fun q=>by omega
    refine .inr ⟨?_,?_⟩
    ·refine Rat.le_trans (end_dn c1 (by omega) ?_ hp hp2 (by omega)) ?_
     ·by_cases hev:n % 2=0
      ·exact .inl (hs0 hev).1
      ·exact .inr (hodd hev)
     ·by_cases hev:n % 2=0
      ·exact rpow_mono (hs0 hev).1 s1 n
      ·exact rpow_odd (hodd hev) s1
    ·refine Rat.le_trans ?_ (end_up c2 (by omega) ?_ hp hp2 (by omega))
     ·by_cases hev:n % 2=0
      ·exact rpow_mono (hs0 hev).2 s2 n
      ·exact rpow_odd (hodd hev) s2
     ·by_cases hev:n % 2=0
      ·exact .inl (Rat.le_trans (hs0 hev).2 s2)
      ·exact .inr (hodd hev)
 ·rw [if_pos rfl]; exact .inl rfl
end Go.Proofs.YtkbjkchapnjhgaaGreatDoor.Fp
namespace Go.Proofs.YtkbjkchapnjhgaaGreatDoor
open Go.RowKit Fp Pu
structure OpV where
 kind:Nat
 a:Nat
 b:Nat
 n:Nat
 cn:Int
 cd:Int
structure TapeV where
 ins:Nat
 ops:List OpV
 outs:List Nat
structure SysV where
 tape:TapeV
 states:Nat
 params:List Iv
def opV0:OpV:=⟨0,0,0,0,0,0⟩
def opL (o:OpV):List E:=[iP ((o.kind:Nat):Int),iP ((o.a:Nat):Int),iP ((o.b:Nat):Int),iP ((o.n:Nat):Int),iP o.cn,iP o.cd]
def opP (o:OpV):E:=.agg (opL o)
def opsP (l:List OpV):E:=.sl true l.length 6 fun i j=>(opL (l.getD i opV0)).getD j .any
def natsP (l:List Nat):E:=.sl true l.length 1 fun i _=>iP ((l.getD i 0:Nat):Int)
def tapeL (t:TapeV):List E:=[iP ((t.ins:Nat):Int),opsP t.ops,natsP t.outs]
def tapeP (t:TapeV):E:=.agg (tapeL t)
def sysL (s:SysV):List E:=[iP ((s.tape.ins:Nat):Int),opsP s.tape.ops,natsP s.tape.outs,iP ((s.states:Nat):Int),ivsP s.params]
def sysP (s:SysV):E:=.agg (sysL s)
structure OpOk (o:OpV) (m:Nat):Prop where
 k3:3 ≤ o.kind
 k13:o.kind ≤ 13
 a:o.a < m
 b:if o.kind ≤ 6 then o.b < m else o.b=0
 n:if o.kind=8 then o.n ≤ 16 else o.n=0
 cn:o.cn=0
 cd:o.cd=0
structure TapeOk (t:TapeV):Prop where
 ins:t.ins ≤ 8
 ops:t.ops.length ≤ 200
 outs:t.outs.length ≤ 200
 op:∀ i,i < t.ops.length → OpOk (t.ops.getD i opV0) (t.ins+i)
 out:∀ i,i < t.outs.length → t.outs.getD i 0 < t.ins+t.ops.length
def NoAll (l:List Iv):Prop:=∀ i,i < l.length → (l.getD i wholeI).Valid ∧ (l.getD i wholeI).all=false
structure SysOk (s:SysV):Prop where
 tape:TapeOk s.tape
 s1:1 ≤ s.states
 s4:s.states ≤ 4
 outs:s.tape.outs.length=s.states
 ins:s.tape.ins=s.states+s.params.length
 p4:s.params.length ≤ 4
 params:NoAll s.params
structure BoxOk (n:Nat) (b:List Iv):Prop where
 len:b.length=n
 ok:NoAll b
def binB (o:OpV):Bool:=decide (o.kind ≤ 6)
def apI (o:OpV) (x y:Iv) (p:Nat):Iv :=
 if o.kind=3 then addI x y p else if o.kind=4 then subI x y p else if o.kind=5 then mulI x y p else if o.kind=6 then divI x y p
 else if o.kind=7 then negI x else if o.kind=8 then pwrI x o.n p else wholeI
def apV (o:OpV) (l:List Iv) (p:Nat):Iv:=apI o (l.getD o.a wholeI) (if binB o then l.getD o.b wholeI else wholeI) p
def valsI (ops:List OpV) (xs:List Iv) (p:Nat):Nat → List Iv
 | 0=>xs
 | k+1=>valsI ops xs p k ++ [apV (ops.getD k opV0) (valsI ops xs p k) p]
def fieldI (t:TapeV) (xs:List Iv) (p:Nat):List Iv:=t.outs.map fun k=>(valsI t.ops xs p t.ops.length).getD k wholeI
def hasAll (l:List Iv):Bool:=(List.range l.length).any fun i=>(l.getD i wholeI).all
def stepI (h:Dy):Iv:=⟨zeroD,h,false⟩
def imgI (x f:List Iv) (h:Dy) (p i:Nat):Iv:=addI (x.getD i wholeI) (mulI (stepI h) (f.getD i wholeI) p) p
def imgL (x f:List Iv) (h:Dy) (p:Nat):List Iv:=(List.range x.length).map (imgI x f h p)
def imageI (s:SysV) (x:List Iv) (h:Dy) (b:List Iv) (p:Nat):List Iv :=
 if hasAll (fieldI s.tape (b ++ s.params) p) then [] else if hasAll (imgL x (fieldI s.tape (b ++ s.params) p) h p) then [] else imgL x (fieldI s.tape (b ++ s.params) p) h p
theorem vals_len (ops:List OpV) (xs:List Iv) (p:Nat):∀ k,(valsI ops xs p k).length=xs.length+k
 | 0=>rfl
 | k+1=>by simp only [valsI,List.length_append,vals_len ops xs p k,List.length_cons,List.length_nil]; omega
theorem stepI_valid {h:Dy} (hv:h.Valid) (h0:0 ≤ h.q):(stepI h).Valid:=.inr ⟨rfl,zeroD_valid,hv,by show cmpD zeroD h ≤ 0; rw [q_le,q_zero]; exact h0⟩
theorem rnd_val (d:Dy) {p:Nat} (hp:1 ≤ p) (hp2:p ≤ 4096) (up:Bool):(rndD d p up).Valid:=cut_valid _ _ _ _ _ _ hp hp2
theorem pwD_valid (d:Dy) {p:Nat} (hp:1 ≤ p) (hp2:p ≤ 4096) (up:Bool):∀ k,(pwD d p up k).1.Valid
 | 0=>rnd_val _ hp hp2 _
 | k+1=>by
  unfold pwD
  split
  ·exact pwD_valid d hp hp2 up k
  ·exact rnd_val _ hp hp2 _
theorem endP_valid (d:Dy) (n:Nat) {p:Nat} (hp:1 ≤ p) (hp2:p ≤ 4096) (up:Bool):(endP d n p up).1.Valid:=by
 unfold endP
 split
 ·exact negD_valid (pwD_valid _ hp hp2 _ _)
 ·exact pwD_valid _ hp hp2 _ _
theorem one_canon:canon false 1 0=⟨false,1,0⟩:=by
 have h1:(canon false 1 0).neg=false:=by decide +kernel
 have h2:(canon false 1 0).m=1:=by decide +kernel
 have h3:(canon false 1 0).e=0:=by decide +kernel
 generalize canon false 1 0=d at *
 cases d
 simp_all
theorem one_valid:(⟨false,1,0⟩:Dy).Valid:=by
 have h2:inRange (canon false 1 0):=by decide +kernel
 rw [← one_canon]
 exact ⟨canon_canon _ _ _,h2⟩
theorem pwrI_valid {x:Iv} (hx:x.Valid) (n:Nat) {p:Nat} (hp:1 ≤ p) (hp2:p ≤ 4096):(pwrI x n p).Valid:=by
 have hh:=pwrI_has hx (n:=n) hp hp2 hx.has_lo
 revert hh
 unfold pwrI
 split
 ·intro _; exact wholeI_valid
 ·split
  ·intro _; exact pointI_valid one_valid
  ·unfold madeI
   split
   ·intro _; exact wholeI_valid
   ·intro hh
    obtain ⟨h1,h2⟩:=hh.ends rfl
    exact .inr ⟨rfl,endP_valid _ _ hp hp2 _,endP_valid _ _ hp hp2 _,(q_le _ _).2 (Rat.le_trans h1 h2)⟩
theorem apI_valid (o:OpV) {x y:Iv} (hx:x.Valid) (hy:y.Valid) {p:Nat} (hp:1 ≤ p) (hp2:p ≤ 4096):(apI o x y p).Valid:=by
 unfold apI
 split
 ·exact addI_valid hx hy hp hp2
 split
 ·exact addI_valid hx (negI_valid hy) hp hp2
 split
 ·exact mulI_valid _ _ hp hp2
 split
 ·exact divI_valid _ _ hp hp2
 split
 ·exact negI_valid hx
 split
 ·exact pwrI_valid hx _ hp hp2
 ·exact wholeI_valid
def Vals (l:List Iv):Prop:=∀ i,(l.getD i wholeI).Valid
theorem Vals.push {l:List Iv} (h:Vals l) {y:Iv} (hy:y.Valid):Vals (l ++ [y]):=fun i=>by
 rw [List.getD_eq_getElem?_getD,List.getElem?_append]
 split
 ·have:=h i; rwa [List.getD_eq_getElem?_getD] at this
 ·rcases i - l.length with _ | j
  ·exact hy
  ·exact wholeI_valid
theorem NoAll.vals {l:List Iv} (h:NoAll l):Vals l:=fun i=>by
 by_cases hi:i < l.length
 ·exact (h i hi).1
 ·rw [List.getD_eq_getElem?_getD,List.getElem?_eq_none (by omega)]; exact wholeI_valid
theorem Vals.append {l r:List Iv} (h:Vals l) (k:Vals r):Vals (l ++ r):=fun i=>by
 rw [List.getD_eq_getElem?_getD,List.getElem?_append]
 split
 ·have:=h i; rwa [List.getD_eq_getElem?_getD] at this
 ·have:=k (i - l.length); rwa [List.getD_eq_getElem?_getD] at this
theorem vals_valid (ops:List OpV) {xs:List Iv} (h:Vals xs) {p:Nat} (hp:1 ≤ p) (hp2:p ≤ 4096):∀ k,Vals (valsI ops xs p k)
 | 0=>h
 | k+1=>(vals_valid ops h hp hp2 k).push (apI_valid _ (vals_valid ops h hp hp2 k _) (by split; exact vals_valid ops h hp hp2 k _; exact wholeI_valid) hp hp2)
theorem field_valid (t:TapeV) {xs:List Iv} (h:Vals xs) {p:Nat} (hp:1 ≤ p) (hp2:p ≤ 4096):Vals (fieldI t xs p):=fun i=>by
 unfold fieldI
 rw [List.getD_eq_getElem?_getD,List.getElem?_map]
 cases t.outs[i]? with
 | none=>exact wholeI_valid
 | some k=>exact vals_valid t.ops h hp hp2 _ _
theorem field_len (t:TapeV) (xs:List Iv) (p:Nat):(fieldI t xs p).length=t.outs.length:=by simp [fieldI]
theorem hasAll_false {l:List Iv} (h:hasAll l=false) (v:Vals l):NoAll l:=fun i hi=>⟨v i,by simpa using List.any_eq_false.1 h i (List.mem_range.2 hi)⟩
theorem imgI_valid {x f:List Iv} {h:Dy} (hx:Vals x) {p:Nat} (hp:1 ≤ p) (hp2:p ≤ 4096) (i:Nat):(imgI x f h p i).Valid:=addI_valid (hx i) (mulI_valid _ _ hp hp2) hp hp2
theorem imgL_len (x f:List Iv) (h:Dy) (p:Nat):(imgL x f h p).length=x.length:=by simp [imgL]
theorem imgL_at {x f:List Iv} {h:Dy} {p i:Nat} (hi:i < x.length):(imgL x f h p).getD i wholeI=imgI x f h p i:=by
 simp [imgL,List.getD_eq_getElem?_getD,hi]
theorem imgL_valid {x f:List Iv} {h:Dy} (hx:Vals x) {p:Nat} (hp:1 ≤ p) (hp2:p ≤ 4096):Vals (imgL x f h p):=fun i=>by
 by_cases hi:i < x.length
 ·rw [imgL_at hi]; exact imgI_valid hx hp hp2 i
 ·rw [List.getD_eq_getElem?_getD,List.getElem?_eq_none (by rw [imgL_len]; omega)]; exact wholeI_valid
theorem image_ok {s:SysV} {x b:List Iv} {h:Dy} {p n:Nat} (hx:BoxOk n x) (hp:1 ≤ p) (hp2:p ≤ 4096) (hne:imageI s x h b p ≠ []):BoxOk n (imageI s x h b p):=by
 unfold imageI at hne ⊢
 split at hne
 ·exact absurd rfl hne
 ·rename_i h1
  rw [if_neg h1]
  split at hne
  ·exact absurd rfl hne
  ·rename_i h2
   rw [if_neg h2]
   exact ⟨by rw [imgL_len,hx.len],hasAll_false (by simpa using h2) (imgL_valid hx.ok.vals hp hp2)⟩
def insB (a b:List Iv):Bool:=(List.range a.length).all fun i=>insI (a.getD i wholeI) (b.getD i wholeI)
def holdsB (s:SysV) (x:List Iv) (h:Dy) (b:List Iv) (p:Nat):Bool:=!(imageI s x h b p).isEmpty && (insB x b && insB (imageI s x h b p) b)
def growOk (x:Iv) (d:Dy):Bool:=decide (chkE (sumD x.lo (negD d))=0) && decide (chkE (sumD x.hi d)=0)
def growI (x:Iv) (d:Dy):Iv:=⟨chk (sumD x.lo (negD d)),chk (sumD x.hi d),false⟩
def growAll (x:List Iv) (d:Dy):Bool:=(List.range x.length).all fun i=>growOk (x.getD i wholeI) d
def growL (x:List Iv) (d:Dy):List Iv:=if growAll x d then (List.range x.length).map fun i=>growI (x.getD i wholeI) d else []
def hullI (x y:Iv):Iv:=if x.all || y.all then wholeI else ⟨minD x.lo y.lo,maxD x.hi y.hi,false⟩
def hullL (x y:List Iv):List Iv:=(List.range x.length).map fun i=>hullI (x.getD i wholeI) (y.getD i wholeI)
def widD (x:Iv) (p:Nat):Dy:=rndD (sumD x.hi (negD x.lo)) p true
def widE (x:Iv) (p:Nat):Int:=rndE (sumD x.hi (negD x.lo)) p true
def widL (x:List Iv) (p:Nat):Nat → Dy
 | 0=>zeroD
 | k+1=>if 0 < cmpD (widD (x.getD k wholeI) p) (widL x p k) then widD (x.getD k wholeI) p else widL x p k
def widOk (x:List Iv) (p:Nat):Bool:=(List.range x.length).all fun i=>decide (widE (x.getD i wholeI) p=0)
theorem hull_valid {x y:Iv} (hx:x.Valid) (hy:y.Valid):(hullI x y).Valid:=by
 unfold hullI
 cases xa:x.all
 ·cases ya:y.all
  ·obtain ⟨x1,x2⟩:x.lo.Valid ∧ x.hi.Valid:=hx.ends
   obtain ⟨y1,y2⟩:y.lo.Valid ∧ y.hi.Valid:=hy.ends
   refine .inr ⟨rfl,minD_valid x1 y1,maxD_valid x2 y2,?_⟩
   rw [q_le]
   have hq:=hx.q
   obtain ⟨a1,a2,_⟩:=q_min x.lo y.lo
   obtain ⟨b1,b2,_⟩:=q_max x.hi y.hi
   grind
  ·exact wholeI_valid
 ·exact wholeI_valid
theorem hullL_ok {x y:List Iv} {n:Nat} (hx:BoxOk n x) (hy:BoxOk n y):BoxOk n (hullL x y):=by
 refine ⟨by simp [hullL,hx.len],fun i hi=>?_⟩
 have hi':i < x.length:=by simpa [hullL] using hi
 have e:(hullL x y).getD i wholeI=hullI (x.getD i wholeI) (y.getD i wholeI):=by simp [hullL,List.getD_eq_getElem?_getD,hi']
 obtain ⟨v1,a1⟩:=hx.ok i hi'
 obtain ⟨v2,a2⟩:=hy.ok i (by rw [hy.len,← hx.len]; exact hi')
 rw [e]
 refine ⟨hull_valid v1 v2,?_⟩
 unfold hullI
 rw [a1,a2]
 rfl
theorem grow_valid {x:Iv} (hx:x.Valid) {d:Dy} (hd:d.Valid) (h0:0 ≤ d.q) (h:growOk x d=true):(growI x d).Valid:=by
 unfold growOk at h
 rw [Bool.and_eq_true,decide_eq_true_eq,decide_eq_true_eq] at h
 obtain ⟨h1,h2⟩:=h
 have r1:inRange (sumD x.lo (negD d)):=Classical.byContradiction fun q=>by rw [chkE_no q] at h1; cases h1
 have r2:inRange (sumD x.hi d):=Classical.byContradiction fun q=>by rw [chkE_no q] at h2; cases h2
 obtain ⟨c1,c2⟩:=hx.canons
 unfold growI
 refine .inr ⟨rfl,chk_valid (canon_sumD c1 (negD_valid hd).canon),chk_valid (canon_sumD c2 hd.canon),?_⟩
 show cmpD (chk _) (chk _) ≤ 0
 rw [chk_yes r1,chk_yes r2,q_le,q_sum,q_sum,q_neg]
 have:=hx.q
 grind
theorem growL_ok {x:List Iv} {n:Nat} (hx:BoxOk n x) {d:Dy} (hd:d.Valid) (h0:0 ≤ d.q) (h:growAll x d=true):BoxOk n (growL x d):=by
 unfold growL
 rw [if_pos h]
 refine ⟨by simp [hx.len],fun i hi=>?_⟩
 have hi':i < x.length:=by simpa using hi
 have e:((List.range x.length).map fun i=>growI (x.getD i wholeI) d).getD i wholeI=growI (x.getD i wholeI) d:=by simp [List.getD_eq_getElem?_getD,hi']
 rw [e]
 exact ⟨grow_valid (hx.ok i hi').1 hd h0 (List.all_eq_true.1 h i (List.mem_range.2 hi')),rfl⟩
open Go.RowKit Fp Pu
theorem dyCanonL_pc (s:Bool) (L:List Nat) (e:Int) (hk:Ok32 L) (hl:L.length ≤ 256) (he1:-1000000 ≤ e) (he2:e ≤ 1000000):PCt 76 [bP s,slP L,iP e] (dyP (canon s (val L) e)):=by
 refine ⟨Tryz.call76,fun w B vs hK hB hr=>?_⟩
 obtain ⟨v1,vs,rfl,h1,hr⟩:=hr.uncons
 obtain ⟨v2,vs,rfl,h2,hr⟩:=hr.uncons
 obtain ⟨v3,vs,rfl,h3,hr⟩:=hr.uncons
 obtain rfl:=hr.nil_inv
 obtain rfl:=Rep.v_inv h1
 obtain rfl:=Rep.v_inv h3
 obtain ⟨A,c,rfl,s1⟩:=slP_inv hk h2
 exact (dyCanon_any s A c L e w s1 (by omega) (by have:=tlen_le L; unfold tlen at this; omega) he1 he2 hK).mono fun e w' h=>rd B w e w' hB h
theorem two_le (x y:Nat):E.le (.sl false 2 1 fun i j=>[E.v (.int .u32 ((x:Nat):Int)),.v (.int .u32 ((y:Nat):Int))].getD (i * 1+j) (.v (.bool false))) (slP [x,y]):=.sl fun i j hi hj=>by
 obtain rfl:j=0:=by omega
 obtain rfl | rfl:i=0 ∨ i=1:=by omega
 ·exact ⟨.refl _,rfl⟩
 ·exact ⟨.refl _,rfl⟩
theorem intD_nat (n:Nat):intD ((n:Nat):Int)=canon false n 0:=by
 unfold intD canonZ
 rw [decide_eq_false (by omega),Int.natAbs_natCast]
theorem val_two (x y:Nat):val [x,y]=x+4294967296 * y:=by simp [val]
open Go.RowKit Fp Pu
def bPwDnA (d:Dy) (n p:Nat) (x:Nat):PS:=⟨41,true,[(14,.e (iP (((x+1):Nat):Int))),(13,.e (iP ((pwD d p false x).2))),(12,.box 12 0),(10,.box 10 0),(5,.box 5 0),(1,.e (iP n)),(2,.e (iP p)),(4,.e (.fn 91 []))],[(12,.cells 24 (dyL ((pwD d p false x).1))),(10,.cells 24 [(bP false),(.v (.slice none 0 0)),(iP 0)]),(5,.cells 24 (dyL d))]⟩
def bPwDnB (d:Dy) (n N p:Nat) (x:Nat):PS:=⟨41,true,[(14,.e (iP (((x+1):Nat):Int))),(13,.e (iP ((pwD d p false x).2))),(12,.box 12 0),(10,.box 10 0),(5,.box 5 0),(1,.e (iP n)),(2,.e (iP p)),(4,.e (.fn 91 []))],[(12,.cells 24 (dyL ((pwD d p false x).1))),(10,.cells 24 [(bP false),(.v (.slice none 0 0)),(iP 0)]),(5,.cells 24 (dyL d))]⟩
def bPwUpA (d:Dy) (n p:Nat) (x:Nat):PS:=⟨41,true,[(14,.e (iP (((x+1):Nat):Int))),(13,.e (iP ((pwD d p true x).2))),(12,.box 12 0),(10,.box 10 0),(5,.box 5 0),(1,.e (iP n)),(2,.e (iP p)),(4,.e (.fn 92 []))],[(12,.cells 24 (dyL ((pwD d p true x).1))),(10,.cells 24 [(bP false),(.v (.slice none 0 0)),(iP 0)]),(5,.cells 24 (dyL d))]⟩
def bPwUpB (d:Dy) (n N p:Nat) (x:Nat):PS:=⟨41,true,[(14,.e (iP (((x+1):Nat):Int))),(13,.e (iP ((pwD d p true x).2))),(12,.box 12 0),(10,.box 10 0),(5,.box 5 0),(1,.e (iP n)),(2,.e (iP p)),(4,.e (.fn 92 []))],[(12,.cells 24 (dyL ((pwD d p true x).1))),(10,.cells 24 [(bP false),(.v (.slice none 0 0)),(iP 0)]),(5,.cells 24 (dyL d))]⟩
theorem bSum_pc (a b:Dy) (ha:a.Valid) (hb:b.Valid):PCt 104 [dyP a,dyP b] (.tup [dyP (chk (sumD a b)),iP (chkE (sumD a b))]):=pc2 Tryz.call104 (fun A c A' c' w h k hT=>dySum_dy a b A A' c c' w h k hT ha hb) rde
theorem bSub_pc (a b:Dy) (ha:a.Valid) (hb:b.Valid):PCt 78 [dyP a,dyP b] (.tup [dyP (chk (sumD a (negD b))),iP (chkE (sumD a (negD b)))]):=pc2 Tryz.call78 (fun A c A' c' w h k hT=>dySub_dy a b A A' c c' w h k hT ha hb) rde
set_option maxHeartbeats 1000000 in
theorem bAdd_pc (a b:Dy) (ha:a.Valid) (hb:b.Valid):PCt 79 [(dyP a),(dyP b)] (.tup [(dyP (chk (sumD a b))),(iP (chkE (sumD a b)))]):=by
 exact tr true Tryz.call79 Tryz.func79 (chain [.c (dyValid_pc _ ‹_›:PCt 30 [(dyP a)] _),.c (dyValid_pc _ ‹_›:PCt 30 [(dyP b)] _),.c (bSum_pc _ _ ‹_› ‹_›:PCt 104 [(dyP a),(dyP b)] _)] <| .nil) (by kernel_rfl)
theorem bCanon_pc (s:Bool) (m:Nat) (e:Int) (hl:(limbs m).length ≤ 256) (he1:-1000000 ≤ e) (he2:e ≤ 1000000):PCt 76 [bP s,slP (limbs m),iP e] (dyP (canon s m e)):=by
 refine ⟨Tryz.call76,fun w B vs hK hB hr=>?_⟩
 obtain ⟨v1,vs,rfl,h1,hr⟩:=hr.uncons
 obtain ⟨v2,vs,rfl,h2,hr⟩:=hr.uncons
 obtain ⟨v3,vs,rfl,h3,hr⟩:=hr.uncons
 obtain rfl:=hr.nil_inv
 obtain rfl:=Rep.v_inv h1
 obtain rfl:=Rep.v_inv h3
 obtain ⟨A,c,rfl,s1⟩:=slP_inv (ok_limbs m) h2
 exact (canonical_dy s m e A c w s1 hl he1 he2 hK).mono fun e w' h=>rd B w e w' hB h
theorem bChecked_pc (d:Dy) (hl:(limbs d.m).length ≤ 100000000) (he1:-10000000 ≤ d.e) (he2:d.e ≤ 10000000):PCt 75 [dyP d] (.tup [dyP (chk d),iP (chkE d)]) :=
 pc1 Tryz.call75 (fun A c w h _=>checked_any d A c w h (by omega) (by omega) (by omega)) rde
set_option maxHeartbeats 1000000 in
theorem bExponent_pc (k:Int) (h1:-32768 ≤ k) (h2:k ≤ 32768):PCt 74 [(iP k)] (bP true):=by
 exact tr true Tryz.call74 Tryz.func74 (chain [tT 4 ((-32768) ≤ k) (by omega),tT 7 (k ≤ 32768) (by omega)] <| .nil) (by kernel_rfl)
set_option maxHeartbeats 1000000 in
theorem bScale_pc (d:Dy) (k:Int) (hv:d.Valid) (h1:-32768 ≤ k) (h2:k ≤ 32768):PCt 52 [(dyP d),(iP k)] (.tup [(dyP (chk (canon d.neg d.m (d.e+k)))),(iP (chkE (canon d.neg d.m (d.e+k))))]):=by
 have hl:=hv.limbs
 have he:=hv.exp
 have hb1:=canon_len (ok_limbs d.m) hl d.neg (d.e+k)
 obtain ⟨hb2,hb3⟩:=canon_exp (ok_limbs d.m) hl d.neg (d.e+k) (by omega) (by omega)
 rw [val_limbs] at hb1 hb2 hb3
 exact tr true Tryz.call52 Tryz.func52 (chain [.c (dyValid_pc _ ‹_›:PCt 30 [(dyP d)] _),.c (bExponent_pc k (by omega) (by omega)),r64 (d.e+k) (by omega),.c (bCanon_pc _ _ _ (by omega) (by omega) (by omega):PCt 76 [(bP d.neg),(slP (limbs d.m)),(iP (d.e+k))] _),
  .c (bChecked_pc _ (by omega) (by omega) (by omega):PCt 75 [(dyP (canon d.neg d.m (d.e+k)))] _)] <| .nil) (by kernel_rfl)
set_option maxHeartbeats 1000000 in
theorem bInt_pc (n:Nat) (h:n < 4294967296):PCt 53 [(iP n)] (dyP (intD (n:Int))):=by
 have ok2:Ok32 [n % 4294967296,n / 4294967296 % 4294967296]:=Ok32.cons (Nat.mod_lt _ (by decide)) (Ok32.cons (Nat.mod_lt _ (by decide)) Ok32.nil)
 exact tr true Tryz.call53 Tryz.func53 (chain [.o 5 (.int (u64_nat _ (by omega)):PV.le (.e (.v (.int .u64 (IntKind.u64.wrap (n:Int))))) (.e (.v (.int .u64 (n:Int))))),tF 7 ((n:Int) < 0) (by omega),tF 11 ((n:Int) < 0) (by omega),
  .o 13 (.int (u32_nat _):PV.le (.e (.v (.int .u32 (IntKind.u32.wrap (n:Int))))) (.e (.v (.int .u32 (((n % 4294967296):Nat):Int))))),.a (by omega:0 ≤ (32:Int) ∧ (32:Int) ≤ ((64:Nat):Int)),
  .o 15 (.int (shr32_nat _):PV.le (.e (.v (.int .u64 ((n:Int) / 2 ^ 32)))) (.e (.v (.int .u64 (((n / 4294967296):Nat):Int))))),
  .o 16 (.int (u32_nat _):PV.le (.e (.v (.int .u32 (IntKind.u32.wrap (((n / 4294967296):Nat):Int))))) (.e (.v (.int .u32 ((((n / 4294967296) % 4294967296):Nat):Int))))),
  .o 17 (.e (two_le _ _):PV.le (.e (.sl false 2 1 fun i_ j_=>[(.v (.int .u32 (((n % 4294967296):Nat):Int))),(.v (.int .u32 ((((n / 4294967296) % 4294967296):Nat):Int)))].getD (i_ * 1+j_) (.v (.bool false)))) (.e (slP [(n % 4294967296),((n / 4294967296) % 4294967296)]))),
  .c (dyCanonL_pc _ _ _ ok2 (by simp) (by decide) (by decide):PCt 76 [(bP false),(slP [(n % 4294967296),((n / 4294967296) % 4294967296)]),(iP 0)] _)] <| rQ (dyP (canon false (val [(n % 4294967296),((n / 4294967296) % 4294967296)]) 0)) (dyP (intD (n:Int))) (by rw [val_two,show n % 4294967296+4294967296 * (n / 4294967296 % 4294967296)=n by omega,intD_nat])) (by kernel_rfl)
theorem int_one:intD 1=⟨false,1,0⟩:=by rw [show (1:Int)=((1:Nat):Int) from rfl,intD_nat]; exact one_canon
theorem bInt1_pc:PCt 53 [iP 1] (dyP ⟨false,1,0⟩):=by
 have:=bInt_pc 1 (by decide)
 rwa [show ((1:Nat):Int)=1 from rfl,int_one] at this
set_option maxHeartbeats 1000000 in
theorem bRdDown_pc (d:Dy) (p:Nat) (hd:d.Valid) (hp1:8 ≤ p) (hp2:p ≤ 512):PCt 209 [(dyP d),(iP p)] (.tup [(dyP (rndD d p false)),(iP (rndE d p false))]):=by
 exact tr true Tryz.call209 Tryz.func209 (chain [.c (rdRound_pc d p false ‹_› (by omega) (by omega))] <| .nil) (by kernel_rfl)
set_option maxHeartbeats 1000000 in
theorem bRdUp_pc (d:Dy) (p:Nat) (hd:d.Valid) (hp1:8 ≤ p) (hp2:p ≤ 512):PCt 208 [(dyP d),(iP p)] (.tup [(dyP (rndD d p true)),(iP (rndE d p true))]):=by
 exact tr true Tryz.call208 Tryz.func208 (chain [.c (rdRound_pc d p true ‹_› (by omega) (by omega))] <| .nil) (by kernel_rfl)
theorem pw_stay (d:Dy) (p:Nat) (up:Bool) (N:Nat) (h:(pwD d p up N).2 ≠ 0):∀ k,pwD d p up (N+k)=pwD d p up N
 | 0=>rfl
 | k+1=>by
  have ih:=pw_stay d p up N h k
  show (if (pwD d p up (N+k)).2 ≠ 0 then pwD d p up (N+k) else _)=_
  rw [ih,if_pos h]
theorem pw_next {d:Dy} {p:Nat} {up:Bool} {k:Nat} (h:(pwD d p up k).2=0):pwD d p up (k+1)=(rndD (mulD (pwD d p up k).1 d) p up,rndE (mulD (pwD d p up k).1 d) p up):=by
 show (if (pwD d p up k).2 ≠ 0 then _ else _)=_
 rw [if_neg (not_not_intro h)]
 rfl
set_option maxHeartbeats 1000000 in
theorem bPowDnA (d:Dy) (n p:Nat) (hd:d.Valid) (hn:1 ≤ n) (hn2:n ≤ 16) (hp1:8 ≤ p) (hp2:p ≤ 512) (hlo:∀ x,x < n - 1 → (pwD d p false x).2=0):PCt 207 [(dyP d),(iP n),(iP p),(.fn 209 []),(.fn 91 [])] (.tup [dyP (pwD d p false (n - 1)).1,iP (pwD d p false (n - 1)).2]):=by
 exact tr true Tryz.call207 Tryz.func207 (chain [.c (bRdDown_pc d p ‹_› (by omega) (by omega)),
  .s (Sp.upto (bPwDnA d n p) 0 (n - 1) (by omega) (fun x hx hltx=>by
    have hx0:=hlo x (by omega)
    have hv:=pwD_valid d (show 1 ≤ p by omega) (show p ≤ 4096 by omega) false x
    exact spt (chain [tT 24 ((((x+1):Nat):Int) < (n:Int)) (by omega),tB 27 (by rw [hx0]; rfl:(((pwD d p false x).2) == 0)=true),.c (rdMulDown_pc ((pwD d p false x).1) d p ‹_› ‹_› (by omega) (by omega)),
     r64 ((((x+1):Nat):Int)+1) (by omega)] <| .e (chain [.o 13 (.int (by rw [pw_next hx0]):PV.le (.e (iP (rndE (mulD ((pwD d p false x).1) d) p false))) (.e (iP ((pwD d p false (x+1)).2)))),
  .b 12 (.of_eq (by rw [pw_next hx0]):Bx.le (.cells 24 (dyL (rndD (mulD ((pwD d p false x).1) d) p false))) (.cells 24 (dyL ((pwD d p false (x+1)).1))))] <| .nil)) (by kernel_rfl))
  (fun hx=>by
    exact spt (chain [tF 24 (((((n - 1)+1):Nat):Int) < (n:Int)) (by omega)] <| .nil) (by kernel_rfl)) (by nofun):LpT 3 Tryz.f207 (bPwDnA d n p 0) (.exit 0) ⟨41,true,[(13,.e (iP ((pwD d p false (n - 1)).2))),(12,.box 12 0),(10,.box 10 0)],[(12,.cells 24 (dyL ((pwD d p false (n - 1)).1))),(10,.cells 24 [(bP false),(.v (.slice none 0 0)),(iP 0)])]⟩) (chain [.o 14 (.int rfl:PV.le (.e (iP 1)) (.e (iP (((0+1):Nat):Int)))),.o 13 (.int rfl:PV.le (.e (iP (rndE d p false))) (.e (iP ((pwD d p false 0).2)))),
  .b 12 (.of_eq rfl:Bx.le (.cells 24 (dyL (rndD d p false))) (.cells 24 (dyL ((pwD d p false 0).1))))] <| .nil)] <| .nil) (by kernel_rfl)
set_option maxHeartbeats 1000000 in
theorem bPowDnB (d:Dy) (n N p:Nat) (hd:d.Valid) (hn:1 ≤ n) (hn2:n ≤ 16) (hp1:8 ≤ p) (hp2:p ≤ 512) (hN0:N < n - 1) (hlo:∀ x,x < N → (pwD d p false x).2=0) (hN:(pwD d p false N).2 ≠ 0):PCt 207 [(dyP d),(iP n),(iP p),(.fn 209 []),(.fn 91 [])] (.tup [dyP (pwD d p false N).1,iP (pwD d p false N).2]):=by
 exact tr true Tryz.call207 Tryz.func207 (chain [.c (bRdDown_pc d p ‹_› (by omega) (by omega)),
  .s (Sp.upto (bPwDnB d n N p) 0 N (by omega) (fun x hx hltx=>by
    have hx0:=hlo x (by omega)
    have hv:=pwD_valid d (show 1 ≤ p by omega) (show p ≤ 4096 by omega) false x
    exact spt (chain [tT 24 ((((x+1):Nat):Int) < (n:Int)) (by omega),tB 27 (by rw [hx0]; rfl:(((pwD d p false x).2) == 0)=true),.c (rdMulDown_pc ((pwD d p false x).1) d p ‹_› ‹_› (by omega) (by omega)),
     r64 ((((x+1):Nat):Int)+1) (by omega)] <| .e (chain [.o 13 (.int (by rw [pw_next hx0]):PV.le (.e (iP (rndE (mulD ((pwD d p false x).1) d) p false))) (.e (iP ((pwD d p false (x+1)).2)))),
  .b 12 (.of_eq (by rw [pw_next hx0]):Bx.le (.cells 24 (dyL (rndD (mulD ((pwD d p false x).1) d) p false))) (.cells 24 (dyL ((pwD d p false (x+1)).1))))] <| .nil)) (by kernel_rfl))
  (fun hx=>by
    exact spt (chain [tT 24 ((((N+1):Nat):Int) < (n:Int)) (by omega),tB 27 (by simpa using hN:(((pwD d p false N).2) == 0)=false)] <| .nil) (by kernel_rfl)) (by nofun):LpT 3 Tryz.f207 (bPwDnB d n N p 0) (.exit 0) ⟨41,true,[(13,.e (iP ((pwD d p false N).2))),(12,.box 12 0),(10,.box 10 0)],[(12,.cells 24 (dyL ((pwD d p false N).1))),(10,.cells 24 [(bP false),(.v (.slice none 0 0)),(iP 0)])]⟩) (chain [.o 14 (.int rfl:PV.le (.e (iP 1)) (.e (iP (((0+1):Nat):Int)))),.o 13 (.int rfl:PV.le (.e (iP (rndE d p false))) (.e (iP ((pwD d p false 0).2)))),
  .b 12 (.of_eq rfl:Bx.le (.cells 24 (dyL (rndD d p false))) (.cells 24 (dyL ((pwD d p false 0).1))))] <| .nil)] <| .nil) (by kernel_rfl)
theorem bPowDn_pc (d:Dy) (n p:Nat) (hd:d.Valid) (hn:1 ≤ n) (hn2:n ≤ 16) (hp1:8 ≤ p) (hp2:p ≤ 512):PCt 207 [(dyP d),(iP n),(iP p),(.fn 209 []),(.fn 91 [])] (.tup [dyP (pwD d p false (n - 1)).1,iP (pwD d p false (n - 1)).2]):=by
 by_cases h:∃ x,x < n - 1 ∧ decide ((pwD d p false x).2 ≠ 0)=true
 ·obtain ⟨N,h1,h2,h3⟩:=least_true h
  have hN:(pwD d p false N).2 ≠ 0:=of_decide_eq_true h2
  have:=bPowDnB d n N p hd hn hn2 hp1 hp2 h1 (fun x hx=>by simpa using h3 x hx) hN
  have e:=pw_stay d p false N hN (n - 1 - N)
  rw [show N+(n - 1 - N)=n - 1 by omega] at e
  rw [e]
  exact this
 ·exact bPowDnA d n p hd hn hn2 hp1 hp2 fun x hx=>Classical.byContradiction fun q=>h ⟨x,hx,decide_eq_true q⟩
set_option maxHeartbeats 1000000 in
theorem bPowUpA (d:Dy) (n p:Nat) (hd:d.Valid) (hn:1 ≤ n) (hn2:n ≤ 16) (hp1:8 ≤ p) (hp2:p ≤ 512) (hlo:∀ x,x < n - 1 → (pwD d p true x).2=0):PCt 207 [(dyP d),(iP n),(iP p),(.fn 208 []),(.fn 92 [])] (.tup [dyP (pwD d p true (n - 1)).1,iP (pwD d p true (n - 1)).2]):=by
 exact tr true Tryz.call207 Tryz.func207 (chain [.c (bRdUp_pc d p ‹_› (by omega) (by omega)),
  .s (Sp.upto (bPwUpA d n p) 0 (n - 1) (by omega) (fun x hx hltx=>by
    have hx0:=hlo x (by omega)
    have hv:=pwD_valid d (show 1 ≤ p by omega) (show p ≤ 4096 by omega) true x
    exact spt (chain [tT 24 ((((x+1):Nat):Int) < (n:Int)) (by omega),tB 27 (by rw [hx0]; rfl:(((pwD d p true x).2) == 0)=true),.c (rdMulUp_pc ((pwD d p true x).1) d p ‹_› ‹_› (by omega) (by omega)),
     r64 ((((x+1):Nat):Int)+1) (by omega)] <| .e (chain [.o 13 (.int (by rw [pw_next hx0]):PV.le (.e (iP (rndE (mulD ((pwD d p true x).1) d) p true))) (.e (iP ((pwD d p true (x+1)).2)))),
  .b 12 (.of_eq (by rw [pw_next hx0]):Bx.le (.cells 24 (dyL (rndD (mulD ((pwD d p true x).1) d) p true))) (.cells 24 (dyL ((pwD d p true (x+1)).1))))] <| .nil)) (by kernel_rfl))
  (fun hx=>by
    exact spt (chain [tF 24 (((((n - 1)+1):Nat):Int) < (n:Int)) (by omega)] <| .nil) (by kernel_rfl)) (by nofun):LpT 3 Tryz.f207 (bPwUpA d n p 0) (.exit 0) ⟨41,true,[(13,.e (iP ((pwD d p true (n - 1)).2))),(12,.box 12 0),(10,.box 10 0)],[(12,.cells 24 (dyL ((pwD d p true (n - 1)).1))),(10,.cells 24 [(bP false),(.v (.slice none 0 0)),(iP 0)])]⟩) (chain [.o 14 (.int rfl:PV.le (.e (iP 1)) (.e (iP (((0+1):Nat):Int)))),.o 13 (.int rfl:PV.le (.e (iP (rndE d p true))) (.e (iP ((pwD d p true 0).2)))),
  .b 12 (.of_eq rfl:Bx.le (.cells 24 (dyL (rndD d p true))) (.cells 24 (dyL ((pwD d p true 0).1))))] <| .nil)] <| .nil) (by kernel_rfl)
set_option maxHeartbeats 1000000 in
theorem bPowUpB (d:Dy) (n N p:Nat) (hd:d.Valid) (hn:1 ≤ n) (hn2:n ≤ 16) (hp1:8 ≤ p) (hp2:p ≤ 512) (hN0:N < n - 1) (hlo:∀ x,x < N → (pwD d p true x).2=0) (hN:(pwD d p true N).2 ≠ 0):PCt 207 [(dyP d),(iP n),(iP p),(.fn 208 []),(.fn 92 [])] (.tup [dyP (pwD d p true N).1,iP (pwD d p true N).2]):=by
 exact tr true Tryz.call207 Tryz.func207 (chain [.c (bRdUp_pc d p ‹_› (by omega) (by omega)),
  .s (Sp.upto (bPwUpB d n N p) 0 N (by omega) (fun x hx hltx=>by
    have hx0:=hlo x (by omega)
    have hv:=pwD_valid d (show 1 ≤ p by omega) (show p ≤ 4096 by omega) true x
    exact spt (chain [tT 24 ((((x+1):Nat):Int) < (n:Int)) (by omega),tB 27 (by rw [hx0]; rfl:(((pwD d p true x).2) == 0)=true),.c (rdMulUp_pc ((pwD d p true x).1) d p ‹_› ‹_› (by omega) (by omega)),
     r64 ((((x+1):Nat):Int)+1) (by omega)] <| .e (chain [.o 13 (.int (by rw [pw_next hx0]):PV.le (.e (iP (rndE (mulD ((pwD d p true x).1) d) p true))) (.e (iP ((pwD d p true (x+1)).2)))),
  .b 12 (.of_eq (by rw [pw_next hx0]):Bx.le (.cells 24 (dyL (rndD (mulD ((pwD d p true x).1) d) p true))) (.cells 24 (dyL ((pwD d p true (x+1)).1))))] <| .nil)) (by kernel_rfl))
  (fun hx=>by
    exact spt (chain [tT 24 ((((N+1):Nat):Int) < (n:Int)) (by omega),tB 27 (by simpa using hN:(((pwD d p true N).2) == 0)=false)] <| .nil) (by kernel_rfl)) (by nofun):LpT 3 Tryz.f207 (bPwUpB d n N p 0) (.exit 0) ⟨41,true,[(13,.e (iP ((pwD d p true N).2))),(12,.box 12 0),(10,.box 10 0)],[(12,.cells 24 (dyL ((pwD d p true N).1))),(10,.cells 24 [(bP false),(.v (.slice none 0 0)),(iP 0)])]⟩) (chain [.o 14 (.int rfl:PV.le (.e (iP 1)) (.e (iP (((0+1):Nat):Int)))),.o 13 (.int rfl:PV.le (.e (iP (rndE d p true))) (.e (iP ((pwD d p true 0).2)))),
  .b 12 (.of_eq rfl:Bx.le (.cells 24 (dyL (rndD d p true))) (.cells 24 (dyL ((pwD d p true 0).1))))] <| .nil)] <| .nil) (by kernel_rfl)
theorem bPowUp_pc (d:Dy) (n p:Nat) (hd:d.Valid) (hn:1 ≤ n) (hn2:n ≤ 16) (hp1:8 ≤ p) (hp2:p ≤ 512):PCt 207 [(dyP d),(iP n),(iP p),(.fn 208 []),(.fn 92 [])] (.tup [dyP (pwD d p true (n - 1)).1,iP (pwD d p true (n - 1)).2]):=by
 by_cases h:∃ x,x < n - 1 ∧ decide ((pwD d p true x).2 ≠ 0)=true
 ·obtain ⟨N,h1,h2,h3⟩:=least_true h
  have hN:(pwD d p true N).2 ≠ 0:=of_decide_eq_true h2
  have:=bPowUpB d n N p hd hn hn2 hp1 hp2 h1 (fun x hx=>by simpa using h3 x hx) hN
  have e:=pw_stay d p true N hN (n - 1 - N)
  rw [show N+(n - 1 - N)=n - 1 by omega] at e
  rw [e]
  exact this
 ·exact bPowUpA d n p hd hn hn2 hp1 hp2 fun x hx=>Classical.byContradiction fun q=>h ⟨x,hx,decide_eq_true q⟩
set_option maxHeartbeats 1000000 in
theorem bEndP_false (d:Dy) (n p:Nat) (hd:d.Valid) (h0:¬ d.sign < 0) (hn:1 ≤ n) (hn2:n ≤ 16) (hp1:8 ≤ p) (hp2:p ≤ 512):PCt 194 [(dyP d),(iP n),(iP p),(bP false)] (.tup [dyP (endP d n p false).1,iP (endP d n p false).2]):=by
 exact tr true Tryz.call194 Tryz.func194 (chain [.c (dySign_pc _ ‹_›:PCt 51 [(dyP d)] _),tB 14 (decide_eq_false h0),.c (bPowDn_pc d n p ‹_› (by omega) (by omega) (by omega) (by omega))] <| rQ (.tup [(dyP ((pwD d p false (n - 1)).1)),(iP ((pwD d p false (n - 1)).2))]) (.tup [dyP (endP d n p false).1,iP (endP d n p false).2]) (by unfold endP; rw [if_neg h0])) (by kernel_rfl)
set_option maxHeartbeats 1000000 in
theorem bEndP_true (d:Dy) (n p:Nat) (hd:d.Valid) (h0:¬ d.sign < 0) (hn:1 ≤ n) (hn2:n ≤ 16) (hp1:8 ≤ p) (hp2:p ≤ 512):PCt 194 [(dyP d),(iP n),(iP p),(bP true)] (.tup [dyP (endP d n p true).1,iP (endP d n p true).2]):=by
 exact tr true Tryz.call194 Tryz.func194 (chain [.c (dySign_pc _ ‹_›:PCt 51 [(dyP d)] _),tB 14 (decide_eq_false h0),.c (bPowUp_pc d n p ‹_› (by omega) (by omega) (by omega) (by omega))] <| rQ (.tup [(dyP ((pwD d p true (n - 1)).1)),(iP ((pwD d p true (n - 1)).2))]) (.tup [dyP (endP d n p true).1,iP (endP d n p true).2]) (by unfold endP; rw [if_neg h0])) (by kernel_rfl)
theorem sign_neg {d:Dy} (h:d.sign < 0):¬ (negD d).sign < 0:=by
 rw [(q_sign _).2,q_neg]
 have:=(q_sign d).2.1 h
 grind
theorem bEndN_false (d:Dy) (n p:Nat) (hd:d.Valid) (h0:¬ d.sign < 0) (hn:1 ≤ n) (hn2:n ≤ 16) (hp1:8 ≤ p) (hp2:p ≤ 512):PCt 194 [dyP d,iP (n:Int),iP (p:Int),bP false] (.tup [dyP (pwD d p false (n - 1)).1,iP (pwD d p false (n - 1)).2]):=by
 have:=bEndP_false d n p hd h0 hn hn2 hp1 hp2
 unfold endP at this
 rwa [if_neg h0] at this
theorem bEndN_true (d:Dy) (n p:Nat) (hd:d.Valid) (h0:¬ d.sign < 0) (hn:1 ≤ n) (hn2:n ≤ 16) (hp1:8 ≤ p) (hp2:p ≤ 512):PCt 194 [dyP d,iP (n:Int),iP (p:Int),bP true] (.tup [dyP (pwD d p true (n - 1)).1,iP (pwD d p true (n - 1)).2]):=by
 have:=bEndP_true d n p hd h0 hn hn2 hp1 hp2
 unfold endP at this
 rwa [if_neg h0] at this
set_option maxHeartbeats 1000000 in
theorem bEndM_false (d:Dy) (n p:Nat) (hd:d.Valid) (h0:d.sign < 0) (hn:1 ≤ n) (hn2:n ≤ 16) (hp1:8 ≤ p) (hp2:p ≤ 512):PCt 194 [(dyP d),(iP n),(iP p),(bP false)] (.tup [dyP (endP d n p false).1,iP (endP d n p false).2]):=by
 have hneg:=negD_valid hd
 have h1:=sign_neg h0
 have hv:=pwD_valid (negD d) (show 1 ≤ p by omega) (show p ≤ 4096 by omega) true (n - 1)
 exact tr true Tryz.call194 Tryz.func194 (chain [.c (dySign_pc _ ‹_›:PCt 51 [(dyP d)] _),tB 14 (decide_eq_true h0),.c (dyNeg_pc _ ‹_›:PCt 105 [(dyP d)] _),
  .c (bEndN_true _ _ _ hneg h1 hn hn2 hp1 hp2:PCt 194 [(dyP (negD d)),(iP n),(iP p),(bP true)] _),.c (dyNeg_pc _ ‹_›:PCt 105 [(dyP ((pwD (negD d) p true (n - 1)).1))] _)] <| rQ (.tup [(dyP (negD ((pwD (negD d) p true (n - 1)).1))),(iP ((pwD (negD d) p true (n - 1)).2))]) (.tup [dyP (endP d n p false).1,iP (endP d n p false).2]) (by unfold endP; rw [if_pos h0]; rfl)) (by kernel_rfl)
theorem bEnd_false (d:Dy) (n p:Nat) (hd:d.Valid) (hn:1 ≤ n) (hn2:n ≤ 16) (hp1:8 ≤ p) (hp2:p ≤ 512):PCt 194 [dyP d,iP (n:Int),iP (p:Int),bP false] (.tup [dyP (endP d n p false).1,iP (endP d n p false).2]):=by
 by_cases h0:d.sign < 0
 ·exact bEndM_false d n p hd h0 hn hn2 hp1 hp2
 ·exact bEndP_false d n p hd h0 hn hn2 hp1 hp2
set_option maxHeartbeats 1000000 in
theorem bEndM_true (d:Dy) (n p:Nat) (hd:d.Valid) (h0:d.sign < 0) (hn:1 ≤ n) (hn2:n ≤ 16) (hp1:8 ≤ p) (hp2:p ≤ 512):PCt 194 [(dyP d),(iP n),(iP p),(bP true)] (.tup [dyP (endP d n p true).1,iP (endP d n p true).2]):=by
 have hneg:=negD_valid hd
 have h1:=sign_neg h0
 have hv:=pwD_valid (negD d) (show 1 ≤ p by omega) (show p ≤ 4096 by omega) false (n - 1)
 exact tr true Tryz.call194 Tryz.func194 (chain [.c (dySign_pc _ ‹_›:PCt 51 [(dyP d)] _),tB 14 (decide_eq_true h0),.c (dyNeg_pc _ ‹_›:PCt 105 [(dyP d)] _),
  .c (bEndN_false _ _ _ hneg h1 hn hn2 hp1 hp2:PCt 194 [(dyP (negD d)),(iP n),(iP p),(bP false)] _),.c (dyNeg_pc _ ‹_›:PCt 105 [(dyP ((pwD (negD d) p false (n - 1)).1))] _)] <| rQ (.tup [(dyP (negD ((pwD (negD d) p false (n - 1)).1))),(iP ((pwD (negD d) p false (n - 1)).2))]) (.tup [dyP (endP d n p true).1,iP (endP d n p true).2]) (by unfold endP; rw [if_pos h0]; rfl)) (by kernel_rfl)
theorem bEnd_true (d:Dy) (n p:Nat) (hd:d.Valid) (hn:1 ≤ n) (hn2:n ≤ 16) (hp1:8 ≤ p) (hp2:p ≤ 512):PCt 194 [dyP d,iP (n:Int),iP (p:Int),bP true] (.tup [dyP (endP d n p true).1,iP (endP d n p true).2]):=by
 by_cases h0:d.sign < 0
 ·exact bEndM_true d n p hd h0 hn hn2 hp1 hp2
 ·exact bEndP_true d n p hd h0 hn hn2 hp1 hp2
set_option maxHeartbeats 1000000 in
theorem bPower_all (x:Iv) (n p:Nat) (hx:x.Valid) (ha:x.all=true) (hn:n ≤ 16) (hp1:8 ≤ p) (hp2:p ≤ 512):PCt 171 [(ivP x),(iP n),(iP p)] (ivP (pwrI x n p)):=by
 exact tr true Tryz.call171 Tryz.func171 (chain [.o 12 (.e (ivs1_le _):PV.le (.e (.sl true 1 7 fun i_ j_=>(ivL x).getD (i_ * 7+j_) (.v (.bool false)))) (.e (ivsP [x]))),.c (ivKnown1_pc _ ‹_›:PCt 85 [(ivsP [x])] _),tB 13 (by rw [ha]; rfl:(!x.all)=false),
  .c ivWhole_pc] <| rQ (ivP wholeI) (ivP (pwrI x n p)) (by unfold pwrI; rw [if_pos ha])) (by kernel_rfl)
set_option maxHeartbeats 1000000 in
theorem bPower_zero (x:Iv) (n p:Nat) (hx:x.Valid) (ha:x.all=false) (h0:n=0) (hp1:8 ≤ p) (hp2:p ≤ 512):PCt 171 [(ivP x),(iP n),(iP p)] (ivP (pwrI x n p)):=by
 have v1:=one_valid
 exact tr true Tryz.call171 Tryz.func171 (chain [.o 12 (.e (ivs1_le _):PV.le (.e (.sl true 1 7 fun i_ j_=>(ivL x).getD (i_ * 7+j_) (.v (.bool false)))) (.e (ivsP [x]))),.c (ivKnown1_pc _ ‹_›:PCt 85 [(ivsP [x])] _),tB 13 (by rw [ha]; rfl:(!x.all)=true),
  .c (ivPermitted_pc _:PCt 86 [(iP p)] _),tB 17 (precB_true.2 ⟨by omega,by omega⟩:(precB (p:Int))=true),tF 22 ((n:Int) < 0) (by omega),tF 26 (16 < (n:Int)) (by omega),
  tB 30 (natZ_true h0:((n:Int) == 0)=true),.c (bInt1_pc:PCt 53 [(iP 1)] _),.c (ivPoint_pc (Dy.mk false 1 0) ‹_›)] <| rQ (ivP (pointI (Dy.mk false 1 0))) (ivP (pwrI x n p)) (by unfold pwrI; rw [if_neg (by rw [ha]; decide),if_pos h0])) (by kernel_rfl)
set_option maxHeartbeats 1000000 in
theorem bPower_even (x:Iv) (n p:Nat) (hx:x.Valid) (ha:x.all=false) (h0:n ≠ 0) (hn:n ≤ 16) (he:n % 2=0) (hp1:8 ≤ p) (hp2:p ≤ 512):PCt 171 [(ivP x),(iP n),(iP p)] (ivP (pwrI x n p)):=by
 have va:=absI_valid hx
 obtain ⟨w1,w2⟩:=va.ends
 exact tr true Tryz.call171 Tryz.func171 (chain [.o 12 (.e (ivs1_le _):PV.le (.e (.sl true 1 7 fun i_ j_=>(ivL x).getD (i_ * 7+j_) (.v (.bool false)))) (.e (ivsP [x]))),.c (ivKnown1_pc _ ‹_›:PCt 85 [(ivsP [x])] _),tB 13 (by rw [ha]; rfl:(!x.all)=true),
  .c (ivPermitted_pc _:PCt 86 [(iP p)] _),tB 17 (precB_true.2 ⟨by omega,by omega⟩:(precB (p:Int))=true),tF 22 ((n:Int) < 0) (by omega),tF 26 (16 < (n:Int)) (by omega),
  tB 30 (natZ_false h0:((n:Int) == 0)=false),.a (by omega:0 < (2:Int)),
  .o 34 (.int (by rw [Int.tmod_eq_emod_of_nonneg (by omega)]; omega):PV.le (.e (iP (Int.tmod (n:Int) 2))) (.e (iP (((n % 2):Nat):Int)))),tB 35 (natZ_true he:((((n % 2):Nat):Int) == 0)=true),
  .c (ivAbs_pc x ‹_›),.c (bEnd_false _ _ _ ‹_› (by omega) (by omega) (by omega) (by omega):PCt 194 [(dyP ((absI x).lo)),(iP n),(iP p),(bP false)] _),
  .c (bEnd_true _ _ _ ‹_› (by omega) (by omega) (by omega) (by omega):PCt 194 [(dyP ((absI x).hi)),(iP n),(iP p),(bP true)] _),
  .c (ivMade_pc ((endP ((absI x).lo) n p false).1) ((endP ((absI x).hi) n p true).1) ((endP ((absI x).lo) n p false).2) ((endP ((absI x).hi) n p true).2))] <| rQ (ivP (madeI ((endP ((absI x).lo) n p false).1) ((endP ((absI x).lo) n p false).2) ((endP ((absI x).hi) n p true).1) ((endP ((absI x).hi) n p true).2))) (ivP (pwrI x n p)) (by unfold pwrI powY; rw [if_neg (by rw [ha]; decide),if_neg h0,if_pos he])) (by kernel_rfl)
set_option maxHeartbeats 1000000 in
theorem bPower_odd (x:Iv) (n p:Nat) (hx:x.Valid) (ha:x.all=false) (h0:n ≠ 0) (hn:n ≤ 16) (he:¬ n % 2=0) (hp1:8 ≤ p) (hp2:p ≤ 512):PCt 171 [(ivP x),(iP n),(iP p)] (ivP (pwrI x n p)):=by
 have va:=hx
 obtain ⟨w1,w2⟩:=va.ends
 exact tr true Tryz.call171 Tryz.func171 (chain [.o 12 (.e (ivs1_le _):PV.le (.e (.sl true 1 7 fun i_ j_=>(ivL x).getD (i_ * 7+j_) (.v (.bool false)))) (.e (ivsP [x]))),.c (ivKnown1_pc _ ‹_›:PCt 85 [(ivsP [x])] _),tB 13 (by rw [ha]; rfl:(!x.all)=true),
  .c (ivPermitted_pc _:PCt 86 [(iP p)] _),tB 17 (precB_true.2 ⟨by omega,by omega⟩:(precB (p:Int))=true),tF 22 ((n:Int) < 0) (by omega),tF 26 (16 < (n:Int)) (by omega),
  tB 30 (natZ_false h0:((n:Int) == 0)=false),.a (by omega:0 < (2:Int)),
  .o 34 (.int (by rw [Int.tmod_eq_emod_of_nonneg (by omega)]; omega):PV.le (.e (iP (Int.tmod (n:Int) 2))) (.e (iP (((n % 2):Nat):Int)))),tB 35 (natZ_false he:((((n % 2):Nat):Int) == 0)=false),
  .c (bEnd_false _ _ _ ‹_› (by omega) (by omega) (by omega) (by omega):PCt 194 [(dyP x.lo),(iP n),(iP p),(bP false)] _),
  .c (bEnd_true _ _ _ ‹_› (by omega) (by omega) (by omega) (by omega):PCt 194 [(dyP x.hi),(iP n),(iP p),(bP true)] _),
  .c (ivMade_pc ((endP x.lo n p false).1) ((endP x.hi n p true).1) ((endP x.lo n p false).2) ((endP x.hi n p true).2))] <| rQ (ivP (madeI ((endP x.lo n p false).1) ((endP x.lo n p false).2) ((endP x.hi n p true).1) ((endP x.hi n p true).2))) (ivP (pwrI x n p)) (by unfold pwrI powY; rw [if_neg (by rw [ha]; decide),if_neg h0,if_neg he])) (by kernel_rfl)
theorem bPower_pc (x:Iv) (n p:Nat) (hx:x.Valid) (hn:n ≤ 16) (hp1:8 ≤ p) (hp2:p ≤ 512):PCt 171 [ivP x,iP (n:Int),iP (p:Int)] (ivP (pwrI x n p)):=by
 cases ha:x.all with
 | true=>exact bPower_all x n p hx ha hn hp1 hp2
 | false =>
  by_cases h0:n=0
  ·exact bPower_zero x n p hx ha h0 hp1 hp2
  ·by_cases he:n % 2=0
   ·exact bPower_even x n p hx ha h0 hn he hp1 hp2
   ·exact bPower_odd x n p hx ha h0 hn he hp1 hp2
set_option maxHeartbeats 1000000 in
theorem bHull_pc (x y:Iv) (hx:x.Valid) (hy:y.Valid) (xa:x.all=false) (ya:y.all=false):PCt 80 [(ivP x),(ivP y)] (ivP (hullI x y)):=by
 obtain ⟨v1,v2⟩:=hx.ends
 obtain ⟨v3,v4⟩:=hy.ends
 exact tr true Tryz.call80 Tryz.func80 (chain [.o 7 (.e (ivs2_le _ _):PV.le (.e (.sl true 2 7 fun i_ j_=>(ivL x ++ ivL y).getD (i_ * 7+j_) (.v (.bool false)))) (.e (ivsP [x,y]))),.c (ivKnown2_pc _ _ ‹_› ‹_›:PCt 85 [(ivsP [x,y])] _),
  tB 8 (by rw [xa,ya]; rfl:(!(x.all || y.all))=true),.c (ivLess_pc x.lo y.lo ‹_› ‹_›),.c (ivMore_pc x.hi y.hi ‹_› ‹_›)] <| rQ (ivP (Iv.mk (minD x.lo y.lo) (maxD x.hi y.hi) false)) (ivP (hullI x y)) (by unfold hullI; rw [xa,ya]; rfl)) (by kernel_rfl)
theorem beq_dec (z:Int):(z == 0)=decide (z=0):=by by_cases h:z=0 <;> simp [h]
set_option maxHeartbeats 1000000 in
theorem bWidth_pc (x:Iv) (p:Nat) (hx:x.Valid) (xa:x.all=false) (hp1:8 ≤ p) (hp2:p ≤ 512):PCt 82 [(ivP x),(iP p)] (.tup [dyP (widD x p),bP (decide (widE x p=0))]):=by
 obtain ⟨v1,v2⟩:=hx.ends
 have v3:=negD_valid v1
 exact tr true Tryz.call82 Tryz.func82 (chain [.o 9 (.e (ivs1_le _):PV.le (.e (.sl true 1 7 fun i_ j_=>(ivL x).getD (i_ * 7+j_) (.v (.bool false)))) (.e (ivsP [x]))),.c (ivKnown1_pc _ ‹_›:PCt 85 [(ivsP [x])] _),tB 10 (by rw [xa]; rfl:(!x.all)=true),
  .c (ivPermitted_pc _:PCt 86 [(iP p)] _),tB 14 (precB_true.2 ⟨by omega,by omega⟩:(precB (p:Int))=true),.c (dyNeg_pc _ ‹_›:PCt 105 [(dyP x.lo)] _),
  .c (rdAddUp_pc x.hi (negD x.lo) p ‹_› ‹_› (by omega) (by omega))] <| rQ (.tup [(dyP (rndD (sumD x.hi (negD x.lo)) p true)),(bP ((rndE (sumD x.hi (negD x.lo)) p true) == 0))]) (.tup [dyP (widD x p),bP (decide (widE x p=0))]) (by rw [beq_dec]; rfl)) (by kernel_rfl)
theorem bIns_def (x y:Iv):insI x y=(y.all || (!x.all && (decide (cmpD y.lo x.lo ≤ 0) && decide (cmpD x.hi y.hi ≤ 0)))):=rfl
set_option maxHeartbeats 1000000 in
theorem bInside_pc (x y:Iv) (hx:x.Valid) (hy:y.Valid):PCt 63 [(ivP x),(ivP y)] (bP (insI x y)):=by
 obtain ⟨v1,v2⟩:=hx.ends
 obtain ⟨v3,v4⟩:=hy.ends
 exact tr true Tryz.call63 Tryz.func63 (chain [.c (ivValid_pc x ‹_›),.c (ivValid_pc y ‹_›)] <| .w (y.all=true)
  (fun k1=>chain [tB 14 (k1)] <| rQ (bP true) (bP (insI x y)) (by rw [bIns_def]; simp [k1]))
  (fun k1=>chain [tB 14 (Bool.eq_false_iff.2 k1)] <| .w (x.all=true)
   (fun k2=>chain [tB 17 (k2)] <| rQ (bP false) (bP (insI x y)) (by rw [bIns_def]; simp [k1,k2]))
   (fun k2=>chain [tB 17 (Bool.eq_false_iff.2 k2),.c (dyCmp_pc _ _ ‹_› ‹_›:PCt 71 [(dyP y.lo),(dyP x.lo)] _)] <| .w ((cmpD y.lo x.lo) ≤ 0)
    (fun k3=>chain [tB 25 (decide_eq_true k3),.c (dyCmp_pc _ _ ‹_› ‹_›:PCt 71 [(dyP x.hi),(dyP y.hi)] _)] <| rQ (bP (decide ((cmpD x.hi y.hi) ≤ 0))) (bP (insI x y)) (by rw [bIns_def]; simp [k1,k2,k3]))
    (fun k3=>chain [tB 25 (decide_eq_false k3)] <| rQ (bP false) (bP (insI x y)) (by rw [bIns_def]; simp [k1,k2,k3]))))) (by kernel_rfl)
open Go.RowKit Fp Pu
theorem ctz_one:ctzN 1=0:=by decide +kernel
theorem canon_one (e:Int):canon false 1 e=⟨false,1,e⟩:=by
 unfold canon
 rw [if_neg (by decide),ctz_one]
 simp
def twoP (k:Int):Dy:=⟨false,1,k⟩
theorem twoP_range {k:Int} (h1:-100 ≤ k) (h2:k ≤ 100):inRange (twoP k):=.inr ⟨by show bitsN 1 ≤ 4096; rw [bitsN_one]; decide,by show -16384 ≤ k; omega,by show k ≤ 16384; omega,by show ((bitsN 1:Nat):Int)+k ≤ 16384; rw [bitsN_one]; omega⟩
theorem twoP_valid {k:Int} (h1:-100 ≤ k) (h2:k ≤ 100):(twoP k).Valid:=⟨by have:=canon_canon false 1 k; rwa [canon_one] at this,twoP_range h1 h2⟩
theorem twoP_sign (k:Int):¬ (twoP k).sign < 0:=by
 rw [(q_sign _).2,q_of]
 show ¬ (if false=true then _ else ((1:Nat):Rat) * P2 k) < 0
 rw [if_neg (by decide)]
 have:=P2_pos k
 grind
theorem sign_q {d:Dy} (h:¬ d.sign < 0):0 ≤ d.q:=by
 rw [(q_sign d).2] at h
 grind
def attB (s:SysV) (x:List Iv) (h:Dy) (p:Nat) (k:Int):Bool:=growAll x (twoP k) && holdsB s x h (growL x (twoP k)) p
def sclD (d:Dy):Dy:=chk (canon d.neg d.m (d.e + -3))
def sclE (d:Dy):Int:=chkE (canon d.neg d.m (d.e + -3))
def widV (x:List Iv) (p:Nat):Dy:=if widOk x p then widL x p x.length else zeroD
def widerI (s:SysV) (x:List Iv) (h:Dy) (b:List Iv) (p:Nat):List Iv :=
 if imageI s x h b p=[] then [] else
 if widOk (hullL x (imageI s x h b p)) p=false ∨ (widV (hullL x (imageI s x h b p)) p).sign=0 then hullL x (imageI s x h b p) else
 if sclE (widV (hullL x (imageI s x h b p)) p) ≠ 0 then hullL x (imageI s x h b p) else
 if growAll (hullL x (imageI s x h b p)) (sclD (widV (hullL x (imageI s x h b p)) p)) then growL (hullL x (imageI s x h b p)) (sclD (widV (hullL x (imageI s x h b p)) p)) else hullL x (imageI s x h b p)
def widB (s:SysV) (x:List Iv) (h:Dy) (p:Nat):Nat → List Iv
 | 0=>x
 | j+1=>widerI s x h (widB s x h p j) p
theorem sclD_valid (d:Dy):(sclD d).Valid:=chk_valid (canon_canon _ _ _)
theorem sclD_nonneg {d:Dy} (h:0 ≤ d.q):0 ≤ (sclD d).q:=by
 unfold sclD chk
 split
 ·rw [q_canon]
  rw [q_of] at h
  have p1:=P2_pos d.e
  have p2:=P2_pos (d.e + -3)
  have m0:(0:Rat) ≤ (d.m:Rat):=by exact_mod_cast Nat.zero_le d.m
  split
  ·rename_i hn
   rw [if_pos hn] at h
   have hm:(d.m:Rat) * P2 d.e=0:=by
    have:=Rat.mul_nonneg m0 (Rat.le_of_lt p1)
    grind
   have hm0:(d.m:Rat)=0:=by
    rcases Rat.mul_eq_zero.1 hm with q | q
    ·exact q
    ·grind
   rw [hm0]
   grind
  ·exact Rat.mul_nonneg m0 (Rat.le_of_lt p2)
 ·rw [q_zero]; exact Rat.le_refl
theorem widL_nonneg (x:List Iv) (p:Nat):∀ k,0 ≤ (widL x p k).q
 | 0=>by show 0 ≤ zeroD.q; rw [q_zero]; exact Rat.le_refl
 | k+1=>by
  have ih:=widL_nonneg x p k
  show 0 ≤ (if 0 < cmpD (widD (x.getD k wholeI) p) (widL x p k) then widD (x.getD k wholeI) p else widL x p k).q
  split
  ·rename_i h
   have:¬ cmpD (widD (x.getD k wholeI) p) (widL x p k) ≤ 0:=by omega
   rw [q_le] at this
   grind
  ·exact ih
theorem widV_nonneg (x:List Iv) (p:Nat):0 ≤ (widV x p).q:=by
 unfold widV
 split
 ·exact widL_nonneg x p _
 ·rw [q_zero]; exact Rat.le_refl
theorem q_sign_not {d:Dy} (h:0 ≤ d.q):¬ d.sign < 0:=by
 rw [(q_sign d).2]
 grind
theorem wider_ok {s:SysV} {x b:List Iv} {h:Dy} {p n:Nat} (hx:BoxOk n x) (hp:1 ≤ p) (hp2:p ≤ 4096) (hne:widerI s x h b p ≠ []):BoxOk n (widerI s x h b p):=by
 unfold widerI at hne ⊢
 split at hne
 ·exact absurd rfl hne
 ·rename_i h1
  rw [if_neg h1]
  have hh:=hullL_ok hx (image_ok hx hp hp2 h1)
  split
  ·exact hh
  ·split
   ·exact hh
   ·split
    ·rename_i hg
     exact growL_ok hh (sclD_valid _) (sclD_nonneg (widV_nonneg _ _)) hg
    ·exact hh
open Go.RowKit Fp Pu
theorem getD_eq_getElem {α:Type} {l:List α} {i:Nat} {d:α} (h:i < l.length):l.getD i d=l[i]:=by
 rw [List.getD_eq_getElem?_getD,List.getElem?_eq_getElem h]; rfl
theorem ivs_pushR {T n n' k:Nat} {F:Nat → Iv} {y:Iv} (hn:n=k) (hn':n'=k+1) (hy:y=F k) :
  Bx.le (.row true T (n + [y].length) 7 fun i j=>if i < n then ivsE ((List.range k).map F) i j else (E.elf (ivsP [y])) (i - n) j) (.row true T n' 7 (ivsE ((List.range (k+1)).map F))):=by
 subst hn hn' hy
 refine .row rfl fun i j hi hj=>⟨.of_eq ?_,ivL_nr _ _ hj⟩
 have hi:i < n+1:=hi
 by_cases h:i < n
 ·rw [if_pos h]
  simp only [ivsE]
  rw [range_getD h,range_getD hi]
 ·have hi':i=n:=by omega
  subst hi'
  rw [if_neg h,Nat.sub_self]
  simp only [ivsE]
  rw [range_getD hi]
  rfl
theorem ivsRow_le {n:Nat} {M:List Iv} (hn:n=M.length):E.le (.sl true n 7 (ivsE M)) (ivsP M):=by subst hn; exact .refl _
open Go.RowKit Fp Pu
def bEqFY (a b:List Iv) (g:FuncId) (cap:List E) (i:Nat):PS:=⟨32,false,[(17,.e (iP i)),(16,.e (iP a.length)),(15,.e (ivsP a)),(1,.e (ivsP b)),(2,.e (.fn g cap))],[]⟩
def bEqFN (a b:List Iv) (g:FuncId) (cap:List E) (N:Nat) (i:Nat):PS:=⟨32,false,[(17,.e (iP i)),(16,.e (iP a.length)),(15,.e (ivsP a)),(1,.e (ivsP b)),(2,.e (.fn g cap))],[]⟩
def bGrowFY (x:List Iv) (d:Dy) (i:Nat):PS:=⟨60,true,[(6,.own 6),(28,.e (iP i)),(27,.e (iP x.length)),(26,.e (ivsP x)),(3,.box 3 0)],[(6,.row true 26 i 7 (ivsE ((List.range i).map (fun j_=>growI (x.getD j_ wholeI) d)))),(3,.cells 24 (dyL d))]⟩
def bGrowFN1 (x:List Iv) (d:Dy) (N:Nat) (i:Nat):PS:=⟨60,true,[(6,.own 6),(28,.e (iP i)),(27,.e (iP x.length)),(26,.e (ivsP x)),(3,.box 3 0)],[(6,.row true 26 i 7 (ivsE ((List.range i).map (fun j_=>growI (x.getD j_ wholeI) d)))),(3,.cells 24 (dyL d))]⟩
def bGrowFN2 (x:List Iv) (d:Dy) (N:Nat) (i:Nat):PS:=⟨60,true,[(6,.own 6),(28,.e (iP i)),(27,.e (iP x.length)),(26,.e (ivsP x)),(3,.box 3 0)],[(6,.row true 26 i 7 (ivsE ((List.range i).map (fun j_=>growI (x.getD j_ wholeI) d)))),(3,.cells 24 (dyL d))]⟩
def bHullF (a b:List Iv) (i:Nat):PS:=⟨30,true,[(5,.own 5),(13,.e (iP i)),(12,.e (iP a.length)),(0,.e (ivsP a)),(1,.e (ivsP b))],[(5,.row true 26 i 7 (ivsE ((List.range i).map (fun j_=>hullI (a.getD j_ wholeI) (b.getD j_ wholeI)))))]⟩
def bWidFY (x:List Iv) (p:Nat) (i:Nat):PS:=⟨42,true,[(22,.e (iP i)),(21,.e (iP x.length)),(20,.e (ivsP x)),(6,.box 6 0),(4,.box 4 0),(1,.e (iP p))],[(6,.cells 24 (dyL (widL x p i))),(4,.cells 24 [(bP false),(.v (.slice none 0 0)),(iP 0)])]⟩
def bWidFN (x:List Iv) (p:Nat) (N:Nat) (i:Nat):PS:=⟨42,true,[(22,.e (iP i)),(21,.e (iP x.length)),(20,.e (ivsP x)),(6,.box 6 0),(4,.box 4 0),(1,.e (iP p))],[(6,.cells 24 (dyL (widL x p i))),(4,.cells 24 [(bP false),(.v (.slice none 0 0)),(iP 0)])]⟩
theorem boxValid1_pc (x:Iv) (hx:x.Valid) (xa:x.all=false):PCt 103 [(ivP x)] (bP false):=by
 exact tr true Tryz.call103 Tryz.func103 (chain [tB 4 (xa:x.all=false),.c (ivValid_pc x ‹_›)] <| .nil) (by kernel_rfl)
theorem boxValid_pc (b:List Iv) (h1:1 ≤ b.length) (h8:b.length ≤ 8) (hb:NoAll b):PCt 77 [(ivsP b)] (bP true):=by
 exact tr true Tryz.call77 Tryz.func77 (chain [tT 5 (1 ≤ (b.length:Int)) (by omega),tT 9 ((b.length:Int) ≤ 8) (by omega),
  .c (iv_hasnt true _ _ 103 [] (fun _=>false) (fun i hi=>boxValid1_pc _ (hb i hi).1 (hb i hi).2) (by omega) (fun _ _=>rfl):PCt 69 [(ivsP b),(.fn 103 [])] _)] <| .nil) (by kernel_rfl)
theorem boxTwo_pc (a b:List Iv) (a1:1 ≤ a.length) (a8:a.length ≤ 8) (hl:b.length=a.length) (ha:NoAll a) (hb:NoAll b):PCt 61 [(ivsP a),(ivsP b)] (bP true):=by
 exact tr true Tryz.call61 Tryz.func61 (chain [.c (boxValid_pc a (by omega) (by omega) ‹_›),.c (boxValid_pc b (by omega) (by omega) ‹_›),tB 16 (natEq_true (by omega):((a.length:Int) == (b.length:Int))=true)] <| .nil) (by kernel_rfl)
theorem bEq_yes (a b:List Iv) (g:FuncId) (cap:List E) (f:Nat → Bool) (hl:b.length=a.length) (h8:a.length ≤ 1000) (hp:∀ i,i < a.length → PCt g ((ivP (a.getD i wholeI)) :: (ivP (b.getD i wholeI)) :: cap) (bP (f i))) (hlo:∀ i,i < a.length → f i=true):PCt 62 [(ivsP a),(ivsP b),(.fn g cap)] (bP true):=by
 exact tr false Tryz.call62 Tryz.func62 (chain [tB 14 (natNe_false (by omega):((a.length:Int) != (b.length:Int))=false),
  .s (Sp.upto (bEqFY a b g cap) 0 a.length (by omega) (fun i hi hlti=>by
    exact spt (chain [tT 18 ((i:Int) < (a.length:Int)) (by omega),iX ((i:Int)) (a.length) (by omega),iX ((i:Int)) (b.length) (by omega),
     .c (hp i (by omega):PCt g ((ivP (a.getD i wholeI)) :: (ivP (b.getD i wholeI)) :: cap) _),tB 29 (hlo i (by omega):(f i)=true),r64 ((i:Int)+1) (by omega)] <| .nil) (by kernel_rfl))
  (fun hi=>by
    exact spt (chain [tF 18 ((a.length:Int) < (a.length:Int)) (by omega)] <| .nil) (by kernel_rfl)) (by nofun):LpT 4 Tryz.f62 (bEqFY a b g cap 0) (.exit 0) ⟨32,false,[],[]⟩) .nil] <| .nil) (by kernel_rfl)
theorem bEq_no (a b:List Iv) (g:FuncId) (cap:List E) (f:Nat → Bool) (hl:b.length=a.length) (h8:a.length ≤ 1000) (hp:∀ i,i < a.length → PCt g ((ivP (a.getD i wholeI)) :: (ivP (b.getD i wholeI)) :: cap) (bP (f i))) (N:Nat) (hN0:N < a.length) (hlo:∀ i,i < N → f i=true) (hN:f N=false):PCt 62 [(ivsP a),(ivsP b),(.fn g cap)] (bP false):=by
 exact tr false Tryz.call62 Tryz.func62 (chain [tB 14 (natNe_false (by omega):((a.length:Int) != (b.length:Int))=false),
  .s (Sp.upto (bEqFN a b g cap N) 0 N (by omega) (fun i hi hlti=>by
    exact spt (chain [tT 18 ((i:Int) < (a.length:Int)) (by omega),iX ((i:Int)) (a.length) (by omega),iX ((i:Int)) (b.length) (by omega),
     .c (hp i (by omega):PCt g ((ivP (a.getD i wholeI)) :: (ivP (b.getD i wholeI)) :: cap) _),tB 29 (hlo i (by omega):(f i)=true),r64 ((i:Int)+1) (by omega)] <| .nil) (by kernel_rfl))
  (fun hi=>by
    exact spt (chain [tT 18 ((N:Int) < (a.length:Int)) (by omega),iX ((N:Int)) (a.length) (by omega),iX ((N:Int)) (b.length) (by omega),
    .c (hp N (by omega):PCt g ((ivP (a.getD N wholeI)) :: (ivP (b.getD N wholeI)) :: cap) _),tB 29 (hN:(f N)=false)] <| .nil) (by kernel_rfl)) (by nofun):LpT 4 Tryz.f62 (bEqFN a b g cap N 0) .ret ⟨32,false,[(6,.e (bP false))],[]⟩) .nil] <| .nil) (by kernel_rfl)
theorem bEq_pc (a b:List Iv) (g:FuncId) (cap:List E) (f:Nat → Bool) (hl:b.length=a.length) (h8:a.length ≤ 1000) (hp:∀ i,i < a.length → PCt g ((ivP (a.getD i wholeI)) :: (ivP (b.getD i wholeI)) :: cap) (bP (f i))):PCt 62 [(ivsP a),(ivsP b),(.fn g cap)] (bP ((List.range a.length).all f)):=by
 by_cases h:∃ i,i < a.length ∧ (!(f i))=true
 ·obtain ⟨N,h1,h2,h3⟩:=least_true (p:=fun i=>!(f i)) h
  refine (bEq_no a b g cap f hl h8 hp N h1 (fun i hi=>by simpa using h3 i hi) (by simpa using h2)).res (.of_eq ?_)
  rw [show (List.range a.length).all f=false from List.all_eq_false.2 ⟨N,List.mem_range.2 h1,by simpa using h2⟩]
 ·have hh:∀ i,i < a.length → f i=true:=fun i hi=>by
   cases hf:f i
   ·exact absurd ⟨i,hi,by rw [hf]; rfl⟩ h
   ·rfl
  refine (bEq_yes a b g cap f hl h8 hp hh).res (.of_eq ?_)
  rw [show (List.range a.length).all f=true from List.all_eq_true.2 fun i hi=>hh i (List.mem_range.1 hi)]
theorem boxInside_pc (a b:List Iv) (a1:1 ≤ a.length) (a8:a.length ≤ 8) (hl:b.length=a.length) (ha:NoAll a) (hb:NoAll b):PCt 33 [(ivsP a),(ivsP b)] (bP (insB a b)):=by
 exact tr true Tryz.call33 Tryz.func33 (chain [.c (boxTwo_pc a b (by omega) (by omega) (by omega) ‹_› ‹_›),.c (bEq_pc a b 63 [] (fun i=>insI (a.getD i wholeI) (b.getD i wholeI)) hl (by omega) (fun i hi=>bInside_pc _ _ (ha i hi).1 (hb i (by omega)).1))] <| .nil) (by kernel_rfl)
theorem growOk_of {x:Iv} {d:Dy} (h:growOk x d=true):chkE (sumD x.lo (negD d))=0 ∧ chkE (sumD x.hi d)=0:=by
 unfold growOk at h
 rwa [Bool.and_eq_true,decide_eq_true_eq,decide_eq_true_eq] at h
theorem boxGrow_yes (x:List Iv) (d:Dy) (x1:1 ≤ x.length) (x8:x.length ≤ 8) (hx:NoAll x) (hd:d.Valid) (h0:¬ d.sign < 0) (hlo:∀ i,i < x.length → growOk (x.getD i wholeI) d=true):PCt 54 [(ivsP x),(dyP d)] (.tup [ivsP ((List.range x.length).map (fun j_=>growI (x.getD j_ wholeI) d)),iP 0]):=by
 exact tr true Tryz.call54 Tryz.func54 (chain [.c (boxValid_pc x (by omega) (by omega) ‹_›),.c (dyValid_pc _ ‹_›:PCt 30 [(dyP d)] _),.c (dySign_pc _ ‹_›:PCt 51 [(dyP d)] _),tB 24 (decide_eq_false h0),
  .y 6 6 true 26 7 (ivsE ((List.range 0).map (fun j_=>growI (x.getD j_ wholeI) d))),
  .s (Sp.upto (bGrowFY x d) 0 x.length (by omega) (fun i hi hlti=>by
    obtain ⟨w1,w2⟩:=(hx i (by omega)).1.ends
    obtain ⟨g1,g2⟩:=growOk_of (hlo i (by omega))
    have hol:=one_len (Iv.mk (chk (sumD (x.getD i wholeI).lo (negD d))) (chk (sumD (x.getD i wholeI).hi d)) false)
    exact spt (chain [tT 29 ((i:Int) < (x.length:Int)) (by omega),iX ((i:Int)) (x.length) (by omega),.c (bSub_pc _ _ ‹_› ‹_›:PCt 78 [(dyP ((x.getD i wholeI).lo)),(dyP d)] _),
     .c (bAdd_pc ((x.getD i wholeI).hi) d ‹_› ‹_›),tB 47 (by rw [g1]; rfl:((chkE (sumD ((x.getD i wholeI).lo) (negD d))) != 0)=false),tB 50 (by rw [g2]; rfl:((chkE (sumD ((x.getD i wholeI).hi) d)) != 0)=false),
     .o 56 (.e (ivs1_le _):PV.le (.e (.sl true 1 7 fun i_ j_=>(ivL (Iv.mk (chk (sumD ((x.getD i wholeI).lo) (negD d))) (chk (sumD ((x.getD i wholeI).hi) d)) false)).getD (i_ * 7+j_) (.v (.bool false)))) (.e (ivsP [(Iv.mk (chk (sumD ((x.getD i wholeI).lo) (negD d))) (chk (sumD ((x.getD i wholeI).hi) d)) false)]))),
     .a (by omega:(i + [(Iv.mk (chk (sumD ((x.getD i wholeI).lo) (negD d))) (chk (sumD ((x.getD i wholeI).hi) d)) false)].length) * 88 ≤ 140737488355328),r64 ((i:Int)+1) (by omega)] <| .e (chain [.b 6 (ivs_pushR rfl rfl rfl:Bx.le (.row true 26 (i + [(Iv.mk (chk (sumD ((x.getD i wholeI).lo) (negD d))) (chk (sumD ((x.getD i wholeI).hi) d)) false)].length) 7 (fun i_ j_=>if i_ < i then (ivsE ((List.range i).map (fun j_=>growI (x.getD j_ wholeI) d))) i_ j_ else (E.elf (ivsP [(Iv.mk (chk (sumD ((x.getD i wholeI).lo) (negD d))) (chk (sumD ((x.getD i wholeI).hi) d)) false)])) (i_ - i) j_)) (.row true 26 (i+1) 7 (ivsE ((List.range (i+1)).map (fun j_=>growI (x.getD j_ wholeI) d)))))] <| .nil)) (by kernel_rfl))
  (fun hi=>by
    exact spt (chain [tF 29 ((x.length:Int) < (x.length:Int)) (by omega),.z 6] <| .e (chain [.o 6 (.e (ivsRow_le (by simp)):PV.le (.e (.sl true x.length 7 (ivsE ((List.range x.length).map (fun j_=>growI (x.getD j_ wholeI) d))))) (.e (ivsP ((List.range x.length).map (fun j_=>growI (x.getD j_ wholeI) d)))))] <| .nil)) (by kernel_rfl)) (by nofun):LpT 5 Tryz.f54 (bGrowFY x d 0) (.exit 0) ⟨60,true,[(6,.e (ivsP ((List.range x.length).map (fun j_=>growI (x.getD j_ wholeI) d))))],[]⟩) .nil] <| .nil) (by kernel_rfl)
theorem boxGrow_no1 (x:List Iv) (d:Dy) (x1:1 ≤ x.length) (x8:x.length ≤ 8) (hx:NoAll x) (hd:d.Valid) (h0:¬ d.sign < 0) (N:Nat) (hN0:N < x.length) (hlo:∀ i,i < N → growOk (x.getD i wholeI) d=true) (hN:chkE (sumD (x.getD N wholeI).lo (negD d)) ≠ 0):PCt 54 [(ivsP x),(dyP d)] (.tup [.v (.slice none 0 0),iP 9]):=by
 exact tr true Tryz.call54 Tryz.func54 (chain [.c (boxValid_pc x (by omega) (by omega) ‹_›),.c (dyValid_pc _ ‹_›:PCt 30 [(dyP d)] _),.c (dySign_pc _ ‹_›:PCt 51 [(dyP d)] _),tB 24 (decide_eq_false h0),
  .y 6 6 true 26 7 (ivsE ((List.range 0).map (fun j_=>growI (x.getD j_ wholeI) d))),
  .s (Sp.upto (bGrowFN1 x d N) 0 N (by omega) (fun i hi hlti=>by
    obtain ⟨w1,w2⟩:=(hx i (by omega)).1.ends
    obtain ⟨g1,g2⟩:=growOk_of (hlo i (by omega))
    have hol:=one_len (Iv.mk (chk (sumD (x.getD i wholeI).lo (negD d))) (chk (sumD (x.getD i wholeI).hi d)) false)
    exact spt (chain [tT 29 ((i:Int) < (x.length:Int)) (by omega),iX ((i:Int)) (x.length) (by omega),.c (bSub_pc _ _ ‹_› ‹_›:PCt 78 [(dyP ((x.getD i wholeI).lo)),(dyP d)] _),
     .c (bAdd_pc ((x.getD i wholeI).hi) d ‹_› ‹_›),tB 47 (by rw [g1]; rfl:((chkE (sumD ((x.getD i wholeI).lo) (negD d))) != 0)=false),tB 50 (by rw [g2]; rfl:((chkE (sumD ((x.getD i wholeI).hi) d)) != 0)=false),
     .o 56 (.e (ivs1_le _):PV.le (.e (.sl true 1 7 fun i_ j_=>(ivL (Iv.mk (chk (sumD ((x.getD i wholeI).lo) (negD d))) (chk (sumD ((x.getD i wholeI).hi) d)) false)).getD (i_ * 7+j_) (.v (.bool false)))) (.e (ivsP [(Iv.mk (chk (sumD ((x.getD i wholeI).lo) (negD d))) (chk (sumD ((x.getD i wholeI).hi) d)) false)]))),
     .a (by omega:(i + [(Iv.mk (chk (sumD ((x.getD i wholeI).lo) (negD d))) (chk (sumD ((x.getD i wholeI).hi) d)) false)].length) * 88 ≤ 140737488355328),r64 ((i:Int)+1) (by omega)] <| .e (chain [.b 6 (ivs_pushR rfl rfl rfl:Bx.le (.row true 26 (i + [(Iv.mk (chk (sumD ((x.getD i wholeI).lo) (negD d))) (chk (sumD ((x.getD i wholeI).hi) d)) false)].length) 7 (fun i_ j_=>if i_ < i then (ivsE ((List.range i).map (fun j_=>growI (x.getD j_ wholeI) d))) i_ j_ else (E.elf (ivsP [(Iv.mk (chk (sumD ((x.getD i wholeI).lo) (negD d))) (chk (sumD ((x.getD i wholeI).hi) d)) false)])) (i_ - i) j_)) (.row true 26 (i+1) 7 (ivsE ((List.range (i+1)).map (fun j_=>growI (x.getD j_ wholeI) d)))))] <| .nil)) (by kernel_rfl))
  (fun hi=>by
    obtain ⟨w1,w2⟩:=(hx N (by omega)).1.ends
    exact spt (chain [tT 29 ((N:Int) < (x.length:Int)) (by omega),iX ((N:Int)) (x.length) (by omega),.c (bSub_pc _ _ ‹_› ‹_›:PCt 78 [(dyP ((x.getD N wholeI).lo)),(dyP d)] _),
    .c (bAdd_pc ((x.getD N wholeI).hi) d ‹_› ‹_›),tB 47 (by simpa using hN:((chkE (sumD ((x.getD N wholeI).lo) (negD d))) != 0)=true)] <| .nil) (by kernel_rfl)) (by nofun):LpT 5 Tryz.f54 (bGrowFN1 x d N 0) .ret ⟨60,true,[(5,.e (iP 9)),(4,.e (.v (.slice none 0 0)))],[]⟩) .nil] <| .nil) (by kernel_rfl)
theorem boxGrow_no2 (x:List Iv) (d:Dy) (x1:1 ≤ x.length) (x8:x.length ≤ 8) (hx:NoAll x) (hd:d.Valid) (h0:¬ d.sign < 0) (N:Nat) (hN0:N < x.length) (hlo:∀ i,i < N → growOk (x.getD i wholeI) d=true) (hM:chkE (sumD (x.getD N wholeI).lo (negD d))=0) (hN:chkE (sumD (x.getD N wholeI).hi d) ≠ 0):PCt 54 [(ivsP x),(dyP d)] (.tup [.v (.slice none 0 0),iP 9]):=by
 exact tr true Tryz.call54 Tryz.func54 (chain [.c (boxValid_pc x (by omega) (by omega) ‹_›),.c (dyValid_pc _ ‹_›:PCt 30 [(dyP d)] _),.c (dySign_pc _ ‹_›:PCt 51 [(dyP d)] _),tB 24 (decide_eq_false h0),
  .y 6 6 true 26 7 (ivsE ((List.range 0).map (fun j_=>growI (x.getD j_ wholeI) d))),
  .s (Sp.upto (bGrowFN2 x d N) 0 N (by omega) (fun i hi hlti=>by
    obtain ⟨w1,w2⟩:=(hx i (by omega)).1.ends
    obtain ⟨g1,g2⟩:=growOk_of (hlo i (by omega))
    have hol:=one_len (Iv.mk (chk (sumD (x.getD i wholeI).lo (negD d))) (chk (sumD (x.getD i wholeI).hi d)) false)
    exact spt (chain [tT 29 ((i:Int) < (x.length:Int)) (by omega),iX ((i:Int)) (x.length) (by omega),.c (bSub_pc _ _ ‹_› ‹_›:PCt 78 [(dyP ((x.getD i wholeI).lo)),(dyP d)] _),
     .c (bAdd_pc ((x.getD i wholeI).hi) d ‹_› ‹_›),tB 47 (by rw [g1]; rfl:((chkE (sumD ((x.getD i wholeI).lo) (negD d))) != 0)=false),tB 50 (by rw [g2]; rfl:((chkE (sumD ((x.getD i wholeI).hi) d)) != 0)=false),
     .o 56 (.e (ivs1_le _):PV.le (.e (.sl true 1 7 fun i_ j_=>(ivL (Iv.mk (chk (sumD ((x.getD i wholeI).lo) (negD d))) (chk (sumD ((x.getD i wholeI).hi) d)) false)).getD (i_ * 7+j_) (.v (.bool false)))) (.e (ivsP [(Iv.mk (chk (sumD ((x.getD i wholeI).lo) (negD d))) (chk (sumD ((x.getD i wholeI).hi) d)) false)]))),
     .a (by omega:(i + [(Iv.mk (chk (sumD ((x.getD i wholeI).lo) (negD d))) (chk (sumD ((x.getD i wholeI).hi) d)) false)].length) * 88 ≤ 140737488355328),r64 ((i:Int)+1) (by omega)] <| .e (chain [.b 6 (ivs_pushR rfl rfl rfl:Bx.le (.row true 26 (i + [(Iv.mk (chk (sumD ((x.getD i wholeI).lo) (negD d))) (chk (sumD ((x.getD i wholeI).hi) d)) false)].length) 7 (fun i_ j_=>if i_ < i then (ivsE ((List.range i).map (fun j_=>growI (x.getD j_ wholeI) d))) i_ j_ else (E.elf (ivsP [(Iv.mk (chk (sumD ((x.getD i wholeI).lo) (negD d))) (chk (sumD ((x.getD i wholeI).hi) d)) false)])) (i_ - i) j_)) (.row true 26 (i+1) 7 (ivsE ((List.range (i+1)).map (fun j_=>growI (x.getD j_ wholeI) d)))))] <| .nil)) (by kernel_rfl))
  (fun hi=>by
    obtain ⟨w1,w2⟩:=(hx N (by omega)).1.ends
    exact spt (chain [tT 29 ((N:Int) < (x.length:Int)) (by omega),iX ((N:Int)) (x.length) (by omega),.c (bSub_pc _ _ ‹_› ‹_›:PCt 78 [(dyP ((x.getD N wholeI).lo)),(dyP d)] _),
    .c (bAdd_pc ((x.getD N wholeI).hi) d ‹_› ‹_›),tB 47 (by rw [hM]; rfl:((chkE (sumD ((x.getD N wholeI).lo) (negD d))) != 0)=false),tB 50 (by simpa using hN:((chkE (sumD ((x.getD N wholeI).hi) d)) != 0)=true)] <| .nil) (by kernel_rfl)) (by nofun):LpT 5 Tryz.f54 (bGrowFN2 x d N 0) .ret ⟨60,true,[(5,.e (iP 9)),(4,.e (.v (.slice none 0 0)))],[]⟩) .nil] <| .nil) (by kernel_rfl)
def growE (x:List Iv) (d:Dy):Int:=if growAll x d then 0 else 9
theorem boxGrow_pc (x:List Iv) (d:Dy) (x1:1 ≤ x.length) (x8:x.length ≤ 8) (hx:NoAll x) (hd:d.Valid) (h0:¬ d.sign < 0):PCt 54 [ivsP x,dyP d] (.tup [ivsP (growL x d),iP (growE x d)]):=by
 unfold growL growE
 cases hg:growAll x d with
 | true =>
  rw [if_pos rfl,if_pos rfl]
  exact boxGrow_yes x d x1 x8 hx hd h0 fun i hi=>List.all_eq_true.1 hg i (List.mem_range.2 hi)
 | false =>
  rw [if_neg (by decide),if_neg (by decide)]
  obtain ⟨i,hi,hb⟩:=List.all_eq_false.1 hg
  obtain ⟨N,h1,h2,h3⟩:=least_true (p:=fun i=>!(growOk (x.getD i wholeI) d)) ⟨i,List.mem_range.1 hi,by simpa using hb⟩
  have hlo:∀ i,i < N → growOk (x.getD i wholeI) d=true:=fun i hi=>by simpa using h3 i hi
  have h2:growOk (x.getD N wholeI) d=false:=by simpa using h2
  have key:PCt 54 [ivsP x,dyP d] (.tup [.v (.slice none 0 0),iP 9]):=by
   by_cases hM:chkE (sumD (x.getD N wholeI).lo (negD d))=0
   ·exact boxGrow_no2 x d x1 x8 hx hd h0 N h1 hlo hM fun q=>by
     unfold growOk at h2
     rw [hM,q] at h2
     exact absurd h2 (by decide)
   ·exact boxGrow_no1 x d x1 x8 hx hd h0 N h1 hlo hM
  exact key.res (.tup (.cons (.nil _ _ _) (.cons (.refl _) .nil)))
theorem boxHull_pc (a b:List Iv) (a1:1 ≤ a.length) (a8:a.length ≤ 8) (hl:b.length=a.length) (ha:NoAll a) (hb:NoAll b):PCt 55 [(ivsP a),(ivsP b)] (ivsP (hullL a b)):=by
 exact tr true Tryz.call55 Tryz.func55 (chain [.c (boxTwo_pc a b (by omega) (by omega) (by omega) ‹_› ‹_›),.y 5 5 true 26 7 (ivsE ((List.range 0).map (fun j_=>hullI (a.getD j_ wholeI) (b.getD j_ wholeI)))),
  .s (Sp.upto (bHullF a b) 0 a.length (by omega) (fun i hi hlti=>by
    obtain ⟨w1,w2⟩:=ha i (by omega)
    obtain ⟨w3,w4⟩:=hb i (by omega)
    have hol:=one_len (hullI (a.getD i wholeI) (b.getD i wholeI))
    exact spt (chain [tT 14 ((i:Int) < (a.length:Int)) (by omega),iX ((i:Int)) (a.length) (by omega),iX ((i:Int)) (b.length) (by omega),
     .c (bHull_pc (a.getD i wholeI) (b.getD i wholeI) ‹_› ‹_› ‹_› ‹_›),
     .o 26 (.e (ivs1_le _):PV.le (.e (.sl true 1 7 fun i_ j_=>(ivL (hullI (a.getD i wholeI) (b.getD i wholeI))).getD (i_ * 7+j_) (.v (.bool false)))) (.e (ivsP [(hullI (a.getD i wholeI) (b.getD i wholeI))]))),
     .a (by omega:(i + [(hullI (a.getD i wholeI) (b.getD i wholeI))].length) * 88 ≤ 140737488355328),r64 ((i:Int)+1) (by omega)] <| .e (chain [.b 5 (ivs_pushR rfl rfl rfl:Bx.le (.row true 26 (i + [(hullI (a.getD i wholeI) (b.getD i wholeI))].length) 7 (fun i_ j_=>if i_ < i then (ivsE ((List.range i).map (fun j_=>hullI (a.getD j_ wholeI) (b.getD j_ wholeI)))) i_ j_ else (E.elf (ivsP [(hullI (a.getD i wholeI) (b.getD i wholeI))])) (i_ - i) j_)) (.row true 26 (i+1) 7 (ivsE ((List.range (i+1)).map (fun j_=>hullI (a.getD j_ wholeI) (b.getD j_ wholeI))))))] <| .nil)) (by kernel_rfl))
  (fun hi=>by
    exact spt (chain [tF 14 ((a.length:Int) < (a.length:Int)) (by omega),.z 5] <| .e (chain [.o 5 (.e (ivsRow_le (by simp)):PV.le (.e (.sl true a.length 7 (ivsE ((List.range a.length).map (fun j_=>hullI (a.getD j_ wholeI) (b.getD j_ wholeI)))))) (.e (ivsP ((List.range a.length).map (fun j_=>hullI (a.getD j_ wholeI) (b.getD j_ wholeI))))))] <| .nil)) (by kernel_rfl)) (by nofun):LpT 5 Tryz.f55 (bHullF a b 0) (.exit 0) ⟨30,true,[(5,.e (ivsP ((List.range a.length).map (fun j_=>hullI (a.getD j_ wholeI) (b.getD j_ wholeI)))))],[]⟩) .nil] <| rR (ivsP (hullL a b)) (.refl _:E.le (ivsP ((List.range a.length).map (fun j_=>hullI (a.getD j_ wholeI) (b.getD j_ wholeI)))) (ivsP (hullL a b)))) (by kernel_rfl)
theorem boxPrecise_pc (p:Int):PCt 81 [(iP p)] (bP (precB p)):=by
 exact tr true Tryz.call81 Tryz.func81 (.w (8 ≤ p)
  (fun k1=>chain [tB 4 (decide_eq_true k1)] <| rQ (bP (decide (p ≤ 512))) (bP (precB p)) (by unfold precB; simp [k1]))
  (fun k1=>chain [tB 4 (decide_eq_false k1)] <| rQ (bP false) (bP (precB p)) (by unfold precB; simp [k1]))) (by kernel_rfl)
theorem bzero_cells:Les [bP false,.v (.slice none 0 0),iP 0] (dyL zeroD):=.cons (.refl _) (.cons nilLimb_le (.cons (.refl _) .nil))
theorem widL_step (x:List Iv) (p k:Nat):widL x p (k+1)=if 0 < cmpD (widD (x.getD k wholeI) p) (widL x p k) then widD (x.getD k wholeI) p else widL x p k:=rfl
theorem widD_valid (x:Iv) {p:Nat} (hp:1 ≤ p) (hp2:p ≤ 4096):(widD x p).Valid:=rnd_val _ hp hp2 _
theorem widL_valid (x:List Iv) {p:Nat} (hp:1 ≤ p) (hp2:p ≤ 4096):∀ k,(widL x p k).Valid
 | 0=>zeroD_valid
 | k+1=>by
  unfold widL
  split
  ·exact widD_valid _ hp hp2
  ·exact widL_valid x hp hp2 k
theorem boxWidth_yes (x:List Iv) (p:Nat) (x1:1 ≤ x.length) (x8:x.length ≤ 8) (hx:NoAll x) (hp1:8 ≤ p) (hp2:p ≤ 512) (hlo:∀ i,i < x.length → widE (x.getD i wholeI) p=0):PCt 56 [(ivsP x),(iP p)] (.tup [dyP (widL x p x.length),bP true]):=by
 exact tr true Tryz.call56 Tryz.func56 (chain [.c (boxValid_pc x (by omega) (by omega) ‹_›),.c (boxPrecise_pc (p:Int)),tB 16 (precB_true.2 ⟨by omega,by omega⟩:(precB (p:Int))=true),
  .s (Sp.upto (bWidFY x p) 0 x.length (by omega) (fun i hi hlti=>by
    obtain ⟨w1,w2⟩:=hx i (by omega)
    have hlo_:=hlo i (by omega)
    have w3:=widD_valid (x.getD i wholeI) (show 1 ≤ p by omega) (show p ≤ 4096 by omega)
    have w4:=widL_valid x (show 1 ≤ p by omega) (show p ≤ 4096 by omega) i
    by_cases hc:0 < cmpD (widD (x.getD i wholeI) p) (widL x p i)
    ·have hnx:widL x p (i+1)=widD (x.getD i wholeI) p:=by rw [widL_step,if_pos hc]
     exact spt (chain [tT 23 ((i:Int) < (x.length:Int)) (by omega),iX ((i:Int)) (x.length) (by omega),.c (bWidth_pc (x.getD i wholeI) p ‹_› ‹_› (by omega) (by omega)),tB 31 (decide_eq_true hlo_),
      .c (dyCmp_pc _ _ ‹_› ‹_›:PCt 71 [(dyP (widD (x.getD i wholeI) p)),(dyP (widL x p i))] _),tB 38 (decide_eq_true hc),r64 ((i:Int)+1) (by omega)] <| .e (chain [.b 6 (.of_eq (by rw [hnx]):Bx.le (.cells 24 (dyL (widD (x.getD i wholeI) p))) (.cells 24 (dyL (widL x p (i+1)))))] <| .nil)) (by kernel_rfl)
    ·have hnx:widL x p (i+1)=widL x p i:=by rw [widL_step,if_neg hc]
     exact spt (chain [tT 23 ((i:Int) < (x.length:Int)) (by omega),iX ((i:Int)) (x.length) (by omega),.c (bWidth_pc (x.getD i wholeI) p ‹_› ‹_› (by omega) (by omega)),tB 31 (decide_eq_true hlo_),
      .c (dyCmp_pc _ _ ‹_› ‹_›:PCt 71 [(dyP (widD (x.getD i wholeI) p)),(dyP (widL x p i))] _),tB 38 (decide_eq_false hc),r64 ((i:Int)+1) (by omega)] <| .e (chain [.b 6 (.of_eq (by rw [hnx]):Bx.le (.cells 24 (dyL (widL x p i))) (.cells 24 (dyL (widL x p (i+1)))))] <| .nil)) (by kernel_rfl))
  (fun hi=>by
    exact spt (chain [tF 23 ((x.length:Int) < (x.length:Int)) (by omega)] <| .nil) (by kernel_rfl)) (by nofun):LpT 5 Tryz.f56 (bWidFY x p 0) (.exit 0) ⟨42,true,[(6,.box 6 0),(4,.box 4 0)],[(6,.cells 24 (dyL (widL x p x.length))),(4,.cells 24 [(bP false),(.v (.slice none 0 0)),(iP 0)])]⟩) (chain [.b 6 (.cells (fun _=>rfl) bzero_cells:Bx.le (.cells 24 [(bP false),(.v (.slice none 0 0)),(iP 0)]) (.cells 24 (dyL (widL x p 0))))] <| .nil)] <| .nil) (by kernel_rfl)
theorem boxWidth_no (x:List Iv) (p:Nat) (x1:1 ≤ x.length) (x8:x.length ≤ 8) (hx:NoAll x) (hp1:8 ≤ p) (hp2:p ≤ 512) (N:Nat) (hN0:N < x.length) (hlo:∀ i,i < N → widE (x.getD i wholeI) p=0) (hN:widE (x.getD N wholeI) p ≠ 0):PCt 56 [(ivsP x),(iP p)] (.tup [dyP zeroD,bP false]):=by
 exact tr true Tryz.call56 Tryz.func56 (chain [.c (boxValid_pc x (by omega) (by omega) ‹_›),.c (boxPrecise_pc (p:Int)),tB 16 (precB_true.2 ⟨by omega,by omega⟩:(precB (p:Int))=true),
  .s (Sp.upto (bWidFN x p N) 0 N (by omega) (fun i hi hlti=>by
    obtain ⟨w1,w2⟩:=hx i (by omega)
    have hlo_:=hlo i (by omega)
    have w3:=widD_valid (x.getD i wholeI) (show 1 ≤ p by omega) (show p ≤ 4096 by omega)
    have w4:=widL_valid x (show 1 ≤ p by omega) (show p ≤ 4096 by omega) i
    by_cases hc:0 < cmpD (widD (x.getD i wholeI) p) (widL x p i)
    ·have hnx:widL x p (i+1)=widD (x.getD i wholeI) p:=by rw [widL_step,if_pos hc]
     exact spt (chain [tT 23 ((i:Int) < (x.length:Int)) (by omega),iX ((i:Int)) (x.length) (by omega),.c (bWidth_pc (x.getD i wholeI) p ‹_› ‹_› (by omega) (by omega)),tB 31 (decide_eq_true hlo_),
      .c (dyCmp_pc _ _ ‹_› ‹_›:PCt 71 [(dyP (widD (x.getD i wholeI) p)),(dyP (widL x p i))] _),tB 38 (decide_eq_true hc),r64 ((i:Int)+1) (by omega)] <| .e (chain [.b 6 (.of_eq (by rw [hnx]):Bx.le (.cells 24 (dyL (widD (x.getD i wholeI) p))) (.cells 24 (dyL (widL x p (i+1)))))] <| .nil)) (by kernel_rfl)
    ·have hnx:widL x p (i+1)=widL x p i:=by rw [widL_step,if_neg hc]
     exact spt (chain [tT 23 ((i:Int) < (x.length:Int)) (by omega),iX ((i:Int)) (x.length) (by omega),.c (bWidth_pc (x.getD i wholeI) p ‹_› ‹_› (by omega) (by omega)),tB 31 (decide_eq_true hlo_),
      .c (dyCmp_pc _ _ ‹_› ‹_›:PCt 71 [(dyP (widD (x.getD i wholeI) p)),(dyP (widL x p i))] _),tB 38 (decide_eq_false hc),r64 ((i:Int)+1) (by omega)] <| .e (chain [.b 6 (.of_eq (by rw [hnx]):Bx.le (.cells 24 (dyL (widL x p i))) (.cells 24 (dyL (widL x p (i+1)))))] <| .nil)) (by kernel_rfl))
  (fun hi=>by
    obtain ⟨w1,w2⟩:=hx N (by omega)
    exact spt (chain [tT 23 ((N:Int) < (x.length:Int)) (by omega),iX ((N:Int)) (x.length) (by omega),.c (bWidth_pc (x.getD N wholeI) p ‹_› ‹_› (by omega) (by omega)),tB 31 (decide_eq_false hN),
    .o 34 (.e zeroP_le:PV.le (.e (.agg [(bP false),(.v (.slice none 0 0)),(iP 0)])) (.e (dyP zeroD)))] <| .nil) (by kernel_rfl)) (by nofun):LpT 5 Tryz.f56 (bWidFN x p N 0) .ret ⟨42,true,[(5,.e (bP false)),(4,.box 4 0)],[(4,.cells 24 (dyL zeroD))]⟩) (chain [.b 6 (.cells (fun _=>rfl) bzero_cells:Bx.le (.cells 24 [(bP false),(.v (.slice none 0 0)),(iP 0)]) (.cells 24 (dyL (widL x p 0))))] <| .nil)] <| .nil) (by kernel_rfl)
theorem widV_valid (x:List Iv) {p:Nat} (hp:1 ≤ p) (hp2:p ≤ 4096):(widV x p).Valid:=by
 unfold widV
 split
 ·exact widL_valid x hp hp2 _
 ·exact zeroD_valid
theorem boxWidth_pc (x:List Iv) (p:Nat) (x1:1 ≤ x.length) (x8:x.length ≤ 8) (hx:NoAll x) (hp1:8 ≤ p) (hp2:p ≤ 512):PCt 56 [ivsP x,iP (p:Int)] (.tup [dyP (widV x p),bP (widOk x p)]):=by
 unfold widV
 cases hw:widOk x p with
 | true =>
  rw [if_pos rfl]
  exact boxWidth_yes x p x1 x8 hx hp1 hp2 fun i hi=>of_decide_eq_true (List.all_eq_true.1 hw i (List.mem_range.2 hi))
 | false =>
  rw [if_neg (by decide)]
  obtain ⟨i,hi,hb⟩:=List.all_eq_false.1 hw
  obtain ⟨N,h1,h2,h3⟩:=least_true (p:=fun i=>!(decide (widE (x.getD i wholeI) p=0))) ⟨i,List.mem_range.1 hi,by simpa using hb⟩
  exact boxWidth_no x p x1 x8 hx hp1 hp2 N h1 (fun i hi=>by simpa using h3 i hi) (by simpa using h2)
end Go.Proofs.YtkbjkchapnjhgaaGreatDoor
namespace Go.Proofs.YtkbjkchapnjhgaaGreatDoor.Pu
open Go.RowKit
theorem rep_vals {bs br:Nat → Prop} {w:World} {xs:List Value} {a:Value} (h:Rep bs br w (.agg (xs.map E.v)) a):a = .agg xs.toArray:=by
 generalize he:E.agg (xs.map E.v)=e at h
 cases h with
 | agg l vs hl k =>
  cases he
  rw [List.length_map] at hl
  have:vs=xs:=List.ext_getElem? fun i=>by
   cases hx:xs[i]? with
   | none=>rw [List.getElem?_eq_none_iff] at hx ⊢; omega
   | some x =>
    obtain ⟨v,hv⟩:∃ v,vs[i]? = some v:=by
     have hi:i < xs.length:=(List.getElem?_eq_some_iff.1 hx).1
     exact ⟨vs[i]'(by omega),List.getElem?_eq_getElem (by omega)⟩
    rw [hv,Rep.v_inv (k i (.v x) v (by rw [List.getElem?_map,hx]; rfl) hv)]
  rw [this]
 | _=>cases he
theorem opEql_of {P:Program} {t:TypeId} {m D D':Nat} (hm:m ≤ 10000) (hk:P.keyTypeAt m t=true) (hg:P.eqGuardType P.depth t=false) {xs ys:List Value} {la lb:List Lit}
  (hx:P.keyLits D t xs=some la) (hy:P.keyLits D' t ys=some lb) (fx:(Value.agg xs.toArray).formed P t=true) (fy:(Value.agg ys.toArray).formed P t=true) {c:Bool} (hc:c=true ↔ la=lb) :
  OpOK P .eql t (.agg (xs.map E.v)) (.agg (ys.map E.v)) (.bool c):=by
 intro bs br w a b ox oy ha hb
 obtain rfl:=rep_vals ha
 obtain rfl:=rep_vals hb
 constructor
 ·simp only [eqGuard,Bool.not_true,Bool.false_eq_true,if_false,Sem.run_bind,run_program,Result.andThen_ok,hg,Bool.not_false,if_true,Sem.run_pure]
 ·obtain ⟨r,hr,hiff⟩:=run_equalIn_deep (10000 - m) m t hk w _ _ _ _ la lb fx fy (by simpa [Value.cells] using hx) (by simpa [Value.cells] using hy)
  rw [show 10000 - m+m=10000 by omega] at hr
  have e:r=c:=by rw [Bool.eq_iff_iff,hiff,hc]
  subst e
  have:(Op.equal t (.agg xs.toArray) (.agg ys.toArray)).run P w = .ok r w:=hr
  simp only [binOp,Sem.run_bind,this,Result.andThen_ok,Sem.run_pure]
end Go.Proofs.YtkbjkchapnjhgaaGreatDoor.Pu
namespace Go.Proofs.YtkbjkchapnjhgaaGreatDoor
open Go.RowKit Fp Pu
theorem opEql_same {t:TypeId} {m:Nat} (hm:m ≤ 10000) (hk:Tryz.prog.keyTypeAt m t=true) (hg:Tryz.prog.eqGuardType Tryz.prog.depth t=false) {xs:List Value} (hx:(Tryz.prog.keyLits 10 t xs).isSome=true)
  (fx:(Value.agg xs.toArray).formed Tryz.prog t=true):OpOK Tryz.prog .eql t (.agg (xs.map E.v)) (.agg (xs.map E.v)) (.bool true):=by
 obtain ⟨l,hl⟩:=Option.isSome_iff_exists.1 hx
 exact opEql_of hm hk hg hl hl fx fx (by simp)
theorem opEq6 {a b c d e f:Int} (h:a=0 ∧ b=0 ∧ c=0 ∧ d=0 ∧ e=0 ∧ f=0) :
  OpOK Tryz.prog .eql 101 (.agg [iP a,iP b,iP c,iP d,iP e,iP f]) (.agg [iP 0,iP 0,iP 0,iP 0,iP 0,iP 0]) (.bool true):=by
 obtain ⟨rfl,rfl,rfl,rfl,rfl,rfl⟩:=h
 exact opEql_same (m:=10) (xs:=[.int .i64 0,.int .i64 0,.int .i64 0,.int .i64 0,.int .i64 0,.int .i64 0]) (by decide) (by kernel_rfl) (by kernel_rfl) (by kernel_rfl) (by kernel_rfl)
theorem opEq2 {a b:Int} (h:a=0 ∧ b=0):OpOK Tryz.prog .eql 76 (.agg [iP a,iP b]) (.agg [iP 0,iP 0]) (.bool true):=by
 obtain ⟨rfl,rfl⟩:=h
 exact opEql_same (m:=10) (xs:=[.int .i64 0,.int .i64 0]) (by decide) (by kernel_rfl) (by kernel_rfl) (by kernel_rfl) (by kernel_rfl)
theorem opEq66 {a b c d e f a' b' c' d' e' f':Int} {r:Bool} (hx:Tryz.prog.keyLits 10 101 [.int .i64 a,.int .i64 b,.int .i64 c,.int .i64 d,.int .i64 e,.int .i64 f]=some [.int .i64 a,.int .i64 b,.int .i64 c,.int .i64 d,.int .i64 e,.int .i64 f]) (hy:Tryz.prog.keyLits 10 101 [.int .i64 a',.int .i64 b',.int .i64 c',.int .i64 d',.int .i64 e',.int .i64 f']=some [.int .i64 a',.int .i64 b',.int .i64 c',.int .i64 d',.int .i64 e',.int .i64 f'])
  (fx:(Value.agg (List.toArray [.int .i64 a,.int .i64 b,.int .i64 c,.int .i64 d,.int .i64 e,.int .i64 f])).formed Tryz.prog 101=true) (fy:(Value.agg (List.toArray [.int .i64 a',.int .i64 b',.int .i64 c',.int .i64 d',.int .i64 e',.int .i64 f'])).formed Tryz.prog 101=true) (h:decide (a=a' ∧ b=b' ∧ c=c' ∧ d=d' ∧ e=e' ∧ f=f')=r) :
  OpOK Tryz.prog .eql 101 (.agg [iP a,iP b,iP c,iP d,iP e,iP f]) (.agg [iP a',iP b',iP c',iP d',iP e',iP f']) (.bool r) :=
 opEql_of (m:=10) (xs:=[.int .i64 a,.int .i64 b,.int .i64 c,.int .i64 d,.int .i64 e,.int .i64 f]) (ys:=[.int .i64 a',.int .i64 b',.int .i64 c',.int .i64 d',.int .i64 e',.int .i64 f']) (by decide) (by kernel_rfl) (by kernel_rfl) hx hy fx fy (by subst h; simp)
theorem opEqS {a b:ByteArray} {r:Bool} (h:(a.toList == b.toList)=r):OpOK Tryz.prog .eql 9 (.v (.string a)) (.v (.string b)) (.bool r):=by
 intro bs br w x y ox oy hx hy
 obtain rfl:=Rep.v_inv hx
 obtain rfl:=Rep.v_inv hy
 subst h
 refine ⟨by simp [eqGuard],?_⟩
 show (Op.stringOp .eql a b).run Tryz.prog w=_
 unfold Op.stringOp
 simp only [Sem.run_pure]
open Go.RowKit Fp Pu
theorem run_append_zeros {P:Program} (w:World) (t tx ty e:TypeId) (i:TypeInfo) (z:Value) (ht:P.underlying t=some (.slice e)) (hx:P.underlying tx=some (.int .i64)) (hi:P.info? e=some i) (hz:i.zero=some z)
  (hsize:i.size ≠ 0) (n:Nat) (h0:0 < n) (h31:n ≤ 1000000) (h48:n * i.bytes ≤ 281474976710656) :
  (Builtin.append_ #[t,tx] ty #[.slice none 0 0,.int .i64 (n:Int)]).run P w =
   .ok (.slice (some ⟨w.heap.size,0,none⟩) n (grownCap w n 0 e)) (w.drew.alloc (.cells (Builtin.zeroCells z.cells n ++ Builtin.zeroCells z.cells (grownCap w n 0 e - n)) e)):=by
 have hn:n ≠ 0:=by omega
 have hns:n * i.size ≠ 0:=Nat.mul_ne_zero hn hsize
 have h63':¬ (9223372036854775807 < (n:Int)):=by omega
 have h48':¬ (281474976710656 < Builtin.nextslicecap n 0 * i.bytes):=by rw [nextslicecap_zero h0]; omega
 have hw:IntKind.i64.wrap (n:Int)=n:=i64_in _ (by omega) (by omega)
 have hneg:¬ ((n:Int) < 0):=by omega
 have h48i:¬ (281474976710656 < (n:Int) * (i.bytes:Int)):=by
  have:(n:Int) * (i.bytes:Int)=((n * i.bytes:Nat):Int):=by simp
  rw [this]; omega
 simp [Builtin.append_,run_underlying ht,run_underlying hx,sizeOf,typeInfo,zeroValue,hi,hz,asInt,asIntOf,hw,hneg,h48i,hn,hns,h63',h48',Question.forced,run_firstCells_none,newRow,grownCap]
theorem wpList_zeros {P:Program} {w:World} {ops:Array Oper} {rest:List Oper} {o:Oper} {a:Act} {Q:Exit → Act → World → Prop} (hgd:o.guard=none) (s x:Operand) (t tx:TypeId)
  (ho:o.op = .call { callee:=.builtin .append,args:=#[s,x],argTypes:=#[t,tx] })
  (e:TypeId) (i:TypeInfo) (z:Value) (ht:P.underlying t=some (.slice e)) (hx:P.underlying tx=some (.int .i64)) (hi:P.info? e=some i) (hz:i.zero=some z)
  (hsize:i.size ≠ 0) (n:Nat) (h0:0 < n) (h31:n ≤ 1000000) (h48:n * i.bytes ≤ 281474976710656) (hs:a.eval s = .slice none 0 0) (hxx:a.eval x = .int .i64 (n:Int))
  (h:wpList P ops Q rest (a.put o.dst (.slice (some ⟨w.heap.size,0,none⟩) n (grownCap w n 0 e))) (w.drew.alloc (.cells (Builtin.zeroCells z.cells n ++ Builtin.zeroCells z.cells (grownCap w n 0 e - n)) e))):wpList P ops Q (o :: rest) a w:=by
 refine wpList_plain hgd fun K hK=>?_
 have hrun:=run_append_zeros (P:=P) w t tx o.type e i z ht hx hi hz hsize n h0 h31 h48
 unfold Oper.wp
 simp [execOp,ho,resolve,invoke,builtin,hs,hxx,hrun,Result.andThen]
 exact hK _ _ h
theorem alloc_drew_below (w:World) (o:Obj):Below w.heap.size w (w.alloc o).drew:=⟨rfl,rfl,rfl,by rw [show (w.alloc o).drew.heap=w.heap.push o from rfl,Array.size_push]; omega,fun x hx=>Below.heap_alloc w _ x hx⟩
theorem alloc_drew_size (w:World) (o:Obj):w.heap.size < (w.alloc o).drew.heap.size:=by rw [show (w.alloc o).drew.heap=w.heap.push o from rfl,Array.size_push]; omega
theorem infoIv:(Tryz.prog.info? 26).map (fun i=>(i.zero,i.size,i.bytes))=some (some (.agg #[.bool false,.slice none 0 0,.int .i64 0,.bool false,.slice none 0 0,.int .i64 0,.bool false]),7,88):=by kernel_rfl
theorem zero_nl (n:Nat):∀ u,u ∈ Builtin.zeroCells (Value.cells (.agg #[.bool false,.slice none 0 0,.int .i64 0,.bool false,.slice none 0 0,.int .i64 0,.bool false])) n → isLimb u=false:=by
 intro u hu
 simp only [Builtin.zeroCells,Array.mem_map,Array.mem_range] at hu
 obtain ⟨q,hq,rfl⟩:=hu
 have hc:Value.cells (.agg #[.bool false,.slice none 0 0,.int .i64 0,.bool false,.slice none 0 0,.int .i64 0,.bool false]) = #[.bool false,.slice none 0 0,.int .i64 0,.bool false,.slice none 0 0,.int .i64 0,.bool false]:=rfl
 rw [hc] at hq ⊢
 have hs:(#[Value.bool false,.slice none 0 0,.int .i64 0,.bool false,.slice none 0 0,.int .i64 0,.bool false]:Array Value).size=7:=rfl
 rw [hs]
 have h7:q % 7 < 7:=Nat.mod_lt _ (by decide)
 generalize q % 7=k at h7
 rcases k with _ | _ | _ | _ | _ | _ | _ | k
 all_goals first | rfl | omega
set_option maxRecDepth 100000 in
set_option maxHeartbeats 1000000 in
theorem grow_pc (n:Nat) (hn:n ≤ 1000000):PCN Tryz.prog Tb 134 [.v (.slice none 0 0),iP ((n:Nat):Int)] true 26 0 7 (ivsE []):=by
 refine ⟨Tryz.call134,fun w B vs hK hB hr=>?_⟩
 obtain ⟨v1,vs,rfl,h1,hr⟩:=hr.uncons
 obtain ⟨v2,vs,rfl,h2,hr⟩:=hr.uncons
 obtain rfl:=hr.nil_inv
 obtain rfl:=Rep.v_inv h1
 obtain rfl:=Rep.v_inv h2
 show Calls _ _ #[.slice none 0 0,.int .i64 (n:Int)] w _
 clear h1 h2 hr hB hK
 by_cases h0:n=0
 ·subst h0
  go_enter Tryz.func134,Tryz.ntmps134
  go_wp2
  go_ret
  exact ⟨_,rfl,Below.refl _ _,fun _ _=>undef,.inl ⟨rfl,rfl⟩,fun x hx=>by simp [Value.ownBlock] at hx,fun i j hi=>absurd hi (Nat.not_lt_zero _)⟩
 ·obtain ⟨i,hi,hz,h1,h2⟩:=info_parts infoIv
  have hw:IntKind.i64.wrap ((n:Int) - 0)=n:=i64_in _ (by omega) (by omega)
  have hw2:IntKind.i64.wrap (n:Int)=n:=i64_in _ (by omega) (by omega)
  have e2:decide ((n:Int) < 0)=false:=decide_eq_false (by omega)
  have e3:decide ((0:Int) < (n:Int))=true:=decide_eq_true (by omega)
  have hcap:n ≤ grownCap w n 0 26:=grownCap_ge w n 0 _
  go_enter Tryz.func134,Tryz.ntmps134
  go_wp2_with (at_builtin; go_must (refine wpList_zeros (by rfl) _ _ _ _ (by rfl) _ i _ Tryz.underlying38 Tryz.underlying3 hi hz (by omega) n (by omega) (by omega) (by rw [h2]; omega) (by rfl) (by rfl) ?_))
  go_ret
  have hz7:(#[Value.bool false,.slice none 0 0,.int .i64 0,.bool false,.slice none 0 0,.int .i64 0,.bool false]:Array Value).size=7:=rfl
  refine ⟨_,rfl,alloc_drew_below w _,fun _ _=>undef,.inr ⟨w.heap.size,grownCap w n 0 26,_,rfl,heap_alloc_new w _,Nat.zero_le _,grownCap_le_maxLen w n 0 _ (by unfold maxLen; omega),?_,fun i j hi=>absurd hi (Nat.not_lt_zero _),fun _ u hu=>?_⟩,fun x hx=>?_,fun i j hi=>absurd hi (Nat.not_lt_zero _)⟩
  ·simp only [Array.size_append,size_zeroCells,hz7,← Nat.add_mul]
   congr 1
   omega
  ·rcases Array.mem_append.1 hu with hu | hu
   ·exact zero_nl _ u hu
   ·exact zero_nl _ u hu
  ·simp [Value.ownBlock] at hx
   subst hx
   exact ⟨Nat.le_refl _,alloc_drew_size w _⟩
open Go.RowKit Fp Pu
abbrev PCNt (f:FuncId) (args:List E) (nl:Bool) (T:TypeId) (n sz:Nat) (el:Nat → Nat → E):Prop:=PCN Tryz.prog Tb f args nl T n sz el
theorem trn {f:FuncId} {fn:Func} {args:List E} {nl:Bool} {T0:TypeId} {n sz:Nat} {el:Nat → Nat → E} (hcall:∀ (vs:Array Value) (w:World),(callFunc f vs).run Tryz.prog w = .ok (.enter f vs) w)
  (hf:Tryz.prog.funcs[f]? = some fn) (t:Tr Tryz.prog Tb) (h:readN TT fn args (.row nl T0 n sz el) t=t.ex fun _=>.a (Bx.le (.row nl T0 n sz el) (.row nl T0 n sz el)) .nil):PCNt f args nl T0 n sz el :=
 PCN.tr' TT_ok mixed Tb_pers hcall hf t h
open Go.RowKit Fp Pu
def tapeVF (t:TapeV) (x:Nat):PS:=⟨46,true,[(28,.e (iP x)),(27,.e (iP t.ops.length)),(26,.e (opsP t.ops)),(1,.box 1 0)],[(1,.cells 37 [(iP t.ins),(opsP t.ops),(natsP t.outs)])]⟩
def sysVF (s:SysV) (x:Nat):PS:=⟨85,true,[(31,.e (iP x)),(30,.e (iP s.tape.ops.length)),(29,.e (opsP s.tape.ops)),(3,.box 3 0),(1,.box 1 0)],[(3,.cells 37 [(iP s.tape.ins),(opsP s.tape.ops),(natsP s.tape.outs)]),(1,.cells 40 [(iP s.tape.ins),(opsP s.tape.ops),(natsP s.tape.outs),(iP s.states),(ivsP s.params)])]⟩
def tapeAllF (t:TapeV) (xs:List Iv) (p:Nat) (x:Nat):PS:=⟨75,true,[(26,.e (iP x)),(25,.e (iP t.ops.length)),(24,.e (opsP t.ops)),(7,.own 22),(2,.e (iP p))],[(22,.row true 26 ((valsI t.ops xs p x).length) 7 (ivsE (valsI t.ops xs p x)))]⟩
set_option maxHeartbeats 1000000 in
theorem operands_2 (k:Nat) (h1:3 ≤ k) (h2:k ≤ 6):PCt 149 [(iP k)] (iP 2):=by
 exact tr true Tryz.call149 Tryz.func149 (chain [tB 5 (beq_eq_false_iff_ne.2 (by omega):((k:Int) == 1)=false)] <| .w ((k:Int)=3)
  (fun k1=>chain [tB 7 (beq_iff_eq.2 k1)] <| .nil)
  (fun k1=>chain [tB 7 (beq_eq_false_iff_ne.2 k1)] <| .w ((k:Int)=4)
   (fun k2=>chain [tB 8 (beq_iff_eq.2 k2)] <| .nil)
   (fun k2=>chain [tB 8 (beq_eq_false_iff_ne.2 k2)] <| .w ((k:Int)=5)
    (fun k3=>chain [tB 9 (beq_iff_eq.2 k3)] <| .nil)
    (fun k3=>chain [tB 9 (beq_eq_false_iff_ne.2 k3)] <| .w ((k:Int)=6)
     (fun k4=>chain [tB 10 (beq_iff_eq.2 k4)] <| .nil)
     (fun k4=>.x (by omega)))))) (by kernel_rfl)
set_option maxHeartbeats 1000000 in
theorem operands_1 (k:Nat) (h1:7 ≤ k) (h2:k ≤ 13):PCt 149 [(iP k)] (iP 1):=by
 exact tr true Tryz.call149 Tryz.func149 (chain [tB 5 (beq_eq_false_iff_ne.2 (by omega):((k:Int) == 1)=false),tB 7 (beq_eq_false_iff_ne.2 (by omega):((k:Int) == 3)=false),tB 8 (beq_eq_false_iff_ne.2 (by omega):((k:Int) == 4)=false),
  tB 9 (beq_eq_false_iff_ne.2 (by omega):((k:Int) == 5)=false),tB 10 (beq_eq_false_iff_ne.2 (by omega):((k:Int) == 6)=false)] <| .w ((k:Int)=7)
  (fun k1=>chain [tB 12 (beq_iff_eq.2 k1)] <| .nil)
  (fun k1=>chain [tB 12 (beq_eq_false_iff_ne.2 k1)] <| .w ((k:Int)=8)
   (fun k2=>chain [tB 13 (beq_iff_eq.2 k2)] <| .nil)
   (fun k2=>chain [tB 13 (beq_eq_false_iff_ne.2 k2)] <| .w ((k:Int)=9)
    (fun k3=>chain [tB 14 (beq_iff_eq.2 k3)] <| .nil)
    (fun k3=>chain [tB 14 (beq_eq_false_iff_ne.2 k3)] <| .w ((k:Int)=10)
     (fun k4=>chain [tB 15 (beq_iff_eq.2 k4)] <| .nil)
     (fun k4=>chain [tB 15 (beq_eq_false_iff_ne.2 k4)] <| .w ((k:Int)=11)
      (fun k5=>chain [tB 16 (beq_iff_eq.2 k5)] <| .nil)
      (fun k5=>chain [tB 16 (beq_eq_false_iff_ne.2 k5)] <| .w ((k:Int)=12)
       (fun k6=>chain [tB 17 (beq_iff_eq.2 k6)] <| .nil)
       (fun k6=>chain [tB 17 (beq_eq_false_iff_ne.2 k6)] <| .w ((k:Int)=13)
        (fun k7=>chain [tB 18 (beq_iff_eq.2 k7)] <| .nil)
        (fun k7=>.x (by omega))))))))) (by kernel_rfl)
theorem OpOk.bin {o:OpV} {m:Nat} (h:OpOk o m) (hk:o.kind ≤ 6):3 ≤ o.kind ∧ o.a < m ∧ o.b < m ∧ o.n=0 ∧ o.cn=0 ∧ o.cd=0:=by
 have hb:=h.b
 have hn:=h.n
 rw [if_pos hk] at hb
 rw [if_neg (by omega)] at hn
 exact ⟨h.k3,h.a,hb,hn,h.cn,h.cd⟩
theorem OpOk.pow {o:OpV} {m:Nat} (h:OpOk o m) (hk:o.kind=8):o.a < m ∧ o.b=0 ∧ o.n ≤ 16 ∧ o.cn=0 ∧ o.cd=0:=by
 have hb:=h.b
 have hn:=h.n
 rw [if_neg (by omega)] at hb
 rw [if_pos hk] at hn
 exact ⟨h.a,hb,hn,h.cn,h.cd⟩
theorem OpOk.un {o:OpV} {m:Nat} (h:OpOk o m) (hk:¬ o.kind ≤ 6) (hk8:o.kind ≠ 8):o.kind ≤ 13 ∧ o.a < m ∧ o.b=0 ∧ o.n=0 ∧ o.cn=0 ∧ o.cd=0:=by
 have hb:=h.b
 have hn:=h.n
 rw [if_neg hk] at hb
 rw [if_neg hk8] at hn
 exact ⟨h.k13,h.a,hb,hn,h.cn,h.cd⟩
set_option maxHeartbeats 1000000 in
theorem proper_bin (o:OpV) (m:Nat) (h:OpOk o m) (hk:o.kind ≤ 6):PCt 164 [(opP o),(iP m)] (bP true):=by
 obtain ⟨h1,h2,h3,h4,h5,h6⟩:=h.bin hk
 exact tr true Tryz.call164 Tryz.func164 (chain [.c (operands_2 o.kind (by omega) (by omega)),tB 14 (by decide:(decide ((2:Int) < 0))=false),tB 17 (by decide:((2:Int) == 0)=false),tB 26 (beq_eq_false_iff_ne.2 (by omega):((o.kind:Int) == 8)=false),
  tB 37 (by decide:(decide ((0:Int) < 2))=true),tF 40 ((o.a:Int) < 0) (by omega),tF 45 ((m:Int) ≤ (o.a:Int)) (by omega),tB 49 (by decide:(decide ((1:Int) < 2))=true),
  tF 52 ((o.b:Int) < 0) (by omega),tF 57 ((m:Int) ≤ (o.b:Int)) (by omega),
  .g (opEq6 ⟨by omega,by omega,by omega,by omega,by omega,by omega⟩:OpOK Tryz.prog .eql 101 (.agg [(iP 0),(iP 0),(iP 0),(iP o.n),(iP o.cn),(iP o.cd)]) (.agg [(iP 0),(iP 0),(iP 0),(iP 0),(iP 0),(iP 0)]) (.bool true))] <| .nil) (by kernel_rfl)
set_option maxHeartbeats 1000000 in
theorem proper_pow (o:OpV) (m:Nat) (h:OpOk o m) (hk:o.kind=8):PCt 164 [(opP o),(iP m)] (bP true):=by
 obtain ⟨h2,h3,h4,h5,h6⟩:=h.pow hk
 exact tr true Tryz.call164 Tryz.func164 (chain [.c (operands_1 o.kind (by omega) (by omega)),tB 14 (by decide:(decide ((1:Int) < 0))=false),tB 17 (by decide:((1:Int) == 0)=false),tB 26 (beq_iff_eq.2 (by omega):((o.kind:Int) == 8)=true),
  tF 29 ((o.n:Int) < 0) (by omega),tF 33 (16 < (o.n:Int)) (by omega),tB 37 (by decide:(decide ((0:Int) < 1))=true),tF 40 ((o.a:Int) < 0) (by omega),
  tF 45 ((m:Int) ≤ (o.a:Int)) (by omega),tB 49 (by decide:(decide ((1:Int) < 1))=false),
  .g (opEq6 ⟨by omega,by omega,by omega,by omega,by omega,by omega⟩:OpOK Tryz.prog .eql 101 (.agg [(iP 0),(iP 0),(iP o.b),(iP 0),(iP o.cn),(iP o.cd)]) (.agg [(iP 0),(iP 0),(iP 0),(iP 0),(iP 0),(iP 0)]) (.bool true))] <| .nil) (by kernel_rfl)
set_option maxHeartbeats 1000000 in
theorem proper_un (o:OpV) (m:Nat) (h:OpOk o m) (hk:¬ o.kind ≤ 6) (hk8:o.kind ≠ 8):PCt 164 [(opP o),(iP m)] (bP true):=by
 obtain ⟨h1,h2,h3,h4,h5,h6⟩:=h.un hk hk8
 exact tr true Tryz.call164 Tryz.func164 (chain [.c (operands_1 o.kind (by omega) (by omega)),tB 14 (by decide:(decide ((1:Int) < 0))=false),tB 17 (by decide:((1:Int) == 0)=false),tB 26 (beq_eq_false_iff_ne.2 (by omega):((o.kind:Int) == 8)=false),
  tB 37 (by decide:(decide ((0:Int) < 1))=true),tF 40 ((o.a:Int) < 0) (by omega),tF 45 ((m:Int) ≤ (o.a:Int)) (by omega),tB 49 (by decide:(decide ((1:Int) < 1))=false),
  .g (opEq6 ⟨by omega,by omega,by omega,by omega,by omega,by omega⟩:OpOK Tryz.prog .eql 101 (.agg [(iP 0),(iP 0),(iP o.b),(iP o.n),(iP o.cn),(iP o.cd)]) (.agg [(iP 0),(iP 0),(iP 0),(iP 0),(iP 0),(iP 0)]) (.bool true))] <| .nil) (by kernel_rfl)
set_option maxHeartbeats 1000000 in
theorem sysOp_bin (o:OpV) (m:Nat) (h:OpOk o m) (hk:o.kind ≤ 6):PCt 66 [(opP o),(iP m)] (bP true):=by
 obtain ⟨h1,h2,h3,h4,h5,h6⟩:=h.bin hk
 exact tr true Tryz.call66 Tryz.func66 (chain [tF 8 ((o.a:Int) < 0) (by omega),tF 12 ((o.b:Int) < 0) (by omega),.g (opEq2 ⟨by omega,by omega⟩:OpOK Tryz.prog .eql 76 (.agg [(iP o.cn),(iP o.cd)]) (.agg [(iP 0),(iP 0)]) (.bool true)),
  tB 21 (beq_eq_false_iff_ne.2 (by omega):((o.kind:Int) == 1)=false)] <| .w ((o.kind:Int)=3)
  (fun k1=>chain [tB 41 (beq_iff_eq.2 k1),tT 50 ((o.a:Int) < (m:Int)) (by omega),tT 56 ((o.b:Int) < (m:Int)) (by omega),tB 61 (beq_iff_eq.2 (by omega):((o.n:Int) == 0)=true)] <| .nil)
  (fun k1=>chain [tB 41 (beq_eq_false_iff_ne.2 k1)] <| .w ((o.kind:Int)=4)
   (fun k2=>chain [tB 42 (beq_iff_eq.2 k2),tT 50 ((o.a:Int) < (m:Int)) (by omega),tT 56 ((o.b:Int) < (m:Int)) (by omega),tB 61 (beq_iff_eq.2 (by omega):((o.n:Int) == 0)=true)] <| .nil)
   (fun k2=>chain [tB 42 (beq_eq_false_iff_ne.2 k2)] <| .w ((o.kind:Int)=5)
    (fun k3=>chain [tB 43 (beq_iff_eq.2 k3),tT 50 ((o.a:Int) < (m:Int)) (by omega),tT 56 ((o.b:Int) < (m:Int)) (by omega),tB 61 (beq_iff_eq.2 (by omega):((o.n:Int) == 0)=true)] <| .nil)
    (fun k3=>chain [tB 43 (beq_eq_false_iff_ne.2 k3)] <| .w ((o.kind:Int)=6)
     (fun k4=>chain [tB 44 (beq_iff_eq.2 k4),tT 50 ((o.a:Int) < (m:Int)) (by omega),tT 56 ((o.b:Int) < (m:Int)) (by omega),tB 61 (beq_iff_eq.2 (by omega):((o.n:Int) == 0)=true)] <| .nil)
     (fun k4=>.x (by omega)))))) (by kernel_rfl)
set_option maxHeartbeats 1000000 in
theorem sysOp_pow (o:OpV) (m:Nat) (h:OpOk o m) (hk:o.kind=8):PCt 66 [(opP o),(iP m)] (bP true):=by
 obtain ⟨h2,h3,h4,h5,h6⟩:=h.pow hk
 exact tr true Tryz.call66 Tryz.func66 (chain [tF 8 ((o.a:Int) < 0) (by omega),tF 12 ((o.b:Int) < 0) (by omega),.g (opEq2 ⟨by omega,by omega⟩:OpOK Tryz.prog .eql 76 (.agg [(iP o.cn),(iP o.cd)]) (.agg [(iP 0),(iP 0)]) (.bool true)),
  tB 21 (beq_eq_false_iff_ne.2 (by omega):((o.kind:Int) == 1)=false),tB 41 (beq_eq_false_iff_ne.2 (by omega):((o.kind:Int) == 3)=false),
  tB 42 (beq_eq_false_iff_ne.2 (by omega):((o.kind:Int) == 4)=false),tB 43 (beq_eq_false_iff_ne.2 (by omega):((o.kind:Int) == 5)=false),
  tB 44 (beq_eq_false_iff_ne.2 (by omega):((o.kind:Int) == 6)=false),tB 64 (beq_iff_eq.2 (by omega):((o.kind:Int) == 8)=true),tT 70 ((o.a:Int) < (m:Int)) (by omega),
  tB 75 (beq_iff_eq.2 (by omega):((o.b:Int) == 0)=true),tT 80 (0 ≤ (o.n:Int)) (by omega),tT 85 ((o.n:Int) ≤ 16) (by omega)] <| .nil) (by kernel_rfl)
set_option maxHeartbeats 1000000 in
theorem sysOp_un (o:OpV) (m:Nat) (h:OpOk o m) (hk:¬ o.kind ≤ 6) (hk8:o.kind ≠ 8):PCt 66 [(opP o),(iP m)] (bP true):=by
 obtain ⟨h1,h2,h3,h4,h5,h6⟩:=h.un hk hk8
 exact tr true Tryz.call66 Tryz.func66 (chain [tF 8 ((o.a:Int) < 0) (by omega),tF 12 ((o.b:Int) < 0) (by omega),.g (opEq2 ⟨by omega,by omega⟩:OpOK Tryz.prog .eql 76 (.agg [(iP o.cn),(iP o.cd)]) (.agg [(iP 0),(iP 0)]) (.bool true)),
  tB 21 (beq_eq_false_iff_ne.2 (by omega):((o.kind:Int) == 1)=false),tB 41 (beq_eq_false_iff_ne.2 (by omega):((o.kind:Int) == 3)=false),
  tB 42 (beq_eq_false_iff_ne.2 (by omega):((o.kind:Int) == 4)=false),tB 43 (beq_eq_false_iff_ne.2 (by omega):((o.kind:Int) == 5)=false),
  tB 44 (beq_eq_false_iff_ne.2 (by omega):((o.kind:Int) == 6)=false),tB 64 (beq_eq_false_iff_ne.2 (by omega):((o.kind:Int) == 8)=false)] <| .w ((o.kind:Int)=7)
  (fun k1=>chain [tB 88 (beq_iff_eq.2 k1),tT 99 ((o.a:Int) < (m:Int)) (by omega),tB 104 (beq_iff_eq.2 (by omega):((o.b:Int) == 0)=true),tB 109 (beq_iff_eq.2 (by omega):((o.n:Int) == 0)=true)] <| .nil)
  (fun k1=>chain [tB 88 (beq_eq_false_iff_ne.2 k1)] <| .w ((o.kind:Int)=9)
   (fun k2=>chain [tB 89 (beq_iff_eq.2 k2),tT 99 ((o.a:Int) < (m:Int)) (by omega),tB 104 (beq_iff_eq.2 (by omega):((o.b:Int) == 0)=true),tB 109 (beq_iff_eq.2 (by omega):((o.n:Int) == 0)=true)] <| .nil)
   (fun k2=>chain [tB 89 (beq_eq_false_iff_ne.2 k2)] <| .w ((o.kind:Int)=10)
    (fun k3=>chain [tB 90 (beq_iff_eq.2 k3),tT 99 ((o.a:Int) < (m:Int)) (by omega),tB 104 (beq_iff_eq.2 (by omega):((o.b:Int) == 0)=true),tB 109 (beq_iff_eq.2 (by omega):((o.n:Int) == 0)=true)] <| .nil)
    (fun k3=>chain [tB 90 (beq_eq_false_iff_ne.2 k3)] <| .w ((o.kind:Int)=11)
     (fun k4=>chain [tB 91 (beq_iff_eq.2 k4),tT 99 ((o.a:Int) < (m:Int)) (by omega),tB 104 (beq_iff_eq.2 (by omega):((o.b:Int) == 0)=true),tB 109 (beq_iff_eq.2 (by omega):((o.n:Int) == 0)=true)] <| .nil)
     (fun k4=>chain [tB 91 (beq_eq_false_iff_ne.2 k4)] <| .w ((o.kind:Int)=12)
      (fun k5=>chain [tB 92 (beq_iff_eq.2 k5),tT 99 ((o.a:Int) < (m:Int)) (by omega),tB 104 (beq_iff_eq.2 (by omega):((o.b:Int) == 0)=true),tB 109 (beq_iff_eq.2 (by omega):((o.n:Int) == 0)=true)] <| .nil)
      (fun k5=>chain [tB 92 (beq_eq_false_iff_ne.2 k5)] <| .w ((o.kind:Int)=13)
       (fun k6=>chain [tB 93 (beq_iff_eq.2 k6),tT 99 ((o.a:Int) < (m:Int)) (by omega),tB 104 (beq_iff_eq.2 (by omega):((o.b:Int) == 0)=true),tB 109 (beq_iff_eq.2 (by omega):((o.n:Int) == 0)=true)] <| .nil)
       (fun k6=>.x (by omega)))))))) (by kernel_rfl)
theorem proper_pc (o:OpV) (m:Nat) (h:OpOk o m):PCt 164 [opP o,iP (m:Int)] (bP true):=by
 by_cases hk:o.kind ≤ 6
 ·exact proper_bin o m h hk
 ·by_cases hk8:o.kind=8
  ·exact proper_pow o m h hk8
  ·exact proper_un o m h hk hk8
theorem sysOp_pc (o:OpV) (m:Nat) (h:OpOk o m):PCt 66 [opP o,iP (m:Int)] (bP true):=by
 by_cases hk:o.kind ≤ 6
 ·exact sysOp_bin o m h hk
 ·by_cases hk8:o.kind=8
  ·exact sysOp_pow o m h hk8
  ·exact sysOp_un o m h hk hk8
set_option maxHeartbeats 1000000 in
theorem tapeOut_pc (t:TapeV) (k:Nat) (hk:k < t.ins+t.ops.length) (h8:t.ins ≤ 8) (h200:t.ops.length ≤ 200):PCt 165 [(iP k),(.ref 3 fun j_=>[(iP t.ins),(opsP t.ops),(natsP t.outs)].getD j_ .any)] (bP false):=by
 exact tr true Tryz.call165 Tryz.func165 (chain [tF 5 ((k:Int) < 0) (by omega),r64 ((t.ins:Int)+(t.ops.length:Int)) (by omega),tF 14 ((((t.ins+t.ops.length):Nat):Int) ≤ (k:Int)) (by omega)] <| .nil) (by kernel_rfl)
set_option maxHeartbeats 1000000 in
theorem tapeValid_pc (t:TapeV) (h:TapeOk t):PCt 146 [(tapeP t)] (bP true):=by
 have h8:=h.ins
 have hops:=h.ops
 have hou:=h.outs
 exact tr true Tryz.call146 Tryz.func146 (chain [tF 7 ((t.ins:Int) < 0) (by omega),tF 11 (8 < (t.ins:Int)) (by omega),tF 17 (200 < (t.ops.length:Int)) (by omega),tF 23 (200 < (t.outs.length:Int)) (by omega),
  .s (Sp.upto (tapeVF t) 0 t.ops.length (by omega) (fun x hx hltx=>by
    have hop:=h.op x (by omega)
    exact spt (chain [tT 29 ((x:Int) < (t.ops.length:Int)) (by omega),iX ((x:Int)) (t.ops.length) (by omega),r64 ((t.ins:Int)+(x:Int)) (by omega),
     .c (proper_pc _ _ hop:PCt 164 [(opP (t.ops.getD x opV0)),(iP (((t.ins+x):Nat):Int))] _),r64 ((x:Int)+1) (by omega)] <| .nil) (by kernel_rfl))
  (fun hx=>by
    exact spt (chain [tF 29 ((t.ops.length:Int) < (t.ops.length:Int)) (by omega)] <| .nil) (by kernel_rfl)) (by nofun):LpT 4 Tryz.f146 (tapeVF t 0) (.exit 0) ⟨46,true,[(1,.box 1 0)],[(1,.cells 37 [(iP t.ins),(opsP t.ops),(natsP t.outs)])]⟩) .nil,
  .c (int_hasnt true _ _ 165 [(.ref 3 fun j_=>[(iP t.ins),(opsP t.ops),(natsP t.outs)].getD j_ .any)] (fun _=>false) (fun i hi=>tapeOut_pc t _ (h.out i hi) h8 hops) (by omega) (fun _ _=>rfl):PCt 67 [(natsP t.outs),(.fn 165 [(.ref 3 fun j_=>[(iP t.ins),(opsP t.ops),(natsP t.outs)].getD j_ .any)])] _)] <| .nil) (by kernel_rfl)
set_option maxHeartbeats 1000000 in
theorem sysOut_pc (t:TapeV) (k:Nat) (hk:k < t.ins+t.ops.length) (h8:t.ins ≤ 8) (h200:t.ops.length ≤ 200):PCt 68 [(iP k),(.ref 3 fun j_=>[(iP t.ins),(opsP t.ops),(natsP t.outs)].getD j_ .any)] (bP false):=by
 exact tr true Tryz.call68 Tryz.func68 (chain [tF 5 ((k:Int) < 0) (by omega),r64 ((t.ins:Int)+(t.ops.length:Int)) (by omega),tF 14 ((((t.ins+t.ops.length):Nat):Int) ≤ (k:Int)) (by omega)] <| .nil) (by kernel_rfl)
set_option maxHeartbeats 1000000 in
theorem sysParam_pc (x:Iv) (hx:x.Valid) (xa:x.all=false):PCt 70 [(ivP x)] (bP false):=by
 obtain ⟨w1,w2,w3⟩:=ivOff hx xa
 exact tr true Tryz.call70 Tryz.func70 (chain [tB 4 (xa:x.all=false),.c (dyValid_pc _ ‹_›:PCt 30 [(dyP x.lo)] _),.c (dyValid_pc _ ‹_›:PCt 30 [(dyP x.hi)] _),.c (dyCmp_pc _ _ ‹_› ‹_›:PCt 71 [(dyP x.lo),(dyP x.hi)] _),
  tF 23 (0 < (cmpD x.lo x.hi)) (by omega)] <| .nil) (by kernel_rfl)
set_option maxHeartbeats 1000000 in
theorem sysValid_pc (s:SysV) (h:SysOk s):PCt 49 [(sysP s)] (bP true):=by
 have h8:=h.tape.ins
 have hops:=h.tape.ops
 have hou:=h.tape.outs
 have s1:=h.s1
 have s4:=h.s4
 have ho:=h.outs
 have hi:=h.ins
 have p4:=h.p4
 exact tr true Tryz.call49 Tryz.func49 (chain [tF 10 ((s.tape.ins:Int) < 0) (by omega),tF 14 (8 < (s.tape.ins:Int)) (by omega),tF 20 (200 < (s.tape.ops.length:Int)) (by omega),tF 26 (200 < (s.tape.outs.length:Int)) (by omega),
  .s (Sp.upto (sysVF s) 0 s.tape.ops.length (by omega) (fun x hx hltx=>by
    have hop:=h.tape.op x (by omega)
    exact spt (chain [tT 32 ((x:Int) < (s.tape.ops.length:Int)) (by omega),iX ((x:Int)) (s.tape.ops.length) (by omega),r64 ((s.tape.ins:Int)+(x:Int)) (by omega),
     .c (sysOp_pc _ _ hop:PCt 66 [(opP (s.tape.ops.getD x opV0)),(iP (((s.tape.ins+x):Nat):Int))] _),r64 ((x:Int)+1) (by omega)] <| .nil) (by kernel_rfl))
  (fun hx=>by
    exact spt (chain [tF 32 ((s.tape.ops.length:Int) < (s.tape.ops.length:Int)) (by omega)] <| .nil) (by kernel_rfl)) (by nofun):LpT 5 Tryz.f49 (sysVF s 0) (.exit 0) ⟨85,true,[(3,.box 3 0),(1,.box 1 0)],[(3,.cells 37 [(iP s.tape.ins),(opsP s.tape.ops),(natsP s.tape.outs)]),(1,.cells 40 [(iP s.tape.ins),(opsP s.tape.ops),(natsP s.tape.outs),(iP s.states),(ivsP s.params)])]⟩) .nil,
  .c (int_hasnt true _ _ 68 [(.ref 3 fun j_=>[(iP s.tape.ins),(opsP s.tape.ops),(natsP s.tape.outs)].getD j_ .any)] (fun _=>false) (fun i hi=>sysOut_pc s.tape _ (h.tape.out i hi) h8 hops) (by omega) (fun _ _=>rfl):PCt 67 [(natsP s.tape.outs),(.fn 68 [(.ref 3 fun j_=>[(iP s.tape.ins),(opsP s.tape.ops),(natsP s.tape.outs)].getD j_ .any)])] _),
  tF 50 ((s.states:Int) < 1) (by omega),tF 54 (4 < (s.states:Int)) (by omega),tB 62 (natNe_false (by omega):((s.tape.outs.length:Int) != (s.states:Int))=false),
  r64 ((s.states:Int)+(s.params.length:Int)) (by omega),tB 73 (natNe_false (by omega):((s.tape.ins:Int) != (((s.states+s.params.length):Nat):Int))=false),
  tF 79 (4 < (s.params.length:Int)) (by omega),.c (iv_hasnt true _ _ 70 [] (fun _=>false) (fun i hi=>sysParam_pc _ (h.params i hi).1 (h.params i hi).2) (by omega) (fun _ _=>rfl):PCt 69 [(ivsP s.params),(.fn 70 [])] _)] <| .nil) (by kernel_rfl)
def RatOp (o:OpV):Prop:=3 ≤ o.kind ∧ o.kind ≤ 8 ∧ o.n ≤ 16
set_option maxHeartbeats 1000000 in
theorem apply_pc (o:OpV) (x y:Iv) (p:Nat) (hx:x.Valid) (hy:y.Valid) (hr:RatOp o) (hp1:8 ≤ p) (hp2:p ≤ 512):PCt 151 [(iP o.kind),(iP o.n),(ivP x),(ivP y),(iP p)] (ivP (apI o x y p)):=by
 obtain ⟨r1,r2,r3⟩:=hr
 exact tr true Tryz.call151 Tryz.func151 (.w ((o.kind:Int)=3)
  (fun k1=>chain [tB 13 (beq_iff_eq.2 k1),.c (ivAdd_pc x y p ‹_› ‹_› (by omega) (by omega))] <| rQ (ivP (addI x y p)) (ivP (apI o x y p)) (by unfold apI; simp [show o.kind=3 from by omega]))
  (fun k1=>chain [tB 13 (beq_eq_false_iff_ne.2 k1)] <| .w ((o.kind:Int)=4)
   (fun k2=>chain [tB 19 (beq_iff_eq.2 k2),.c (ivSub_pc x y p ‹_› ‹_› (by omega) (by omega))] <| rQ (ivP (subI x y p)) (ivP (apI o x y p)) (by unfold apI; simp [show ¬ o.kind=3 from by omega,show o.kind=4 from by omega]))
   (fun k2=>chain [tB 19 (beq_eq_false_iff_ne.2 k2)] <| .w ((o.kind:Int)=5)
    (fun k3=>chain [tB 25 (beq_iff_eq.2 k3),.c (ivMul_pc x y p ‹_› ‹_› (by omega) (by omega))] <| rQ (ivP (mulI x y p)) (ivP (apI o x y p)) (by unfold apI; simp [show ¬ o.kind=3 from by omega,show ¬ o.kind=4 from by omega,show o.kind=5 from by omega]))
    (fun k3=>chain [tB 25 (beq_eq_false_iff_ne.2 k3)] <| .w ((o.kind:Int)=6)
     (fun k4=>chain [tB 31 (beq_iff_eq.2 k4),.c (ivDiv_pc x y p ‹_› ‹_› (by omega) (by omega))] <| rQ (ivP (divI x y p)) (ivP (apI o x y p)) (by unfold apI; simp [show ¬ o.kind=3 from by omega,show ¬ o.kind=4 from by omega,show ¬ o.kind=5 from by omega,show o.kind=6 from by omega]))
     (fun k4=>chain [tB 31 (beq_eq_false_iff_ne.2 k4)] <| .w ((o.kind:Int)=7)
      (fun k5=>chain [tB 37 (beq_iff_eq.2 k5),.c (ivNeg_pc x ‹_›)] <| rQ (ivP (negI x)) (ivP (apI o x y p)) (by unfold apI; simp [show ¬ o.kind=3 from by omega,show ¬ o.kind=4 from by omega,show ¬ o.kind=5 from by omega,show ¬ o.kind=6 from by omega,show o.kind=7 from by omega]))
      (fun k5=>chain [tB 37 (beq_eq_false_iff_ne.2 k5)] <| .w ((o.kind:Int)=8)
       (fun k6=>chain [tB 41 (beq_iff_eq.2 k6),.c (bPower_pc _ _ _ ‹_› (by omega) (by omega) (by omega):PCt 171 [(ivP x),(iP o.n),(iP p)] _)] <| rQ (ivP (pwrI x o.n p)) (ivP (apI o x y p)) (by unfold apI; simp [show ¬ o.kind=3 from by omega,show ¬ o.kind=4 from by omega,show ¬ o.kind=5 from by omega,show ¬ o.kind=6 from by omega,show ¬ o.kind=7 from by omega,show o.kind=8 from by omega]))
       (fun k6=>.x (by omega)))))))) (by kernel_rfl)
theorem brow0_le {nl:Bool} {T n n' sz:Nat} {f g h:Nat → Nat → E} (hn:n=n') (hh:∀ i j,i < n → j < sz → g i j=h i j ∧ (h i j).nr 2=true):Bx.le (.row nl T (0+n) sz fun i j=>if i < 0 then f i j else g (i - 0) j) (.row nl T n' sz h) :=
 .row (by omega) fun i j hi hj=>by
  have hi':i < n:=by omega
  simp only [Nat.not_lt_zero,if_false,Nat.sub_zero]
  exact ⟨.of_eq (hh i j hi' hj).1,(hh i j hi' hj).2⟩
theorem bCloneIv_pc (r:List Iv) (h0:0 < r.length) (hl:r.length ≤ 1000):PCNt 148 [ivsP r] true 26 r.length 7 (ivsE r):=by
 exact trn Tryz.call148 Tryz.func148 (chain [.a (by omega:0 < r.length),.bo,.a (by omega:(0+r.length) * 88 ≤ 140737488355328)] <| .rb (brow0_le rfl fun i j hi hj=>⟨rfl,ivL_nr _ _ hj⟩:Bx.le (.row true 26 (0+r.length) 7 (fun i_ j_=>if i_ < 0 then (fun i_ j_=>([]:List E).getD (i_ * 7+j_) (.v (.bool false))) i_ j_ else (E.elf (ivsP r)) (i_ - 0) j_)) (.row true 26 r.length 7 (ivsE r)))) (by kernel_rfl)
theorem vals_push {T n n' x:Nat} {t:TapeV} {xs:List Iv} {p:Nat} {y:Iv} (hn:n=(valsI t.ops xs p x).length) (hn':n'=(valsI t.ops xs p (x+1)).length) (hy:apV (t.ops.getD x opV0) (valsI t.ops xs p x) p=y) :
  Bx.le (.row true T (n + [y].length) 7 fun i j=>if i < n then ivsE (valsI t.ops xs p x) i j else (E.elf (ivsP [y])) (i - n) j) (.row true T n' 7 (ivsE (valsI t.ops xs p (x+1)))):=by
 subst hn' hy
 exact ivs_push hn
set_option maxHeartbeats 1000000 in
theorem tapeAll_pc (t:TapeV) (xs:List Iv) (p:Nat) (h:TapeOk t) (h1:1 ≤ xs.length) (hx:xs.length=t.ins) (hv:Vals xs) (hr:∀ i,i < t.ops.length → RatOp (t.ops.getD i opV0)) (hp1:8 ≤ p) (hp2:p ≤ 512):PCt 132 [(tapeP t),(ivsP xs),(iP p)] (ivsP (valsI t.ops xs p t.ops.length)):=by
 have h8:=h.ins
 have hops:=h.ops
 exact tr true Tryz.call132 Tryz.func132 (chain [.c (tapeValid_pc t ‹_›),tB 19 (natNe_false hx:((xs.length:Int) != (t.ins:Int))=false),.cn (bCloneIv_pc _ (by omega) (by omega):PCNt 148 [(ivsP xs)] true 26 xs.length 7 (ivsE xs)),
  .s (Sp.upto (tapeAllF t xs p) 0 t.ops.length (by omega) (fun x hx hltx=>by
    have hop:=h.op x (by omega)
    have hro:=hr x (by omega)
    obtain ⟨r1,r2,r3⟩:=hr x (by omega)
    have hvx:=vals_valid t.ops hv (show 1 ≤ p by omega) (show p ≤ 4096 by omega) x
    have hln:=vals_len t.ops xs p x
    have w1:=hvx ((t.ops.getD x opV0)).a
    by_cases hk:((t.ops.getD x opV0)).kind ≤ 6
    ·have hk0:((t.ops.getD x opV0)).kind ≤ 6:=hk
     have hstep:apV (t.ops.getD x opV0) (valsI t.ops xs p x) p=(apI (t.ops.getD x opV0) ((valsI t.ops xs p x).getD ((t.ops.getD x opV0).a) wholeI) ((valsI t.ops xs p x).getD ((t.ops.getD x opV0).b) wholeI) p):=by unfold apV binB; rw [decide_eq_true hk0]; rfl
     obtain ⟨o1,o2,o3,o4,o5,o6⟩:=hop.bin hk0
     have w2:=hvx ((t.ops.getD x opV0)).b
     have hol:=one_len (apI (t.ops.getD x opV0) ((valsI t.ops xs p x).getD ((t.ops.getD x opV0).a) wholeI) ((valsI t.ops xs p x).getD ((t.ops.getD x opV0).b) wholeI) p)
     exact spt (chain [tT 27 ((x:Int) < (t.ops.length:Int)) (by omega),iX ((x:Int)) (t.ops.length) (by omega),.c (operands_2 ((t.ops.getD x opV0).kind:Nat) (by omega) (by omega)),tB 50 (by decide:((2:Int) == 0)=false),
      tB 56 (by decide:((2:Int) == 1)=false),iX ((((t.ops.getD x opV0).a:Nat):Int)) ((valsI t.ops xs p x).length) (by omega),.a (by omega:(t.ops.getD x opV0).a < (valsI t.ops xs p x).length),
      iX ((((t.ops.getD x opV0).b:Nat):Int)) ((valsI t.ops xs p x).length) (by omega),.a (by omega:(t.ops.getD x opV0).b < (valsI t.ops xs p x).length),
      .c (apply_pc (t.ops.getD x opV0) _ _ _ ‹_› ‹_› ‹_› (by omega) (by omega):PCt 151 [(iP (((t.ops.getD x opV0).kind:Nat):Int)),(iP (((t.ops.getD x opV0).n:Nat):Int)),(ivP ((valsI t.ops xs p x).getD (t.ops.getD x opV0).a wholeI)),(ivP ((valsI t.ops xs p x).getD (t.ops.getD x opV0).b wholeI)),(iP p)] _),
      .o 71 (.e (ivs1_le _):PV.le (.e (.sl true 1 7 fun i_ j_=>(ivL (apI (t.ops.getD x opV0) ((valsI t.ops xs p x).getD (t.ops.getD x opV0).a wholeI) ((valsI t.ops xs p x).getD (t.ops.getD x opV0).b wholeI) p)).getD (i_ * 7+j_) (.v (.bool false)))) (.e (ivsP [(apI (t.ops.getD x opV0) ((valsI t.ops xs p x).getD (t.ops.getD x opV0).a wholeI) ((valsI t.ops xs p x).getD (t.ops.getD x opV0).b wholeI) p)]))),
      .a (by omega:((valsI t.ops xs p x).length + [(apI (t.ops.getD x opV0) ((valsI t.ops xs p x).getD (t.ops.getD x opV0).a wholeI) ((valsI t.ops xs p x).getD (t.ops.getD x opV0).b wholeI) p)].length) * 88 ≤ 140737488355328),
      r64 ((x:Int)+1) (by omega)] <| .e (chain [.b 22 (vals_push rfl rfl hstep:Bx.le (.row true 26 ((valsI t.ops xs p x).length + [(apI (t.ops.getD x opV0) ((valsI t.ops xs p x).getD (t.ops.getD x opV0).a wholeI) ((valsI t.ops xs p x).getD (t.ops.getD x opV0).b wholeI) p)].length) 7 (fun i_ j_=>if i_ < (valsI t.ops xs p x).length then (ivsE (valsI t.ops xs p x)) i_ j_ else (E.elf (ivsP [(apI (t.ops.getD x opV0) ((valsI t.ops xs p x).getD (t.ops.getD x opV0).a wholeI) ((valsI t.ops xs p x).getD (t.ops.getD x opV0).b wholeI) p)])) (i_ - (valsI t.ops xs p x).length) j_)) (.row true 26 ((valsI t.ops xs p (x+1)).length) 7 (ivsE (valsI t.ops xs p (x+1)))))] <| .nil)) (by kernel_rfl)
    ·have hk0:¬ ((t.ops.getD x opV0)).kind ≤ 6:=hk
     have hstep:apV (t.ops.getD x opV0) (valsI t.ops xs p x) p=(apI (t.ops.getD x opV0) ((valsI t.ops xs p x).getD ((t.ops.getD x opV0).a) wholeI) wholeI p):=by unfold apV binB; rw [decide_eq_false hk0]; rfl
     have w2:=wholeI_valid
     have o2:=hop.a
     have hol:=one_len (apI (t.ops.getD x opV0) ((valsI t.ops xs p x).getD ((t.ops.getD x opV0).a) wholeI) wholeI p)
     exact spt (chain [tT 27 ((x:Int) < (t.ops.length:Int)) (by omega),iX ((x:Int)) (t.ops.length) (by omega),.c (operands_1 ((t.ops.getD x opV0).kind:Nat) (by omega) (by omega)),tB 50 (by decide:((1:Int) == 0)=false),
      tB 56 (by decide:((1:Int) == 1)=true),iX ((((t.ops.getD x opV0).a:Nat):Int)) ((valsI t.ops xs p x).length) (by omega),.a (by omega:(t.ops.getD x opV0).a < (valsI t.ops xs p x).length),
      .o 66 (.e wholeP_le:PV.le (.e (.agg [(bP false),(.v (.slice none 0 0)),(iP 0),(bP false),(.v (.slice none 0 0)),(iP 0),(bP true)])) (.e (ivP wholeI))),
      .c (apply_pc (t.ops.getD x opV0) _ _ _ ‹_› ‹_› ‹_› (by omega) (by omega):PCt 151 [(iP (((t.ops.getD x opV0).kind:Nat):Int)),(iP (((t.ops.getD x opV0).n:Nat):Int)),(ivP ((valsI t.ops xs p x).getD (t.ops.getD x opV0).a wholeI)),(ivP wholeI),(iP p)] _),
      .o 71 (.e (ivs1_le _):PV.le (.e (.sl true 1 7 fun i_ j_=>(ivL (apI (t.ops.getD x opV0) ((valsI t.ops xs p x).getD (t.ops.getD x opV0).a wholeI) wholeI p)).getD (i_ * 7+j_) (.v (.bool false)))) (.e (ivsP [(apI (t.ops.getD x opV0) ((valsI t.ops xs p x).getD (t.ops.getD x opV0).a wholeI) wholeI p)]))),
      .a (by omega:((valsI t.ops xs p x).length + [(apI (t.ops.getD x opV0) ((valsI t.ops xs p x).getD (t.ops.getD x opV0).a wholeI) wholeI p)].length) * 88 ≤ 140737488355328),r64 ((x:Int)+1) (by omega)] <| .e (chain [.b 22 (vals_push rfl rfl hstep:Bx.le (.row true 26 ((valsI t.ops xs p x).length + [(apI (t.ops.getD x opV0) ((valsI t.ops xs p x).getD (t.ops.getD x opV0).a wholeI) wholeI p)].length) 7 (fun i_ j_=>if i_ < (valsI t.ops xs p x).length then (ivsE (valsI t.ops xs p x)) i_ j_ else (E.elf (ivsP [(apI (t.ops.getD x opV0) ((valsI t.ops xs p x).getD (t.ops.getD x opV0).a wholeI) wholeI p)])) (i_ - (valsI t.ops xs p x).length) j_)) (.row true 26 ((valsI t.ops xs p (x+1)).length) 7 (ivsE (valsI t.ops xs p (x+1)))))] <| .nil)) (by kernel_rfl))
  (fun hx=>by
    exact spt (chain [tF 27 ((t.ops.length:Int) < (t.ops.length:Int)) (by omega),.z 22] <| .e (chain [.o 7 (.e (ivsRow_le (by simp)):PV.le (.e (.sl true ((valsI t.ops xs p t.ops.length).length) 7 (ivsE (valsI t.ops xs p t.ops.length)))) (.e (ivsP (valsI t.ops xs p t.ops.length))))] <| .nil)) (by kernel_rfl)) (by nofun):LpT 5 Tryz.f132 (tapeAllF t xs p 0) (.exit 0) ⟨75,true,[(7,.e (ivsP (valsI t.ops xs p t.ops.length)))],[]⟩) (chain [.b 22 (.of_eq rfl:Bx.le (.row true 26 xs.length 7 (ivsE xs)) (.row true 26 ((valsI t.ops xs p 0).length) 7 (ivsE (valsI t.ops xs p 0))))] <| .nil)] <| .nil) (by kernel_rfl)
open Go.RowKit Fp Pu
def catL (m:List (List Iv)):Nat → List Iv
 | 0=>[]
 | k+1=>catL m k ++ m.getD k []
theorem catL_len (m:List (List Iv)) (k:Nat):(catL m (k+1)).length=(catL m k).length+(m.getD k []).length:=by simp [catL]
theorem ivs_app {T n n':Nat} {xs r:List Iv} (hn:n=xs.length) (hn':n'=(xs ++ r).length):Bx.le (.row true T (n+r.length) 7 fun i j=>if i < n then ivsE xs i j else (E.elf (ivsP r)) (i - n) j) (.row true T n' 7 (ivsE (xs ++ r))):=by
 subst hn hn'
 refine .row (by simp) fun i j hi hj=>⟨.of_eq ?_,ivL_nr _ _ hj⟩
 by_cases h:i < xs.length
 ·rw [if_pos h]
  show (ivL (xs.getD i wholeI)).getD j .any=(ivL ((xs ++ r).getD i wholeI)).getD j .any
  congr 2
  simp [List.getD_eq_getElem?_getD,List.getElem?_append_left h]
 ·rw [if_neg h]
  show (ivL (r.getD (i - xs.length) wholeI)).getD j .any=(ivL ((xs ++ r).getD i wholeI)).getD j .any
  congr 2
  simp [List.getD_eq_getElem?_getD,List.getElem?_append_right (show xs.length ≤ i by omega)]
theorem mat2_le (a b:List Iv):E.le (.sl true 2 1 fun i j=>[ivsP a,ivsP b].getD (i * 1+j) (.v (.bool false))) (matP [a,b]):=.sl fun i j hi hj=>by
 obtain rfl:j=0:=by omega
 obtain rfl | rfl:i=0 ∨ i=1:=by omega
 all_goals exact ⟨.refl _,rfl⟩
theorem rows0_le {n:Nat}:E.le (.sl true n 1 fun k _=>.sl true ((fun _=>0) k) 7 ((fun _ _ _=>.any) k)) (matP (List.replicate n [])):=by
 have h:matP (List.replicate n []) = .sl true n 1 fun i _=>ivsP ((List.replicate n []).getD i []):=by unfold matP; rw [List.length_replicate]
 rw [h]
 refine .sl fun i j hi hj=>⟨?_,rfl⟩
 have e:(List.replicate n ([]:List Iv)).getD i []=[]:=by simp [List.getD_eq_getElem?_getD,hi]
 rw [e]
 exact .sl fun q _ hq _=>absurd hq (Nat.not_lt_zero _)
def catF1 (m:List (List Iv)) (x:Nat):PS:=⟨36,true,[(11,.e (iP x)),(10,.e (iP m.length)),(9,.e (matP m)),(3,.e (iP (((catL m x).length:Nat):Int))),(0,.e (matP m))],[]⟩
def catF2 (m:List (List Iv)) (x:Nat):PS:=⟨36,true,[(27,.e (iP x)),(26,.e (iP m.length)),(25,.e (matP m)),(6,.own 24)],[(24,.row true 26 ((catL m x).length) 7 (ivsE (catL m x)))]⟩
def gTapeM (t:TapeV) (xs:List Iv) (p:Nat) (x:Nat):PS:=⟨91,true,[(43,.e (iP x)),(42,.e (iP 0)),(11,.own 41),(10,.e (ivsP (valsI t.ops xs p t.ops.length))),(4,.box 4 0),(3,.e (iP p))],[(41,.rows true 38 26 t.outs.length 7 (fun _=>0) (fun _ _ _=>.any) .none),(4,.cells 37 [(iP t.ins),(opsP t.ops),(natsP t.outs)])]⟩
def gTapeF (t:TapeV) (xs:List Iv) (p:Nat) (x:Nat):PS:=⟨91,true,[(16,.own 16),(77,.e (iP x)),(76,.e (iP t.outs.length)),(75,.e (natsP t.outs)),(11,.own 41),(10,.e (ivsP (valsI t.ops xs p t.ops.length)))],[(16,.row true 26 x 7 (ivsE ((List.range x).map (fun j_=>(valsI t.ops xs p t.ops.length).getD (t.outs.getD j_ 0) wholeI)))),(41,.rows true 38 26 t.outs.length 7 (fun _=>0) (fun _ _ _=>.any) .none)]⟩
set_option maxHeartbeats 1000000 in
theorem concat_pc (m:List (List Iv)) (hl:m.length ≤ 1000) (hb:∀ k,k ≤ m.length → (catL m k).length ≤ 1000):PCt 113 [(matP m)] (ivsP (catL m m.length)):=by
 have hbl:=hb m.length (Nat.le_refl _)
 exact tr true Tryz.call113 Tryz.func113 (chain [.s (Sp.upto (catF1 m) 0 m.length (by omega) (fun x hx hltx=>by
    have hb1:=hb (x+1) (by omega)
    rw [catL_len] at hb1
    exact spt (chain [tT 12 ((x:Int) < (m.length:Int)) (by omega),iX ((x:Int)) (m.length) (by omega),r64 ((((catL m x).length:Nat):Int)+(((m.getD x []).length:Nat):Int)) (by omega),
     tF 20 (((((catL m x).length+(m.getD x []).length):Nat):Int) < 0) (by omega),r64 ((x:Int)+1) (by omega)] <| .e (chain [.o 3 (.int (by rw [catL_len]):PV.le (.e (iP ((((catL m x).length+(m.getD x []).length):Nat):Int))) (.e (iP (((catL m (x+1)).length:Nat):Int))))] <| .nil)) (by kernel_rfl))
  (fun hx=>by
    exact spt (chain [tF 12 ((m.length:Int) < (m.length:Int)) (by omega)] <| .nil) (by kernel_rfl)) (by nofun):LpT 3 Tryz.f113 (catF1 m 0) (.exit 0) ⟨36,true,[(3,.e (iP (((catL m m.length).length:Nat):Int))),(0,.e (matP m))],[]⟩) (chain [.o 3 (.int rfl:PV.le (.e (iP 0)) (.e (iP (((catL m 0).length:Nat):Int))))] <| .nil),
  .cn (grow_pc _ (by omega):PCNt 134 [(.v (.slice none 0 0)),(iP (((catL m m.length).length:Nat):Int))] true 26 0 7 (ivsE [])),
  .s (Sp.upto (catF2 m) 0 m.length (by omega) (fun x hx hltx=>by
    have hb1:=hb (x+1) (by omega)
    rw [catL_len] at hb1
    exact spt (chain [tT 28 ((x:Int) < (m.length:Int)) (by omega),iX ((x:Int)) (m.length) (by omega),.a (by omega:((catL m x).length+(m.getD x []).length) * 88 ≤ 140737488355328),r64 ((x:Int)+1) (by omega)] <| .e (chain [.b 24 (ivs_app rfl rfl:Bx.le (.row true 26 ((catL m x).length+(m.getD x []).length) 7 (fun i_ j_=>if i_ < (catL m x).length then (ivsE (catL m x)) i_ j_ else (E.elf (ivsP (m.getD x []))) (i_ - (catL m x).length) j_)) (.row true 26 ((catL m (x+1)).length) 7 (ivsE (catL m (x+1)))))] <| .nil)) (by kernel_rfl))
  (fun hx=>by
    exact spt (chain [tF 28 ((m.length:Int) < (m.length:Int)) (by omega),.z 24] <| .e (chain [.o 6 (.e (ivsRow_le (by simp)):PV.le (.e (.sl true ((catL m m.length).length) 7 (ivsE (catL m m.length)))) (.e (ivsP (catL m m.length))))] <| .nil)) (by kernel_rfl)) (by nofun):LpT 11 Tryz.f113 (catF2 m 0) (.exit 2) ⟨36,true,[(6,.e (ivsP (catL m m.length)))],[]⟩) (chain [.b 24 (.of_eq rfl:Bx.le (.row true 26 0 7 (ivsE [])) (.row true 26 ((catL m 0).length) 7 (ivsE (catL m 0))))] <| .nil)] <| .nil) (by kernel_rfl)
theorem concat2_pc (a b:List Iv) (ha:a.length ≤ 400) (hb:b.length ≤ 400):PCt 113 [matP [a,b]] (ivsP (a ++ b)):=by
 have e1:catL [a,b] 1=a:=rfl
 have e2:catL [a,b] 2=a ++ b:=rfl
 have:=concat_pc [a,b] (by simp) fun k hk=>by
  have hk:k ≤ 2:=hk
  rcases k with _ | _ | _ | k
  ·exact Nat.zero_le _
  ·rw [e1]; omega
  ·rw [e2,List.length_append]; omega
  ·omega
 rwa [show [a,b].length=2 from rfl,e2] at this
set_option maxHeartbeats 1000000 in
theorem gPrecise_pc (p:Int):PCt 111 [(iP p)] (bP (precB p)):=by
 exact tr true Tryz.call111 Tryz.func111 (.w (8 ≤ p)
  (fun k1=>chain [tB 4 (decide_eq_true k1)] <| rQ (bP (decide (p ≤ 512))) (bP (precB p)) (by unfold precB; simp [k1]))
  (fun k1=>chain [tB 4 (decide_eq_false k1)] <| rQ (bP false) (bP (precB p)) (by unfold precB; simp [k1]))) (by kernel_rfl)
set_option maxHeartbeats 1000000 in
theorem gFits1_pc (x:Iv) (hx:x.Valid):PCt 147 [(ivP x)] (bP false):=by
 exact tr true Tryz.call147 Tryz.func147 (chain [.c (ivValid_pc x ‹_›)] <| .nil) (by kernel_rfl)
set_option maxHeartbeats 1000000 in
theorem gFits_pc (t:TapeV) (xs:List Iv) (p:Nat) (h:TapeOk t) (h1:1 ≤ xs.length) (hx:xs.length=t.ins) (hv:Vals xs) (hp1:8 ≤ p) (hp2:p ≤ 512):PCt 131 [(tapeP t),(ivsP xs),(iP p)] (bP true):=by
 have h8:=h.ins
 exact tr true Tryz.call131 Tryz.func131 (chain [.c (tapeValid_pc t ‹_›),tB 14 (natEq_true hx:((xs.length:Int) == (t.ins:Int))=true),.c (gPrecise_pc (p:Int)),tB 18 (precB_true.2 ⟨by omega,by omega⟩:(precB (p:Int))=true),
  .c (iv_hasnt true _ _ 147 [] (fun _=>false) (fun i hi=>gFits1_pc _ (hv i)) (by omega) (fun _ _=>rfl):PCt 69 [(ivsP xs),(.fn 147 [])] _)] <| .nil) (by kernel_rfl)
theorem field_range (t:TapeV) (xs:List Iv) (p:Nat):(List.range t.outs.length).map (fun j=>(valsI t.ops xs p t.ops.length).getD (t.outs.getD j 0) wholeI)=fieldI t xs p:=by
 unfold fieldI
 apply List.ext_getElem?
 intro i
 rw [List.getElem?_map,List.getElem?_map]
 by_cases hi:i < t.outs.length
 ·rw [List.getElem?_eq_getElem (by simpa using hi),List.getElem?_eq_getElem hi]
  simp [List.getD_eq_getElem?_getD,hi]
 ·rw [List.getElem?_eq_none (by simpa using hi),List.getElem?_eq_none (by omega)]
  rfl
set_option maxHeartbeats 1000000 in
theorem gTape_pc (t:TapeV) (xs:List Iv) (p:Nat) (h:TapeOk t) (h1:1 ≤ xs.length) (hx:xs.length=t.ins) (hv:Vals xs) (hr:∀ i,i < t.ops.length → RatOp (t.ops.getD i opV0)) (hp1:8 ≤ p) (hp2:p ≤ 512):PCt 112 [(tapeP t),(ivsP xs),(iP 0),(iP p)] (.tup [ivsP (fieldI t xs p),matP (List.replicate t.outs.length [])]):=by
 have h8:=h.ins
 have hops:=h.ops
 have hou:=h.outs
 exact tr true Tryz.call112 Tryz.func112 (chain [.c (gFits_pc t xs p h h1 hx hv (by omega) (by omega)),tB 26 (by decide:(decide ((0:Int) < 0))=false),tF 32 ((t.ins:Int) < 0) (by omega),.c (tapeAll_pc t xs p h h1 hx hv hr (by omega) (by omega)),
  .a (by omega:0 ≤ ((t.outs.length:Int):Int) ∧ ((t.outs.length:Int):Int) ≤ ((t.outs.length:Int):Int)),
  .a (by omega:((24:Nat):Int) * (t.outs.length:Int) ≤ 281474976710656 ∧ ((t.outs.length:Int):Int) ≤ 9223372036854775807),
  .s (Sp.upto (gTapeM t xs p) 0 0 (by omega) (fun x hx hltx=>by
    exact absurd hltx (Nat.not_lt_zero _))
  (fun hx=>by
    exact spt (chain [tB 44 (by decide:(decide ((0:Int) < 0))=false)] <| .nil) (by kernel_rfl)) (by nofun):LpT 6 Tryz.f112 (gTapeM t xs p 0) (.exit 0) ⟨91,true,[(11,.own 41),(10,.e (ivsP (valsI t.ops xs p t.ops.length))),(4,.box 4 0)],[(41,.rows true 38 26 t.outs.length 7 (fun _=>0) (fun _ _ _=>.any) .none),(4,.cells 37 [(iP t.ins),(opsP t.ops),(natsP t.outs)])]⟩) .nil,
  .y 16 16 true 26 7 (ivsE ((List.range 0).map (fun j_=>(valsI t.ops xs p t.ops.length).getD (t.outs.getD j_ 0) wholeI))),
  .s (Sp.upto (gTapeF t xs p) 0 t.outs.length (by omega) (fun x hx hltx=>by
    have hot:=h.out x (by omega)
    have hln:=vals_len t.ops xs p t.ops.length
    have hol:=one_len ((valsI t.ops xs p t.ops.length).getD (t.outs.getD x 0) wholeI)
    exact spt (chain [tT 78 ((x:Int) < (t.outs.length:Int)) (by omega),iX ((x:Int)) (t.outs.length) (by omega),iX ((((t.outs.getD x 0):Nat):Int)) ((valsI t.ops xs p t.ops.length).length) (by omega),
     .o 86 (.e (ivs1_le _):PV.le (.e (.sl true 1 7 fun i_ j_=>(ivL ((valsI t.ops xs p t.ops.length).getD (t.outs.getD x 0) wholeI)).getD (i_ * 7+j_) (.v (.bool false)))) (.e (ivsP [((valsI t.ops xs p t.ops.length).getD (t.outs.getD x 0) wholeI)]))),
     .a (by omega:(x + [((valsI t.ops xs p t.ops.length).getD (t.outs.getD x 0) wholeI)].length) * 88 ≤ 140737488355328),r64 ((x:Int)+1) (by omega)] <| .e (chain [.b 16 (ivs_pushR rfl rfl rfl:Bx.le (.row true 26 (x + [((valsI t.ops xs p t.ops.length).getD (t.outs.getD x 0) wholeI)].length) 7 (fun i_ j_=>if i_ < x then (ivsE ((List.range x).map (fun j_=>(valsI t.ops xs p t.ops.length).getD (t.outs.getD j_ 0) wholeI))) i_ j_ else (E.elf (ivsP [((valsI t.ops xs p t.ops.length).getD (t.outs.getD x 0) wholeI)])) (i_ - x) j_)) (.row true 26 (x+1) 7 (ivsE ((List.range (x+1)).map (fun j_=>(valsI t.ops xs p t.ops.length).getD (t.outs.getD j_ 0) wholeI)))))] <| .nil)) (by kernel_rfl))
  (fun hx=>by
    exact spt (chain [tF 78 ((t.outs.length:Int) < (t.outs.length:Int)) (by omega),.z 16] <| .e (chain [.o 16 (.e (ivsRow_le (by simp)):PV.le (.e (.sl true t.outs.length 7 (ivsE ((List.range t.outs.length).map (fun j_=>(valsI t.ops xs p t.ops.length).getD (t.outs.getD j_ 0) wholeI))))) (.e (ivsP ((List.range t.outs.length).map (fun j_=>(valsI t.ops xs p t.ops.length).getD (t.outs.getD j_ 0) wholeI)))))] <| .nil)) (by kernel_rfl)) (by nofun):LpT 17 Tryz.f112 (gTapeF t xs p 0) (.exit 4) ⟨91,true,[(16,.e (ivsP ((List.range t.outs.length).map (fun j_=>(valsI t.ops xs p t.ops.length).getD (t.outs.getD j_ 0) wholeI)))),(11,.own 41)],[(41,.rows true 38 26 t.outs.length 7 (fun _=>0) (fun _ _ _=>.any) .none)]⟩) .nil] <| rR (.tup [ivsP (fieldI t xs p),matP (List.replicate t.outs.length [])]) (.tup (.cons (.of_eq (by rw [field_range])) (.cons rows0_le .nil)):E.le (.tup [(ivsP ((List.range t.outs.length).map (fun j_=>(valsI t.ops xs p t.ops.length).getD (t.outs.getD j_ 0) wholeI))),(.sl true t.outs.length 1 fun k_ _=>.sl true ((fun _=>0) k_) 7 ((fun _ _ _=>.any) k_))]) (.tup [ivsP (fieldI t xs p),matP (List.replicate t.outs.length [])]))) (by kernel_rfl)
set_option maxHeartbeats 1000000 in
theorem gAll1_pc (x:Iv):PCt 130 [(ivP x)] (bP x.all):=by
 exact tr true Tryz.call130 Tryz.func130 (.nil) (by kernel_rfl)
set_option maxHeartbeats 1000000 in
theorem gAll_pc (l:List Iv) (hl:l.length ≤ 1000):PCt 109 [(ivsP l)] (bP (hasAll l)):=by
 exact tr true Tryz.call109 Tryz.func109 (chain [.c (iv_any true _ _ 130 [] (fun i=>(l.getD i wholeI).all) (fun i hi=>gAll1_pc _) (by omega):PCt 69 [(ivsP l),(.fn 130 [])] _)] <| .nil) (by kernel_rfl)
set_option maxHeartbeats 1000000 in
theorem gBoth1_pc (x:Iv) (hx:x.Valid):PCt 110 [(ivP x)] (bP false):=by
 exact tr true Tryz.call110 Tryz.func110 (chain [.c (ivValid_pc x ‹_›)] <| .nil) (by kernel_rfl)
theorem repl_none (n:Nat) (hn:n ≤ 1000):PCt 114 [matP (List.replicate n []),.fn 109 []] (bP false):=by
 have e:∀ i,i < n → (List.replicate n ([]:List Iv)).getD i []=[]:=fun i hi=>by simp [List.getD_eq_getElem?_getD,hi]
 refine row_hasnt true _ _ 109 [] (fun _=>false) (fun i hi=>?_) (by simpa using by omega) (fun _ _=>rfl)
 have hi':i < n:=by simpa using hi
 show PCt 109 [ivsP ((List.replicate n []).getD i [])] _
 rw [e i hi']
 exact gAll_pc [] (by simp)
theorem noAll_any {l:List Iv} (h:NoAll l):hasAll l=false:=by
 unfold hasAll
 rw [List.any_eq_false]
 intro i hi
 rw [(h i (List.mem_range.1 hi)).2]
 decide
theorem both_fits {s:SysV} {b:List Iv} (h:SysOk s) (hb:BoxOk s.states b):TapeOk s.tape ∧ 1 ≤ (b ++ s.params).length ∧ (b ++ s.params).length=s.tape.ins ∧ Vals (b ++ s.params):=by
 have h1:=h.s1
 have h2:=h.ins
 have h3:=hb.len
 refine ⟨h.tape,?_,?_,hb.ok.vals.append h.params.vals⟩
 ·rw [List.length_append]; omega
 ·rw [List.length_append]; omega
set_option maxHeartbeats 1000000 in
theorem gBoth_no (s:SysV) (b:List Iv) (p:Nat) (h:SysOk s) (hr:∀ i,i < s.tape.ops.length → RatOp (s.tape.ops.getD i opV0)) (hb:BoxOk s.states b) (hp1:8 ≤ p) (hp2:p ≤ 512) (hn:hasAll (fieldI s.tape (b ++ s.params) p)=true):PCt 84 [(sysP s),(ivsP b),(iP 0),(iP p)] (.tup [.v (.slice none 0 0),.v (.slice none 0 0),iP 11]):=by
 have s4:=h.s4
 have p4:=h.p4
 have hlb:=hb.len
 have hou:=h.tape.outs
 have hna:=noAll_any hb.ok
 have hfl:=field_len s.tape (b ++ s.params) p
 obtain ⟨f1,f2,f3,f4⟩:=both_fits h hb
 exact tr true Tryz.call84 Tryz.func84 (chain [.c (sysValid_pc s ‹_›),tB 21 (natNe_false hb.len:((b.length:Int) != (s.states:Int))=false),.c (gAll_pc b (by omega)),tB 25 (hna:(hasAll b)=false),
  .c (iv_hasnt true _ _ 110 [] (fun _=>false) (fun i hi=>gBoth1_pc _ (hb.ok i hi).1) (by omega) (fun _ _=>rfl):PCt 69 [(ivsP b),(.fn 110 [])] _),.c (gPrecise_pc (p:Int)),
  tB 32 (precB_true.2 ⟨by omega,by omega⟩:(precB (p:Int))=true),.o 40 (.e (mat2_le _ _):PV.le (.e (.sl true 2 1 fun i_ j_=>[(ivsP b),(ivsP s.params)].getD (i_ * 1+j_) (.v (.bool false)))) (.e (matP [b,s.params]))),
  .c (concat2_pc b s.params (by omega) (by omega):PCt 113 [(matP [b,s.params])] _),.c (gTape_pc s.tape (b ++ s.params) p f1 f2 f3 f4 hr (by omega) (by omega)),.c (gAll_pc (fieldI s.tape (b ++ s.params) p) (by omega)),
  tB 48 (hn:(hasAll (fieldI s.tape (b ++ s.params) p))=true)] <| .nil) (by kernel_rfl)
set_option maxHeartbeats 1000000 in
theorem gBoth_yes (s:SysV) (b:List Iv) (p:Nat) (h:SysOk s) (hr:∀ i,i < s.tape.ops.length → RatOp (s.tape.ops.getD i opV0)) (hb:BoxOk s.states b) (hp1:8 ≤ p) (hp2:p ≤ 512) (hn:hasAll (fieldI s.tape (b ++ s.params) p)=false):PCt 84 [(sysP s),(ivsP b),(iP 0),(iP p)] (.tup [ivsP (fieldI s.tape (b ++ s.params) p),matP (List.replicate s.tape.outs.length []),iP 0]):=by
 have s4:=h.s4
 have p4:=h.p4
 have hlb:=hb.len
 have hou:=h.tape.outs
 have hna:=noAll_any hb.ok
 have hfl:=field_len s.tape (b ++ s.params) p
 obtain ⟨f1,f2,f3,f4⟩:=both_fits h hb
 exact tr true Tryz.call84 Tryz.func84 (chain [.c (sysValid_pc s ‹_›),tB 21 (natNe_false hb.len:((b.length:Int) != (s.states:Int))=false),.c (gAll_pc b (by omega)),tB 25 (hna:(hasAll b)=false),
  .c (iv_hasnt true _ _ 110 [] (fun _=>false) (fun i hi=>gBoth1_pc _ (hb.ok i hi).1) (by omega) (fun _ _=>rfl):PCt 69 [(ivsP b),(.fn 110 [])] _),.c (gPrecise_pc (p:Int)),
  tB 32 (precB_true.2 ⟨by omega,by omega⟩:(precB (p:Int))=true),.o 40 (.e (mat2_le _ _):PV.le (.e (.sl true 2 1 fun i_ j_=>[(ivsP b),(ivsP s.params)].getD (i_ * 1+j_) (.v (.bool false)))) (.e (matP [b,s.params]))),
  .c (concat2_pc b s.params (by omega) (by omega):PCt 113 [(matP [b,s.params])] _),.c (gTape_pc s.tape (b ++ s.params) p f1 f2 f3 f4 hr (by omega) (by omega)),.c (gAll_pc (fieldI s.tape (b ++ s.params) p) (by omega)),
  tB 48 (hn:(hasAll (fieldI s.tape (b ++ s.params) p))=false),.c (repl_none _ (by omega):PCt 114 [(matP (List.replicate s.tape.outs.length [])),(.fn 109 [])] _)] <| .nil) (by kernel_rfl)
set_option maxHeartbeats 1000000 in
theorem gField_no (s:SysV) (b:List Iv) (p:Nat) (h:SysOk s) (hr:∀ i,i < s.tape.ops.length → RatOp (s.tape.ops.getD i opV0)) (hb:BoxOk s.states b) (hp1:8 ≤ p) (hp2:p ≤ 512) (hn:hasAll (fieldI s.tape (b ++ s.params) p)=true):PCt 58 [(sysP s),(ivsP b),(iP p)] (.tup [.v (.slice none 0 0),iP 11]):=by
 exact tr true Tryz.call58 Tryz.func58 (chain [.c (gBoth_no s b p h hr hb hp1 hp2 hn)] <| .nil) (by kernel_rfl)
set_option maxHeartbeats 1000000 in
theorem gField_yes (s:SysV) (b:List Iv) (p:Nat) (h:SysOk s) (hr:∀ i,i < s.tape.ops.length → RatOp (s.tape.ops.getD i opV0)) (hb:BoxOk s.states b) (hp1:8 ≤ p) (hp2:p ≤ 512) (hn:hasAll (fieldI s.tape (b ++ s.params) p)=false):PCt 58 [(sysP s),(ivsP b),(iP p)] (.tup [ivsP (fieldI s.tape (b ++ s.params) p),iP 0]):=by
 exact tr true Tryz.call58 Tryz.func58 (chain [.c (gBoth_yes s b p h hr hb hp1 hp2 hn)] <| .nil) (by kernel_rfl)
open Go.RowKit Fp Pu
def imageFN (s:SysV) (x:List Iv) (d:Dy) (b:List Iv) (p:Nat) (N:Nat) (i:Nat):PS:=⟨66,true,[(14,.own 14),(42,.e (iP i)),(41,.e (iP x.length)),(13,.box 13 0),(11,.e (ivsP (fieldI s.tape (b ++ s.params) p))),(1,.e (ivsP x)),(4,.e (iP p))],[(14,.row true 26 i 7 (ivsE ((List.range i).map (fun j_=>(addI (x.getD j_ wholeI) (mulI (stepI d) ((fieldI s.tape (b ++ s.params) p).getD j_ wholeI) p) p))))),(13,.cells 26 ([(bP false),(.v (.slice none 0 0)),(iP 0)] ++ dyL d ++ [(bP false)]))]⟩
def imageFY (s:SysV) (x:List Iv) (d:Dy) (b:List Iv) (p:Nat) (i:Nat):PS:=⟨66,true,[(14,.own 14),(42,.e (iP i)),(41,.e (iP x.length)),(13,.box 13 0),(11,.e (ivsP (fieldI s.tape (b ++ s.params) p))),(1,.e (ivsP x)),(4,.e (iP p))],[(14,.row true 26 i 7 (ivsE ((List.range i).map (fun j_=>(addI (x.getD j_ wholeI) (mulI (stepI d) ((fieldI s.tape (b ++ s.params) p).getD j_ wholeI) p) p))))),(13,.cells 26 ([(bP false),(.v (.slice none 0 0)),(iP 0)] ++ dyL d ++ [(bP false)]))]⟩
def encFA (s:SysV) (x:List Iv) (d:Dy) (p:Nat) (N:Nat) (k:Nat):PS:=⟨55,true,[(22,.e (iP k)),(10,.clo 27 [(.box 5),(.box 4),(.box 6),(.box 7)]),(7,.box 7 0),(6,.box 6 0),(5,.box 5 0),(4,.box 4 0)],[(7,.cells 3 [(iP p)]),(6,.cells 24 (dyL d)),(5,.cells 38 [(ivsP x)]),(4,.cells 40 [(iP s.tape.ins),(opsP s.tape.ops),(natsP s.tape.outs),(iP s.states),(ivsP s.params)])]⟩
def encFB (s:SysV) (x:List Iv) (d:Dy) (p:Nat) (k:Nat):PS:=⟨55,true,[(22,.e (iP k)),(10,.clo 27 [(.box 5),(.box 4),(.box 6),(.box 7)]),(7,.box 7 0),(6,.box 6 0),(5,.box 5 0),(4,.box 4 0)],[(7,.cells 3 [(iP p)]),(6,.cells 24 (dyL d)),(5,.cells 38 [(ivsP x)]),(4,.cells 40 [(iP s.tape.ins),(opsP s.tape.ops),(natsP s.tape.outs),(iP s.states),(ivsP s.params)])]⟩
def encGB (s:SysV) (x:List Iv) (d:Dy) (p:Nat) (N:Nat) (j:Nat):PS:=⟨55,true,[(36,.e (iP j)),(14,.e (ivsP (widB s x d p j))),(7,.box 7 0),(6,.box 6 0),(5,.box 5 0),(4,.box 4 0)],[(7,.cells 3 [(iP p)]),(6,.cells 24 (dyL d)),(5,.cells 38 [(ivsP x)]),(4,.cells 40 [(iP s.tape.ins),(opsP s.tape.ops),(natsP s.tape.outs),(iP s.states),(ivsP s.params)])]⟩
def encFC (s:SysV) (x:List Iv) (d:Dy) (p:Nat) (k:Nat):PS:=⟨55,true,[(22,.e (iP k)),(10,.clo 27 [(.box 5),(.box 4),(.box 6),(.box 7)]),(7,.box 7 0),(6,.box 6 0),(5,.box 5 0),(4,.box 4 0)],[(7,.cells 3 [(iP p)]),(6,.cells 24 (dyL d)),(5,.cells 38 [(ivsP x)]),(4,.cells 40 [(iP s.tape.ins),(opsP s.tape.ops),(natsP s.tape.outs),(iP s.states),(ivsP s.params)])]⟩
def encGC (s:SysV) (x:List Iv) (d:Dy) (p:Nat) (j:Nat):PS:=⟨55,true,[(36,.e (iP j)),(14,.e (ivsP (widB s x d p j))),(7,.box 7 0),(6,.box 6 0),(5,.box 5 0),(4,.box 4 0)],[(7,.cells 3 [(iP p)]),(6,.cells 24 (dyL d)),(5,.cells 38 [(ivsP x)]),(4,.cells 40 [(iP s.tape.ins),(opsP s.tape.ops),(natsP s.tape.outs),(iP s.states),(ivsP s.params)])]⟩
set_option maxHeartbeats 1000000 in
theorem belongs1_pc (x:Iv) (hx:x.Valid) (xa:x.all=false):PCt 72 [(ivP x)] (bP false):=by
 exact tr true Tryz.call72 Tryz.func72 (chain [.c (ivValid_pc x ‹_›),tB 8 (xa:x.all=false)] <| .nil) (by kernel_rfl)
set_option maxHeartbeats 1000000 in
theorem belongs_pc (s:SysV) (b:List Iv) (hb:BoxOk s.states b) (h4:s.states ≤ 4):PCt 50 [(sysP s),(ivsP b)] (bP true):=by
 have hlb:=hb.len
 exact tr true Tryz.call50 Tryz.func50 (chain [tB 9 (natEq_true hb.len:((b.length:Int) == (s.states:Int))=true),
  .c (iv_hasnt true _ _ 72 [] (fun _=>false) (fun i hi=>belongs1_pc _ (hb.ok i hi).1 (hb.ok i hi).2) (by omega) (fun _ _=>rfl):PCt 69 [(ivsP b),(.fn 72 [])] _)] <| .nil) (by kernel_rfl)
set_option maxHeartbeats 1000000 in
theorem belongs1R_pc (x:RI) (g:x.Good) (hbad:okB x=false ∨ x.all=true):PCt 72 [(riP x)] (bP true):=by
 rcases hbad with hbad | hbad
 ·exact tr true Tryz.call72 Tryz.func72 (chain [.c (ivValidR_pc _ g:PCt 73 [(riP x)] _),tB 4 (hbad:(okB x)=false)] <| .nil) (by kernel_rfl)
 ·exact tr true Tryz.call72 Tryz.func72 (chain [.c (ivValidR_pc _ g:PCt 73 [(riP x)] _)] <| .w (okB x=true)
   (fun k1=>chain [tB 4 (k1),tB 8 (hbad:x.all=true)] <| .nil)
   (fun k1=>chain [tB 4 (Bool.eq_false_iff.2 k1)] <| .nil)) (by kernel_rfl)
theorem ris1_le (b:RI):E.le (.sl true 1 7 fun i j=>(riL b).getD (i * 7+j) (.v (.bool false))) (risP [b]):=.sl fun i j hi hj=>by
 obtain rfl:i=0:=by omega
 rcases j with _ | _ | _ | _ | _ | _ | _ | j
 all_goals first | exact ⟨.refl _,rfl⟩ | omega
theorem belongs1R_one (b:RI) (g:b.Good) (hbad:okB b=false ∨ b.all=true) (i:Nat) (hi:i < [b].length):PCt 72 [.agg [(riL ([b].getD i rwhole)).getD 0 .any,(riL ([b].getD i rwhole)).getD 1 .any,(riL ([b].getD i rwhole)).getD 2 .any,(riL ([b].getD i rwhole)).getD 3 .any,(riL ([b].getD i rwhole)).getD 4 .any,(riL ([b].getD i rwhole)).getD 5 .any,(riL ([b].getD i rwhole)).getD 6 .any]] (bP true):=by
 obtain rfl:i=0:=by simpa using hi
 exact belongs1R_pc b g hbad
set_option maxHeartbeats 1000000 in
theorem belongs_bad (s:SysV) (b:RI) (g:b.Good) (hbad:okB b=false ∨ b.all=true) (h1:s.states=1):PCt 50 [(sysP s),(risP [b])] (bP false):=by
 exact tr true Tryz.call50 Tryz.func50 (chain [tB 9 (natEq_true h1.symm:((([b].length:Nat):Int) == (s.states:Int))=true),
  .c (iv_has true _ _ 72 [] (fun _=>true) (fun i hi=>belongs1R_one b g hbad i hi) 0 (by simp) (by simp) (fun i hi=>absurd hi (Nat.not_lt_zero _)) rfl:PCt 69 [(risP [b]),(.fn 72 [])] _)] <| .nil) (by kernel_rfl)
set_option maxHeartbeats 1000000 in
theorem fits_yes (s:SysV) (x:List Iv) (d:Dy) (p:Nat) (h:SysOk s) (hx:BoxOk s.states x) (hd:d.Valid) (h0:0 < d.sign) (hp1:8 ≤ p) (hp2:p ≤ 512):PCt 26 [(sysP s),(ivsP x),(dyP d),(iP p)] (bP true):=by
 have s4:=h.s4
 exact tr true Tryz.call26 Tryz.func26 (chain [.c (sysValid_pc s ‹_›),.c (belongs_pc s x hx (by omega)),.c (dyValid_pc _ ‹_›:PCt 30 [(dyP d)] _),.c (dySign_pc _ ‹_›:PCt 51 [(dyP d)] _),tB 23 (decide_eq_true h0),
  tT 27 (8 ≤ (p:Int)) (by omega),tT 31 ((p:Int) ≤ 512) (by omega)] <| .nil) (by kernel_rfl)
set_option maxHeartbeats 1000000 in
theorem fits_no (s:SysV) (x:List Iv) (d:Dy) (p:Int) (h:SysOk s) (hx:BoxOk s.states x) (hd:d.Valid) (h0:0 < d.sign) (hp:¬ (8 ≤ p ∧ p ≤ 512)):PCt 26 [(sysP s),(ivsP x),(dyP d),(iP p)] (bP false):=by
 have s4:=h.s4
 exact tr true Tryz.call26 Tryz.func26 (chain [.c (sysValid_pc s ‹_›),.c (belongs_pc s x hx (by omega)),.c (dyValid_pc _ ‹_›:PCt 30 [(dyP d)] _),.c (dySign_pc _ ‹_›:PCt 51 [(dyP d)] _),tB 23 (decide_eq_true h0)] <| .w (8 ≤ p)
  (fun k1=>chain [tB 27 (decide_eq_true k1)] <| rQ (bP (decide (p ≤ 512))) (bP false) (by rw [show decide (p ≤ 512)=false from decide_eq_false fun q=>hp ⟨k1,q⟩]))
  (fun k1=>chain [tB 27 (decide_eq_false k1)] <| .nil)) (by kernel_rfl)
set_option maxHeartbeats 1000000 in
theorem image_out (s:SysV) (x:List Iv) (d:Dy) (b:E) (p:Int) (h:SysOk s) (hx:BoxOk s.states x) (hd:d.Valid) (h0:0 < d.sign) (hp:¬ (8 ≤ p ∧ p ≤ 512)):PCt 32 [(sysP s),(ivsP x),(dyP d),b,(iP p)] (.v (.slice none 0 0)):=by
 exact tr true Tryz.call32 Tryz.func32 (chain [.c (fits_no s x d p h hx hd h0 hp)] <| .nil) (by kernel_rfl)
set_option maxHeartbeats 1000000 in
theorem image_badb (s:SysV) (x:List Iv) (d:Dy) (p:Nat) (h:SysOk s) (hx:BoxOk s.states x) (hd:d.Valid) (h0:0 < d.sign) (b:RI) (g:b.Good) (hbad:okB b=false ∨ b.all=true) (h1:s.states=1) (hp1:8 ≤ p) (hp2:p ≤ 512):PCt 32 [(sysP s),(ivsP x),(dyP d),(risP [b]),(iP p)] (.v (.slice none 0 0)):=by
 exact tr true Tryz.call32 Tryz.func32 (chain [.c (fits_yes s x d p h hx hd h0 hp1 hp2),.c (belongs_bad s b g hbad h1)] <| .nil) (by kernel_rfl)
set_option maxHeartbeats 1000000 in
theorem image_no1 (s:SysV) (x:List Iv) (d:Dy) (b:List Iv) (p:Nat) (h:SysOk s) (hx:BoxOk s.states x) (hd:d.Valid) (h0:0 < d.sign) (hb:BoxOk s.states b) (hr:∀ i,i < s.tape.ops.length → RatOp (s.tape.ops.getD i opV0)) (hp1:8 ≤ p) (hp2:p ≤ 512) (hn:hasAll (fieldI s.tape (b ++ s.params) p)=true):PCt 32 [(sysP s),(ivsP x),(dyP d),(ivsP b),(iP p)] (.v (.slice none 0 0)):=by
 have s4:=h.s4
 exact tr true Tryz.call32 Tryz.func32 (chain [.c (fits_yes s x d p h hx hd h0 hp1 hp2),.c (belongs_pc s b hb s4),.c (gField_no s b p h hr hb hp1 hp2 hn),tB 37 (by decide:((11:Int) != 0)=true)] <| .nil) (by kernel_rfl)
theorem step_le (d:Dy):E.le (.agg ([bP false,.v (.slice none 0 0),iP 0] ++ dyL d ++ [bP false])) (ivP (stepI d)) :=
 .agg (.cons (.refl _) (.cons nilLimb_le (.cons (.refl _) (.cons (.refl _) (.cons (.refl _) (.cons (.refl _) (.cons (.refl _) .nil)))))))
set_option maxHeartbeats 1000000 in
theorem image_no2 (s:SysV) (x:List Iv) (d:Dy) (b:List Iv) (p:Nat) (h:SysOk s) (hx:BoxOk s.states x) (hd:d.Valid) (h0:0 < d.sign) (hb:BoxOk s.states b) (hr:∀ i,i < s.tape.ops.length → RatOp (s.tape.ops.getD i opV0)) (hp1:8 ≤ p) (hp2:p ≤ 512) (hn:hasAll (fieldI s.tape (b ++ s.params) p)=false) (N:Nat) (hN0:N < x.length) (hlo:∀ i,i < N → (addI (x.getD i wholeI) (mulI (stepI d) ((fieldI s.tape (b ++ s.params) p).getD i wholeI) p) p).all=false) (hN:(addI (x.getD N wholeI) (mulI (stepI d) ((fieldI s.tape (b ++ s.params) p).getD N wholeI) p) p).all=true):PCt 32 [(sysP s),(ivsP x),(dyP d),(ivsP b),(iP p)] (.v (.slice none 0 0)):=by
 have s4:=h.s4
 have hlx:=hx.len
 have hou:=h.outs
 have hfl:=field_len s.tape (b ++ s.params) p
 obtain ⟨f1,f2,f3,f4⟩:=both_fits h hb
 have fv:=field_valid s.tape f4 (show 1 ≤ p by omega) (show p ≤ 4096 by omega)
 have hq:0 < d.q:=(q_sign d).1.1 h0
 have hst:=stepI_valid hd (Rat.le_of_lt hq)
 exact tr true Tryz.call32 Tryz.func32 (chain [.c (fits_yes s x d p h hx hd h0 hp1 hp2),.c (belongs_pc s b hb s4),.c (gField_yes s b p h hr hb hp1 hp2 hn),tB 37 (by decide:((0:Int) != 0)=false),
  .y 14 14 true 26 7 (ivsE ((List.range 0).map (fun j_=>(addI (x.getD j_ wholeI) (mulI (stepI d) ((fieldI s.tape (b ++ s.params) p).getD j_ wholeI) p) p)))),
  .s (Sp.upto (imageFN s x d b p N) 0 N (by omega) (fun i hi hlti=>by
    have w1:=(hx.ok i (by omega)).1
    have w2:=fv i
    have w3:=mulI_valid (stepI d) ((fieldI s.tape (b ++ s.params) p).getD i wholeI) (show 1 ≤ p by omega) (show p ≤ 4096 by omega)
    have hol:=one_len (addI (x.getD i wholeI) (mulI (stepI d) ((fieldI s.tape (b ++ s.params) p).getD i wholeI) p) p)
    exact spt (chain [tT 43 ((i:Int) < (x.length:Int)) (by omega),iX ((i:Int)) (x.length) (by omega),
     .o 49 (.e (step_le d):PV.le (.e (.agg ([(bP false),(.v (.slice none 0 0)),(iP 0)] ++ dyL d ++ [(bP false)]))) (.e (ivP (stepI d)))),iX ((i:Int)) ((fieldI s.tape (b ++ s.params) p).length) (by omega),
     .c (ivMul_pc (stepI d) ((fieldI s.tape (b ++ s.params) p).getD i wholeI) p ‹_› ‹_› (by omega) (by omega)),
     .c (ivAdd_pc (x.getD i wholeI) (mulI (stepI d) ((fieldI s.tape (b ++ s.params) p).getD i wholeI) p) p ‹_› ‹_› (by omega) (by omega)),
     tB 59 (hlo i (by omega):(addI (x.getD i wholeI) (mulI (stepI d) ((fieldI s.tape (b ++ s.params) p).getD i wholeI) p) p).all=false),
     .o 62 (.e (ivs1_le _):PV.le (.e (.sl true 1 7 fun i_ j_=>(ivL (addI (x.getD i wholeI) (mulI (stepI d) ((fieldI s.tape (b ++ s.params) p).getD i wholeI) p) p)).getD (i_ * 7+j_) (.v (.bool false)))) (.e (ivsP [(addI (x.getD i wholeI) (mulI (stepI d) ((fieldI s.tape (b ++ s.params) p).getD i wholeI) p) p)]))),
     .a (by omega:(i + [(addI (x.getD i wholeI) (mulI (stepI d) ((fieldI s.tape (b ++ s.params) p).getD i wholeI) p) p)].length) * 88 ≤ 140737488355328),r64 ((i:Int)+1) (by omega)] <| .e (chain [.b 14 (ivs_pushR rfl rfl rfl:Bx.le (.row true 26 (i + [(addI (x.getD i wholeI) (mulI (stepI d) ((fieldI s.tape (b ++ s.params) p).getD i wholeI) p) p)].length) 7 (fun i_ j_=>if i_ < i then (ivsE ((List.range i).map (fun j_=>(addI (x.getD j_ wholeI) (mulI (stepI d) ((fieldI s.tape (b ++ s.params) p).getD j_ wholeI) p) p)))) i_ j_ else (E.elf (ivsP [(addI (x.getD i wholeI) (mulI (stepI d) ((fieldI s.tape (b ++ s.params) p).getD i wholeI) p) p)])) (i_ - i) j_)) (.row true 26 (i+1) 7 (ivsE ((List.range (i+1)).map (fun j_=>(addI (x.getD j_ wholeI) (mulI (stepI d) ((fieldI s.tape (b ++ s.params) p).getD j_ wholeI) p) p))))))] <| .nil)) (by kernel_rfl))
  (fun hi=>by
    have w1:=(hx.ok N (by omega)).1
    have w2:=fv N
    have w3:=mulI_valid (stepI d) ((fieldI s.tape (b ++ s.params) p).getD N wholeI) (show 1 ≤ p by omega) (show p ≤ 4096 by omega)
    exact spt (chain [tT 43 ((N:Int) < (x.length:Int)) (by omega),iX ((N:Int)) (x.length) (by omega),
    .o 49 (.e (step_le d):PV.le (.e (.agg ([(bP false),(.v (.slice none 0 0)),(iP 0)] ++ dyL d ++ [(bP false)]))) (.e (ivP (stepI d)))),iX ((N:Int)) ((fieldI s.tape (b ++ s.params) p).length) (by omega),
    .c (ivMul_pc (stepI d) ((fieldI s.tape (b ++ s.params) p).getD N wholeI) p ‹_› ‹_› (by omega) (by omega)),
    .c (ivAdd_pc (x.getD N wholeI) (mulI (stepI d) ((fieldI s.tape (b ++ s.params) p).getD N wholeI) p) p ‹_› ‹_› (by omega) (by omega)),
    tB 59 (hN:(addI (x.getD N wholeI) (mulI (stepI d) ((fieldI s.tape (b ++ s.params) p).getD N wholeI) p) p).all=true)] <| .nil) (by kernel_rfl)) (by nofun):LpT 9 Tryz.f32 (imageFN s x d b p N 0) .ret ⟨66,true,[(10,.e (.v (.slice none 0 0)))],[]⟩) .nil] <| .nil) (by kernel_rfl)
set_option maxHeartbeats 1000000 in
theorem image_yes (s:SysV) (x:List Iv) (d:Dy) (b:List Iv) (p:Nat) (h:SysOk s) (hx:BoxOk s.states x) (hd:d.Valid) (h0:0 < d.sign) (hb:BoxOk s.states b) (hr:∀ i,i < s.tape.ops.length → RatOp (s.tape.ops.getD i opV0)) (hp1:8 ≤ p) (hp2:p ≤ 512) (hn:hasAll (fieldI s.tape (b ++ s.params) p)=false) (hlo:∀ i,i < x.length → (addI (x.getD i wholeI) (mulI (stepI d) ((fieldI s.tape (b ++ s.params) p).getD i wholeI) p) p).all=false):PCt 32 [(sysP s),(ivsP x),(dyP d),(ivsP b),(iP p)] (ivsP ((List.range x.length).map (fun j_=>(addI (x.getD j_ wholeI) (mulI (stepI d) ((fieldI s.tape (b ++ s.params) p).getD j_ wholeI) p) p)))):=by
 have s4:=h.s4
 have hlx:=hx.len
 have hou:=h.outs
 have hfl:=field_len s.tape (b ++ s.params) p
 obtain ⟨f1,f2,f3,f4⟩:=both_fits h hb
 have fv:=field_valid s.tape f4 (show 1 ≤ p by omega) (show p ≤ 4096 by omega)
 have hq:0 < d.q:=(q_sign d).1.1 h0
 have hst:=stepI_valid hd (Rat.le_of_lt hq)
 exact tr true Tryz.call32 Tryz.func32 (chain [.c (fits_yes s x d p h hx hd h0 hp1 hp2),.c (belongs_pc s b hb s4),.c (gField_yes s b p h hr hb hp1 hp2 hn),tB 37 (by decide:((0:Int) != 0)=false),
  .y 14 14 true 26 7 (ivsE ((List.range 0).map (fun j_=>(addI (x.getD j_ wholeI) (mulI (stepI d) ((fieldI s.tape (b ++ s.params) p).getD j_ wholeI) p) p)))),
  .s (Sp.upto (imageFY s x d b p) 0 x.length (by omega) (fun i hi hlti=>by
    have w1:=(hx.ok i (by omega)).1
    have w2:=fv i
    have w3:=mulI_valid (stepI d) ((fieldI s.tape (b ++ s.params) p).getD i wholeI) (show 1 ≤ p by omega) (show p ≤ 4096 by omega)
    have hol:=one_len (addI (x.getD i wholeI) (mulI (stepI d) ((fieldI s.tape (b ++ s.params) p).getD i wholeI) p) p)
    exact spt (chain [tT 43 ((i:Int) < (x.length:Int)) (by omega),iX ((i:Int)) (x.length) (by omega),
     .o 49 (.e (step_le d):PV.le (.e (.agg ([(bP false),(.v (.slice none 0 0)),(iP 0)] ++ dyL d ++ [(bP false)]))) (.e (ivP (stepI d)))),iX ((i:Int)) ((fieldI s.tape (b ++ s.params) p).length) (by omega),
     .c (ivMul_pc (stepI d) ((fieldI s.tape (b ++ s.params) p).getD i wholeI) p ‹_› ‹_› (by omega) (by omega)),
     .c (ivAdd_pc (x.getD i wholeI) (mulI (stepI d) ((fieldI s.tape (b ++ s.params) p).getD i wholeI) p) p ‹_› ‹_› (by omega) (by omega)),
     tB 59 (hlo i (by omega):(addI (x.getD i wholeI) (mulI (stepI d) ((fieldI s.tape (b ++ s.params) p).getD i wholeI) p) p).all=false),
     .o 62 (.e (ivs1_le _):PV.le (.e (.sl true 1 7 fun i_ j_=>(ivL (addI (x.getD i wholeI) (mulI (stepI d) ((fieldI s.tape (b ++ s.params) p).getD i wholeI) p) p)).getD (i_ * 7+j_) (.v (.bool false)))) (.e (ivsP [(addI (x.getD i wholeI) (mulI (stepI d) ((fieldI s.tape (b ++ s.params) p).getD i wholeI) p) p)]))),
     .a (by omega:(i + [(addI (x.getD i wholeI) (mulI (stepI d) ((fieldI s.tape (b ++ s.params) p).getD i wholeI) p) p)].length) * 88 ≤ 140737488355328),r64 ((i:Int)+1) (by omega)] <| .e (chain [.b 14 (ivs_pushR rfl rfl rfl:Bx.le (.row true 26 (i + [(addI (x.getD i wholeI) (mulI (stepI d) ((fieldI s.tape (b ++ s.params) p).getD i wholeI) p) p)].length) 7 (fun i_ j_=>if i_ < i then (ivsE ((List.range i).map (fun j_=>(addI (x.getD j_ wholeI) (mulI (stepI d) ((fieldI s.tape (b ++ s.params) p).getD j_ wholeI) p) p)))) i_ j_ else (E.elf (ivsP [(addI (x.getD i wholeI) (mulI (stepI d) ((fieldI s.tape (b ++ s.params) p).getD i wholeI) p) p)])) (i_ - i) j_)) (.row true 26 (i+1) 7 (ivsE ((List.range (i+1)).map (fun j_=>(addI (x.getD j_ wholeI) (mulI (stepI d) ((fieldI s.tape (b ++ s.params) p).getD j_ wholeI) p) p))))))] <| .nil)) (by kernel_rfl))
  (fun hi=>by
    exact spt (chain [tF 43 ((x.length:Int) < (x.length:Int)) (by omega),.z 14] <| .e (chain [.o 14 (.e (ivsRow_le (by simp)):PV.le (.e (.sl true x.length 7 (ivsE ((List.range x.length).map (fun j_=>(addI (x.getD j_ wholeI) (mulI (stepI d) ((fieldI s.tape (b ++ s.params) p).getD j_ wholeI) p) p)))))) (.e (ivsP ((List.range x.length).map (fun j_=>(addI (x.getD j_ wholeI) (mulI (stepI d) ((fieldI s.tape (b ++ s.params) p).getD j_ wholeI) p) p))))))] <| .nil)) (by kernel_rfl)) (by nofun):LpT 9 Tryz.f32 (imageFY s x d b p 0) (.exit 0) ⟨66,true,[(14,.e (ivsP ((List.range x.length).map (fun j_=>(addI (x.getD j_ wholeI) (mulI (stepI d) ((fieldI s.tape (b ++ s.params) p).getD j_ wholeI) p) p)))))],[]⟩) .nil] <| .nil) (by kernel_rfl)
theorem image_pc (s:SysV) (x:List Iv) (d:Dy) (b:List Iv) (p:Nat) (h:SysOk s) (hx:BoxOk s.states x) (hd:d.Valid) (h0:0 < d.sign) (hb:BoxOk s.states b) (hr:∀ i,i < s.tape.ops.length → RatOp (s.tape.ops.getD i opV0)) (hp1:8 ≤ p) (hp2:p ≤ 512):PCt 32 [(sysP s),(ivsP x),(dyP d),(ivsP b),(iP p)] (ivsP (imageI s x d b p)):=by
 unfold imageI
 cases hn:hasAll (fieldI s.tape (b ++ s.params) p) with
 | true=>rw [if_pos rfl]; exact (image_no1 s x d b p h hx hd h0 hb hr hp1 hp2 hn).res (.nil _ _ _)
 | false =>
  rw [if_neg (by decide)]
  cases ha:hasAll (imgL x (fieldI s.tape (b ++ s.params) p) d p) with
  | true =>
   rw [if_pos rfl]
   unfold hasAll at ha
   rw [List.any_eq_true,imgL_len] at ha
   obtain ⟨i,hi,hb2⟩:=ha
   obtain ⟨N,h1,h2,h3⟩:=least_true (p:=fun i=>((imgL x (fieldI s.tape (b ++ s.params) p) d p).getD i wholeI).all) ⟨i,List.mem_range.1 hi,hb2⟩
   refine (image_no2 s x d b p h hx hd h0 hb hr hp1 hp2 hn N h1 (fun i hi=>?_) ?_).res (.nil _ _ _)
   ·have:=h3 i hi; rw [imgL_at (show i < x.length by omega)] at this; exact this
   ·rw [imgL_at h1] at h2; exact h2
  | false =>
   rw [if_neg (by decide)]
   refine image_yes s x d b p h hx hd h0 hb hr hp1 hp2 hn fun i hi=>?_
   unfold hasAll at ha
   rw [List.any_eq_false,imgL_len] at ha
   have:=ha i (List.mem_range.2 hi)
   rw [imgL_at hi] at this
   exact Bool.eq_false_iff.2 this
set_option maxHeartbeats 1000000 in
theorem holds_out (s:SysV) (x:List Iv) (d:Dy) (b:E) (p:Int) (h:SysOk s) (hx:BoxOk s.states x) (hd:d.Valid) (h0:0 < d.sign) (hp:¬ (8 ≤ p ∧ p ≤ 512)):PCt 14 [(sysP s),(ivsP x),(dyP d),b,(iP p)] (bP false):=by
 exact tr true Tryz.call14 Tryz.func14 (chain [.c (image_out s x d b p h hx hd h0 hp),tB 20 (by decide:(decide ((0:Int) < 0))=false)] <| .nil) (by kernel_rfl)
set_option maxHeartbeats 1000000 in
theorem holds_badb (s:SysV) (x:List Iv) (d:Dy) (p:Nat) (h:SysOk s) (hx:BoxOk s.states x) (hd:d.Valid) (h0:0 < d.sign) (b:RI) (g:b.Good) (hbad:okB b=false ∨ b.all=true) (h1:s.states=1) (hp1:8 ≤ p) (hp2:p ≤ 512):PCt 14 [(sysP s),(ivsP x),(dyP d),(risP [b]),(iP p)] (bP false):=by
 exact tr true Tryz.call14 Tryz.func14 (chain [.c (image_badb s x d p h hx hd h0 b g hbad h1 hp1 hp2),tB 20 (by decide:(decide ((0:Int) < 0))=false)] <| .nil) (by kernel_rfl)
set_option maxHeartbeats 1000000 in
theorem holds_none (s:SysV) (x:List Iv) (d:Dy) (b:List Iv) (p:Nat) (h:SysOk s) (hx:BoxOk s.states x) (hd:d.Valid) (h0:0 < d.sign) (hb:BoxOk s.states b) (hr:∀ i,i < s.tape.ops.length → RatOp (s.tape.ops.getD i opV0)) (hp1:8 ≤ p) (hp2:p ≤ 512) (hi:(imageI s x d b p)=[]):PCt 14 [(sysP s),(ivsP x),(dyP d),(ivsP b),(iP p)] (bP false):=by
 exact tr true Tryz.call14 Tryz.func14 (chain [.c (image_pc s x d b p h hx hd h0 hb hr hp1 hp2),tB 20 (by rw [hi]; rfl:(decide (0 < (((imageI s x d b p).length:Nat):Int)))=false)] <| .nil) (by kernel_rfl)
theorem box_parts {n:Nat} {b:List Iv} (h:BoxOk n b) (h1:1 ≤ n) (h4:n ≤ 4):1 ≤ b.length ∧ b.length ≤ 4 ∧ NoAll b:=⟨by rw [h.len]; exact h1,by rw [h.len]; exact h4,h.ok⟩
set_option maxHeartbeats 1000000 in
theorem holds_some (s:SysV) (x:List Iv) (d:Dy) (b:List Iv) (p:Nat) (h:SysOk s) (hx:BoxOk s.states x) (hd:d.Valid) (h0:0 < d.sign) (hb:BoxOk s.states b) (hr:∀ i,i < s.tape.ops.length → RatOp (s.tape.ops.getD i opV0)) (hp1:8 ≤ p) (hp2:p ≤ 512) (hi:(imageI s x d b p) ≠ []):PCt 14 [(sysP s),(ivsP x),(dyP d),(ivsP b),(iP p)] (bP (insB x b && insB (imageI s x d b p) b)):=by
 have s1:=h.s1
 have s4:=h.s4
 obtain ⟨x1,x4,xo⟩:=box_parts hx s1 s4
 obtain ⟨b1,b4,bo⟩:=box_parts hb s1 s4
 have hlx:=hx.len
 have hlb:=hb.len
 have hio:=image_ok hx (show 1 ≤ p by omega) (show p ≤ 4096 by omega) hi
 obtain ⟨i1,i4,io⟩:=box_parts hio s1 s4
 have hli:=hio.len
 exact tr true Tryz.call14 Tryz.func14 (chain [.c (image_pc s x d b p h hx hd h0 hb hr hp1 hp2),tT 20 (0 < (((imageI s x d b p).length:Nat):Int)) (by omega),.c (boxInside_pc x b (by omega) (by omega) (by omega) ‹_› ‹_›)] <| .w (insB x b=true)
  (fun k1=>chain [tB 24 (k1),.c (boxInside_pc (imageI s x d b p) b (by omega) (by omega) (by omega) ‹_› ‹_›)] <| rQ (bP (insB (imageI s x d b p) b)) (bP (insB x b && insB (imageI s x d b p) b)) (by simp [k1]))
  (fun k1=>chain [tB 24 (Bool.eq_false_iff.2 k1)] <| rQ (bP false) (bP (insB x b && insB (imageI s x d b p) b)) (by simp [k1]))) (by kernel_rfl)
theorem holds_pc (s:SysV) (x:List Iv) (d:Dy) (b:List Iv) (p:Nat) (h:SysOk s) (hx:BoxOk s.states x) (hd:d.Valid) (h0:0 < d.sign) (hb:BoxOk s.states b) (hr:∀ i,i < s.tape.ops.length → RatOp (s.tape.ops.getD i opV0)) (hp1:8 ≤ p) (hp2:p ≤ 512):PCt 14 [(sysP s),(ivsP x),(dyP d),(ivsP b),(iP p)] (bP (holdsB s x d b p)):=by
 unfold holdsB
 by_cases hi:(imageI s x d b p)=[]
 ·have:=holds_none s x d b p h hx hd h0 hb hr hp1 hp2 hi
  rwa [hi,show (!([]:List Iv).isEmpty && (insB x b && insB [] b))=false from rfl]
 ·have:=holds_some s x d b p h hx hd h0 hb hr hp1 hp2 hi
  have e:((imageI s x d b p)).isEmpty=false:=by
   cases q:(imageI s x d b p) with
   | nil=>exact absurd q hi
   | cons _ _=>rfl
  rwa [e,Bool.not_false,Bool.true_and]
theorem two_scale (k:Int) (h1:-100 ≤ k) (h2:k ≤ 100):PCt 52 [dyP ⟨false,1,0⟩,iP k] (.tup [dyP (twoP k),iP 0]):=by
 have:=bScale_pc ⟨false,1,0⟩ k one_valid (by omega) (by omega)
 have e:canon false 1 (0+k)=twoP k:=by rw [Int.zero_add]; exact canon_one k
 have e2:chk (canon false 1 (0+k))=twoP k:=by rw [e]; exact chk_yes (twoP_range h1 h2)
 have e3:chkE (canon false 1 (0+k))=0:=by rw [e]; exact chkE_yes (twoP_range h1 h2)
 change PCt 52 [dyP ⟨false,1,0⟩,iP k] (.tup [dyP (chk (canon false 1 (0+k))),iP (chkE (canon false 1 (0+k)))]) at this
 rwa [e2,e3] at this
theorem growE_eq (x:List Iv) (d:Dy):(growE x d == 0)=growAll x d:=by
 unfold growE
 cases growAll x d <;> rfl
set_option maxHeartbeats 1000000 in
theorem grown_pc (x:List Iv) (k:Int) (x1:1 ≤ x.length) (x8:x.length ≤ 8) (hx:NoAll x) (k1:-100 ≤ k) (k2:k ≤ 100):PCt 28 [(ivsP x),(iP k)] (.tup [ivsP (growL x (twoP k)),bP (growAll x (twoP k))]):=by
 have v:=twoP_valid k1 k2
 have sg:=twoP_sign k
 exact tr true Tryz.call28 Tryz.func28 (chain [.c (bInt1_pc:PCt 53 [(iP 1)] _),.c (two_scale _ (by omega) (by omega):PCt 52 [(dyP (Dy.mk false 1 0)),(iP k)] _),tB 16 (by decide:((0:Int) != 0)=false),
  .c (boxGrow_pc _ _ (by omega) (by omega) ‹_› ‹_› ‹_›:PCt 54 [(ivsP x),(dyP (twoP k))] _)] <| rR (.tup [ivsP (growL x (twoP k)),bP (growAll x (twoP k))]) (.tup (.cons (.refl _) (.cons (.of_eq (by rw [growE_eq])) .nil)):E.le (.tup [(ivsP (growL x (twoP k))),(bP ((growE x (twoP k)) == 0))]) (.tup [ivsP (growL x (twoP k)),bP (growAll x (twoP k))]))) (by kernel_rfl)
set_option maxHeartbeats 1000000 in
theorem attempt_no (s:SysV) (x:List Iv) (d:Dy) (p:Nat) (h:SysOk s) (hx:BoxOk s.states x) (hd:d.Valid) (h0:0 < d.sign) (hr:∀ i,i < s.tape.ops.length → RatOp (s.tape.ops.getD i opV0)) (hp1:8 ≤ p) (hp2:p ≤ 512) (k:Int) (k1:-100 ≤ k) (k2:k ≤ 100) (hg:(growAll x (twoP k))=false):PCt 27 [(iP k),(.ref 1 fun j_=>[(ivsP x)].getD j_ .any),(.ref 5 fun j_=>[(iP s.tape.ins),(opsP s.tape.ops),(natsP s.tape.outs),(iP s.states),(ivsP s.params)].getD j_ .any),(.ref 3 fun j_=>[(bP d.neg),(slP (limbs d.m)),(iP d.e)].getD j_ .any),(.ref 1 fun j_=>[(iP p)].getD j_ .any)] (.tup [ivsP (growL x (twoP k)),bP false]):=by
 have s1:=h.s1
 have s4:=h.s4
 obtain ⟨x1,x4,xo⟩:=box_parts hx s1 s4
 exact tr true Tryz.call27 Tryz.func27 (chain [.c (grown_pc x k (by omega) (by omega) xo (by omega) (by omega)),tB 15 (hg:(growAll x (twoP k))=false)] <| .nil) (by kernel_rfl)
set_option maxHeartbeats 1000000 in
theorem attempt_yes (s:SysV) (x:List Iv) (d:Dy) (p:Nat) (h:SysOk s) (hx:BoxOk s.states x) (hd:d.Valid) (h0:0 < d.sign) (hr:∀ i,i < s.tape.ops.length → RatOp (s.tape.ops.getD i opV0)) (hp1:8 ≤ p) (hp2:p ≤ 512) (k:Int) (k1:-100 ≤ k) (k2:k ≤ 100) (hg:(growAll x (twoP k))=true):PCt 27 [(iP k),(.ref 1 fun j_=>[(ivsP x)].getD j_ .any),(.ref 5 fun j_=>[(iP s.tape.ins),(opsP s.tape.ops),(natsP s.tape.outs),(iP s.states),(ivsP s.params)].getD j_ .any),(.ref 3 fun j_=>[(bP d.neg),(slP (limbs d.m)),(iP d.e)].getD j_ .any),(.ref 1 fun j_=>[(iP p)].getD j_ .any)] (.tup [ivsP (growL x (twoP k)),bP (holdsB s x d (growL x (twoP k)) p)]):=by
 have s1:=h.s1
 have s4:=h.s4
 obtain ⟨x1,x4,xo⟩:=box_parts hx s1 s4
 have hb:=growL_ok hx (twoP_valid k1 k2) (sign_q (twoP_sign k)) hg
 exact tr true Tryz.call27 Tryz.func27 (chain [.c (grown_pc x k (by omega) (by omega) xo (by omega) (by omega)),tB 15 (hg:(growAll x (twoP k))=true),.c (holds_pc s x d (growL x (twoP k)) p h hx hd h0 hb hr hp1 hp2)] <| .nil) (by kernel_rfl)
theorem attempt_pc (s:SysV) (x:List Iv) (d:Dy) (p:Nat) (h:SysOk s) (hx:BoxOk s.states x) (hd:d.Valid) (h0:0 < d.sign) (hr:∀ i,i < s.tape.ops.length → RatOp (s.tape.ops.getD i opV0)) (hp1:8 ≤ p) (hp2:p ≤ 512) (k:Int) (k1:-100 ≤ k) (k2:k ≤ 100):PCt 27 [(iP k),(.ref 1 fun j_=>[(ivsP x)].getD j_ .any),(.ref 5 fun j_=>[(iP s.tape.ins),(opsP s.tape.ops),(natsP s.tape.outs),(iP s.states),(ivsP s.params)].getD j_ .any),(.ref 3 fun j_=>[(bP d.neg),(slP (limbs d.m)),(iP d.e)].getD j_ .any),(.ref 1 fun j_=>[(iP p)].getD j_ .any)] (.tup [ivsP (growL x (twoP k)),bP (attB s x d p k)]):=by
 unfold attB
 cases hg:growAll x (twoP k) with
 | false=>exact attempt_no s x d p h hx hd h0 hr hp1 hp2 k k1 k2 hg
 | true=>exact attempt_yes s x d p h hx hd h0 hr hp1 hp2 k k1 k2 hg
theorem scl_pc (d:Dy) (hd:d.Valid):PCt 52 [dyP d,iP (-3)] (.tup [dyP (sclD d),iP (sclE d)]):=bScale_pc d (-3) hd (by decide) (by decide)
theorem growE_zero {x:List Iv} {d:Dy}:growE x d=0 ↔ growAll x d=true:=by
 unfold growE
 cases growAll x d <;> simp
set_option maxHeartbeats 1000000 in
theorem wider_none (s:SysV) (x:List Iv) (d:Dy) (b:List Iv) (p:Nat) (h:SysOk s) (hx:BoxOk s.states x) (hd:d.Valid) (h0:0 < d.sign) (hb:BoxOk s.states b) (hr:∀ i,i < s.tape.ops.length → RatOp (s.tape.ops.getD i opV0)) (hp1:8 ≤ p) (hp2:p ≤ 512) (hi:(imageI s x d b p)=[]):PCt 29 [(sysP s),(ivsP x),(dyP d),(ivsP b),(iP p)] (.v (.slice none 0 0)):=by
 exact tr true Tryz.call29 Tryz.func29 (chain [.c (image_pc s x d b p h hx hd h0 hb hr hp1 hp2),tB 26 (by rw [hi]; rfl:((((imageI s x d b p).length:Nat):Int) == 0)=true)] <| .nil) (by kernel_rfl)
theorem len_ne {l:List Iv} (h:l ≠ []):((l.length:Int) == 0)=false:=natZ_false fun q=>h (List.length_eq_zero_iff.1 q)
set_option maxHeartbeats 1000000 in
theorem wider_some (s:SysV) (x:List Iv) (d:Dy) (b:List Iv) (p:Nat) (h:SysOk s) (hx:BoxOk s.states x) (hd:d.Valid) (h0:0 < d.sign) (hb:BoxOk s.states b) (hr:∀ i,i < s.tape.ops.length → RatOp (s.tape.ops.getD i opV0)) (hp1:8 ≤ p) (hp2:p ≤ 512) (hi:(imageI s x d b p) ≠ []):PCt 29 [(sysP s),(ivsP x),(dyP d),(ivsP b),(iP p)] (ivsP (widerI s x d b p)):=by
 have s1:=h.s1
 have s4:=h.s4
 obtain ⟨x1,x4,xo⟩:=box_parts hx s1 s4
 obtain ⟨b1,b4,bo⟩:=box_parts hb s1 s4
 have hlx:=hx.len
 have hlb:=hb.len
 have hio:=image_ok hx (show 1 ≤ p by omega) (show p ≤ 4096 by omega) hi
 obtain ⟨i1,i4,io⟩:=box_parts hio s1 s4
 have hli:=hio.len
 have hho:=hullL_ok hx hio
 obtain ⟨u1,u4,uo⟩:=box_parts hho s1 s4
 have wv:=widV_valid (hullL x (imageI s x d b p)) (show 1 ≤ p by omega) (show p ≤ 4096 by omega)
 have sv:=sclD_valid (widV (hullL x (imageI s x d b p)) p)
 have sn:=q_sign_not (sclD_nonneg (widV_nonneg (hullL x (imageI s x d b p)) p))
 exact tr true Tryz.call29 Tryz.func29 (chain [.c (image_pc s x d b p h hx hd h0 hb hr hp1 hp2),tB 26 (len_ne hi:((((imageI s x d b p).length:Nat):Int) == 0)=false),.c (boxHull_pc x (imageI s x d b p) (by omega) (by omega) (by omega) ‹_› ‹_›),
  .c (boxWidth_pc _ _ (by omega) (by omega) ‹_› (by omega) (by omega):PCt 56 [(ivsP (hullL x (imageI s x d b p))),(iP p)] _)] <| .w (widOk (hullL x (imageI s x d b p)) p=true)
  (fun k1=>chain [tB 35 (k1),.c (dySign_pc _ ‹_›:PCt 51 [(dyP (widV (hullL x (imageI s x d b p)) p))] _)] <| .w ((Dy.sign (widV (hullL x (imageI s x d b p)) p))=0)
   (fun k2=>chain [tB 41 (beq_iff_eq.2 k2)] <| rQ (ivsP (hullL x (imageI s x d b p))) (ivsP (widerI s x d b p)) (by unfold widerI; rw [if_neg hi]; simp [k1,k2]))
   (fun k2=>chain [tB 41 (beq_eq_false_iff_ne.2 k2),.c (scl_pc _ ‹_›:PCt 52 [(dyP (widV (hullL x (imageI s x d b p)) p)),(iP (-3))] _)] <| .w ((sclE (widV (hullL x (imageI s x d b p)) p))=0)
    (fun k3=>chain [tB 50 (bne_eq_false_iff_eq.2 k3),.c (boxGrow_pc _ _ (by omega) (by omega) ‹_› ‹_› ‹_›:PCt 54 [(ivsP (hullL x (imageI s x d b p))),(dyP (sclD (widV (hullL x (imageI s x d b p)) p)))] _)] <| .w ((growE (hullL x (imageI s x d b p)) (sclD (widV (hullL x (imageI s x d b p)) p)))=0)
     (fun k4=>chain [tB 59 (beq_iff_eq.2 k4)] <| rQ (ivsP (growL (hullL x (imageI s x d b p)) (sclD (widV (hullL x (imageI s x d b p)) p)))) (ivsP (widerI s x d b p)) (by unfold widerI; rw [if_neg hi]; simp [k1,k2,k3,growE_zero.1 k4]))
     (fun k4=>chain [tB 59 (beq_eq_false_iff_ne.2 k4)] <| rQ (ivsP (hullL x (imageI s x d b p))) (ivsP (widerI s x d b p)) (by unfold widerI; rw [if_neg hi]; simp [k1,k2,k3,show ¬ growAll _ _=true from fun q=>k4 (growE_zero.2 q)])))
    (fun k3=>chain [tB 50 (bne_iff_ne.2 k3)] <| rQ (ivsP (hullL x (imageI s x d b p))) (ivsP (widerI s x d b p)) (by unfold widerI; rw [if_neg hi]; simp [k1,k2,k3]))))
  (fun k1=>chain [tB 35 (Bool.eq_false_iff.2 k1)] <| rQ (ivsP (hullL x (imageI s x d b p))) (ivsP (widerI s x d b p)) (by unfold widerI; rw [if_neg hi]; simp [k1]))) (by kernel_rfl)
theorem wider_pc (s:SysV) (x:List Iv) (d:Dy) (b:List Iv) (p:Nat) (h:SysOk s) (hx:BoxOk s.states x) (hd:d.Valid) (h0:0 < d.sign) (hb:BoxOk s.states b) (hr:∀ i,i < s.tape.ops.length → RatOp (s.tape.ops.getD i opV0)) (hp1:8 ≤ p) (hp2:p ≤ 512):PCt 29 [(sysP s),(ivsP x),(dyP d),(ivsP b),(iP p)] (ivsP (widerI s x d b p)):=by
 by_cases hi:(imageI s x d b p)=[]
 ·have:=wider_none s x d b p h hx hd h0 hb hr hp1 hp2 hi
  unfold widerI
  rw [if_pos hi]
  exact this.res (.nil _ _ _)
 ·exact wider_some s x d b p h hx hd h0 hb hr hp1 hp2 hi
set_option maxHeartbeats 1000000 in
theorem enclose_out (s:SysV) (x:List Iv) (d:Dy) (p:Int) (h:SysOk s) (hx:BoxOk s.states x) (hd:d.Valid) (h0:0 < d.sign) (hp:¬ (8 ≤ p ∧ p ≤ 512)):PCt 12 [(sysP s),(ivsP x),(dyP d),(iP p)] (.tup [.v (.slice none 0 0),iP 1]):=by
 exact tr true Tryz.call12 Tryz.func12 (chain [.c (fits_no s x d p h hx hd h0 hp)] <| .nil) (by kernel_rfl)
set_option maxHeartbeats 1000000 in
theorem enclose_first (s:SysV) (x:List Iv) (d:Dy) (p:Nat) (h:SysOk s) (hx:BoxOk s.states x) (hd:d.Valid) (h0:0 < d.sign) (hr:∀ i,i < s.tape.ops.length → RatOp (s.tape.ops.getD i opV0)) (hp1:8 ≤ p) (hp2:p ≤ 512) (N:Nat) (hN0:N < 24) (hlo:∀ k:Nat,k < N → attB s x d p ((k:Int) - 20)=false) (hN:attB s x d p ((N:Int) - 20)=true):PCt 12 [(sysP s),(ivsP x),(dyP d),(iP p)] (.tup [ivsP (growL x (twoP ((N:Int) - 20))),iP 0]):=by
 exact tr true Tryz.call12 Tryz.func12 (chain [.c (fits_yes s x d p h hx hd h0 hp1 hp2),
  .s (Sp.upto (encFA s x d p N) 0 N (by omega) (fun k hk hltk=>by
    exact spt (chain [tT 23 ((k:Int) < 24) (by omega),r64 ((k:Int) - 20) (by omega),
     .c (attempt_pc _ _ _ _ h hx hd h0 hr hp1 hp2 _ (by omega) (by omega):PCt 27 [(iP ((k:Int) - 20)),(.ref 1 fun j_=>[(ivsP x)].getD j_ .any),(.ref 5 fun j_=>[(iP s.tape.ins),(opsP s.tape.ops),(natsP s.tape.outs),(iP s.states),(ivsP s.params)].getD j_ .any),(.ref 3 fun j_=>[(bP d.neg),(slP (limbs d.m)),(iP d.e)].getD j_ .any),(.ref 1 fun j_=>[(iP p)].getD j_ .any)] _),
     tB 31 (hlo k (by omega):(attB s x d p ((k:Int) - 20))=false),r64 ((k:Int)+1) (by omega)] <| .nil) (by kernel_rfl))
  (fun hk=>by
    exact spt (chain [tT 23 ((N:Int) < 24) (by omega),r64 ((N:Int) - 20) (by omega),
    .c (attempt_pc _ _ _ _ h hx hd h0 hr hp1 hp2 _ (by omega) (by omega):PCt 27 [(iP ((N:Int) - 20)),(.ref 1 fun j_=>[(ivsP x)].getD j_ .any),(.ref 5 fun j_=>[(iP s.tape.ins),(opsP s.tape.ops),(natsP s.tape.outs),(iP s.states),(ivsP s.params)].getD j_ .any),(.ref 3 fun j_=>[(bP d.neg),(slP (limbs d.m)),(iP d.e)].getD j_ .any),(.ref 1 fun j_=>[(iP p)].getD j_ .any)] _),
    tB 31 (hN:(attB s x d p ((N:Int) - 20))=true)] <| .nil) (by kernel_rfl)) (by nofun):LpT 5 Tryz.f12 (encFA s x d p N 0) .ret ⟨55,true,[(9,.e (iP 0)),(8,.e (ivsP (growL x (twoP ((N:Int) - 20)))))],[]⟩) .nil] <| .nil) (by kernel_rfl)
set_option maxHeartbeats 1000000 in
theorem enclose_stop (s:SysV) (x:List Iv) (d:Dy) (p:Nat) (h:SysOk s) (hx:BoxOk s.states x) (hd:d.Valid) (h0:0 < d.sign) (hr:∀ i,i < s.tape.ops.length → RatOp (s.tape.ops.getD i opV0)) (hp1:8 ≤ p) (hp2:p ≤ 512) (hlo:∀ k:Nat,k < 24 → attB s x d p ((k:Int) - 20)=false) (N:Nat) (hN0:N < 10) (hbs:∀ j,j ≤ N → BoxOk s.states (widB s x d p j)) (hw:∀ j,j < N → widerI s x d (widB s x d p j) p ≠ [] ∧ holdsB s x d (widerI s x d (widB s x d p j) p) p=false) (hN:widerI s x d (widB s x d p N) p=[]):PCt 12 [(sysP s),(ivsP x),(dyP d),(iP p)] (.tup [.v (.slice none 0 0),iP 12]):=by
 exact tr true Tryz.call12 Tryz.func12 (chain [.c (fits_yes s x d p h hx hd h0 hp1 hp2),
  .s (Sp.upto (encFB s x d p) 0 24 (by omega) (fun k hk hltk=>by
    exact spt (chain [tT 23 ((k:Int) < 24) (by omega),r64 ((k:Int) - 20) (by omega),
     .c (attempt_pc _ _ _ _ h hx hd h0 hr hp1 hp2 _ (by omega) (by omega):PCt 27 [(iP ((k:Int) - 20)),(.ref 1 fun j_=>[(ivsP x)].getD j_ .any),(.ref 5 fun j_=>[(iP s.tape.ins),(opsP s.tape.ops),(natsP s.tape.outs),(iP s.states),(ivsP s.params)].getD j_ .any),(.ref 3 fun j_=>[(bP d.neg),(slP (limbs d.m)),(iP d.e)].getD j_ .any),(.ref 1 fun j_=>[(iP p)].getD j_ .any)] _),
     tB 31 (hlo k (by omega):(attB s x d p ((k:Int) - 20))=false),r64 ((k:Int)+1) (by omega)] <| .nil) (by kernel_rfl))
  (fun hk=>by
    exact spt (chain [tB 23 (by decide:(decide ((24:Int) < 24))=false)] <| .nil) (by kernel_rfl)) (by nofun):LpT 5 Tryz.f12 (encFB s x d p 0) (.exit 0) ⟨55,true,[(7,.box 7 0),(6,.box 6 0),(5,.box 5 0),(4,.box 4 0)],[(7,.cells 3 [(iP p)]),(6,.cells 24 (dyL d)),(5,.cells 38 [(ivsP x)]),(4,.cells 40 [(iP s.tape.ins),(opsP s.tape.ops),(natsP s.tape.outs),(iP s.states),(ivsP s.params)])]⟩) .nil,
  .s (Sp.upto (encGB s x d p N) 0 N (by omega) (fun j hj hltj=>by
    have hbj:=hbs j (by omega)
    obtain ⟨hne,hnh⟩:=hw j (by omega)
    have hb2:=wider_ok hx (show 1 ≤ p by omega) (show p ≤ 4096 by omega) hne
    exact spt (chain [tT 37 ((j:Int) < 10) (by omega),.c (wider_pc s x d (widB s x d p j) p h hx hd h0 hbj hr hp1 hp2),tB 46 (len_ne hne:((((widerI s x d (widB s x d p j) p).length:Nat):Int) == 0)=false),
     .c (holds_pc s x d (widerI s x d (widB s x d p j) p) p h hx hd h0 hb2 hr hp1 hp2),tB 52 (hnh:(holdsB s x d (widerI s x d (widB s x d p j) p) p)=false),r64 ((j:Int)+1) (by omega)] <| .e (chain [.o 14 (.e (.of_eq rfl):PV.le (.e (ivsP (widerI s x d (widB s x d p j) p))) (.e (ivsP (widB s x d p (j+1)))))] <| .nil)) (by kernel_rfl))
  (fun hj=>by
    have hbj:=hbs N (Nat.le_refl _)
    exact spt (chain [tT 37 ((N:Int) < 10) (by omega),.c (wider_pc s x d (widB s x d p N) p h hx hd h0 hbj hr hp1 hp2),tB 46 (by rw [hN]; rfl:((((widerI s x d (widB s x d p N) p).length:Nat):Int) == 0)=true)] <| .nil) (by kernel_rfl)) (by nofun):LpT 13 Tryz.f12 (encGB s x d p N 0) (.exit 2) ⟨55,true,[],[]⟩) (chain [.o 14 (.e (.of_eq rfl):PV.le (.e (ivsP x)) (.e (ivsP (widB s x d p 0))))] <| .nil)] <| .nil) (by kernel_rfl)
set_option maxHeartbeats 1000000 in
theorem enclose_end (s:SysV) (x:List Iv) (d:Dy) (p:Nat) (h:SysOk s) (hx:BoxOk s.states x) (hd:d.Valid) (h0:0 < d.sign) (hr:∀ i,i < s.tape.ops.length → RatOp (s.tape.ops.getD i opV0)) (hp1:8 ≤ p) (hp2:p ≤ 512) (hlo:∀ k:Nat,k < 24 → attB s x d p ((k:Int) - 20)=false) (hbs:∀ j,j ≤ 10 → BoxOk s.states (widB s x d p j)) (hw:∀ j,j < 10 → widerI s x d (widB s x d p j) p ≠ [] ∧ holdsB s x d (widerI s x d (widB s x d p j) p) p=false):PCt 12 [(sysP s),(ivsP x),(dyP d),(iP p)] (.tup [.v (.slice none 0 0),iP 12]):=by
 exact tr true Tryz.call12 Tryz.func12 (chain [.c (fits_yes s x d p h hx hd h0 hp1 hp2),
  .s (Sp.upto (encFC s x d p) 0 24 (by omega) (fun k hk hltk=>by
    exact spt (chain [tT 23 ((k:Int) < 24) (by omega),r64 ((k:Int) - 20) (by omega),
     .c (attempt_pc _ _ _ _ h hx hd h0 hr hp1 hp2 _ (by omega) (by omega):PCt 27 [(iP ((k:Int) - 20)),(.ref 1 fun j_=>[(ivsP x)].getD j_ .any),(.ref 5 fun j_=>[(iP s.tape.ins),(opsP s.tape.ops),(natsP s.tape.outs),(iP s.states),(ivsP s.params)].getD j_ .any),(.ref 3 fun j_=>[(bP d.neg),(slP (limbs d.m)),(iP d.e)].getD j_ .any),(.ref 1 fun j_=>[(iP p)].getD j_ .any)] _),
     tB 31 (hlo k (by omega):(attB s x d p ((k:Int) - 20))=false),r64 ((k:Int)+1) (by omega)] <| .nil) (by kernel_rfl))
  (fun hk=>by
    exact spt (chain [tB 23 (by decide:(decide ((24:Int) < 24))=false)] <| .nil) (by kernel_rfl)) (by nofun):LpT 5 Tryz.f12 (encFC s x d p 0) (.exit 0) ⟨55,true,[(7,.box 7 0),(6,.box 6 0),(5,.box 5 0),(4,.box 4 0)],[(7,.cells 3 [(iP p)]),(6,.cells 24 (dyL d)),(5,.cells 38 [(ivsP x)]),(4,.cells 40 [(iP s.tape.ins),(opsP s.tape.ops),(natsP s.tape.outs),(iP s.states),(ivsP s.params)])]⟩) .nil,
  .s (Sp.upto (encGC s x d p) 0 10 (by omega) (fun j hj hltj=>by
    have hbj:=hbs j (by omega)
    obtain ⟨hne,hnh⟩:=hw j (by omega)
    have hb2:=wider_ok hx (show 1 ≤ p by omega) (show p ≤ 4096 by omega) hne
    exact spt (chain [tT 37 ((j:Int) < 10) (by omega),.c (wider_pc s x d (widB s x d p j) p h hx hd h0 hbj hr hp1 hp2),tB 46 (len_ne hne:((((widerI s x d (widB s x d p j) p).length:Nat):Int) == 0)=false),
     .c (holds_pc s x d (widerI s x d (widB s x d p j) p) p h hx hd h0 hb2 hr hp1 hp2),tB 52 (hnh:(holdsB s x d (widerI s x d (widB s x d p j) p) p)=false),r64 ((j:Int)+1) (by omega)] <| .e (chain [.o 14 (.e (.of_eq rfl):PV.le (.e (ivsP (widerI s x d (widB s x d p j) p))) (.e (ivsP (widB s x d p (j+1)))))] <| .nil)) (by kernel_rfl))
  (fun hj=>by
    exact spt (chain [tB 37 (by decide:(decide ((10:Int) < 10))=false)] <| .nil) (by kernel_rfl)) (by nofun):LpT 13 Tryz.f12 (encGC s x d p 0) (.exit 2) ⟨55,true,[],[]⟩) (chain [.o 14 (.e (.of_eq rfl):PV.le (.e (ivsP x)) (.e (ivsP (widB s x d p 0))))] <| .nil)] <| .nil) (by kernel_rfl)
theorem enclose_none (s:SysV) (x:List Iv) (d:Dy) (p:Nat) (h:SysOk s) (hx:BoxOk s.states x) (hd:d.Valid) (h0:0 < d.sign) (hr:∀ i,i < s.tape.ops.length → RatOp (s.tape.ops.getD i opV0)) (hp1:8 ≤ p) (hp2:p ≤ 512) (hno:∀ b,BoxOk s.states b → holdsB s x d b p=false):PCt 12 [(sysP s),(ivsP x),(dyP d),(iP p)] (.tup [.v (.slice none 0 0),iP 12]):=by
 have hlo:∀ k:Nat,k < 24 → attB s x d p ((k:Int) - 20)=false:=fun k hk=>by
  unfold attB
  cases hg:growAll x (twoP ((k:Int) - 20)) with
  | false=>rfl
  | true=>rw [hno _ (growL_ok hx (twoP_valid (k:=(k:Int) - 20) (by omega) (by omega)) (sign_q (twoP_sign _)) hg)]; rfl
 have p1:1 ≤ p:=by omega
 have p2:p ≤ 4096:=by omega
 have hh:∀ j,widerI s x d (widB s x d p j) p ≠ [] → holdsB s x d (widerI s x d (widB s x d p j) p) p=false:=fun j hj=>hno _ (wider_ok hx p1 p2 hj)
 by_cases h10:∃ N,N < 10 ∧ decide (widerI s x d (widB s x d p N) p=[])=true
 ·obtain ⟨N,h1,h2,h3⟩:=least_true h10
  have hne:∀ j,j < N → widerI s x d (widB s x d p j) p ≠ []:=fun j hj=>by simpa using h3 j hj
  refine enclose_stop s x d p h hx hd h0 hr hp1 hp2 hlo N h1 (fun j hj=>?_) (fun j hj=>⟨hne j hj,hh j (hne j hj)⟩) (by simpa using h2)
  rcases j with _ | j
  ·exact hx
  ·exact wider_ok hx p1 p2 (hne j (by omega))
 ·have hne:∀ j,j < 10 → widerI s x d (widB s x d p j) p ≠ []:=fun j hj q=>h10 ⟨j,hj,decide_eq_true q⟩
  refine enclose_end s x d p h hx hd h0 hr hp1 hp2 hlo (fun j hj=>?_) (fun j hj=>⟨hne j hj,hh j (hne j hj)⟩)
  rcases j with _ | j
  ·exact hx
  ·exact wider_ok hx p1 p2 (hne j (by omega))
open Go.RowKit Fp Pu
theorem sq_nonneg (a:Rat):0 ≤ a * a:=by
 by_cases h:0 ≤ a
 ·exact Rat.mul_nonneg h h
 ·have:=Rat.mul_nonneg (show 0 ≤ -a by grind) (show 0 ≤ -a by grind)
  grind
theorem none_law {x h:Dy} (vx:x.Valid) (vh:h.Valid) (hh:0 < h.q) (hxh:x.q * h.q ≤ -1) {B:Iv} (vB:B.Valid) (hB:B.all=false) {p:Nat} (hp1:8 ≤ p) (hp2:p ≤ 512) {y:Iv} (hP:(pwrI B 2 p).Valid)
  (hy:addI (pointI x) (mulI (stepI h) (negI (pwrI B 2 p)) p) p=y) (ya:y.all=false) (hin:B.lo.q ≤ y.lo.q):False:=by
 have b0:=vB.has_lo
 have b1:=pwrI_has vB (n:=2) (p:=p) (by omega) (by omega) b0
 have b2:=negI_has b1
 have vs:=stepI_valid vh (Rat.le_of_lt hh)
 have hs:(stepI h).has h.q:=.inr ⟨by show zeroD.q ≤ h.q; rw [q_zero]; exact Rat.le_of_lt hh,Rat.le_refl⟩
 have b3:=mulI_has vs (negI_valid hP) (p:=p) (by omega) (by omega) hs b2
 have b4:=addI_has (pointI_valid vx) (mulI_valid (stepI h) (negI (pwrI B 2 p)) (p:=p) (by omega) (by omega)) (p:=p) (by omega) (by omega) (pointI_has x) b3
 rw [hy] at b4
 obtain ⟨b5,_⟩:=b4.ends ya
 have e:rpow B.lo.q 2=B.lo.q * B.lo.q:=by simp only [rpow]; grind
 rw [e] at b5
 have b6:=Rat.le_trans hin b5
 generalize B.lo.q=L at *
 generalize x.q=X at *
 generalize h.q=H at *
 have m:=Rat.mul_le_mul_of_nonneg_right b6 (Rat.le_of_lt hh)
 have sq:=sq_nonneg (L * H+1 / 2)
 grind
open Go.RowKit Fp Pu
def sysNeg:SysV:=⟨⟨1,[⟨8,0,0,2,0,0⟩,⟨7,1,0,0,0,0⟩],[2]⟩,1,[]⟩
def sysId:SysV:=⟨⟨1,[],[0]⟩,1,[]⟩
theorem sysNeg_ok:SysOk sysNeg:=by
 refine ⟨⟨by decide,by decide,by decide,fun i hi=>?_,fun i hi=>?_⟩,by decide,by decide,rfl,rfl,by decide,fun i hi=>absurd hi (Nat.not_lt_zero i)⟩
 ·have hi:i < 2:=hi
  obtain rfl | rfl:i=0 ∨ i=1:=by omega
  ·exact ⟨by decide,by decide,by decide,rfl,by show 2 ≤ 16; decide,rfl,rfl⟩
  ·exact ⟨by decide,by decide,by decide,rfl,rfl,rfl,rfl⟩
 ·have hi:i < 1:=hi
  obtain rfl:i=0:=by omega
  decide
theorem sysNeg_rat:∀ i,i < sysNeg.tape.ops.length → 3 ≤ (sysNeg.tape.ops.getD i opV0).kind ∧ (sysNeg.tape.ops.getD i opV0).kind ≤ 8 ∧ (sysNeg.tape.ops.getD i opV0).n ≤ 16:=fun i hi=>by
 have hi:i < 2:=hi
 obtain rfl | rfl:i=0 ∨ i=1:=by omega
 all_goals decide
theorem sysId_ok:SysOk sysId:=by
 refine ⟨⟨by decide,by decide,by decide,fun i hi=>absurd hi (Nat.not_lt_zero i),fun i hi=>?_⟩,by decide,by decide,rfl,rfl,by decide,fun i hi=>absurd hi (Nat.not_lt_zero i)⟩
 have hi:i < 1:=hi
 obtain rfl:i=0:=by omega
 decide
theorem single_ok {B:Iv} (v:B.Valid) (a:B.all=false):BoxOk 1 [B]:=⟨rfl,fun i hi=>by
 have hi:i < 1:=hi
 obtain rfl:i=0:=by omega
 exact ⟨v,a⟩⟩
theorem box_single {b:List Iv} (h:BoxOk 1 b):∃ B,b=[B] ∧ B.Valid ∧ B.all=false:=by
 obtain ⟨hl,ho⟩:=h
 rcases b with _ | ⟨B,_ | ⟨C,l⟩⟩
 ·simp at hl
 ·exact ⟨B,rfl,(ho 0 (by simp)).1,(ho 0 (by simp)).2⟩
 ·simp at hl
theorem neg_field (B:Iv) (p:Nat):fieldI sysNeg.tape ([B] ++ sysNeg.params) p=[negI (pwrI B 2 p)]:=rfl
theorem none_tube {X H:Dy} (vX:X.Valid) (vH:H.Valid) (hh:0 < H.q) (hxh:X.q * H.q ≤ -1) {p:Nat} (hp1:8 ≤ p) (hp2:p ≤ 512) {b:List Iv} (hb:BoxOk 1 b):holdsB sysNeg [pointI X] H b p=false:=by
 obtain ⟨B,rfl,vB,aB⟩:=box_single hb
 rw [Bool.eq_false_iff]
 intro hc
 unfold holdsB at hc
 rw [Bool.and_eq_true,Bool.and_eq_true] at hc
 obtain ⟨h1,h2,h3⟩:=hc
 have hP:=pwrI_valid vB 2 (show 1 ≤ p by omega) (show p ≤ 4096 by omega)
 unfold imageI at h1 h3
 rw [neg_field] at h1 h3
 split at h1
 ·cases h1
 ·rename_i q1
  rw [if_neg q1] at h3
  split at h1
  ·cases h1
  ·rename_i q2
   rw [if_neg q2] at h3
   have hy:imgL [pointI X] [negI (pwrI B 2 p)] H p=[addI (pointI X) (mulI (stepI H) (negI (pwrI B 2 p)) p) p]:=rfl
   rw [hy] at q2 h3
   generalize hz:addI (pointI X) (mulI (stepI H) (negI (pwrI B 2 p)) p) p=y at q2 h3
   have ya:y.all=false:=by
    cases e:y.all
    ·rfl
    ·exact absurd (show hasAll [y]=true by show (y.all || false)=true; rw [e]; rfl) q2
   have hin:insI y B=true:=by
    have:=List.all_eq_true.1 h3 0 (by simp)
    exact this
   unfold insI at hin
   rw [aB,Bool.false_or,Bool.and_eq_true,Bool.and_eq_true,decide_eq_true_eq] at hin
   exact none_law vX vH hh hxh vB aB hp1 hp2 hP hz ya ((q_le _ _).1 hin.2.1)
open Go.RowKit Fp Pu
set_option maxHeartbeats 1000000 in
theorem cc1  : PCt 43 [(.v (.string ⟨#[120]⟩))] (.agg [(iP 2),(iP 0),(iP 0),(.v (.string ⟨#[120]⟩)),(iP 0),(.v (.slice none 0 0))]):=by
 exact tr true Tryz.call43 Tryz.func43 (.nil) (by kernel_rfl)
set_option maxHeartbeats 1000000 in
theorem cc2  : PCt 43 [(.v (.string ⟨#[121]⟩))] (.agg [(iP 2),(iP 0),(iP 0),(.v (.string ⟨#[121]⟩)),(iP 0),(.v (.slice none 0 0))]):=by
 exact tr true Tryz.call43 Tryz.func43 (.nil) (by kernel_rfl)
set_option maxHeartbeats 1000000 in
theorem cc3  : PCt 43 [(.v (.string ⟨#[116]⟩))] (.agg [(iP 2),(iP 0),(iP 0),(.v (.string ⟨#[116]⟩)),(iP 0),(.v (.slice none 0 0))]):=by
 exact tr true Tryz.call43 Tryz.func43 (.nil) (by kernel_rfl)
set_option maxHeartbeats 1000000 in
theorem cc4  : PCt 43 [(.v (.string ⟨#[97]⟩))] (.agg [(iP 2),(iP 0),(iP 0),(.v (.string ⟨#[97]⟩)),(iP 0),(.v (.slice none 0 0))]):=by
 exact tr true Tryz.call43 Tryz.func43 (.nil) (by kernel_rfl)
set_option maxHeartbeats 1000000 in
theorem cc5  : PCt 45 [(.agg [(iP 2),(iP 0),(iP 0),(.v (.string ⟨#[120]⟩)),(iP 0),(.v (.slice none 0 0))])] (.agg [(iP 8),(iP 0),(iP 0),(.v (.string ⟨#[]⟩)),(iP 2),(.sl true 1 6 fun i_ j_=>[(iP 2),(iP 0),(iP 0),(.v (.string ⟨#[120]⟩)),(iP 0),(.v (.slice none 0 0))].getD (i_ * 6+j_) (.v (.bool false)))]):=by
 exact tr true Tryz.call45 Tryz.func45 (.nil) (by kernel_rfl)
set_option maxHeartbeats 1000000 in
theorem cc6  : PCt 44 [(iP 7),(.agg [(iP 8),(iP 0),(iP 0),(.v (.string ⟨#[]⟩)),(iP 2),(.sl true 1 6 fun i_ j_=>[(iP 2),(iP 0),(iP 0),(.v (.string ⟨#[120]⟩)),(iP 0),(.v (.slice none 0 0))].getD (i_ * 6+j_) (.v (.bool false)))])] (.agg [(iP 7),(iP 0),(iP 0),(.v (.string ⟨#[]⟩)),(iP 0),(.sl true 1 6 fun i_ j_=>[(iP 8),(iP 0),(iP 0),(.v (.string ⟨#[]⟩)),(iP 2),(.sl true 1 6 fun i_ j_=>[(iP 2),(iP 0),(iP 0),(.v (.string ⟨#[120]⟩)),(iP 0),(.v (.slice none 0 0))].getD (i_ * 6+j_) (.v (.bool false)))].getD (i_ * 6+j_) (.v (.bool false)))]):=by
 exact tr true Tryz.call44 Tryz.func44 (.nil) (by kernel_rfl)
set_option maxHeartbeats 1000000 in
theorem cc7  : PCt 24 [(iP 0)] (.tup [(.sl true 1 1 fun i_ j_=>[(.v (.string ⟨#[120]⟩))].getD (i_ * 1+j_) (.v (.bool false))),(.v (.slice none 0 0)),(.sl true 1 6 fun i_ j_=>[(iP 7),(iP 0),(iP 0),(.v (.string ⟨#[]⟩)),(iP 0),(.sl true 1 6 fun i_ j_=>[(iP 8),(iP 0),(iP 0),(.v (.string ⟨#[]⟩)),(iP 2),(.sl true 1 6 fun i_ j_=>[(iP 2),(iP 0),(iP 0),(.v (.string ⟨#[120]⟩)),(iP 0),(.v (.slice none 0 0))].getD (i_ * 6+j_) (.v (.bool false)))].getD (i_ * 6+j_) (.v (.bool false)))].getD (i_ * 6+j_) (.v (.bool false)))]):=by
 exact tr true Tryz.call24 Tryz.func24 (chain [.c cc1,.c cc2,.c cc3,.c cc4,tB 15 (by decide:((0:Int) == 0)=true),.c cc5,.c cc6] <| .nil) (by kernel_rfl)
set_option maxHeartbeats 1000000 in
theorem cc8  : PCt 65 [(.sl true (1+0) 1 (fun i_ j_=>if i_ < 1 then (fun i_ j_=>if i_ < 0 then (fun i_ j_=>([]:List E).getD (i_ * 1+j_) (.v (.bool false))) i_ j_ else (E.elf (.sl true 1 1 fun i_ j_=>[(.v (.string ⟨#[120]⟩))].getD (i_ * 1+j_) (.v (.bool false)))) (i_ - 0) j_) i_ j_ else (E.elf (.sl true 0 1 fun _ _=>.any)) (i_ - 1) j_)),(.v (.string ⟨#[120]⟩))] (iP 0):=by
 exact tr true Tryz.call65 Tryz.func65 (chain [.u 12,tB 9 (by decide:(decide ((0:Int) < 1))=true),iX (0) (1) (by omega),.g (opEqS (beq_self_eq_true _):OpOK Tryz.prog .eql 9 (.v (.string ⟨#[120]⟩)) (.v (.string ⟨#[120]⟩)) (.bool true))] <| .nil) (by kernel_rfl)
set_option maxHeartbeats 1000000 in
theorem cc9  : PCt 48 [(.agg [(iP 1),(.v (.slice none 0 0)),(.v (.slice none 0 0))]),(.agg [(iP 2),(iP 0),(iP 0),(.v (.string ⟨#[120]⟩)),(iP 0),(.v (.slice none 0 0))]),(.sl true (1+0) 1 (fun i_ j_=>if i_ < 1 then (fun i_ j_=>if i_ < 0 then (fun i_ j_=>([]:List E).getD (i_ * 1+j_) (.v (.bool false))) i_ j_ else (E.elf (.sl true 1 1 fun i_ j_=>[(.v (.string ⟨#[120]⟩))].getD (i_ * 1+j_) (.v (.bool false)))) (i_ - 0) j_) i_ j_ else (E.elf (.sl true 0 1 fun _ _=>.any)) (i_ - 1) j_))] (.tup [(.agg [(iP 1),(.v (.slice none 0 0)),(.v (.slice none 0 0))]),(iP 0)]):=by
 exact tr true Tryz.call48 Tryz.func48 (chain [tB 15 (by decide:((2:Int) == 2)=true),.c cc8] <| .nil) (by kernel_rfl)
set_option maxHeartbeats 1000000 in
theorem cc10  : PCt 48 [(.agg [(iP 1),(.v (.slice none 0 0)),(.v (.slice none 0 0))]),(.agg [(iP 8),(iP 0),(iP 0),(.v (.string ⟨#[]⟩)),(iP 2),(.sl true 1 6 fun i_ j_=>[(iP 2),(iP 0),(iP 0),(.v (.string ⟨#[120]⟩)),(iP 0),(.v (.slice none 0 0))].getD (i_ * 6+j_) (.v (.bool false)))]),(.sl true (1+0) 1 (fun i_ j_=>if i_ < 1 then (fun i_ j_=>if i_ < 0 then (fun i_ j_=>([]:List E).getD (i_ * 1+j_) (.v (.bool false))) i_ j_ else (E.elf (.sl true 1 1 fun i_ j_=>[(.v (.string ⟨#[120]⟩))].getD (i_ * 1+j_) (.v (.bool false)))) (i_ - 0) j_) i_ j_ else (E.elf (.sl true 0 1 fun _ _=>.any)) (i_ - 1) j_))] (.tup [(.agg [(iP 1),(.sl true (0+1) 6 (fun i_ j_=>if i_ < 0 then (fun i_ j_=>if i_ < 0 then (fun i_ j_=>([]:List E).getD (i_ * 6+j_) (.v (.bool false))) i_ j_ else (E.elf (.sl true 0 6 fun _ _=>.any)) (i_ - 0) j_) i_ j_ else (E.elf (.sl true 1 6 fun i_ j_=>[(iP 8),(iP 0),(iP 0),(iP 2),(iP 0),(iP 0)].getD (i_ * 6+j_) (.v (.bool false)))) (i_ - 0) j_)),(.v (.slice none 0 0))]),(iP ((1+1) - 1))]):=by
 exact tr true Tryz.call48 Tryz.func48 (chain [tB 15 (by decide:((8:Int) == 2)=false),.u 12,tB 32 (by decide:(decide ((0:Int) < 1))=true),iX (0) (1) (by omega),.c cc9,tB 48 (by decide:((0:Int) == 0)=true),r64 (0+1) (by omega),
  .k [9,8,6,4,3,2] [8,3,6,4],tB 32 (by decide:(decide (((0+1):Int) < 1))=false),.u 12,.o 55 (.e (.nil _ _ _):PV.le (.e (.v (.slice none 0 0))) (.e (.sl true 0 6 fun _ _=>.any))),
  tB 57 (by decide:(decide ((0:Int) < 0))=false),.bo,.o 74 (.e (.nil _ _ _):PV.le (.e (.v (.slice none 0 0))) (.e (.sl true 0 6 fun _ _=>.any))),.a (by omega:(0+0) * 48 ≤ 140737488355328),
  .o 77 (.refl _:PV.le (.e (.sl true 1 6 fun i_ j_=>[(iP 8),(iP 0),(iP 0),(iP 2),(iP 0),(iP 0)].getD (i_ * 6+j_) (.v (.bool false)))) (.e (.sl true 1 6 fun i_ j_=>[(iP 8),(iP 0),(iP 0),(iP 2),(iP 0),(iP 0)].getD (i_ * 6+j_) (.v (.bool false))))),
  .bo,.a (by omega:(0+1) * 48 ≤ 140737488355328),r64 (1+1) (by omega),r64 ((1+1) - 1) (by omega)] <| .nil) (by kernel_rfl)
set_option maxHeartbeats 1000000 in
theorem cc11  : PCt 48 [(.agg [(iP 1),(.v (.slice none 0 0)),(.v (.slice none 0 0))]),(.agg [(iP 7),(iP 0),(iP 0),(.v (.string ⟨#[]⟩)),(iP 0),(.sl true 1 6 fun i_ j_=>[(iP 8),(iP 0),(iP 0),(.v (.string ⟨#[]⟩)),(iP 2),(.sl true 1 6 fun i_ j_=>[(iP 2),(iP 0),(iP 0),(.v (.string ⟨#[120]⟩)),(iP 0),(.v (.slice none 0 0))].getD (i_ * 6+j_) (.v (.bool false)))].getD (i_ * 6+j_) (.v (.bool false)))]),(.sl true (1+0) 1 (fun i_ j_=>if i_ < 1 then (fun i_ j_=>if i_ < 0 then (fun i_ j_=>([]:List E).getD (i_ * 1+j_) (.v (.bool false))) i_ j_ else (E.elf (.sl true 1 1 fun i_ j_=>[(.v (.string ⟨#[120]⟩))].getD (i_ * 1+j_) (.v (.bool false)))) (i_ - 0) j_) i_ j_ else (E.elf (.sl true 0 1 fun _ _=>.any)) (i_ - 1) j_))] (.tup [(.agg [(iP 1),(.sl true (1+1) 6 (fun i_ j_=>if i_ < 1 then (fun i_ j_=>if i_ < 0 then (fun i_ j_=>([]:List E).getD (i_ * 6+j_) (.v (.bool false))) i_ j_ else (E.elf (.sl true (0+1) 6 (fun i_ j_=>if i_ < 0 then (fun i_ j_=>if i_ < 0 then (fun i_ j_=>([]:List E).getD (i_ * 6+j_) (.v (.bool false))) i_ j_ else (E.elf (.sl true 0 6 fun _ _=>.any)) (i_ - 0) j_) i_ j_ else (E.elf (.sl true 1 6 fun i_ j_=>[(iP 8),(iP 0),(iP 0),(iP 2),(iP 0),(iP 0)].getD (i_ * 6+j_) (.v (.bool false)))) (i_ - 0) j_))) (i_ - 0) j_) i_ j_ else (E.elf (.sl true 1 6 fun i_ j_=>[(iP 7),(iP ((1+1) - 1)),(iP 0),(iP 0),(iP 0),(iP 0)].getD (i_ * 6+j_) (.v (.bool false)))) (i_ - 1) j_)),(.v (.slice none 0 0))]),(iP ((1+2) - 1))]):=by
 exact tr true Tryz.call48 Tryz.func48 (chain [tB 15 (by decide:((7:Int) == 2)=false),.u 12,tB 32 (by decide:(decide ((0:Int) < 1))=true),iX (0) (1) (by omega),.c cc10,tB 48 (by decide:((0:Int) == 0)=true),r64 (0+1) (by omega),
  .k [9,8,6,4,3,2] [8,3,6,4],tB 32 (by decide:(decide (((0+1):Int) < 1))=false),.u 12,tB 57 (by decide:(decide ((0:Int) < 1))=true),iX (0) (1) (by omega),
  .g (opEq66 (by kernel_rfl) (by kernel_rfl) (by kernel_rfl) (by kernel_rfl) (by decide):OpOK Tryz.prog .eql 101 (.agg [(iP 8),(iP 0),(iP 0),(iP 2),(iP 0),(iP 0)]) (.agg [(iP 7),(iP ((1+1) - 1)),(iP 0),(iP 0),(iP 0),(iP 0)]) (.bool false)),
  r64 (0+1) (by omega),.k [12,8,6,3] [8,3,6],tB 57 (by decide:(decide (((0+1):Int) < 1))=false),.bo,.a (by omega:(0+1) * 48 ≤ 140737488355328),
  .o 77 (.refl _:PV.le (.e (.sl true 1 6 fun i_ j_=>[(iP 7),(iP ((1+1) - 1)),(iP 0),(iP 0),(iP 0),(iP 0)].getD (i_ * 6+j_) (.v (.bool false)))) (.e (.sl true 1 6 fun i_ j_=>[(iP 7),(iP ((1+1) - 1)),(iP 0),(iP 0),(iP 0),(iP 0)].getD (i_ * 6+j_) (.v (.bool false))))),
  .bo,.a (by omega:(1+1) * 48 ≤ 140737488355328),r64 (1+2) (by omega),r64 ((1+2) - 1) (by omega)] <| .nil) (by kernel_rfl)
set_option maxHeartbeats 1000000 in
theorem cc12  : PCt 25 [(.sl true 1 6 fun i_ j_=>[(iP 7),(iP 0),(iP 0),(.v (.string ⟨#[]⟩)),(iP 0),(.sl true 1 6 fun i_ j_=>[(iP 8),(iP 0),(iP 0),(.v (.string ⟨#[]⟩)),(iP 2),(.sl true 1 6 fun i_ j_=>[(iP 2),(iP 0),(iP 0),(.v (.string ⟨#[120]⟩)),(iP 0),(.v (.slice none 0 0))].getD (i_ * 6+j_) (.v (.bool false)))].getD (i_ * 6+j_) (.v (.bool false)))].getD (i_ * 6+j_) (.v (.bool false))),(.sl true (1+0) 1 (fun i_ j_=>if i_ < 1 then (fun i_ j_=>if i_ < 0 then (fun i_ j_=>([]:List E).getD (i_ * 1+j_) (.v (.bool false))) i_ j_ else (E.elf (.sl true 1 1 fun i_ j_=>[(.v (.string ⟨#[120]⟩))].getD (i_ * 1+j_) (.v (.bool false)))) (i_ - 0) j_) i_ j_ else (E.elf (.sl true 0 1 fun _ _=>.any)) (i_ - 1) j_))] (.agg [(iP 1),(.sl true (1+1) 6 (fun i_ j_=>if i_ < 1 then (fun i_ j_=>if i_ < 0 then (fun i_ j_=>([]:List E).getD (i_ * 6+j_) (.v (.bool false))) i_ j_ else (E.elf (.sl true (0+1) 6 (fun i_ j_=>if i_ < 0 then (fun i_ j_=>if i_ < 0 then (fun i_ j_=>([]:List E).getD (i_ * 6+j_) (.v (.bool false))) i_ j_ else (E.elf (.sl true 0 6 fun _ _=>.any)) (i_ - 0) j_) i_ j_ else (E.elf (.sl true 1 6 fun i_ j_=>[(iP 8),(iP 0),(iP 0),(iP 2),(iP 0),(iP 0)].getD (i_ * 6+j_) (.v (.bool false)))) (i_ - 0) j_))) (i_ - 0) j_) i_ j_ else (E.elf (.sl true 1 6 fun i_ j_=>[(iP 7),(iP ((1+1) - 1)),(iP 0),(iP 0),(iP 0),(iP 0)].getD (i_ * 6+j_) (.v (.bool false)))) (i_ - 1) j_)),(.sl true (0+1) 1 (fun i_ j_=>if i_ < 0 then (fun i_ j_=>if i_ < 0 then (fun i_ j_=>([]:List E).getD (i_ * 1+j_) (.v (.bool false))) i_ j_ else (E.elf (.sl true 0 1 fun _ _=>.any)) (i_ - 0) j_) i_ j_ else (E.elf (.sl true 1 1 fun i_ j_=>[(iP ((1+2) - 1))].getD (i_ * 1+j_) (.v (.bool false)))) (i_ - 0) j_))]):=by
 exact tr true Tryz.call25 Tryz.func25 (chain [.u 12,tB 15 (by decide:(decide ((0:Int) < 1))=true),iX (0) (1) (by omega),.c cc11,.bo,.o 31 (.e (.nil _ _ _):PV.le (.e (.v (.slice none 0 0))) (.e (.sl true 0 1 fun _ _=>.any))),
  .a (by omega:(0+0) * 8 ≤ 140737488355328),
  .o 34 (.refl _:PV.le (.e (.sl true 1 1 fun i_ j_=>[(iP ((1+2) - 1))].getD (i_ * 1+j_) (.v (.bool false)))) (.e (.sl true 1 1 fun i_ j_=>[(iP ((1+2) - 1))].getD (i_ * 1+j_) (.v (.bool false))))),.bo,
  .a (by omega:(0+1) * 8 ≤ 140737488355328),r64 (0+1) (by omega),.k [6,5,4,0,1] [5,4],tB 15 (by decide:(decide (((0+1):Int) < 1))=false)] <| .nil) (by kernel_rfl)
set_option maxHeartbeats 1000000 in
theorem cc13  : PCt 11 [(iP 0),(.v (.slice none 0 0))] (.agg [(iP 1),(.sl true (1+1) 6 (fun i_ j_=>if i_ < 1 then (fun i_ j_=>if i_ < 0 then (fun i_ j_=>([]:List E).getD (i_ * 6+j_) (.v (.bool false))) i_ j_ else (E.elf (.sl true (0+1) 6 (fun i_ j_=>if i_ < 0 then (fun i_ j_=>if i_ < 0 then (fun i_ j_=>([]:List E).getD (i_ * 6+j_) (.v (.bool false))) i_ j_ else (E.elf (.sl true 0 6 fun _ _=>.any)) (i_ - 0) j_) i_ j_ else (E.elf (.sl true 1 6 fun i_ j_=>[(iP 8),(iP 0),(iP 0),(iP 2),(iP 0),(iP 0)].getD (i_ * 6+j_) (.v (.bool false)))) (i_ - 0) j_))) (i_ - 0) j_) i_ j_ else (E.elf (.sl true 1 6 fun i_ j_=>[(iP 7),(iP ((1+1) - 1)),(iP 0),(iP 0),(iP 0),(iP 0)].getD (i_ * 6+j_) (.v (.bool false)))) (i_ - 1) j_)),(.sl true (0+1) 1 (fun i_ j_=>if i_ < 0 then (fun i_ j_=>if i_ < 0 then (fun i_ j_=>([]:List E).getD (i_ * 1+j_) (.v (.bool false))) i_ j_ else (E.elf (.sl true 0 1 fun _ _=>.any)) (i_ - 0) j_) i_ j_ else (E.elf (.sl true 1 1 fun i_ j_=>[(iP ((1+2) - 1))].getD (i_ * 1+j_) (.v (.bool false)))) (i_ - 0) j_)),(iP 1),(.v (.slice none 0 0))]):=by
 exact tr true Tryz.call11 Tryz.func11 (chain [.c cc7,.bo,.a (by omega:(0+1) * 16 ≤ 140737488355328),.o 18 (.e (.nil _ _ _):PV.le (.e (.v (.slice none 0 0))) (.e (.sl true 0 1 fun _ _=>.any))),.bo,.a (by omega:(1+0) * 16 ≤ 140737488355328),.c cc12] <| .nil) (by kernel_rfl)
theorem caseNeg_pc:PCt 11 [iP 0,.v (.slice none 0 0)] (sysP sysNeg):=by
 refine cc13.res (.agg (.cons (.refl _) (.cons ?_ (.cons ?_ (.cons (.refl _) (.cons (.nil _ _ _) .nil))))))
 ·refine .sl fun i j hi hj=>?_
  have hi:i < 2:=hi
  obtain rfl | rfl:i=0 ∨ i=1:=by omega
  all_goals
   rcases j with _ | _ | _ | _ | _ | _ | j
   all_goals first | exact ⟨.of_eq rfl,rfl⟩ | omega
 ·refine .sl fun i j hi hj=>?_
  have hi:i < 1:=hi
  obtain rfl:i=0:=by omega
  obtain rfl:j=0:=by omega
  exact ⟨.of_eq rfl,rfl⟩
end Go.Proofs.YtkbjkchapnjhgaaGreatDoor
