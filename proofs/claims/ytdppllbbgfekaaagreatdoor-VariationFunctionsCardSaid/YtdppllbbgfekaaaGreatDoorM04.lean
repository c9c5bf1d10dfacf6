/- Texts: Uw Ux Uy Uz Va Px Vb Vc Dp Vd Di No Nn Mk Mc Md Mf Qn Qo Qr Qm Qt R1 Qb Qc Dj Qd. -/
import Derived.Test.YtdppllbbgfekaaaGreatDoorM03
set_option linter.unusedSimpArgs false
set_option linter.unusedVariables false
namespace Go.Proofs.YtdppllbbgfekaaaGreatDoor
open Go.RowKit Fp Pu
theorem rdDiv_pc (a b:Dy) (p:Nat) (up:Bool) (ha:a.Valid) (hb:b.Valid) (b0:b.m ≠ 0) (hp1:8 ≤ p) (hp2:p ≤ 512):PCt 186 [(dyP a),(dyP b),(iP p),(bP up)] (.tup [dyP (divD a b p up),iP (divE a b p up)]):=by
 by_cases a0:a.m=0
 ·have e1:divD a b p up=zeroD ∧ divE a b p up=0:=by unfold divD divE; rw [if_pos a0,if_pos a0]; exact ⟨rfl,rfl⟩
  exact tr true Tryz.call186 Tryz.func186 (chain [.o 18 (.e (dys2_le _ _):PV.le (.e (.sl true 2 3 fun i_ j_=>(dyL a ++ dyL b).getD (i_ * 3+j_) (.v (.bool false)))) (.e (dysP [a,b]))),
   .c (rdFault2_pc _ _ _ ‹_› ‹_› (by omega) (by omega):PCt 219 [(iP p),(dysP [a,b])] _),tB 21 (by decide:((0:Int) != 0)=false),
   tB 28 (natZ_false (limbs_len_ne b0):((((limbs b.m).length:Nat):Int) == 0)=false),tB 34 (natZ_true (limbs_len0.2 a0):((((limbs a.m).length:Nat):Int) == 0)=true),
   .o 35 (.e zeroP_le:PV.le (.e (.agg [(bP false),(.v (.slice none 0 0)),(iP 0)])) (.e (dyP zeroD)))] <| rQ (.tup [(dyP zeroD),(iP 0)]) (.tup [dyP (divD a b p up),iP (divE a b p up)]) (by rw [e1.1,e1.2])) (by kernel_rfl)
 ·have va:=ha.limbs
  have vb:=hb.limbs
  have xa:=ha.exp
  have xb:=hb.exp
  have ra:=ha.range.resolve_left a0
  have rb:=hb.range.resolve_left b0
  have pa:=bitsN_pos a0
  have pb:=bitsN_pos b0
  have hK:divK a b p 3=p+3+bitsN b.m - bitsN a.m:=rfl
  have bs:=bitsN_mul_pow a0 (divK a b p 3)
  have z1:(limbs (a.m * 2 ^ divK a b p 3)).length ≤ 256:=limbs_of_bits (by omega)
  have hq:=div_bits a0 b0 p 3 (by decide)
  have q0:a.m * 2 ^ divK a b p 3 / b.m ≠ 0:=by intro q; rw [q,bitsN_zero] at hq; omega
  have z2:(limbs (a.m * 2 ^ divK a b p 3 / b.m)).length ≤ 256:=limbs_of_bits (by have:=bitsN_mono (Nat.div_le_self (a.m * 2 ^ divK a b p 3) b.m); omega)
  have z3:(limbs (a.m * 2 ^ divK a b p 3 % b.m)).length ≤ 256:=limbs_of_bits (by have:=bitsN_mono (Nat.le_of_lt (Nat.mod_lt (a.m * 2 ^ divK a b p 3) (Nat.pos_of_ne_zero b0))); omega)
  have hb0:decide (0 < ((bitsN (a.m * 2 ^ divK a b p 3 % b.m):Nat):Int))=decide (a.m * 2 ^ divK a b p 3 % b.m ≠ 0):=by
   by_cases h:a.m * 2 ^ divK a b p 3 % b.m=0
   ·rw [h,bitsN_zero]; rfl
   ·have:=bitsN_pos h
    rw [decide_eq_true h,decide_eq_true (by omega)]
  obtain ⟨d1,d2⟩:=div_more a0 b0 p up
  have h0:a.m * 2 ^ divK a b p 3 / b.m ≠ 0 ∨ a.m * 2 ^ divK a b p 3 / b.m=0 ∧ a.e - ((divK a b p 3:Nat):Int) - b.e=0 ∧ decide (0 < ((bitsN (a.m * 2 ^ divK a b p 3 % b.m):Nat):Int))=false:=.inl q0
  have hm:decide (0 < ((bitsN (a.m * 2 ^ divK a b p 3 % b.m):Nat):Int))=true → p < bitsN (a.m * 2 ^ divK a b p 3 / b.m):=fun _=>hq
  exact tr true Tryz.call186 Tryz.func186 (chain [.o 18 (.e (dys2_le _ _):PV.le (.e (.sl true 2 3 fun i_ j_=>(dyL a ++ dyL b).getD (i_ * 3+j_) (.v (.bool false)))) (.e (dysP [a,b]))),
   .c (rdFault2_pc _ _ _ ‹_› ‹_› (by omega) (by omega):PCt 219 [(iP p),(dysP [a,b])] _),tB 21 (by decide:((0:Int) != 0)=false),
   tB 28 (natZ_false (limbs_len_ne b0):((((limbs b.m).length:Nat):Int) == 0)=false),tB 34 (natZ_false (limbs_len_ne a0):((((limbs a.m).length:Nat):Int) == 0)=false),r64 ((p:Int)+3) (by omega),
   .c (dyBits_pc _ ‹_›:PCt 220 [(dyP b)] _),r64 (((p:Int)+3)+(((bitsN (Dy.m b)):Nat):Int)) (by omega),.c (dyBits_pc _ ‹_›:PCt 220 [(dyP a)] _),
   r64 ((((p:Int)+3)+(((bitsN (Dy.m b)):Nat):Int)) - (((bitsN (Dy.m a)):Nat):Int)) (by omega),
   .o 44 (.int (by split <;> omega):PV.le (.e (iP (if ((((p:Int)+3)+(((bitsN (Dy.m b)):Nat):Int)) - (((bitsN (Dy.m a)):Nat):Int)) > 0 then ((((p:Int)+3)+(((bitsN (Dy.m b)):Nat):Int)) - (((bitsN (Dy.m a)):Nat):Int)) else 0))) (.e (iP (((divK a b p 3):Nat):Int)))),
   .c (rdShl_pc a.m (divK a b p 3) (by omega) (by omega) (by omega)),.c (natDivMod_pc _ _ (by omega) (by omega) ‹_›:PCt 221 [(slP (limbs (a.m * 2 ^ (divK a b p 3)))),(slP (limbs b.m))] _),
   r64 (a.e - (((divK a b p 3):Nat):Int)) (by omega),r64 ((a.e - (((divK a b p 3):Nat):Int)) - b.e) (by omega),.c (natBitsM_pc _ (by omega):PCt 224 [(slP (limbs ((a.m * 2 ^ (divK a b p 3)) % b.m)))] _),
   .c (rdSigned_pc (! (a.neg == b.neg)) ((a.m * 2 ^ (divK a b p 3)) / b.m) ((a.e - (((divK a b p 3):Nat):Int)) - b.e) (decide (0 < (((bitsN ((a.m * 2 ^ (divK a b p 3)) % b.m)):Nat):Int))) up p (by omega) ‹_› (by omega) (by omega) (by omega) (by omega) ‹_›)] <| rQ (.tup [(dyP (cutD (!(a.neg == b.neg)) ((a.m * 2 ^ (divK a b p 3)) / b.m) ((a.e - (((divK a b p 3):Nat):Int)) - b.e) (decide (0 < (((bitsN ((a.m * 2 ^ (divK a b p 3)) % b.m)):Nat):Int))) p up)),(iP (cutE (!(a.neg == b.neg)) ((a.m * 2 ^ (divK a b p 3)) / b.m) ((a.e - (((divK a b p 3):Nat):Int)) - b.e) (decide (0 < (((bitsN ((a.m * 2 ^ (divK a b p 3)) % b.m)):Nat):Int))) p up))]) (.tup [dyP (divD a b p up),iP (divE a b p up)]) (by rw [← d1,← d2,← hb0]; rfl)) (by kernel_rfl)
theorem rdDivDown_pc (a b:Dy) (p:Nat) (ha:a.Valid) (hb:b.Valid) (b0:b.m ≠ 0) (hp1:8 ≤ p) (hp2:p ≤ 512):PCt 129 [(dyP a),(dyP b),(iP p)] (.tup [dyP (divD a b p false),iP (divE a b p false)]):=by
 exact tr true Tryz.call129 Tryz.func129 (chain [.c (rdDiv_pc a b p false ‹_› ‹_› ‹_› (by omega) (by omega))] <| .nil) (by kernel_rfl)
theorem rdDivUp_pc (a b:Dy) (p:Nat) (ha:a.Valid) (hb:b.Valid) (b0:b.m ≠ 0) (hp1:8 ≤ p) (hp2:p ≤ 512):PCt 130 [(dyP a),(dyP b),(iP p)] (.tup [dyP (divD a b p true),iP (divE a b p true)]):=by
 exact tr true Tryz.call130 Tryz.func130 (chain [.c (rdDiv_pc a b p true ‹_› ‹_› ‹_› (by omega) (by omega))] <| .nil) (by kernel_rfl)
open Go.RowKit Fp Pu
def ivKnownFT (l:List Iv) (i:Nat):PS:=⟨19,true,[(7,.e (iP i)),(6,.e (iP l.length)),(5,.e (ivsP l))],[]⟩
def ivKnownFF (l:List Iv) (N:Nat) (i:Nat):PS:=⟨19,true,[(7,.e (iP i)),(6,.e (iP l.length)),(5,.e (ivsP l))],[]⟩
theorem ivs1_le (a:Iv):E.le (.sl true 1 7 fun i j=>(ivL a).getD (i * 7+j) (.v (.bool false))) (ivsP [a]):=.sl fun i j hi hj=>by
 obtain rfl:i=0:=by omega
 rcases j with _ | _ | _ | _ | _ | _ | _ | j
 all_goals first | exact ⟨.refl _,rfl⟩ | omega
theorem ivs2_le (a b:Iv):E.le (.sl true 2 7 fun i j=>(ivL a ++ ivL b).getD (i * 7+j) (.v (.bool false))) (ivsP [a,b]):=.sl fun i j hi hj=>by
 obtain rfl | rfl:i=0 ∨ i=1:=by omega
 all_goals
  rcases j with _ | _ | _ | _ | _ | _ | _ | j
  all_goals first | exact ⟨.refl _,rfl⟩ | omega
theorem ivOff {x:Iv} (h:x.Valid) (ha:x.all=false):x.lo.Valid ∧ x.hi.Valid ∧ cmpD x.lo x.hi ≤ 0:=by
 rcases h with ⟨h1,_⟩ | ⟨_,h⟩
 ·rw [ha] at h1; cases h1
 ·exact h
theorem ivOn {x:Iv} (h:x.Valid) (ha:x.all=true):x.lo=zeroD ∧ x.hi=zeroD:=by
 rcases h with ⟨_,h⟩ | ⟨h1,_⟩
 ·exact h
 ·rw [ha] at h1; cases h1
theorem ivWhole_pc  : PCt 91 [] (ivP wholeI):=by
 exact tr true Tryz.call91 Tryz.func91 (chain [.o 1 (.e wholeP_le:PV.le (.e (.agg [(bP false),(.v (.slice none 0 0)),(iP 0),(bP false),(.v (.slice none 0 0)),(iP 0),(bP true)])) (.e (ivP wholeI)))] <| .nil) (by kernel_rfl)
theorem ivMade_pc (lo hi:Dy) (e f:Int):PCt 134 [(dyP lo),(iP e),(dyP hi),(iP f)] (ivP (madeI lo e hi f)):=by
 by_cases he:e=0
 ·by_cases hf:f=0
  ·exact tr true Tryz.call134 Tryz.func134 (chain [tB 10 (by rw [he]; rfl:(e != 0)=false),tB 13 (by rw [hf]; rfl:(f != 0)=false)] <| rQ (ivP (Iv.mk lo hi false)) (ivP (madeI lo e hi f)) (by rw [show madeI lo e hi f=⟨lo,hi,false⟩ by unfold madeI; rw [if_neg (by simp [he,hf])]]; try rfl)) (by kernel_rfl)
  ·exact tr true Tryz.call134 Tryz.func134 (chain [tB 10 (by rw [he]; rfl:(e != 0)=false),tB 13 (by simpa using hf:(f != 0)=true),.c ivWhole_pc] <| rQ (ivP wholeI) (ivP (madeI lo e hi f)) (by rw [show madeI lo e hi f=wholeI by unfold madeI; rw [if_pos (.inr hf)]])) (by kernel_rfl)
 ·exact tr true Tryz.call134 Tryz.func134 (chain [tB 10 (by simpa using he:(e != 0)=true),.c ivWhole_pc] <| rQ (ivP wholeI) (ivP (madeI lo e hi f)) (by rw [show madeI lo e hi f=wholeI by unfold madeI; rw [if_pos (.inl he)]])) (by kernel_rfl)
theorem ivZero_pc  : PCt 116 [(dyP zeroD)] (bP true):=by
 exact tr true Tryz.call116 Tryz.func116 (chain [tB 4 (rfl:zeroD.neg=false),tB 10 (natZ_true (limbs_len0.2 rfl):((((limbs zeroD.m).length:Nat):Int) == 0)=true),tB 15 (rfl:(zeroD.e == 0)=true)] <| .nil) (by kernel_rfl)
theorem ivValid_pc (x:Iv) (hx:x.Valid):PCt 41 [(ivP x)] (bP true):=by
 by_cases hxa:x.all=true
 ·obtain ⟨h1,h2⟩:=ivOn hx hxa
  exact tr true Tryz.call41 Tryz.func41 (chain [tB 5 (hxa:x.all=true),.c (by rw [h1]; exact ivZero_pc:PCt 116 [(dyP x.lo)] (bP true)),.c (by rw [h2]; exact ivZero_pc:PCt 116 [(dyP x.hi)] (bP true))] <| .nil) (by kernel_rfl)
 ·replace hxa:x.all=false:=by simpa using hxa
  obtain ⟨h1,h2,h3⟩:=ivOff hx hxa
  exact tr true Tryz.call41 Tryz.func41 (chain [tB 5 (hxa:x.all=false),.c (dyValid_pc _ ‹_›:PCt 98 [(dyP x.lo)] _),.c (dyValid_pc _ ‹_›:PCt 98 [(dyP x.hi)] _),.c (dyCmp_pc _ _ ‹_› ‹_›:PCt 82 [(dyP x.lo),(dyP x.hi)] _),
   tB 30 (decide_eq_true h3)] <| .nil) (by kernel_rfl)
theorem ivKnown_true (l:List Iv) (hl:l.length ≤ 1000) (hv:∀ i,i < l.length → (l.getD i wholeI).Valid) (ha:∀ i,i < l.length → (l.getD i wholeI).all=false):PCt 90 [(ivsP l)] (bP true):=by
 exact tr true Tryz.call90 Tryz.func90 (chain [.s (Sp.upto (ivKnownFT l) 0 l.length (by omega) (fun i hi hlti=>by
    have hvi:=hv i (by omega)
    have hai:=ha i (by omega)
    exact spt (chain [tT 8 ((i:Int) < (l.length:Int)) (by omega),iX ((i:Int)) (l.length) (by omega),tB 12 (hai:(l.getD i wholeI).all=false),.c (ivValid_pc (l.getD i wholeI) ‹_›),
     r64 ((i:Int)+1) (by omega)] <| .nil) (by kernel_rfl))
  (fun hi=>by
    exact spt (chain [tF 8 ((l.length:Int) < (l.length:Int)) (by omega)] <| .nil) (by kernel_rfl)) (by nofun):LpT 2 Tryz.f90 (ivKnownFT l 0) (.exit 0) ⟨19,true,[],[]⟩) .nil] <| .nil) (by kernel_rfl)
theorem ivKnown_false (l:List Iv) (hl:l.length ≤ 1000) (hv:∀ i,i < l.length → (l.getD i wholeI).Valid) (N:Nat) (hN:N < l.length) (ha:∀ i,i < N → (l.getD i wholeI).all=false) (hN2:(l.getD N wholeI).all=true):PCt 90 [(ivsP l)] (bP false):=by
 exact tr true Tryz.call90 Tryz.func90 (chain [.s (Sp.upto (ivKnownFF l N) 0 N (by omega) (fun i hi hlti=>by
    have hvi:=hv i (by omega)
    have hai:=ha i (by omega)
    exact spt (chain [tT 8 ((i:Int) < (l.length:Int)) (by omega),iX ((i:Int)) (l.length) (by omega),tB 12 (hai:(l.getD i wholeI).all=false),.c (ivValid_pc (l.getD i wholeI) ‹_›),
     r64 ((i:Int)+1) (by omega)] <| .nil) (by kernel_rfl))
  (fun hi=>by
    exact spt (chain [tT 8 ((N:Int) < (l.length:Int)) (by omega),iX ((N:Int)) (l.length) (by omega),tB 12 (hN2:(l.getD N wholeI).all=true)] <| .nil) (by kernel_rfl)) (by nofun):LpT 2 Tryz.f90 (ivKnownFF l N 0) .ret ⟨19,true,[(2,.e (bP false))],[]⟩) .nil] <| .nil) (by kernel_rfl)
theorem ivKnown1_pc (x:Iv) (hx:x.Valid):PCt 90 [ivsP [x]] (bP (!x.all)):=by
 have hv:∀ i,i < [x].length → ([x].getD i wholeI).Valid:=fun i hi=>(match i,hi with
  | 0,_=>hx
  | n+1,hi=>absurd hi (by simp))
 cases hxa:x.all with
 | true=>exact ivKnown_false [x] (by simp) hv 0 (by simp) (fun i hi=>absurd hi (Nat.not_lt_zero i)) hxa
 | false=>exact ivKnown_true [x] (by simp) hv (fun i hi=>(match i,hi with
  | 0,_=>hxa
  | n+1,hi=>absurd hi (by simp)))
theorem ivKnown2_pc (x y:Iv) (hx:x.Valid) (hy:y.Valid):PCt 90 [ivsP [x,y]] (bP (!(x.all || y.all))):=by
 have hv:∀ i,i < [x,y].length → ([x,y].getD i wholeI).Valid:=fun i hi=>(match i,hi with
  | 0,_=>hx
  | 1,_=>hy
  | n+2,hi=>absurd hi (by simp))
 cases hxa:x.all with
 | true=>exact ivKnown_false [x,y] (by simp) hv 0 (by simp) (fun i hi=>absurd hi (Nat.not_lt_zero i)) hxa
 | false=>cases hya:y.all with
  | true=>exact ivKnown_false [x,y] (by simp) hv 1 (by simp) (fun i hi=>(match i,hi with
   | 0,_=>hxa
   | n+1,hi=>absurd hi (by omega))) hya
  | false=>exact ivKnown_true [x,y] (by simp) hv (fun i hi=>(match i,hi with
   | 0,_=>hxa
   | 1,_=>hya
   | n+2,hi=>absurd hi (by simp)))
theorem ivAdd_pc (x y:Iv) (p:Nat) (hx:x.Valid) (hy:y.Valid) (hp1:8 ≤ p) (hp2:p ≤ 512):PCt 48 [(ivP x),(ivP y),(iP p)] (ivP (addI x y p)):=by
 by_cases hk:(x.all || y.all)=true
 ·exact tr true Tryz.call48 Tryz.func48 (chain [.o 13 (.e (ivs2_le _ _):PV.le (.e (.sl true 2 7 fun i_ j_=>(ivL x ++ ivL y).getD (i_ * 7+j_) (.v (.bool false)))) (.e (ivsP [x,y]))),.c (ivKnown2_pc _ _ ‹_› ‹_›:PCt 90 [(ivsP [x,y])] _),
   tB 14 (by rw [hk]; rfl:(!(x.all || y.all))=false),.c ivWhole_pc] <| rQ (ivP wholeI) (ivP (addI x y p)) (by rw [show addI x y p=wholeI by unfold addI; rw [if_pos hk]])) (by kernel_rfl)
 ·replace hk:(x.all || y.all)=false:=by simpa using hk
  have hxa:x.all=false:=by cases h:x.all; rfl; rw [h] at hk; simp at hk
  have hya:y.all=false:=by cases h:y.all; rfl; rw [h] at hk; simp at hk
  obtain ⟨v1,v2,v3⟩:=ivOff hx hxa
  obtain ⟨v4,v5,v6⟩:=ivOff hy hya
  exact tr true Tryz.call48 Tryz.func48 (chain [.o 13 (.e (ivs2_le _ _):PV.le (.e (.sl true 2 7 fun i_ j_=>(ivL x ++ ivL y).getD (i_ * 7+j_) (.v (.bool false)))) (.e (ivsP [x,y]))),.c (ivKnown2_pc _ _ ‹_› ‹_›:PCt 90 [(ivsP [x,y])] _),
   tB 14 (by rw [hk]; rfl:(!(x.all || y.all))=true),.c (ivPermitted_pc _:PCt 126 [(iP p)] _),tB 18 (precB_true.2 ⟨by omega,by omega⟩:(precB (p:Int))=true),
   .c (rdAddDown_pc x.lo y.lo p ‹_› ‹_› (by omega) (by omega)),.c (rdAddUp_pc x.hi y.hi p ‹_› ‹_› (by omega) (by omega)),
   .c (ivMade_pc (rndD (sumD x.lo y.lo) p false) (rndD (sumD x.hi y.hi) p true) (rndE (sumD x.lo y.lo) p false) (rndE (sumD x.hi y.hi) p true))] <| rQ (ivP (madeI (rndD (sumD x.lo y.lo) p false) (rndE (sumD x.lo y.lo) p false) (rndD (sumD x.hi y.hi) p true) (rndE (sumD x.hi y.hi) p true))) (ivP (addI x y p)) (by rw [show addI x y p=_ by unfold addI; rw [if_neg (by rw [hk]; decide)]])) (by kernel_rfl)
theorem ivNeg_pc (x:Iv) (hx:x.Valid):PCt 24 [(ivP x)] (ivP (negI x)):=by
 by_cases hxa:x.all=true
 ·exact tr true Tryz.call24 Tryz.func24 (chain [.o 4 (.e (ivs1_le _):PV.le (.e (.sl true 1 7 fun i_ j_=>(ivL x).getD (i_ * 7+j_) (.v (.bool false)))) (.e (ivsP [x]))),.c (ivKnown1_pc _ ‹_›:PCt 90 [(ivsP [x])] _),tB 5 (by rw [hxa]; rfl:(!x.all)=false),
   .c ivWhole_pc] <| rQ (ivP wholeI) (ivP (negI x)) (by rw [show negI x=wholeI by unfold negI; rw [if_pos hxa]])) (by kernel_rfl)
 ·replace hxa:x.all=false:=by simpa using hxa
  obtain ⟨v1,v2,v3⟩:=ivOff hx hxa
  exact tr true Tryz.call24 Tryz.func24 (chain [.o 4 (.e (ivs1_le _):PV.le (.e (.sl true 1 7 fun i_ j_=>(ivL x).getD (i_ * 7+j_) (.v (.bool false)))) (.e (ivsP [x]))),.c (ivKnown1_pc _ ‹_›:PCt 90 [(ivsP [x])] _),tB 5 (by rw [hxa]; rfl:(!x.all)=true),
   .c (dyNeg_pc _ ‹_›:PCt 92 [(dyP x.hi)] _),.c (dyNeg_pc _ ‹_›:PCt 92 [(dyP x.lo)] _)] <| rQ (ivP (Iv.mk (negD x.hi) (negD x.lo) false)) (ivP (negI x)) (by rw [show negI x=⟨negD x.hi,negD x.lo,false⟩ by unfold negI; rw [if_neg (by rw [hxa]; decide)]]; try rfl)) (by kernel_rfl)
theorem ivSub_pc (x y:Iv) (p:Nat) (hx:x.Valid) (hy:y.Valid) (hp1:8 ≤ p) (hp2:p ≤ 512):PCt 120 [(ivP x),(ivP y),(iP p)] (ivP (subI x y p)):=by
 have hn:=negI_valid hy
 exact tr true Tryz.call120 Tryz.func120 (chain [.c (ivNeg_pc y ‹_›),.c (ivAdd_pc x (negI y) p ‹_› ‹_› (by omega) (by omega))] <| .nil) (by kernel_rfl)
theorem ivPoint_pc (d:Dy) (hd:d.Valid):PCt 28 [(dyP d)] (ivP (pointI d)):=by
 exact tr true Tryz.call28 Tryz.func28 (chain [.c (dyValid_pc _ ‹_›:PCt 98 [(dyP d)] _)] <| .nil) (by kernel_rfl)
theorem dyAbs_pc (d:Dy) (hd:d.Valid):PCt 217 [(dyP d)] (dyP (absD d)):=by
 have hl:=hd.limbs
 by_cases h0:d.m=0
 ·have e1:absD d=zeroD:=by
   rcases hd.canon with q | q
   ·unfold absD zeroD; rw [q.1,q.2.2]
   ·omega
  exact tr true Tryz.call217 Tryz.func217 (chain [.c (dyValid_pc _ ‹_›:PCt 98 [(dyP d)] _),tB 10 (natZ_true (limbs_len0.2 h0):((((limbs d.m).length:Nat):Int) == 0)=true),
   .o 12 (.e zeroP_le:PV.le (.e (.agg [(bP false),(.v (.slice none 0 0)),(iP 0)])) (.e (dyP zeroD)))] <| rQ (dyP zeroD) (dyP (absD d)) (by rw [e1])) (by kernel_rfl)
 ·exact tr true Tryz.call217 Tryz.func217 (chain [.c (dyValid_pc _ ‹_›:PCt 98 [(dyP d)] _),tB 10 (natZ_false (limbs_len_ne h0):((((limbs d.m).length:Nat):Int) == 0)=false),.c (clone_pc _ (ok_limbs _) (by omega):PCt 164 [(slP (limbs d.m))] _)] <| .nil) (by kernel_rfl)
theorem ivLess_pc (a b:Dy) (ha:a.Valid) (hb:b.Valid):PCt 81 [(dyP a),(dyP b)] (dyP (minD a b)):=by
 have hc:=cmpD_neg a b
 by_cases h:(cmpD a b ≤ 0)
 ·exact tr true Tryz.call81 Tryz.func81 (chain [.c (dyCmp_pc _ _ ‹_› ‹_›:PCt 82 [(dyP a),(dyP b)] _),tB 8 (decide_eq_true h)] <| rQ (dyP a) (dyP (minD a b)) (by unfold minD; rw [if_neg (by omega)])) (by kernel_rfl)
 ·exact tr true Tryz.call81 Tryz.func81 (chain [.c (dyCmp_pc _ _ ‹_› ‹_›:PCt 82 [(dyP a),(dyP b)] _),tB 8 (decide_eq_false h)] <| rQ (dyP b) (dyP (minD a b)) (by unfold minD; rw [if_pos (by omega)])) (by kernel_rfl)
theorem ivMore_pc (a b:Dy) (ha:a.Valid) (hb:b.Valid):PCt 80 [(dyP a),(dyP b)] (dyP (maxD a b)):=by
 have hc:=cmpD_neg a b
 by_cases h:(0 ≤ cmpD a b)
 ·exact tr true Tryz.call80 Tryz.func80 (chain [.c (dyCmp_pc _ _ ‹_› ‹_›:PCt 82 [(dyP a),(dyP b)] _),tB 8 (decide_eq_true h)] <| rQ (dyP a) (dyP (maxD a b)) (by unfold maxD; rw [if_neg (by omega)])) (by kernel_rfl)
 ·exact tr true Tryz.call80 Tryz.func80 (chain [.c (dyCmp_pc _ _ ‹_› ‹_›:PCt 82 [(dyP a),(dyP b)] _),tB 8 (decide_eq_false h)] <| rQ (dyP b) (dyP (maxD a b)) (by unfold maxD; rw [if_pos (by omega)])) (by kernel_rfl)
theorem ivSign_pc (x:Iv) (hx:x.Valid):PCt 127 [(ivP x)] (iP (signI x)):=by
 by_cases hxa:x.all=true
 ·exact tr true Tryz.call127 Tryz.func127 (chain [.o 5 (.e (ivs1_le _):PV.le (.e (.sl true 1 7 fun i_ j_=>(ivL x).getD (i_ * 7+j_) (.v (.bool false)))) (.e (ivsP [x]))),.c (ivKnown1_pc _ ‹_›:PCt 90 [(ivsP [x])] _),tB 6 (by rw [hxa]; rfl:(!x.all)=false)] <| rQ (iP 0) (iP (signI x)) (by rw [show signI x=0 by unfold signI; rw [if_pos hxa]])) (by kernel_rfl)
 ·replace hxa:x.all=false:=by simpa using hxa
  obtain ⟨v1,v2,v3⟩:=ivOff hx hxa
  by_cases h1:0 < x.lo.sign
  ·exact tr true Tryz.call127 Tryz.func127 (chain [.o 5 (.e (ivs1_le _):PV.le (.e (.sl true 1 7 fun i_ j_=>(ivL x).getD (i_ * 7+j_) (.v (.bool false)))) (.e (ivsP [x]))),.c (ivKnown1_pc _ ‹_›:PCt 90 [(ivsP [x])] _),tB 6 (by rw [hxa]; rfl:(!x.all)=true),
    .c (dySign_pc _ ‹_›:PCt 114 [(dyP x.lo)] _),tB 12 (decide_eq_true h1)] <| rQ (iP 1) (iP (signI x)) (by rw [show signI x=1 by unfold signI; rw [if_neg (by rw [hxa]; decide)]; simp [h1]])) (by kernel_rfl)
  ·by_cases h2:x.hi.sign < 0
   ·exact tr true Tryz.call127 Tryz.func127 (chain [.o 5 (.e (ivs1_le _):PV.le (.e (.sl true 1 7 fun i_ j_=>(ivL x).getD (i_ * 7+j_) (.v (.bool false)))) (.e (ivsP [x]))),.c (ivKnown1_pc _ ‹_›:PCt 90 [(ivsP [x])] _),tB 6 (by rw [hxa]; rfl:(!x.all)=true),
     .c (dySign_pc _ ‹_›:PCt 114 [(dyP x.lo)] _),tB 12 (decide_eq_false h1),.c (dySign_pc _ ‹_›:PCt 114 [(dyP x.hi)] _),tB 17 (decide_eq_true h2)] <| rQ (iP (-1)) (iP (signI x)) (by rw [show signI x = -1 by unfold signI; rw [if_neg (by rw [hxa]; decide)]; simp [h1,h2]])) (by kernel_rfl)
   ·exact tr true Tryz.call127 Tryz.func127 (chain [.o 5 (.e (ivs1_le _):PV.le (.e (.sl true 1 7 fun i_ j_=>(ivL x).getD (i_ * 7+j_) (.v (.bool false)))) (.e (ivsP [x]))),.c (ivKnown1_pc _ ‹_›:PCt 90 [(ivsP [x])] _),tB 6 (by rw [hxa]; rfl:(!x.all)=true),
     .c (dySign_pc _ ‹_›:PCt 114 [(dyP x.lo)] _),tB 12 (decide_eq_false h1),.c (dySign_pc _ ‹_›:PCt 114 [(dyP x.hi)] _),tB 17 (decide_eq_false h2)] <| rQ (iP 0) (iP (signI x)) (by rw [show signI x=0 by unfold signI; rw [if_neg (by rw [hxa]; decide)]; simp [h1,h2]])) (by kernel_rfl)
theorem ivMag_pc (x:Iv) (hx:x.Valid) (hxa:x.all=false):PCt 182 [(ivP x)] (.tup [dyP (magI x),bP true]):=by
 obtain ⟨v1,v2,v3⟩:=ivOff hx hxa
 have w1:=absD_valid v1
 have w2:=absD_valid v2
 exact tr true Tryz.call182 Tryz.func182 (chain [.o 5 (.e (ivs1_le _):PV.le (.e (.sl true 1 7 fun i_ j_=>(ivL x).getD (i_ * 7+j_) (.v (.bool false)))) (.e (ivsP [x]))),.c (ivKnown1_pc _ ‹_›:PCt 90 [(ivsP [x])] _),tB 6 (by rw [hxa]; rfl:(!x.all)=true),
  .c (dyAbs_pc x.lo ‹_›),.c (dyAbs_pc x.hi ‹_›),.c (ivMore_pc (absD x.lo) (absD x.hi) ‹_› ‹_›)] <| .nil) (by kernel_rfl)
theorem ivMig_pc (x:Iv) (hx:x.Valid) (hxa:x.all=false):PCt 185 [(ivP x)] (.tup [dyP (migI x),bP true]):=by
 obtain ⟨v1,v2,v3⟩:=ivOff hx hxa
 have w1:=absD_valid v1
 have w2:=absD_valid v2
 by_cases hs:signI x=0
 ·exact tr true Tryz.call185 Tryz.func185 (chain [.o 5 (.e (ivs1_le _):PV.le (.e (.sl true 1 7 fun i_ j_=>(ivL x).getD (i_ * 7+j_) (.v (.bool false)))) (.e (ivsP [x]))),.c (ivKnown1_pc _ ‹_›:PCt 90 [(ivsP [x])] _),tB 6 (by rw [hxa]; rfl:(!x.all)=true),
   .c (ivSign_pc x ‹_›),tB 11 (by rw [hs]; rfl:((signI x) == 0)=true),.o 12 (.e zeroP_le:PV.le (.e (.agg [(bP false),(.v (.slice none 0 0)),(iP 0)])) (.e (dyP zeroD)))] <| rQ (.tup [(dyP zeroD),(bP true)]) (.tup [dyP (migI x),bP true]) (by rw [show migI x=zeroD by unfold migI; rw [if_pos hs]])) (by kernel_rfl)
 ·exact tr true Tryz.call185 Tryz.func185 (chain [.o 5 (.e (ivs1_le _):PV.le (.e (.sl true 1 7 fun i_ j_=>(ivL x).getD (i_ * 7+j_) (.v (.bool false)))) (.e (ivsP [x]))),.c (ivKnown1_pc _ ‹_›:PCt 90 [(ivsP [x])] _),tB 6 (by rw [hxa]; rfl:(!x.all)=true),
   .c (ivSign_pc x ‹_›),tB 11 (by simpa using hs:((signI x) == 0)=false),.c (dyAbs_pc x.lo ‹_›),.c (dyAbs_pc x.hi ‹_›),.c (ivLess_pc (absD x.lo) (absD x.hi) ‹_› ‹_›)] <| rQ (.tup [(dyP (minD (absD x.lo) (absD x.hi))),(bP true)]) (.tup [dyP (migI x),bP true]) (by rw [show migI x=minD (absD x.lo) (absD x.hi) by unfold migI; rw [if_neg hs]])) (by kernel_rfl)
theorem ivAbs_pc (x:Iv) (hx:x.Valid):PCt 119 [(ivP x)] (ivP (absI x)):=by
 by_cases hxa:x.all=true
 ·exact tr true Tryz.call119 Tryz.func119 (chain [.o 8 (.e (ivs1_le _):PV.le (.e (.sl true 1 7 fun i_ j_=>(ivL x).getD (i_ * 7+j_) (.v (.bool false)))) (.e (ivsP [x]))),.c (ivKnown1_pc _ ‹_›:PCt 90 [(ivsP [x])] _),tB 9 (by rw [hxa]; rfl:(!x.all)=false),
   .c ivWhole_pc] <| rQ (ivP wholeI) (ivP (absI x)) (by rw [show absI x=wholeI by unfold absI; rw [if_pos hxa]])) (by kernel_rfl)
 ·replace hxa:x.all=false:=by simpa using hxa
  obtain ⟨v1,v2,v3⟩:=ivOff hx hxa
  exact tr true Tryz.call119 Tryz.func119 (chain [.o 8 (.e (ivs1_le _):PV.le (.e (.sl true 1 7 fun i_ j_=>(ivL x).getD (i_ * 7+j_) (.v (.bool false)))) (.e (ivsP [x]))),.c (ivKnown1_pc _ ‹_›:PCt 90 [(ivsP [x])] _),tB 9 (by rw [hxa]; rfl:(!x.all)=true),
   .c (ivMig_pc x ‹_› hxa),.c (ivMag_pc x ‹_› hxa)] <| rQ (ivP (Iv.mk (migI x) (magI x) false)) (ivP (absI x)) (by rw [show absI x=⟨migI x,magI x,false⟩ by unfold absI; rw [if_neg (by rw [hxa]; decide)]]; try rfl)) (by kernel_rfl)
open Go.RowKit Fp Pu
def ivFour1 (x y:Iv) (p:Nat) (gd gu:FuncId) (DD:Dy → Dy → Bool → Dy) (EE:Dy → Dy → Bool → Int):PS:=⟨96,true,[(41,.e (iP 0)),(40,.e (.agg (ivL (Iv.mk x.lo y.lo x.lo.neg) ++ [(slP (limbs x.lo.m)),(iP x.lo.e)] ++ ivL (Iv.mk y.hi x.hi y.lo.neg) ++ [(slP (limbs y.lo.m)),(iP y.lo.e)] ++ dyL x.hi ++ dyL y.hi))),(12,.box 12 0),(10,.box 10 0),(2,.e (iP p)),(3,.e (.fn gd [])),(4,.e (.fn gu []))],[(12,.cells 28 (ivL (Iv.mk (DD x.lo y.lo false) (DD x.lo y.lo true) false))),(10,.cells 28 [(bP false),(.v (.slice none 0 0)),(iP 0),(bP false),(.v (.slice none 0 0)),(iP 0),(bP false)])]⟩
def ivFour2 (x y:Iv) (p:Nat) (gd gu:FuncId) (DD:Dy → Dy → Bool → Dy) (EE:Dy → Dy → Bool → Int):PS:=⟨96,true,[(41,.e (iP (0+1))),(40,.e (.agg (ivL (Iv.mk x.lo y.lo x.lo.neg) ++ [(slP (limbs x.lo.m)),(iP x.lo.e)] ++ ivL (Iv.mk y.hi x.hi y.lo.neg) ++ [(slP (limbs y.lo.m)),(iP y.lo.e)] ++ dyL x.hi ++ dyL y.hi))),(12,.box 12 0),(10,.box 10 0),(2,.e (iP p)),(3,.e (.fn gd [])),(4,.e (.fn gu []))],[(12,.cells 28 (ivL (Iv.mk (minD (DD x.lo y.lo false) (DD x.lo y.hi false)) (maxD (DD x.lo y.lo true) (DD x.lo y.hi true)) false))),(10,.cells 28 [(bP false),(.v (.slice none 0 0)),(iP 0),(bP false),(.v (.slice none 0 0)),(iP 0),(bP false)])]⟩
def ivFour3 (x y:Iv) (p:Nat) (gd gu:FuncId) (DD:Dy → Dy → Bool → Dy) (EE:Dy → Dy → Bool → Int):PS:=⟨96,true,[(41,.e (iP ((0+1)+1))),(40,.e (.agg (ivL (Iv.mk x.lo y.lo x.lo.neg) ++ [(slP (limbs x.lo.m)),(iP x.lo.e)] ++ ivL (Iv.mk y.hi x.hi y.lo.neg) ++ [(slP (limbs y.lo.m)),(iP y.lo.e)] ++ dyL x.hi ++ dyL y.hi))),(12,.box 12 0),(10,.box 10 0),(2,.e (iP p)),(3,.e (.fn gd [])),(4,.e (.fn gu []))],[(12,.cells 28 (ivL (Iv.mk (minD (minD (DD x.lo y.lo false) (DD x.lo y.hi false)) (DD x.hi y.lo false)) (maxD (maxD (DD x.lo y.lo true) (DD x.lo y.hi true)) (DD x.hi y.lo true)) false))),(10,.cells 28 [(bP false),(.v (.slice none 0 0)),(iP 0),(bP false),(.v (.slice none 0 0)),(iP 0),(bP false)])]⟩
def ivFour4 (x y:Iv) (p:Nat) (gd gu:FuncId) (DD:Dy → Dy → Bool → Dy) (EE:Dy → Dy → Bool → Int):PS:=⟨96,true,[(41,.e (iP (((0+1)+1)+1))),(40,.e (.agg (ivL (Iv.mk x.lo y.lo x.lo.neg) ++ [(slP (limbs x.lo.m)),(iP x.lo.e)] ++ ivL (Iv.mk y.hi x.hi y.lo.neg) ++ [(slP (limbs y.lo.m)),(iP y.lo.e)] ++ dyL x.hi ++ dyL y.hi))),(12,.box 12 0),(10,.box 10 0),(2,.e (iP p)),(3,.e (.fn gd [])),(4,.e (.fn gu []))],[(12,.cells 28 (ivL (Iv.mk (minD (minD (minD (DD x.lo y.lo false) (DD x.lo y.hi false)) (DD x.hi y.lo false)) (DD x.hi y.hi false)) (maxD (maxD (maxD (DD x.lo y.lo true) (DD x.lo y.hi true)) (DD x.hi y.lo true)) (DD x.hi y.hi true)) false))),(10,.cells 28 [(bP false),(.v (.slice none 0 0)),(iP 0),(bP false),(.v (.slice none 0 0)),(iP 0),(bP false)])]⟩
theorem ivFour_pc (x y:Iv) (p:Nat) (gd gu:FuncId) (DD:Dy → Dy → Bool → Dy) (EE:Dy → Dy → Bool → Int) (hd:∀ a b,(a=x.lo ∨ a=x.hi) → (b=y.lo ∨ b=y.hi) → PCt gd [dyP a,dyP b,iP (p:Int)] (.tup [dyP (DD a b false),iP (EE a b false)]))
  (hu:∀ a b,(a=x.lo ∨ a=x.hi) → (b=y.lo ∨ b=y.hi) → PCt gu [dyP a,dyP b,iP (p:Int)] (.tup [dyP (DD a b true),iP (EE a b true)])) (hv:∀ a b up,(DD a b up).Valid):PCt 128 [(ivP x),(ivP y),(iP p),(.fn gd []),(.fn gu [])] (ivP (fourI DD EE x y)):=by
 exact tr true Tryz.call128 Tryz.func128 (chain [.u 5,tB 42 (by decide:(decide ((0:Int) < 4))=true)] <| .w ((EE x.lo y.lo false)=0)
  (fun k1=>.w ((EE x.lo y.lo true)=0)
   (fun k2=>chain [.j 3 (ivFour1 x y p gd gu DD EE)
   (chain [iX (0) (4) (by omega),iX (0) (2) (by omega),iX (1) (2) (by omega),.c (hd _ _ (.inl rfl) (.inl rfl):PCt gd ((dyP x.lo) :: (dyP y.lo) :: (iP p) :: []) _),iX (0) (2) (by omega),iX (1) (2) (by omega),
    .c (hu _ _ (.inl rfl) (.inl rfl):PCt gu ((dyP x.lo) :: (dyP y.lo) :: (iP p) :: []) _),tB 66 (bne_eq_false_iff_eq.2 k1),tB 69 (bne_eq_false_iff_eq.2 k2),tB 73 (by decide:((0:Int) == 0)=true),
    tB 84 (by decide:((0:Int) == 0)=true)] <| .nil),
    r64 (0+1) (by omega),tB 42 (by decide:(decide (((0+1):Int) < 4))=true)] <| .w ((EE x.lo y.hi false)=0)
    (fun k3=>.w ((EE x.lo y.hi true)=0)
     (fun k4=>chain [.j 3 (ivFour2 x y p gd gu DD EE)
   (chain [iX ((0+1)) (4) (by omega),iX (0) (2) (by omega),iX (1) (2) (by omega),.c (hd _ _ (.inl rfl) (.inr rfl):PCt gd ((dyP x.lo) :: (dyP y.hi) :: (iP p) :: []) _),iX (0) (2) (by omega),iX (1) (2) (by omega),
    .c (hu _ _ (.inl rfl) (.inr rfl):PCt gu ((dyP x.lo) :: (dyP y.hi) :: (iP p) :: []) _),tB 66 (bne_eq_false_iff_eq.2 k3),tB 69 (bne_eq_false_iff_eq.2 k4),tB 73 (by decide:(((0+1):Int) == 0)=false),
    .c (dyCmp_pc _ _ (hv _ _ _) (hv _ _ _):PCt 82 [(dyP (DD x.lo y.hi false)),(dyP (DD x.lo y.lo false))] _)] <| .w ((cmpD (DD x.lo y.hi false) (DD x.lo y.lo false)) < 0)
    (fun m1=>chain [tB 79 (decide_eq_true m1),tB 84 (by decide:(((0+1):Int) == 0)=false),.c (dyCmp_pc _ _ (hv _ _ _) (hv _ _ _):PCt 82 [(dyP (DD x.lo y.hi true)),(dyP (DD x.lo y.lo true))] _)] <| .w (0 < (cmpD (DD x.lo y.hi true) (DD x.lo y.lo true)))
     (fun m2=>chain [tB 90 (decide_eq_true m2)] <| .e (chain [.b 12 (.of_eq (by rw [show minD (DD x.lo y.lo false) (DD x.lo y.hi false)=(DD x.lo y.hi false) from if_pos m1,show maxD (DD x.lo y.lo true) (DD x.lo y.hi true)=(DD x.lo y.hi true) from if_pos m2]):Bx.le (.cells 28 (ivL (Iv.mk (DD x.lo y.hi false) (DD x.lo y.hi true) false))) (.cells 28 (ivL (Iv.mk (minD (DD x.lo y.lo false) (DD x.lo y.hi false)) (maxD (DD x.lo y.lo true) (DD x.lo y.hi true)) false))))] <| .nil))
     (fun m2=>chain [tB 90 (decide_eq_false m2)] <| .e (chain [.b 12 (.of_eq (by rw [show minD (DD x.lo y.lo false) (DD x.lo y.hi false)=(DD x.lo y.hi false) from if_pos m1,show maxD (DD x.lo y.lo true) (DD x.lo y.hi true)=(DD x.lo y.lo true) from if_neg m2]):Bx.le (.cells 28 (ivL (Iv.mk (DD x.lo y.hi false) (DD x.lo y.lo true) false))) (.cells 28 (ivL (Iv.mk (minD (DD x.lo y.lo false) (DD x.lo y.hi false)) (maxD (DD x.lo y.lo true) (DD x.lo y.hi true)) false))))] <| .nil)))
    (fun m1=>chain [tB 79 (decide_eq_false m1),tB 84 (by decide:(((0+1):Int) == 0)=false),.c (dyCmp_pc _ _ (hv _ _ _) (hv _ _ _):PCt 82 [(dyP (DD x.lo y.hi true)),(dyP (DD x.lo y.lo true))] _)] <| .w (0 < (cmpD (DD x.lo y.hi true) (DD x.lo y.lo true)))
     (fun m2=>chain [tB 90 (decide_eq_true m2)] <| .e (chain [.b 12 (.of_eq (by rw [show minD (DD x.lo y.lo false) (DD x.lo y.hi false)=(DD x.lo y.lo false) from if_neg m1,show maxD (DD x.lo y.lo true) (DD x.lo y.hi true)=(DD x.lo y.hi true) from if_pos m2]):Bx.le (.cells 28 (ivL (Iv.mk (DD x.lo y.lo false) (DD x.lo y.hi true) false))) (.cells 28 (ivL (Iv.mk (minD (DD x.lo y.lo false) (DD x.lo y.hi false)) (maxD (DD x.lo y.lo true) (DD x.lo y.hi true)) false))))] <| .nil))
     (fun m2=>chain [tB 90 (decide_eq_false m2)] <| .e (chain [.b 12 (.of_eq (by rw [show minD (DD x.lo y.lo false) (DD x.lo y.hi false)=(DD x.lo y.lo false) from if_neg m1,show maxD (DD x.lo y.lo true) (DD x.lo y.hi true)=(DD x.lo y.lo true) from if_neg m2]):Bx.le (.cells 28 (ivL (Iv.mk (DD x.lo y.lo false) (DD x.lo y.lo true) false))) (.cells 28 (ivL (Iv.mk (minD (DD x.lo y.lo false) (DD x.lo y.hi false)) (maxD (DD x.lo y.lo true) (DD x.lo y.hi true)) false))))] <| .nil)))),
      r64 ((0+1)+1) (by omega),tB 42 (by decide:(decide ((((0+1)+1):Int) < 4))=true)] <| .w ((EE x.hi y.lo false)=0)
      (fun k5=>.w ((EE x.hi y.lo true)=0)
       (fun k6=>chain [.j 3 (ivFour3 x y p gd gu DD EE)
   (chain [iX (((0+1)+1)) (4) (by omega),iX (0) (2) (by omega),iX (1) (2) (by omega),.c (hd _ _ (.inr rfl) (.inl rfl):PCt gd ((dyP x.hi) :: (dyP y.lo) :: (iP p) :: []) _),iX (0) (2) (by omega),iX (1) (2) (by omega),
    .c (hu _ _ (.inr rfl) (.inl rfl):PCt gu ((dyP x.hi) :: (dyP y.lo) :: (iP p) :: []) _),tB 66 (bne_eq_false_iff_eq.2 k5),tB 69 (bne_eq_false_iff_eq.2 k6),tB 73 (by decide:((((0+1)+1):Int) == 0)=false),
    .c (dyCmp_pc _ _ (hv _ _ _) (minD_valid (hv _ _ _) (hv _ _ _)):PCt 82 [(dyP (DD x.hi y.lo false)),(dyP (minD (DD x.lo y.lo false) (DD x.lo y.hi false)))] _)] <| .w ((cmpD (DD x.hi y.lo false) (minD (DD x.lo y.lo false) (DD x.lo y.hi false))) < 0)
    (fun m1=>chain [tB 79 (decide_eq_true m1),tB 84 (by decide:((((0+1)+1):Int) == 0)=false),
     .c (dyCmp_pc _ _ (hv _ _ _) (maxD_valid (hv _ _ _) (hv _ _ _)):PCt 82 [(dyP (DD x.hi y.lo true)),(dyP (maxD (DD x.lo y.lo true) (DD x.lo y.hi true)))] _)] <| .w (0 < (cmpD (DD x.hi y.lo true) (maxD (DD x.lo y.lo true) (DD x.lo y.hi true))))
     (fun m2=>chain [tB 90 (decide_eq_true m2)] <| .e (chain [.b 12 (.of_eq (by rw [show minD (minD (DD x.lo y.lo false) (DD x.lo y.hi false)) (DD x.hi y.lo false)=(DD x.hi y.lo false) from if_pos m1,show maxD (maxD (DD x.lo y.lo true) (DD x.lo y.hi true)) (DD x.hi y.lo true)=(DD x.hi y.lo true) from if_pos m2]):Bx.le (.cells 28 (ivL (Iv.mk (DD x.hi y.lo false) (DD x.hi y.lo true) false))) (.cells 28 (ivL (Iv.mk (minD (minD (DD x.lo y.lo false) (DD x.lo y.hi false)) (DD x.hi y.lo false)) (maxD (maxD (DD x.lo y.lo true) (DD x.lo y.hi true)) (DD x.hi y.lo true)) false))))] <| .nil))
     (fun m2=>chain [tB 90 (decide_eq_false m2)] <| .e (chain [.b 12 (.of_eq (by rw [show minD (minD (DD x.lo y.lo false) (DD x.lo y.hi false)) (DD x.hi y.lo false)=(DD x.hi y.lo false) from if_pos m1,show maxD (maxD (DD x.lo y.lo true) (DD x.lo y.hi true)) (DD x.hi y.lo true)=(maxD (DD x.lo y.lo true) (DD x.lo y.hi true)) from if_neg m2]):Bx.le (.cells 28 (ivL (Iv.mk (DD x.hi y.lo false) (maxD (DD x.lo y.lo true) (DD x.lo y.hi true)) false))) (.cells 28 (ivL (Iv.mk (minD (minD (DD x.lo y.lo false) (DD x.lo y.hi false)) (DD x.hi y.lo false)) (maxD (maxD (DD x.lo y.lo true) (DD x.lo y.hi true)) (DD x.hi y.lo true)) false))))] <| .nil)))
    (fun m1=>chain [tB 79 (decide_eq_false m1),tB 84 (by decide:((((0+1)+1):Int) == 0)=false),
     .c (dyCmp_pc _ _ (hv _ _ _) (maxD_valid (hv _ _ _) (hv _ _ _)):PCt 82 [(dyP (DD x.hi y.lo true)),(dyP (maxD (DD x.lo y.lo true) (DD x.lo y.hi true)))] _)] <| .w (0 < (cmpD (DD x.hi y.lo true) (maxD (DD x.lo y.lo true) (DD x.lo y.hi true))))
     (fun m2=>chain [tB 90 (decide_eq_true m2)] <| .e (chain [.b 12 (.of_eq (by rw [show minD (minD (DD x.lo y.lo false) (DD x.lo y.hi false)) (DD x.hi y.lo false)=(minD (DD x.lo y.lo false) (DD x.lo y.hi false)) from if_neg m1,show maxD (maxD (DD x.lo y.lo true) (DD x.lo y.hi true)) (DD x.hi y.lo true)=(DD x.hi y.lo true) from if_pos m2]):Bx.le (.cells 28 (ivL (Iv.mk (minD (DD x.lo y.lo false) (DD x.lo y.hi false)) (DD x.hi y.lo true) false))) (.cells 28 (ivL (Iv.mk (minD (minD (DD x.lo y.lo false) (DD x.lo y.hi false)) (DD x.hi y.lo false)) (maxD (maxD (DD x.lo y.lo true) (DD x.lo y.hi true)) (DD x.hi y.lo true)) false))))] <| .nil))
     (fun m2=>chain [tB 90 (decide_eq_false m2)] <| .e (chain [.b 12 (.of_eq (by rw [show minD (minD (DD x.lo y.lo false) (DD x.lo y.hi false)) (DD x.hi y.lo false)=(minD (DD x.lo y.lo false) (DD x.lo y.hi false)) from if_neg m1,show maxD (maxD (DD x.lo y.lo true) (DD x.lo y.hi true)) (DD x.hi y.lo true)=(maxD (DD x.lo y.lo true) (DD x.lo y.hi true)) from if_neg m2]):Bx.le (.cells 28 (ivL (Iv.mk (minD (DD x.lo y.lo false) (DD x.lo y.hi false)) (maxD (DD x.lo y.lo true) (DD x.lo y.hi true)) false))) (.cells 28 (ivL (Iv.mk (minD (minD (DD x.lo y.lo false) (DD x.lo y.hi false)) (DD x.hi y.lo false)) (maxD (maxD (DD x.lo y.lo true) (DD x.lo y.hi true)) (DD x.hi y.lo true)) false))))] <| .nil)))),
        r64 (((0+1)+1)+1) (by omega),tB 42 (by decide:(decide (((((0+1)+1)+1):Int) < 4))=true)] <| .w ((EE x.hi y.hi false)=0)
        (fun k7=>.w ((EE x.hi y.hi true)=0)
         (fun k8=>chain [.j 3 (ivFour4 x y p gd gu DD EE)
   (chain [iX ((((0+1)+1)+1)) (4) (by omega),iX (0) (2) (by omega),iX (1) (2) (by omega),.c (hd _ _ (.inr rfl) (.inr rfl):PCt gd ((dyP x.hi) :: (dyP y.hi) :: (iP p) :: []) _),iX (0) (2) (by omega),iX (1) (2) (by omega),
    .c (hu _ _ (.inr rfl) (.inr rfl):PCt gu ((dyP x.hi) :: (dyP y.hi) :: (iP p) :: []) _),tB 66 (bne_eq_false_iff_eq.2 k7),tB 69 (bne_eq_false_iff_eq.2 k8),tB 73 (by decide:(((((0+1)+1)+1):Int) == 0)=false),
    .c (dyCmp_pc _ _ (hv _ _ _) (minD_valid (minD_valid (hv _ _ _) (hv _ _ _)) (hv _ _ _)):PCt 82 [(dyP (DD x.hi y.hi false)),(dyP (minD (minD (DD x.lo y.lo false) (DD x.lo y.hi false)) (DD x.hi y.lo false)))] _)] <| .w ((cmpD (DD x.hi y.hi false) (minD (minD (DD x.lo y.lo false) (DD x.lo y.hi false)) (DD x.hi y.lo false))) < 0)
    (fun m1=>chain [tB 79 (decide_eq_true m1),tB 84 (by decide:(((((0+1)+1)+1):Int) == 0)=false),
     .c (dyCmp_pc _ _ (hv _ _ _) (maxD_valid (maxD_valid (hv _ _ _) (hv _ _ _)) (hv _ _ _)):PCt 82 [(dyP (DD x.hi y.hi true)),(dyP (maxD (maxD (DD x.lo y.lo true) (DD x.lo y.hi true)) (DD x.hi y.lo true)))] _)] <| .w (0 < (cmpD (DD x.hi y.hi true) (maxD (maxD (DD x.lo y.lo true) (DD x.lo y.hi true)) (DD x.hi y.lo true))))
     (fun m2=>chain [tB 90 (decide_eq_true m2)] <| .e (chain [.b 12 (.of_eq (by rw [show minD (minD (minD (DD x.lo y.lo false) (DD x.lo y.hi false)) (DD x.hi y.lo false)) (DD x.hi y.hi false)=(DD x.hi y.hi false) from if_pos m1,show maxD (maxD (maxD (DD x.lo y.lo true) (DD x.lo y.hi true)) (DD x.hi y.lo true)) (DD x.hi y.hi true)=(DD x.hi y.hi true) from if_pos m2]):Bx.le (.cells 28 (ivL (Iv.mk (DD x.hi y.hi false) (DD x.hi y.hi true) false))) (.cells 28 (ivL (Iv.mk (minD (minD (minD (DD x.lo y.lo false) (DD x.lo y.hi false)) (DD x.hi y.lo false)) (DD x.hi y.hi false)) (maxD (maxD (maxD (DD x.lo y.lo true) (DD x.lo y.hi true)) (DD x.hi y.lo true)) (DD x.hi y.hi true)) false))))] <| .nil))
     (fun m2=>chain [tB 90 (decide_eq_false m2)] <| .e (chain [.b 12 (.of_eq (by rw [show minD (minD (minD (DD x.lo y.lo false) (DD x.lo y.hi false)) (DD x.hi y.lo false)) (DD x.hi y.hi false)=(DD x.hi y.hi false) from if_pos m1,show maxD (maxD (maxD (DD x.lo y.lo true) (DD x.lo y.hi true)) (DD x.hi y.lo true)) (DD x.hi y.hi true)=(maxD (maxD (DD x.lo y.lo true) (DD x.lo y.hi true)) (DD x.hi y.lo true)) from if_neg m2]):Bx.le (.cells 28 (ivL (Iv.mk (DD x.hi y.hi false) (maxD (maxD (DD x.lo y.lo true) (DD x.lo y.hi true)) (DD x.hi y.lo true)) false))) (.cells 28 (ivL (Iv.mk (minD (minD (minD (DD x.lo y.lo false) (DD x.lo y.hi false)) (DD x.hi y.lo false)) (DD x.hi y.hi false)) (maxD (maxD (maxD (DD x.lo y.lo true) (DD x.lo y.hi true)) (DD x.hi y.lo true)) (DD x.hi y.hi true)) false))))] <| .nil)))
    (fun m1=>chain [tB 79 (decide_eq_false m1),tB 84 (by decide:(((((0+1)+1)+1):Int) == 0)=false),
     .c (dyCmp_pc _ _ (hv _ _ _) (maxD_valid (maxD_valid (hv _ _ _) (hv _ _ _)) (hv _ _ _)):PCt 82 [(dyP (DD x.hi y.hi true)),(dyP (maxD (maxD (DD x.lo y.lo true) (DD x.lo y.hi true)) (DD x.hi y.lo true)))] _)] <| .w (0 < (cmpD (DD x.hi y.hi true) (maxD (maxD (DD x.lo y.lo true) (DD x.lo y.hi true)) (DD x.hi y.lo true))))
     (fun m2=>chain [tB 90 (decide_eq_true m2)] <| .e (chain [.b 12 (.of_eq (by rw [show minD (minD (minD (DD x.lo y.lo false) (DD x.lo y.hi false)) (DD x.hi y.lo false)) (DD x.hi y.hi false)=(minD (minD (DD x.lo y.lo false) (DD x.lo y.hi false)) (DD x.hi y.lo false)) from if_neg m1,show maxD (maxD (maxD (DD x.lo y.lo true) (DD x.lo y.hi true)) (DD x.hi y.lo true)) (DD x.hi y.hi true)=(DD x.hi y.hi true) from if_pos m2]):Bx.le (.cells 28 (ivL (Iv.mk (minD (minD (DD x.lo y.lo false) (DD x.lo y.hi false)) (DD x.hi y.lo false)) (DD x.hi y.hi true) false))) (.cells 28 (ivL (Iv.mk (minD (minD (minD (DD x.lo y.lo false) (DD x.lo y.hi false)) (DD x.hi y.lo false)) (DD x.hi y.hi false)) (maxD (maxD (maxD (DD x.lo y.lo true) (DD x.lo y.hi true)) (DD x.hi y.lo true)) (DD x.hi y.hi true)) false))))] <| .nil))
     (fun m2=>chain [tB 90 (decide_eq_false m2)] <| .e (chain [.b 12 (.of_eq (by rw [show minD (minD (minD (DD x.lo y.lo false) (DD x.lo y.hi false)) (DD x.hi y.lo false)) (DD x.hi y.hi false)=(minD (minD (DD x.lo y.lo false) (DD x.lo y.hi false)) (DD x.hi y.lo false)) from if_neg m1,show maxD (maxD (maxD (DD x.lo y.lo true) (DD x.lo y.hi true)) (DD x.hi y.lo true)) (DD x.hi y.hi true)=(maxD (maxD (DD x.lo y.lo true) (DD x.lo y.hi true)) (DD x.hi y.lo true)) from if_neg m2]):Bx.le (.cells 28 (ivL (Iv.mk (minD (minD (DD x.lo y.lo false) (DD x.lo y.hi false)) (DD x.hi y.lo false)) (maxD (maxD (DD x.lo y.lo true) (DD x.lo y.hi true)) (DD x.hi y.lo true)) false))) (.cells 28 (ivL (Iv.mk (minD (minD (minD (DD x.lo y.lo false) (DD x.lo y.hi false)) (DD x.hi y.lo false)) (DD x.hi y.hi false)) (maxD (maxD (maxD (DD x.lo y.lo true) (DD x.lo y.hi true)) (DD x.hi y.lo true)) (DD x.hi y.hi true)) false))))] <| .nil)))),
          r64 ((((0+1)+1)+1)+1) (by omega),tB 42 (by decide:(decide ((((((0+1)+1)+1)+1):Int) < 4))=false)] <| rQ (ivP (Iv.mk (minD (minD (minD (DD x.lo y.lo false) (DD x.lo y.hi false)) (DD x.hi y.lo false)) (DD x.hi y.hi false)) (maxD (maxD (maxD (DD x.lo y.lo true) (DD x.lo y.hi true)) (DD x.hi y.lo true)) (DD x.hi y.hi true)) false)) (ivP (fourI DD EE x y)) (by rw [show fourI DD EE x y=⟨(minD (minD (minD (DD x.lo y.lo false) (DD x.lo y.hi false)) (DD x.hi y.lo false)) (DD x.hi y.hi false)),(maxD (maxD (maxD (DD x.lo y.lo true) (DD x.lo y.hi true)) (DD x.hi y.lo true)) (DD x.hi y.hi true)),false⟩ from if_pos ⟨⟨k1,k2⟩,⟨k3,k4⟩,⟨k5,k6⟩,⟨k7,k8⟩⟩]; try rfl))
         (fun k8=>chain [iX ((((0+1)+1)+1)) (4) (by omega),iX (0) (2) (by omega),iX (1) (2) (by omega),.c (hd _ _ (.inr rfl) (.inr rfl):PCt gd ((dyP x.hi) :: (dyP y.hi) :: (iP p) :: []) _),iX (0) (2) (by omega),iX (1) (2) (by omega),
          .c (hu _ _ (.inr rfl) (.inr rfl):PCt gu ((dyP x.hi) :: (dyP y.hi) :: (iP p) :: []) _),tB 66 (bne_eq_false_iff_eq.2 k7),tB 69 (bne_iff_ne.2 k8),.c ivWhole_pc] <| rQ (ivP wholeI) (ivP (fourI DD EE x y)) (by rw [show fourI DD EE x y=wholeI from if_neg (by rintro ⟨⟨q0,r0⟩,⟨q1,r1⟩,⟨q2,r2⟩,⟨q3,r3⟩⟩; exact k8 r3)])))
        (fun k7=>chain [iX ((((0+1)+1)+1)) (4) (by omega),iX (0) (2) (by omega),iX (1) (2) (by omega),.c (hd _ _ (.inr rfl) (.inr rfl):PCt gd ((dyP x.hi) :: (dyP y.hi) :: (iP p) :: []) _),iX (0) (2) (by omega),iX (1) (2) (by omega),
         .c (hu _ _ (.inr rfl) (.inr rfl):PCt gu ((dyP x.hi) :: (dyP y.hi) :: (iP p) :: []) _),tB 66 (bne_iff_ne.2 k7),.c ivWhole_pc] <| rQ (ivP wholeI) (ivP (fourI DD EE x y)) (by rw [show fourI DD EE x y=wholeI from if_neg (by rintro ⟨⟨q0,r0⟩,⟨q1,r1⟩,⟨q2,r2⟩,⟨q3,r3⟩⟩; exact k7 q3)])))
       (fun k6=>chain [iX (((0+1)+1)) (4) (by omega),iX (0) (2) (by omega),iX (1) (2) (by omega),.c (hd _ _ (.inr rfl) (.inl rfl):PCt gd ((dyP x.hi) :: (dyP y.lo) :: (iP p) :: []) _),iX (0) (2) (by omega),iX (1) (2) (by omega),
        .c (hu _ _ (.inr rfl) (.inl rfl):PCt gu ((dyP x.hi) :: (dyP y.lo) :: (iP p) :: []) _),tB 66 (bne_eq_false_iff_eq.2 k5),tB 69 (bne_iff_ne.2 k6),.c ivWhole_pc] <| rQ (ivP wholeI) (ivP (fourI DD EE x y)) (by rw [show fourI DD EE x y=wholeI from if_neg (by rintro ⟨⟨q0,r0⟩,⟨q1,r1⟩,⟨q2,r2⟩,⟨q3,r3⟩⟩; exact k6 r2)])))
      (fun k5=>chain [iX (((0+1)+1)) (4) (by omega),iX (0) (2) (by omega),iX (1) (2) (by omega),.c (hd _ _ (.inr rfl) (.inl rfl):PCt gd ((dyP x.hi) :: (dyP y.lo) :: (iP p) :: []) _),iX (0) (2) (by omega),iX (1) (2) (by omega),
       .c (hu _ _ (.inr rfl) (.inl rfl):PCt gu ((dyP x.hi) :: (dyP y.lo) :: (iP p) :: []) _),tB 66 (bne_iff_ne.2 k5),.c ivWhole_pc] <| rQ (ivP wholeI) (ivP (fourI DD EE x y)) (by rw [show fourI DD EE x y=wholeI from if_neg (by rintro ⟨⟨q0,r0⟩,⟨q1,r1⟩,⟨q2,r2⟩,⟨q3,r3⟩⟩; exact k5 q2)])))
     (fun k4=>chain [iX ((0+1)) (4) (by omega),iX (0) (2) (by omega),iX (1) (2) (by omega),.c (hd _ _ (.inl rfl) (.inr rfl):PCt gd ((dyP x.lo) :: (dyP y.hi) :: (iP p) :: []) _),iX (0) (2) (by omega),iX (1) (2) (by omega),
      .c (hu _ _ (.inl rfl) (.inr rfl):PCt gu ((dyP x.lo) :: (dyP y.hi) :: (iP p) :: []) _),tB 66 (bne_eq_false_iff_eq.2 k3),tB 69 (bne_iff_ne.2 k4),.c ivWhole_pc] <| rQ (ivP wholeI) (ivP (fourI DD EE x y)) (by rw [show fourI DD EE x y=wholeI from if_neg (by rintro ⟨⟨q0,r0⟩,⟨q1,r1⟩,⟨q2,r2⟩,⟨q3,r3⟩⟩; exact k4 r1)])))
    (fun k3=>chain [iX ((0+1)) (4) (by omega),iX (0) (2) (by omega),iX (1) (2) (by omega),.c (hd _ _ (.inl rfl) (.inr rfl):PCt gd ((dyP x.lo) :: (dyP y.hi) :: (iP p) :: []) _),iX (0) (2) (by omega),iX (1) (2) (by omega),
     .c (hu _ _ (.inl rfl) (.inr rfl):PCt gu ((dyP x.lo) :: (dyP y.hi) :: (iP p) :: []) _),tB 66 (bne_iff_ne.2 k3),.c ivWhole_pc] <| rQ (ivP wholeI) (ivP (fourI DD EE x y)) (by rw [show fourI DD EE x y=wholeI from if_neg (by rintro ⟨⟨q0,r0⟩,⟨q1,r1⟩,⟨q2,r2⟩,⟨q3,r3⟩⟩; exact k3 q1)])))
   (fun k2=>chain [iX (0) (4) (by omega),iX (0) (2) (by omega),iX (1) (2) (by omega),.c (hd _ _ (.inl rfl) (.inl rfl):PCt gd ((dyP x.lo) :: (dyP y.lo) :: (iP p) :: []) _),iX (0) (2) (by omega),iX (1) (2) (by omega),
    .c (hu _ _ (.inl rfl) (.inl rfl):PCt gu ((dyP x.lo) :: (dyP y.lo) :: (iP p) :: []) _),tB 66 (bne_eq_false_iff_eq.2 k1),tB 69 (bne_iff_ne.2 k2),.c ivWhole_pc] <| rQ (ivP wholeI) (ivP (fourI DD EE x y)) (by rw [show fourI DD EE x y=wholeI from if_neg (by rintro ⟨⟨q0,r0⟩,⟨q1,r1⟩,⟨q2,r2⟩,⟨q3,r3⟩⟩; exact k2 r0)])))
  (fun k1=>chain [iX (0) (4) (by omega),iX (0) (2) (by omega),iX (1) (2) (by omega),.c (hd _ _ (.inl rfl) (.inl rfl):PCt gd ((dyP x.lo) :: (dyP y.lo) :: (iP p) :: []) _),iX (0) (2) (by omega),iX (1) (2) (by omega),
   .c (hu _ _ (.inl rfl) (.inl rfl):PCt gu ((dyP x.lo) :: (dyP y.lo) :: (iP p) :: []) _),tB 66 (bne_iff_ne.2 k1),.c ivWhole_pc] <| rQ (ivP wholeI) (ivP (fourI DD EE x y)) (by rw [show fourI DD EE x y=wholeI from if_neg (by rintro ⟨⟨q0,r0⟩,⟨q1,r1⟩,⟨q2,r2⟩,⟨q3,r3⟩⟩; exact k1 q0)]))) (by kernel_rfl)
open Go.RowKit Fp Pu
theorem sign_ends {y:Iv} (hy:y.Valid) (hs:signI y ≠ 0):y.lo.m ≠ 0 ∧ y.hi.m ≠ 0:=by
 unfold signI at hs
 have ha:y.all=false:=by
  cases h:y.all with
  | false=>rfl
  | true=>rw [h] at hs; exact absurd rfl hs
 obtain ⟨v1,v2,v3⟩:=ivOff hy ha
 rw [ha] at hs
 simp only [Bool.false_eq_true,if_false] at hs
 have z:∀ d:Dy,d.m=0 → d.sign=0:=fun d h=>by unfold Dy.sign; rw [if_pos h]
 have hc:=cmpD_prog y.lo y.hi
 rw [hc] at v3
 constructor
 ·intro h0
  have:=z _ h0
  rw [this] at hs v3
  split at hs
  ·omega
  ·split at hs
   ·split at v3 <;> omega
   ·exact hs rfl
 ·intro h0
  have:=z _ h0
  rw [this] at hs v3
  split at hs
  ·split at v3 <;> omega
  ·split at hs
   ·omega
   ·exact hs rfl
theorem divD_valid (a b:Dy) {p:Nat} (up:Bool) (hp:1 ≤ p) (hp2:p ≤ 4096):(divD a b p up).Valid:=by
 unfold divD; split
 ·exact zeroD_valid
 ·exact cut_valid _ _ _ _ _ _ hp hp2
theorem ivMul_pc (x y:Iv) (p:Nat) (hx:x.Valid) (hy:y.Valid) (hp1:8 ≤ p) (hp2:p ≤ 512):PCt 118 [(ivP x),(ivP y),(iP p)] (ivP (mulI x y p)):=by
 by_cases hk:(x.all || y.all)=true
 ·exact tr true Tryz.call118 Tryz.func118 (chain [.o 9 (.e (ivs2_le _ _):PV.le (.e (.sl true 2 7 fun i_ j_=>(ivL x ++ ivL y).getD (i_ * 7+j_) (.v (.bool false)))) (.e (ivsP [x,y]))),.c (ivKnown2_pc _ _ ‹_› ‹_›:PCt 90 [(ivsP [x,y])] _),
   tB 10 (by rw [hk]; rfl:(!(x.all || y.all))=false),.c ivWhole_pc] <| rQ (ivP wholeI) (ivP (mulI x y p)) (by rw [show mulI x y p=wholeI by unfold mulI; rw [if_pos hk]])) (by kernel_rfl)
 ·replace hk:(x.all || y.all)=false:=by simpa using hk
  have hxa:x.all=false:=by cases h:x.all; rfl; rw [h] at hk; simp at hk
  have hya:y.all=false:=by cases h:y.all; rfl; rw [h] at hk; simp at hk
  obtain ⟨v1,v2,v3⟩:=ivOff hx hxa
  obtain ⟨v4,v5,v6⟩:=ivOff hy hya
  exact tr true Tryz.call118 Tryz.func118 (chain [.o 9 (.e (ivs2_le _ _):PV.le (.e (.sl true 2 7 fun i_ j_=>(ivL x ++ ivL y).getD (i_ * 7+j_) (.v (.bool false)))) (.e (ivsP [x,y]))),.c (ivKnown2_pc _ _ ‹_› ‹_›:PCt 90 [(ivsP [x,y])] _),
   tB 10 (by rw [hk]; rfl:(!(x.all || y.all))=true),.c (ivPermitted_pc _:PCt 126 [(iP p)] _),tB 14 (precB_true.2 ⟨by omega,by omega⟩:(precB (p:Int))=true),
   .c (ivFour_pc x y p 183 184 (fun a b up=>rndD (mulD a b) p up) (fun a b up=>rndE (mulD a b) p up) (fun a b ha hb=>rdMulDown_pc a b p (by rcases ha with rfl | rfl; exact v1; exact v2) (by rcases hb with rfl | rfl; exact v4; exact v5) hp1 hp2) (fun a b ha hb=>rdMulUp_pc a b p (by rcases ha with rfl | rfl; exact v1; exact v2) (by rcases hb with rfl | rfl; exact v4; exact v5) hp1 hp2) (fun a b up=>cut_valid _ _ _ _ _ _ (by omega) (by omega)))] <| rQ (ivP (fourI (fun a b up=>rndD (mulD a b) p up) (fun a b up=>rndE (mulD a b) p up) x y)) (ivP (mulI x y p)) (by rw [show mulI x y p=_ by unfold mulI; rw [if_neg (by rw [hk]; decide)]]; rfl)) (by kernel_rfl)
theorem ivDiv_pc (x y:Iv) (p:Nat) (hx:x.Valid) (hy:y.Valid) (hp1:8 ≤ p) (hp2:p ≤ 512):PCt 45 [(ivP x),(ivP y),(iP p)] (ivP (divI x y p)):=by
 by_cases hk:(x.all || y.all)=true
 ·exact tr true Tryz.call45 Tryz.func45 (chain [.o 9 (.e (ivs2_le _ _):PV.le (.e (.sl true 2 7 fun i_ j_=>(ivL x ++ ivL y).getD (i_ * 7+j_) (.v (.bool false)))) (.e (ivsP [x,y]))),.c (ivKnown2_pc _ _ ‹_› ‹_›:PCt 90 [(ivsP [x,y])] _),
   tB 10 (by rw [hk]; rfl:(!(x.all || y.all))=false),.c ivWhole_pc] <| rQ (ivP wholeI) (ivP (divI x y p)) (by rw [show divI x y p=wholeI by unfold divI; rw [if_pos (by rw [hk]; rfl)]])) (by kernel_rfl)
 ·replace hk:(x.all || y.all)=false:=by simpa using hk
  have hxa:x.all=false:=by cases h:x.all; rfl; rw [h] at hk; simp at hk
  have hya:y.all=false:=by cases h:y.all; rfl; rw [h] at hk; simp at hk
  obtain ⟨v1,v2,v3⟩:=ivOff hx hxa
  obtain ⟨v4,v5,v6⟩:=ivOff hy hya
  by_cases hs:signI y=0
  ·exact tr true Tryz.call45 Tryz.func45 (chain [.o 9 (.e (ivs2_le _ _):PV.le (.e (.sl true 2 7 fun i_ j_=>(ivL x ++ ivL y).getD (i_ * 7+j_) (.v (.bool false)))) (.e (ivsP [x,y]))),.c (ivKnown2_pc _ _ ‹_› ‹_›:PCt 90 [(ivsP [x,y])] _),
    tB 10 (by rw [hk]; rfl:(!(x.all || y.all))=true),.c (ivPermitted_pc _:PCt 126 [(iP p)] _),tB 14 (precB_true.2 ⟨by omega,by omega⟩:(precB (p:Int))=true),.c (ivSign_pc y ‹_›),
    tB 20 (by rw [hs]; rfl:((signI y) == 0)=true),.c ivWhole_pc] <| rQ (ivP wholeI) (ivP (divI x y p)) (by rw [show divI x y p=wholeI by unfold divI; rw [if_pos (by rw [hk,decide_eq_true hs]; rfl)]])) (by kernel_rfl)
  ·obtain ⟨n1,n2⟩:=sign_ends hy hs
   exact tr true Tryz.call45 Tryz.func45 (chain [.o 9 (.e (ivs2_le _ _):PV.le (.e (.sl true 2 7 fun i_ j_=>(ivL x ++ ivL y).getD (i_ * 7+j_) (.v (.bool false)))) (.e (ivsP [x,y]))),.c (ivKnown2_pc _ _ ‹_› ‹_›:PCt 90 [(ivsP [x,y])] _),
    tB 10 (by rw [hk]; rfl:(!(x.all || y.all))=true),.c (ivPermitted_pc _:PCt 126 [(iP p)] _),tB 14 (precB_true.2 ⟨by omega,by omega⟩:(precB (p:Int))=true),.c (ivSign_pc y ‹_›),
    tB 20 (by simpa using hs:((signI y) == 0)=false),
    .c (ivFour_pc x y p 129 130 (fun a b up=>divD a b p up) (fun a b up=>divE a b p up) (fun a b ha hb=>rdDivDown_pc a b p (by rcases ha with rfl | rfl; exact v1; exact v2) (by rcases hb with rfl | rfl; exact v4; exact v5) (by rcases hb with rfl | rfl; exact n1; exact n2) hp1 hp2) (fun a b ha hb=>rdDivUp_pc a b p (by rcases ha with rfl | rfl; exact v1; exact v2) (by rcases hb with rfl | rfl; exact v4; exact v5) (by rcases hb with rfl | rfl; exact n1; exact n2) hp1 hp2) (fun a b up=>divD_valid a b up (by omega) (by omega)))] <| rQ (ivP (fourI (fun a b up=>divD a b p up) (fun a b up=>divE a b p up) x y)) (ivP (divI x y p)) (by rw [show divI x y p=_ by unfold divI; rw [if_neg (by rw [hk,decide_eq_false hs]; decide)]])) (by kernel_rfl)
open Go.RowKit Fp Pu
theorem ivZeroR_yes (d:RD) (h:d.Zero):PCt 116 [(rdP d)] (bP true):=by
 obtain ⟨h1,h2,h3⟩:=h
 exact tr true Tryz.call116 Tryz.func116 (chain [tB 4 (h1:d.neg=false),tB 10 (natZ_true (by rw [h2]; rfl):((d.L.length:Int) == 0)=true),tB 15 (by rw [h3]; rfl:(d.e == 0)=true)] <| .nil) (by kernel_rfl)
theorem ivZeroR_no (d:RD) (h:¬ d.Zero):PCt 116 [(rdP d)] (bP false):=by
 by_cases h1:d.neg=true
 ·exact tr true Tryz.call116 Tryz.func116 (chain [tB 4 (h1:d.neg=true)] <| .nil) (by kernel_rfl)
 ·replace h1:d.neg=false:=by simpa using h1
  by_cases h2:d.L=[]
  ·have h3:¬ d.e=0:=fun q=>h ⟨h1,h2,q⟩
   exact tr true Tryz.call116 Tryz.func116 (chain [tB 4 (h1:d.neg=false),tB 10 (natZ_true (by rw [h2]; rfl):((d.L.length:Int) == 0)=true),tB 15 (by simpa using h3:(d.e == 0)=false)] <| .nil) (by kernel_rfl)
  ·exact tr true Tryz.call116 Tryz.func116 (chain [tB 4 (h1:d.neg=false),tB 10 (natZ_false (fun q=>h2 (List.length_eq_zero_iff.1 q)):((d.L.length:Int) == 0)=false)] <| .nil) (by kernel_rfl)
theorem ivValidR_yes (x:RI) (g:x.Good) (h:x.Ok):PCt 41 [riP x] (bP true):=by
 have:=ivValid_pc x.iv h.valid
 rwa [← ivP_raw,h.eq g] at this
theorem ivValidR_no (x:RI) (g:x.Good) (h:¬ x.Ok):PCt 41 [(riP x)] (bP false):=by
 have ga:=g.lo
 have gb:=g.hi
 by_cases ha:x.all=true
 ·by_cases h1:x.lo.Zero
  ·have h2:¬ x.hi.Zero:=fun q=>h (.inl ⟨ha,h1,q⟩)
   exact tr true Tryz.call41 Tryz.func41 (chain [tB 5 (ha:x.all=true),.c (ivZeroR_yes x.lo h1),.c (ivZeroR_no x.hi h2)] <| .nil) (by kernel_rfl)
  ·exact tr true Tryz.call41 Tryz.func41 (chain [tB 5 (ha:x.all=true),.c (ivZeroR_no x.lo h1)] <| .nil) (by kernel_rfl)
 ·replace ha:x.all=false:=by simpa using ha
  by_cases h1:x.lo.Ok
  ·by_cases h2:x.hi.Ok
   ·have h3:¬ cmpD x.lo.dy x.hi.dy ≤ 0:=fun q=>h (.inr ⟨ha,h1,h2,q⟩)
    have v1:=h1.valid
    have v2:=h2.valid
    have e1:riP x=ivP x.iv:=by rw [← ivP_raw,show x.iv.raw=x by show RI.mk x.lo.dy.raw x.hi.dy.raw x.all=x; rw [h1.eq ga,h2.eq gb]]
    rw [e1]
    exact tr true Tryz.call41 Tryz.func41 (chain [tB 5 (ha:x.iv.all=false),.c (dyValid_pc _ ‹_›:PCt 98 [(dyP x.iv.lo)] _),.c (dyValid_pc _ ‹_›:PCt 98 [(dyP x.iv.hi)] _),
     .c (dyCmp_pc _ _ ‹_› ‹_›:PCt 82 [(dyP x.iv.lo),(dyP x.iv.hi)] _),tB 30 (decide_eq_false h3)] <| .nil) (by kernel_rfl)
   ·exact tr true Tryz.call41 Tryz.func41 (chain [tB 5 (ha:x.all=false),.c (dyValidR_pc _ ‹_› true (by simp [h1]):PCt 98 [(rdP x.lo)] _),.c (dyValidR_pc _ ‹_› false (by simp [h2]):PCt 98 [(rdP x.hi)] _)] <| .nil) (by kernel_rfl)
  ·exact tr true Tryz.call41 Tryz.func41 (chain [tB 5 (ha:x.all=false),.c (dyValidR_pc _ ‹_› false (by simp [h1]):PCt 98 [(rdP x.lo)] _)] <| .nil) (by kernel_rfl)
theorem ivValidR_pc (x:RI) (g:x.Good):PCt 41 [riP x] (bP (okB x)):=by
 by_cases h:x.Ok
 ·rw [okB_true.2 h]; exact ivValidR_yes x g h
 ·rw [show okB x=false by simpa using fun q=>h (okB_true.1 q)]; exact ivValidR_no x g h
theorem matRect11 (x:RI) (g:x.Good):PCt 207 [(riP x),(.ref 1 fun j_=>[(.fn 41 [])].getD j_ .any)] (bP (!(okB x))):=by
 exact tr true Tryz.call207 Tryz.func207 (chain [.c (ivValidR_pc _ ‹_›:PCt 41 [(riP x)] _)] <| .nil) (by kernel_rfl)
theorem matRect1 (r:List RI) (m:List (List RI)) (gr:∀ j,(r.getD j rwhole).Good) (hr:r.length ≤ 1000000) (hm:0 < m.length):PCt 206 [(risP r),(.ref 1 fun j_=>[(rmatP m)].getD j_ .any),(.ref 1 fun j_=>[(.fn 41 [])].getD j_ .any)] (bP (decide (r.length ≠ (m.getD 0 []).length) || ((List.range (r.length)).any fun j=>!(okB (r.getD j rwhole))))):=by
 by_cases h:r.length=(m.getD 0 []).length
 ·exact tr true Tryz.call206 Tryz.func206 (chain [iX (0) (m.length) (by omega),tB 11 (natNe_false h:((r.length:Int) != (((m.getD 0 []).length:Nat):Int))=false),
   .c (iv_any true _ _ 207 _ (fun j=>!(okB (r.getD j rwhole))) (fun j hj=>matRect11 _ (gr j)) (by omega):PCt 55 [(risP r),(.fn 207 [(.ref 1 fun j_=>[(.fn 41 [])].getD j_ .any)])] _)] <| rQ (bP ((List.range (r.length)).any fun j=>!(okB (r.getD j rwhole)))) (bP (decide (r.length ≠ (m.getD 0 []).length) || ((List.range (r.length)).any fun j=>!(okB (r.getD j rwhole))))) (by rw [decide_eq_false (not_not_intro h)]; rfl)) (by kernel_rfl)
 ·exact tr true Tryz.call206 Tryz.func206 (chain [iX (0) (m.length) (by omega),tB 11 (natNe_true h:((r.length:Int) != (((m.getD 0 []).length:Nat):Int))=true)] <| rQ (bP true) (bP (decide (r.length ≠ (m.getD 0 []).length) || ((List.range (r.length)).any fun j=>!(okB (r.getD j rwhole))))) (by rw [decide_eq_true h]; rfl)) (by kernel_rfl)
theorem matRect_pc (m:List (List RI)) (g:MGood m) (hl:m.length ≤ 1000000) (hrows:∀ i,(m.getD i []).length ≤ 1000000):PCt 173 [(rmatP m),(.fn 41 [])] (bP (matOkB m)):=by
 by_cases h1:m.length < 1
 ·exact tr true Tryz.call173 Tryz.func173 (chain [tT 7 ((m.length:Int) < 1) (by omega)] <| rQ (bP false) (bP (matOkB m)) (by rw [matOkB_false (fun q=>by have:=q.n1; omega)])) (by kernel_rfl)
 ·by_cases h2:8 < m.length
  ·exact tr true Tryz.call173 Tryz.func173 (chain [tF 7 ((m.length:Int) < 1) (by omega),tT 11 (8 < (m.length:Int)) (by omega)] <| rQ (bP false) (bP (matOkB m)) (by rw [matOkB_false (fun q=>by have:=q.n8; omega)])) (by kernel_rfl)
  ·by_cases h3:(m.getD 0 []).length < 1
   ·exact tr true Tryz.call173 Tryz.func173 (chain [tF 7 ((m.length:Int) < 1) (by omega),tF 11 (8 < (m.length:Int)) (by omega),iX (0) (m.length) (by omega),tT 18 ((((m.getD 0 []).length:Nat):Int) < 1) (by omega)] <| rQ (bP false) (bP (matOkB m)) (by rw [matOkB_false (fun q=>by have:=q.k1; omega)])) (by kernel_rfl)
   ·by_cases h4:8 < (m.getD 0 []).length
    ·exact tr true Tryz.call173 Tryz.func173 (chain [tF 7 ((m.length:Int) < 1) (by omega),tF 11 (8 < (m.length:Int)) (by omega),iX (0) (m.length) (by omega),tF 18 ((((m.getD 0 []).length:Nat):Int) < 1) (by omega),iX (0) (m.length) (by omega),
      tT 25 (8 < (((m.getD 0 []).length:Nat):Int)) (by omega)] <| rQ (bP false) (bP (matOkB m)) (by rw [matOkB_false (fun q=>by have:=q.k8; omega)])) (by kernel_rfl)
    ·have hb:matOkB m = !((List.range m.length).any fun i=>decide ((m.getD i []).length ≠ (m.getD 0 []).length) || ((List.range ((m.getD i []).length)).any fun j=>!(okB ((m.getD i []).getD j rwhole)))):=by
      by_cases hk:ROk m
      ·rw [matOkB_true.2 hk]
       symm
       rw [Bool.not_eq_true',List.any_eq_false]
       intro i hi
       have hi:=List.mem_range.1 hi
       have hrow:decide ((m.getD i []).length ≠ (m.getD 0 []).length)=false:=decide_eq_false (not_not_intro (hk.row i hi))
       rw [hrow,Bool.false_or,Bool.not_eq_true,List.any_eq_false]
       intro j hj
       rw [okB_true.2 (hk.ok i hi j (List.mem_range.1 hj))]
       decide
      ·rw [matOkB_false hk]
       symm
       rw [Bool.not_eq_false']
       apply Classical.byContradiction
       intro hc
       rw [Bool.not_eq_true,List.any_eq_false] at hc
       refine hk ⟨by omega,by omega,by omega,by omega,fun i hi=>?_,fun i hi j hj=>?_⟩
       ·have:=hc i (List.mem_range.2 hi)
        simp only [ne_eq,decide_not,Bool.or_eq_true,not_or,Bool.not_eq_true,Bool.not_eq_false',decide_eq_true_eq] at this
        exact this.1
       ·have:=hc i (List.mem_range.2 hi)
        simp only [ne_eq,decide_not,Bool.or_eq_true,not_or,Bool.not_eq_true,Bool.not_eq_false',decide_eq_true_eq] at this
        have:=List.any_eq_false.1 this.2 j (List.mem_range.2 hj)
        exact okB_true.1 (by simpa using this)
     exact tr true Tryz.call173 Tryz.func173 (chain [tF 7 ((m.length:Int) < 1) (by omega),tF 11 (8 < (m.length:Int)) (by omega),iX (0) (m.length) (by omega),tF 18 ((((m.getD 0 []).length:Nat):Int) < 1) (by omega),iX (0) (m.length) (by omega),
      tF 25 (8 < (((m.getD 0 []).length:Nat):Int)) (by omega),
      .c (row_any true _ _ 206 _ (fun i=>decide ((m.getD i []).length ≠ (m.getD 0 []).length) || ((List.range ((m.getD i []).length)).any fun j=>!(okB ((m.getD i []).getD j rwhole)))) (fun i hi=>matRect1 _ _ (fun j=>g.at i j) (hrows i) (by omega)) (by omega):PCt 53 [(rmatP m),(.fn 206 [(.ref 1 fun j_=>[(rmatP m)].getD j_ .any),(.ref 1 fun j_=>[(.fn 41 [])].getD j_ .any)])] _)] <| rQ (bP (!((List.range m.length).any fun i=>decide ((m.getD i []).length ≠ (m.getD 0 []).length) || ((List.range ((m.getD i []).length)).any fun j=>!(okB ((m.getD i []).getD j rwhole)))))) (bP (matOkB m)) (by rw [hb])) (by kernel_rfl)
theorem matValidR_pc (m:List (List RI)) (g:MGood m) (hl:m.length ≤ 1000000) (hrows:∀ i,(m.getD i []).length ≤ 1000000):PCt 103 [(rmatP m)] (bP (matOkB m)):=by
 exact tr true Tryz.call103 Tryz.func103 (chain [.c (matRect_pc m g (by omega) hrows)] <| .nil) (by kernel_rfl)
open Go.RowKit Fp Pu
abbrev ivsE (xs:List Iv):Nat → Nat → E:=fun i j=>(ivL (xs.getD i wholeI)).getD j .any
abbrev matE (M:List (List Iv)):Nat → Nat → E:=fun i _=>ivsP (M.getD i [])
abbrev lnE (M:List (List Iv)):Nat → Nat:=fun q=>(M.getD q []).length
abbrev rowsE (M:List (List Iv)):Nat → Nat → Nat → E:=fun q i j=>(ivL ((M.getD q []).getD i wholeI)).getD j .any
theorem ivL_nr (x:Iv) (j:Nat) (hj:j < 7):((ivL x).getD j .any).nr 2=true:=by
 rcases j with _ | _ | _ | _ | _ | _ | _ | j
 all_goals first | rfl | omega
theorem ivsP_nr (xs:List Iv):(ivsP xs).nr 2=true:=rfl
def buildM (n:Nat) (c:Nat → Nat) (F:Nat → Nat → Iv) (x k:Nat):List (List Iv):=(List.range n).map fun q=>(List.range (if q < x then c q else if q=x then k else 0)).map (F q)
def wholeM (n:Nat) (c:Nat → Nat) (F:Nat → Nat → Iv):List (List Iv):=(List.range n).map fun q=>(List.range (c q)).map (F q)
theorem buildM_len (n:Nat) (c:Nat → Nat) (F:Nat → Nat → Iv) (x k:Nat):(buildM n c F x k).length=n:=by simp [buildM]
theorem buildM_row {n:Nat} {c:Nat → Nat} {F:Nat → Nat → Iv} {x k q:Nat} (h:q < n):(buildM n c F x k).getD q []=(List.range (if q < x then c q else if q=x then k else 0)).map (F q):=by
 simp [buildM,List.getD_eq_getElem?_getD,h]
theorem wholeM_row {n:Nat} {c:Nat → Nat} {F:Nat → Nat → Iv} {q:Nat} (h:q < n):(wholeM n c F).getD q []=(List.range (c q)).map (F q):=by
 simp [wholeM,List.getD_eq_getElem?_getD,h]
theorem lnE_at {n x k:Nat} {c:Nat → Nat} {F:Nat → Nat → Iv} (h:x < n):lnE (buildM n c F x k) x=k:=by simp only [lnE,buildM_row h]; simp
theorem one_len {α:Type} (y:α):[y].length=1:=rfl
theorem range_getD {n i:Nat} {F:Nat → Iv} (h:i < n):((List.range n).map F).getD i wholeI=F i:=by
 simp [List.getD_eq_getElem?_getD,h]
theorem rows_init {T1 T0 n n':Nat} {c:Nat → Nat} {F:Nat → Nat → Iv} (hn:n=n'):Bx.le (.rows true T1 T0 n 7 (fun _=>0) (fun _ _ _=>.any) .none) (.rows true T1 T0 n' 7 (lnE (buildM n' c F 0 0)) (rowsE (buildM n' c F 0 0)) .none):=by
 subst hn
 refine .rows rfl (fun k hk=>?_) (fun k i j hk hi hj=>absurd hi (Nat.not_lt_zero i))
 show 0=((buildM n c F 0 0).getD k []).length
 rw [buildM_row hk]; simp
theorem rows_push {T1 T0 n n' m x k:Nat} {c:Nat → Nat} {F:Nat → Nat → Iv} {y:Iv} (hn:n=n') (hm:m=n) (hx:x < n) (hy:y=F x k) :
  Bx.le (.rows true T1 T0 n 7 (fun q=>if q=x then lnE (buildM m c F x k) q + [y].length else lnE (buildM m c F x k) q)
    (fun q i j=>if q=x then (if i < lnE (buildM m c F x k) q then rowsE (buildM m c F x k) q i j else (E.elf (ivsP [y])) (i - lnE (buildM m c F x k) q) j) else rowsE (buildM m c F x k) q i j) .none)
   (.rows true T1 T0 n' 7 (lnE (buildM m c F x (k+1))) (rowsE (buildM m c F x (k+1))) .none):=by
 subst hn hm hy
 have hl:∀ q,q < m → (if q=x then lnE (buildM m c F x k) q + [F x k].length else lnE (buildM m c F x k) q)=lnE (buildM m c F x (k+1)) q:=by
  intro q hq
  simp only [lnE,buildM_row hq,List.length_map,List.length_range,List.length_cons,List.length_nil]
  by_cases h1:q=x
  ·subst h1; simp
  ·simp [h1]
 refine .rows rfl hl (fun q i j hq hi hj=>⟨.of_eq ?_,ivL_nr _ _ hj⟩)
 by_cases h1:q=x
 ·subst h1
  rw [if_pos rfl] at hi ⊢
  simp only [lnE,rowsE,buildM_row hq,List.length_map,List.length_range,List.length_cons,List.length_nil,Nat.lt_irrefl,if_false,if_true] at hi ⊢
  by_cases h2:i < k
  ·rw [if_pos h2,range_getD h2,range_getD (by omega)]
  ·have:i=k:=by omega
   subst this
   rw [if_neg h2,Nat.sub_self,range_getD (by omega)]
   rfl
 ·rw [if_neg h1] at hi ⊢
  simp only [lnE,rowsE,buildM_row hq,List.length_map,List.length_range,h1,if_false] at hi ⊢
theorem rows_next {T1 T0 n n' m x:Nat} {c:Nat → Nat} {F:Nat → Nat → Iv} (hn:n=n'):Bx.le (.rows true T1 T0 n 7 (lnE (buildM m c F x (c x))) (rowsE (buildM m c F x (c x))) .none) (.rows true T1 T0 n' 7 (lnE (buildM m c F (x+1) 0)) (rowsE (buildM m c F (x+1) 0)) .none):=by
 subst hn
 have:buildM m c F x (c x)=buildM m c F (x+1) 0:=by
  unfold buildM
  congr 1
  funext q
  congr 2
  by_cases h:q < x
  ·rw [if_pos h,if_pos (by omega)]
  ·by_cases h2:q=x
   ·subst h2; rw [if_neg h,if_pos rfl,if_pos (by omega)]
   ·rw [if_neg h,if_neg h2,if_neg (by omega)]; split <;> rfl
 rw [this]
 exact .refl _
theorem buildM_done (n:Nat) (c:Nat → Nat) (F:Nat → Nat → Iv):buildM n c F n 0=wholeM n c F:=by
 unfold buildM wholeM
 apply List.map_congr_left
 intro q hq
 rw [if_pos (List.mem_range.1 hq)]
theorem matRows_le {n:Nat} {M:List (List Iv)} (hn:n=M.length):E.le (.sl true n 1 fun k _=>.sl true (lnE M k) 7 (rowsE M k)) (matP M):=by subst hn; exact .refl _
open Go.RowKit Fp Pu
def eachFam (m:List (List Iv)) (g:FuncId) (cap:List E) (F:Nat → Nat → Iv) (x:Nat):PS:=⟨44,true,[(15,.e (iP x)),(14,.e (iP m.length)),(13,.e (matP m)),(5,.own 12),(1,.e (.fn g cap))],[(12,.rows true 31 28 m.length 7 (lnE (buildM m.length (fun q=>(m.getD q []).length) F x 0)) (rowsE (buildM m.length (fun q=>(m.getD q []).length) F x 0)) .none)]⟩
def eachFamIn (m:List (List Iv)) (g:FuncId) (cap:List E) (F:Nat → Nat → Iv) (x:Nat) (k:Nat):PS:=⟨44,true,[(22,.e (iP k)),(21,.e (iP (((m.getD x []).length:Nat):Int))),(20,.e (ivsP (m.getD x []))),(6,.e (iP x)),(15,.e (iP x)),(14,.e (iP m.length)),(13,.e (matP m)),(5,.own 12),(1,.e (.fn g cap))],[(12,.rows true 31 28 m.length 7 (lnE (buildM m.length (fun q=>(m.getD q []).length) F x k)) (rowsE (buildM m.length (fun q=>(m.getD q []).length) F x k)) .none)]⟩
theorem matEach_pc (m:List (List Iv)) (g:FuncId) (cap:List E) (F:Nat → Nat → Iv) (hl:m.length ≤ 1000) (hr:∀ i,(m.getD i []).length ≤ 1000) (hf:∀ i j,i < m.length → j < (m.getD i []).length → PCt g (iP (i:Int) :: iP (j:Int) :: ivP ((m.getD i []).getD j wholeI) :: cap) (ivP (F i j))):PCt 124 [(matP m),(.fn g cap)] (matP (wholeM m.length (fun q=>(m.getD q []).length) F)):=by
 exact tr true Tryz.call124 Tryz.func124 (chain [.a (by omega:0 ≤ ((m.length:Int):Int) ∧ ((m.length:Int):Int) ≤ ((m.length:Int):Int)),
  .a (by omega:((24:Nat):Int) * (m.length:Int) ≤ 281474976710656 ∧ ((m.length:Int):Int) ≤ 9223372036854775807),
  .s (Sp.upto (eachFam m g cap F) 0 m.length (by omega) (fun x hx hltx=>by
    have hx2:=hr x
    exact spt (chain [tT 16 ((x:Int) < (m.length:Int)) (by omega),iX ((x:Int)) (m.length) (by omega),
     .s (Sp.upto (eachFamIn m g cap F x) 0 ((m.getD x []).length) (by omega) (fun k hk hltk=>by
    have hx2:=hr x
    have hle:lnE (buildM m.length (fun q=>(m.getD q []).length) F x k) x=k:=lnE_at (by omega)
    have h1:=one_len (F x k)
    exact spt (chain [tT 23 ((k:Int) < (((m.getD x []).length:Nat):Int)) (by omega),iX ((k:Int)) ((m.getD x []).length) (by omega),iX ((x:Int)) (m.length) (by omega),.a (by omega:x < m.length),
     .c (hf x k (by omega) (by omega):PCt g ((iP x) :: (iP k) :: (ivP ((m.getD x []).getD k wholeI)) :: cap) _),
     .o 38 (.e (ivs1_le _):PV.le (.e (.sl true 1 7 fun i_ j_=>(ivL (F x k)).getD (i_ * 7+j_) (.v (.bool false)))) (.e (ivsP [(F x k)]))),.a (by omega:x < m.length),
     .a (by omega:((lnE (buildM m.length (fun q=>(m.getD q []).length) F x k)) x + [(F x k)].length) * 88 ≤ 140737488355328),iX ((x:Int)) (m.length) (by omega),.a (rfl:x=x),.a (rfl:x=x),.a (by omega:x < m.length),
     r64 ((k:Int)+1) (by omega)] <| .e (chain [.b 12 (rows_push rfl (by omega) (by omega) rfl:Bx.le (.rows true 31 28 m.length 7 (fun q=>if q=x then (lnE (buildM m.length (fun q=>(m.getD q []).length) F x k)) q + [(F x k)].length else (lnE (buildM m.length (fun q=>(m.getD q []).length) F x k)) q) (fun q i j=>if q=x then (if i < (lnE (buildM m.length (fun q=>(m.getD q []).length) F x k)) q then (rowsE (buildM m.length (fun q=>(m.getD q []).length) F x k)) q i j else (E.elf (ivsP [(F x k)])) (i - (lnE (buildM m.length (fun q=>(m.getD q []).length) F x k)) q) j) else (rowsE (buildM m.length (fun q=>(m.getD q []).length) F x k)) q i j) .none) (.rows true 31 28 m.length 7 (lnE (buildM m.length (fun q=>(m.getD q []).length) F x (k+1))) (rowsE (buildM m.length (fun q=>(m.getD q []).length) F x (k+1))) .none))] <| .nil)) (by kernel_rfl))
  (fun hk=>by
    exact spt (chain [tF 23 ((((m.getD x []).length:Nat):Int) < (((m.getD x []).length:Nat):Int)) (by omega)] <| .nil) (by kernel_rfl)) (by nofun):LpT 6 Tryz.f124 (eachFamIn m g cap F x 0) (.exit 2) ⟨44,true,[(15,.e (iP x)),(14,.e (iP m.length)),(13,.e (matP m)),(5,.own 12),(1,.e (.fn g cap))],[(12,.rows true 31 28 m.length 7 (lnE (buildM m.length (fun q=>(m.getD q []).length) F x ((m.getD x []).length))) (rowsE (buildM m.length (fun q=>(m.getD q []).length) F x ((m.getD x []).length))) .none)]⟩) .nil,
     r64 ((x:Int)+1) (by omega)] <| .e (chain [.b 12 (rows_next rfl:Bx.le (.rows true 31 28 m.length 7 (lnE (buildM m.length (fun q=>(m.getD q []).length) F x ((m.getD x []).length))) (rowsE (buildM m.length (fun q=>(m.getD q []).length) F x ((m.getD x []).length))) .none) (.rows true 31 28 m.length 7 (lnE (buildM m.length (fun q=>(m.getD q []).length) F (x+1) 0)) (rowsE (buildM m.length (fun q=>(m.getD q []).length) F (x+1) 0)) .none))] <| .nil)) (by kernel_rfl))
  (fun hx=>by
    exact spt (chain [tF 16 ((m.length:Int) < (m.length:Int)) (by omega)] <| .nil) (by kernel_rfl)) (by nofun):LpT 3 Tryz.f124 (eachFam m g cap F 0) (.exit 0) ⟨44,true,[(5,.own 12)],[(12,.rows true 31 28 m.length 7 (lnE (buildM m.length (fun q=>(m.getD q []).length) F m.length 0)) (rowsE (buildM m.length (fun q=>(m.getD q []).length) F m.length 0)) .none)]⟩) (chain [.b 12 (rows_init rfl:Bx.le (.rows true 31 28 m.length 7 (fun _=>0) (fun _ _ _=>.any) .none) (.rows true 31 28 m.length 7 (lnE (buildM m.length (fun q=>(m.getD q []).length) F 0 0)) (rowsE (buildM m.length (fun q=>(m.getD q []).length) F 0 0)) .none))] <| .nil)] <| rR (matP (wholeM m.length (fun q=>(m.getD q []).length) F)) (by
      rw [← buildM_done]; exact matRows_le (buildM_len _ _ _ _ _).symm:E.le (.sl true m.length 1 fun k_ _=>.sl true ((lnE (buildM m.length (fun q=>(m.getD q []).length) F m.length 0)) k_) 7 ((rowsE (buildM m.length (fun q=>(m.getD q []).length) F m.length 0)) k_)) (matP (wholeM m.length (fun q=>(m.getD q []).length) F)))) (by kernel_rfl)
open Go.RowKit Fp Pu
theorem Fp.MOk.len_at {m:List (List Iv)} {n k:Nat} (h:MOk m n k) {i:Nat} (hi:i < n):(m.getD i []).length=k:=by
 have hi':i < m.length:=by rw [h.rows]; exact hi
 rw [List.getD_eq_getElem?_getD,List.getElem?_eq_getElem hi']
 exact h.row _ (List.getElem_mem hi')
theorem Fp.MOk.val_at {m:List (List Iv)} {n k:Nat} (h:MOk m n k) {i j:Nat} (hi:i < n) (hj:j < k):((m.getD i []).getD j wholeI).Valid:=by
 have hi':i < m.length:=by rw [h.rows]; exact hi
 have hl:=h.len_at hi
 rw [List.getD_eq_getElem?_getD (l:=m),List.getElem?_eq_getElem hi'] at hl ⊢
 change m[i].length=k at hl
 show (m[i].getD j wholeI).Valid
 have hj':j < m[i].length:=by rw [hl]; exact hj
 rw [List.getD_eq_getElem?_getD,List.getElem?_eq_getElem hj']
 exact h.ok _ (List.getElem_mem hi') _ (List.getElem_mem hj')
theorem Fp.MOk.len_le {m:List (List Iv)} {n k:Nat} (h:MOk m n k) (i:Nat):(m.getD i []).length ≤ 8:=by
 by_cases hi:i < n
 ·rw [h.len_at hi]; exact h.k8
 ·rw [List.getD_eq_getElem?_getD,List.getElem?_eq_none (by rw [h.rows]; omega)]; exact Nat.zero_le _
theorem rawsM_getD (m:List (List Iv)) (i:Nat):(rawsM m).getD i []=rawsI (m.getD i []):=by
 unfold rawsM
 rw [List.getD_eq_getElem?_getD,List.getD_eq_getElem?_getD,List.getElem?_map]
 cases m[i]? <;> rfl
theorem Fp.MOk.good {m:List (List Iv)} {n k:Nat} (h:MOk m n k):MGood (rawsM m):=by
 intro r hr x hx
 obtain ⟨r',h1,rfl⟩:=List.mem_map.1 hr
 obtain ⟨x',h2,rfl⟩:=List.mem_map.1 hx
 exact (h.ok _ h1 _ h2).good
theorem Fp.MOk.rok {m:List (List Iv)} {n k:Nat} (h:MOk m n k):ROk (rawsM m):=by
 have hl:(rawsM m).length=n:=by rw [← h.rows]; simp [rawsM]
 have hrow:∀ i,i < n → ((rawsM m).getD i []).length=k:=fun i hi=>by rw [rawsM_getD,← h.len_at hi]; simp [rawsI]
 have h1:=h.n1
 refine ⟨by have:=h.n1; omega,by have:=h.n8; omega,by rw [hrow 0 (by omega)]; exact h.k1,by rw [hrow 0 (by omega)]; exact h.k8,fun i hi=>by rw [hrow 0 (by omega),hrow i (by omega)],fun i hi j hj=>?_⟩
 have hi':i < n:=by omega
 rw [hrow i hi'] at hj
 rw [rawsM_getD,getD_map_raw]
 exact (h.val_at hi' hj).okR
theorem matValid_pc (m:List (List Iv)) (n k:Nat) (h:MOk m n k):PCt 103 [matP m] (bP true):=by
 have:=matValidR_pc (rawsM m) h.good (by have:=h.n8; simp [rawsM,h.rows]; omega) (fun i=>by rw [rawsM_getD]; have:=h.len_le i; simp only [rawsI,List.length_map]; omega)
 rwa [matOkB_true.2 h.rok,matP_raw] at this
theorem entry1_pc (i j:Nat) (x:Iv) (b:List (List Iv)) (p:Nat) (hx:x.Valid) (hy:((b.getD i []).getD j wholeI).Valid) (hi:i < b.length) (hj:j < (b.getD i []).length) (hp1:8 ≤ p) (hp2:p ≤ 512):PCt 187 [(iP i),(iP j),(ivP x),(.ref 1 fun j_=>[(.fn 48 [])].getD j_ .any),(.ref 1 fun j_=>[(matP b)].getD j_ .any),(.ref 1 fun j_=>[(iP p)].getD j_ .any)] (ivP (addI x ((b.getD i []).getD j wholeI) p)):=by
 exact tr true Tryz.call187 Tryz.func187 (chain [iX ((i:Int)) (b.length) (by omega),iX ((j:Int)) ((b.getD i []).length) (by omega),.c (ivAdd_pc x ((b.getD i []).getD j wholeI) p ‹_› ‹_› (by omega) (by omega))] <| .nil) (by kernel_rfl)
theorem entrywise_pc (a b:List (List Iv)) (n k p:Nat) (ga:MOk a n k) (gb:MOk b n k) (hp1:8 ≤ p) (hp2:p ≤ 512):PCt 131 [(matP a),(matP b),(iP p),(.fn 48 [])] (.tup [matP (wholeM a.length (fun q=>(a.getD q []).length) (fun i j=>addI ((a.getD i []).getD j wholeI) ((b.getD i []).getD j wholeI) p)),iP 0]):=by
 have ra:=ga.rows
 have rb:=gb.rows
 have n1:=ga.n1
 have n8:=ga.n8
 have la:=ga.len_at (show 0 < n by omega)
 have lb:=gb.len_at (show 0 < n by omega)
 exact tr true Tryz.call131 Tryz.func131 (chain [.c (matValid_pc _ _ _ ‹_›:PCt 103 [(matP a)] _),.c (matValid_pc _ _ _ ‹_›:PCt 103 [(matP b)] _),.c (mxPrecise_pc _:PCt 121 [(iP p)] _),
  tB 21 (precB_true.2 ⟨by omega,by omega⟩:(precB (p:Int))=true),tB 28 (natNe_false (by omega):((a.length:Int) != (b.length:Int))=false),iX (0) (a.length) (by omega),iX (0) (b.length) (by omega),
  tB 38 (natNe_false (by omega):((((a.getD 0 []).length:Nat):Int) != (((b.getD 0 []).length:Nat):Int))=false),
  .c (matEach_pc a 187 [(.ref 1 fun j_=>[(.fn 48 [])].getD j_ .any),(.ref 1 fun j_=>[(matP b)].getD j_ .any),(.ref 1 fun j_=>[(iP p)].getD j_ .any)] (fun i j=>addI ((a.getD i []).getD j wholeI) ((b.getD i []).getD j wholeI) p) (by omega) (fun i=>Nat.le_trans (ga.len_le i) (by decide)) (fun i j hi hj=>entry1_pc _ _ _ _ _ (ga.val_at (by omega) (by rw [ga.len_at (by omega)] at hj; exact hj)) (gb.val_at (by omega) (by rw [ga.len_at (by omega)] at hj; exact hj)) (by omega) (by rw [gb.len_at (by omega)]; rw [ga.len_at (by omega)] at hj; exact hj) hp1 hp2))] <| .nil) (by kernel_rfl)
theorem wholeM_addM {a b:List (List Iv)} {n k p:Nat} (ga:MOk a n k) (gb:MOk b n k):wholeM a.length (fun q=>(a.getD q []).length) (fun i j=>addI ((a.getD i []).getD j wholeI) ((b.getD i []).getD j wholeI) p)=addM a b p:=by
 have ra:=ga.rows
 have rb:=gb.rows
 unfold wholeM addM
 apply List.ext_getElem
 ·simp [ra,rb]
 ·intro i h1 h2
  have hi:i < n:=by simp at h1; omega
  simp only [List.getElem_map,List.getElem_range,List.getElem_zipWith]
  have ea:a.getD i []=a[i]'(by omega):=by rw [List.getD_eq_getElem?_getD,List.getElem?_eq_getElem (by omega)]; rfl
  have eb:b.getD i []=b[i]'(by omega):=by rw [List.getD_eq_getElem?_getD,List.getElem?_eq_getElem (by omega)]; rfl
  have la:=ga.len_at hi
  have lb:=gb.len_at hi
  rw [ea] at la
  rw [eb] at lb
  rw [ea,eb]
  apply List.ext_getElem
  ·simp [la,lb]
  ·intro j h3 h4
   have hj:j < k:=by simp [la] at h3; exact h3
   simp only [List.getElem_map,List.getElem_range,List.getElem_zipWith]
   congr 1
   ·rw [List.getD_eq_getElem?_getD,List.getElem?_eq_getElem (by omega)]; rfl
   ·rw [List.getD_eq_getElem?_getD,List.getElem?_eq_getElem (by omega)]; rfl
theorem matAdd_pc (a b:List (List Iv)) (n k p:Nat) (ga:MOk a n k) (gb:MOk b n k) (hp1:8 ≤ p) (hp2:p ≤ 512):PCt 47 [(matP a),(matP b),(iP p)] (.tup [matP (addM a b p),iP 0]):=by
 exact tr true Tryz.call47 Tryz.func47 (chain [.c (entrywise_pc a b n k p ga gb hp1 hp2)] <| rQ (.tup [(matP (wholeM a.length (fun q=>(a.getD q []).length) (fun i j=>addI ((a.getD i []).getD j wholeI) ((b.getD i []).getD j wholeI) p))),(iP 0)]) (.tup [matP (addM a b p),iP 0]) (by rw [wholeM_addM ga gb])) (by kernel_rfl)
open Go.RowKit Fp Pu
def Fp.dotP (X Y:Nat → Iv) (p:Nat):Nat → Iv
 | 0=>mulI (X 0) (Y 0) p
 | k+1=>addI (dotP X Y p k) (mulI (X (k+1)) (Y (k+1)) p) p
theorem dotP_valid (X Y:Nat → Iv) {p:Nat} (hp:1 ≤ p) (hp2:p ≤ 4096):∀ k,(dotP X Y p k).Valid
 | 0=>mulI_valid _ _ hp hp2
 | k+1=>addI_valid (dotP_valid X Y hp hp2 k) (mulI_valid _ _ hp hp2) hp hp2
theorem foldl_dotP (x y:Iv) (p:Nat):∀ (a b:List Iv) (X Y:Nat → Iv) (s:Nat),a.length=b.length → (∀ i,i < a.length → a.getD i wholeI=X (s+1+i)) → (∀ i,i < b.length → b.getD i wholeI=Y (s+1+i)) →
  (a.zip b).foldl (fun s q=>addI s (mulI q.1 q.2 p) p) (dotP X Y p s)=dotP X Y p (s+a.length)
 | [],[],X,Y,s,_,_,_=>rfl
 | [],_ :: _,_,_,_,h,_,_=>by simp at h
 | _ :: _,[],_,_,_,h,_,_=>by simp at h
 | u :: a,v :: b,X,Y,s,h,h1,h2=>by
  have e1:u=X (s+1):=h1 0 (by simp)
  have e2:v=Y (s+1):=h2 0 (by simp)
  rw [List.zip_cons_cons,List.foldl_cons]
  have:addI (dotP X Y p s) (mulI u v p) p=dotP X Y p (s+1):=by rw [e1,e2]; rfl
  rw [this,foldl_dotP x y p a b X Y (s+1) (by simpa using h) (fun i hi=>by
    have:=h1 (i+1) (by simp; omega)
    rw [show s+1+1+i=s+1+(i+1) by omega,← this]; rfl) (fun i hi=>by
    have:=h2 (i+1) (by simp; omega)
    rw [show s+1+1+i=s+1+(i+1) by omega,← this]; rfl)]
  congr 1
  simp; omega
theorem dotI_dotP {xs ys:List Iv} {p n:Nat} (h1:xs.length=n+1) (h2:ys.length=n+1):dotI xs ys p=dotP (fun q=>xs.getD q wholeI) (fun q=>ys.getD q wholeI) p n:=by
 match xs,ys,h1,h2 with
 | x :: a,y :: b,h1,h2 =>
  have ha:a.length=n:=by simpa using h1
  have hb:b.length=n:=by simpa using h2
  have:=foldl_dotP x y p a b (fun q=>(x :: a).getD q wholeI) (fun q=>(y :: b).getD q wholeI) 0 (by omega) (fun i hi=>by rw [show 0+1+i=i+1 by omega]; rfl) (fun i hi=>by rw [show 0+1+i=i+1 by omega]; rfl)
  rw [Nat.zero_add,ha] at this
  exact this
theorem getD_eq_getElem {α:Type} {l:List α} {i:Nat} {d:α} (h:i < l.length):l.getD i d=l[i]:=by
 rw [List.getD_eq_getElem?_getD,List.getElem?_eq_getElem h]; rfl
theorem wholeM_mulM {a b:List (List Iv)} {n k c p:Nat} (ra:a.length=n) (la:∀ i,i < n → (a.getD i []).length=k+1) (rb:b.length=k+1) (lb:(b.getD 0 []).length=c) :
  wholeM n (fun _=>c) (fun i j=>dotP (fun q=>(a.getD i []).getD q wholeI) (fun q=>(b.getD q []).getD j wholeI) p k)=mulM a b p:=by
 unfold wholeM mulM
 have hb:(b.headD []).length=c:=by
  rw [← lb]
  cases b with
  | nil=>rfl
  | cons r b=>rfl
 rw [hb]
 apply List.ext_getElem
 ·simp [ra]
 ·intro i h1 h2
  have hi:i < n:=by simp at h1; omega
  have hi2:i < a.length:=by omega
  simp only [List.getElem_map,List.getElem_range]
  apply List.map_congr_left
  intro j _
  have e:=la i hi
  rw [getD_eq_getElem hi2] at e ⊢
  rw [dotI_dotP e (show (colM b j).length=k+1 by simp [colM,rb])]
  congr 1
  funext q
  unfold colM
  by_cases hq:q < b.length
  ·rw [getD_eq_getElem (l:=b.map _) (by simpa using hq),getD_eq_getElem hq]; simp
  ·rw [List.getD_eq_getElem?_getD (l:=b.map _),List.getElem?_eq_none (by simpa using hq),List.getD_eq_getElem?_getD (l:=b),List.getElem?_eq_none (by omega)]; simp
theorem wholeM_scaleM {a:List (List Iv)} {x:Iv} {p:Nat}:wholeM a.length (fun q=>(a.getD q []).length) (fun i j=>mulI x ((a.getD i []).getD j wholeI) p)=scaleM a x p:=by
 unfold wholeM scaleM
 apply List.ext_getElem
 ·simp
 ·intro i h1 h2
  have hi:i < a.length:=by simp at h1; omega
  simp only [List.getElem_map,List.getElem_range]
  rw [getD_eq_getElem hi]
  apply List.ext_getElem
  ·simp
  ·intro j h3 h4
   have hj:j < a[i].length:=by simpa using h3
   simp only [List.getElem_map,List.getElem_range]
   rw [getD_eq_getElem hj]
theorem wholeM_ok {n k:Nat} {F:Nat → Nat → Iv} (h1:1 ≤ n) (h2:n ≤ 8) (h3:1 ≤ k) (h4:k ≤ 8) (hv:∀ i j,(F i j).Valid):MOk (wholeM n (fun _=>k) F) n k:=by
 refine ⟨by simp [wholeM],fun r hr=>?_,fun r hr x hx=>?_,h1,h2,h3,h4⟩
 ·obtain ⟨i,_,rfl⟩:=List.mem_map.1 hr; simp
 ·obtain ⟨i,_,rfl⟩:=List.mem_map.1 hr
  obtain ⟨j,_,rfl⟩:=List.mem_map.1 hx
  exact hv i j
theorem ivs_pushR {T n n' k:Nat} {F:Nat → Iv} {y:Iv} (hn:n=k) (hn':n'=k+1) (hy:y=F k) :
  Bx.le (.row true T (n + [y].length) 7 fun i j=>if i < n then ivsE ((List.range k).map F) i j else (E.elf (ivsP [y])) (i - n) j) (.row true T n' 7 (ivsE ((List.range (k+1)).map F))):=by
 subst hn hn' hy
 refine .row rfl fun i j hi hj=>⟨.of_eq ?_,ivL_nr _ _ hj⟩
 have hi:i < n+1:=hi
 by_cases h:i < n
 ·rw [if_pos h]
  simp only [ivsE]
  rw [range_getD h,range_getD hi]
 ·have hi':i=n:=by omega
  subst hi'
  rw [if_neg h,Nat.sub_self]
  simp only [ivsE]
  rw [range_getD hi]
  rfl
theorem rows_getD {n i:Nat} {R:Nat → List Iv} (h:i < n):((List.range n).map R).getD i []=R i:=by simp [List.getD_eq_getElem?_getD,h]
theorem mat_pushR {T n n' k m:Nat} {R:Nat → List Iv} {p:E} (hn:n=k) (hn':n'=k+1) (hm:m=1) (hp:∀ j,j < 1 → p.elf 0 j=ivsP (R k)) :
  Bx.le (.row true T (n+m) 1 fun i j=>if i < n then matE ((List.range k).map R) i j else (E.elf p) (i - n) j) (.row true T n' 1 (matE ((List.range (k+1)).map R))):=by
 subst hn hn' hm
 refine .row rfl fun i j hi hj=>⟨.of_eq ?_,ivsP_nr _⟩
 by_cases h:i < n
 ·rw [if_pos h]
  simp only [matE]
  rw [rows_getD h,rows_getD hi]
 ·have hi':i=n:=by omega
  subst hi'
  rw [if_neg h,Nat.sub_self,hp j hj]
  simp only [matE]
  rw [rows_getD hi]
theorem matRow_le {n:Nat} {M:List (List Iv)} (hn:n=M.length):E.le (.sl true n 1 (matE M)) (matP M):=by subst hn; exact .refl _
theorem ivsRow_le {n:Nat} {M:List Iv} (hn:n=M.length):E.le (.sl true n 7 (ivsE M)) (ivsP M):=by subst hn; exact .refl _
open Go.RowKit Fp Pu
abbrev vda0 (a:List (List Iv)) (b:List (List Iv)) (p):=fun i j=>dotP (fun q=>(a.getD i []).getD q wholeI) (fun q=>(b.getD q []).getD j wholeI) p ((a.getD i []).length - 1)
abbrev vda1 (a:List (List Iv)) (x) (b:List (List Iv)) (k) (p):=dotP (fun q=>(a.getD x []).getD q wholeI) (fun q=>(b.getD q []).getD k wholeI) p ((a.getD x []).length - 1)
def dotFam (r:List Iv) (g:FuncId) (cap:List E) (Y:Nat → Iv) (p:Nat) (c:Nat):PS:=⟨35,true,[(8,.e (iP (((c+1):Nat):Int))),(7,.box 7 0),(6,.box 6 0),(0,.e (ivsP r)),(1,.e (.fn g cap)),(2,.e (iP p))],[(7,.cells 28 (ivL (dotP (fun q=>r.getD q wholeI) Y p c))),(6,.cells 28 [(bP false),(.v (.slice none 0 0)),(iP 0),(bP false),(.v (.slice none 0 0)),(iP 0),(bP false)])]⟩
def mulMFam (a b:List (List Iv)) (p:Nat) (x:Nat):PS:=⟨66,true,[(37,.e (iP x)),(36,.e (iP a.length)),(8,.own 34),(4,.box 4 0),(0,.e (matP a)),(2,.e (iP p))],[(34,.rows true 31 28 a.length 7 (lnE (buildM a.length (fun _=>(b.getD 0 []).length) (vda0 a b p) x 0)) (rowsE (buildM a.length (fun _=>(b.getD 0 []).length) (vda0 a b p) x 0)) .none),(4,.cells 32 [(matP b)])]⟩
def mulMFamIn (a b:List (List Iv)) (p:Nat) (x:Nat) (k:Nat):PS:=⟨66,true,[(44,.e (iP k)),(43,.e (iP (((b.getD 0 []).length:Nat):Int))),(9,.e (iP x)),(37,.e (iP x)),(36,.e (iP a.length)),(8,.own 34),(4,.box 4 0),(0,.e (matP a)),(2,.e (iP p))],[(34,.rows true 31 28 a.length 7 (lnE (buildM a.length (fun _=>(b.getD 0 []).length) (vda0 a b p) x k)) (rowsE (buildM a.length (fun _=>(b.getD 0 []).length) (vda0 a b p) x k)) .none),(4,.cells 32 [(matP b)])]⟩
theorem dot_pc (r:List Iv) (g:FuncId) (cap:List E) (Y:Nat → Iv) (p:Nat) (hl:r.length ≤ 1000) (h0:0 < r.length) (hr:∀ i,i < r.length → (r.getD i wholeI).Valid) (hy:∀ i,(Y i).Valid) (hg:∀ i,i < r.length → PCt g (iP (i:Int) :: cap) (ivP (Y i))) (hp1:8 ≤ p) (hp2:p ≤ 512):PCt 122 [(ivsP r),(.fn g cap),(iP p)] (ivP (dotP (fun q=>r.getD q wholeI) Y p (r.length - 1))):=by
 have w1:=hr 0 h0
 have w2:=hy 0
 exact tr true Tryz.call122 Tryz.func122 (chain [iX (0) (r.length) (by omega),.c (hg 0 (by omega):PCt g ((iP 0) :: cap) _),.c (ivMul_pc (r.getD 0 wholeI) (Y 0) p ‹_› ‹_› (by omega) (by omega)),
  .s (Sp.upto (dotFam r g cap Y p) 0 (r.length - 1) (by omega) (fun c hc hltc=>by
    have w1:=hr (c+1) (by omega)
    have w2:=hy (c+1)
    have w3:=dotP_valid (fun q=>r.getD q wholeI) Y (show 1 ≤ p by omega) (by omega) c
    have w4:=mulI_valid (r.getD (c+1) wholeI) (Y (c+1)) (show 1 ≤ p by omega) (by omega)
    exact spt (chain [tT 19 ((((c+1):Nat):Int) < (r.length:Int)) (by omega),iX ((((c+1):Nat):Int)) (r.length) (by omega),.c (hg (c+1) (by omega):PCt g ((iP (((c+1):Nat):Int)) :: cap) _),
     .c (ivMul_pc (r.getD (c+1) wholeI) (Y (c+1)) p ‹_› ‹_› (by omega) (by omega)),
     .c (ivAdd_pc (dotP (fun q=>r.getD q wholeI) Y p c) (mulI (r.getD (c+1) wholeI) (Y (c+1)) p) p ‹_› ‹_› (by omega) (by omega)),r64 ((((c+1):Nat):Int)+1) (by omega)] <| .e (chain [.b 7 (.of_eq rfl:Bx.le (.cells 28 (ivL (addI (dotP (fun q=>r.getD q wholeI) Y p c) (mulI (r.getD (c+1) wholeI) (Y (c+1)) p) p))) (.cells 28 (ivL (dotP (fun q=>r.getD q wholeI) Y p (c+1)))))] <| .nil)) (by kernel_rfl))
  (fun hc=>by
    exact spt (chain [tF 19 (((((r.length - 1)+1):Nat):Int) < (r.length:Int)) (by omega)] <| .nil) (by kernel_rfl)) (by nofun):LpT 3 Tryz.f122 (dotFam r g cap Y p 0) (.exit 0) ⟨35,true,[(7,.box 7 0),(6,.box 6 0)],[(7,.cells 28 (ivL (dotP (fun q=>r.getD q wholeI) Y p (r.length - 1)))),(6,.cells 28 [(bP false),(.v (.slice none 0 0)),(iP 0),(bP false),(.v (.slice none 0 0)),(iP 0),(bP false)])]⟩) (chain [.o 8 (.int (by first | rfl | omega | (simp only [Nat.add_mul,Nat.one_mul]; omega)):PV.le (.e (iP 1)) (.e (iP (((0+1):Nat):Int)))),
  .b 7 (.of_eq rfl:Bx.le (.cells 28 (ivL (mulI (r.getD 0 wholeI) (Y 0) p))) (.cells 28 (ivL (dotP (fun q=>r.getD q wholeI) Y p 0))))] <| .nil)] <| .nil) (by kernel_rfl)
theorem mul1_pc (q j:Nat) (b:List (List Iv)) (hq:q < b.length) (hj:j < (b.getD q []).length):PCt 123 [(iP q),(.ref 1 fun j_=>[(matP b)].getD j_ .any),(.ref 1 fun j_=>[(iP j)].getD j_ .any)] (ivP ((b.getD q []).getD j wholeI)):=by
 exact tr true Tryz.call123 Tryz.func123 (chain [iX ((q:Int)) (b.length) (by omega),iX ((j:Int)) ((b.getD q []).length) (by omega)] <| .nil) (by kernel_rfl)
theorem elV {b:List (List Iv)} {k c:Nat} (gb:MOk b k c) (q j:Nat):((b.getD q []).getD j wholeI).Valid:=by
 by_cases hq:q < k
 ·by_cases hj:j < c
  ·exact gb.val_at hq hj
  ·rw [List.getD_eq_getElem?_getD,List.getElem?_eq_none (by rw [gb.len_at hq]; omega)]; exact wholeI_valid
 ·rw [List.getD_eq_getElem?_getD (l:=b),List.getElem?_eq_none (by rw [gb.rows]; omega)]; exact wholeI_valid
theorem matMul_pc (a b:List (List Iv)) (p:Nat) (n k c:Nat) (ga:MOk a n k) (gb:MOk b k c) (hp1:8 ≤ p) (hp2:p ≤ 512):PCt 43 [(matP a),(matP b),(iP p)] (.tup [matP (mulM a b p),iP 0]):=by
 have ra:=ga.rows
 have rb:=gb.rows
 have n1:=ga.n1
 have n8:=ga.n8
 have kk1:=ga.k1
 have kk8:=ga.k8
 have cc8:=gb.k8
 have la:=ga.len_at (show 0 < n by omega)
 have lb:=gb.len_at (show 0 < k by omega)
 have ew:wholeM a.length (fun _=>(b.getD 0 []).length) (fun i j=>dotP (fun q=>(a.getD i []).getD q wholeI) (fun q=>(b.getD q []).getD j wholeI) p ((a.getD i []).length - 1))=mulM a b p:=by
  rw [← wholeM_mulM (n:=n) (k:=k - 1) (c:=c) (a:=a) (b:=b) (p:=p) ra (fun i hi=>by rw [ga.len_at hi]; omega) (by omega) lb,ra,lb]
  unfold wholeM
  apply List.map_congr_left
  intro i hi
  have e:=ga.len_at (List.mem_range.1 hi)
  simp only [e]
 exact tr true Tryz.call43 Tryz.func43 (chain [.c (matValid_pc _ _ _ ‹_›:PCt 103 [(matP a)] _),.c (matValid_pc _ _ _ ‹_›:PCt 103 [(matP b)] _),.c (mxPrecise_pc _:PCt 121 [(iP p)] _),
  tB 22 (precB_true.2 ⟨by omega,by omega⟩:(precB (p:Int))=true),iX (0) (a.length) (by omega),tB 31 (natNe_false (by omega):((((a.getD 0 []).length:Nat):Int) != (b.length:Int))=false),
  .a (by omega:0 ≤ ((a.length:Int):Int) ∧ ((a.length:Int):Int) ≤ ((a.length:Int):Int)),
  .a (by omega:((24:Nat):Int) * (a.length:Int) ≤ 281474976710656 ∧ ((a.length:Int):Int) ≤ 9223372036854775807),
  .s (Sp.upto (mulMFam a b p) 0 a.length (by omega) (fun x hx hltx=>by
    have lax:=ga.len_at (show x < n by omega)
    exact spt (chain [tT 38 ((x:Int) < (a.length:Int)) (by omega),iX (0) (b.length) (by omega),
     .s (Sp.upto (mulMFamIn a b p x) 0 ((b.getD 0 []).length) (by omega) (fun k hk hltk=>by
    have hle:lnE (buildM a.length (fun _=>(b.getD 0 []).length) (fun i j=>dotP (fun q=>(a.getD i []).getD q wholeI) (fun q=>(b.getD q []).getD j wholeI) p ((a.getD i []).length - 1)) x k) x=k:=lnE_at (by omega)
    have h1:=one_len (dotP (fun q=>(a.getD x []).getD q wholeI) (fun q=>(b.getD q []).getD k wholeI) p ((a.getD x []).length - 1))
    exact spt (chain [tT 45 ((k:Int) < (((b.getD 0 []).length:Nat):Int)) (by omega),iX ((x:Int)) (a.length) (by omega),.a (by omega:x < a.length),iX ((x:Int)) (a.length) (by omega),
     .c (dot_pc (a.getD x []) 123 [(.ref 1 fun j_=>[(matP b)].getD j_ .any),(.ref 1 fun j_=>[(iP k)].getD j_ .any)] (fun q=>(b.getD q []).getD k wholeI) p (by omega) (by omega) (fun q hq=>ga.val_at (by omega) (by rw [lax] at hq; exact hq)) (fun q=>elV gb q k) (fun q hq=>mul1_pc q k b (by omega) (by rw [gb.len_at (by omega)]; omega)) (by omega) (by omega)),
     .o 60 (.e (ivs1_le _):PV.le (.e (.sl true 1 7 fun i_ j_=>(ivL (vda1 a x b k p)).getD (i_ * 7+j_) (.v (.bool false)))) (.e (ivsP [(vda1 a x b k p)]))),
     .a (by omega:x < a.length),
     .a (by omega:((lnE (buildM a.length (fun _=>(b.getD 0 []).length) (fun i j=>dotP (fun q=>(a.getD i []).getD q wholeI) (fun q=>(b.getD q []).getD j wholeI) p ((a.getD i []).length - 1)) x k)) x + [(dotP (fun q=>(a.getD x []).getD q wholeI) (fun q=>(b.getD q []).getD k wholeI) p ((a.getD x []).length - 1))].length) * 88 ≤ 140737488355328),
     iX ((x:Int)) (a.length) (by omega),.a (rfl:x=x),.a (rfl:x=x),.a (by omega:x < a.length),r64 ((k:Int)+1) (by omega)] <| .e (chain [.b 34 (rows_push rfl (by omega) (by omega) rfl:Bx.le (.rows true 31 28 a.length 7 (fun q=>if q=x then (lnE (buildM a.length (fun _=>(b.getD 0 []).length) (vda0 a b p) x k)) q + [(vda1 a x b k p)].length else (lnE (buildM a.length (fun _=>(b.getD 0 []).length) (vda0 a b p) x k)) q) (fun q i j=>if q=x then (if i < (lnE (buildM a.length (fun _=>(b.getD 0 []).length) (vda0 a b p) x k)) q then (rowsE (buildM a.length (fun _=>(b.getD 0 []).length) (vda0 a b p) x k)) q i j else (E.elf (ivsP [(vda1 a x b k p)])) (i - (lnE (buildM a.length (fun _=>(b.getD 0 []).length) (vda0 a b p) x k)) q) j) else (rowsE (buildM a.length (fun _=>(b.getD 0 []).length) (vda0 a b p) x k)) q i j) .none) (.rows true 31 28 a.length 7 (lnE (buildM a.length (fun _=>(b.getD 0 []).length) (vda0 a b p) x (k+1))) (rowsE (buildM a.length (fun _=>(b.getD 0 []).length) (vda0 a b p) x (k+1))) .none))] <| .nil)) (by kernel_rfl))
  (fun hk=>by
    exact spt (chain [tF 45 ((((b.getD 0 []).length:Nat):Int) < (((b.getD 0 []).length:Nat):Int)) (by omega)] <| .nil) (by kernel_rfl)) (by nofun):LpT 12 Tryz.f43 (mulMFamIn a b p x 0) (.exit 3) ⟨66,true,[(37,.e (iP x)),(36,.e (iP a.length)),(8,.own 34),(4,.box 4 0),(0,.e (matP a)),(2,.e (iP p))],[(34,.rows true 31 28 a.length 7 (lnE (buildM a.length (fun _=>(b.getD 0 []).length) (vda0 a b p) x ((b.getD 0 []).length))) (rowsE (buildM a.length (fun _=>(b.getD 0 []).length) (vda0 a b p) x ((b.getD 0 []).length))) .none),(4,.cells 32 [(matP b)])]⟩) .nil,
     r64 ((x:Int)+1) (by omega)] <| .e (chain [.b 34 (rows_next rfl:Bx.le (.rows true 31 28 a.length 7 (lnE (buildM a.length (fun _=>(b.getD 0 []).length) (vda0 a b p) x ((b.getD 0 []).length))) (rowsE (buildM a.length (fun _=>(b.getD 0 []).length) (vda0 a b p) x ((b.getD 0 []).length))) .none) (.rows true 31 28 a.length 7 (lnE (buildM a.length (fun _=>(b.getD 0 []).length) (vda0 a b p) (x+1) 0)) (rowsE (buildM a.length (fun _=>(b.getD 0 []).length) (vda0 a b p) (x+1) 0)) .none))] <| .nil)) (by kernel_rfl))
  (fun hx=>by
    exact spt (chain [tF 38 ((a.length:Int) < (a.length:Int)) (by omega)] <| .nil) (by kernel_rfl)) (by nofun):LpT 9 Tryz.f43 (mulMFam a b p 0) (.exit 1) ⟨66,true,[(8,.own 34)],[(34,.rows true 31 28 a.length 7 (lnE (buildM a.length (fun _=>(b.getD 0 []).length) (vda0 a b p) a.length 0)) (rowsE (buildM a.length (fun _=>(b.getD 0 []).length) (vda0 a b p) a.length 0)) .none)]⟩) (chain [.b 34 (rows_init rfl:Bx.le (.rows true 31 28 a.length 7 (fun _=>0) (fun _ _ _=>.any) .none) (.rows true 31 28 a.length 7 (lnE (buildM a.length (fun _=>(b.getD 0 []).length) (vda0 a b p) 0 0)) (rowsE (buildM a.length (fun _=>(b.getD 0 []).length) (vda0 a b p) 0 0)) .none))] <| .nil)] <| rR (.tup [matP (mulM a b p),iP 0]) (by
      rw [← ew,← buildM_done]; exact .tup (.cons (matRows_le (buildM_len _ _ _ _ _).symm) (.cons (.refl _) .nil)):E.le (.tup [(.sl true a.length 1 fun k_ _=>.sl true ((lnE (buildM a.length (fun _=>(b.getD 0 []).length) (fun i j=>dotP (fun q=>(a.getD i []).getD q wholeI) (fun q=>(b.getD q []).getD j wholeI) p ((a.getD i []).length - 1)) a.length 0)) k_) 7 ((rowsE (buildM a.length (fun _=>(b.getD 0 []).length) (fun i j=>dotP (fun q=>(a.getD i []).getD q wholeI) (fun q=>(b.getD q []).getD j wholeI) p ((a.getD i []).length - 1)) a.length 0)) k_)),(iP 0)]) (.tup [matP (mulM a b p),iP 0]))) (by kernel_rfl)
theorem scale1_pc (i j:Nat) (x y:Iv) (p:Nat) (hx:x.Valid) (hy:y.Valid) (hp1:8 ≤ p) (hp2:p ≤ 512):PCt 125 [(iP i),(iP j),(ivP y),(.ref 7 fun j_=>[(bP x.lo.neg),(slP (limbs x.lo.m)),(iP x.lo.e),(bP x.hi.neg),(slP (limbs x.hi.m)),(iP x.hi.e),(bP x.all)].getD j_ .any),(.ref 1 fun j_=>[(iP p)].getD j_ .any)] (ivP (mulI x y p)):=by
 exact tr true Tryz.call125 Tryz.func125 (chain [.c (ivMul_pc x y p ‹_› ‹_› (by omega) (by omega))] <| .nil) (by kernel_rfl)
theorem matScale_pc (a:List (List Iv)) (x:Iv) (n k p:Nat) (ga:MOk a n k) (hx:x.Valid) (hp1:8 ≤ p) (hp2:p ≤ 512):PCt 44 [(matP a),(ivP x),(iP p)] (matP (scaleM a x p)):=by
 have ra:=ga.rows
 have n8:=ga.n8
 exact tr true Tryz.call44 Tryz.func44 (chain [.c (matValid_pc _ _ _ ‹_›:PCt 103 [(matP a)] _),.c (ivValid_pc x ‹_›),.c (mxPrecise_pc _:PCt 121 [(iP p)] _),tB 17 (precB_true.2 ⟨by omega,by omega⟩:(precB (p:Int))=true),
  .c (matEach_pc a 125 [(.ref 7 fun j_=>[(bP x.lo.neg),(slP (limbs x.lo.m)),(iP x.lo.e),(bP x.hi.neg),(slP (limbs x.hi.m)),(iP x.hi.e),(bP x.all)].getD j_ .any),(.ref 1 fun j_=>[(iP p)].getD j_ .any)] (fun i j=>mulI x ((a.getD i []).getD j wholeI) p) (by omega) (fun i=>Nat.le_trans (ga.len_le i) (by decide)) (fun i j hi hj=>scale1_pc _ _ _ _ _ hx (ga.val_at (by omega) (by rw [ga.len_at (by omega)] at hj; exact hj)) hp1 hp2))] <| rQ (matP (wholeM a.length (fun q=>(a.getD q []).length) (fun i j=>mulI x ((a.getD i []).getD j wholeI) p))) (matP (scaleM a x p)) (by rw [wholeM_scaleM])) (by kernel_rfl)
open Go.RowKit Fp Pu
theorem dyCanonL_pc (s:Bool) (L:List Nat) (e:Int) (hk:Ok32 L) (hl:L.length ≤ 256) (he1:-1000000 ≤ e) (he2:e ≤ 1000000):PCt 174 [bP s,slP L,iP e] (dyP (canon s (val L) e)):=by
 refine ⟨Tryz.call174,fun w B vs hK hB hr=>?_⟩
 obtain ⟨v1,vs,rfl,h1,hr⟩:=hr.uncons
 obtain ⟨v2,vs,rfl,h2,hr⟩:=hr.uncons
 obtain ⟨v3,vs,rfl,h3,hr⟩:=hr.uncons
 obtain rfl:=hr.nil_inv
 obtain rfl:=Rep.v_inv h1
 obtain rfl:=Rep.v_inv h3
 obtain ⟨A,c,rfl,s1⟩:=slP_inv hk h2
 exact (dyCanon_any s A c L e w s1 (by omega) (by have:=tlen_le L; unfold tlen at this; omega) he1 he2 hK).mono fun e w' h=>rd B w e w' hB h
theorem two_le (x y:Nat):E.le (.sl false 2 1 fun i j=>[E.v (.int .u32 ((x:Nat):Int)),.v (.int .u32 ((y:Nat):Int))].getD (i * 1+j) (.v (.bool false))) (slP [x,y]):=.sl fun i j hi hj=>by
 obtain rfl:j=0:=by omega
 obtain rfl | rfl:i=0 ∨ i=1:=by omega
 ·exact ⟨.refl _,rfl⟩
 ·exact ⟨.refl _,rfl⟩
theorem intD_nat (n:Nat):intD ((n:Nat):Int)=canon false n 0:=by
 unfold intD canonZ
 rw [decide_eq_false (by omega),Int.natAbs_natCast]
theorem intD_valid (n:Nat) (h:n < 4294967296):(intD ((n:Nat):Int)).Valid:=by
 rw [intD_nat]
 refine ⟨canon_canon _ _ _,?_⟩
 by_cases h0:n=0
 ·subst h0; exact .inl rfl
 ·have:=canon_bits (s:=false) (e:=0) h0
  have hb:bitsN n ≤ 32:=bitsN_le_iff.2 h
  refine .inr ⟨by omega,by omega,?_,by omega⟩
  obtain ⟨h1,h2,h3,h4⟩:=this
  have:=bitsN_pos h3
  omega
theorem val_two (x y:Nat):val [x,y]=x+4294967296 * y:=by simp [val]
open Go.RowKit Fp Pu
def Fp.nsum (r:List Iv) (p:Nat):Nat → Dy
 | 0=>zeroD
 | k+1=>rndD (sumD (nsum r p k) (magI (r.getD k wholeI))) p true
structure Fp.NGood (r:List Iv) (p k:Nat):Prop where
 all:(r.getD k wholeI).all=false
 err:rndE (sumD (nsum r p k) (magI (r.getD k wholeI))) p true=0
def Fp.nmost (m:List (List Iv)) (p:Nat):Nat → Dy
 | 0=>zeroD
 | x+1=>if 0 < cmpD (nsum (m.getD x []) p (m.getD x []).length) (nmost m p x) then nsum (m.getD x []) p (m.getD x []).length else nmost m p x
theorem nsum_valid (r:List Iv) {p:Nat} (hp:1 ≤ p) (hp2:p ≤ 4096):∀ k,(nsum r p k).Valid
 | 0=>zeroD_valid
 | k+1=>cut_valid _ _ _ _ _ _ hp hp2
theorem nmost_valid (m:List (List Iv)) {p:Nat} (hp:1 ≤ p) (hp2:p ≤ 4096):∀ x,(nmost m p x).Valid
 | 0=>zeroD_valid
 | x+1=>by
  unfold nmost; split
  ·exact nsum_valid _ hp hp2 _
  ·exact nmost_valid m hp hp2 x
theorem foldl_none (p:Nat) (l:List Iv):l.foldl (fun s x=>s.bind fun s=>if x.all then none else if rndE (sumD s (magI x)) p true ≠ 0 then none else some (rndD (sumD s (magI x)) p true)) none=none:=by
 induction l with
 | nil=>rfl
 | cons x l ih=>rw [List.foldl_cons]; exact ih
theorem rowNorm_step (p:Nat) (r:List Iv):∀ (l:List Iv) (k:Nat),(∀ i,i < l.length → l.getD i wholeI=r.getD (k+i) wholeI) →
  ((∀ i,k ≤ i → i < k+l.length → NGood r p i) → l.foldl (fun s x=>s.bind fun s=>if x.all then none else if rndE (sumD s (magI x)) p true ≠ 0 then none else some (rndD (sumD s (magI x)) p true)) (some (nsum r p k))=some (nsum r p (k+l.length))) ∧
  (∀ i,k ≤ i → i < k+l.length → ¬ NGood r p i → l.foldl (fun s x=>s.bind fun s=>if x.all then none else if rndE (sumD s (magI x)) p true ≠ 0 then none else some (rndD (sumD s (magI x)) p true)) (some (nsum r p k))=none)
 | [],k,_=>⟨fun _=>rfl,fun i h1 h2=>by simp at h2; omega⟩
 | x :: l,k,h=>by
  have e:x=r.getD k wholeI:=h 0 (by simp)
  have ih:=rowNorm_step p r l (k+1) (fun i hi=>by have:=h (i+1) (by simp; omega); rw [show k+1+i=k+(i+1) by omega,← this]; rfl)
  rw [List.foldl_cons]
  have hs:∀ (g:NGood r p k),((some (nsum r p k)).bind fun s=>if x.all then none else if rndE (sumD s (magI x)) p true ≠ 0 then none else some (rndD (sumD s (magI x)) p true))=some (nsum r p (k+1)):=by
   intro g
   have h1:=g.all
   have h2:=g.err
   rw [← e] at h1 h2
   simp only [Option.bind_some,h1,Bool.false_eq_true,if_false,h2,ne_eq,not_true_eq_false]
   rw [e]; rfl
  have hf:¬ NGood r p k → ((some (nsum r p k)).bind fun s=>if x.all then none else if rndE (sumD s (magI x)) p true ≠ 0 then none else some (rndD (sumD s (magI x)) p true))=none:=by
   intro g
   simp only [Option.bind_some]
   by_cases h1:x.all=true
   ·rw [if_pos h1]
   ·rw [if_neg h1]
    by_cases h2:rndE (sumD (nsum r p k) (magI x)) p true=0
    ·exact absurd ⟨by rw [← e]; simpa using h1,by rw [← e]; exact h2⟩ g
    ·rw [if_pos h2]
  refine ⟨fun hg=>?_,fun i h1 h2 hb=>?_⟩
  ·rw [hs (hg k (by omega) (by simp)),ih.1 (fun i h1 h2=>hg i (by omega) (by simp; omega))]
   congr 2
   simp; omega
  ·by_cases g:NGood r p k
   ·rw [hs g]
    refine ih.2 i ?_ (by simp at h2; omega) hb
    by_cases hik:i=k
    ·subst hik; exact absurd g hb
    ·omega
   ·rw [hf g,foldl_none]
theorem rowNorm_some {r:List Iv} {p:Nat} (h:∀ i,i < r.length → NGood r p i):rowNorm r p=some (nsum r p r.length):=by
 have:=(rowNorm_step p r r 0 (fun i _=>by rw [Nat.zero_add])).1 (fun i _ hi=>h i (by omega))
 rwa [Nat.zero_add] at this
theorem rowNorm_none {r:List Iv} {p i:Nat} (hi:i < r.length) (h:¬ NGood r p i):rowNorm r p=none :=
 (rowNorm_step p r r 0 (fun i _=>by rw [Nat.zero_add])).2 i (by omega) (by omega) h
theorem normM_step (p:Nat) (m:List (List Iv)):∀ (l:List (List Iv)) (x:Nat),(∀ i,i < l.length → l.getD i []=m.getD (x+i) []) →
  ((∀ i,x ≤ i → i < x+l.length → ∀ k,k < (m.getD i []).length → NGood (m.getD i []) p k) → l.foldl (fun s r=>s.bind fun s=>(rowNorm r p).map fun n=>if 0 < cmpD n s then n else s) (some (nmost m p x))=some (nmost m p (x+l.length))) ∧
  (∀ i,x ≤ i → i < x+l.length → ∀ k,k < (m.getD i []).length → ¬ NGood (m.getD i []) p k → l.foldl (fun s r=>s.bind fun s=>(rowNorm r p).map fun n=>if 0 < cmpD n s then n else s) (some (nmost m p x))=none)
 | [],x,_=>⟨fun _=>rfl,fun i h1 h2=>by simp at h2; omega⟩
 | r :: l,x,h=>by
  have e:r=m.getD x []:=h 0 (by simp)
  have ih:=normM_step p m l (x+1) (fun i hi=>by have:=h (i+1) (by simp; omega); rw [show x+1+i=x+(i+1) by omega,← this]; rfl)
  have hn:∀ (l:List (List Iv)),l.foldl (fun s r=>s.bind fun s=>(rowNorm r p).map fun n=>if 0 < cmpD n s then n else s) none=none:=by
   intro l; induction l with
   | nil=>rfl
   | cons y l ih=>rw [List.foldl_cons]; exact ih
  rw [List.foldl_cons]
  refine ⟨fun hg=>?_,fun i h1 h2 k hk hb=>?_⟩
  ·rw [e,Option.bind_some,rowNorm_some (hg x (by omega) (by simp)),Option.map_some]
   have:=ih.1 (fun i h1 h2=>hg i (by omega) (by simp; omega))
   rw [show x+(m.getD x [] :: l).length=x+1+l.length by simp only [List.length_cons]; omega]
   exact this
  ·by_cases g:∀ k,k < (m.getD x []).length → NGood (m.getD x []) p k
   ·rw [e,Option.bind_some,rowNorm_some g,Option.map_some]
    refine ih.2 i ?_ (by simp at h2; omega) k hk hb
    by_cases hix:i=x
    ·subst hix; exact absurd (g k hk) hb
    ·omega
   ·have ⟨k',hk',hb'⟩:∃ k',k' < (m.getD x []).length ∧ ¬ NGood (m.getD x []) p k':=by
     apply Classical.byContradiction
     intro hc
     exact g fun k hk=>Classical.byContradiction fun q=>hc ⟨k,hk,q⟩
    rw [e,Option.bind_some,rowNorm_none hk' hb',Option.map_none,hn]
theorem normM_some {m:List (List Iv)} {p:Nat} (h:∀ i,i < m.length → ∀ k,k < (m.getD i []).length → NGood (m.getD i []) p k):normM m p=some (nmost m p m.length):=by
 have:=(normM_step p m m 0 (fun i _=>by rw [Nat.zero_add])).1 (fun i _ hi=>h i (by omega))
 rwa [Nat.zero_add] at this
theorem normM_none {m:List (List Iv)} {p i k:Nat} (hi:i < m.length) (hk:k < (m.getD i []).length) (h:¬ NGood (m.getD i []) p k):normM m p=none :=
 (normM_step p m m 0 (fun i _=>by rw [Nat.zero_add])).2 i (by omega) (by omega) k hk h
theorem zero_cells:Les [bP false,.v (.slice none 0 0),iP 0] [bP zeroD.neg,slP (limbs zeroD.m),iP zeroD.e]:=.cons (.refl _) (.cons nilLimb_le (.cons (.refl _) .nil))
open Go.RowKit Fp Pu
structure Fp.Iv.NN (x:Iv):Prop where
 lo:x.lo.neg=false
 hi:x.hi.neg=false
theorem canon_nn (m:Nat) (e:Int):(canon false m e).neg=false:=by unfold canon; split <;> rfl
theorem cutD_nn (m:Nat) (e:Int) (more:Bool) (p:Nat) (up:Bool):(cutD false m e more p up).neg=false:=by
 unfold cutD
 split
 ·split
  ·rfl
  ·exact canon_nn _ _
 ·exact canon_nn _ _
theorem rndD_nn {d:Dy} (h:d.neg=false) (p:Nat) (up:Bool):(rndD d p up).neg=false:=by unfold rndD; rw [h]; exact cutD_nn _ _ _ _ _
theorem prodD_nn {a b:Dy} (ha:a.neg=false) (hb:b.neg=false):(prodD a b).neg=false:=by unfold prodD; rw [ha,hb]; exact canon_nn _ _
theorem divD_nn {a b:Dy} (ha:a.neg=false) (hb:b.neg=false) (p:Nat) (up:Bool):(divD a b p up).neg=false:=by
 unfold divD; rw [ha,hb]; split
 ·rfl
 ·exact cutD_nn _ _ _ _ _
theorem minD_nn {a b:Dy} (ha:a.neg=false) (hb:b.neg=false):(minD a b).neg=false:=by unfold minD; split <;> assumption
theorem maxD_nn {a b:Dy} (ha:a.neg=false) (hb:b.neg=false):(maxD a b).neg=false:=by unfold maxD; split <;> assumption
theorem num_nn {a:Dy} (ha:a.neg=false) (k:Int):0 ≤ a.num k:=by unfold Dy.num; rw [ha]; simp
theorem sumD_nn {a b:Dy} (ha:a.neg=false) (hb:b.neg=false):(sumD a b).neg=false:=by
 unfold sumD
 split
 ·exact hb
 ·split
  ·exact ha
  ·unfold canonZ
   have h1:=num_nn ha (min a.e b.e)
   have h2:=num_nn hb (min a.e b.e)
   rw [decide_eq_false (by omega)]
   exact canon_nn _ _
theorem whole_nn:wholeI.NN:=⟨rfl,rfl⟩
theorem fourI_nn {DD:Dy → Dy → Bool → Dy} {EE:Dy → Dy → Bool → Int} {x y:Iv} (hx:x.NN) (hy:y.NN) (h:∀ a b up,a.neg=false → b.neg=false → (DD a b up).neg=false):(fourI DD EE x y).NN:=by
 unfold fourI
 split
 ·exact ⟨minD_nn (minD_nn (minD_nn (h _ _ _ hx.lo hy.lo) (h _ _ _ hx.lo hy.hi)) (h _ _ _ hx.hi hy.lo)) (h _ _ _ hx.hi hy.hi),
   maxD_nn (maxD_nn (maxD_nn (h _ _ _ hx.lo hy.lo) (h _ _ _ hx.lo hy.hi)) (h _ _ _ hx.hi hy.lo)) (h _ _ _ hx.hi hy.hi)⟩
 ·exact whole_nn
theorem mulI_nn {x y:Iv} (hx:x.NN) (hy:y.NN) (p:Nat):(mulI x y p).NN:=by
 unfold mulI; split
 ·exact whole_nn
 ·exact fourI_nn hx hy fun a b up ha hb=>rndD_nn (prodD_nn ha hb) p up
theorem divI_nn {x y:Iv} (hx:x.NN) (hy:y.NN) (p:Nat):(divI x y p).NN:=by
 unfold divI; split
 ·exact whole_nn
 ·exact fourI_nn hx hy fun a b up ha hb=>divD_nn ha hb p up
theorem absI_nn (x:Iv):(absI x).NN:=by
 unfold absI; split
 ·exact whole_nn
 ·refine ⟨?_,maxD_nn rfl rfl⟩
  show (migI x).neg=false
  unfold migI; split
  ·rfl
  ·exact minD_nn rfl rfl
theorem pointI_nn {d:Dy} (h:d.neg=false):(pointI d).NN:=⟨h,h⟩
theorem numI_nn (n:Nat):(numI ((n:Nat):Int)).NN:=by
 refine pointI_nn ?_
 rw [intD_nat]; exact canon_nn _ _
theorem powI_nn {u:Iv} (hu:u.NN) (p:Nat):∀ j,(powI u p j).NN
 | 0=>numI_nn 1
 | j+1=>mulI_nn (powI_nn hu p j) (divI_nn hu (numI_nn (j+1)) p) p
theorem nsum_nn (r:List Iv) (p:Nat):∀ k,(nsum r p k).neg=false
 | 0=>rfl
 | k+1=>rndD_nn (sumD_nn (nsum_nn r p k) (maxD_nn rfl rfl)) p true
theorem nmost_nn (m:List (List Iv)) (p:Nat):∀ x,(nmost m p x).neg=false
 | 0=>rfl
 | x+1=>by
  unfold nmost; split
  ·exact nsum_nn _ _ _
  ·exact nmost_nn m p x
theorem num_lt {a b:Dy} (ha:a.neg=false) (hb:b.neg=false) (hlt:cmpD a b < 0) {k:Int} (h1:k ≤ a.e) (h2:k ≤ b.e):a.m * 2 ^ (a.e - k).toNat < b.m * 2 ^ (b.e - k).toNat:=by
 rw [cmpD_at (k:=k) (.inr h1) (.inr h2)] at hlt
 have h:a.num k < b.num k:=by
  unfold cmpI at hlt
  split at hlt
  ·assumption
  ·split at hlt <;> omega
 unfold Dy.num Dy.mag at h
 rw [ha,hb] at h
 simp only [Bool.false_eq_true,if_false] at h
 exact Int.ofNat_lt.1 h
theorem divD_le_one {a b:Dy} (ha:a.neg=false) (hb:b.neg=false) (b0:b.m ≠ 0) (hlt:cmpD a b < 0) (p:Nat):cmpD (divD a b p false) (canon false 1 0) ≤ 0:=by
 unfold divD
 by_cases a0:a.m=0
 ·rw [if_pos a0]
  have:zeroD=canon false 0 0:=rfl
  rw [this]
  exact (canon_le_mag (s:=false) (K:=0) (Int.le_refl _) (Int.le_refl _) (by simp)).1 rfl
 rw [if_neg a0,ha,hb]
 generalize hK:divK a b p 2=K
 generalize hq:a.m * 2 ^ K / b.m=q
 generalize hE:a.e - b.e - (K:Int)=E
 have hqb:q * b.m ≤ a.m * 2 ^ K:=by rw [← hq]; exact Nat.div_mul_le_self _ _
 have key:q * 2 ^ (E - min E 0).toNat < 2 ^ (0 - min E 0).toNat:=by
  have hk1:min (a.e - K) b.e ≤ a.e:=by omega
  have hk2:min (a.e - K) b.e ≤ b.e:=by omega
  have h:=num_lt ha hb hlt hk1 hk2
  have e1:(a.e - min (a.e - K) b.e).toNat=K+(E - min E 0).toNat:=by omega
  have e2:(b.e - min (a.e - K) b.e).toNat=(0 - min E 0).toNat:=by omega
  rw [e1,e2,Nat.pow_add,← Nat.mul_assoc] at h
  have h3:q * b.m * 2 ^ (E - min E 0).toNat < b.m * 2 ^ (0 - min E 0).toNat:=Nat.lt_of_le_of_lt (Nat.mul_le_mul_right _ hqb) h
  rw [Nat.mul_comm q,Nat.mul_assoc] at h3
  exact Nat.lt_of_mul_lt_mul_left h3
 have hqe:q=0 ∨ (bitsN q:Int)+E ≤ 0:=by
  by_cases hE0:0 ≤ E
  ·left
   rw [show (0 - min E 0).toNat=0 by omega,Nat.pow_zero] at key
   rcases Nat.mul_eq_zero.1 (Nat.lt_one_iff.1 key) with h | h
   ·exact h
   ·exact absurd h (Nat.ne_of_gt (Nat.pow_pos (by decide)))
  ·right
   rw [show (E - min E 0).toNat=0 by omega,Nat.pow_zero,Nat.mul_one] at key
   have:=bitsN_le_iff.2 key
   omega
 generalize decide (a.m * 2 ^ K % b.m ≠ 0)=more
 have hQ:cutQ q E more p (false != false)=q / 2 ^ cutK q E p:=by unfold cutQ; simp
 have hsm:q / 2 ^ cutK q E p ≠ 0 → (bitsN (q / 2 ^ cutK q E p):Int)+E+cutK q E p ≤ 0:=by
  intro hn
  have hb2:=bitsN_mul_pow hn (cutK q E p)
  have hm:=bitsN_mono (Nat.div_mul_le_self q (2 ^ cutK q E p))
  rcases hqe with h | h
  ·rw [h,Nat.zero_div] at hn; exact absurd rfl hn
  ·omega
 have hO:cutOver q E more p (false != false)=false:=by
  unfold cutOver
  rw [hQ]
  by_cases hn:q / 2 ^ cutK q E p=0
  ·simp [hn]
  ·have:=hsm hn
   rw [decide_eq_false (show ¬ 16384 < (bitsN (q / 2 ^ cutK q E p):Int)+E+cutK q E p by omega)]
   simp
 unfold cutD
 rw [show ((false != false) != false)=(false != false) from rfl,hO,if_neg (by decide),hQ]
 refine (canon_le_mag (s:=(false != false)) (K:=min E 0) (by omega) (by omega) ?_).1 rfl
 rw [Nat.one_mul,show (E+(cutK q E p:Int) - min E 0).toNat=cutK q E p+(E - min E 0).toNat by omega,Nat.pow_add,← Nat.mul_assoc]
 exact Nat.le_of_lt (Nat.lt_of_le_of_lt (Nat.mul_le_mul_right _ (Nat.div_mul_le_self _ _)) key)
theorem numI_valid':(numI 1).Valid:=pointI_valid (intD_valid 1 (by decide))
theorem Fp.Iv.Valid.ends' {x:Iv} (h:x.Valid):x.lo.Canon ∧ x.hi.Canon:=⟨h.ends.1.canon,h.ends.2.canon⟩
theorem nn_of_sign {d:Dy} (hd:d.Canon) (h:0 ≤ d.sign):d.neg=false:=by
 unfold Dy.sign at h
 rcases hd with ⟨_,h2,_⟩ | h1
 ·exact h2
 ·rw [if_neg (by omega)] at h
  cases hn:d.neg with
  | false=>rfl
  | true=>rw [hn] at h; simp at h
theorem sign_of_nn {d:Dy} (h:d.neg=false):0 ≤ d.sign:=by
 unfold Dy.sign; rw [h]; split
 ·omega
 ·simp
theorem intD_pos {c:Nat} (hc:0 < c):(intD ((c:Nat):Int)).m ≠ 0:=by
 rw [intD_nat]
 exact (canon_bits (s:=false) (e:=0) (by omega)).2.2.1
theorem numI_sign {c:Nat} (hc:0 < c):signI (numI ((c:Nat):Int))=1:=by
 unfold signI numI pointI
 simp only [Bool.false_eq_true,if_false]
 rw [if_pos]
 unfold Dy.sign
 rw [if_neg (intD_pos hc),show (intD ((c:Nat):Int)).neg=false by rw [intD_nat]; exact canon_nn _ _]
 simp
theorem rest_nn {u t:Iv} {c p:Nat} (hu:u.NN) (hc:0 < c) (hua:u.all=false) (hlt:cmpD u.hi (intD ((c:Nat):Int)) < 0) (ht:t.NN)
  (he:(divI t (subI (numI 1) (divI u (numI ((c:Nat):Int)) p) p) p).all=false) (hp1:1 ≤ p) (hp2:p ≤ 4096):(divI t (subI (numI 1) (divI u (numI ((c:Nat):Int)) p) p) p).NN:=by
 have hone:(numI 1).NN:=numI_nn 1
 generalize hq:divI u (numI ((c:Nat):Int)) p=q at *
 have hqn:q.NN:=hq ▸ divI_nn hu (numI_nn c) p
 have hqv:q.Valid:=hq ▸ divI_valid _ _ hp1 hp2
 have hden:∀ d:Iv,d.all=true → (divI t d p).all=true:=fun d hd=>by unfold divI; rw [hd]; simp [wholeI]
 have hdall:(subI (numI 1) q p).all=false:=by
  cases h:(subI (numI 1) q p).all with
  | false=>rfl
  | true=>rw [hden _ h] at he; cases he
 have hqa:q.all=false:=by
  cases h:q.all with
  | false=>rfl
  | true =>
   exfalso
   have:(subI (numI 1) q p)=wholeI:=by
    unfold subI negI addI
    rw [h]; simp [wholeI]
   rw [this] at hdall; cases hdall
 have hqlo:cmpD q.lo (canon false 1 0) ≤ 0:=by
  have hf:q=fourI (fun a b up=>divD a b p up) (fun a b up=>divE a b p up) u (numI ((c:Nat):Int)):=by
   rw [← hq]
   unfold divI
   rw [if_neg]
   rw [hua,numI_sign hc]
   simp [numI,pointI]
  have hlo:q.lo=minD (minD (minD (divD u.lo (intD ((c:Nat):Int)) p false) (divD u.lo (intD ((c:Nat):Int)) p false)) (divD u.hi (intD ((c:Nat):Int)) p false)) (divD u.hi (intD ((c:Nat):Int)) p false):=by
   rw [hf] at hqa ⊢
   unfold fourI at hqa ⊢
   split
   ·rfl
   ·rename_i hne
    rw [if_neg hne] at hqa
    cases hqa
  rw [hlo]
  exact le_trans (minD_right _ _) (divD_le_one hu.hi (by rw [intD_nat]; exact canon_nn _ _) (intD_pos hc) hlt p)
 have hone':intD 1=canon false 1 0:=intD_nat 1
 have hsum:0 ≤ (sumD (intD 1) (negD q.lo)).sign:=by
  by_cases h0:q.lo.m=0
  ·have:(negD q.lo).m=0:=h0
   have:sumD (intD 1) (negD q.lo)=intD 1:=by
    unfold sumD
    rw [if_neg (show (intD 1).m ≠ 0 from intD_pos (c:=1) (by decide)),if_pos this]
   rw [this]
   exact sign_of_nn hone.lo
  ·rw [cmpD_sum (show (intD 1).m ≠ 0 from intD_pos (c:=1) (by decide)) h0,hone',cmpD_neg]
   omega
 have hdv:(subI (numI 1) q p).Valid:=addI_valid (numI_valid' ) (negI_valid hqv) hp1 hp2
 have hadd:subI (numI 1) q p=madeI (rndD (sumD (intD 1) (negD q.hi)) p false) (rndE (sumD (intD 1) (negD q.hi)) p false) (rndD (sumD (intD 1) (negD q.lo)) p true) (rndE (sumD (intD 1) (negD q.lo)) p true):=by
  unfold subI negI addI
  rw [hqa]
  rfl
 have hhi:(subI (numI 1) q p).hi=rndD (sumD (intD 1) (negD q.lo)) p true:=by
  rw [hadd] at hdall ⊢
  unfold madeI at hdall ⊢
  split
  ·rename_i h; rw [if_pos h] at hdall; cases hdall
  ·rfl
 have hsc:(sumD (intD 1) (negD q.lo)).Canon:=canon_sumD (by rw [hone']; exact canon_canon _ _ _) (negD_canon (hqv.ends'.1))
 have hhin:(subI (numI 1) q p).hi.neg=false:=by
  rw [hhi]; exact rndD_nn (nn_of_sign hsc hsum) p true
 have hsg:signI (subI (numI 1) q p) ≠ 0:=by
  intro hz
  have:(divI t (subI (numI 1) q p) p).all=true:=by unfold divI; rw [if_pos (by rw [hz]; simp)]; rfl
  rw [this] at he; cases he
 have hlon:(subI (numI 1) q p).lo.neg=false:=by
  unfold signI at hsg
  rw [hdall] at hsg
  simp only [Bool.false_eq_true,if_false] at hsg
  have hh:=sign_of_nn hhin
  split at hsg
  ·rename_i h
   cases hn:(subI (numI 1) q p).lo.neg with
   | false=>rfl
   | true=>unfold Dy.sign at h; rw [hn] at h; split at h <;> simp at h
  ·rw [if_neg (by omega)] at hsg
   exact absurd rfl hsg
 exact divI_nn ht ⟨hlon,hhin⟩ p
open Go.RowKit Fp Pu
theorem identM_ok {n:Nat} (h1:1 ≤ n) (h8:n ≤ 8):MOk (identM n) n n :=
 wholeM_ok (F:=fun i j=>pointI (if i=j then ⟨false,1,0⟩ else zeroD)) h1 h8 h1 h8 fun i j=>by
  split
  ·exact numI_valid'
  ·exact pointI_valid zeroD_valid
theorem headD_len {b:List (List Iv)} {k c:Nat} (gb:MOk b k c):(b.headD []).length=c:=by
 cases b with
 | nil=>have:=gb.rows; have:=gb.n1; simp at *; omega
 | cons r b=>exact gb.row r (by simp)
theorem mulM_ok {a b:List (List Iv)} {n k c p:Nat} (ga:MOk a n k) (gb:MOk b k c) (hp1:1 ≤ p) (hp2:p ≤ 4096):MOk (mulM a b p) n c:=by
 refine ⟨by simp [mulM,ga.rows],fun r hr=>?_,fun r hr x hx=>?_,ga.n1,ga.n8,gb.k1,gb.k8⟩
 ·obtain ⟨q,_,rfl⟩:=List.mem_map.1 hr
  rw [List.length_map,List.length_range,headD_len gb]
 ·obtain ⟨q,_,rfl⟩:=List.mem_map.1 hr
  obtain ⟨j,_,rfl⟩:=List.mem_map.1 hx
  exact dotI_valid hp1 hp2
theorem scaleM_ok {a:List (List Iv)} {x:Iv} {n k p:Nat} (ga:MOk a n k) (hp1:1 ≤ p) (hp2:p ≤ 4096):MOk (scaleM a x p) n k:=by
 refine ⟨by simp [scaleM,ga.rows],fun r hr=>?_,fun r hr y hy=>?_,ga.n1,ga.n8,ga.k1,ga.k8⟩
 ·obtain ⟨q,hq,rfl⟩:=List.mem_map.1 hr
  simp [ga.row q hq]
 ·obtain ⟨q,_,rfl⟩:=List.mem_map.1 hr
  obtain ⟨z,_,rfl⟩:=List.mem_map.1 hy
  exact mulI_valid _ _ hp1 hp2
theorem mem_zipWith' {α β γ:Type} {f:α → β → γ} {l:List α} {m:List β} {z:γ} (h:z ∈ List.zipWith f l m):∃ x y,x ∈ l ∧ y ∈ m ∧ z=f x y:=by
 induction l generalizing m with
 | nil=>simp at h
 | cons a l ih =>
  cases m with
  | nil=>simp at h
  | cons b m =>
   rw [List.zipWith_cons_cons] at h
   rcases List.mem_cons.1 h with h | h
   ·exact ⟨a,b,by simp,by simp,h⟩
   ·obtain ⟨x,y,h1,h2,h3⟩:=ih h
    exact ⟨x,y,by simp [h1],by simp [h2],h3⟩
theorem addM_ok {a b:List (List Iv)} {n k p:Nat} (ga:MOk a n k) (gb:MOk b n k) (hp1:1 ≤ p) (hp2:p ≤ 4096):MOk (addM a b p) n k:=by
 refine ⟨by simp [addM,ga.rows,gb.rows],fun r hr=>?_,fun r hr y hy=>?_,ga.n1,ga.n8,ga.k1,ga.k8⟩
 ·obtain ⟨u,v,h1,h2,rfl⟩:=mem_zipWith' hr
  simp [ga.row u h1,gb.row v h2]
 ·obtain ⟨u,v,h1,h2,rfl⟩:=mem_zipWith' hr
  obtain ⟨x,z,h3,h4,rfl⟩:=mem_zipWith' hy
  exact addI_valid (ga.ok u h1 x h3) (gb.ok v h2 z h4) hp1 hp2
theorem termM_ok {m:List (List Iv)} {h:Iv} {n p:Nat} (ga:MOk m n n) (hp1:1 ≤ p) (hp2:p ≤ 4096):∀ j,MOk (termM m h p j) n n
 | 0=>by
  have:=ga.rows
  unfold termM; rw [this]; exact identM_ok ga.n1 ga.n8
 | j+1=>scaleM_ok (mulM_ok (termM_ok ga hp1 hp2 j) ga hp1 hp2) hp1 hp2
theorem sumM_ok {m:List (List Iv)} {h:Iv} {n p:Nat} (ga:MOk m n n) (hp1:1 ≤ p) (hp2:p ≤ 4096):∀ j,MOk (sumM m h p j) n n
 | 0=>by
  have:=ga.rows
  unfold sumM; rw [this]; exact identM_ok ga.n1 ga.n8
 | j+1=>addM_ok (sumM_ok ga hp1 hp2 j) (termM_ok ga hp1 hp2 (j+1)) hp1 hp2
open Go.RowKit Fp Pu
theorem elM_val {a:List (List Iv)} {n k:Nat} (ga:MOk a n k) (i j:Nat):(elM a i j).Valid:=elV ga i j
theorem elM_mul {a b:List (List Iv)} {n k c p:Nat} (ga:MOk a n k) (gb:MOk b k c) {i j:Nat} (hi:i < n) (hj:j < c):elM (mulM a b p) i j=dotP (elM a i) (fun q=>elM b q j) p (k - 1):=by
 have k1:=ga.k1
 rw [← wholeM_mulM (n:=n) (k:=k - 1) (c:=c) (a:=a) (b:=b) (p:=p) ga.rows (fun i hi=>by rw [ga.len_at hi]; omega) (by rw [gb.rows]; omega) (gb.len_at (by omega))]
 unfold elM
 rw [wholeM_row hi,range_getD hj]
theorem elM_scale {a:List (List Iv)} {x:Iv} {n k p:Nat} (ga:MOk a n k) {i j:Nat} (hi:i < n) (hj:j < k):elM (scaleM a x p) i j=mulI x (elM a i j) p:=by
 rw [← wholeM_scaleM]
 unfold elM
 rw [wholeM_row (by rw [ga.rows]; exact hi),range_getD (by rw [ga.len_at hi]; exact hj)]
theorem elM_add {a b:List (List Iv)} {n k p:Nat} (ga:MOk a n k) (gb:MOk b n k) {i j:Nat} (hi:i < n) (hj:j < k):elM (addM a b p) i j=addI (elM a i j) (elM b i j) p:=by
 rw [← wholeM_addM ga gb]
 unfold elM
 rw [wholeM_row (by rw [ga.rows]; exact hi),range_getD (by rw [ga.len_at hi]; exact hj)]
theorem elM_ident {n i j:Nat} (hi:i < n) (hj:j < n):elM (identM n) i j=pointI (if i=j then ⟨false,1,0⟩ else zeroD):=by
 unfold elM
 have:identM n=wholeM n (fun _=>n) (fun i j=>pointI (if i=j then ⟨false,1,0⟩ else zeroD)):=rfl
 rw [this,wholeM_row hi,range_getD hj]
theorem elM_map {a:List (List Iv)} {n k:Nat} (ga:MOk a n k) (f:Iv → Iv) {i j:Nat} (hi:i < n) (hj:j < k):elM (a.map fun r=>r.map f) i j=f (elM a i j):=by
 have h1:=ga.rows
 have h2:=ga.len_at hi
 have e1:(a.map fun r=>r.map f).getD i []=(a.getD i []).map f:=by
  rw [List.getD_eq_getElem?_getD,List.getD_eq_getElem?_getD,List.getElem?_map,List.getElem?_eq_getElem (by omega)]; rfl
 unfold elM
 rw [e1]
 generalize a.getD i []=r at *
 rw [List.getD_eq_getElem?_getD,List.getD_eq_getElem?_getD,List.getElem?_map,List.getElem?_eq_getElem (by omega)]; rfl
def SubM (n k:Nat) (a b:List (List Iv)):Prop:=∀ i j,i < n → j < k → Sub (elM a i j) (elM b i j)
theorem dotP_sub {X Y X' Y':Nat → Iv} {p:Nat} (hp:1 ≤ p) (hp2:p ≤ 4096) (hX:∀ q,(X q).Valid) (hY:∀ q,(Y q).Valid) (hX':∀ q,(X' q).Valid) (hY':∀ q,(Y' q).Valid) :
  ∀ k,(∀ q,q ≤ k → Sub (X q) (X' q)) → (∀ q,q ≤ k → Sub (Y q) (Y' q)) → Sub (dotP X Y p k) (dotP X' Y' p k)
 | 0,h1,h2=>mulI_sub (hX 0) (hY 0) (hX' 0) (hY' 0) hp hp2 (h1 0 (Nat.le_refl _)) (h2 0 (Nat.le_refl _))
 | k+1,h1,h2=>addI_sub (dotP_valid X Y hp hp2 k) (mulI_valid _ _ hp hp2) (dotP_valid X' Y' hp hp2 k) (mulI_valid _ _ hp hp2) hp hp2
   (dotP_sub hp hp2 hX hY hX' hY' k (fun q hq=>h1 q (by omega)) (fun q hq=>h2 q (by omega))) (mulI_sub (hX _) (hY _) (hX' _) (hY' _) hp hp2 (h1 _ (Nat.le_refl _)) (h2 _ (Nat.le_refl _)))
theorem mulM_sub {a b a' b':List (List Iv)} {n k c p:Nat} (ga:MOk a n k) (gb:MOk b k c) (ga':MOk a' n k) (gb':MOk b' k c) (hp:1 ≤ p) (hp2:p ≤ 4096) (h1:SubM n k a a') (h2:SubM k c b b'):SubM n c (mulM a b p) (mulM a' b' p):=by
 intro i j hi hj
 have k1:=ga.k1
 rw [elM_mul ga gb hi hj,elM_mul ga' gb' hi hj]
 exact dotP_sub hp hp2 (elM_val ga i) (fun q=>elM_val gb q j) (elM_val ga' i) (fun q=>elM_val gb' q j) _ (fun q hq=>h1 i q hi (by omega)) (fun q hq=>h2 q j (by omega) hj)
theorem scaleM_sub {a a':List (List Iv)} {x x':Iv} {n k p:Nat} (ga:MOk a n k) (ga':MOk a' n k) (hx:x.Valid) (hx':x'.Valid) (hp:1 ≤ p) (hp2:p ≤ 4096) (h1:SubM n k a a') (h2:Sub x x'):SubM n k (scaleM a x p) (scaleM a' x' p):=by
 intro i j hi hj
 rw [elM_scale ga hi hj,elM_scale ga' hi hj]
 exact mulI_sub hx (elM_val ga i j) hx' (elM_val ga' i j) hp hp2 h2 (h1 i j hi hj)
section
variable {m m':List (List Iv)} {h h':Iv} {n p:Nat}
theorem numI_val (j:Nat) (hj:j < 4294967296):(numI ((j:Nat):Int)).Valid:=pointI_valid (intD_valid j hj)
theorem divh_sub (hh:h.Valid) (hh':h'.Valid) (hp:1 ≤ p) (hp2:p ≤ 4096) (h2:Sub h h') (j:Nat) (hj:j < 4294967296):Sub (divI h (numI ((j:Nat):Int)) p) (divI h' (numI ((j:Nat):Int)) p) :=
 divI_sub hh (numI_val j hj) hh' (numI_val j hj) hp hp2 h2 (Sub.refl _)
theorem termM_sub (ga:MOk m n n) (ga':MOk m' n n) (hh:h.Valid) (hh':h'.Valid) (hp:1 ≤ p) (hp2:p ≤ 4096) (h1:SubM n n m m') (h2:Sub h h'):∀ j,j < 4294967296 → SubM n n (termM m h p j) (termM m' h' p j)
 | 0,_=>by
  intro i j _ _
  unfold termM
  rw [ga.rows,ga'.rows]
  exact Sub.refl _
 | j+1,hj=>scaleM_sub (mulM_ok (termM_ok ga hp hp2 j) ga hp hp2) (mulM_ok (termM_ok ga' hp hp2 j) ga' hp hp2) (divI_valid _ _ hp hp2) (divI_valid _ _ hp hp2) hp hp2
   (mulM_sub (termM_ok ga hp hp2 j) ga (termM_ok ga' hp hp2 j) ga' hp hp2 (termM_sub ga ga' hh hh' hp hp2 h1 h2 j (by omega)) h1) (divh_sub hh hh' hp hp2 h2 (j+1) hj)
end
theorem nsum_sub {r r':List Iv} {p:Nat} (hp:1 ≤ p) (hp2:p ≤ 4096) (v:∀ i,(r.getD i wholeI).Valid) (v':∀ i,(r'.getD i wholeI).Valid):∀ k,(∀ i,i < k → Sub (r.getD i wholeI) (r'.getD i wholeI)) → (∀ i,i < k → NGood r' p i) →
  (∀ i,i < k → NGood r p i) ∧ (nsum r p k).q ≤ (nsum r' p k).q
 | 0,_,_=>⟨fun i hi=>absurd hi (Nat.not_lt_zero i),Rat.le_refl⟩
 | k+1,hs,hg=>by
  obtain ⟨h1,h2⟩:=nsum_sub hp hp2 v v' k (fun i hi=>hs i (by omega)) (fun i hi=>hg i (by omega))
  obtain ⟨g1,g2⟩:=hg k (by omega)
  have s:=hs k (by omega)
  have hm:=magI_sub (v k) (v' k) s g1
  have mv:∀ {x:Iv},x.Valid → (magI x).Canon:=fun h=>maxD_canon (absD_canon h.canons.1) (absD_canon h.canons.2)
  have A:=rnd_up (canon_sumD (nsum_valid r hp hp2 k).canon (mv (v k))) hp hp2
  have B:=rnd_up (canon_sumD (nsum_valid r' hp hp2 k).canon (mv (v' k))) hp hp2
  rw [q_sum] at A B
  obtain ⟨b1,b2⟩:=B.1 g2
  obtain ⟨a1,a2⟩:=A.2 _ b1 (by grind)
  refine ⟨fun i hi=>?_,a2⟩
  rcases Nat.lt_or_eq_of_le (Nat.le_of_lt_succ hi) with h | h
  ·exact h1 i h
  ·subst h; exact ⟨(s.known g1).1,a1⟩
theorem nmost_max (m:List (List Iv)) (p x:Nat):nmost m p (x+1)=maxD (nmost m p x) (nsum (m.getD x []) p (m.getD x []).length):=rfl
theorem normM_sub {m m':List (List Iv)} {n k p:Nat} (ga:MOk m n k) (ga':MOk m' n k) (hp:1 ≤ p) (hp2:p ≤ 4096) (h1:SubM n k m m') {N':Dy} (hN:normM m' p=some N') :
  ∃ N,normM m p=some N ∧ N.q ≤ N'.q ∧ N=nmost m p n ∧ N'=nmost m' p n:=by
 have good':∀ i,i < n → ∀ j,j < k → NGood (m'.getD i []) p j:=by
  intro i hi j hj
  apply Classical.byContradiction
  intro hc
  rw [normM_none (i:=i) (by rw [ga'.rows]; exact hi) (by rw [ga'.len_at hi]; exact hj) hc] at hN
  cases hN
 have row:=fun i (hi:i < n)=>nsum_sub (r:=m.getD i []) (r':=m'.getD i []) hp hp2 (elM_val ga i) (elM_val ga' i) k (fun j hj=>h1 i j hi hj) (good' i hi)
 have e':normM m' p=some (nmost m' p n):=by
  rw [← ga'.rows]; exact normM_some fun i hi j hj=>good' i (by rw [← ga'.rows]; exact hi) j (by rw [ga'.len_at (by rw [← ga'.rows]; exact hi)] at hj; exact hj)
 have e:normM m p=some (nmost m p n):=by
  rw [← ga.rows]; exact normM_some fun i hi j hj=>(row i (by rw [← ga.rows]; exact hi)).1 j (by rw [ga.len_at (by rw [← ga.rows]; exact hi)] at hj; exact hj)
 rw [e'] at hN
 cases hN
 refine ⟨_,e,?_,rfl,rfl⟩
 have:∀ x,x ≤ n → (nmost m p x).q ≤ (nmost m' p x).q:=by
  intro x
  induction x with
  | zero=>intro _; exact Rat.le_refl
  | succ x ih =>
   intro hx
   have i1:=ih (by omega)
   have i2:=(row x (by omega)).2
   rw [nmost_max,nmost_max,ga.len_at (by omega),ga'.len_at (by omega)]
   obtain ⟨a1,a2,a3⟩:=q_max (nmost m p x) (nsum (m.getD x []) p k)
   obtain ⟨b1,b2,b3⟩:=q_max (nmost m' p x) (nsum (m'.getD x []) p k)
   grind
 exact this n (Nat.le_refl _)
theorem q_nn {d:Dy} (h:d.neg=false):0 ≤ d.q:=by
 rw [q_of,h]; exact Rat.mul_nonneg (Rat.natCast_nonneg) (Rat.le_of_lt (P2_pos _))
structure Lq (x y:Iv):Prop where
 v:x.Valid
 v':y.Valid
 nn:x.NN
 nn':y.NN
 le:y.all=true ∨ (x.all=false ∧ x.hi.q ≤ y.hi.q)
theorem Fp.Iv.has.nn {x:Iv} {r:Rat} (h:x.has r) (k:x.all=false) (hx:x.NN):0 ≤ r ∧ r ≤ x.hi.q:=by
 obtain ⟨h1,h2⟩:=h.ends k
 have:=q_nn hx.lo
 exact ⟨by grind,h2⟩
theorem G_zero (p:Nat):G p 0:=.inl (GM_zero p)
theorem G_one {p:Nat} (hp:1 ≤ p):G p 1:=.inl ⟨1,0,by rw [bitsN_one]; exact hp,by omega,by rw [bitsN_one]; omega,by rw [P2_zero]; simp⟩
theorem mulI_lq {x y x' y':Iv} {p:Nat} (hp:1 ≤ p) (hp2:p ≤ 4096) (h:Lq x x') (k:Lq y y'):Lq (mulI x y p) (mulI x' y' p):=by
 refine ⟨mulI_valid _ _ hp hp2,mulI_valid _ _ hp hp2,mulI_nn h.nn k.nn p,mulI_nn h.nn' k.nn' p,?_⟩
 rcases h.le with ha | ⟨h1,h2⟩
 ·rw [mulI_wh p (.inl ha)]; exact .inl rfl
 ·rcases k.le with ka | ⟨k1,k2⟩
  ·rw [mulI_wh p (.inr ka)]; exact .inl rfl
  ·cases xa:x'.all
   ·cases ya:y'.all
    ·cases za:(mulI x' y' p).all
     ·right
      have B':=mulI_best h.v' k.v' xa ya hp hp2
      obtain ⟨g1,g2⟩:=B'.on za
      have hU:=(B'.has _ ⟨_,_,h.v'.has_hi,k.v'.has_hi,rfl⟩).ends za
      obtain ⟨b1,b2,b3⟩:=(mulI_best h.v k.v h1 k1 hp hp2).least 0 _ (G_zero p) g2 fun r ⟨a,b,ha,hb,e⟩=>by
       obtain ⟨a1,a2⟩:=ha.nn h1 h.nn
       obtain ⟨b1,b2⟩:=hb.nn k1 k.nn
       subst e
       refine ⟨Rat.mul_nonneg a1 b1,Rat.le_trans ?_ hU.2⟩
       exact Rat.le_trans (Rat.mul_le_mul_of_nonneg_right (Rat.le_trans a2 h2) b1) (Rat.mul_le_mul_of_nonneg_left (Rat.le_trans b2 k2) (Rat.le_trans a1 (Rat.le_trans a2 h2)))
      exact ⟨b1,b3⟩
     ·exact .inl rfl
    ·rw [mulI_wh p (.inr ya)]; exact .inl rfl
   ·rw [mulI_wh p (.inl xa)]; exact .inl rfl
theorem divI_lq {x y x' y':Iv} {p:Nat} (hp:1 ≤ p) (hp2:p ≤ 4096) (h:Lq x x') (hy:y.Valid) (hy':y'.Valid) (yn:y.NN) (yn':y'.NN) (y0:y'.all=false → 0 < y'.lo.q → y.all=false ∧ y'.lo.q ≤ y.lo.q):Lq (divI x y p) (divI x' y' p):=by
 refine ⟨divI_valid _ _ hp hp2,divI_valid _ _ hp hp2,divI_nn h.nn yn p,divI_nn h.nn' yn' p,?_⟩
 rcases h.le with ha | ⟨h1,h2⟩
 ·rw [divI_wh p (.inl ha)]; exact .inl rfl
 ·cases xa:x'.all
  ·by_cases hs:signI y'=0
   ·rw [divI_wh p (.inr hs)]; exact .inl rfl
   ·obtain ⟨ya',hp'⟩:=sign_split hy' hs
    have l0:0 < y'.lo.q:=by
     rcases hp' with h | h
     ·exact h
     ·have:=q_nn yn'.hi; grind
    obtain ⟨ya,hle⟩:=y0 ya' l0
    cases za:(divI x' y' p).all
    ·right
     have B':=divI_best h.v' hy' xa hs hp hp2
     obtain ⟨g1,g2⟩:=B'.on za
     have hU:=(B'.has _ ⟨_,_,h.v'.has_hi,hy'.has_lo,rfl⟩).ends za
     obtain ⟨b1,b2,b3⟩:=(divI_best h.v hy h1 (sign_of ya (.inl (by grind))) hp hp2).least 0 _ (G_zero p) g2 fun r ⟨a,b,ha,hb,e⟩=>by
      obtain ⟨a1,a2⟩:=ha.nn h1 h.nn
      obtain ⟨b1,b2⟩:=hb.ends ya
      subst e
      have hb0:0 < b:=by grind
      have i1:b⁻¹ ≤ y'.lo.q⁻¹:=inv_le l0 (by grind)
      have i0:0 ≤ b⁻¹:=Rat.le_of_lt (Rat.inv_pos.2 hb0)
      rw [Rat.div_def]
      rw [Rat.div_def] at hU
      refine ⟨Rat.mul_nonneg a1 i0,Rat.le_trans ?_ hU.2⟩
      exact Rat.le_trans (Rat.mul_le_mul_of_nonneg_right (Rat.le_trans a2 h2) i0) (Rat.mul_le_mul_of_nonneg_left i1 (Rat.le_trans a1 (Rat.le_trans a2 h2)))
     exact ⟨b1,b3⟩
    ·exact .inl rfl
  ·rw [divI_wh p (.inl xa)]; exact .inl rfl
theorem numI_q (c:Nat):(numI ((c:Nat):Int)).lo.q=(c:Rat) ∧ (numI ((c:Nat):Int)).hi.q=(c:Rat) ∧ (numI ((c:Nat):Int)).all=false:=by
 refine ⟨?_,?_,rfl⟩
 ·show (intD _).q=_
  rw [q_intD]; exact Rat.intCast_natCast c
 ·show (intD _).q=_
  rw [q_intD]; exact Rat.intCast_natCast c
theorem Lq.num (c:Nat) (hc:c < 4294967296):Lq (numI ((c:Nat):Int)) (numI ((c:Nat):Int)):=⟨numI_val c hc,numI_val c hc,numI_nn c,numI_nn c,.inr ⟨rfl,Rat.le_refl⟩⟩
theorem Lq.divn {x x':Iv} {p:Nat} (hp:1 ≤ p) (hp2:p ≤ 4096) (h:Lq x x') (c:Nat) (hc:c < 4294967296):Lq (divI x (numI ((c:Nat):Int)) p) (divI x' (numI ((c:Nat):Int)) p) :=
 divI_lq hp hp2 h (numI_val c hc) (numI_val c hc) (numI_nn c) (numI_nn c) fun _ _=>⟨rfl,Rat.le_refl⟩
theorem powI_lq {u u':Iv} {p:Nat} (hp:1 ≤ p) (hp2:p ≤ 4096) (h:Lq u u'):∀ j,j < 4294967296 → Lq (powI u p j) (powI u' p j)
 | 0,_=>Lq.num 1 (by decide)
 | j+1,hj=>mulI_lq hp hp2 (powI_lq hp hp2 h j (by omega)) (Lq.divn hp hp2 h (j+1) hj)
theorem one_sub {w w':Iv} {p:Nat} (hp:1 ≤ p) (hp2:p ≤ 4096) (h:Lq w w') (h0:(subI (numI 1) w' p).all=false):(subI (numI 1) w p).all=false ∧ (subI (numI 1) w' p).lo.q ≤ (subI (numI 1) w p).lo.q:=by
 have wa':w'.all=false:=by
  cases hw:w'.all
  ·rfl
  ·have:subI (numI 1) w' p=wholeI:=addI_wh p (.inr (by unfold negI; rw [if_pos hw]; rfl))
   rw [this] at h0; cases h0
 obtain ⟨wa,hle⟩:w.all=false ∧ w.hi.q ≤ w'.hi.q:=by
  rcases h.le with h | h
  ·rw [h] at wa'; cases wa'
  ·exact h
 have nv:=numI_val 1 (by decide)
 have na:∀ {x:Iv},x.all=false → (negI x).all=false:=by intro x hx; unfold negI; rw [hx]; rfl
 have B':=addI_best nv (negI_valid h.v') rfl (na wa') hp hp2
 have B:=addI_best nv (negI_valid h.v) rfl (na wa) hp hp2
 obtain ⟨g1,g2⟩:=B'.on h0
 have hL:=(B'.has _ ⟨_,_,numI_has 1,negI_has h.v'.has_hi,rfl⟩).ends h0
 obtain ⟨b1,b2,b3⟩:=B.least _ 1 g1 (G_one hp) fun r ⟨a,b,ha,hb,e⟩=>by
  have e1:a=1:=by
   obtain ⟨q1,q2⟩:=ha.ends rfl
   obtain ⟨n1,n2,_⟩:=numI_q 1
   have o:((1:Nat):Rat)=1:=rfl
   rw [o] at n1 n2
   have n1':(numI 1).lo.q=1:=n1
   have n2':(numI 1).hi.q=1:=n2
   grind
  have hbn:b ≤ 0 ∧ -w.hi.q ≤ b:=by
   have hb2:=hb.ends (na wa)
   have e2:negI w=⟨negD w.hi,negD w.lo,false⟩:=by unfold negI; rw [if_neg (by rw [wa]; decide)]
   rw [e2] at hb2
   have q1:=q_neg w.hi
   have q2:=q_neg w.lo
   have q3:=q_nn h.nn.lo
   simp only at hb2
   grind
  have o:((1:Int):Rat)=1:=rfl
  rw [o] at hL
  subst e e1
  refine ⟨Rat.le_trans hL.1 ?_,by grind⟩
  grind
 exact ⟨b1,b2⟩
theorem restI_sub {m m':List (List Iv)} {h h':Iv} {n k p:Nat} (ga:MOk m n n) (ga':MOk m' n n) (hh:h.Valid) (hh':h'.Valid) (hk:k < 1000) (hp:1 ≤ p) (hp2:p ≤ 4096) (h1:SubM n n m m') (h2:Sub h h') (ha:h'.all=false)
  {e':Iv} (he:restI m' h' k p=some e'):∃ e,restI m h k p=some e ∧ Sub e e' ∧ e.Valid ∧ e'.Valid:=by
 unfold restI at he ⊢
 cases hN:normM m' p with
 | none=>rw [hN] at he; cases he
 | some N' =>
  obtain ⟨N,eN,hle,d1,d2⟩:=normM_sub ga ga' hp hp2 h1 hN
  rw [hN] at he
  rw [eN]
  simp only [Option.bind_some] at he ⊢
  have nvN:N.Valid:=by rw [d1]; exact nmost_valid m hp hp2 n
  have nvN':N'.Valid:=by rw [d2]; exact nmost_valid m' hp hp2 n
  have nnN:N.neg=false:=by rw [d1]; exact nmost_nn m p n
  have nnN':N'.neg=false:=by rw [d2]; exact nmost_nn m' p n
  have L1:Lq (absI h) (absI h'):=by
   refine ⟨absI_valid hh,absI_valid hh',absI_nn h,absI_nn h',?_⟩
   right
   obtain ⟨k1,_,_⟩:=h2.known ha
   unfold absI
   rw [k1,ha]
   exact ⟨rfl,magI_sub hh hh' h2 ha⟩
  have L2:Lq (pointI N) (pointI N'):=⟨pointI_valid nvN,pointI_valid nvN',pointI_nn nnN,pointI_nn nnN',.inr ⟨rfl,hle⟩⟩
  have L3:=mulI_lq hp hp2 L1 L2
  generalize mulI (absI h) (pointI N) p=u at *
  generalize mulI (absI h') (pointI N') p=u' at *
  split at he
  ·cases he
  ·rename_i hc
   simp only [Bool.or_eq_true,decide_eq_true_eq,not_or,Int.not_le] at hc
   obtain ⟨c1,c2⟩:=hc
   have c1:u'.all=false:=by simpa using c1
   obtain ⟨ua,uh⟩:u.all=false ∧ u.hi.q ≤ u'.hi.q:=by
    rcases L3.le with h | h
    ·rw [h] at c1; cases c1
    ·exact h
   have c3:cmpD u.hi (intD (k+2:Nat)) < 0:=by
    rw [q_lt] at c2 ⊢
    grind
   rw [if_neg (by rw [ua]; simp only [Bool.false_or,decide_eq_true_eq]; omega)]
   have L4:=powI_lq hp hp2 L3 (k+1) (by omega)
   have L5:=Lq.divn hp hp2 L3 (k+2) (by omega)
   have sv:∀ w:Iv,w.Valid → (subI (numI 1) w p).Valid:=fun w hw=>addI_valid (numI_val 1 (by decide)) (negI_valid hw) hp hp2
   by_cases hz:(divI (powI u' p (k+1)) (subI (numI 1) (divI u' (numI (k+2:Nat)) p) p) p).all=true
   ·simp only [hz,if_true] at he; cases he
   ·simp only [hz,if_false] at he
    cases he
    have hz:(divI (powI u' p (k+1)) (subI (numI 1) (divI u' (numI (k+2:Nat)) p) p) p).all=false:=by simpa using hz
    have hc0:=fun {x:Iv} (hx:x.NN) (hxa:x.all=false) (hlt:cmpD x.hi (intD (k+2:Nat)) < 0)=>@rest_nn x
    have sn:signI (subI (numI 1) (divI u' (numI (k+2:Nat)) p) p) ≠ 0:=by
     intro hs; rw [divI_wh p (.inr hs)] at hz; cases hz
    obtain ⟨sa',sg'⟩:=sign_split (sv _ L5.v') sn
    obtain ⟨sa,sle⟩:=one_sub hp hp2 L5 sa'
    have pos':0 < (subI (numI 1) (divI u' (numI (k+2:Nat)) p) p).lo.q:=by
     rcases sg' with h | h
     ·exact h
     ·exfalso
      have hu:=L3.v'.has_hi
      have hd:=divI_has L3.v' (numI_val (k+2) (by omega)) hp hp2 hu (numI_has ((k+2:Nat):Int))
      have hsub:=(subI_has (numI_val 1 (by decide)) L5.v' hp hp2 (numI_has 1) hd).ends sa'
      have c4:=(q_lt _ _).1 c2
      rw [q_intD] at c4
      have:u'.hi.q / (((k+2:Nat):Int):Rat) ≤ 1:=by
       have hpos:(0:Rat) < (((k+2:Nat):Int):Rat):=Rat.intCast_pos.2 (by omega)
       apply Rat.le_of_mul_le_mul_right (c:=(((k+2:Nat):Int):Rat)) _ hpos
       rw [Rat.div_mul_cancel (by grind),Rat.one_mul]
       exact Rat.le_of_lt c4
      have o:((1:Int):Rat)=1:=rfl
      rw [o] at hsub
      grind
    have nn1:∀ {w:Iv},w.Valid → w.all=false → 0 ≤ w.lo.q → w.NN:=by
     intro w hw hwa h0
     have hw2:=hw.q
     rcases hw with ⟨h,_⟩ | ⟨_,v1,v2,_⟩
     ·rw [h] at hwa; cases hwa
     ·exact ⟨nn_of_sign v1.canon (by have:=(q_sign w.lo).2; apply Classical.byContradiction; intro hc; have:=this.1 (by omega); grind),nn_of_sign v2.canon (by have:=(q_sign w.hi).2; apply Classical.byContradiction; intro hc; have:=this.1 (by omega); grind)⟩
    have N1:=nn1 (sv _ L5.v') sa' (Rat.le_of_lt pos')
    have N2:=nn1 (sv _ L5.v) sa (by grind)
    have L6:=divI_lq hp hp2 L4 (sv _ L5.v) (sv _ L5.v') N2 N1 fun _ _=>⟨sa,sle⟩
    generalize divI (powI u p (k+1)) (subI (numI 1) (divI u (numI (k+2:Nat)) p) p) p=E at *
    generalize divI (powI u' p (k+1)) (subI (numI 1) (divI u' (numI (k+2:Nat)) p) p) p=E' at *
    obtain ⟨ea,eh⟩:E.all=false ∧ E.hi.q ≤ E'.hi.q:=by
     rcases L6.le with h | h
     ·rw [h] at hz; cases hz
     ·exact h
    rw [if_neg (by rw [ea]; decide)]
    have val:∀ {x:Iv},x.Valid → x.NN → x.all=false → (⟨negD x.hi,x.hi,false⟩:Iv).Valid:=by
     intro x hx hn hxa
     rcases hx with ⟨h,_⟩ | ⟨_,v1,v2,_⟩
     ·rw [h] at hxa; cases hxa
     ·exact .inr ⟨rfl,negD_valid v2,v2,by rw [q_le,q_neg]; have:=q_nn hn.hi; grind⟩
    refine ⟨_,rfl,.inr ⟨rfl,?_,eh⟩,val L6.v L6.nn ea,val L6.v' L6.nn' hz⟩
    show (negD E'.hi).q ≤ (negD E.hi).q
    rw [q_neg,q_neg]; grind
open Go.RowKit Fp Pu
def sumQ (f:Nat → Rat):Nat → Rat
 | 0=>0
 | n+1=>sumQ f n+f n
theorem sumQ_congr {f g:Nat → Rat}:∀ n,(∀ i,i < n → f i=g i) → sumQ f n=sumQ g n
 | 0,_=>rfl
 | n+1,h=>by rw [sumQ,sumQ,sumQ_congr n (fun i hi=>h i (by omega)),h n (by omega)]
theorem sumQ_le {f g:Nat → Rat}:∀ n,(∀ i,i < n → f i ≤ g i) → sumQ f n ≤ sumQ g n
 | 0,_=>Rat.le_refl
 | n+1,h=>by
  have h1:=sumQ_le n (fun i hi=>h i (by omega))
  have h2:=h n (by omega)
  rw [sumQ,sumQ]; grind
theorem sumQ_nonneg {f:Nat → Rat} (n:Nat) (h:∀ i,i < n → 0 ≤ f i):0 ≤ sumQ f n:=by
 induction n with
 | zero=>exact Rat.le_refl
 | succ n ih =>
  have h1:=ih (fun i hi=>h i (by omega))
  have h2:=h n (by omega)
  rw [sumQ]; grind
theorem sumQ_mul (f:Nat → Rat) (c:Rat):∀ n,sumQ (fun i=>c * f i) n=c * sumQ f n
 | 0=>by simp [sumQ]
 | n+1=>by rw [sumQ,sumQ,sumQ_mul f c n]; grind
theorem sumQ_mul' (f:Nat → Rat) (c:Rat):∀ n,sumQ (fun i=>f i * c) n=sumQ f n * c
 | 0=>by simp [sumQ]
 | n+1=>by rw [sumQ,sumQ,sumQ_mul' f c n]; grind
theorem sumQ_add (f g:Nat → Rat):∀ n,sumQ (fun i=>f i+g i) n=sumQ f n+sumQ g n
 | 0=>by simp only [sumQ]; grind
 | n+1=>by rw [sumQ,sumQ,sumQ,sumQ_add f g n]; grind
theorem sumQ_comm (f:Nat → Nat → Rat) (m:Nat):∀ n,sumQ (fun i=>sumQ (fun j=>f i j) m) n=sumQ (fun j=>sumQ (fun i=>f i j) n) m
 | 0=>by
  have:∀ m,sumQ (fun _=>(0:Rat)) m=0:=by
   intro m
   induction m with
   | zero=>rfl
   | succ m ih=>rw [sumQ,ih]; grind
  exact (this m).symm
 | n+1=>by
  rw [sumQ,sumQ_comm f m n,← sumQ_add]
  rfl
theorem sumQ_succ' (f:Nat → Rat):∀ n,sumQ f (n+1)=f 0+sumQ (fun i=>f (i+1)) n
 | 0=>by simp only [sumQ]; grind
 | n+1=>by rw [sumQ,sumQ_succ' f n,sumQ]; grind
def absQ (x:Rat):Rat:=if 0 ≤ x then x else -x
theorem absQ_spec (x:Rat):0 ≤ absQ x ∧ x ≤ absQ x ∧ -x ≤ absQ x ∧ (absQ x=x ∧ 0 ≤ x ∨ absQ x = -x ∧ x ≤ 0):=by unfold absQ; split <;> grind
theorem absQ_le {x b:Rat} (h1:x ≤ b) (h2:-x ≤ b):absQ x ≤ b:=by unfold absQ; split <;> grind
theorem absQ_add (x y:Rat):absQ (x+y) ≤ absQ x+absQ y:=by
 obtain ⟨a1,a2,a3,_⟩:=absQ_spec x
 obtain ⟨b1,b2,b3,_⟩:=absQ_spec y
 exact absQ_le (by grind) (by grind)
theorem absQ_mul (x y:Rat):absQ (x * y)=absQ x * absQ y:=by
 obtain ⟨_,_,_,a⟩:=absQ_spec x
 obtain ⟨_,_,_,b⟩:=absQ_spec y
 obtain ⟨c1,_,_,c⟩:=absQ_spec (x * y)
 rcases a with ⟨e1,h1⟩ | ⟨e1,h1⟩ <;> rcases b with ⟨e2,h2⟩ | ⟨e2,h2⟩ <;> rw [e1,e2]
 ·have:=Rat.mul_nonneg h1 h2; grind
 ·have:=Rat.mul_nonneg h1 (show 0 ≤ -y by grind); grind
 ·have:=Rat.mul_nonneg (show 0 ≤ -x by grind) h2; grind
 ·have:=Rat.mul_nonneg (show 0 ≤ -x by grind) (show 0 ≤ -y by grind); grind
theorem absQ_sum (f:Nat → Rat):∀ n,absQ (sumQ f n) ≤ sumQ (fun i=>absQ (f i)) n
 | 0=>by simp [sumQ,absQ]
 | n+1=>by
  have h1:=absQ_sum f n
  have h2:=absQ_add (sumQ f n) (f n)
  rw [sumQ,sumQ]; grind
theorem absQ_zero:absQ 0=0:=rfl
abbrev QM:=Nat → Nat → Rat
def mulQ (n:Nat) (A B:QM):QM:=fun i j=>sumQ (fun q=>A i q * B q j) n
def oneQ:QM:=fun i j=>if i=j then 1 else 0
def TQ (n:Nat) (M:QM) (t:Rat):Nat → QM
 | 0=>oneQ
 | j+1=>fun i l=>t / ((j+1:Nat):Rat) * mulQ n (TQ n M t j) M i l
def SQ (n:Nat) (M:QM) (t:Rat):Nat → QM
 | 0=>oneQ
 | j+1=>fun i l=>SQ n M t j i l+TQ n M t (j+1) i l
def HasM (n k:Nat) (X:List (List Iv)) (A:QM):Prop:=∀ i j,i < n → j < k → (elM X i j).has (A i j)
theorem dotP_has {X Y:Nat → Iv} {f g:Nat → Rat} {p:Nat} (hp:1 ≤ p) (hp2:p ≤ 4096) (hX:∀ q,(X q).Valid) (hY:∀ q,(Y q).Valid):∀ k,(∀ q,q ≤ k → (X q).has (f q)) → (∀ q,q ≤ k → (Y q).has (g q)) →
  (dotP X Y p k).has (sumQ (fun q=>f q * g q) (k+1))
 | 0,h1,h2=>by
  have:=mulI_has (hX 0) (hY 0) hp hp2 (h1 0 (Nat.le_refl _)) (h2 0 (Nat.le_refl _))
  rw [show sumQ (fun q=>f q * g q) (0+1)=f 0 * g 0 by simp only [sumQ]; grind]
  exact this
 | k+1,h1,h2=>addI_has (dotP_valid X Y hp hp2 k) (mulI_valid _ _ hp hp2) hp hp2 (dotP_has hp hp2 hX hY k (fun q hq=>h1 q (by omega)) (fun q hq=>h2 q (by omega)))
   (mulI_has (hX _) (hY _) hp hp2 (h1 _ (Nat.le_refl _)) (h2 _ (Nat.le_refl _)))
theorem mulM_has {a b:List (List Iv)} {A B:QM} {n k c p:Nat} (ga:MOk a n k) (gb:MOk b k c) (hp:1 ≤ p) (hp2:p ≤ 4096) (h1:HasM n k a A) (h2:HasM k c b B):HasM n c (mulM a b p) (mulQ k A B):=by
 intro i j hi hj
 have k1:=ga.k1
 rw [elM_mul ga gb hi hj]
 have:=dotP_has (f:=fun q=>A i q) (g:=fun q=>B q j) hp hp2 (elM_val ga i) (fun q=>elM_val gb q j) (k - 1) (fun q hq=>h1 i q hi (by omega)) (fun q hq=>h2 q j (by omega) hj)
 rwa [show k - 1+1=k by omega] at this
theorem scaleM_has {a:List (List Iv)} {x:Iv} {A:QM} {t:Rat} {n k p:Nat} (ga:MOk a n k) (hx:x.Valid) (hp:1 ≤ p) (hp2:p ≤ 4096) (h1:HasM n k a A) (h2:x.has t):HasM n k (scaleM a x p) (fun i j=>t * A i j):=by
 intro i j hi hj
 rw [elM_scale ga hi hj]
 exact mulI_has hx (elM_val ga i j) hp hp2 h2 (h1 i j hi hj)
theorem addM_has {a b:List (List Iv)} {A B:QM} {n k p:Nat} (ga:MOk a n k) (gb:MOk b n k) (hp:1 ≤ p) (hp2:p ≤ 4096) (h1:HasM n k a A) (h2:HasM n k b B):HasM n k (addM a b p) (fun i j=>A i j+B i j):=by
 intro i j hi hj
 rw [elM_add ga gb hi hj]
 exact addI_has (elM_val ga i j) (elM_val gb i j) hp hp2 (h1 i j hi hj) (h2 i j hi hj)
theorem oneD_q:(⟨false,1,0⟩:Dy).q=1:=by rw [q_of]; simp [P2_zero]
theorem identM_has (n:Nat):HasM n n (identM n) oneQ:=by
 intro i j hi hj
 rw [elM_ident hi hj]
 unfold oneQ
 split
 ·have:=pointI_has ⟨false,1,0⟩; rwa [oneD_q] at this
 ·have:=pointI_has zeroD; rwa [q_zero] at this
theorem numN_has (j:Nat):(numI ((j:Nat):Int)).has ((j:Nat):Rat):=by have:=numI_has ((j:Nat):Int); rwa [Rat.intCast_natCast] at this
section
variable {m:List (List Iv)} {h:Iv} {M:QM} {t:Rat} {n p:Nat}
theorem termM_has (ga:MOk m n n) (hh:h.Valid) (hp:1 ≤ p) (hp2:p ≤ 4096) (h1:HasM n n m M) (h2:h.has t):∀ j,j < 4294967296 → HasM n n (termM m h p j) (TQ n M t j)
 | 0,_=>by unfold termM; rw [ga.rows]; exact identM_has n
 | j+1,hj=>scaleM_has (mulM_ok (termM_ok ga hp hp2 j) ga hp hp2) (divI_valid _ _ hp hp2) hp hp2 (mulM_has (termM_ok ga hp hp2 j) ga hp hp2 (termM_has ga hh hp hp2 h1 h2 j (by omega)) h1) (divI_has hh (numI_val (j+1) hj) hp hp2 h2 (numN_has (j+1)))
theorem sumM_has (ga:MOk m n n) (hh:h.Valid) (hp:1 ≤ p) (hp2:p ≤ 4096) (h1:HasM n n m M) (h2:h.has t):∀ j,j < 4294967296 → HasM n n (sumM m h p j) (SQ n M t j)
 | 0,_=>by unfold sumM; rw [ga.rows]; exact identM_has n
 | j+1,hj=>addM_has (sumM_ok ga hp hp2 j) (termM_ok ga hp hp2 (j+1)) hp hp2 (sumM_has ga hh hp hp2 h1 h2 j (by omega)) (termM_has ga hh hp hp2 h1 h2 (j+1) hj)
def RowLe (n:Nat) (A:QM) (b:Rat):Prop:=∀ i,i < n → sumQ (fun l=>absQ (A i l)) n ≤ b
theorem row_mul {A B:QM} {a b:Rat} (_h0:0 ≤ a) (hb:0 ≤ b) (h1:RowLe n A a) (h2:RowLe n B b):RowLe n (mulQ n A B) (a * b):=by
 intro i hi
 have e1:sumQ (fun l=>absQ (mulQ n A B i l)) n ≤ sumQ (fun l=>sumQ (fun q=>absQ (A i q) * absQ (B q l)) n) n :=
  sumQ_le n fun l _=>by
   have:=absQ_sum (fun q=>A i q * B q l) n
   rw [show (fun q=>absQ (A i q * B q l))=fun q=>absQ (A i q) * absQ (B q l) from funext fun q=>absQ_mul _ _] at this
   exact this
 rw [sumQ_comm] at e1
 have e2:sumQ (fun q=>sumQ (fun l=>absQ (A i q) * absQ (B q l)) n) n ≤ sumQ (fun q=>absQ (A i q) * b) n :=
  sumQ_le n fun q hq=>by
   rw [sumQ_mul]
   exact Rat.mul_le_mul_of_nonneg_left (h2 q hq) (absQ_spec _).1
 rw [sumQ_mul'] at e2
 exact Rat.le_trans e1 (Rat.le_trans e2 (Rat.mul_le_mul_of_nonneg_right (h1 i hi) hb))
def eQ (c:Rat):Nat → Rat
 | 0=>1
 | j+1=>eQ c j * (c / ((j+1:Nat):Rat))
theorem natPos (j:Nat):(0:Rat) < ((j+1:Nat):Rat):=Rat.natCast_pos.2 (by omega)
theorem div_nonneg' {a b:Rat} (h1:0 ≤ a) (h2:0 < b):0 ≤ a / b:=by
 rw [Rat.div_def]; exact Rat.mul_nonneg h1 (Rat.le_of_lt (Rat.inv_pos.2 h2))
theorem eQ_nonneg {c:Rat} (h:0 ≤ c):∀ j,0 ≤ eQ c j
 | 0=>by simp only [eQ]; decide
 | j+1=>Rat.mul_nonneg (eQ_nonneg h j) (div_nonneg' h (natPos j))
theorem sumQ_one (n i:Nat):sumQ (fun l=>absQ (oneQ i l)) n ≤ 1 ∧ (n ≤ i → sumQ (fun l=>absQ (oneQ i l)) n=0):=by
 induction n with
 | zero=>exact ⟨by simp only [sumQ]; grind,fun _=>rfl⟩
 | succ n ih =>
  have e1:absQ 1=1:=by decide
  simp only [sumQ,oneQ] at ih ⊢
  by_cases h:i=n
  ·have:=ih.2 (by omega)
   rw [this,if_pos h,e1]
   exact ⟨by grind,fun h'=>absurd h' (by omega)⟩
  ·rw [if_neg h,absQ_zero,Rat.add_zero]
   exact ⟨ih.1,fun h'=>ih.2 (by omega)⟩
theorem TQ_row {N:Rat} (hN:0 ≤ N) (h1:RowLe n M N):∀ j,RowLe n (TQ n M t j) (eQ (absQ t * N) j)
 | 0=>fun i _=>(sumQ_one n i).1
 | j+1=>by
  have hc:0 ≤ absQ t * N:=Rat.mul_nonneg (absQ_spec t).1 hN
  intro i hi
  have h:=row_mul (eQ_nonneg hc j) hN (TQ_row hN h1 j) h1 i hi
  have e:(fun l=>absQ (TQ n M t (j+1) i l))=fun l=>absQ (t / ((j+1:Nat):Rat)) * absQ (mulQ n (TQ n M t j) M i l):=funext fun l=>absQ_mul _ _
  rw [e,sumQ_mul]
  have ht:absQ (t / ((j+1:Nat):Rat))=absQ t / ((j+1:Nat):Rat):=by
   rw [Rat.div_def,Rat.div_def,absQ_mul]
   congr 1
   have:=Rat.inv_pos.2 (natPos j)
   unfold absQ; rw [if_pos (Rat.le_of_lt this)]
  rw [ht]
  have h3:=Rat.mul_le_mul_of_nonneg_left h (div_nonneg' (absQ_spec t).1 (natPos j))
  refine Rat.le_trans h3 ?_
  have:absQ t / ((j+1:Nat):Rat) * (eQ (absQ t * N) j * N)=eQ (absQ t * N) (j+1):=by
   simp only [eQ,Rat.div_def]; grind
  rw [this]; exact Rat.le_refl
theorem row_el {A:QM} {b:Rat} (h:RowLe n A b) {i l:Nat} (hi:i < n) (hl:l < n):absQ (A i l) ≤ b:=by
 have h1:=h i hi
 have:∀ m,l < m → absQ (A i l) ≤ sumQ (fun l=>absQ (A i l)) m:=by
  intro m hm
  induction m with
  | zero=>omega
  | succ m ih =>
   rw [sumQ]
   have h0:=sumQ_nonneg m (f:=fun l=>absQ (A i l)) fun i _=>(absQ_spec _).1
   have h2:=(absQ_spec (A i m)).1
   by_cases hq:l=m
   ·subst hq; grind
   ·have:=ih (by omega); grind
 exact Rat.le_trans (this n hl) h1
theorem tail_le {c r:Rat} {k:Nat} (hc:0 ≤ c) (hr:r=c / ((k+2:Nat):Rat)) (hr1:r ≤ 1):∀ d,(1 - r) * sumQ (fun s=>eQ c (k+1+s)) (d+1)+r * eQ c (k+1+d) ≤ eQ c (k+1)
 | 0=>by simp only [sumQ,Nat.add_zero]; grind
 | d+1=>by
  have ih:=tail_le hc hr hr1 d
  have h0:=eQ_nonneg hc (k+1+d)
  have hq:c / ((k+1+d+1:Nat):Rat) ≤ r:=by
   rw [hr,Rat.div_def,Rat.div_def]
   exact Rat.mul_le_mul_of_nonneg_left (inv_le (Rat.natCast_pos.2 (by omega)) (Rat.natCast_le_natCast.2 (by omega))) hc
  have hs:eQ c (k+1+(d+1)) ≤ r * eQ c (k+1+d):=by
   show eQ c (k+1+d) * (c / ((k+1+d+1:Nat):Rat)) ≤ _
   rw [Rat.mul_comm r]
   exact Rat.mul_le_mul_of_nonneg_left hq h0
  rw [sumQ]
  generalize sumQ (fun s=>eQ c (k+1+s)) (d+1)=S at *
  generalize eQ c (k+1+(d+1))=a' at *
  generalize eQ c (k+1+d)=a at *
  have:(1 - r) * (S+a')+r * a'=(1 - r) * S+a':=by grind
  grind
theorem SQ_diff (M:QM) (t:Rat) (k:Nat) (i l:Nat):∀ d,SQ n M t (k+d) i l=SQ n M t k i l+sumQ (fun s=>TQ n M t (k+1+s) i l) d
 | 0=>by simp only [sumQ,Nat.add_zero]; grind
 | d+1=>by
  show SQ n M t (k+d) i l+TQ n M t (k+d+1) i l=_
  rw [SQ_diff M t k i l d,sumQ,show k+d+1=k+1+d by omega]
  grind
theorem nsum_row {r:List Iv} {f:Nat → Rat} (hp:1 ≤ p) (hp2:p ≤ 4096) (v:∀ i,(r.getD i wholeI).Valid):∀ k,(∀ i,i < k → (r.getD i wholeI).has (f i)) → (∀ i,i < k → NGood r p i) → sumQ (fun i=>absQ (f i)) k ≤ (nsum r p k).q
 | 0,_,_=>by rw [show nsum r p 0=zeroD from rfl,q_zero]; exact Rat.le_refl
 | k+1,hs,hg=>by
  have ih:=nsum_row hp hp2 v k (fun i hi=>hs i (by omega)) (fun i hi=>hg i (by omega))
  obtain ⟨g1,g2⟩:=hg k (by omega)
  have mv:∀ {x:Iv},x.Valid → (magI x).Canon:=fun h=>maxD_canon (absD_canon h.canons.1) (absD_canon h.canons.2)
  have A:=rnd_up (canon_sumD (nsum_valid r hp hp2 k).canon (mv (v k))) hp hp2
  rw [q_sum] at A
  obtain ⟨a1,a2⟩:=A.1 g2
  obtain ⟨h1,h2⟩:=(hs k (by omega)).ends g1
  obtain ⟨m1,m2,_⟩:=magI_q (v k).q
  have:absQ (f k) ≤ (magI (r.getD k wholeI)).q:=absQ_le (by grind) (by grind)
  rw [sumQ]
  have:nsum r p (k+1)=rndD (sumD (nsum r p k) (magI (r.getD k wholeI))) p true:=rfl
  rw [this]; grind
theorem normM_row (ga:MOk m n n) (hp:1 ≤ p) (hp2:p ≤ 4096) (h1:HasM n n m M) {N:Dy} (hN:normM m p=some N):RowLe n M N.q ∧ 0 ≤ N.q ∧ N.Valid ∧ N.neg=false:=by
 have good:∀ i,i < n → ∀ j,j < n → NGood (m.getD i []) p j:=by
  intro i hi j hj
  apply Classical.byContradiction
  intro hc
  rw [normM_none (i:=i) (by rw [ga.rows]; exact hi) (by rw [ga.len_at hi]; exact hj) hc] at hN
  cases hN
 have e:normM m p=some (nmost m p n):=by
  rw [← ga.rows]; exact normM_some fun i hi j hj=>good i (by rw [← ga.rows]; exact hi) j (by rw [ga.len_at (by rw [← ga.rows]; exact hi)] at hj; exact hj)
 rw [e] at hN
 cases hN
 refine ⟨fun i hi=>?_,q_nn (nmost_nn m p n),nmost_valid m hp hp2 n,nmost_nn m p n⟩
 refine Rat.le_trans (nsum_row hp hp2 (elM_val ga i) n (fun j hj=>h1 i j hi hj) (good i hi)) ?_
 have:∀ x,i < x → x ≤ n → (nsum (m.getD i []) p n).q ≤ (nmost m p x).q:=by
  intro x
  induction x with
  | zero=>intro h; omega
  | succ x ih =>
   intro h1 h2
   rw [nmost_max,ga.len_at (by omega)]
   obtain ⟨a1,a2,_⟩:=q_max (nmost m p x) (nsum (m.getD x []) p n)
   by_cases hx:i=x
   ·subst hx; exact a2
   ·have:=ih (by omega) (by omega); grind
 exact this n hi (Nat.le_refl _)
theorem powI_has {u:Iv} {c:Rat} (hu:u.Valid) (hp:1 ≤ p) (hp2:p ≤ 4096) (h:u.has c):∀ j,j < 4294967296 → (powI u p j).has (eQ c j)
 | 0,_=>numI_has 1
 | j+1,hj=>by
  have hv:(powI u p j).Valid:=by
   cases j with
   | zero=>exact numI_val 1 (by decide)
   | succ j=>exact mulI_valid _ _ hp hp2
  exact mulI_has hv (divI_valid _ _ hp hp2) hp hp2 (powI_has hu hp hp2 h j (by omega)) (divI_has hu (numI_val (j+1) hj) hp hp2 h (numN_has (j+1)))
theorem restI_has (ga:MOk m n n) (hh:h.Valid) (hp:1 ≤ p) (hp2:p ≤ 4096) (h1:HasM n n m M) (h2:h.has t) {k:Nat} (hk:k < 1000) {e:Iv} (he:restI m h k p=some e) {i l:Nat} (hi:i < n) (hl:l < n) (d:Nat) :
  e.has (sumQ (fun s=>TQ n M t (k+1+s) i l) d):=by
 unfold restI at he
 cases hN:normM m p with
 | none=>rw [hN] at he; cases he
 | some N =>
  rw [hN] at he
  simp only [Option.bind_some] at he
  obtain ⟨r1,r2,r3,r4⟩:=normM_row ga hp hp2 h1 hN
  have hu:(mulI (absI h) (pointI N) p).has (absQ t * N.q):=mulI_has (absI_valid hh) (pointI_valid r3) hp hp2 (absI_has hh h2 (absQ_spec t).2.2.2) (pointI_has N)
  have uv:(mulI (absI h) (pointI N) p).Valid:=mulI_valid _ _ hp hp2
  generalize mulI (absI h) (pointI N) p=u at *
  split at he
  ·cases he
  ·rename_i hc
   simp only [Bool.or_eq_true,decide_eq_true_eq,not_or,Int.not_le] at hc
   obtain ⟨c1,c2⟩:=hc
   have c1:u.all=false:=by simpa using c1
   split at he
   ·cases he
   ·rename_i hz
    cases he
    have hz:(divI (powI u p (k+1)) (subI (numI 1) (divI u (numI (k+2:Nat)) p) p) p).all=false:=by simpa using hz
    obtain ⟨cc,hcc⟩:∃ c,c=absQ t * N.q:=⟨_,rfl⟩
    rw [← hcc] at hu
    have hc0:0 ≤ cc:=by rw [hcc]; exact Rat.mul_nonneg (absQ_spec t).1 r2
    have c4:=(q_lt _ _).1 c2
    rw [q_intD,Rat.intCast_natCast] at c4
    obtain ⟨u1,u2⟩:=hu.ends c1
    have hlt:cc < ((k+2:Nat):Rat):=by grind
    have hK:(0:Rat) < ((k+2:Nat):Rat):=Rat.natCast_pos.2 (by omega)
    have hr1:cc / ((k+2:Nat):Rat) < 1:=by
     apply Rat.lt_of_mul_lt_mul_right (c:=((k+2:Nat):Rat)) _ (Rat.le_of_lt hK)
     rw [Rat.div_mul_cancel (by grind),Rat.one_mul]; exact hlt
    have pv:(powI u p (k+1)).Valid:=mulI_valid _ _ hp hp2
    have dv:(divI u (numI (k+2:Nat)) p).Valid:=divI_valid _ _ hp hp2
    have sv:(subI (numI 1) (divI u (numI (k+2:Nat)) p) p).Valid:=addI_valid (numI_val 1 (by decide)) (negI_valid dv) hp hp2
    have hs:=subI_has (numI_val 1 (by decide)) dv hp hp2 (numI_has 1) (divI_has uv (numI_val (k+2) (by omega)) hp hp2 hu (numN_has (k+2)))
    have hE:=(divI_has pv sv hp hp2 (powI_has uv hp hp2 hu (k+1) (by omega)) hs).ends hz
    generalize divI (powI u p (k+1)) (subI (numI 1) (divI u (numI (k+2:Nat)) p) p) p=E at *
    have o:((1:Int):Rat)=1:=rfl
    rw [o] at hE
    have hsum:absQ (sumQ (fun s=>TQ n M t (k+1+s) i l) d) ≤ E.hi.q:=by
     have e1:=absQ_sum (fun s=>TQ n M t (k+1+s) i l) d
     have e2:sumQ (fun s=>absQ (TQ n M t (k+1+s) i l)) d ≤ sumQ (fun s=>eQ cc (k+1+s)) d:=sumQ_le d fun s _=>by rw [hcc]; exact row_el (TQ_row r2 r1 (k+1+s)) hi hl
     have e3:sumQ (fun s=>eQ cc (k+1+s)) d ≤ sumQ (fun s=>eQ cc (k+1+s)) (d+1):=by
      rw [sumQ]; have:=eQ_nonneg hc0 (k+1+d); grind
     have e4:=tail_le hc0 rfl (Rat.le_of_lt hr1) (k:=k) d
     have e5:=eQ_nonneg hc0 (k+1+d)
     have hr0:0 ≤ cc / ((k+2:Nat):Rat):=div_nonneg' hc0 hK
     generalize cc / ((k+2:Nat):Rat)=r at *
     have e6:=Rat.mul_nonneg hr0 e5
     have hpos:(0:Rat) < 1 - r:=by grind
     refine Rat.le_trans (Rat.le_trans e1 (Rat.le_trans e2 e3)) (Rat.le_trans ?_ hE.2)
     apply Rat.le_of_mul_le_mul_right (c:=1 - r) _ hpos
     rw [Rat.div_mul_cancel (by grind)]
     grind
    obtain ⟨a1,a2,a3,_⟩:=absQ_spec (sumQ (fun s=>TQ n M t (k+1+s) i l) d)
    refine .inr ⟨?_,?_⟩
    ·show (negD E.hi).q ≤ _
     rw [q_neg]; grind
    ·show _ ≤ E.hi.q
     grind
theorem expM_has (ga:MOk m n n) (hh:h.Valid) (hp:1 ≤ p) (hp2:p ≤ 4096) (h1:HasM n n m M) (h2:h.has t) (ha:h.all=false) {k:Nat} (hk:k < 1000) {X:List (List Iv)} (hX:expM m h k p=some X) (N:Nat) (hN:k ≤ N) :
  HasM n n X (SQ n M t N):=by
 unfold expM at hX
 cases hr:restI m h k p with
 | none=>rw [hr] at hX; cases hX
 | some e =>
  rw [hr] at hX
  simp only [Option.bind_some] at hX
  split at hX
  ·cases hX
  ·cases hX
   intro i l hi hl
   have s1:=sumM_ok (h:=h) ga hp hp2 k
   obtain ⟨_,_,_,v,_⟩:=restI_sub ga ga hh hh hk hp hp2 (fun i j _ _=>Sub.refl _) (Sub.refl _) ha hr
   have v:e.Valid:=by
    obtain ⟨e',he',_,v',_⟩:=restI_sub ga ga hh hh hk hp hp2 (fun i j _ _=>Sub.refl _) (Sub.refl _) ha hr
    rw [hr] at he'; cases he'; exact v'
   rw [elM_map s1 _ hi hl]
   obtain ⟨d,rfl⟩:∃ d,N=k+d:=⟨N - k,by omega⟩
   rw [SQ_diff]
   exact addI_has (elM_val s1 i l) v hp hp2 (sumM_has ga hh hp hp2 h1 h2 k (by omega) i l hi hl) (restI_has ga hh hp hp2 h1 h2 hk hr hi hl d)
end
open Go.RowKit Fp Pu
theorem sumQ_tri (g:Nat → Nat → Rat):∀ m,sumQ (fun j=>sumQ (g j) (m - j)) m=sumQ (fun s=>sumQ (fun j=>g j (s - j)) (s+1)) m
 | 0=>rfl
 | m+1=>by
  have ih:=sumQ_tri g m
  have e1:sumQ (fun j=>sumQ (g j) (m+1 - j)) m=sumQ (fun j=>sumQ (g j) (m - j)+g j (m - j)) m :=
   sumQ_congr m fun j hj=>by rw [show m+1 - j=m - j+1 by omega]; rfl
  have h1:sumQ (g m) (m+1 - m)=g m 0:=by
   rw [show m+1 - m=0+1 by omega]; simp only [sumQ]; grind
  have h2:sumQ (fun j=>g j (m - j)) (m+1)=sumQ (fun j=>g j (m - j)) m+g m (m - m):=rfl
  show sumQ (fun j=>sumQ (g j) (m+1 - j)) m+sumQ (g m) (m+1 - m)=sumQ (fun s=>sumQ (fun j=>g j (s - j)) (s+1)) m+sumQ (fun j=>g j (m - j)) (m+1)
  rw [e1,sumQ_add,h1,h2,ih,Nat.sub_self]
  grind
theorem sumQ_mono {f:Nat → Rat} (h:∀ i,0 ≤ f i) {m k:Nat} (hk:m ≤ k):sumQ f m ≤ sumQ f k:=by
 induction k with
 | zero =>
  have:m=0:=by omega
  rw [this]; exact Rat.le_refl
 | succ k ih =>
  by_cases hm:m=k+1
  ·rw [hm]; exact Rat.le_refl
  ·have:=ih (by omega)
   have:=h k
   rw [sumQ]; grind
theorem sumQ_split (f:Nat → Rat) (m:Nat):∀ d,sumQ f (m+d)=sumQ f m+sumQ (fun i=>f (m+i)) d
 | 0=>by simp only [sumQ,Nat.add_zero]; grind
 | d+1=>by
  show sumQ f (m+d)+f (m+d)=_
  rw [sumQ_split f m d,sumQ]; grind
theorem eQ_step (c:Rat) (j:Nat):eQ c (j+1) * ((j+1:Nat):Rat)=c * eQ c j:=by
 have h:c / ((j+1:Nat):Rat) * ((j+1:Nat):Rat)=c:=Rat.div_mul_cancel (by have:=natPos j; grind)
 simp only [eQ]; grind
theorem natCast_succ (j:Nat):((j+1:Nat):Rat)=(j:Rat)+1:=by rw [Rat.natCast_add]; rfl
theorem bin_eQ (a b:Rat):∀ s,sumQ (fun j=>eQ b j * eQ a (s - j)) (s+1)=eQ (a+b) s
 | 0=>by
  show 0+eQ b 0 * eQ a 0=1
  simp only [eQ]; grind
 | s+1=>by
  have ih:=bin_eQ a b s
  have hp:=natPos s
  have key:sumQ (fun j=>eQ b j * eQ a (s+1 - j)) (s+2) * ((s+1:Nat):Rat)=(a+b) * eQ (a+b) s:=by
   have e0:sumQ (fun j=>eQ b j * eQ a (s+1 - j)) (s+2) * ((s+1:Nat):Rat)=sumQ (fun j=>(j:Rat) * (eQ b j * eQ a (s+1 - j))+eQ b j * (((s+1 - j:Nat):Rat) * eQ a (s+1 - j))) (s+2):=by
    rw [← sumQ_mul']
    refine sumQ_congr _ fun j hj=>?_
    have:((s+1:Nat):Rat)=(j:Rat)+((s+1 - j:Nat):Rat):=by rw [← Rat.natCast_add]; congr 1; omega
    rw [this]; grind
   rw [e0,sumQ_add]
   have e1:sumQ (fun j=>(j:Rat) * (eQ b j * eQ a (s+1 - j))) (s+2)=b * eQ (a+b) s:=by
    rw [sumQ_succ',← ih,← sumQ_mul]
    have z:(((0:Nat):Rat))=0:=rfl
    rw [z,Rat.zero_mul,Rat.zero_add]
    refine sumQ_congr _ fun j hj=>?_
    have h1:=eQ_step b j
    rw [show s+1 - (j+1)=s - j by omega]
    grind
   have e2:sumQ (fun j=>eQ b j * (((s+1 - j:Nat):Rat) * eQ a (s+1 - j))) (s+2)=a * eQ (a+b) s:=by
    rw [show s+2=(s+1)+1 by omega,sumQ,Nat.sub_self,← ih,← sumQ_mul]
    have z:(((0:Nat):Rat))=0:=rfl
    rw [z,Rat.zero_mul,Rat.mul_zero,Rat.add_zero]
    refine sumQ_congr _ fun j hj=>?_
    have h1:=eQ_step a (s - j)
    rw [show s+1 - j=s - j+1 by omega]
    grind
   rw [e1,e2]; grind
  have h2:=eQ_step (a+b) s
  have h3:sumQ (fun j=>eQ b j * eQ a (s+1 - j)) (s+2) * ((s+1:Nat):Rat)=eQ (a+b) (s+1) * ((s+1:Nat):Rat):=by rw [key,h2]
  exact Rat.le_antisymm (Rat.le_of_mul_le_mul_right (by rw [h3]; exact Rat.le_refl) hp) (Rat.le_of_mul_le_mul_right (by rw [h3]; exact Rat.le_refl) hp)
theorem eQ_abs (c:Rat):∀ j,absQ (eQ c j)=eQ (absQ c) j
 | 0=>by simp only [eQ]; decide
 | j+1=>by
  simp only [eQ]
  rw [absQ_mul,eQ_abs c j]
  congr 1
  rw [Rat.div_def,Rat.div_def,absQ_mul]
  congr 1
  have:=Rat.inv_pos.2 (natPos j)
  unfold absQ; rw [if_pos (Rat.le_of_lt this)]
def powQ (v:Rat):Nat → Rat
 | 0=>1
 | j+1=>powQ v j * v
theorem powQ_add (v:Rat) (i:Nat):∀ j,powQ v (i+j)=powQ v i * powQ v j
 | 0=>by simp only [powQ,Nat.add_zero]; grind
 | j+1=>by
  show powQ v (i+j) * v=_
  rw [powQ_add v i j,powQ]; grind
theorem powQ_nonneg {v:Rat} (h:0 ≤ v):∀ j,0 ≤ powQ v j
 | 0=>by simp only [powQ]; decide
 | j+1=>Rat.mul_nonneg (powQ_nonneg h j) h
theorem eQ_scale (c v:Rat):∀ j,eQ (c * v) j=eQ c j * powQ v j
 | 0=>by simp only [eQ,powQ]; grind
 | j+1=>by
  simp only [eQ,powQ]
  rw [eQ_scale c v j]
  simp only [Rat.div_def]; grind
theorem arch (q:Rat):∃ n:Nat,q ≤ (n:Rat):=by
 refine ⟨q.ceil.toNat,?_⟩
 have h1:q ≤ (q.ceil:Rat):=Rat.le_ceil
 have h2:((q.ceil:Int):Rat) ≤ ((q.ceil.toNat:Nat):Rat):=by
  rw [← Rat.intCast_natCast,Rat.intCast_le_intCast]; omega
 exact Rat.le_trans h1 h2
theorem tail_half {z:Rat} {J:Nat} (hz:0 ≤ z) (hJ:z * 2 ≤ (J:Rat)) {m:Nat} (hm:J ≤ m):eQ z (m+1) * 2 ≤ eQ z m:=by
 have h0:=eQ_nonneg hz m
 have h1:=eQ_step z m
 have hp:=natPos m
 have hJm:z * 2 ≤ ((m+1:Nat):Rat):=Rat.le_trans hJ (Rat.natCast_le_natCast.2 (by omega))
 apply Rat.le_of_mul_le_mul_right (c:=((m+1:Nat):Rat)) _ hp
 have h2:=Rat.mul_le_mul_of_nonneg_left hJm h0
 grind
theorem tail_sum {z:Rat} {J:Nat} (hz:0 ≤ z) (hJ:z * 2 ≤ (J:Rat)) {m:Nat} (hm:J ≤ m):∀ d,sumQ (fun i=>eQ z (m+i)) d+eQ z (m+d) * 2 ≤ eQ z m * 2
 | 0=>by simp only [sumQ,Nat.add_zero]; grind
 | d+1=>by
  have ih:=tail_sum hz hJ hm d
  have h1:=tail_half hz hJ (show J ≤ m+d by omega)
  rw [sumQ,show m+(d+1)=m+d+1 by omega]
  grind
theorem tail_pow {z:Rat} {J:Nat} (hz:0 ≤ z) (hJ:z * 2 ≤ (J:Rat)):∀ r:Nat,eQ z (J+r) * ((2 ^ r:Nat):Rat) ≤ eQ z J
 | 0=>by simp
 | r+1=>by
  have ih:=tail_pow hz hJ r
  have h1:=tail_half hz hJ (show J ≤ J+r by omega)
  have hp:(0:Rat) ≤ ((2 ^ r:Nat):Rat):=Rat.natCast_nonneg
  have h2:=Rat.mul_le_mul_of_nonneg_right h1 hp
  rw [show (2 ^ (r+1):Nat)=2 ^ r * 2 from Nat.pow_succ _ _,Rat.natCast_mul,show J+(r+1)=J+r+1 by omega]
  have e:((2:Nat):Rat)=2:=rfl
  rw [e]; grind
theorem tail_small {z ε:Rat} (hz:0 ≤ z) (hε:0 < ε):∃ m0,∀ m,m0 ≤ m → ∀ d,sumQ (fun i=>eQ z (m+i)) d ≤ ε:=by
 obtain ⟨J,hJ⟩:=arch (z * 2)
 obtain ⟨r,hr⟩:=arch (eQ z J * 2 / ε)
 refine ⟨J+r,fun m hm d=>?_⟩
 obtain ⟨t,rfl⟩:∃ t,m=J+t:=⟨m - J,by omega⟩
 have h1:=tail_sum hz hJ (show J ≤ J+t by omega) d
 have h2:=tail_pow hz hJ t
 have h3:=eQ_nonneg hz (J+t+d)
 have h4:=eQ_nonneg hz (J+t)
 have hrt:(r:Rat) ≤ ((2 ^ t:Nat):Rat):=Rat.natCast_le_natCast.2 (Nat.le_of_lt (Nat.lt_of_le_of_lt (show r ≤ t by omega) Nat.lt_two_pow_self))
 have h5:eQ z J * 2 ≤ ε * ((2 ^ t:Nat):Rat):=by
  have h6:eQ z J * 2 / ε * ε=eQ z J * 2:=Rat.div_mul_cancel (by grind)
  have h7:=Rat.mul_le_mul_of_nonneg_right (Rat.le_trans hr hrt) (Rat.le_of_lt hε)
  grind
 have hp:(0:Rat) < ((2 ^ t:Nat):Rat):=Rat.natCast_pos.2 (Nat.pow_pos (by decide))
 have h8:eQ z (J+t) * 2 ≤ ε:=by
  apply Rat.le_of_mul_le_mul_right (c:=((2 ^ t:Nat):Rat)) _ hp
  grind
 grind
def MP (n:Nat) (M:QM):Nat → QM
 | 0=>oneQ
 | j+1=>mulQ n (MP n M j) M
section
variable {n:Nat} {M:QM}
theorem TQ_MP (t:Rat):∀ j i l,TQ n M t j i l=eQ t j * MP n M j i l
 | 0,i,l=>by simp only [TQ,eQ,MP]; grind
 | j+1,i,l=>by
  show t / ((j+1:Nat):Rat) * sumQ (fun q=>TQ n M t j i q * M q l) n=eQ t j * (t / ((j+1:Nat):Rat)) * sumQ (fun q=>MP n M j i q * M q l) n
  rw [sumQ_congr n fun q _=>show TQ n M t j i q * M q l=eQ t j * (MP n M j i q * M q l) by rw [TQ_MP t j i q]; grind,sumQ_mul]
  grind
theorem SQ_MP (t:Rat) (i l:Nat):∀ N,SQ n M t N i l=sumQ (fun j=>eQ t j * MP n M j i l) (N+1)
 | 0=>by simp only [SQ,sumQ,eQ,MP]; grind
 | N+1=>by
  show SQ n M t N i l+TQ n M t (N+1) i l=_
  rw [SQ_MP t i l N,TQ_MP]; rfl
theorem mulQ_one (A:QM) (i:Nat) {l:Nat} (hl:l < n):mulQ n A oneQ i l=A i l:=by
 have:∀ m,sumQ (fun q=>A i q * oneQ q l) m=if l < m then A i l else 0:=by
  intro m
  induction m with
  | zero=>simp [sumQ]
  | succ m ih =>
   rw [sumQ,ih]
   unfold oneQ
   by_cases h1:l < m
   ·rw [if_pos h1,if_neg (show ¬ m=l by omega),if_pos (show l < m+1 by omega)]; grind
   ·by_cases h2:m=l
    ·subst h2; rw [if_neg h1,if_pos rfl,if_pos (show m < m+1 by omega)]; grind
    ·rw [if_neg h1,if_neg h2,if_neg (show ¬ l < m+1 by omega)]; grind
 unfold mulQ
 rw [this,if_pos hl]
theorem mulQ_assoc (A B C:QM) (i l:Nat):mulQ n A (mulQ n B C) i l=mulQ n (mulQ n A B) C i l:=by
 unfold mulQ
 have e1:∀ q,A i q * sumQ (fun r=>B q r * C r l) n=sumQ (fun r=>A i q * (B q r * C r l)) n:=fun q=>(sumQ_mul _ _ n).symm
 have e2:∀ r,sumQ (fun q=>A i q * B q r) n * C r l=sumQ (fun q=>A i q * B q r * C r l) n:=fun r=>(sumQ_mul' _ _ n).symm
 rw [sumQ_congr n fun q _=>e1 q,sumQ_congr (f:=fun q=>sumQ (fun q_1=>A i q_1 * B q_1 q) n * C q l) n fun r _=>e2 r,sumQ_comm]
 exact sumQ_congr n fun r _=>sumQ_congr n fun q _=>by grind
theorem MP_add (j:Nat):∀ k i l,l < n → mulQ n (MP n M j) (MP n M k) i l=MP n M (j+k) i l
 | 0,i,l,hl=>mulQ_one _ i hl
 | k+1,i,l,hl=>by
  show mulQ n (MP n M j) (mulQ n (MP n M k) M) i l=mulQ n (MP n M (j+k)) M i l
  rw [mulQ_assoc]
  exact sumQ_congr n fun q hq=>by rw [MP_add j k i q hq]
theorem MP_row {v:Rat} (hv:0 ≤ v) (h:RowLe n M v):∀ j,RowLe n (MP n M j) (powQ v j)
 | 0=>fun i _=>(sumQ_one n i).1
 | j+1=>row_mul (powQ_nonneg hv j) hv (MP_row hv h j) h
theorem row_ex (n:Nat) (M:QM):∃ v,0 ≤ v ∧ RowLe n M v:=by
 refine ⟨sumQ (fun i=>sumQ (fun l=>absQ (M i l)) n) n,sumQ_nonneg n fun i _=>sumQ_nonneg n fun l _=>(absQ_spec _).1,fun i hi=>?_⟩
 have:∀ m,i < m → sumQ (fun l=>absQ (M i l)) n ≤ sumQ (fun i=>sumQ (fun l=>absQ (M i l)) n) m:=by
  intro m hm
  induction m with
  | zero=>omega
  | succ m ih =>
   rw [sumQ]
   have h0:0 ≤ sumQ (fun l=>absQ (M m l)) n:=sumQ_nonneg n fun l _=>(absQ_spec _).1
   have h1:0 ≤ sumQ (fun i=>sumQ (fun l=>absQ (M i l)) n) m:=sumQ_nonneg m fun i _=>sumQ_nonneg n fun l _=>(absQ_spec _).1
   by_cases hq:i=m
   ·subst hq; grind
   ·have:=ih (by omega); grind
 exact this n hi
theorem prod_MP (a b:Rat) (N:Nat) (i:Nat) {l:Nat} (hl:l < n):mulQ n (SQ n M b N) (SQ n M a N) i l=sumQ (fun j=>sumQ (fun k=>eQ b j * eQ a k * MP n M (j+k) i l) (N+1)) (N+1):=by
 unfold mulQ
 have e1:∀ q,SQ n M b N i q * SQ n M a N q l=sumQ (fun j=>sumQ (fun k=>eQ b j * eQ a k * (MP n M j i q * MP n M k q l)) (N+1)) (N+1):=by
  intro q
  rw [SQ_MP,SQ_MP,← sumQ_mul']
  refine sumQ_congr _ fun j _=>?_
  rw [← sumQ_mul]
  exact sumQ_congr _ fun k _=>by grind
 rw [sumQ_congr n fun q _=>e1 q,sumQ_comm]
 refine sumQ_congr _ fun j _=>?_
 rw [sumQ_comm]
 refine sumQ_congr _ fun k _=>?_
 rw [← MP_add j k i l hl,sumQ_mul]
 rfl
theorem tri_MP (a b:Rat) (N:Nat) (i l:Nat):sumQ (fun j=>sumQ (fun k=>eQ b j * eQ a k * MP n M (j+k) i l) (N+1 - j)) (N+1)=SQ n M (a+b) N i l:=by
 rw [sumQ_tri (fun j k=>eQ b j * eQ a k * MP n M (j+k) i l),SQ_MP]
 refine sumQ_congr _ fun s _=>?_
 rw [← bin_eQ,← sumQ_mul']
 exact sumQ_congr _ fun j hj=>by rw [show j+(s - j)=s by omega]
theorem sq_tri (g:Nat → Nat → Rat) (m:Nat):sumQ (fun j=>sumQ (g j) m) m=sumQ (fun j=>sumQ (g j) (m - j)) m+sumQ (fun j=>sumQ (fun k=>g j (m - j+k)) j) m:=by
 rw [← sumQ_add]
 refine sumQ_congr _ fun j hj=>?_
 rw [← sumQ_split,show m - j+j=m by omega]
theorem group_diff {v:Rat} (hv:0 ≤ v) (h:RowLe n M v) (a b:Rat) (N:Nat) {i l:Nat} (hi:i < n) (hl:l < n) :
  absQ (mulQ n (SQ n M b N) (SQ n M a N) i l - SQ n M (a+b) N i l) ≤ sumQ (fun s=>eQ (absQ a * v+absQ b * v) (N+1+s)) (N+1):=by
 have hx:0 ≤ absQ a * v:=Rat.mul_nonneg (absQ_spec a).1 hv
 have hy:0 ≤ absQ b * v:=Rat.mul_nonneg (absQ_spec b).1 hv
 have e1:mulQ n (SQ n M b N) (SQ n M a N) i l=SQ n M (a+b) N i l+sumQ (fun j=>sumQ (fun k=>eQ b j * eQ a (N+1 - j+k) * MP n M (j+(N+1 - j+k)) i l) j) (N+1):=by
  have:=sq_tri (fun j k=>eQ b j * eQ a k * MP n M (j+k) i l) (N+1)
  rw [tri_MP,← prod_MP a b N i hl] at this
  exact this
 have e2:mulQ n (SQ n M b N) (SQ n M a N) i l - SQ n M (a+b) N i l=sumQ (fun j=>sumQ (fun k=>eQ b j * eQ a (N+1 - j+k) * MP n M (j+(N+1 - j+k)) i l) j) (N+1):=by grind
 rw [e2]
 have e3:absQ (sumQ (fun j=>sumQ (fun k=>eQ b j * eQ a (N+1 - j+k) * MP n M (j+(N+1 - j+k)) i l) j) (N+1)) ≤ sumQ (fun j=>sumQ (fun k=>eQ (absQ b * v) j * eQ (absQ a * v) (N+1 - j+k)) j) (N+1):=by
  refine Rat.le_trans (absQ_sum _ _) (sumQ_le _ fun j _=>Rat.le_trans (absQ_sum _ _) (sumQ_le _ fun k _=>?_))
  rw [absQ_mul,absQ_mul,eQ_abs,eQ_abs,eQ_scale,eQ_scale]
  have hr:=row_el (MP_row hv h (j+(N+1 - j+k))) hi hl
  rw [powQ_add] at hr
  have h1:=eQ_nonneg (absQ_spec b).1 j
  have h2:=eQ_nonneg (absQ_spec a).1 (N+1 - j+k)
  have h3:=Rat.mul_le_mul_of_nonneg_left hr (Rat.mul_nonneg h1 h2)
  grind
 refine Rat.le_trans e3 ?_
 have q1:sumQ (fun j=>sumQ (fun k=>eQ (absQ b * v) j * eQ (absQ a * v) k) (N+1)) (N+1)=sumQ (fun j=>sumQ (fun k=>eQ (absQ b * v) j * eQ (absQ a * v) k) (N+1 - j)) (N+1)+sumQ (fun j=>sumQ (fun k=>eQ (absQ b * v) j * eQ (absQ a * v) (N+1 - j+k)) j) (N+1) :=
  sq_tri (fun j k=>eQ (absQ b * v) j * eQ (absQ a * v) k) (N+1)
 have q2:sumQ (fun j=>sumQ (fun k=>eQ (absQ b * v) j * eQ (absQ a * v) k) (N+1 - j)) (N+1)=sumQ (fun s=>eQ (absQ a * v+absQ b * v) s) (N+1):=by
  rw [sumQ_tri (fun j k=>eQ (absQ b * v) j * eQ (absQ a * v) k)]
  exact sumQ_congr _ fun s _=>bin_eQ _ _ s
 have G0:∀ j k,0 ≤ eQ (absQ b * v) j * eQ (absQ a * v) k:=fun j k=>Rat.mul_nonneg (eQ_nonneg hy j) (eQ_nonneg hx k)
 have q3:sumQ (fun j=>sumQ (fun k=>eQ (absQ b * v) j * eQ (absQ a * v) k) (N+1)) (N+1) ≤ sumQ (fun s=>eQ (absQ a * v+absQ b * v) s) (N+1+(N+1)):=by
  rw [← sumQ_congr (f:=fun s=>sumQ (fun j=>eQ (absQ b * v) j * eQ (absQ a * v) (s - j)) (s+1)) _ fun s _=>bin_eQ _ _ s,← sumQ_tri (fun j k=>eQ (absQ b * v) j * eQ (absQ a * v) k)]
  refine Rat.le_trans (sumQ_le _ fun j hj=>sumQ_mono (fun k=>G0 j k) (show N+1 ≤ N+1+(N+1) - j by omega)) ?_
  exact sumQ_mono (fun j=>sumQ_nonneg _ fun k _=>G0 j k) (by omega)
 rw [sumQ_split (fun s=>eQ (absQ a * v+absQ b * v) s) (N+1) (N+1),q1,q2] at q3
 have cancel:∀ A B C:Rat,A+B ≤ A+C → B ≤ C:=by intro A B C h; grind
 exact cancel _ _ _ q3
theorem group_lim (n:Nat) (M:QM) (a b:Rat) {ε:Rat} (hε:0 < ε):∃ N0,∀ N,N0 ≤ N → ∀ i l,i < n → l < n → absQ (mulQ n (SQ n M b N) (SQ n M a N) i l - SQ n M (a+b) N i l) ≤ ε:=by
 obtain ⟨v,hv,h⟩:=row_ex n M
 have hz:0 ≤ absQ a * v+absQ b * v:=by
  have hx:0 ≤ absQ a * v:=Rat.mul_nonneg (absQ_spec a).1 hv
  have hy:0 ≤ absQ b * v:=Rat.mul_nonneg (absQ_spec b).1 hv
  grind
 obtain ⟨m0,h0⟩:=tail_small hz hε
 exact ⟨m0,fun N hN i l hi hl=>Rat.le_trans (group_diff hv h a b N hi hl) (h0 (N+1) (by omega) (N+1))⟩
theorem SQ_zero (N:Nat) (i l:Nat):SQ n M 0 N i l=oneQ i l:=by
 induction N with
 | zero=>rfl
 | succ N ih =>
  show SQ n M 0 N i l+TQ n M 0 (N+1) i l=_
  rw [ih,TQ_MP]
  simp only [eQ,Rat.div_def]; grind
end
end Go.Proofs.YtdppllbbgfekaaaGreatDoor
namespace Go.Proofs.YtdppllbbgfekaaaGreatDoor.Fp
theorem canon_far {s:Bool} {m:Nat} {e:Int} (hm:bitsN m ≤ 60000) (he1:-60000 ≤ e) (he2:e ≤ 60000):(limbs (canon s m e).m).length ≤ 2900 ∧ -200000 ≤ (canon s m e).e ∧ (canon s m e).e ≤ 200000:=by
 by_cases h0:m=0
 ·subst h0; rw [canon_zero]; exact ⟨by rw [show zeroD.m=0 from rfl,limbs_zero]; decide,by decide,by decide⟩
 ·obtain ⟨h1,h2,h3,h4⟩:=canon_bits (s:=s) (e:=e) h0
  have h5:=bitsN_pos h3
  exact ⟨limbs_len_bits (by omega),by omega,by omega⟩
theorem prod_far {a b:Dy} (ha:a.Valid) (hb:b.Valid):(limbs (prodD a b).m).length ≤ 2900 ∧ -200000 ≤ (prodD a b).e ∧ (prodD a b).e ≤ 200000:=by
 have h1:=ha.bits
 have h2:=hb.bits
 have h3:=ha.exp
 have h4:=hb.exp
 have h5:bitsN (a.m * b.m) ≤ bitsN a.m+bitsN b.m:=by
  rw [bitsN_le_iff,Nat.pow_add]
  exact Nat.mul_lt_mul'' (lt_two_pow_bitsN a.m) (lt_two_pow_bitsN b.m)
 exact canon_far (by omega) (by omega) (by omega)
theorem num_bits {a:Dy} {k:Int} (h:k ≤ a.e):bitsN (a.num k).natAbs ≤ bitsN a.m+(a.e - k).toNat:=by
 have e:(a.num k).natAbs=a.m * 2 ^ (a.e - k).toNat:=by
  unfold Dy.num Dy.mag; split
  ·rw [Int.natAbs_neg]; exact Int.natAbs_natCast _
  ·exact Int.natAbs_natCast _
 rw [e]
 by_cases h0:a.m=0
 ·rw [h0,Nat.zero_mul]; exact Nat.zero_le _
 ·rw [bitsN_mul_pow h0]; exact Nat.le_refl _
theorem sum_far {a b:Dy} (ha:a.Valid) (hb:b.Valid):(limbs (sumD a b).m).length ≤ 2900 ∧ -200000 ≤ (sumD a b).e ∧ (sumD a b).e ≤ 200000:=by
 have h1:=ha.bits
 have h2:=hb.bits
 have h3:=ha.exp
 have h4:=hb.exp
 have la:=ha.len
 have lb:=hb.len
 unfold sumD
 split
 ·exact ⟨by omega,by omega,by omega⟩
 ·split
  ·exact ⟨by omega,by omega,by omega⟩
  ·have g1:=num_bits (a:=a) (k:=min a.e b.e) (by omega)
   have g2:=num_bits (a:=b) (k:=min a.e b.e) (by omega)
   refine canon_far ?_ (by omega) (by omega)
   obtain ⟨K,hK⟩:∃ K,K=40000:=⟨_,rfl⟩
   have g3:=bitsN_le_iff.1 (Nat.le_trans g1 (show bitsN a.m+(a.e - min a.e b.e).toNat ≤ K by omega))
   have g4:=bitsN_le_iff.1 (Nat.le_trans g2 (show bitsN b.m+(b.e - min a.e b.e).toNat ≤ K by omega))
   refine Nat.le_trans ((bitsN_le_iff (k:=K+1)).2 ?_) (show K+1 ≤ 60000 by omega)
   have g5:(a.num (min a.e b.e)+b.num (min a.e b.e)).natAbs ≤ (a.num (min a.e b.e)).natAbs+(b.num (min a.e b.e)).natAbs:=Int.natAbs_add_le _ _
   rw [Nat.pow_succ]
   generalize 2 ^ K=P at *
   omega
theorem cmp_zero_eq {a b:Dy} (ha:a.Valid) (hb:b.Valid) (h:cmpD a b=0):a=b:=by
 have h1:Above a (min a.e b.e):=.inr (by omega)
 have h2:Above b (min a.e b.e):=.inr (by omega)
 rw [cmpD_at h1 h2] at h
 refine dy_ext ha.canon hb.canon h1 h2 ?_
 unfold cmpI at h
 split at h
 ·omega
 ·split at h <;> omega
theorem maxD_is {a b c:Dy} (ha:a.Valid) (hb:b.Valid) (hc:c.Valid) (h1:cmpD a c ≤ 0) (h2:cmpD b c ≤ 0) (h3:c=a ∨ c=b):maxD a b=c:=by
 unfold maxD
 rcases h3 with rfl | rfl
 ·rw [if_neg (by omega)]
 ·split
  ·rfl
  ·rename_i h
   have:=cmpD_neg a c
   exact cmp_zero_eq ha hc (by omega)
theorem minD_is {a b c:Dy} (ha:a.Valid) (hb:b.Valid) (hc:c.Valid) (h1:cmpD c a ≤ 0) (h2:cmpD c b ≤ 0) (h3:c=a ∨ c=b):minD a b=c:=by
 unfold minD
 rcases h3 with rfl | rfl
 ·have:=cmpD_neg c b
  rw [if_neg (by omega)]
 ·split
  ·rfl
  ·rename_i h
   have:=cmpD_neg a c
   exact cmp_zero_eq ha hc (by omega)
theorem num_abs (d:Dy) (k:Int):(absD d).num k=((d.num k).natAbs:Int):=by
 unfold Dy.num Dy.mag absD
 cases d.neg
 ·simp; exact (Int.natAbs_natCast (d.m * 2 ^ (d.e - k).toNat)).symm ▸ by simp
 ·simp only [Bool.false_eq_true,if_false,if_true]; rw [Int.natAbs_neg,Int.natAbs_natCast]
theorem abs_nn {d:Dy} (hd:d.Canon) {k:Int} (h:0 ≤ d.num k):absD d=d:=by
 rcases hd with ⟨h1,h2,h3⟩ | h1
 ·unfold absD; rw [← h2]
 ·cases hn:d.neg with
  | false=>unfold absD; rw [← hn]
  | true =>
   have:0 < d.mag k:=mag_pos (by omega) k
   unfold Dy.num at h; rw [hn,if_pos rfl] at h; omega
theorem abs_np {d:Dy} (hd:d.Canon) {k:Int} (h:d.num k ≤ 0):absD d=negD d:=by
 rcases hd with ⟨h1,h2,h3⟩ | h1
 ·unfold absD negD; rw [h1,h2]; simp
 ·cases hn:d.neg with
  | true=>unfold absD negD; rw [hn]; simp
  | false =>
   have:0 < d.mag k:=mag_pos (by omega) k
   unfold Dy.num at h; rw [hn,if_neg (by decide)] at h; omega
theorem mag_refS {x:Iv} (h1:x.lo.Valid) (h2:x.hi.Valid) (h3:cmpD x.lo x.hi ≤ 0):magI x=maxD (negD x.lo) x.hi:=by
 obtain ⟨k,ka,kb⟩:∃ k:Int,k ≤ x.lo.e ∧ k ≤ x.hi.e:=⟨min x.lo.e x.hi.e,by omega,by omega⟩
 have aL:Above x.lo k:=.inr ka
 have aH:Above x.hi k:=.inr kb
 have aN:Above (negD x.lo) k:=above_negD aL
 have aA:Above (absD x.lo) k:=aL
 have aB:Above (absD x.hi) k:=aH
 have hle:=(le_iff aL aH).1 h3
 have n1:=num_neg (d:=x.lo) k
 have n2:=num_abs x.lo k
 have n3:=num_abs x.hi k
 unfold magI
 by_cases hc:0 < cmpD x.hi (negD x.lo)
 ·have e:maxD (negD x.lo) x.hi=x.hi:=by unfold maxD; rw [if_pos hc]
  have hgt:¬ x.hi.num k ≤ (negD x.lo).num k:=fun h=>by have:=(le_iff aH aN).2 h; omega
  rw [e]
  exact maxD_is (absD_valid h1) (absD_valid h2) h2 ((le_iff aA aH).2 (by omega)) ((le_iff aB aH).2 (by omega)) (.inr (abs_nn h2.canon (k:=k) (by omega)).symm)
 ·have e:maxD (negD x.lo) x.hi=negD x.lo:=by unfold maxD; rw [if_neg hc]
  have hge:x.hi.num k ≤ (negD x.lo).num k:=(le_iff aH aN).1 (by omega)
  rw [e]
  exact maxD_is (absD_valid h1) (absD_valid h2) (negD_valid h1) ((le_iff aA aN).2 (by omega)) ((le_iff aB aN).2 (by omega)) (.inl (abs_np h1.canon (k:=k) (by omega)).symm)
theorem sign_pos_iff {d:Dy} (k:Int):(0 < d.sign ↔ 0 < d.num k) ∧ (d.sign < 0 ↔ d.num k < 0):=by
 obtain ⟨h1,h2,h3⟩:=num_sign (d:=d) k
 rcases sign_cases d with ⟨_,h⟩ | ⟨_,_,h⟩ | ⟨_,_,h⟩
 ·have:=h1 h; rw [h]; omega
 ·have:=h2 h; rw [h]; omega
 ·have:=h3 h; rw [h]; omega
theorem mig_refS {x:Iv} (ha:x.all=false) (h1:x.lo.Valid) (h2:x.hi.Valid) (h3:cmpD x.lo x.hi ≤ 0):migI x=if signI x=0 then zeroD else maxD x.lo (negD x.hi):=by
 unfold migI
 by_cases hs:signI x=0
 ·rw [if_pos hs,if_pos hs]
 ·rw [if_neg hs,if_neg hs]
  obtain ⟨k,ka,kb⟩:∃ k:Int,k ≤ x.lo.e ∧ k ≤ x.hi.e:=⟨min x.lo.e x.hi.e,by omega,by omega⟩
  have aL:Above x.lo k:=.inr ka
  have aH:Above x.hi k:=.inr kb
  have aN:Above (negD x.hi) k:=above_negD aH
  have aA:Above (absD x.lo) k:=aL
  have aB:Above (absD x.hi) k:=aH
  have hle:=(le_iff aL aH).1 h3
  have n1:=num_neg (d:=x.hi) k
  have n2:=num_abs x.lo k
  have n3:=num_abs x.hi k
  have sL:=sign_pos_iff (d:=x.lo) k
  have sH:=sign_pos_iff (d:=x.hi) k
  by_cases hp:0 < x.lo.sign
  ·have hp':=sL.1.1 hp
   have e1:=abs_nn h1.canon (k:=k) (by omega)
   rw [minD_is (absD_valid h1) (absD_valid h2) h1 ((le_iff aL aA).2 (by omega)) ((le_iff aL aB).2 (by omega)) (.inl e1.symm)]
   exact (maxD_is h1 (negD_valid h2) h1 (le_refl' _) ((le_iff aN aL).2 (by omega)) (.inl rfl)).symm
  ·have hn:x.hi.sign < 0:=by
    apply Classical.byContradiction
    intro hn
    unfold signI at hs
    rw [ha,if_neg (by decide),if_neg hp,if_neg hn] at hs
    exact hs rfl
   have hn':=sH.2.1 hn
   have e1:=abs_np h2.canon (k:=k) (by omega)
   rw [minD_is (absD_valid h1) (absD_valid h2) (negD_valid h2) ((le_iff aN aA).2 (by omega)) ((le_iff aN aB).2 (by omega)) (.inr e1.symm)]
   exact (maxD_is h1 (negD_valid h2) (negD_valid h2) ((le_iff aL aN).2 (by omega)) (le_refl' _) (.inr rfl)).symm
theorem div_validD {a b:Dy} {p:Nat} {up:Bool} (hp:1 ≤ p) (hp2:p ≤ 4096):(divD a b p up).Valid:=by
 unfold divD; split
 ·exact zeroD_valid
 ·exact cut_valid _ _ _ _ _ _ hp hp2
theorem minD_self (a:Dy):minD a a=a:=by unfold minD; split <;> rfl
theorem maxD_self (a:Dy):maxD a a=a:=by unfold maxD; split <;> rfl
end Go.Proofs.YtdppllbbgfekaaaGreatDoor.Fp
namespace Go.Proofs.YtdppllbbgfekaaaGreatDoor
open Go.RowKit Fp Pu
def eucS (a b:Nat):Nat → Nat × Nat
 | 0=>(a,b)
 | n+1=>((eucS a b n).2,(eucS a b n).1 % (eucS a b n).2)
theorem eucS_gcd (a b:Nat):∀ n,Nat.gcd (eucS a b n).1 (eucS a b n).2=Nat.gcd a b
 | 0=>rfl
 | n+1=>by
  rw [← eucS_gcd a b n]
  show Nat.gcd (eucS a b n).2 ((eucS a b n).1 % (eucS a b n).2)=_
  rw [Nat.gcd_comm,← Nat.gcd_rec,Nat.gcd_comm]
theorem eucS_le (a b:Nat):∀ n,(∀ i,i < n → (eucS a b i).2 ≠ 0) → (eucS a b n).2+n ≤ b
 | 0,_=>Nat.le_refl _
 | n+1,h=>by
  have h1:=h n (Nat.lt_succ_self n)
  have h2:(eucS a b (n+1)).2 < (eucS a b n).2:=Nat.mod_lt _ (Nat.pos_of_ne_zero h1)
  have q:=eucS_le a b n (fun i hi=>h i (by omega))
  omega
theorem eucS_end (a b:Nat):∃ N,(∀ x,x < N → (eucS a b x).2 ≠ 0) ∧ (eucS a b N).2=0:=by
 by_cases h:∃ N,N < b+2 ∧ decide ((eucS a b N).2=0)=true
 ·obtain ⟨N,h1,h2,h3⟩:=least_true h
  exact ⟨N,fun x hx=>by simpa using h3 x hx,by simpa using h2⟩
 ·have hz:∀ i,i < b+2 → (eucS a b i).2 ≠ 0:=fun i hi q=>h ⟨i,hi,by simpa using q⟩
  have:=eucS_le a b (b+1) fun i hi=>hz i (by omega)
  have:=hz (b+1) (by omega)
  omega
theorem eucS_bound {a b:Nat} (ha:a < 18446744073709551616) (hb:b < 18446744073709551616):∀ n,(eucS a b n).1 < 18446744073709551616 ∧ (eucS a b n).2 < 18446744073709551616
 | 0=>⟨ha,hb⟩
 | n+1=>⟨(eucS_bound ha hb n).2,Nat.lt_of_le_of_lt (Nat.mod_le _ _) (eucS_bound ha hb n).1⟩
def ratMag (a D:Nat) (d:Dy):Int:=cmpN (a * 2 ^ (-d.e).toNat) (d.m * D * 2 ^ d.e.toNat)
def sgnI (n:Int):Int:=if 0 < n then 1 else if n < 0 then -1 else 0
def ratCmp (N:Int) (D:Nat) (d:Dy):Int :=
 if sgnI N < d.sign then -1 else if d.sign < sgnI N then 1 else if sgnI N=0 then 0 else sgnI N * ratMag N.natAbs D d
theorem ratMag_big {a D:Nat} {d:Dy} (ha:a ≤ 1073741824) (hD:1 ≤ D) (d0:d.m ≠ 0) (ht:32 < (bitsN d.m:Int)+d.e):ratMag a D d = -1:=by
 have h1:2 ^ (bitsN d.m - 1) ≤ d.m:=two_pow_le_of_bitsN d0
 have hb:=bitsN_pos d0
 have hm:d.m * 2 ^ d.e.toNat ≤ d.m * D * 2 ^ d.e.toNat:=Nat.mul_le_mul_right _ (Nat.le_mul_of_pos_right _ hD)
 have h2:2 ^ (bitsN d.m - 1+d.e.toNat) ≤ d.m * 2 ^ d.e.toNat:=by rw [Nat.pow_add]; exact Nat.mul_le_mul_right _ h1
 have h3:a * 2 ^ (-d.e).toNat < 2 ^ (31+(-d.e).toNat):=by rw [Nat.pow_add]; exact Nat.mul_lt_mul_of_pos_right (by omega) (Nat.two_pow_pos _)
 have h4:2 ^ (31+(-d.e).toNat) ≤ 2 ^ (bitsN d.m - 1+d.e.toNat):=Nat.pow_le_pow_right (by decide) (by omega)
 unfold ratMag cmpN
 rw [if_pos (by omega)]
theorem ratMag_small {a D:Nat} {d:Dy} (ha:a ≠ 0) (hD:D ≤ 1073741824) (ht:(bitsN d.m:Int)+d.e < -32):ratMag a D d=1:=by
 have h1:d.m < 2 ^ bitsN d.m:=lt_two_pow_bitsN _
 have e0:d.e.toNat=0:=by omega
 have h2:d.m * D ≤ 2 ^ bitsN d.m * 2 ^ 30:=Nat.mul_le_mul (by omega) (by omega)
 have h4:2 ^ (bitsN d.m+30) < 2 ^ (-d.e).toNat:=Nat.pow_lt_pow_right (by decide) (by omega)
 have h5:2 ^ (-d.e).toNat ≤ a * 2 ^ (-d.e).toNat:=Nat.le_mul_of_pos_left _ (Nat.pos_of_ne_zero ha)
 rw [Nat.pow_add] at h4
 unfold ratMag cmpN
 rw [e0,Nat.pow_zero,Nat.mul_one,if_neg (by omega),if_pos (by omega)]
theorem limbs_mulD {d:Dy} {D:Nat} (hv:d.Valid) (hD:D ≤ 1073741824):(limbs (d.m * D)).length ≤ 256:=by
 refine limbs_len_bits ?_
 have:=bitsN_mul_le d.m D
 have:=hv.bits
 have:bitsN D ≤ 31:=bitsN_le_iff.2 (by omega)
 omega
theorem bitsN_mul_pow_le (n k:Nat):bitsN (n * 2 ^ k) ≤ bitsN n+k:=by
 by_cases h:n=0
 ·subst h; rw [Nat.zero_mul,bitsN_zero]; omega
 ·rw [bitsN_mul_pow h]; omega
theorem limbs_mulDe {d:Dy} {D:Nat} (hD:D ≤ 1073741824) (ht:(bitsN d.m:Int)+d.e ≤ 32):(limbs (d.m * D * 2 ^ d.e.toNat)).length ≤ 256 ∨ d.e < 0:=by
 by_cases he:d.e < 0
 ·exact .inr he
 refine .inl (limbs_len_bits ?_)
 have:=bitsN_mul_pow_le (d.m * D) d.e.toNat
 have:=bitsN_mul_le d.m D
 have:bitsN D ≤ 31:=bitsN_le_iff.2 (by omega)
 omega
theorem limbs_ae {d:Dy} {a:Nat} (hv:d.Valid) (ha:a ≤ 1073741824) (ht:-32 ≤ (bitsN d.m:Int)+d.e):(limbs (a * 2 ^ (-d.e).toNat)).length ≤ 256:=by
 refine limbs_len_bits ?_
 have:=bitsN_mul_pow_le a (-d.e).toNat
 have:=hv.bits
 have:bitsN a ≤ 31:=bitsN_le_iff.2 (by omega)
 omega
open Go.RowKit Fp Pu
def gcdF (a b:Nat) (x:Nat):PS:=⟨12,true,[(0,.e (.v (.int .u64 ((((eucS a b x).1):Nat):Int)))),(1,.e (.v (.int .u64 ((((eucS a b x).2):Nat):Int))))],[]⟩
set_option maxHeartbeats 1000000 in
theorem ratGcd_N (a b N:Nat) (ha:a < 18446744073709551616) (hb:b < 18446744073709551616) (hlo:∀ x,x < N → (eucS a b x).2 ≠ 0) (hN:(eucS a b N).2=0):PCt 175 [(.v (.int .u64 (a:Int))),(.v (.int .u64 (b:Int)))] (.v (.int .u64 (((Nat.gcd a b):Nat):Int))):=by
 exact tr true Tryz.call175 Tryz.func175 (chain [.s (Sp.upto (gcdF a b) 0 N (by omega) (fun x hx hltx=>by
    have hnz:=hlo x (by omega)
    have hb1:=eucS_bound ha hb x
    exact spt (chain [tB 6 (natNZ_true (hlo x (by omega)):(((((eucS a b x).2):Nat):Int) != 0)=true),.a (by omega:0 < (((((eucS a b x).2):Nat):Int):Int))] <| .e (chain [.o 0 (.int rfl:PV.le (.e (.v (.int .u64 ((((eucS a b x).2):Nat):Int)))) (.e (.v (.int .u64 ((((eucS a b (x+1)).1):Nat):Int))))),
  .o 1 (.int rfl:PV.le (.e (.v (.int .u64 (((((eucS a b x).1) % ((eucS a b x).2)):Nat):Int)))) (.e (.v (.int .u64 ((((eucS a b (x+1)).2):Nat):Int)))))] <| .nil)) (by kernel_rfl))
  (fun hx=>by
    exact spt (chain [tB 6 (natNZ_false hN:(((((eucS a b N).2):Nat):Int) != 0)=false)] <| .nil) (by kernel_rfl)) (by nofun):LpT 1 Tryz.f175 (gcdF a b 0) (.exit 0) ⟨12,true,[(0,.e (.v (.int .u64 ((((eucS a b N).1):Nat):Int))))],[]⟩) (chain [.o 0 (.int rfl:PV.le (.e (.v (.int .u64 (a:Int)))) (.e (.v (.int .u64 ((((eucS a b 0).1):Nat):Int))))),.o 1 (.int rfl:PV.le (.e (.v (.int .u64 (b:Int)))) (.e (.v (.int .u64 ((((eucS a b 0).2):Nat):Int)))))] <| .nil)] <| rQ (.v (.int .u64 ((((eucS a b N).1):Nat):Int))) (.v (.int .u64 (((Nat.gcd a b):Nat):Int))) (by have h:=eucS_gcd a b N; rw [hN,Nat.gcd_zero_right] at h; rw [← h])) (by kernel_rfl)
theorem ratGcd_pc (a b:Nat) (ha:a < 18446744073709551616) (hb:b < 18446744073709551616):PCt 175 [(.v (.int .u64 (a:Int))),(.v (.int .u64 (b:Int)))] (.v (.int .u64 (((Nat.gcd a b):Nat):Int))):=by
 obtain ⟨N,h1,h2⟩:=eucS_end a b
 exact ratGcd_N a b N ha hb h1 h2
set_option maxHeartbeats 1000000 in
theorem ratSize_pc (n:Int) (h1:-9223372036854775807 ≤ n) (h2:n ≤ 9223372036854775807):PCt 176 [(iP n)] (.v (.int .u64 (n.natAbs:Int))):=by
 exact tr true Tryz.call176 Tryz.func176 (.w (n < 0)
  (fun k1=>chain [tB 4 (decide_eq_true k1),r64 (0 - n) (by omega),.o 7 (.int (by rw [IntKind.wrap_u64]; omega):PV.le (.e (.v (.int .u64 (IntKind.u64.wrap (0 - n))))) (.e (.v (.int .u64 (n.natAbs:Int)))))] <| .nil)
  (fun k1=>chain [tB 4 (decide_eq_false k1),.o 9 (.int (by rw [IntKind.wrap_u64]; omega):PV.le (.e (.v (.int .u64 (IntKind.u64.wrap n)))) (.e (.v (.int .u64 (n.natAbs:Int)))))] <| .nil)) (by kernel_rfl)
set_option maxHeartbeats 1000000 in
theorem ratValid_pc (N:Int) (D:Nat) (hD1:1 ≤ D) (hD2:D ≤ 1073741824) (hN1:-1073741824 ≤ N) (hN2:N ≤ 1073741824) (hg:Nat.gcd N.natAbs D=1):PCt 113 [(.agg [(iP N),(iP D)])] (bP true):=by
 exact tr true Tryz.call113 Tryz.func113 (chain [tT 5 (1 ≤ (D:Int)) (by omega),tT 9 ((D:Int) ≤ 1073741824) (by omega),tT 14 ((-1073741824) ≤ N) (by omega),tT 19 (N ≤ 1073741824) (by omega),.c (ratSize_pc N (by omega) (by omega)),
  .c (ratSize_pc (D:Int) (by omega) (by omega)),.c (ratGcd_pc (N.natAbs:Nat) ((D:Int).natAbs:Nat) (by omega) (by omega)),
  .o 29 (.bool (by rw [Int.natAbs_natCast,hg]; rfl):PV.le (.e (bP ((((Nat.gcd ((N).natAbs) ((D:Int).natAbs)):Nat):Int) == 1))) (.e (bP true)))] <| .nil) (by kernel_rfl)
theorem slN0_le {x y:Nat}:E.le (.sl false 2 1 fun i_ j_=>[(.v (.int .u32 (x:Int))),(.v (.int .u32 (y:Int)))].getD (i_ * 1+j_) (.v (.bool false))) (slP [x,y]):=.sl fun i j hi hj=>by
 obtain rfl:j=0:=by omega
 rcases i with _ | _ | i
 ·exact ⟨.refl _,rfl⟩
 ·exact ⟨.refl _,rfl⟩
 ·omega
theorem ok_n0 {n:Nat} (h:n < 4294967296):Ok32 [n,0]:=Ok32.cons h (Ok32.cons (by decide) Ok32.nil)
theorem val_n0 (n:Nat):val [n,0]=n:=by simp [val]
set_option maxHeartbeats 1000000 in
theorem ratLimbs_pc (n:Nat) (h:n < 4294967296):PCt 178 [(.v (.int .u64 (n:Int)))] (slP [n,0]):=by
 exact tr true Tryz.call178 Tryz.func178 (chain [.o 4 (.int (u32_nat _):PV.le (.e (.v (.int .u32 (IntKind.u32.wrap (n:Int))))) (.e (.v (.int .u32 (((n % 4294967296):Nat):Int))))),.a (by omega:0 ≤ (32:Int) ∧ (32:Int) ≤ ((64:Nat):Int)),
  .o 6 (.int (shr32_nat _):PV.le (.e (.v (.int .u64 ((n:Int) / 2 ^ 32)))) (.e (.v (.int .u64 (((n / 4294967296):Nat):Int))))),
  .o 7 (.int (u32_nat _):PV.le (.e (.v (.int .u32 (IntKind.u32.wrap (((n / 4294967296):Nat):Int))))) (.e (.v (.int .u32 ((((n / 4294967296) % 4294967296):Nat):Int)))))] <| rR (slP [n,0]) (slN0_le.trans (.of_eq (by rw [Nat.mod_eq_of_lt h,Nat.div_eq_of_lt h])):E.le (.sl false 2 1 fun i_ j_=>[(.v (.int .u32 (((n % 4294967296):Nat):Int))),(.v (.int .u32 ((((n / 4294967296) % 4294967296):Nat):Int)))].getD (i_ * 1+j_) (.v (.bool false))) (slP [n,0]))) (by kernel_rfl)
theorem natShl_L (L:List Nat) (n:Int) (hk:Ok32 L) (hl:L.length ≤ 256) (h0:0 ≤ n) (hn:n ≤ 65536) (hf:(limbs (val L * 2 ^ n.toNat)).length ≤ 256):PCt 180 [slP L,iP n] (.tup [slP (limbs (val L * 2 ^ n.toNat)),iP 0]):=by
 obtain ⟨n,rfl⟩:=Int.eq_ofNat_of_zero_le h0
 rw [Int.toNat_natCast] at hf ⊢
 exact pcS1i hk Tryz.call180 (fun A c w h _=>natShl_ok A c L n w h hl (by omega) hf) fun A c B w e w' h hB r=>rle B w e w' hB r
set_option maxHeartbeats 1000000 in
theorem ratMag_pc (N:Int) (D:Nat) (d:Dy) (hv:d.Valid) (d0:d.m ≠ 0) (hD1:1 ≤ D) (hD2:D ≤ 1073741824) (hN1:-1073741824 ≤ N) (hN2:N ≤ 1073741824) (hN0:N ≠ 0):PCt 115 [(.agg [(iP N),(iP D)]),(dyP d)] (iP (ratMag N.natAbs D d)):=by
 have hT:=top_of d0
 have hbits:=hv.bits
 have hbp:=bitsN_pos d0
 have hlen:(limbs d.m).length ≤ 256:=limbs_len_bits (by omega)
 have ok1:Ok32 [N.natAbs,0]:=ok_n0 (by omega)
 have ok2:Ok32 [(D:Int).natAbs,0]:=ok_n0 (by omega)
 have hfm:(limbs (val (limbs d.m) * val [((D:Int).natAbs),0])).length ≤ 256:=by
  rw [val_limbs,val_n0,Int.natAbs_natCast]
  exact limbs_mulD hv hD2
 exact tr true Tryz.call115 Tryz.func115 (chain [.c (dyTop_pc _ ‹_›:PCt 177 [(dyP d)] _)] <| .w (32 < (Dy.top d))
  (fun k1=>chain [tB 13 (decide_eq_true k1)] <| rQ (iP (-1)) (iP (ratMag N.natAbs D d)) (by rw [ratMag_big (by omega) hD1 d0 (by omega)]))
  (fun k1=>chain [tB 13 (decide_eq_false k1)] <| .w ((Dy.top d) < (-32))
   (fun k2=>chain [tB 16 (decide_eq_true k2)] <| rQ (iP 1) (iP (ratMag N.natAbs D d)) (by rw [ratMag_small (by omega) hD2 (by omega)]))
   (fun k2=>chain [tB 16 (decide_eq_false k2),.c (ratSize_pc N (by omega) (by omega)),.c (ratLimbs_pc (N.natAbs:Nat) (by omega)),.c (ratSize_pc (D:Int) (by omega) (by omega)),.c (ratLimbs_pc ((D:Int).natAbs:Nat) (by omega)),
    .c (natMul_L _ _ (ok_limbs _) ok2 (by omega) (by simp) hfm:PCt 179 [(slP (limbs d.m)),(slP [((D:Int).natAbs),0])] _)] <| .w (0 ≤ d.e)
    (fun k3=>by
     have hfs:(limbs (val (limbs (val (limbs d.m) * val [((D:Int).natAbs),0])) * 2 ^ (d.e).toNat)).length ≤ 256:=by
      rw [val_limbs,val_limbs,val_n0,Int.natAbs_natCast]
      exact (limbs_mulDe (d:=d) hD2 (by omega)).resolve_right (by omega)
     exact chain [tB 33 (decide_eq_true k3),.c (natShl_L _ _ (ok_limbs _) hfm (by omega) (by omega) hfs:PCt 180 [(slP (limbs (val (limbs d.m) * val [((D:Int).natAbs),0]))),(iP d.e)] _),
      .c (natCmp_pc _ _ ok1 (ok_limbs _) (by simp) (by omega):PCt 181 [(slP [((N).natAbs),0]),(slP (limbs (val (limbs (val (limbs d.m) * val [((D:Int).natAbs),0])) * 2 ^ (d.e).toNat)))] _)] <| rQ (iP (cmpN (val [((N).natAbs),0]) (val (limbs (val (limbs (val (limbs d.m) * val [((D:Int).natAbs),0])) * 2 ^ (d.e).toNat))))) (iP (ratMag N.natAbs D d)) (by simp only [val_limbs,val_n0,Int.natAbs_natCast]; unfold ratMag; rw [show (-d.e).toNat=0 from by omega,Nat.pow_zero,Nat.mul_one]))
    (fun k3=>by
     have hfs:(limbs (val [((N).natAbs),0] * 2 ^ ((0 - d.e)).toNat)).length ≤ 256:=by
      rw [val_n0,Int.zero_sub]
      exact limbs_ae hv (by omega) (by omega)
     exact chain [tB 33 (decide_eq_false k3),r64 (0 - d.e) (by omega),.c (natShl_L _ _ ok1 (by simp) (by omega) (by omega) hfs:PCt 180 [(slP [((N).natAbs),0]),(iP (0 - d.e))] _),
      .c (natCmp_pc _ _ (ok_limbs _) (ok_limbs _) (by omega) (by omega):PCt 181 [(slP (limbs (val [((N).natAbs),0] * 2 ^ ((0 - d.e)).toNat))),(slP (limbs (val (limbs d.m) * val [((D:Int).natAbs),0])))] _)] <| rQ (iP (cmpN (val (limbs (val [((N).natAbs),0] * 2 ^ ((0 - d.e)).toNat))) (val (limbs (val (limbs d.m) * val [((D:Int).natAbs),0]))))) (iP (ratMag N.natAbs D d)) (by simp only [val_limbs,val_n0,Int.natAbs_natCast,Int.zero_sub]; unfold ratMag; rw [show d.e.toNat=0 from by omega,Nat.pow_zero,Nat.mul_one]))))) (by kernel_rfl)
theorem ratMag_range (a D:Nat) (d:Dy):-1 ≤ ratMag a D d ∧ ratMag a D d ≤ 1:=by
 unfold ratMag cmpN
 split
 ·omega
 ·split <;> omega
theorem sign_zero {d:Dy} (h:d.sign ≠ 0):d.m ≠ 0:=fun q=>h (by unfold Dy.sign; rw [if_pos q])
set_option maxHeartbeats 1000000 in
theorem ratCompare_pc (N:Int) (D:Nat) (d:Dy) (hv:d.Valid) (hD1:1 ≤ D) (hD2:D ≤ 1073741824) (hN1:-1073741824 ≤ N) (hN2:N ≤ 1073741824) (hg:Nat.gcd N.natAbs D=1):PCt 37 [(.agg [(iP N),(iP D)]),(dyP d)] (.tup [(iP (ratCmp N D d)),(iP 0)]):=by
 exact tr true Tryz.call37 Tryz.func37 (chain [.c (ratValid_pc N D (by omega) (by omega) (by omega) (by omega) hg),.c (dyValid_pc _ ‹_›:PCt 98 [(dyP d)] _)] <| .w (0 < N)
  (fun k1=>chain [tB 19 (decide_eq_true k1),.c (dySign_pc _ ‹_›:PCt 114 [(dyP d)] _)] <| .w (1 < (Dy.sign d))
   (fun k2=>chain [tB 29 (decide_eq_true k2)] <| rR (.tup [(iP (ratCmp N D d)),(iP 0)]) (by
      exact .of_eq (by
       have e:ratCmp N D d=(-1):=by
        unfold ratCmp sgnI
        simp [k1,k2]
       rw [e]):E.le (.tup [(iP (-1)),(iP 0)]) (.tup [(iP (ratCmp N D d)),(iP 0)])))
   (fun k2=>chain [tB 29 (decide_eq_false k2)] <| .w ((Dy.sign d) < 1)
    (fun k3=>chain [tB 33 (decide_eq_true k3)] <| rR (.tup [(iP (ratCmp N D d)),(iP 0)]) (by
      exact .of_eq (by
       have e:ratCmp N D d=1:=by
        unfold ratCmp sgnI
        simp [k1,k2,k3]
       rw [e]):E.le (.tup [(iP 1),(iP 0)]) (.tup [(iP (ratCmp N D d)),(iP 0)])))
    (fun k3=>by
     have d0:d.m ≠ 0:=sign_zero (by omega)
     have hmr:=ratMag_range N.natAbs D d
     exact chain [tB 33 (decide_eq_false k3),tB 36 (by decide:((1:Int) == 0)=false),.c (ratMag_pc N D d hv d0 hD1 hD2 hN1 hN2 (by omega)),r64 (1 * (ratMag N.natAbs D d)) (by omega)] <| rR (.tup [(iP (ratCmp N D d)),(iP 0)]) (by
      exact .of_eq (by
       have e:ratCmp N D d=(1 * (ratMag N.natAbs D d)):=by
        unfold ratCmp sgnI
        simp [k1,k2,k3]
       rw [e]):E.le (.tup [(iP (1 * (ratMag N.natAbs D d))),(iP 0)]) (.tup [(iP (ratCmp N D d)),(iP 0)])))))
  (fun k1=>chain [tB 19 (decide_eq_false k1)] <| .w (N < 0)
   (fun k2=>chain [tB 23 (decide_eq_true k2),.c (dySign_pc _ ‹_›:PCt 114 [(dyP d)] _)] <| .w ((-1) < (Dy.sign d))
    (fun k3=>chain [tB 29 (decide_eq_true k3)] <| rR (.tup [(iP (ratCmp N D d)),(iP 0)]) (by
      exact .of_eq (by
       have e:ratCmp N D d=(-1):=by
        unfold ratCmp sgnI
        simp [k1,k2,k3]
       rw [e]):E.le (.tup [(iP (-1)),(iP 0)]) (.tup [(iP (ratCmp N D d)),(iP 0)])))
    (fun k3=>chain [tB 29 (decide_eq_false k3)] <| .w ((Dy.sign d) < (-1))
     (fun k4=>chain [tB 33 (decide_eq_true k4)] <| rR (.tup [(iP (ratCmp N D d)),(iP 0)]) (by
      exact .of_eq (by
       have e:ratCmp N D d=1:=by
        unfold ratCmp sgnI
        simp [k1,k2,k3,k4]
       rw [e]):E.le (.tup [(iP 1),(iP 0)]) (.tup [(iP (ratCmp N D d)),(iP 0)])))
     (fun k4=>by
      have d0:d.m ≠ 0:=sign_zero (by omega)
      have hmr:=ratMag_range N.natAbs D d
      exact chain [tB 33 (decide_eq_false k4),tB 36 (by decide:(((-1):Int) == 0)=false),.c (ratMag_pc N D d hv d0 hD1 hD2 hN1 hN2 (by omega)),r64 ((-1) * (ratMag N.natAbs D d)) (by omega)] <| rR (.tup [(iP (ratCmp N D d)),(iP 0)]) (by
      exact .of_eq (by
       have e:ratCmp N D d=((-1) * (ratMag N.natAbs D d)):=by
        unfold ratCmp sgnI
        simp [k1,k2,k3,k4]
       rw [e]):E.le (.tup [(iP ((-1) * (ratMag N.natAbs D d))),(iP 0)]) (.tup [(iP (ratCmp N D d)),(iP 0)])))))
   (fun k2=>chain [tB 23 (decide_eq_false k2),.c (dySign_pc _ ‹_›:PCt 114 [(dyP d)] _)] <| .w (0 < (Dy.sign d))
    (fun k3=>chain [tB 29 (decide_eq_true k3)] <| rR (.tup [(iP (ratCmp N D d)),(iP 0)]) (by
      exact .of_eq (by
       have e:ratCmp N D d=(-1):=by
        unfold ratCmp sgnI
        simp [k1,k2,k3]
       rw [e]):E.le (.tup [(iP (-1)),(iP 0)]) (.tup [(iP (ratCmp N D d)),(iP 0)])))
    (fun k3=>chain [tB 29 (decide_eq_false k3)] <| .w ((Dy.sign d) < 0)
     (fun k4=>chain [tB 33 (decide_eq_true k4)] <| rR (.tup [(iP (ratCmp N D d)),(iP 0)]) (by
      exact .of_eq (by
       have e:ratCmp N D d=1:=by
        unfold ratCmp sgnI
        simp [k1,k2,k3,k4]
       rw [e]):E.le (.tup [(iP 1),(iP 0)]) (.tup [(iP (ratCmp N D d)),(iP 0)])))
     (fun k4=>chain [tB 33 (decide_eq_false k4),tB 36 (by decide:((0:Int) == 0)=true)] <| rR (.tup [(iP (ratCmp N D d)),(iP 0)]) (by
      exact .of_eq (by
       have e:ratCmp N D d=0:=by
        unfold ratCmp sgnI
        simp [k1,k2,k3,k4]
       rw [e]):E.le (.tup [(iP 0),(iP 0)]) (.tup [(iP (ratCmp N D d)),(iP 0)]))))))) (by kernel_rfl)
open Go.RowKit Fp Pu
theorem refOf_pc (s:Bool) (m:Nat) (e:Int) (hl:(limbs m).length ≤ 3000) (he1:-1000000 ≤ e) (he2:e ≤ 1000000):PCt 155 [bP s,slP (limbs m),iP e] (dyP (canon s m e)):=by
 refine ⟨Tryz.call155,fun w B vs hK hB hr=>?_⟩
 obtain ⟨v1,vs,rfl,h1,hr⟩:=hr.uncons
 obtain ⟨v2,vs,rfl,h2,hr⟩:=hr.uncons
 obtain ⟨v3,vs,rfl,h3,hr⟩:=hr.uncons
 obtain rfl:=hr.nil_inv
 obtain rfl:=Rep.v_inv h1
 obtain rfl:=Rep.v_inv h3
 obtain ⟨A,c,rfl,s1⟩:=slP_inv (ok_limbs m) h2
 have:=refOf_any s A c (limbs m) e w s1 hl he1 he2
 rw [val_limbs] at this
 exact this.mono fun e w' h=>rd B w e w' hB h
theorem refValid_pc (a:Dy) (ha:a.Valid):PCt 159 [dyP a] (bP true):=pc1 Tryz.call159 (fun A c w h _=>refValid_dy a A c w h ha) rv
theorem refSign_pc (a:Dy):PCt 153 [dyP a] (iP a.sign):=pc1 Tryz.call153 (fun A c w h _=>refSign_dy a A c w h) rv
theorem refNeg_pc (a:Dy):PCt 72 [dyP a] (dyP (negD a)) :=
 pc1 Tryz.call72 (fun A c w h _=>by
  have:=refNeg_any a.neg A c (limbs a.m) a.e w h (trim_limbs _)
  rw [val_limbs] at this
  exact this) rd
theorem refTop_pc (a:Dy) (ha:Near a):PCt 84 [dyP a] (iP a.top):=pc1 Tryz.call84 (fun A c w h _=>refTop_dy a A c w h ha) rv
theorem refInt_pc (n:Nat) (hn:n < 4294967296):PCt 70 [iP ((n:Nat):Int)] (dyP (canon false n 0)):=by
 refine ⟨Tryz.call70,fun w B vs hK hB hr=>?_⟩
 obtain ⟨v1,vs,rfl,h1,hr⟩:=hr.uncons
 obtain rfl:=hr.nil_inv
 obtain rfl:=Rep.v_inv h1
 exact (refInt_any n w hn).mono fun e w' h=>rd B w e w' hB h
end Go.Proofs.YtdppllbbgfekaaaGreatDoor
namespace Go.Proofs.YtdppllbbgfekaaaGreatDoor.Fp
theorem lost_iff (m k:Nat):cmpN (m / 2 ^ k * 2 ^ k) m=0 ↔ m % 2 ^ k=0:=by
 have h1:=Nat.div_add_mod m (2 ^ k)
 rw [Nat.mul_comm] at h1
 unfold cmpN
 split
 ·simp; omega
 ·split
  ·have:=Nat.div_mul_le_self m (2 ^ k); omega
  ·simp; omega
theorem cut_in {neg up more:Bool} {m p q:Nat} {e:Int} (hq:cutQ m e more p (neg != up)=q) (h:q=0 ∨ ¬ 16384 < (bitsN q:Int)+e+cutK m e p):cutD neg m e more p up=canon neg q (e+cutK m e p) ∧ cutE neg m e more p up=0:=by
 have ho:cutOver m e more p (neg != up)=false:=by
  unfold cutOver; rw [hq]
  rcases h with h | h
  ·simp [h]
  ·simp [h]
 unfold cutD cutE
 rw [ho,hq]
 simp
theorem cut_over {neg up more:Bool} {m p q:Nat} {e:Int} (hq:cutQ m e more p (neg != up)=q) (h0:q ≠ 0) (h:16384 < (bitsN q:Int)+e+cutK m e p) :
  ((neg != up)=true → cutD neg m e more p up=zeroD ∧ cutE neg m e more p up=9) ∧ ((neg != up)=false → cutD neg m e more p up=canon neg (2 ^ p - 1) (16384 - p) ∧ cutE neg m e more p up=0):=by
 have ho:cutOver m e more p (neg != up)=true:=by unfold cutOver; rw [hq]; simp [h0,h]
 unfold cutD cutE
 rw [ho]
 constructor
 ·intro hn; rw [hn]; exact ⟨rfl,rfl⟩
 ·intro hn; rw [hn]; exact ⟨rfl,rfl⟩
end Go.Proofs.YtdppllbbgfekaaaGreatDoor.Fp
namespace Go.Proofs.YtdppllbbgfekaaaGreatDoor
open Go.RowKit Fp Pu
theorem refScale_pc (d:Dy) (k:Int) (hd:d.Valid) (hk1:-32768 ≤ k) (hk2:k ≤ 32768) (hr:inRange (canon d.neg d.m (d.e+k))):PCt 79 [dyP d,iP k] (.tup [dyP (canon d.neg d.m (d.e+k)),iP 0]):=by
 refine ⟨Tryz.call79,fun w B vs hK hB hrr=>?_⟩
 obtain ⟨v1,vs,rfl,h1,hrr⟩:=hrr.uncons
 obtain ⟨v2,vs,rfl,h2,hrr⟩:=hrr.uncons
 obtain rfl:=hrr.nil_inv
 obtain ⟨A,c,rfl,s1⟩:=dyP_inv h1
 obtain rfl:=Rep.v_inv h2
 have:=refScale_yes d.neg A c (limbs d.m) d.e k w s1 hd.dok hk1 hk2 (by rw [val_limbs]; exact hr)
 rw [val_limbs] at this
 exact this.mono fun e w' h=>rde B w e w' hB h
theorem canon_again {n:Int} {e:Int}:canon (intD n).neg (intD n).m ((intD n).e+e)=canonZ n e:=by
 unfold intD canonZ
 by_cases h:n.natAbs=0
 ·rw [h,canon_zero,canon_zero]
  show canon false 0 _=_
  rw [canon_zero]
 ·have h1:=div_ctz_mul h
  rw [show canon (decide (n < 0)) n.natAbs 0=⟨decide (n < 0),n.natAbs / 2 ^ ctzN n.natAbs,0+(ctzN n.natAbs:Int)⟩ by unfold canon; rw [if_neg h]]
  show canon (decide (n < 0)) (n.natAbs / 2 ^ ctzN n.natAbs) (0+(ctzN n.natAbs:Int)+e)=_
  rw [← canon_mul _ _ _ (ctzN n.natAbs),h1]
  congr 1
  omega
theorem canonZ_valid {n e:Int} (h1:n.natAbs < 4294967296) (h2:-1000 ≤ e) (h3:e ≤ 1000):(canonZ n e).Valid:=by
 refine ⟨canon_canon _ _ _,?_⟩
 unfold canonZ
 by_cases h0:n.natAbs=0
 ·rw [h0,canon_zero]; exact .inl rfl
 ·have:=canon_bits (s:=decide (n < 0)) (e:=e) h0
  have hb:bitsN n.natAbs ≤ 32:=bitsN_le_iff.2 h1
  obtain ⟨h4,h5,h6,_⟩:=this
  have:=bitsN_pos h6
  exact .inr ⟨by omega,by omega,by omega,by omega⟩
theorem intZ_valid {n:Int} (h1:n.natAbs < 4294967296):(intD n).Valid:=canonZ_valid h1 (by decide) (by decide)
theorem refIntN_any (k:Nat) (w:World) (h0:0 < k) (hn:k < 4294967296) :
  Calls Tryz.prog 70 #[.int .i64 (-(k:Int))] w (RetD w (canon true k 0)):=by
 have hm:=and_mask k (by omega)
 have hm2:(k:Int) % 4294967296=k:=by omega
 rw [hm2] at hm
 have hd:(k:Int) / 4294967296=0:=by omega
 have hlt:(-(k:Int)) < 0:=by omega
 have hdl:decide ((-(k:Int)) < 0)=true:=decide_eq_true hlt
 have hu:IntKind.u64.wrap (-(k:Int))=18446744073709551616 - k:=by rw [IntKind.wrap_u64]; omega
 have hs:IntKind.u64.wrap (-(18446744073709551616 - (k:Int)))=k:=by rw [IntKind.wrap_u64]; omega
 have HC:=Lib.hid (fun (A:Option Addr) c w (h:Sl w A c [k,0])=>refOf_any true A c [k,0] 0 w h (by simp) (by decide) (by decide))
 have hv:val [k,0]=k:=by simp
 rw [hv] at HC
 clear hv
 generalize canon true k 0=d at *
 generalize hN:(-(k:Int))=N at *
 go_enter Tryz.func70,Tryz.ntmps70
 go_wp2_with fail
 refine (HC.out _ _ _ (Sl.two _ _ (by simp) _ _ k 0 rfl rfl hn (by decide))).mono ?_
 rintro r w1 ⟨A1,c1,rfl,hs1,hb1⟩
 have hb0:Ext (w.alloc (.cells #[.bool false,.slice none 0 0,.int .i64 0] 26)) w1:=(Ext.alloc _ _).trans hb1
 have bx:=(Box3.new w false none 0 0 0).ext hb0
 have b0:=bx.c0; have b1:=bx.c1; have b2:=bx.c2; have f0:=bx.fr 0; have f1:=bx.fr 1; have f2:=bx.fr 2
 go_wp2
 exact dy_ret rfl rfl rfl (bx.set _ _ _ _ _) rfl (bx.set_sl hs1 _ _ _ _ _) (Box3.set_ext ((Ext.alloc _ _).trans hb0) (Nat.le_refl _) _ _ _ _ _)
theorem intD_neg (k:Nat) (h0:0 < k):intD (-(k:Int))=canon true k 0:=by
 unfold intD canonZ
 rw [decide_eq_true (show (-(k:Int)) < 0 by omega),Int.natAbs_neg,Int.natAbs_natCast]
theorem refIntZ_pc (n:Int) (h:n.natAbs < 4294967296):PCt 70 [iP n] (dyP (intD n)):=by
 by_cases h0:0 ≤ n
 ·obtain ⟨k,rfl⟩:=Int.eq_ofNat_of_zero_le h0
  rw [intD_nat]; exact refInt_pc k (by omega)
 ·obtain ⟨k,rfl⟩:∃ k:Nat,n = -(k:Int):=⟨n.natAbs,by omega⟩
  rw [intD_neg k (by omega)]
  refine ⟨Tryz.call70,fun w B vs hK hB hr=>?_⟩
  obtain ⟨v1,vs,rfl,h1,hr⟩:=hr.uncons
  obtain rfl:=hr.nil_inv
  obtain rfl:=Rep.v_inv h1
  exact (refIntN_any k w (by omega) (by omega)).mono fun e w' h=>rd B w e w' hB h
open Go.RowKit Fp Pu
def RetLF (w:World) (L:List Nat) (e:Ending) (w':World):Prop:=∃ A c,e = .returned (.slice A L.length c) ∧ Sl w' A c L ∧ Ext w w' ∧ ∀ b o s,A=some ⟨b,o,s⟩ → w.heap.size ≤ b
theorem RetLF.l {w:World} {L:List Nat} {e:Ending} {w':World} (h:RetLF w L e w'):RetL w L e w':=let ⟨A,c,h1,h2,h3,_⟩:=h; ⟨A,c,h1,h2,h3⟩
theorem Ow.slF {w:World} {base:Nat} {v:Value} {L:List Nat} (h:Ow w base v L):∃ A c,v = .slice A L.length c ∧ Sl w A c L ∧ ∀ b o s,A=some ⟨b,o,s⟩ → base ≤ b:=by
 obtain ⟨A,c,h1,h2⟩:=h.sl
 refine ⟨A,c,h1,h2,fun b o s e=>?_⟩
 rcases h.row.2 with ⟨h3,_⟩ | ⟨g,cap,cur,h3,hb,_⟩
 ·rw [h1,e] at h3; injection h3 with h3; cases h3
 ·rw [h1,e] at h3; injection h3 with h3; cases h3; exact hb
theorem slP_repF {B br:Nat → Prop} {w w':World} {A:Option Addr} {c:Nat} {L:List Nat} (hB:∀ b,B b → b < w.heap.size) (h:Sl w' A c L) (hf:∀ b o s,A=some ⟨b,o,s⟩ → w.heap.size ≤ b):Rep B br w' (slP L) (.slice A L.length c):=by
 refine .sl false L.length 1 _ A c (fun i _=>.int .u32 ((L.getD i 0:Nat):Int)) h.cap h.lim h.none_ (fun i j _ _=>⟨rfl,fun h=>by cases h⟩) (fun i j _ _=>rfl) (fun i j hi hj=>?_) (fun i j _ _=>.v _)
 obtain rfl:j=0:=by omega
 obtain ⟨b,o,e1,hlt,hcell⟩:=h.at_ hi
 have e2:L.getD i 0=L[i]:=by simp [List.getD_eq_getElem?_getD,hi]
 refine ⟨b,o,e1,fun hbad=>?_,hlt,by rw [Nat.mul_one,Nat.add_zero,hcell,e2]⟩
 have:=hB b hbad
 have:=hf _ _ _ e1
 omega
abbrev PCFt (f:FuncId) (args:List E) (res:E):Prop:=PCF Tryz.prog Tb f args res
theorem pcF1 {f:FuncId} {L M:List Nat} (hk:Ok32 L) (hc:∀ (vs:Array Value) (w:World),(callFunc f vs).run Tryz.prog w = .ok (.enter f vs) w)
  (H:∀ A c w,Sl w A c L → Tb w → Calls Tryz.prog f #[.slice A L.length c] w (RetLF w M)):PCFt f [slP L] (slP M):=by
 refine ⟨hc,fun w B vs hK hB hr=>?_⟩
 obtain ⟨v1,vs,rfl,h1,hr⟩:=hr.uncons
 obtain rfl:=hr.nil_inv
 obtain ⟨A,c,rfl,s1⟩:=slP_inv hk h1
 refine (H A c w s1 hK).mono fun e w' ⟨A,c,q1,q2,q3,q4⟩=>⟨_,q1,q3,slP_repF hB q2 q4⟩
set_option maxHeartbeats 400000 in
theorem ref1Trim_any (A:Option Addr) (c:Nat) (L:List Nat) (w:World) (hs:Sl w A c L) (hlen:L.length ≤ 100000000) :
  Calls Tryz.prog 227 #[.slice A L.length c] w (RetLF w (trimL L)):=by
 have hc:=hs.cap
 have hl:=hs.lim
 have fin:∀ k:Nat,k=(trimL L).length → Hid (trimL L=L.take k):=fun k hk=>by rw [hk]; exact trimL_eq_take L
 go_enter Tryz.func227,Tryz.ntmps227
 go_wp2
 go_loop [3] (fun i=>∃ k:Nat,k ≤ L.length ∧ i = .int .i64 k ∧ tlen L=tlen (L.take k)) (fun i=>(intOf i).toNat)
 case atStart=>exact ⟨L.length,Nat.le_refl _,rfl,by simp⟩
 case round =>
  obtain ⟨k,hk,rfl,ht⟩:=hrel
  have HT:=Lib.hid ht; clear ht
  have hsz:([]:List Nat).length+(L.take k).length ≤ 10000000000:=by rw [List.length_take]; simp; omega
  have HK:=Lib.hid (show k=(L.take k).length by rw [List.length_take]; omega)
  have h1:=Ow.empty w w.heap.size (Nat.le_refl _)
  have h2:=(hs.take k).alloc (.cells #[] 127)
  have h3:=le_alloc (w:=w) (Nat.le_refl _) (.cells #[] 127)
  by_cases h0:0 < k
  ·obtain ⟨ab,ao,rfl,hb,hx1⟩:=hs.at_ (i:=k - 1) (by omega)
   have e1:((k:Int) - 1).toNat=k - 1:=by omega
   have Z:=Lib.hid (tlen_take_zero L (k - 1) (by omega))
   have NZ:=Lib.hid (tlen_take_nz L (k - 1) (by omega))
   rw [Nat.sub_add_cancel h0] at Z NZ
   generalize L[k - 1]=x at *
   by_cases hx:x=0
   ·have Hx:=Lib.hid hx; clear hx
    have hb:((x:Int) == 0)=true:=by have:=Hx.out; simp; omega
    clear fin
    go_wp2
    go_round
    case rel=>exact ⟨k - 1,by omega,by go_num,by rw [HT.out,Z.out Hx.out]⟩
    case measure=>simp [intOf]; omega
   ·have hb:((x:Int) == 0)=false:=by simp; omega
    have F:=fin k (by show k=tlen L; rw [HT.out,NZ.out hx])
    clear fin
    go_wp2_with (at_builtin; go_must (refine wpList_app (by rfl) _ _ (by rfl) w.heap.size _ [] (by rfl) h1 _ _ _ (L.take k) (by rfl) HK.out h2 hsz h3 ?_); intro v' w' hown hg hat)
    obtain ⟨A',c',rfl,hs',hfr⟩:=hown.slF
    go_ret
    rw [F.out]
    exact ⟨A',c',rfl,hs',(Ext.alloc _ _).grown hg (le_alloc (Nat.le_refl _) _) (fun k hk=>by simp [Value.ownBlock] at hk; omega),hfr⟩
  ·have:k=0:=by omega
   subst this
   have F:=fin 0 (by show 0=tlen L; rw [HT.out]; rfl)
   clear fin
   go_wp2_with (at_builtin; go_must (refine wpList_app (by rfl) _ _ (by rfl) w.heap.size _ [] (by rfl) h1 _ _ _ (L.take 0) (by rfl) HK.out h2 hsz h3 ?_); intro v' w' hown hg hat)
   obtain ⟨A',c',rfl,hs',hfr⟩:=hown.slF
   go_ret
   rw [F.out]
   exact ⟨A',c',rfl,hs',(Ext.alloc _ _).grown hg (le_alloc (Nat.le_refl _) _) (fun k hk=>by simp [Value.ownBlock] at hk; omega),hfr⟩
theorem ref1Trim_pcf (L:List Nat) (hk:Ok32 L) (hl:L.length ≤ 100000):PCFt 227 [slP L] (slP (trimL L)) :=
 pcF1 hk Tryz.call227 fun A c w h _=>ref1Trim_any A c L w h (by omega)
open Go.RowKit Fp Pu
def r1CmpFE (L M:List Nat) (N k:Nat) (x:Nat):PS:=⟨30,true,[(5,.e (iP ((N:Int) - 1 - (x:Int)))),(0,.e (slP L)),(1,.e (slP M))],[]⟩
def r1CmpFL (L M:List Nat) (N k:Nat) (x:Nat):PS:=⟨30,true,[(5,.e (iP ((N:Int) - 1 - (x:Int)))),(0,.e (slP L)),(1,.e (slP M))],[]⟩
def r1CmpFG (L M:List Nat) (N k:Nat) (x:Nat):PS:=⟨30,true,[(5,.e (iP ((N:Int) - 1 - (x:Int)))),(0,.e (slP L)),(1,.e (slP M))],[]⟩
def r1BitsFZ (L:List Nat) (k:Nat) (x:Nat):PS:=⟨31,true,[(3,.e (iP ((L.length:Int) - 1 - (x:Int)))),(0,.e (slP L))],[]⟩
def r1BitsFY (L:List Nat) (k:Nat) (x:Nat):PS:=⟨31,true,[(3,.e (iP ((L.length:Int) - 1 - (x:Int)))),(0,.e (slP L))],[]⟩
def r1BitsI (L:List Nat) (k:Nat) (y:Nat):PS:=⟨31,true,[(5,.e (.v (.int .u32 ((((L.getD (((L.length:Int) - 1 - (k:Int))).toNat 0) / 2 ^ y):Nat):Int)))),(4,.e (iP ((32 * ((L.length:Int) - 1 - (k:Int)))+(y:Int))))],[]⟩
theorem r1AtZ_pc (L:List Nat) (z:Int) (hk:Ok32 L) (h0:0 ≤ z):PCt 229 [(slP L),(iP z)] (.v (.int .u64 (((L.getD z.toNat 0):Nat):Int))):=by
 have h1:=hk.getD z.toNat
 exact tr true Tryz.call229 Tryz.func229 (.w (z < (L.length:Int))
  (fun k1=>chain [tB 8 (decide_eq_true k1),iX (z) (L.length) (by omega),.o 13 (.int (u64_nat _ (by omega)):PV.le (.e (.v (.int .u64 (IntKind.u64.wrap (((L.getD (z).toNat 0):Nat):Int))))) (.e (.v (.int .u64 (((L.getD (z).toNat 0):Nat):Int)))))] <| .nil)
  (fun k1=>by
   have hz:L.getD z.toNat 0=0:=by rw [List.getD_eq_getElem?_getD,List.getElem?_eq_none (by omega)]; rfl
   exact chain [tB 8 (decide_eq_false k1)] <| rQ (.v (.int .u64 0)) (.v (.int .u64 (((L.getD z.toNat 0):Nat):Int))) (by rw [hz]; rfl))) (by kernel_rfl)
theorem r1At_pc (L:List Nat) (n:Nat) (hk:Ok32 L):PCt 229 [slP L,iP (n:Int)] (.v (.int .u64 ((L.getD n 0:Nat):Int))):=r1AtZ_pc L n hk (Int.natCast_nonneg n)
theorem r1Cmp_E (L M:List Nat) (N k:Nat) (hL:Ok32 L) (hM:Ok32 M) (hN:N=max L.length M.length) (hs:N ≤ 1000000) (heq:∀ x,x < k → L.getD (N - 1 - x) 0=M.getD (N - 1 - x) 0) (hk:k=N):PCt 231 [(slP L),(slP M)] (iP 0):=by
 exact tr true Tryz.call231 Tryz.func231 (chain [.o 10 (.int (by rw [hN]; split <;> omega):PV.le (.e (iP (if (M.length:Int) > (L.length:Int) then (M.length:Int) else (L.length:Int)))) (.e (iP N))),
  r64 ((N:Int) - 1) (by omega),
  .s (Sp.upto (r1CmpFE L M N k) 0 k (by omega) (fun x hx hltx=>by
    have hj:(((N:Int) - 1 - (x:Int))).toNat=N - 1 - x:=by omega
    have he:=heq x (by omega)
    rw [← hj] at he
    exact spt (chain [tT 13 (0 ≤ ((N:Int) - 1 - (x:Int))) (by omega),.c (r1AtZ_pc L ((N:Int) - 1 - (x:Int)) ‹_› (by omega)),
     .c (r1AtZ_pc M ((N:Int) - 1 - (x:Int)) ‹_› (by omega)),
     tF 22 ((((L.getD (((N:Int) - 1 - (x:Int))).toNat 0):Nat):Int) < (((M.getD (((N:Int) - 1 - (x:Int))).toNat 0):Nat):Int)) (by omega),
     .c (r1AtZ_pc L ((N:Int) - 1 - (x:Int)) ‹_› (by omega)),.c (r1AtZ_pc M ((N:Int) - 1 - (x:Int)) ‹_› (by omega)),
     tF 29 ((((M.getD (((N:Int) - 1 - (x:Int))).toNat 0):Nat):Int) < (((L.getD (((N:Int) - 1 - (x:Int))).toNat 0):Nat):Int)) (by omega),
     r64 (((N:Int) - 1 - (x:Int)) - 1) (by omega)] <| .e (chain [.o 5 (.int (by first | rfl | omega | (simp only [Nat.add_mul,Nat.one_mul]; omega)):PV.le (.e (iP (((N:Int) - 1 - (x:Int)) - 1))) (.e (iP ((N:Int) - 1 - (((x+1):Nat):Int)))))] <| .nil)) (by kernel_rfl))
  (fun hx=>by
    exact spt (chain [tF 13 (0 ≤ ((N:Int) - 1 - (k:Int))) (by omega)] <| .nil) (by kernel_rfl)) (by nofun):LpT 2 Tryz.f231 (r1CmpFE L M N k 0) (.exit 0) ⟨30,true,[],[]⟩) (chain [.o 5 (.int (by first | rfl | omega | (simp only [Nat.add_mul,Nat.one_mul]; omega)):PV.le (.e (iP ((N:Int) - 1))) (.e (iP ((N:Int) - 1 - ((0:Nat):Int)))))] <| .nil)] <| .nil) (by kernel_rfl)
theorem r1Cmp_L (L M:List Nat) (N k:Nat) (hL:Ok32 L) (hM:Ok32 M) (hN:N=max L.length M.length) (hs:N ≤ 1000000) (heq:∀ x,x < k → L.getD (N - 1 - x) 0=M.getD (N - 1 - x) 0) (hk:k < N) (hd:L.getD (N - 1 - k) 0 < M.getD (N - 1 - k) 0):PCt 231 [(slP L),(slP M)] (iP (-1)):=by
 exact tr true Tryz.call231 Tryz.func231 (chain [.o 10 (.int (by rw [hN]; split <;> omega):PV.le (.e (iP (if (M.length:Int) > (L.length:Int) then (M.length:Int) else (L.length:Int)))) (.e (iP N))),
  r64 ((N:Int) - 1) (by omega),
  .s (Sp.upto (r1CmpFL L M N k) 0 k (by omega) (fun x hx hltx=>by
    have hj:(((N:Int) - 1 - (x:Int))).toNat=N - 1 - x:=by omega
    have he:=heq x (by omega)
    rw [← hj] at he
    exact spt (chain [tT 13 (0 ≤ ((N:Int) - 1 - (x:Int))) (by omega),.c (r1AtZ_pc L ((N:Int) - 1 - (x:Int)) ‹_› (by omega)),
     .c (r1AtZ_pc M ((N:Int) - 1 - (x:Int)) ‹_› (by omega)),
     tF 22 ((((L.getD (((N:Int) - 1 - (x:Int))).toNat 0):Nat):Int) < (((M.getD (((N:Int) - 1 - (x:Int))).toNat 0):Nat):Int)) (by omega),
     .c (r1AtZ_pc L ((N:Int) - 1 - (x:Int)) ‹_› (by omega)),.c (r1AtZ_pc M ((N:Int) - 1 - (x:Int)) ‹_› (by omega)),
     tF 29 ((((M.getD (((N:Int) - 1 - (x:Int))).toNat 0):Nat):Int) < (((L.getD (((N:Int) - 1 - (x:Int))).toNat 0):Nat):Int)) (by omega),
     r64 (((N:Int) - 1 - (x:Int)) - 1) (by omega)] <| .e (chain [.o 5 (.int (by first | rfl | omega | (simp only [Nat.add_mul,Nat.one_mul]; omega)):PV.le (.e (iP (((N:Int) - 1 - (x:Int)) - 1))) (.e (iP ((N:Int) - 1 - (((x+1):Nat):Int)))))] <| .nil)) (by kernel_rfl))
  (fun hx=>by
    have hj:(((N:Int) - 1 - (k:Int))).toNat=N - 1 - k:=by omega
    rw [← hj] at hd
    exact spt (chain [tT 13 (0 ≤ ((N:Int) - 1 - (k:Int))) (by omega),.c (r1AtZ_pc L ((N:Int) - 1 - (k:Int)) ‹_› (by omega)),
    .c (r1AtZ_pc M ((N:Int) - 1 - (k:Int)) ‹_› (by omega)),
    tT 22 ((((L.getD (((N:Int) - 1 - (k:Int))).toNat 0):Nat):Int) < (((M.getD (((N:Int) - 1 - (k:Int))).toNat 0):Nat):Int)) (by omega)] <| .nil) (by kernel_rfl)) (by nofun):LpT 2 Tryz.f231 (r1CmpFL L M N k 0) .ret ⟨30,true,[(4,.e (iP (-1)))],[]⟩) (chain [.o 5 (.int (by first | rfl | omega | (simp only [Nat.add_mul,Nat.one_mul]; omega)):PV.le (.e (iP ((N:Int) - 1))) (.e (iP ((N:Int) - 1 - ((0:Nat):Int)))))] <| .nil)] <| rR (iP (-1)) (.of_eq rfl:E.le (iP (-1)) (iP (-1)))) (by kernel_rfl)
theorem r1Cmp_G (L M:List Nat) (N k:Nat) (hL:Ok32 L) (hM:Ok32 M) (hN:N=max L.length M.length) (hs:N ≤ 1000000) (heq:∀ x,x < k → L.getD (N - 1 - x) 0=M.getD (N - 1 - x) 0) (hk:k < N) (hd:M.getD (N - 1 - k) 0 < L.getD (N - 1 - k) 0):PCt 231 [(slP L),(slP M)] (iP 1):=by
 exact tr true Tryz.call231 Tryz.func231 (chain [.o 10 (.int (by rw [hN]; split <;> omega):PV.le (.e (iP (if (M.length:Int) > (L.length:Int) then (M.length:Int) else (L.length:Int)))) (.e (iP N))),
  r64 ((N:Int) - 1) (by omega),
  .s (Sp.upto (r1CmpFG L M N k) 0 k (by omega) (fun x hx hltx=>by
    have hj:(((N:Int) - 1 - (x:Int))).toNat=N - 1 - x:=by omega
    have he:=heq x (by omega)
    rw [← hj] at he
    exact spt (chain [tT 13 (0 ≤ ((N:Int) - 1 - (x:Int))) (by omega),.c (r1AtZ_pc L ((N:Int) - 1 - (x:Int)) ‹_› (by omega)),
     .c (r1AtZ_pc M ((N:Int) - 1 - (x:Int)) ‹_› (by omega)),
     tF 22 ((((L.getD (((N:Int) - 1 - (x:Int))).toNat 0):Nat):Int) < (((M.getD (((N:Int) - 1 - (x:Int))).toNat 0):Nat):Int)) (by omega),
     .c (r1AtZ_pc L ((N:Int) - 1 - (x:Int)) ‹_› (by omega)),.c (r1AtZ_pc M ((N:Int) - 1 - (x:Int)) ‹_› (by omega)),
     tF 29 ((((M.getD (((N:Int) - 1 - (x:Int))).toNat 0):Nat):Int) < (((L.getD (((N:Int) - 1 - (x:Int))).toNat 0):Nat):Int)) (by omega),
     r64 (((N:Int) - 1 - (x:Int)) - 1) (by omega)] <| .e (chain [.o 5 (.int (by first | rfl | omega | (simp only [Nat.add_mul,Nat.one_mul]; omega)):PV.le (.e (iP (((N:Int) - 1 - (x:Int)) - 1))) (.e (iP ((N:Int) - 1 - (((x+1):Nat):Int)))))] <| .nil)) (by kernel_rfl))
  (fun hx=>by
    have hj:(((N:Int) - 1 - (k:Int))).toNat=N - 1 - k:=by omega
    rw [← hj] at hd
    exact spt (chain [tT 13 (0 ≤ ((N:Int) - 1 - (k:Int))) (by omega),.c (r1AtZ_pc L ((N:Int) - 1 - (k:Int)) ‹_› (by omega)),
    .c (r1AtZ_pc M ((N:Int) - 1 - (k:Int)) ‹_› (by omega)),
    tF 22 ((((L.getD (((N:Int) - 1 - (k:Int))).toNat 0):Nat):Int) < (((M.getD (((N:Int) - 1 - (k:Int))).toNat 0):Nat):Int)) (by omega),
    .c (r1AtZ_pc L ((N:Int) - 1 - (k:Int)) ‹_› (by omega)),.c (r1AtZ_pc M ((N:Int) - 1 - (k:Int)) ‹_› (by omega)),
    tT 29 ((((M.getD (((N:Int) - 1 - (k:Int))).toNat 0):Nat):Int) < (((L.getD (((N:Int) - 1 - (k:Int))).toNat 0):Nat):Int)) (by omega)] <| .nil) (by kernel_rfl)) (by nofun):LpT 2 Tryz.f231 (r1CmpFG L M N k 0) .ret ⟨30,true,[(4,.e (iP 1))],[]⟩) (chain [.o 5 (.int (by first | rfl | omega | (simp only [Nat.add_mul,Nat.one_mul]; omega)):PV.le (.e (iP ((N:Int) - 1))) (.e (iP ((N:Int) - 1 - ((0:Nat):Int)))))] <| .nil)] <| .nil) (by kernel_rfl)
theorem r1Cmp_pc (L M:List Nat) (hL:Ok32 L) (hM:Ok32 M) (h1:L.length ≤ 1000000) (h2:M.length ≤ 1000000):PCt 231 [slP L,slP M] (iP (cmpN (val L) (val M))):=by
 obtain ⟨N,hN⟩:∃ N,N=max L.length M.length:=⟨_,rfl⟩
 have vL:val L < 4294967296 ^ N:=Nat.lt_of_lt_of_le (val_lt hL) (Nat.pow_le_pow_right (by decide) (by omega))
 have vM:val M < 4294967296 ^ N:=Nat.lt_of_lt_of_le (val_lt hM) (Nat.pow_le_pow_right (by decide) (by omega))
 by_cases h:∃ x,x < N ∧ (decide (L.getD (N - 1 - x) 0 ≠ M.getD (N - 1 - x) 0))=true
 ·obtain ⟨k,k1,k2,k3⟩:=least_true h
  have heq:∀ x,x < k → L.getD (N - 1 - x) 0=M.getD (N - 1 - x) 0:=fun x hx=>by simpa using k3 x hx
  have hne:L.getD (N - 1 - k) 0 ≠ M.getD (N - 1 - k) 0:=by simpa using k2
  have hup:∀ i,N - 1 - k < i → dig (val L) i=dig (val M) i:=fun i hi=>by
   by_cases hiN:i < N
   ·have:=heq (N - 1 - i) (by omega)
    rw [show N - 1 - (N - 1 - i)=i by omega,getD_dig hL,getD_dig hM] at this
    exact this
   ·rw [dig_of_lt vL (by omega),dig_of_lt vM (by omega)]
  rw [getD_dig hL,getD_dig hM] at hne
  rcases Nat.lt_or_gt_of_ne hne with hd | hd
  ·have:=lt_of_dig vL vM hup hd
   refine (r1Cmp_L L M N k hL hM hN (by omega) heq k1 (by rw [getD_dig hL,getD_dig hM]; exact hd)).res (.of_eq ?_)
   unfold cmpN; rw [if_pos this]
  ·have:=lt_of_dig vM vL (fun i hi=>(hup i hi).symm) hd
   refine (r1Cmp_G L M N k hL hM hN (by omega) heq k1 (by rw [getD_dig hL,getD_dig hM]; exact hd)).res (.of_eq ?_)
   unfold cmpN; rw [if_neg (by omega),if_pos this]
 ·have heq:∀ x,x < N → L.getD (N - 1 - x) 0=M.getD (N - 1 - x) 0:=fun x hx=>by
   apply Classical.byContradiction; intro q; exact h ⟨x,hx,by simpa using q⟩
  have hup:∀ i,dig (val L) i=dig (val M) i:=fun i=>by
   by_cases hiN:i < N
   ·have:=heq (N - 1 - i) (by omega)
    rw [show N - 1 - (N - 1 - i)=i by omega,getD_dig hL,getD_dig hM] at this
    exact this
   ·rw [dig_of_lt vL (by omega),dig_of_lt vM (by omega)]
  refine (r1Cmp_E L M N N hL hM hN (by omega) heq rfl).res (.of_eq ?_)
  rw [eq_of_dig vL vM fun i _=>hup i]
  unfold cmpN; rw [if_neg (Nat.lt_irrefl _),if_neg (Nat.lt_irrefl _)]
theorem r1Less_pc (L M:List Nat) (hL:Ok32 L) (hM:Ok32 M) (h1:L.length ≤ 1000000) (h2:M.length ≤ 1000000):PCt 228 [(slP L),(slP M)] (bP (decide (cmpN (val L) (val M) < 0))):=by
 exact tr true Tryz.call228 Tryz.func228 (chain [.c (r1Cmp_pc _ _ ‹_› ‹_› (by omega) (by omega):PCt 231 [(slP L),(slP M)] _)] <| .nil) (by kernel_rfl)
theorem r1Bits_Z (L:List Nat) (k:Nat) (hL:Ok32 L) (hs:L.length ≤ 1000000) (hz:∀ x,x < k → L.getD (L.length - 1 - x) 0=0) (hk:k=L.length):PCt 189 [(slP L)] (iP 0):=by
 exact tr true Tryz.call189 Tryz.func189 (chain [r64 ((L.length:Int) - 1) (by omega),
  .s (Sp.upto (r1BitsFZ L k) 0 k (by omega) (fun x hx hltx=>by
    have hj:(((L.length:Int) - 1 - (x:Int))).toNat=L.length - 1 - x:=by omega
    have he:=hz x (by omega)
    rw [← hj] at he
    exact spt (chain [tT 10 (0 ≤ ((L.length:Int) - 1 - (x:Int))) (by omega),iX (((L.length:Int) - 1 - (x:Int))) (L.length) (by omega),
     tB 17 (natNZ_false he:((((L.getD (((L.length:Int) - 1 - (x:Int))).toNat 0):Nat):Int) != 0)=false),r64 (((L.length:Int) - 1 - (x:Int)) - 1) (by omega)] <| .e (chain [.o 3 (.int (by first | rfl | omega | (simp only [Nat.add_mul,Nat.one_mul]; omega)):PV.le (.e (iP (((L.length:Int) - 1 - (x:Int)) - 1))) (.e (iP ((L.length:Int) - 1 - (((x+1):Nat):Int)))))] <| .nil)) (by kernel_rfl))
  (fun hx=>by
    exact spt (chain [tF 10 (0 ≤ ((L.length:Int) - 1 - (k:Int))) (by omega)] <| .nil) (by kernel_rfl)) (by nofun):LpT 2 Tryz.f189 (r1BitsFZ L k 0) (.exit 0) ⟨31,true,[],[]⟩) (chain [.o 3 (.int (by first | rfl | omega | (simp only [Nat.add_mul,Nat.one_mul]; omega)):PV.le (.e (iP ((L.length:Int) - 1))) (.e (iP ((L.length:Int) - 1 - ((0:Nat):Int)))))] <| .nil)] <| .nil) (by kernel_rfl)
theorem r1Bits_Y (L:List Nat) (k:Nat) (hL:Ok32 L) (hs:L.length ≤ 1000000) (hz:∀ x,x < k → L.getD (L.length - 1 - x) 0=0) (hk:k < L.length) (hd:L.getD (L.length - 1 - k) 0 ≠ 0):PCt 189 [(slP L)] (iP ((32 * ((L.length:Int) - 1 - (k:Int)))+((bitsN (L.getD (((L.length:Int) - 1 - (k:Int))).toNat 0):Nat):Int))):=by
 exact tr true Tryz.call189 Tryz.func189 (chain [r64 ((L.length:Int) - 1) (by omega),
  .s (Sp.upto (r1BitsFY L k) 0 k (by omega) (fun x hx hltx=>by
    have hj:(((L.length:Int) - 1 - (x:Int))).toNat=L.length - 1 - x:=by omega
    have he:=hz x (by omega)
    rw [← hj] at he
    exact spt (chain [tT 10 (0 ≤ ((L.length:Int) - 1 - (x:Int))) (by omega),iX (((L.length:Int) - 1 - (x:Int))) (L.length) (by omega),
     tB 17 (natNZ_false he:((((L.getD (((L.length:Int) - 1 - (x:Int))).toNat 0):Nat):Int) != 0)=false),r64 (((L.length:Int) - 1 - (x:Int)) - 1) (by omega)] <| .e (chain [.o 3 (.int (by first | rfl | omega | (simp only [Nat.add_mul,Nat.one_mul]; omega)):PV.le (.e (iP (((L.length:Int) - 1 - (x:Int)) - 1))) (.e (iP ((L.length:Int) - 1 - (((x+1):Nat):Int)))))] <| .nil)) (by kernel_rfl))
  (fun hx=>by
    have hj:(((L.length:Int) - 1 - (k:Int))).toNat=L.length - 1 - k:=by omega
    have hlt:=hL.getD (((L.length:Int) - 1 - (k:Int))).toNat
    have hb2:bitsN (L.getD (((L.length:Int) - 1 - (k:Int))).toNat 0) ≤ 32:=bitsN_le_iff.2 hlt
    rw [← hj] at hd
    exact spt (chain [tT 10 (0 ≤ ((L.length:Int) - 1 - (k:Int))) (by omega),iX (((L.length:Int) - 1 - (k:Int))) (L.length) (by omega),
    tB 17 (natNZ_true hd:((((L.getD (((L.length:Int) - 1 - (k:Int))).toNat 0):Nat):Int) != 0)=true),r64 (32 * ((L.length:Int) - 1 - (k:Int))) (by omega),
    iX (((L.length:Int) - 1 - (k:Int))) (L.length) (by omega),
    .s (Sp.upto (r1BitsI L k) 0 (bitsN (L.getD (((L.length:Int) - 1 - (k:Int))).toNat 0)) (by omega) (fun y hy hlty=>by
    have hp:0 < (L.getD (((L.length:Int) - 1 - (k:Int))).toNat 0) / 2 ^ y:=Nat.div_pos (lt_bitsN_iff.1 (by omega)) (Nat.pow_pos (by decide))
    exact spt (chain [tT 25 (0 < ((((L.getD (((L.length:Int) - 1 - (k:Int))).toNat 0) / 2 ^ y):Nat):Int)) (by omega),r64 (((32 * ((L.length:Int) - 1 - (k:Int)))+(y:Int))+1) (by omega),
     .a (by omega:0 ≤ (1:Int) ∧ (1:Int) ≤ ((32:Nat):Int)),
     .o 27 (.int (shr_nat _ _):PV.le (.e (.v (.int .u32 (((((L.getD (((L.length:Int) - 1 - (k:Int))).toNat 0) / 2 ^ y):Nat):Int) / 2 ^ 1)))) (.e (.v (.int .u32 (((((L.getD (((L.length:Int) - 1 - (k:Int))).toNat 0) / 2 ^ y) / 2 ^ 1):Nat):Int)))))] <| .e (chain [.o 5 (.int (by rw [Nat.div_div_eq_div_mul,← Nat.pow_succ]):PV.le (.e (.v (.int .u32 (((((L.getD (((L.length:Int) - 1 - (k:Int))).toNat 0) / 2 ^ y) / 2 ^ 1):Nat):Int)))) (.e (.v (.int .u32 ((((L.getD (((L.length:Int) - 1 - (k:Int))).toNat 0) / 2 ^ (y+1)):Nat):Int))))),
  .o 4 (.int (by first | rfl | omega | (simp only [Nat.add_mul,Nat.one_mul]; omega)):PV.le (.e (iP (((32 * ((L.length:Int) - 1 - (k:Int)))+(y:Int))+1))) (.e (iP ((32 * ((L.length:Int) - 1 - (k:Int)))+(((y+1):Nat):Int)))))] <| .nil)) (by kernel_rfl))
  (fun hy=>by
    have hp:(L.getD (((L.length:Int) - 1 - (k:Int))).toNat 0) / 2 ^ (bitsN (L.getD (((L.length:Int) - 1 - (k:Int))).toNat 0))=0:=Nat.div_eq_of_lt (lt_two_pow_bitsN _)
    exact spt (chain [tF 25 (0 < ((((L.getD (((L.length:Int) - 1 - (k:Int))).toNat 0) / 2 ^ (bitsN (L.getD (((L.length:Int) - 1 - (k:Int))).toNat 0))):Nat):Int)) (by omega)] <| .nil) (by kernel_rfl)) (by nofun):LpT 7 Tryz.f189 (r1BitsI L k 0) (.exit 2) ⟨31,true,[(4,.e (iP ((32 * ((L.length:Int) - 1 - (k:Int)))+(((bitsN (L.getD (((L.length:Int) - 1 - (k:Int))).toNat 0)):Nat):Int))))],[]⟩) (chain [.o 5 (.int (by rw [Nat.pow_zero,Nat.div_one]):PV.le (.e (.v (.int .u32 (((L.getD (((L.length:Int) - 1 - (k:Int))).toNat 0):Nat):Int)))) (.e (.v (.int .u32 ((((L.getD (((L.length:Int) - 1 - (k:Int))).toNat 0) / 2 ^ 0):Nat):Int))))),
  .o 4 (.int (by first | rfl | omega | (simp only [Nat.add_mul,Nat.one_mul]; omega)):PV.le (.e (iP (32 * ((L.length:Int) - 1 - (k:Int))))) (.e (iP ((32 * ((L.length:Int) - 1 - (k:Int)))+((0:Nat):Int)))))] <| .nil)] <| .nil) (by kernel_rfl)) (by nofun):LpT 2 Tryz.f189 (r1BitsFY L k 0) .ret ⟨31,true,[(2,.e (iP ((32 * ((L.length:Int) - 1 - (k:Int)))+(((bitsN (L.getD (((L.length:Int) - 1 - (k:Int))).toNat 0)):Nat):Int))))],[]⟩) (chain [.o 3 (.int (by first | rfl | omega | (simp only [Nat.add_mul,Nat.one_mul]; omega)):PV.le (.e (iP ((L.length:Int) - 1))) (.e (iP ((L.length:Int) - 1 - ((0:Nat):Int)))))] <| .nil)] <| .nil) (by kernel_rfl)
theorem r1Bits_pc (L:List Nat) (hL:Ok32 L) (h1:L.length ≤ 1000000):PCt 189 [slP L] (iP (bitsN (val L))):=by
 by_cases h:∃ x,x < L.length ∧ (decide (L.getD (L.length - 1 - x) 0 ≠ 0))=true
 ·obtain ⟨k,k1,k2,k3⟩:=least_true h
  have hz:∀ x,x < k → L.getD (L.length - 1 - x) 0=0:=fun x hx=>by simpa using k3 x hx
  have hne:L.getD (L.length - 1 - k) 0 ≠ 0:=by simpa using k2
  refine (r1Bits_Y L k hL h1 hz k1 hne).res (.of_eq ?_)
  have hj:(((L.length:Int) - 1 - (k:Int))).toNat=L.length - 1 - k:=by omega
  rw [hj]
  have hb:=bitsN_dig (n:=val L) (k:=L.length - 1 - k) (val_lt_of_top hL fun i hi=>by
   by_cases hi2:i < L.length
   ·have:=hz (L.length - 1 - i) (by omega)
    rwa [show L.length - 1 - (L.length - 1 - i)=i by omega] at this
   ·rw [List.getD_eq_getElem?_getD,List.getElem?_eq_none (by omega)]; rfl) (by rw [← getD_dig hL]; exact hne)
  rw [hb,← getD_dig hL]
  exact congrArg iP (by omega)
 ·have hz:∀ x,x < L.length → L.getD (L.length - 1 - x) 0=0:=fun x hx=>by
   apply Classical.byContradiction; intro q; exact h ⟨x,hx,by simpa using q⟩
  refine (r1Bits_Z L L.length hL h1 hz rfl).res (.of_eq ?_)
  have:val L < 4294967296 ^ 0:=val_lt_of_top hL fun i _=>by
   by_cases hi2:i < L.length
   ·have:=hz (L.length - 1 - i) (by omega)
    rwa [show L.length - 1 - (L.length - 1 - i)=i by omega] at this
   ·rw [List.getD_eq_getElem?_getD,List.getElem?_eq_none (by omega)]; rfl
  have h0:val L=0:=by rw [Nat.pow_zero] at this; omega
  rw [h0]; rfl
open Go.RowKit Fp Pu
def r1AddF (L M:List Nat) (N:Nat) (x:Nat):PS:=⟨41,false,[(5,.own 5),(7,.e (iP x)),(6,.e (.v (.int .u64 (((carryA (val L) (val M) x):Nat):Int)))),(0,.e (slP L)),(1,.e (slP M))],[(5,.row false 127 x 1 (limbEl (digs (val L+val M) x)))]⟩
def r1SubF (L M:List Nat) (x:Nat):PS:=⟨36,false,[(5,.own 5),(7,.e (iP x)),(6,.e (.v (.int .u64 (((carryA (val L - val M) (val M) x):Nat):Int)))),(0,.e (slP L)),(1,.e (slP M))],[(5,.row false 127 x 1 (limbEl (digs (val L - val M) x)))]⟩
def r1ShrF (L:List Nat) (n:Nat) (x:Nat):PS:=⟨36,false,[(5,.own 5),(6,.e (iP ((((n / 32)+x):Nat):Int))),(0,.e (slP L)),(1,.e (iP n))],[(5,.row false 127 x 1 (limbEl (digs (val L / 2 ^ n) x)))]⟩
def r1ShrZ (L:List Nat) (n:Nat) (x:Nat):PS:=⟨36,false,[(5,.own 5),(6,.e (iP ((((n / 32)+x):Nat):Int))),(0,.e (slP L)),(1,.e (iP n))],[(5,.row false 127 x 1 (limbEl (digs 0 x)))]⟩
theorem r1Add_pc (L M:List Nat) (hL:Ok32 L) (hM:Ok32 M) (h1:L.length ≤ 10000) (h2:M.length ≤ 10000):PCt 232 [(slP L),(slP M)] (slP (limbs (val L+val M))):=by
 obtain ⟨N,hN⟩:∃ N,N=max L.length M.length:=⟨_,rfl⟩
 have vL:val L < 4294967296 ^ N:=Nat.lt_of_lt_of_le (val_lt hL) (Nat.pow_le_pow_right (by decide) (by omega))
 have vM:val M < 4294967296 ^ N:=Nat.lt_of_lt_of_le (val_lt hM) (Nat.pow_le_pow_right (by decide) (by omega))
 have hcN:=carryA_le (val L) (val M) N
 have hce:carryA (val L) (val M) (N+carryA (val L) (val M) N)=0:=by
  rcases Nat.lt_or_ge 0 (carryA (val L) (val M) N) with h | h
  ·rw [show carryA (val L) (val M) N=1 by omega]; exact carryA_top1 vL vM
  ·have h0:carryA (val L) (val M) N=0:=by omega
   rw [h0,Nat.add_zero]; exact h0
 have hfit:val L+val M < 4294967296 ^ (N+carryA (val L) (val M) N):=by
  have h:=add_div_pw (val L) (val M) (N+carryA (val L) (val M) N)
  have g1:val L < 4294967296 ^ (N+carryA (val L) (val M) N):=Nat.lt_of_lt_of_le vL (Nat.pow_le_pow_right (by decide) (by omega))
  have g2:val M < 4294967296 ^ (N+carryA (val L) (val M) N):=Nat.lt_of_lt_of_le vM (Nat.pow_le_pow_right (by decide) (by omega))
  rw [hce,Nat.div_eq_of_lt g1,Nat.div_eq_of_lt g2] at h
  exact Nat.lt_of_div_eq_zero (pw _) h
 exact tr false Tryz.call232 Tryz.func232 (chain [.y 5 5 false 127 1 (limbEl (digs (val L+val M) 0)),
  .s (Sp.upto (r1AddF L M N) 0 (N+(carryA (val L) (val M) N)) (by omega) (fun x hx hltx=>by
    have ha:=add_dig (val L) (val M) x
    rw [← getD_dig hL,← getD_dig hM] at ha
    have b1:=hL.getD x
    have b2:=hM.getD x
    have b3:=carryA_le (val L) (val M) x
    have b4:=dig_lt (val L+val M) x
    have hz:((((L.getD x 0+M.getD x 0)+(carryA (val L) (val M) x)) % 4294967296 % 4294967296:Nat):Int)=((dig (val L+val M) x:Nat):Int):=by omega
    have hq:((L.getD x 0+M.getD x 0)+(carryA (val L) (val M) x)) / 4294967296=carryA (val L) (val M) (x+1):=by omega
    by_cases hx:x < N
    ·exact spt (chain [.o 14 (.int (by rw [hN]; split <;> omega):PV.le (.e (iP (if (M.length:Int) > (L.length:Int) then (M.length:Int) else (L.length:Int)))) (.e (iP N))),
      tT 15 ((x:Int) < (N:Int)) (by omega),.c (r1At_pc _ _ ‹_›:PCt 229 [(slP L),(iP x)] _),.c (r1At_pc _ _ ‹_›:PCt 229 [(slP M),(iP x)] _),
      ru64 ((((L.getD x 0):Nat):Int)+(((M.getD x 0):Nat):Int)) (by omega),ru64 (((((L.getD x 0)+(M.getD x 0)):Nat):Int)+(((carryA (val L) (val M) x):Nat):Int)) (by omega),
      .o 33 (.int (u64_and32 _ (by omega)):PV.le (.e (.v (.int .u64 (bits .and .u64 (((((L.getD x 0)+(M.getD x 0))+(carryA (val L) (val M) x)):Nat):Int) 4294967295)))) (.e (.v (.int .u64 ((((((L.getD x 0)+(M.getD x 0))+(carryA (val L) (val M) x)) % 4294967296):Nat):Int))))),
      .o 34 (.int (u32_nat _):PV.le (.e (.v (.int .u32 (IntKind.u32.wrap ((((((L.getD x 0)+(M.getD x 0))+(carryA (val L) (val M) x)) % 4294967296):Nat):Int))))) (.e (.v (.int .u32 (((((((L.getD x 0)+(M.getD x 0))+(carryA (val L) (val M) x)) % 4294967296) % 4294967296):Nat):Int))))),
      .a (by omega:(x+1) * 4 ≤ 140737488355328),.a (by omega:0 ≤ (32:Int) ∧ (32:Int) ≤ ((64:Nat):Int)),
      .o 38 (.int (shr32_nat _):PV.le (.e (.v (.int .u64 ((((((L.getD x 0)+(M.getD x 0))+(carryA (val L) (val M) x)):Nat):Int) / 2 ^ 32)))) (.e (.v (.int .u64 ((((((L.getD x 0)+(M.getD x 0))+(carryA (val L) (val M) x)) / 4294967296):Nat):Int))))),
      r64 ((x:Int)+1) (by omega)] <| .e (chain [.o 6 (.int (by rw [hq]):PV.le (.e (.v (.int .u64 ((((((L.getD x 0)+(M.getD x 0))+(carryA (val L) (val M) x)) / 4294967296):Nat):Int)))) (.e (.v (.int .u64 (((carryA (val L) (val M) (x+1)):Nat):Int))))),
  .b 5 (limb_push rfl hz:Bx.le (.row false 127 (x+1) 1 (fun i_ j_=>if i_ < x then (limbEl (digs (val L+val M) x)) i_ j_ else (E.elf (.sl false 1 1 fun i_ j_=>[(.v (.int .u32 (((((((L.getD x 0)+(M.getD x 0))+(carryA (val L) (val M) x)) % 4294967296) % 4294967296):Nat):Int)))].getD (i_ * 1+j_) (.v (.bool false)))) (i_ - x) j_)) (.row false 127 (x+1) 1 (limbEl (digs (val L+val M) (x+1)))))] <| .nil)) (by kernel_rfl)
    ·have hcx:carryA (val L) (val M) x=carryA (val L) (val M) N:=by rw [show x=N by omega]
     exact spt (chain [.o 14 (.int (by rw [hN]; split <;> omega):PV.le (.e (iP (if (M.length:Int) > (L.length:Int) then (M.length:Int) else (L.length:Int)))) (.e (iP N))),
      tF 15 ((x:Int) < (N:Int)) (by omega),tT 18 (0 < (((carryA (val L) (val M) x):Nat):Int)) (by omega),.c (r1At_pc _ _ ‹_›:PCt 229 [(slP L),(iP x)] _),
      .c (r1At_pc _ _ ‹_›:PCt 229 [(slP M),(iP x)] _),ru64 ((((L.getD x 0):Nat):Int)+(((M.getD x 0):Nat):Int)) (by omega),
      ru64 (((((L.getD x 0)+(M.getD x 0)):Nat):Int)+(((carryA (val L) (val M) x):Nat):Int)) (by omega),
      .o 33 (.int (u64_and32 _ (by omega)):PV.le (.e (.v (.int .u64 (bits .and .u64 (((((L.getD x 0)+(M.getD x 0))+(carryA (val L) (val M) x)):Nat):Int) 4294967295)))) (.e (.v (.int .u64 ((((((L.getD x 0)+(M.getD x 0))+(carryA (val L) (val M) x)) % 4294967296):Nat):Int))))),
      .o 34 (.int (u32_nat _):PV.le (.e (.v (.int .u32 (IntKind.u32.wrap ((((((L.getD x 0)+(M.getD x 0))+(carryA (val L) (val M) x)) % 4294967296):Nat):Int))))) (.e (.v (.int .u32 (((((((L.getD x 0)+(M.getD x 0))+(carryA (val L) (val M) x)) % 4294967296) % 4294967296):Nat):Int))))),
      .a (by omega:(x+1) * 4 ≤ 140737488355328),.a (by omega:0 ≤ (32:Int) ∧ (32:Int) ≤ ((64:Nat):Int)),
      .o 38 (.int (shr32_nat _):PV.le (.e (.v (.int .u64 ((((((L.getD x 0)+(M.getD x 0))+(carryA (val L) (val M) x)):Nat):Int) / 2 ^ 32)))) (.e (.v (.int .u64 ((((((L.getD x 0)+(M.getD x 0))+(carryA (val L) (val M) x)) / 4294967296):Nat):Int))))),
      r64 ((x:Int)+1) (by omega)] <| .e (chain [.o 6 (.int (by rw [hq]):PV.le (.e (.v (.int .u64 ((((((L.getD x 0)+(M.getD x 0))+(carryA (val L) (val M) x)) / 4294967296):Nat):Int)))) (.e (.v (.int .u64 (((carryA (val L) (val M) (x+1)):Nat):Int))))),
  .b 5 (limb_push rfl hz:Bx.le (.row false 127 (x+1) 1 (fun i_ j_=>if i_ < x then (limbEl (digs (val L+val M) x)) i_ j_ else (E.elf (.sl false 1 1 fun i_ j_=>[(.v (.int .u32 (((((((L.getD x 0)+(M.getD x 0))+(carryA (val L) (val M) x)) % 4294967296) % 4294967296):Nat):Int)))].getD (i_ * 1+j_) (.v (.bool false)))) (i_ - x) j_)) (.row false 127 (x+1) 1 (limbEl (digs (val L+val M) (x+1)))))] <| .nil)) (by kernel_rfl))
  (fun hx=>by
    exact spt (chain [.o 14 (.int (by rw [hN]; split <;> omega):PV.le (.e (iP (if (M.length:Int) > (L.length:Int) then (M.length:Int) else (L.length:Int)))) (.e (iP N))),
    tF 15 ((((N+(carryA (val L) (val M) N)):Nat):Int) < (N:Int)) (by omega),tF 18 (0 < (((carryA (val L) (val M) (N+(carryA (val L) (val M) N))):Nat):Int)) (by omega),.z 5] <| .e (chain [.o 5 (.e (slRow_le (digs_len _ _).symm):PV.le (.e (.sl false (N+(carryA (val L) (val M) N)) 1 (limbEl (digs (val L+val M) (N+(carryA (val L) (val M) N)))))) (.e (slP (digs (val L+val M) (N+(carryA (val L) (val M) N))))))] <| .nil)) (by kernel_rfl)) (by nofun):LpT 4 Tryz.f232 (r1AddF L M N 0) (.exit 0) ⟨41,false,[(5,.e (slP (digs (val L+val M) (N+(carryA (val L) (val M) N)))))],[]⟩) (chain [.o 6 (.int (by rw [carryA_zero]; rfl):PV.le (.e (.v (.int .u64 0))) (.e (.v (.int .u64 (((carryA (val L) (val M) 0):Nat):Int)))))] <| .nil),
  .cf (ref1Trim_pcf _ (digs_ok _ _) (by first | omega | (simp only [digs_len]; omega)):PCFt 227 [(slP (digs (val L+val M) (N+(carryA (val L) (val M) N))))] _)] <| rQ (slP (trimL (digs (val L+val M) (N+(carryA (val L) (val M) N))))) (slP (limbs (val L+val M))) (by rw [trimL_digs hfit])) (by kernel_rfl)
theorem r1Sub_pc (L M:List Nat) (hL:Ok32 L) (hM:Ok32 M) (h1:L.length ≤ 10000) (hle:val M ≤ val L):PCt 248 [(slP L),(slP M)] (slP (limbs (val L - val M))):=by
 have hfit:val L - val M < 4294967296 ^ L.length:=Nat.lt_of_le_of_lt (Nat.sub_le _ _) (val_lt hL)
 exact tr false Tryz.call248 Tryz.func248 (chain [.y 5 5 false 127 1 (limbEl (digs (val L - val M) 0)),
  .s (Sp.upto (r1SubF L M) 0 L.length (by omega) (fun x hx hltx=>by
    have ha:=sub_dig hle x
    rw [← getD_dig hL,← getD_dig hM] at ha
    have b1:=hL.getD x
    have b2:=hM.getD x
    have b3:=carryA_le (val L - val M) (val M) x
    have b5:=carryA_le (val L - val M) (val M) (x+1)
    have b4:=dig_lt (val L - val M) x
    have hz:(((((L.getD x 0+4294967296) - M.getD x 0) - (carryA (val L - val M) (val M) x)) % 4294967296 % 4294967296:Nat):Int)=((dig (val L - val M) x:Nat):Int):=by omega
    have hq:1 - (((L.getD x 0+4294967296) - M.getD x 0) - (carryA (val L - val M) (val M) x)) / 4294967296=carryA (val L - val M) (val M) (x+1):=by omega
    exact spt (chain [tT 12 ((x:Int) < (L.length:Int)) (by omega),.c (r1At_pc _ _ ‹_›:PCt 229 [(slP L),(iP x)] _),ru64 ((((L.getD x 0):Nat):Int)+4294967296) (by omega),
     .c (r1At_pc _ _ ‹_›:PCt 229 [(slP M),(iP x)] _),ru64 (((((L.getD x 0)+4294967296):Nat):Int) - (((M.getD x 0):Nat):Int)) (by omega),
     .o 22 (.int (by omega):PV.le (.e (.v (.int .u64 (((((L.getD x 0)+4294967296):Nat):Int) - (((M.getD x 0):Nat):Int))))) (.e (.v (.int .u64 ((((L.getD x 0+4294967296) - M.getD x 0):Nat):Int))))),
     ru64 (((((L.getD x 0+4294967296) - M.getD x 0):Nat):Int) - (((carryA (val L - val M) (val M) x):Nat):Int)) (by omega),
     .o 24 (.int (by omega):PV.le (.e (.v (.int .u64 (((((L.getD x 0+4294967296) - M.getD x 0):Nat):Int) - (((carryA (val L - val M) (val M) x):Nat):Int))))) (.e (.v (.int .u64 (((((L.getD x 0+4294967296) - M.getD x 0) - (carryA (val L - val M) (val M) x)):Nat):Int))))),
     .o 27 (.int (u64_and32 _ (by omega)):PV.le (.e (.v (.int .u64 (bits .and .u64 (((((L.getD x 0+4294967296) - M.getD x 0) - (carryA (val L - val M) (val M) x)):Nat):Int) 4294967295)))) (.e (.v (.int .u64 ((((((L.getD x 0+4294967296) - M.getD x 0) - (carryA (val L - val M) (val M) x)) % 4294967296):Nat):Int))))),
     .o 28 (.int (u32_nat _):PV.le (.e (.v (.int .u32 (IntKind.u32.wrap ((((((L.getD x 0+4294967296) - M.getD x 0) - (carryA (val L - val M) (val M) x)) % 4294967296):Nat):Int))))) (.e (.v (.int .u32 (((((((L.getD x 0+4294967296) - M.getD x 0) - (carryA (val L - val M) (val M) x)) % 4294967296) % 4294967296):Nat):Int))))),
     .a (by omega:(x+1) * 4 ≤ 140737488355328),.a (by omega:0 ≤ (32:Int) ∧ (32:Int) ≤ ((64:Nat):Int)),
     .o 32 (.int (shr32_nat _):PV.le (.e (.v (.int .u64 ((((((L.getD x 0+4294967296) - M.getD x 0) - (carryA (val L - val M) (val M) x)):Nat):Int) / 2 ^ 32)))) (.e (.v (.int .u64 ((((((L.getD x 0+4294967296) - M.getD x 0) - (carryA (val L - val M) (val M) x)) / 4294967296):Nat):Int))))),
     ru64 (1 - ((((((L.getD x 0+4294967296) - M.getD x 0) - (carryA (val L - val M) (val M) x)) / 4294967296):Nat):Int)) (by omega),
     .o 33 (.int (by omega):PV.le (.e (.v (.int .u64 (1 - ((((((L.getD x 0+4294967296) - M.getD x 0) - (carryA (val L - val M) (val M) x)) / 4294967296):Nat):Int))))) (.e (.v (.int .u64 (((1 - ((((L.getD x 0+4294967296) - M.getD x 0) - (carryA (val L - val M) (val M) x)) / 4294967296)):Nat):Int))))),
     r64 ((x:Int)+1) (by omega)] <| .e (chain [.o 6 (.int (by rw [hq]):PV.le (.e (.v (.int .u64 (((1 - ((((L.getD x 0+4294967296) - M.getD x 0) - (carryA (val L - val M) (val M) x)) / 4294967296)):Nat):Int)))) (.e (.v (.int .u64 (((carryA (val L - val M) (val M) (x+1)):Nat):Int))))),
  .b 5 (limb_push rfl hz:Bx.le (.row false 127 (x+1) 1 (fun i_ j_=>if i_ < x then (limbEl (digs (val L - val M) x)) i_ j_ else (E.elf (.sl false 1 1 fun i_ j_=>[(.v (.int .u32 (((((((L.getD x 0+4294967296) - M.getD x 0) - (carryA (val L - val M) (val M) x)) % 4294967296) % 4294967296):Nat):Int)))].getD (i_ * 1+j_) (.v (.bool false)))) (i_ - x) j_)) (.row false 127 (x+1) 1 (limbEl (digs (val L - val M) (x+1)))))] <| .nil)) (by kernel_rfl))
  (fun hx=>by
    exact spt (chain [tF 12 ((L.length:Int) < (L.length:Int)) (by omega),.z 5] <| .e (chain [.o 5 (.e (slRow_le (digs_len _ _).symm):PV.le (.e (.sl false L.length 1 (limbEl (digs (val L - val M) L.length)))) (.e (slP (digs (val L - val M) L.length))))] <| .nil)) (by kernel_rfl)) (by nofun):LpT 4 Tryz.f248 (r1SubF L M 0) (.exit 0) ⟨36,false,[(5,.e (slP (digs (val L - val M) L.length)))],[]⟩) (chain [.o 6 (.int (by rw [carryA_zero]; rfl):PV.le (.e (.v (.int .u64 0))) (.e (.v (.int .u64 (((carryA (val L - val M) (val M) 0):Nat):Int)))))] <| .nil),
  .cf (ref1Trim_pcf _ (digs_ok _ _) (by first | omega | (simp only [digs_len]; omega)):PCFt 227 [(slP (digs (val L - val M) L.length))] _)] <| rQ (slP (trimL (digs (val L - val M) L.length))) (slP (limbs (val L - val M))) (by rw [trimL_digs hfit])) (by kernel_rfl)
theorem r1Shr_pc (L:List Nat) (n:Nat) (hL:Ok32 L) (h1:L.length ≤ 10000) (hn:n ≤ 1000000):PCt 230 [(slP L),(iP n)] (slP (limbs (val L / 2 ^ n))):=by
 have hfit:val L / 2 ^ n < 4294967296 ^ (L.length - n / 32):=by
  rw [Nat.div_lt_iff_lt_mul (Nat.pow_pos (by decide))]
  by_cases h:n / 32 ≤ L.length
  ·refine Nat.lt_of_lt_of_le (val_lt hL) ?_
   rw [pow32,pow32,← Nat.pow_add]
   exact Nat.pow_le_pow_right (by decide) (by omega)
  ·rw [show L.length - n / 32=0 by omega,Nat.pow_zero,Nat.one_mul]
   refine Nat.lt_of_lt_of_le (val_lt hL) ?_
   rw [pow32]
   exact Nat.pow_le_pow_right (by decide) (by omega)
 by_cases hnl:n / 32 ≤ L.length
 ·exact tr false Tryz.call230 Tryz.func230 (chain [.a (by omega:0 ≤ ((n:Int):Int) ∧ 0 < (32:Int)),r64 ((n:Int)) (by omega),.y 5 5 false 127 1 (limbEl (digs (val L / 2 ^ n) 0)),
   .s (Sp.upto (r1ShrF L n) 0 (L.length - n / 32) (by omega) (fun x hx hltx=>by
    have b1:=hL.getD ((n / 32)+x)
    have b2:=hL.getD (((n / 32)+x)+1)
    have b3:(L.getD ((n / 32)+x) 0+(L.getD (((n / 32)+x)+1) 0 * 4294967296)) / 2 ^ (n % 32) ≤ (L.getD ((n / 32)+x) 0+(L.getD (((n / 32)+x)+1) 0 * 4294967296)):=Nat.div_le_self _ _
    have hz:(((L.getD ((n / 32)+x) 0+(L.getD (((n / 32)+x)+1) 0 * 4294967296)) / 2 ^ (n % 32) % 4294967296 % 4294967296:Nat):Int)=((dig (val L / 2 ^ n) x:Nat):Int):=by
     rw [Nat.mod_mod,shr_dig,← getD_dig hL,← getD_dig hL,Nat.add_comm x,Nat.mul_comm 4294967296]
    exact spt (chain [tT 13 (((((n / 32)+x):Nat):Int) < (L.length:Int)) (by omega),.c (r1At_pc _ _ ‹_›:PCt 229 [(slP L),(iP ((((n / 32)+x):Nat):Int))] _),r64 (((((n / 32)+x):Nat):Int)+1) (by omega),
     .c (r1At_pc _ _ ‹_›:PCt 229 [(slP L),(iP (((((n / 32)+x)+1):Nat):Int))] _),.a (by omega:0 ≤ (32:Int) ∧ (32:Int) ≤ ((64:Nat):Int)),
     .o 23 (.int (shl32_nat _ (by omega)):PV.le (.e (.v (.int .u64 (IntKind.u64.wrap ((((L.getD (((n / 32)+x)+1) 0):Nat):Int) * 2 ^ 32))))) (.e (.v (.int .u64 (((L.getD (((n / 32)+x)+1) 0 * 4294967296):Nat):Int))))),
     ru64 ((((L.getD ((n / 32)+x) 0):Nat):Int)+(((L.getD (((n / 32)+x)+1) 0 * 4294967296):Nat):Int)) (by omega),.a (by omega:0 < (32:Int)),
     .a (by omega:0 ≤ ((((n % 32):Nat):Int):Int) ∧ ((((n % 32):Nat):Int):Int) ≤ ((64:Nat):Int)),
     .o 29 (.int (shr_nat _ _):PV.le (.e (.v (.int .u64 (((((L.getD ((n / 32)+x) 0)+(L.getD (((n / 32)+x)+1) 0 * 4294967296)):Nat):Int) / 2 ^ (n % 32))))) (.e (.v (.int .u64 (((((L.getD ((n / 32)+x) 0)+(L.getD (((n / 32)+x)+1) 0 * 4294967296)) / 2 ^ (n % 32)):Nat):Int))))),
     .o 30 (.int (u64_and32 _ (by omega)):PV.le (.e (.v (.int .u64 (bits .and .u64 (((((L.getD ((n / 32)+x) 0)+(L.getD (((n / 32)+x)+1) 0 * 4294967296)) / 2 ^ (n % 32)):Nat):Int) 4294967295)))) (.e (.v (.int .u64 ((((((L.getD ((n / 32)+x) 0)+(L.getD (((n / 32)+x)+1) 0 * 4294967296)) / 2 ^ (n % 32)) % 4294967296):Nat):Int))))),
     .o 31 (.int (u32_nat _):PV.le (.e (.v (.int .u32 (IntKind.u32.wrap ((((((L.getD ((n / 32)+x) 0)+(L.getD (((n / 32)+x)+1) 0 * 4294967296)) / 2 ^ (n % 32)) % 4294967296):Nat):Int))))) (.e (.v (.int .u32 (((((((L.getD ((n / 32)+x) 0)+(L.getD (((n / 32)+x)+1) 0 * 4294967296)) / 2 ^ (n % 32)) % 4294967296) % 4294967296):Nat):Int))))),
     .a (by omega:(x+1) * 4 ≤ 140737488355328),r64 (((((n / 32)+x):Nat):Int)+1) (by omega)] <| .e (chain [.o 6 (.int (by first | rfl | omega | (simp only [Nat.add_mul,Nat.one_mul]; omega)):PV.le (.e (iP (((((n / 32)+x)+1):Nat):Int))) (.e (iP ((((n / 32)+(x+1)):Nat):Int)))),
  .b 5 (limb_push rfl hz:Bx.le (.row false 127 (x+1) 1 (fun i_ j_=>if i_ < x then (limbEl (digs (val L / 2 ^ n) x)) i_ j_ else (E.elf (.sl false 1 1 fun i_ j_=>[(.v (.int .u32 (((((((L.getD ((n / 32)+x) 0)+(L.getD (((n / 32)+x)+1) 0 * 4294967296)) / 2 ^ (n % 32)) % 4294967296) % 4294967296):Nat):Int)))].getD (i_ * 1+j_) (.v (.bool false)))) (i_ - x) j_)) (.row false 127 (x+1) 1 (limbEl (digs (val L / 2 ^ n) (x+1)))))] <| .nil)) (by kernel_rfl))
  (fun hx=>by
    exact spt (chain [tF 13 (((((n / 32)+(L.length - n / 32)):Nat):Int) < (L.length:Int)) (by omega),.z 5] <| .e (chain [.o 5 (.e (slRow_le (digs_len _ _).symm):PV.le (.e (.sl false (L.length - n / 32) 1 (limbEl (digs (val L / 2 ^ n) (L.length - n / 32))))) (.e (slP (digs (val L / 2 ^ n) (L.length - n / 32)))))] <| .nil)) (by kernel_rfl)) (by nofun):LpT 3 Tryz.f230 (r1ShrF L n 0) (.exit 0) ⟨36,false,[(5,.e (slP (digs (val L / 2 ^ n) (L.length - n / 32))))],[]⟩) (chain [.o 6 (.int (by first | rfl | omega | (simp only [Nat.add_mul,Nat.one_mul]; omega)):PV.le (.e (iP (((n / 32):Nat):Int))) (.e (iP ((((n / 32)+0):Nat):Int))))] <| .nil),
   .cf (ref1Trim_pcf _ (digs_ok _ _) (by first | omega | (simp only [digs_len]; omega)):PCFt 227 [(slP (digs (val L / 2 ^ n) (L.length - n / 32)))] _)] <| rQ (slP (trimL (digs (val L / 2 ^ n) (L.length - n / 32)))) (slP (limbs (val L / 2 ^ n))) (by rw [trimL_digs hfit])) (by kernel_rfl)
 ·have h0:val L / 2 ^ n=0:=by rw [show L.length - n / 32=0 by omega,Nat.pow_zero] at hfit; exact Nat.lt_one_iff.1 hfit
  rw [h0]
  exact tr false Tryz.call230 Tryz.func230 (chain [.a (by omega:0 ≤ ((n:Int):Int) ∧ 0 < (32:Int)),r64 ((n:Int)) (by omega),.y 5 5 false 127 1 (limbEl (digs 0 0)),
   .s (Sp.upto (r1ShrZ L n) 0 0 (by omega) (fun x hx hltx=>by
    omega)
  (fun hx=>by
    exact spt (chain [tF 13 (((((n / 32)+0):Nat):Int) < (L.length:Int)) (by omega),.z 5] <| .e (chain [.o 5 (.e (slRow_le (digs_len _ _).symm):PV.le (.e (.sl false 0 1 (limbEl (digs 0 0)))) (.e (slP (digs 0 0))))] <| .nil)) (by kernel_rfl)) (by nofun):LpT 3 Tryz.f230 (r1ShrZ L n 0) (.exit 0) ⟨36,false,[(5,.e (slP (digs 0 0)))],[]⟩) (chain [.o 6 (.int (by first | rfl | omega | (simp only [Nat.add_mul,Nat.one_mul]; omega)):PV.le (.e (iP (((n / 32):Nat):Int))) (.e (iP ((((n / 32)+0):Nat):Int))))] <| .nil),
   .cf (ref1Trim_pcf _ (digs_ok _ _) (by first | omega | (simp only [digs_len]; omega)):PCFt 227 [(slP (digs 0 0))] _)] <| rQ (slP (trimL (digs 0 0))) (slP (limbs 0)) (by rw [trimL_digs (by decide)])) (by kernel_rfl)
end Go.Proofs.YtdppllbbgfekaaaGreatDoor
namespace Go.Proofs.YtdppllbbgfekaaaGreatDoor.Fp
def dvR (a b n x:Nat):Nat:=a / 2 ^ (n - x) % b
def dvQ (a b n x:Nat):Nat:=a / 2 ^ (n - x) / b
def dvB (a n x:Nat):Nat:=a / 2 ^ (n - 1 - x) % 2
theorem dvB_le (a n x:Nat):dvB a n x ≤ 1:=by unfold dvB; omega
theorem dv_next {a n x:Nat} (hx:x < n):a / 2 ^ (n - (x+1))=2 * (a / 2 ^ (n - x))+dvB a n x:=by
 unfold dvB
 rw [show n - x=(n - 1 - x)+1 by omega,show n - (x+1)=n - 1 - x by omega,Nat.pow_succ,← Nat.div_div_eq_div_mul]
 omega
theorem dv_less {a b n x:Nat} (hb:0 < b) (hx:x < n) (h:2 * dvR a b n x+dvB a n x < b):dvR a b n (x+1)=2 * dvR a b n x+dvB a n x ∧ dvQ a b n (x+1)=2 * dvQ a b n x:=by
 have e:a / 2 ^ (n - (x+1))=b * (2 * dvQ a b n x)+(2 * dvR a b n x+dvB a n x):=by
  rw [dv_next hx]
  have:=Nat.div_add_mod (a / 2 ^ (n - x)) b
  unfold dvQ dvR
  rw [Nat.mul_left_comm]
  omega
 constructor
 ·conv=>lhs; unfold dvR
  rw [e,Nat.mul_add_mod,Nat.mod_eq_of_lt h]
 ·conv=>lhs; unfold dvQ
  rw [e,Nat.mul_add_div hb,Nat.div_eq_of_lt h,Nat.add_zero]
theorem dv_more {a b n x:Nat} (hb:0 < b) (hx:x < n) (h:¬ 2 * dvR a b n x+dvB a n x < b):dvR a b n (x+1)=2 * dvR a b n x+dvB a n x - b ∧ dvQ a b n (x+1)=2 * dvQ a b n x+1:=by
 have hr:dvR a b n x < b:=Nat.mod_lt _ hb
 have hbit:=dvB_le a n x
 have e:a / 2 ^ (n - (x+1))=b * (2 * dvQ a b n x+1)+(2 * dvR a b n x+dvB a n x - b):=by
  rw [dv_next hx]
  have:=Nat.div_add_mod (a / 2 ^ (n - x)) b
  unfold dvQ dvR at *
  rw [Nat.mul_add,Nat.mul_left_comm,Nat.mul_one]
  omega
 constructor
 ·conv=>lhs; unfold dvR
  rw [e,Nat.mul_add_mod,Nat.mod_eq_of_lt (by omega)]
 ·conv=>lhs; unfold dvQ
  rw [e,Nat.mul_add_div hb,Nat.div_eq_of_lt (by omega),Nat.add_zero]
theorem dv_zero {a b n:Nat} (h:a < 2 ^ n):dvR a b n 0=0 ∧ dvQ a b n 0=0:=by
 unfold dvR dvQ; rw [Nat.sub_zero,Nat.div_eq_of_lt h]; simp
theorem dv_end (a b n:Nat):dvR a b n n=a % b ∧ dvQ a b n n=a / b:=by
 unfold dvR dvQ; rw [Nat.sub_self,Nat.pow_zero,Nat.div_one]; exact ⟨rfl,rfl⟩
theorem dvQ_le (a b n x:Nat):dvQ a b n x * 2 ^ (n - x) ≤ a:=by
 unfold dvQ
 exact Nat.le_trans (Nat.mul_le_mul_right _ (Nat.div_le_self _ _)) (Nat.div_mul_le_self _ _)
theorem bits_of_len {L:List Nat} (h:Ok32 L):bitsN (val L) ≤ 32 * L.length:=bitsN_le_iff.2 (by rw [← pow32]; exact val_lt h)
theorem set_bit {q i m:Nat} (hi:i / 32 < m) (hq:q * 2 ^ (i+1) < 4294967296 ^ m) :
  (∃ t,dig (q * 2 ^ (i+1)) (i / 32)=t * 2 ^ (i % 32+1)) ∧ dig (q * 2 ^ (i+1)) (i / 32)+2 ^ (i % 32) < 4294967296 ∧
  (digs (q * 2 ^ (i+1)) m).set (i / 32) (dig (q * 2 ^ (i+1)) (i / 32)+2 ^ (i % 32))=digs ((2 * q+1) * 2 ^ i) m:=by
 have hr:i % 32 < 32:=Nat.mod_lt _ (by decide)
 have e1:q * 2 ^ (i+1) / 4294967296 ^ (i / 32)=q * 2 ^ (i % 32+1):=by
  rw [show i+1=(i % 32+1)+32 * (i / 32) by omega,Nat.pow_add,← pow32,← Nat.mul_assoc,Nat.mul_div_cancel _ (pw _)]
 have h3:(4294967296:Nat)=2 ^ (i % 32+1) * 2 ^ (32 - (i % 32+1)):=by rw [← Nat.pow_add,show i % 32+1+(32 - (i % 32+1))=32 by omega]
 have e2:dig (q * 2 ^ (i+1)) (i / 32)=(q % 2 ^ (32 - (i % 32+1))) * 2 ^ (i % 32+1):=by
  unfold dig
  rw [e1,Nat.mul_comm]
  conv=>lhs; rhs; rw [h3]
  rw [Nat.mul_mod_mul_left,Nat.mul_comm]
 have e3:(q % 2 ^ (32 - (i % 32+1))) * 2 ^ (i % 32+1)+2 ^ (i % 32+1) ≤ 4294967296:=by
  have:=Nat.mul_le_mul_right (2 ^ (i % 32+1)) (show q % 2 ^ (32 - (i % 32+1))+1 ≤ 2 ^ (32 - (i % 32+1)) from Nat.mod_lt _ (Nat.pow_pos (by decide)))
  rw [Nat.add_mul,Nat.one_mul] at this
  refine Nat.le_trans this (Nat.le_of_eq ?_)
  rw [Nat.mul_comm]; exact h3.symm
 have e4:2 ^ (i % 32) < 2 ^ (i % 32+1):=Nat.pow_lt_pow_right (by decide) (by omega)
 have hlt:dig (q * 2 ^ (i+1)) (i / 32)+2 ^ (i % 32) < 4294967296:=by rw [e2]; omega
 refine ⟨⟨_,e2⟩,hlt,?_⟩
 have hk:i / 32 < (digs (q * 2 ^ (i+1)) m).length:=by rw [digs_len]; exact hi
 have hv:=val_setD (x:=dig (q * 2 ^ (i+1)) (i / 32)+2 ^ (i % 32)) hk
 rw [digs_getD hi,val_digs,Nat.mod_eq_of_lt hq,Nat.mul_add] at hv
 refine (digs_eq ((digs_ok _ _).set _ hlt) (by rw [List.length_set,digs_len]) ?_).symm
 have e5:4294967296 ^ (i / 32) * 2 ^ (i % 32)=2 ^ i:=by rw [pow32,← Nat.pow_add]; congr 1; omega
 rw [e5] at hv
 have e6:2 * q * 2 ^ i=q * 2 ^ (i+1):=by rw [Nat.pow_succ,Nat.mul_comm 2 q,Nat.mul_assoc,Nat.mul_comm 2]
 rw [Nat.add_mul,Nat.one_mul,e6]
 omega
end Go.Proofs.YtdppllbbgfekaaaGreatDoor.Fp
namespace Go.Proofs.YtdppllbbgfekaaaGreatDoor
open Go.RowKit Fp Pu
theorem or_bit (s t:Nat) (hs:s < 32) (hlt:t * 2 ^ (s+1)+2 ^ s < 4294967296):bits .or .u32 ((t * 2 ^ (s+1):Nat):Int) (IntKind.u32.wrap (1 * 2 ^ s))=((t * 2 ^ (s+1)+2 ^ s:Nat):Int):=by
 have h2:2 ^ s < 2 ^ (s+1):=Nat.pow_lt_pow_right (by decide) (by omega)
 have e:IntKind.u32.wrap (1 * 2 ^ s)=((2 ^ s:Nat):Int):=by
  rw [IntKind.wrap_u32,Int.one_mul,show (2:Int) ^ s=((2 ^ s:Nat):Int) by simp]
  omega
 rw [e,u32_or_nat _ _ (by omega) (by omega),Nat.or_comm,or_add _ t (s+1) h2,Nat.add_comm]
theorem or_low (o r a:Nat) (hr:r < 32) (ho:o < 2 ^ r):bits .or .u32 (o:Int) ((a * 2 ^ r % 4294967296 % 4294967296:Nat):Int)=((o+a * 2 ^ r % 4294967296:Nat):Int):=by
 have h3:(4294967296:Nat)=2 ^ r * 2 ^ (32 - r):=by rw [← Nat.pow_add,show r+(32 - r)=32 by omega]
 have h31:2 ^ r ≤ 2 ^ 31:=Nat.pow_le_pow_right (by decide) (by omega)
 have h31':(2:Nat) ^ 31=2147483648:=by decide
 have e2:a * 2 ^ r % 4294967296=(a % 2 ^ (32 - r)) * 2 ^ r:=by
  rw [Nat.mul_comm]
  conv=>lhs; rhs; rw [h3]
  rw [Nat.mul_mod_mul_left,Nat.mul_comm]
 rw [Nat.mod_mod,u32_or_nat _ _ (by omega) (Nat.mod_lt _ (by decide)),e2,or_add _ _ _ ho]
theorem shl_pow_nat (a r:Nat) (ha:a < 4294967296) (hr:r < 32):IntKind.u64.wrap ((a:Int) * 2 ^ r)=((a * 2 ^ r:Nat):Int):=by
 have h31:2 ^ r ≤ 2 ^ 31:=Nat.pow_le_pow_right (by decide) (by omega)
 have h31':(2:Nat) ^ 31=2147483648:=by decide
 have h2:a * 2 ^ r ≤ 4294967295 * 2147483648:=Nat.mul_le_mul (by omega) (by omega)
 have e:(a:Int) * 2 ^ r=((a * 2 ^ r:Nat):Int):=by simp
 rw [e]
 exact u64_nat _ (by omega)
theorem shl_le {a r:Nat} (ha:a < 4294967296) (hr:r < 32):a * 2 ^ r ≤ 9223372034707292160:=by
 have h31:2 ^ r ≤ 2 ^ 31:=Nat.pow_le_pow_right (by decide) (by omega)
 have h31':(2:Nat) ^ 31=2147483648:=by decide
 have h2:a * 2 ^ r ≤ 4294967295 * 2147483648:=Nat.mul_le_mul (by omega) (by omega)
 omega
theorem shl1_nat (x:Nat):IntKind.u32.wrap ((x:Int) * 2 ^ 1)=((2 * x % 4294967296:Nat):Int):=by rw [IntKind.wrap_u32]; omega
theorem or1_nat (x c:Nat) (hc:c ≤ 1):bits .or .u32 ((2 * x % 4294967296:Nat):Int) (c:Int)=((2 * x % 4294967296+c:Nat):Int):=by
 have h:2 * x % 4294967296=(2 * x % 4294967296 / 2) * 2 ^ 1:=by omega
 rw [u32_or_nat _ _ (by omega) (by omega),Nat.or_comm,h,or_add _ _ 1 (by omega),Nat.add_comm]
theorem row_set2 {T n n' p q:Nat} {L L':List Nat} {z y:Nat} (hn:n=n') (hp:p < L.length) (hq:q < L.length) (hs:(L.set p z).set q y=L') :
  Bx.le (.row false T n 1 fun i' j'=>if i'=q ∧ 0 ≤ j' ∧ j' < 0+1 then [.v (.int .u32 ((y:Nat):Int))].getD (j' - 0) .any else (fun i' j'=>if i'=p ∧ 0 ≤ j' ∧ j' < 0+1 then [.v (.int .u32 ((z:Nat):Int))].getD (j' - 0) .any else (limbEl L) i' j') i' j') (.row false T n' 1 (limbEl L')):=by
 subst hs
 refine .row hn fun i j _ hj=>?_
 obtain rfl:j=0:=by omega
 refine ⟨.of_eq ?_,rfl⟩
 by_cases h1:i=q
 ·subst h1
  rw [if_pos ⟨rfl,by omega,by omega⟩]
  show E.v (.int .u32 ((y:Nat):Int))=E.v (.int .u32 ((((L.set p z).set i y).getD i 0:Nat):Int))
  rw [Fp.getD_set_eq (by rw [List.length_set]; exact hq)]
 ·rw [if_neg (fun k=>h1 k.1)]
  by_cases h:i=p
  ·subst h
   show (if i=i ∧ 0 ≤ 0 ∧ 0 < 0+1 then _ else _)=E.v (.int .u32 ((((L.set i z).set q y).getD i 0:Nat):Int))
   rw [if_pos ⟨rfl,by omega,by omega⟩,Fp.getD_set_ne (fun k=>h1 k.symm),Fp.getD_set_eq hp]
   rfl
  ·show (if i=p ∧ 0 ≤ 0 ∧ 0 < 0+1 then _ else E.v (.int .u32 ((L.getD i 0:Nat):Int)))=E.v (.int .u32 ((((L.set p z).set q y).getD i 0:Nat):Int))
   rw [if_neg (fun k=>h k.1),Fp.getD_set_ne (fun k=>h1 k.symm),Fp.getD_set_ne (fun k=>h k.symm)]
open Go.RowKit Fp Pu
def r1ShlF (L:List Nat) (n:Nat) (x:Nat):PS:=⟨60,false,[(6,.e (iP x)),(5,.own 16),(0,.e (slP (trimL L))),(1,.e (iP n))],[(16,.row false 127 (n / 32+(trimL L).length+1) 1 (limbEl (digs ((val ((trimL L).take x)) * 2 ^ n) (n / 32+(trimL L).length+1))))]⟩
theorem r1Shl_pc (L:List Nat) (n:Nat) (hL:Ok32 L) (h1:L.length ≤ 10000) (hn:n ≤ 1000000):PCt 191 [(slP L),(iP n)] (slP (limbs (val L * 2 ^ n))):=by
 have tl:=tlen_le L
 unfold tlen at tl
 have hfit:val ((trimL L).take (trimL L).length) * 2 ^ n < 4294967296 ^ (n / 32+(trimL L).length+1):=by
  rw [List.take_length,Nat.add_assoc,Nat.pow_add,Nat.mul_comm]
  have h1:=val_lt hL.trimL
  have h2:2 ^ n ≤ 4294967296 ^ (n / 32) * 4294967296:=by
   rw [pow32,show (4294967296:Nat)=2 ^ 32 by rfl,← Nat.pow_add]
   exact Nat.pow_le_pow_right (by decide) (by omega)
  rw [Nat.pow_succ,Nat.mul_left_comm,Nat.mul_comm]
  refine Nat.mul_lt_mul_of_lt_of_le h1 h2 (by exact Nat.mul_pos (pw _) (by decide))
 exact tr false Tryz.call191 Tryz.func191 (chain [.cf (ref1Trim_pcf _ ‹_› (by first | omega | (simp only [digs_len]; omega)):PCFt 227 [(slP L)] _),.a (by omega:0 ≤ ((n:Int):Int) ∧ 0 < (32:Int)),r64 ((n:Int)) (by omega),
  r64 ((((n / 32):Nat):Int)+(((trimL L).length:Nat):Int)) (by omega),r64 (((((n / 32)+(trimL L).length):Nat):Int)+1) (by omega),
  .a (by omega:0 ≤ ((((((n / 32)+(trimL L).length)+1):Nat):Int):Int) ∧ ((((((n / 32)+(trimL L).length)+1):Nat):Int):Int) ≤ ((((((n / 32)+(trimL L).length)+1):Nat):Int):Int)),
  .a (by omega:((4:Nat):Int) * (((((n / 32)+(trimL L).length)+1):Nat):Int) ≤ 281474976710656 ∧ ((((((n / 32)+(trimL L).length)+1):Nat):Int):Int) ≤ 9223372036854775807),
  .s (Sp.upto (r1ShlF L n) 0 ((trimL L).length) (by omega) (fun x hx hltx=>by
    have hax:=hL.trimL.getD x
    have hr:n % 32 < 32:=Nat.mod_lt _ (by decide)
    have hlt:(val ((trimL L).take x)) < 4294967296 ^ x:=by
     have:=val_lt (hL.trimL.take x)
     rw [List.length_take,Nat.min_eq_left (by omega)] at this
     exact this
    obtain ⟨ho,hset⟩:=shl_row (n:=n) hax (O:=(digs ((val ((trimL L).take x)) * 2 ^ n) (n / 32+(trimL L).length+1))) rfl hlt (m:=(n / 32+(trimL L).length+1)) (by omega)
    rw [← val_take_getD] at hset
    have hu:(((trimL L).getD x 0) * 2 ^ (n % 32)) / 4294967296 < 4294967296:=by
     have:=shl_le hax hr
     omega
    rw [← Nat.mod_eq_of_lt hu] at hset
    exact spt (chain [tT 20 ((x:Int) < (((trimL L).length:Nat):Int)) (by omega),iX ((x:Int)) ((trimL L).length) (by omega),
     .o 27 (.int (u64_nat _ (by omega)):PV.le (.e (.v (.int .u64 (IntKind.u64.wrap ((((trimL L).getD x 0):Nat):Int))))) (.e (.v (.int .u64 ((((trimL L).getD x 0):Nat):Int))))),.a (by omega:0 < (32:Int)),
     .a (by omega:0 ≤ ((((n % 32):Nat):Int):Int) ∧ ((((n % 32):Nat):Int):Int) ≤ ((64:Nat):Int)),
     .o 30 (.int (shl_pow_nat _ _ hax hr):PV.le (.e (.v (.int .u64 (IntKind.u64.wrap (((((trimL L).getD x 0):Nat):Int) * 2 ^ (n % 32)))))) (.e (.v (.int .u64 (((((trimL L).getD x 0) * 2 ^ (n % 32)):Nat):Int))))),
     .a (by omega:0 ≤ ((n:Int):Int) ∧ 0 < (32:Int)),r64 ((n:Int)) (by omega),r64 ((x:Int)+(((n / 32):Nat):Int)) (by omega),.a (by omega:0 ≤ ((n:Int):Int) ∧ 0 < (32:Int)),
     r64 ((n:Int)) (by omega),r64 ((x:Int)+(((n / 32):Nat):Int)) (by omega),iX ((((x+(n / 32)):Nat):Int)) ((n / 32+(trimL L).length+1)) (by omega),
     .a (by omega:(x+(n / 32)) < (n / 32+(trimL L).length+1)),
     .o 44 (.int (u64_and32 _ (by omega)):PV.le (.e (.v (.int .u64 (bits .and .u64 (((((trimL L).getD x 0) * 2 ^ (n % 32)):Nat):Int) 4294967295)))) (.e (.v (.int .u64 ((((((trimL L).getD x 0) * 2 ^ (n % 32)) % 4294967296):Nat):Int))))),
     .o 45 (.int (u32_nat _):PV.le (.e (.v (.int .u32 (IntKind.u32.wrap ((((((trimL L).getD x 0) * 2 ^ (n % 32)) % 4294967296):Nat):Int))))) (.e (.v (.int .u32 (((((((trimL L).getD x 0) * 2 ^ (n % 32)) % 4294967296) % 4294967296):Nat):Int))))),
     .o 46 (.int (or_low _ _ _ hr ho):PV.le (.e (.v (.int .u32 (bits .or .u32 ((((digs ((val ((trimL L).take x)) * 2 ^ n) (n / 32+(trimL L).length+1)).getD (x+(n / 32)) 0):Nat):Int) (((((((trimL L).getD x 0) * 2 ^ (n % 32)) % 4294967296) % 4294967296):Nat):Int))))) (.e (.v (.int .u32 (((((digs ((val ((trimL L).take x)) * 2 ^ n) (n / 32+(trimL L).length+1)).getD (x+(n / 32)) 0)+((((trimL L).getD x 0) * 2 ^ (n % 32)) % 4294967296)):Nat):Int))))),
     iX ((((x+(n / 32)):Nat):Int)) ((n / 32+(trimL L).length+1)) (by omega),.a (by omega:(x+(n / 32)) < (n / 32+(trimL L).length+1)),.a (by omega:0 ≤ ((n:Int):Int) ∧ 0 < (32:Int)),
     r64 ((n:Int)) (by omega),r64 ((x:Int)+(((n / 32):Nat):Int)) (by omega),r64 ((((x+(n / 32)):Nat):Int)+1) (by omega),.a (by omega:0 ≤ (32:Int) ∧ (32:Int) ≤ ((64:Nat):Int)),
     .o 55 (.int (shr32_nat _):PV.le (.e (.v (.int .u64 ((((((trimL L).getD x 0) * 2 ^ (n % 32)):Nat):Int) / 2 ^ 32)))) (.e (.v (.int .u64 ((((((trimL L).getD x 0) * 2 ^ (n % 32)) / 4294967296):Nat):Int))))),
     .o 56 (.int (u32_nat _):PV.le (.e (.v (.int .u32 (IntKind.u32.wrap ((((((trimL L).getD x 0) * 2 ^ (n % 32)) / 4294967296):Nat):Int))))) (.e (.v (.int .u32 (((((((trimL L).getD x 0) * 2 ^ (n % 32)) / 4294967296) % 4294967296):Nat):Int))))),
     iX (((((x+(n / 32))+1):Nat):Int)) ((n / 32+(trimL L).length+1)) (by omega),.a (by omega:((x+(n / 32))+1) < (n / 32+(trimL L).length+1)),r64 ((x:Int)+1) (by omega)] <| .e (chain [.b 16 (row_set2 rfl (by rw [digs_len]; omega) (by rw [digs_len]; omega) hset:Bx.le (.row false 127 (n / 32+(trimL L).length+1) 1 (fun i' j'=>if i'=((x+(n / 32))+1) ∧ 0 ≤ j' ∧ j' < 0+1 then [(.v (.int .u32 (((((((trimL L).getD x 0) * 2 ^ (n % 32)) / 4294967296) % 4294967296):Nat):Int)))].getD (j' - 0) .any else (fun i' j'=>if i'=(x+(n / 32)) ∧ 0 ≤ j' ∧ j' < 0+1 then [(.v (.int .u32 (((((digs ((val ((trimL L).take x)) * 2 ^ n) (n / 32+(trimL L).length+1)).getD (x+(n / 32)) 0)+((((trimL L).getD x 0) * 2 ^ (n % 32)) % 4294967296)):Nat):Int)))].getD (j' - 0) .any else (limbEl (digs ((val ((trimL L).take x)) * 2 ^ n) (n / 32+(trimL L).length+1))) i' j') i' j')) (.row false 127 (n / 32+(trimL L).length+1) 1 (limbEl (digs ((val ((trimL L).take (x+1))) * 2 ^ n) (n / 32+(trimL L).length+1)))))] <| .nil)) (by kernel_rfl))
  (fun hx=>by
    exact spt (chain [tF 20 ((((trimL L).length:Nat):Int) < (((trimL L).length:Nat):Int)) (by omega),.z 16] <| .e (chain [.o 5 (.e (slRow_le (digs_len _ _).symm):PV.le (.e (.sl false (n / 32+(trimL L).length+1) 1 (limbEl (digs ((val ((trimL L).take (trimL L).length)) * 2 ^ n) (n / 32+(trimL L).length+1))))) (.e (slP (digs ((val ((trimL L).take (trimL L).length)) * 2 ^ n) (n / 32+(trimL L).length+1)))))] <| .nil)) (by kernel_rfl)) (by nofun):LpT 4 Tryz.f191 (r1ShlF L n 0) (.exit 0) ⟨60,false,[(5,.e (slP (digs ((val ((trimL L).take (trimL L).length)) * 2 ^ n) (n / 32+(trimL L).length+1))))],[]⟩) (chain [.b 16 (row_zero (by omega) (fun i=>by rw [show val (List.take 0 (trimL L))=0 from rfl,Nat.zero_mul,digs0_getD]):Bx.le (.row false 127 (((n / 32)+(trimL L).length)+1) 1 (fun _ j_=>[(.v (.int .u32 0))].getD j_ .any)) (.row false 127 (n / 32+(trimL L).length+1) 1 (limbEl (digs ((val ((trimL L).take 0)) * 2 ^ n) (n / 32+(trimL L).length+1)))))] <| .nil),
  .cf (ref1Trim_pcf _ (digs_ok _ _) (by first | omega | (simp only [digs_len]; omega)):PCFt 227 [(slP (digs ((val ((trimL L).take (trimL L).length)) * 2 ^ n) (n / 32+(trimL L).length+1)))] _)] <| rQ (slP (trimL (digs ((val ((trimL L).take (trimL L).length)) * 2 ^ n) (n / 32+(trimL L).length+1)))) (slP (limbs (val L * 2 ^ n))) (by rw [trimL_digs hfit,List.take_length,val_trimL])) (by kernel_rfl)
end Go.Proofs.YtdppllbbgfekaaaGreatDoor
