/- For every number x and h, every interval b and every integer p, the law PicardNone returns true: for the system x' = -x^2 from a point below 0 whose solution does not exist any more at the end of the step, Holds reports no box as a tube, and Enclose ends with one of its two errors, with no condition on the arguments beyond their Go types. -/
import Derived.Test.YtkbjkchapnjhgaaGreatDoorM04
set_option linter.unusedSimpArgs false
set_option linter.unusedVariables false
namespace Go.Proofs.YtkbjkchapnjhgaaGreatDoor
open Go.RowKit Fp Pu
theorem refOf_pc (s:Bool) (m:Nat) (e:Int) (hl:(limbs m).length ≤ 3000) (he1:-1000000 ≤ e) (he2:e ≤ 1000000):PCt 23 [bP s,slP (limbs m),iP e] (dyP (canon s m e)):=by
 refine ⟨Tryz.call23,fun w B vs hK hB hr=>?_⟩
 obtain ⟨v1,vs,rfl,h1,hr⟩:=hr.uncons
 obtain ⟨v2,vs,rfl,h2,hr⟩:=hr.uncons
 obtain ⟨v3,vs,rfl,h3,hr⟩:=hr.uncons
 obtain rfl:=hr.nil_inv
 obtain rfl:=Rep.v_inv h1
 obtain rfl:=Rep.v_inv h3
 obtain ⟨A,c,rfl,s1⟩:=slP_inv (ok_limbs m) h2
 have:=refOf_any s A c (limbs m) e w s1 hl he1 he2
 rw [val_limbs] at this
 exact this.mono fun e w' h=>rd B w e w' hB h
theorem refValid_pc (a:Dy) (ha:a.Valid):PCt 6 [dyP a] (bP true):=pc1 Tryz.call6 (fun A c w h _=>refValid_dy a A c w h ha) rv
theorem refSign_pc (a:Dy):PCt 7 [dyP a] (iP a.sign):=pc1 Tryz.call7 (fun A c w h _=>refSign_dy a A c w h) rv
theorem refNeg_pc (a:Dy):PCt 22 [dyP a] (dyP (negD a)) :=
 pc1 Tryz.call22 (fun A c w h _=>by
  have:=refNeg_any a.neg A c (limbs a.m) a.e w h (trim_limbs _)
  rw [val_limbs] at this
  exact this) rd
theorem refTop_pc (a:Dy) (ha:Near a):PCt 20 [dyP a] (iP a.top):=pc1 Tryz.call20 (fun A c w h _=>refTop_dy a A c w h ha) rv
theorem refInt_pc (n:Nat) (hn:n < 4294967296):PCt 10 [iP ((n:Nat):Int)] (dyP (canon false n 0)):=by
 refine ⟨Tryz.call10,fun w B vs hK hB hr=>?_⟩
 obtain ⟨v1,vs,rfl,h1,hr⟩:=hr.uncons
 obtain rfl:=hr.nil_inv
 obtain rfl:=Rep.v_inv h1
 exact (refInt_any n w hn).mono fun e w' h=>rd B w e w' hB h
end Go.Proofs.YtkbjkchapnjhgaaGreatDoor
namespace Go.Proofs.YtkbjkchapnjhgaaGreatDoor.Fp
end Go.Proofs.YtkbjkchapnjhgaaGreatDoor.Fp
namespace Go.Proofs.YtkbjkchapnjhgaaGreatDoor
open Go.RowKit Fp Pu
theorem refScale_pc (d:Dy) (k:Int) (hd:d.Valid) (hk1:-32768 ≤ k) (hk2:k ≤ 32768) (hr:inRange (canon d.neg d.m (d.e+k))):PCt 34 [dyP d,iP k] (.tup [dyP (canon d.neg d.m (d.e+k)),iP 0]):=by
 refine ⟨Tryz.call34,fun w B vs hK hB hrr=>?_⟩
 obtain ⟨v1,vs,rfl,h1,hrr⟩:=hrr.uncons
 obtain ⟨v2,vs,rfl,h2,hrr⟩:=hrr.uncons
 obtain rfl:=hrr.nil_inv
 obtain ⟨A,c,rfl,s1⟩:=dyP_inv h1
 obtain rfl:=Rep.v_inv h2
 have:=refScale_yes d.neg A c (limbs d.m) d.e k w s1 hd.dok hk1 hk2 (by rw [val_limbs]; exact hr)
 rw [val_limbs] at this
 exact this.mono fun e w' h=>rde B w e w' hB h
theorem canon_again {n:Int} {e:Int}:canon (intD n).neg (intD n).m ((intD n).e+e)=canonZ n e:=by
 unfold intD canonZ
 by_cases h:n.natAbs=0
 ·rw [h,canon_zero,canon_zero]
  show canon false 0 _=_
  rw [canon_zero]
 ·have h1:=div_ctz_mul h
  rw [show canon (decide (n < 0)) n.natAbs 0=⟨decide (n < 0),n.natAbs / 2 ^ ctzN n.natAbs,0+(ctzN n.natAbs:Int)⟩ by unfold canon; rw [if_neg h]]
  show canon (decide (n < 0)) (n.natAbs / 2 ^ ctzN n.natAbs) (0+(ctzN n.natAbs:Int)+e)=_
  rw [← canon_mul _ _ _ (ctzN n.natAbs),h1]
  congr 1
  omega
theorem canonZ_valid {n e:Int} (h1:n.natAbs < 4294967296) (h2:-1000 ≤ e) (h3:e ≤ 1000):(canonZ n e).Valid:=by
 refine ⟨canon_canon _ _ _,?_⟩
 unfold canonZ
 by_cases h0:n.natAbs=0
 ·rw [h0,canon_zero]; exact .inl rfl
 ·have:=canon_bits (s:=decide (n < 0)) (e:=e) h0
  have hb:bitsN n.natAbs ≤ 32:=bitsN_le_iff.2 h1
  obtain ⟨h4,h5,h6,_⟩:=this
  have:=bitsN_pos h6
  exact .inr ⟨by omega,by omega,by omega,by omega⟩
theorem intZ_valid {n:Int} (h1:n.natAbs < 4294967296):(intD n).Valid:=canonZ_valid h1 (by decide) (by decide)
theorem refIntN_any (k:Nat) (w:World) (h0:0 < k) (hn:k < 4294967296) :
  Calls Tryz.prog 10 #[.int .i64 (-(k:Int))] w (RetD w (canon true k 0)):=by
 have hm:=and_mask k (by omega)
 have hm2:(k:Int) % 4294967296=k:=by omega
 rw [hm2] at hm
 have hd:(k:Int) / 4294967296=0:=by omega
 have hlt:(-(k:Int)) < 0:=by omega
 have hdl:decide ((-(k:Int)) < 0)=true:=decide_eq_true hlt
 have hu:IntKind.u64.wrap (-(k:Int))=18446744073709551616 - k:=by rw [IntKind.wrap_u64]; omega
 have hs:IntKind.u64.wrap (-(18446744073709551616 - (k:Int)))=k:=by rw [IntKind.wrap_u64]; omega
 have HC:=Lib.hid (fun (A:Option Addr) c w (h:Sl w A c [k,0])=>refOf_any true A c [k,0] 0 w h (by simp) (by decide) (by decide))
 have hv:val [k,0]=k:=by simp
 rw [hv] at HC
 clear hv
 generalize canon true k 0=d at *
 generalize hN:(-(k:Int))=N at *
 go_enter Tryz.func10,Tryz.ntmps10
 go_wp2_with fail
 refine (HC.out _ _ _ (Sl.two _ _ (by simp) _ _ k 0 rfl rfl hn (by decide))).mono ?_
 rintro r w1 ⟨A1,c1,rfl,hs1,hb1⟩
 have hb0:Ext (w.alloc (.cells #[.bool false,.slice none 0 0,.int .i64 0] 24)) w1:=(Ext.alloc _ _).trans hb1
 have bx:=(Box3.new w false none 0 0 0).ext hb0
 have b0:=bx.c0; have b1:=bx.c1; have b2:=bx.c2; have f0:=bx.fr 0; have f1:=bx.fr 1; have f2:=bx.fr 2
 go_wp2
 exact dy_ret rfl rfl rfl (bx.set _ _ _ _ _) rfl (bx.set_sl hs1 _ _ _ _ _) (Box3.set_ext ((Ext.alloc _ _).trans hb0) (Nat.le_refl _) _ _ _ _ _)
theorem intD_neg (k:Nat) (h0:0 < k):intD (-(k:Int))=canon true k 0:=by
 unfold intD canonZ
 rw [decide_eq_true (show (-(k:Int)) < 0 by omega),Int.natAbs_neg,Int.natAbs_natCast]
theorem refIntZ_pc (n:Int) (h:n.natAbs < 4294967296):PCt 10 [iP n] (dyP (intD n)):=by
 by_cases h0:0 ≤ n
 ·obtain ⟨k,rfl⟩:=Int.eq_ofNat_of_zero_le h0
  rw [intD_nat]; exact refInt_pc k (by omega)
 ·obtain ⟨k,rfl⟩:∃ k:Nat,n = -(k:Int):=⟨n.natAbs,by omega⟩
  rw [intD_neg k (by omega)]
  refine ⟨Tryz.call10,fun w B vs hK hB hr=>?_⟩
  obtain ⟨v1,vs,rfl,h1,hr⟩:=hr.uncons
  obtain rfl:=hr.nil_inv
  obtain rfl:=Rep.v_inv h1
  exact (refIntN_any k w (by omega) (by omega)).mono fun e w' h=>rd B w e w' hB h
open Go.RowKit Fp Pu
abbrev exX:List Iv:=[⟨canonZ 1 0,canonZ 1 0,false⟩]
abbrev exH:Dy:=canonZ 1 (-2)
abbrev exB:List Iv:=[⟨canonZ 2 (-1),canonZ 3 (-1),false⟩]
abbrev exC:List Iv:=[⟨canonZ 4 (-2),canonZ 5 (-2),false⟩]
theorem ex_no:∀ k:Nat,k < 19 → attB sysId exX exH 60 ((k:Int) - 20)=false:=by
 have h:((List.range 19).all fun k:Nat=>!(attB sysId exX exH 60 ((k:Int) - 20)))=true:=by decide +kernel
 intro k hk
 simpa using List.all_eq_true.1 h k (List.mem_range.2 hk)
theorem ex_yes:attB sysId exX exH 60 (((19:Nat):Int) - 20)=true:=by decide +kernel
theorem ex_len:(growL exX (twoP (((19:Nat):Int) - 20))).length=1:=by decide +kernel
theorem ex_b:holdsB sysId exX exH exB 60=true:=by decide +kernel
theorem ex_c:holdsB sysId exX exH exC 60=false:=by decide +kernel
theorem ex_le {a b e:Int} (h1:a.natAbs < 4294967296) (h2:b.natAbs < 4294967296) (h3:-1000 ≤ e) (h4:e ≤ 1000) (h:cmpD (canonZ a e) (canonZ b e) ≤ 0):BoxOk 1 [⟨canonZ a e,canonZ b e,false⟩] :=
 single_ok (.inr ⟨rfl,canonZ_valid h1 h3 h4,canonZ_valid h2 h3 h4,h⟩) rfl
theorem exX_ok:BoxOk 1 exX:=ex_le (by decide) (by decide) (by decide) (by decide) (by decide +kernel)
theorem exB_ok:BoxOk 1 exB:=ex_le (by decide) (by decide) (by decide) (by decide) (by decide +kernel)
theorem exC_ok:BoxOk 1 exC:=ex_le (by decide) (by decide) (by decide) (by decide) (by decide +kernel)
theorem exH_valid:exH.Valid:=canonZ_valid (by decide) (by decide) (by decide)
theorem exH_sign:0 < exH.sign:=by decide +kernel
open Go.RowKit Fp Pu
theorem cmpN_ge {a b:Nat}:0 ≤ cmpN a b ↔ b ≤ a:=by
 unfold cmpN
 split
 ·simp; omega
 ·split <;> simp <;> omega
theorem r2Left_pc (m n:Nat) (hl:(limbs m).length ≤ 1000) (hn:n ≤ 65536):PCt 36 [slP (limbs m),iP (n:Int)] (slP (limbs (m * 2 ^ n))) :=
 pcS1i (ok_limbs m) Tryz.call36 (fun A c w h _=>refLeft_any A c (limbs m) n w h hl hn) fun A c B w e w' h hB r=>by rw [val_limbs] at r; exact rl B w e w' hB r
theorem r2Plus_pc (m n:Nat) (hl:(limbs m).length ≤ 3000) (hn:(limbs n).length ≤ 3000):PCt 37 [slP (limbs m),slP (limbs n)] (slP (limbs (m+n))) :=
 pcS2 (ok_limbs m) (ok_limbs n) Tryz.call37 (fun A c B d w h k _=>refPlus_any A B c d (limbs m) (limbs n) w h k hl hn) fun B w e w' hB r=>by rw [val_limbs,val_limbs] at r; exact rl B w e w' hB r
theorem r2Minus_pc (m n:Nat) (hl:(limbs m).length ≤ 3000) (hn:n ≤ m):PCt 39 [slP (limbs m),slP (limbs n)] (slP (limbs (m - n))) :=
 pcS2 (ok_limbs m) (ok_limbs n) Tryz.call39 (fun A c B d w h k _=>refMinus_any A B c d (limbs m) (limbs n) w h k hl (limbs_len_mono hn) (by rw [val_limbs,val_limbs]; exact hn)) fun B w e w' hB r=>by rw [val_limbs,val_limbs] at r; exact rl B w e w' hB r
theorem r2Compare_pc (m n:Nat) (hl:(limbs m).length ≤ 3000) (hn:(limbs n).length ≤ 3000):PCt 38 [slP (limbs m),slP (limbs n)] (iP (cmpN m n)):=by
 refine pcS2 (ok_limbs m) (ok_limbs n) Tryz.call38 (fun A c B d w h k _=>refCompare_any A B c d (limbs m) (limbs n) w h k (trim_limbs _) (trim_limbs _) (by omega) (by omega)) ?_
 rw [val_limbs,val_limbs]
 exact rv
theorem refSum_pc (a b:Dy) (ha:Near a) (hb:Near b):PCt 21 [(dyP a),(dyP b)] (dyP (sumD a b)):=by
 obtain ⟨ha1,ha2,ha3⟩:=ha
 obtain ⟨hb1,hb2,hb3⟩:=hb
 have ba:=bits_of_limbs ha1
 have bb:=bits_of_limbs hb1
 obtain ⟨k,hk⟩:∃ k,min a.e b.e=k:=⟨_,rfl⟩
 exact tr true Tryz.call21 Tryz.func21 (.w ((((limbs a.m).length:Nat):Int)=0)
  (fun k1=>by
   have a0:a.m=0:=limbs_len0.1 (by omega)
   exact chain [tB 11 (beq_iff_eq.2 k1)] <| rQ (dyP b) (dyP (sumD a b)) (by rw [show sumD a b=b by unfold sumD; rw [if_pos a0]]))
  (fun k1=>by
   have a0:a.m ≠ 0:=fun h=>k1 (by rw [limbs_len0.2 h]; rfl)
   exact chain [tB 11 (beq_eq_false_iff_ne.2 k1)] <| .w ((((limbs b.m).length:Nat):Int)=0)
    (fun k2=>by
     have b0:b.m=0:=limbs_len0.1 (by omega)
     exact chain [tB 16 (beq_iff_eq.2 k2)] <| rQ (dyP a) (dyP (sumD a b)) (by rw [show sumD a b=a by unfold sumD; rw [if_neg a0,if_pos b0]]))
    (fun k2=>by
     have b0:b.m ≠ 0:=fun h=>k2 (by rw [limbs_len0.2 h]; rfl)
     have hX:(limbs (a.m * 2 ^ ((a.e - k).toNat))).length ≤ 1400:=limbs_of_bits (by rw [bitsN_mul_pow a0]; omega)
     have hY:(limbs (b.m * 2 ^ ((b.e - k).toNat))).length ≤ 1400:=limbs_of_bits (by rw [bitsN_mul_pow b0]; omega)
     have hP:=limbs_add_len hX hY
     have hM:(limbs ((a.m * 2 ^ ((a.e - k).toNat)) - (b.m * 2 ^ ((b.e - k).toNat)))).length ≤ 1400:=Nat.le_trans (limbs_len_mono (Nat.sub_le _ _)) hX
     have hN:(limbs ((b.m * 2 ^ ((b.e - k).toNat)) - (a.m * 2 ^ ((a.e - k).toNat)))).length ≤ 1400:=Nat.le_trans (limbs_len_mono (Nat.sub_le _ _)) hY
     exact chain [tB 16 (beq_eq_false_iff_ne.2 k2),.o 22 (.int (by rw [← hk]; split <;> omega):PV.le (.e (iP (if b.e < a.e then b.e else a.e))) (.e (iP k))),r64 (a.e - k) (by omega),
      .o 28 (.int (by omega):PV.le (.e (iP (a.e - k))) (.e (iP ((((a.e - k).toNat):Nat):Int)))),.c (r2Left_pc _ _ (by omega) (by omega):PCt 36 [(slP (limbs a.m)),(iP ((((a.e - k).toNat):Nat):Int))] _),r64 (b.e - k) (by omega),
      .o 35 (.int (by omega):PV.le (.e (iP (b.e - k))) (.e (iP ((((b.e - k).toNat):Nat):Int)))),.c (r2Left_pc _ _ (by omega) (by omega):PCt 36 [(slP (limbs b.m)),(iP ((((b.e - k).toNat):Nat):Int))] _)] <| .w (a.neg=b.neg)
      (fun k3=>chain [tB 41 (beq_iff_eq.2 k3),.c (r2Plus_pc _ _ (by omega) (by omega):PCt 37 [(slP (limbs (a.m * 2 ^ ((a.e - k).toNat)))),(slP (limbs (b.m * 2 ^ ((b.e - k).toNat))))] _),
       .c (refOf_pc _ _ _ (by omega) (by omega) (by omega):PCt 23 [(bP a.neg),(slP (limbs ((a.m * 2 ^ ((a.e - k).toNat))+(b.m * 2 ^ ((b.e - k).toNat))))),(iP k)] _)] <| rQ (dyP (canon a.neg ((a.m * 2 ^ ((a.e - k).toNat))+(b.m * 2 ^ ((b.e - k).toNat))) k)) (dyP (sumD a b)) (by have h:=sumD_same (s:=a.neg) a0 b0 hk; rw [show (⟨a.neg,b.m,b.e⟩:Dy)=b by rw [k3]] at h; exact congrArg dyP h.symm))
      (fun k3=>chain [tB 41 (beq_eq_false_iff_ne.2 k3),.c (r2Compare_pc _ _ (by omega) (by omega):PCt 38 [(slP (limbs (a.m * 2 ^ ((a.e - k).toNat)))),(slP (limbs (b.m * 2 ^ ((b.e - k).toNat))))] _)] <| .w (0 ≤ (cmpN (a.m * 2 ^ ((a.e - k).toNat)) (b.m * 2 ^ ((b.e - k).toNat))))
       (fun k4=>by
        have hc:(b.m * 2 ^ ((b.e - k).toNat)) ≤ (a.m * 2 ^ ((a.e - k).toNat)):=cmpN_ge.1 k4
        exact chain [tB 52 (decide_eq_true k4),.c (r2Minus_pc _ _ (by omega) (by omega):PCt 39 [(slP (limbs (a.m * 2 ^ ((a.e - k).toNat)))),(slP (limbs (b.m * 2 ^ ((b.e - k).toNat))))] _),
         .c (refOf_pc _ _ _ (by omega) (by omega) (by omega):PCt 23 [(bP a.neg),(slP (limbs ((a.m * 2 ^ ((a.e - k).toNat)) - (b.m * 2 ^ ((b.e - k).toNat))))),(iP k)] _)] <| rQ (dyP (canon a.neg ((a.m * 2 ^ ((a.e - k).toNat)) - (b.m * 2 ^ ((b.e - k).toNat))) k)) (dyP (sumD a b)) (congrArg dyP (sumD_ge (s:=a.neg) (t:=b.neg) a0 b0 hk k3 hc).symm))
       (fun k4=>by
        have hc:(a.m * 2 ^ ((a.e - k).toNat)) < (b.m * 2 ^ ((b.e - k).toNat)):=Nat.lt_of_not_le fun h=>k4 (cmpN_ge.2 h)
        exact chain [tB 52 (decide_eq_false k4),.c (r2Minus_pc _ _ (by omega) (by omega):PCt 39 [(slP (limbs (b.m * 2 ^ ((b.e - k).toNat)))),(slP (limbs (a.m * 2 ^ ((a.e - k).toNat))))] _),
         .c (refOf_pc _ _ _ (by omega) (by omega) (by omega):PCt 23 [(bP b.neg),(slP (limbs ((b.m * 2 ^ ((b.e - k).toNat)) - (a.m * 2 ^ ((a.e - k).toNat))))),(iP k)] _)] <| rQ (dyP (canon b.neg ((b.m * 2 ^ ((b.e - k).toNat)) - (a.m * 2 ^ ((a.e - k).toNat))) k)) (dyP (sumD a b)) (congrArg dyP (sumD_lt (s:=a.neg) (t:=b.neg) a0 b0 hk k3 hc).symm)))))) (by kernel_rfl)
theorem refCmp_pc (a b:Dy) (ha:Near a) (hb:Near b):PCt 9 [(dyP a),(dyP b)] (iP (cmpD a b)):=by
 have hn:Near (negD b):=⟨hb.len,hb.lo,hb.hi⟩
 exact tr true Tryz.call9 Tryz.func9 (chain [.c (refSign_pc _:PCt 7 [(dyP a)] _),.c (refSign_pc _:PCt 7 [(dyP b)] _)] <| .w ((Dy.sign a)=(Dy.sign b))
  (fun k1=>chain [tB 13 (bne_eq_false_iff_eq.2 k1)] <| .w ((Dy.sign a)=0)
   (fun k2=>chain [tB 18 (beq_iff_eq.2 k2)] <| rQ (iP 0) (iP (cmpD a b)) (by rw [cmpD_ref,if_neg (by simpa using k1),if_pos k2]))
   (fun k2=>chain [tB 18 (beq_eq_false_iff_ne.2 k2),.c (refTop_pc _ ha:PCt 20 [(dyP a)] _),.c (refTop_pc _ hb:PCt 20 [(dyP b)] _)] <| .w ((Dy.top a)=(Dy.top b))
    (fun k3=>chain [tB 23 (bne_eq_false_iff_eq.2 k3),.c (refNeg_pc _:PCt 22 [(dyP b)] _),.c (refSum_pc _ _ ha hn:PCt 21 [(dyP a),(dyP (negD b))] _),.c (refSign_pc _:PCt 7 [(dyP (sumD a (negD b)))] _)] <| rQ (iP (Dy.sign (sumD a (negD b)))) (iP (cmpD a b)) (by rw [cmpD_ref,if_neg (by simpa using k1),if_neg k2,if_neg (by simpa using k3)]))
    (fun k3=>chain [tB 23 (bne_iff_ne.2 k3),.c (refTop_pc _ ha:PCt 20 [(dyP a)] _),.c (refTop_pc _ hb:PCt 20 [(dyP b)] _)] <| .w ((decide ((Dy.top a) < (Dy.top b)))=(decide (0 < (Dy.sign a))))
     (fun k4=>chain [tB 31 (beq_iff_eq.2 k4)] <| rQ (iP (-1)) (iP (cmpD a b)) (by rw [cmpD_ref,if_neg (by simpa using k1),if_neg k2,if_pos k3,if_pos (by simpa using k4)]))
     (fun k4=>chain [tB 31 (beq_eq_false_iff_ne.2 k4)] <| rQ (iP 1) (iP (cmpD a b)) (by rw [cmpD_ref,if_neg (by simpa using k1),if_neg k2,if_pos k3,if_neg (by simpa using k4)])))))
  (fun k1=>chain [tB 13 (bne_iff_ne.2 k1)] <| .w ((Dy.sign a) < (Dy.sign b))
   (fun k2=>chain [tB 16 (decide_eq_true k2)] <| rQ (iP (-1)) (iP (cmpD a b)) (by rw [cmpD_ref,if_pos k1,if_pos k2]))
   (fun k2=>chain [tB 16 (decide_eq_false k2)] <| rQ (iP 1) (iP (cmpD a b)) (by rw [cmpD_ref,if_pos k1,if_neg k2])))) (by kernel_rfl)
open Go.RowKit Fp Pu
set_option maxHeartbeats 1000000 in
theorem l28D_pc (n e:Int) (h1:n.natAbs < 4294967296) (h2:-1000 ≤ e) (h3:e ≤ 1000):PCt 16 [(iP n),(iP e)] (dyP (canonZ n e)):=by
 have hrg:inRange (canon (Dy.neg (intD n)) (Dy.m (intD n)) ((Dy.e (intD n))+e)):=by rw [canon_again]; exact (canonZ_valid h1 h2 h3).range
 exact tr true Tryz.call16 Tryz.func16 (chain [.c (refIntZ_pc _ (by omega):PCt 10 [(iP n)] _),.c (refScale_pc _ _ (intZ_valid (by omega)) (by omega) (by omega) hrg:PCt 34 [(dyP (intD n)),(iP e)] _)] <| rQ (dyP (canon (Dy.neg (intD n)) (Dy.m (intD n)) ((Dy.e (intD n))+e))) (dyP (canonZ n e)) (by rw [canon_again])) (by kernel_rfl)
set_option maxHeartbeats 1000000 in
theorem l28In_pc (a b e:Int) (h1:a.natAbs < 4294967296) (h4:b.natAbs < 4294967296) (h2:-1000 ≤ e) (h3:e ≤ 1000):PCt 15 [(iP a),(iP b),(iP e)] (ivP (Iv.mk (canonZ a e) (canonZ b e) false)):=by
 exact tr true Tryz.call15 Tryz.func15 (chain [.c (l28D_pc a e (by omega) (by omega) (by omega)),.c (l28D_pc b e (by omega) (by omega) (by omega))] <| .nil) (by kernel_rfl)
theorem sysId_le:E.le (.agg [iP 1,.v (.slice none 0 0),.sl true 1 1 fun i j=>[iP 0].getD (i * 1+j) (.v (.bool false)),iP 1,.v (.slice none 0 0)]) (sysP sysId) :=
 .agg (.cons (.refl _) (.cons (.nil _ _ _) (.cons (.sl fun i j hi hj=>by
  obtain rfl:i=0:=by omega
  obtain rfl:j=0:=by omega
  exact ⟨.of_eq rfl,rfl⟩) (.cons (.refl _) (.cons (.nil _ _ _) .nil)))))
theorem sysId_rat:∀ i,i < sysId.tape.ops.length → RatOp (sysId.tape.ops.getD i opV0):=fun i hi=>absurd hi (Nat.not_lt_zero i)
theorem sysNeg_rat':∀ i,i < sysNeg.tape.ops.length → RatOp (sysNeg.tape.ops.getD i opV0):=sysNeg_rat
theorem exEnc_pc:PCt 12 [sysP sysId,ivsP exX,dyP exH,iP 60] (.tup [ivsP (growL exX (twoP (((19:Nat):Int) - 20))),iP 0]) :=
 enclose_first sysId exX exH 60 sysId_ok exX_ok exH_valid exH_sign sysId_rat (by decide) (by decide) 19 (by decide) ex_no ex_yes
theorem exHoldsB_pc:PCt 14 [sysP sysId,ivsP exX,dyP exH,ivsP exB,iP 60] (bP true):=by
 have:=holds_pc sysId exX exH exB 60 sysId_ok exX_ok exH_valid exH_sign exB_ok sysId_rat (by decide) (by decide)
 rwa [ex_b] at this
theorem exHoldsC_pc:PCt 14 [sysP sysId,ivsP exX,dyP exH,ivsP exC,iP 60] (bP false):=by
 have:=holds_pc sysId exX exH exC 60 sysId_ok exX_ok exH_valid exH_sign exC_ok sysId_rat (by decide) (by decide)
 rwa [ex_c] at this
set_option maxHeartbeats 1000000 in
theorem l28Awake_pc  : PCt 4 [] (bP true):=by
 exact tr true Tryz.call4 Tryz.func4 (chain [.c (l28In_pc 1 1 0 (by decide) (by decide) (by decide) (by decide)),
  .o 9 (.e (ivs1_le _):PV.le (.e (.sl true 1 7 fun i_ j_=>(ivL (Iv.mk (canonZ 1 0) (canonZ 1 0) false)).getD (i_ * 7+j_) (.v (.bool false)))) (.e (ivsP [(Iv.mk (canonZ 1 0) (canonZ 1 0) false)]))),
  .o 11 (.e sysId_le:PV.le (.e (.agg [(iP 1),(.v (.slice none 0 0)),(.sl true 1 1 fun i_ j_=>[(iP 0)].getD (i_ * 1+j_) (.v (.bool false))),(iP 1),(.v (.slice none 0 0))])) (.e (sysP sysId))),
  .c (l28D_pc 1 (-2) (by decide) (by decide) (by decide)),.c (exEnc_pc:PCt 12 [(sysP sysId),(ivsP [(Iv.mk (canonZ 1 0) (canonZ 1 0) false)]),(dyP (canonZ 1 (-2))),(iP 60)] _),
  .o 17 (.e sysId_le:PV.le (.e (.agg [(iP 1),(.v (.slice none 0 0)),(.sl true 1 1 fun i_ j_=>[(iP 0)].getD (i_ * 1+j_) (.v (.bool false))),(iP 1),(.v (.slice none 0 0))])) (.e (sysP sysId))),
  .c (l28D_pc 1 (-2) (by decide) (by decide) (by decide)),.c (l28In_pc 2 3 (-1) (by decide) (by decide) (by decide) (by decide)),
  .o 21 (.e (ivs1_le _):PV.le (.e (.sl true 1 7 fun i_ j_=>(ivL (Iv.mk (canonZ 2 (-1)) (canonZ 3 (-1)) false)).getD (i_ * 7+j_) (.v (.bool false)))) (.e (ivsP [(Iv.mk (canonZ 2 (-1)) (canonZ 3 (-1)) false)]))),
  .c (exHoldsB_pc:PCt 14 [(sysP sysId),(ivsP [(Iv.mk (canonZ 1 0) (canonZ 1 0) false)]),(dyP (canonZ 1 (-2))),(ivsP [(Iv.mk (canonZ 2 (-1)) (canonZ 3 (-1)) false)]),(iP 60)] _),
  .o 24 (.e sysId_le:PV.le (.e (.agg [(iP 1),(.v (.slice none 0 0)),(.sl true 1 1 fun i_ j_=>[(iP 0)].getD (i_ * 1+j_) (.v (.bool false))),(iP 1),(.v (.slice none 0 0))])) (.e (sysP sysId))),
  .c (l28D_pc 1 (-2) (by decide) (by decide) (by decide)),.c (l28In_pc 4 5 (-2) (by decide) (by decide) (by decide) (by decide)),
  .o 28 (.e (ivs1_le _):PV.le (.e (.sl true 1 7 fun i_ j_=>(ivL (Iv.mk (canonZ 4 (-2)) (canonZ 5 (-2)) false)).getD (i_ * 7+j_) (.v (.bool false)))) (.e (ivsP [(Iv.mk (canonZ 4 (-2)) (canonZ 5 (-2)) false)]))),
  .c (exHoldsC_pc:PCt 14 [(sysP sysId),(ivsP [(Iv.mk (canonZ 1 0) (canonZ 1 0) false)]),(dyP (canonZ 1 (-2))),(ivsP [(Iv.mk (canonZ 4 (-2)) (canonZ 5 (-2)) false)]),(iP 60)] _),tB 34 (by decide:((0:Int) == 0)=true),
  tB 39 (by rw [ex_len]; rfl:((((growL exX (twoP (((19:Nat):Int) - 20))).length:Nat):Int) == 1)=true)] <| .nil) (by kernel_rfl)
def longB (d:RD):Bool:=decide (20 < d.L.length) || (decide (300 < d.e) || decide (d.e < -300))
open Classical in
noncomputable def okDB (d:RD):Bool:=decide d.Ok
theorem okDB_true {d:RD}:okDB d=true ↔ d.Ok:=by unfold okDB; simp
set_option maxHeartbeats 1000000 in
theorem l28Long_pc (d:RD):PCt 5 [(rdP d)] (bP (longB d)):=by
 exact tr true Tryz.call5 Tryz.func5 (.w (20 < (d.L.length:Int))
  (fun k1=>chain [tB 6 (decide_eq_true k1)] <| rR (bP (longB d)) (by
      exact .of_eq (by
       have:longB d=true:=by unfold longB; simp [show 20 < d.L.length from by omega]
       rw [this]):E.le (bP true) (bP (longB d))))
  (fun k1=>chain [tB 6 (decide_eq_false k1)] <| .w (300 < d.e)
   (fun k2=>chain [tB 10 (decide_eq_true k2)] <| rR (bP (longB d)) (by
      exact .of_eq (by
       have:longB d=true:=by unfold longB; simp [show ¬ 20 < d.L.length from by omega,k2]
       rw [this]):E.le (bP true) (bP (longB d))))
   (fun k2=>chain [tB 10 (decide_eq_false k2)] <| rR (bP (longB d)) (by
      exact .of_eq (by
       have:longB d=(decide (d.e < (-300))):=by unfold longB; simp [show ¬ 20 < d.L.length from by omega,k2]
       rw [this]):E.le (bP (decide (d.e < (-300)))) (bP (longB d)))))) (by kernel_rfl)
set_option maxHeartbeats 1000000 in
theorem bR2Checked_yes (d:Dy) (hv:d.Valid):PCt 18 [(dyP d)] (.tup [dyP d,iP 0]):=by
 exact tr true Tryz.call18 Tryz.func18 (chain [.c (refValid_pc _ hv:PCt 6 [(dyP d)] _)] <| .nil) (by kernel_rfl)
theorem bR2Valid_no (d:Dy) (hd:¬ d.Valid) (h1:-10000000 ≤ d.e) (h2:d.e ≤ 10000000):PCt 6 [dyP d] (bP false):=by
 rw [← dyP_raw]
 exact refValidR_pc d.raw ⟨ok_limbs _,by show -9223372036854775808 ≤ d.e; omega,by show d.e ≤ 9223372036854775807; omega⟩ false ⟨fun h=>absurd h (by decide),fun h=>absurd (show d.Valid by have:=RD.Ok.valid h; rwa [Dy.raw_dy] at this) hd⟩
set_option maxHeartbeats 1000000 in
theorem bR2Checked_no (d:Dy) (hv:¬ d.Valid) (h1:-10000000 ≤ d.e) (h2:d.e ≤ 10000000):PCt 18 [(dyP d)] (.tup [dyP zeroD,iP 9]):=by
 exact tr true Tryz.call18 Tryz.func18 (chain [.c (bR2Valid_no _ hv h1 h2:PCt 6 [(dyP d)] _),.o 7 (.e zeroP_le:PV.le (.e (.agg [(bP false),(.v (.slice none 0 0)),(iP 0)])) (.e (dyP zeroD)))] <| .nil) (by kernel_rfl)
theorem bR2Checked_pc (d:Dy) (hc:d.Canon) (h1:-10000000 ≤ d.e) (h2:d.e ≤ 10000000):PCt 18 [dyP d] (.tup [dyP (chk d),iP (chkE d)]):=by
 by_cases h:inRange d
 ·rw [chk_yes h,chkE_yes h]; exact bR2Checked_yes d ⟨hc,h⟩
 ·rw [chk_no h,chkE_no h]; exact bR2Checked_no d (fun q=>h q.range) h1 h2
theorem mulD_exp {x h:Dy} (hx:x.Valid) (hh:h.Valid):-10000000 ≤ (mulD x h).e ∧ (mulD x h).e ≤ 10000000:=by
 have xe:=hx.exp
 have he:=hh.exp
 have xl:=hx.limbs
 have hl:=hh.limbs
 have b1:=bits_of_limbs (m:=x.m) (k:=256) xl
 have b2:=bits_of_limbs (m:=h.m) (k:=256) hl
 have b3:=bitsN_mul_le x.m h.m
 by_cases h0:x.m * h.m=0
 ·have:mulD x h=zeroD:=by unfold mulD; rw [h0]; exact canon_zero _ _
  rw [this]; exact ⟨by decide,by decide⟩
 ·obtain ⟨h4,h5,h6,h7⟩:=canon_bits (s:=x.neg != h.neg) (e:=x.e+h.e) h0
  have:=bitsN_pos h6
  show -10000000 ≤ (canon _ _ _).e ∧ (canon _ _ _).e ≤ 10000000
  omega
set_option maxHeartbeats 1000000 in
theorem bR2Mul_pc (x h:Dy) (hx:x.Valid) (hh:h.Valid):PCt 8 [(dyP x),(dyP h)] (.tup [dyP (chk (mulD x h)),iP (chkE (mulD x h))]):=by
 have hc:(mulD x h).Canon:=canon_canon _ _ _
 have xe:=hx.exp
 have he:=hh.exp
 have xl:=hx.limbs
 have hl:=hh.limbs
 obtain ⟨e1,e2⟩:-10000000 ≤ (mulD x h).e ∧ (mulD x h).e ≤ 10000000:=mulD_exp hx hh
 exact tr true Tryz.call8 Tryz.func8 (chain [.c (refValid_pc _ ‹_›:PCt 6 [(dyP x)] _),.c (refValid_pc _ ‹_›:PCt 6 [(dyP h)] _),.c (refProduct_pc _ _ hx.near hh.near:PCt 19 [(dyP x),(dyP h)] _),
  .c (bR2Checked_pc _ hc e1 e2:PCt 18 [(dyP (mulD x h))] _)] <| .nil) (by kernel_rfl)
set_option maxHeartbeats 1000000 in
theorem bR2Mul_bad (x:Dy) (h:RD) (hx:x.Valid) (gh:h.Good) (hbad:¬ h.Ok):PCt 8 [(dyP x),(rdP h)] (.tup [dyP zeroD,iP 1]):=by
 exact tr true Tryz.call8 Tryz.func8 (chain [.c (refValid_pc _ ‹_›:PCt 6 [(dyP x)] _),.c (refValidR_pc _ gh false (iff_of_false (by decide) hbad):PCt 6 [(rdP h)] _),.o 14 (.e zeroP_le:PV.le (.e (.agg [(bP false),(.v (.slice none 0 0)),(iP 0)])) (.e (dyP zeroD)))] <| .nil) (by kernel_rfl)
set_option maxHeartbeats 1000000 in
theorem none_early (x h:RD) (b:RI) (p:Int) (gx:x.Good) (hE:(longB x=true ∨ longB h=true ∨ longB b.lo=true ∨ longB b.hi=true ∨ 200 < p ∨ ¬ okDB x=true)):PCt 3 [(rdP x),(rdP h),(riP b),(iP p)] (bP true):=by
 exact tr true Tryz.call3 Tryz.func3 (chain [.c l28Awake_pc,.c (l28Long_pc x)] <| .w (longB x=true)
  (fun k1=>chain [tB 17 (k1)] <| .nil)
  (fun k1=>chain [tB 17 (Bool.eq_false_iff.2 k1),.c (l28Long_pc h)] <| .w (longB h=true)
   (fun k2=>chain [tB 20 (k2)] <| .nil)
   (fun k2=>chain [tB 20 (Bool.eq_false_iff.2 k2),.c (l28Long_pc b.lo)] <| .w (longB b.lo=true)
    (fun k3=>chain [tB 25 (k3)] <| .nil)
    (fun k3=>chain [tB 25 (Bool.eq_false_iff.2 k3),.c (l28Long_pc b.hi)] <| .w (longB b.hi=true)
     (fun k4=>chain [tB 30 (k4)] <| .nil)
     (fun k4=>chain [tB 30 (Bool.eq_false_iff.2 k4)] <| .w (200 < p)
      (fun k5=>chain [tB 34 (decide_eq_true k5)] <| .nil)
      (fun k5=>chain [tB 34 (decide_eq_false k5),.c (refValidR_pc _ gx _ okDB_true:PCt 6 [(rdP x)] _)] <| .w (okDB x=true)
       (fun k6=>.x (by rcases hE with q | q | q | q | q | q <;> contradiction))
       (fun k6=>chain [tB 38 (Bool.eq_false_iff.2 k6)] <| .nil))))))) (by kernel_rfl)
set_option maxHeartbeats 1000000 in
theorem none_pos (X:Dy) (vX:X.Valid) (l1:longB X.raw=false) (h:RD) (l2:longB h=false) (b:RI) (l3:longB b.lo=false) (l4:longB b.hi=false) (p:Int) (hp:p ≤ 200) (hs:0 ≤ X.sign):PCt 3 [(dyP X),(rdP h),(riP b),(iP p)] (bP true):=by
 exact tr true Tryz.call3 Tryz.func3 (chain [.c l28Awake_pc,.c (l28Long_pc (Dy.raw X):PCt 5 [(dyP X)] _),tB 17 (l1:(longB (Dy.raw X))=false),.c (l28Long_pc h),tB 20 (l2:(longB h)=false),.c (l28Long_pc b.lo),tB 25 (l3:(longB b.lo)=false),.c (l28Long_pc b.hi),
  tB 30 (l4:(longB b.hi)=false),tF 34 (200 < p) (by omega),.c (refValid_pc _ ‹_›:PCt 6 [(dyP X)] _),.c (refSign_pc _:PCt 7 [(dyP X)] _),tB 44 (decide_eq_true hs)] <| .nil) (by kernel_rfl)
set_option maxHeartbeats 1000000 in
theorem none_badh (X:Dy) (vX:X.Valid) (l1:longB X.raw=false) (h:RD) (gh:h.Good) (l2:longB h=false) (b:RI) (l3:longB b.lo=false) (l4:longB b.hi=false) (p:Int) (hp:p ≤ 200) (hs:X.sign < 0) (hbad:¬ h.Ok):PCt 3 [(dyP X),(rdP h),(riP b),(iP p)] (bP true):=by
 exact tr true Tryz.call3 Tryz.func3 (chain [.c l28Awake_pc,.c (l28Long_pc (Dy.raw X):PCt 5 [(dyP X)] _),tB 17 (l1:(longB (Dy.raw X))=false),.c (l28Long_pc h),tB 20 (l2:(longB h)=false),.c (l28Long_pc b.lo),tB 25 (l3:(longB b.lo)=false),.c (l28Long_pc b.hi),
  tB 30 (l4:(longB b.hi)=false),tF 34 (200 < p) (by omega),.c (refValid_pc _ ‹_›:PCt 6 [(dyP X)] _),.c (refSign_pc _:PCt 7 [(dyP X)] _),tF 44 (0 ≤ (Dy.sign X)) (by omega),.c (bR2Mul_bad X h vX gh hbad),
  tB 53 (by decide:((1:Int) != 0)=true)] <| .nil) (by kernel_rfl)
set_option maxHeartbeats 1000000 in
theorem none_big (X:Dy) (vX:X.Valid) (l1:longB X.raw=false) (H:Dy) (vH:H.Valid) (l2:longB H.raw=false) (b:RI) (l3:longB b.lo=false) (l4:longB b.hi=false) (p:Int) (hp:p ≤ 200) (hs:X.sign < 0) (he:chkE (mulD X H) ≠ 0):PCt 3 [(dyP X),(dyP H),(riP b),(iP p)] (bP true):=by
 exact tr true Tryz.call3 Tryz.func3 (chain [.c l28Awake_pc,.c (l28Long_pc (Dy.raw X):PCt 5 [(dyP X)] _),tB 17 (l1:(longB (Dy.raw X))=false),.c (l28Long_pc (Dy.raw H):PCt 5 [(dyP H)] _),tB 20 (l2:(longB (Dy.raw H))=false),.c (l28Long_pc b.lo),
  tB 25 (l3:(longB b.lo)=false),.c (l28Long_pc b.hi),tB 30 (l4:(longB b.hi)=false),tF 34 (200 < p) (by omega),.c (refValid_pc _ ‹_›:PCt 6 [(dyP X)] _),.c (refSign_pc _:PCt 7 [(dyP X)] _),
  tF 44 (0 ≤ (Dy.sign X)) (by omega),.c (bR2Mul_pc X H vX vH),tB 53 (by simpa using he:((chkE (mulD X H)) != 0)=true)] <| .nil) (by kernel_rfl)
set_option maxHeartbeats 1000000 in
theorem none_far (X:Dy) (vX:X.Valid) (l1:longB X.raw=false) (H:Dy) (vH:H.Valid) (l2:longB H.raw=false) (b:RI) (l3:longB b.lo=false) (l4:longB b.hi=false) (p:Int) (hp:p ≤ 200) (hs:X.sign < 0) (he:chkE (mulD X H)=0) (hc:0 < cmpD (chk (mulD X H)) (intD (-1))):PCt 3 [(dyP X),(dyP H),(riP b),(iP p)] (bP true):=by
 have vP:(chk (mulD X H)).Valid:=chk_valid (canon_canon _ _ _)
 have vM:(intD (-1)).Valid:=intZ_valid (by decide)
 exact tr true Tryz.call3 Tryz.func3 (chain [.c l28Awake_pc,.c (l28Long_pc (Dy.raw X):PCt 5 [(dyP X)] _),tB 17 (l1:(longB (Dy.raw X))=false),.c (l28Long_pc (Dy.raw H):PCt 5 [(dyP H)] _),tB 20 (l2:(longB (Dy.raw H))=false),.c (l28Long_pc b.lo),
  tB 25 (l3:(longB b.lo)=false),.c (l28Long_pc b.hi),tB 30 (l4:(longB b.hi)=false),tF 34 (200 < p) (by omega),.c (refValid_pc _ ‹_›:PCt 6 [(dyP X)] _),.c (refSign_pc _:PCt 7 [(dyP X)] _),
  tF 44 (0 ≤ (Dy.sign X)) (by omega),.c (bR2Mul_pc X H vX vH),tB 53 (by rw [he]; rfl:((chkE (mulD X H)) != 0)=false),.c (refIntZ_pc (-1) (by decide):PCt 10 [(iP (-1))] _),.c (refCmp_pc (chk (mulD X H)) (intD (-1)) vP.near vM.near),
  tB 58 (decide_eq_true hc)] <| .nil) (by kernel_rfl)
set_option maxHeartbeats 1000000 in
theorem none_prec (X:Dy) (vX:X.Valid) (l1:longB X.raw=false) (H:Dy) (vH:H.Valid) (l2:longB H.raw=false) (b:RI) (l3:longB b.lo=false) (l4:longB b.hi=false) (p:Int) (hp:p ≤ 200) (hs:X.sign < 0) (he:chkE (mulD X H)=0) (hc:¬ 0 < cmpD (chk (mulD X H)) (intD (-1))) (h0:0 < H.sign) (hq:¬ (8 ≤ p ∧ p ≤ 512)):PCt 3 [(dyP X),(dyP H),(riP b),(iP p)] (bP true):=by
 have vP:(chk (mulD X H)).Valid:=chk_valid (canon_canon _ _ _)
 have vM:(intD (-1)).Valid:=intZ_valid (by decide)
 have vPx:=pointI_valid vX
 have bx:BoxOk 1 [pointI X]:=single_ok vPx rfl
 exact tr true Tryz.call3 Tryz.func3 (chain [.c l28Awake_pc,.c (l28Long_pc (Dy.raw X):PCt 5 [(dyP X)] _),tB 17 (l1:(longB (Dy.raw X))=false),.c (l28Long_pc (Dy.raw H):PCt 5 [(dyP H)] _),tB 20 (l2:(longB (Dy.raw H))=false),.c (l28Long_pc b.lo),
  tB 25 (l3:(longB b.lo)=false),.c (l28Long_pc b.hi),tB 30 (l4:(longB b.hi)=false),tF 34 (200 < p) (by omega),.c (refValid_pc _ ‹_›:PCt 6 [(dyP X)] _),.c (refSign_pc _:PCt 7 [(dyP X)] _),
  tF 44 (0 ≤ (Dy.sign X)) (by omega),.c (bR2Mul_pc X H vX vH),tB 53 (by rw [he]; rfl:((chkE (mulD X H)) != 0)=false),.c (refIntZ_pc (-1) (by decide):PCt 10 [(iP (-1))] _),.c (refCmp_pc (chk (mulD X H)) (intD (-1)) vP.near vM.near),
  tF 58 (0 < (cmpD (chk (mulD X H)) (intD (-1)))) (by omega),.c (caseNeg_pc:PCt 11 [(iP 0),(.v (.slice none 0 0))] _),.c (ivPoint_pc X ‹_›),
  .o 65 (.e (ivs1_le _):PV.le (.e (.sl true 1 7 fun i_ j_=>(ivL (pointI X)).getD (i_ * 7+j_) (.v (.bool false)))) (.e (ivsP [(pointI X)]))),.c (enclose_out sysNeg [(pointI X)] H p sysNeg_ok bx vH h0 hq),
  .c (ivPoint_pc X ‹_›),.o 74 (.e (ivs1_le _):PV.le (.e (.sl true 1 7 fun i_ j_=>(ivL (pointI X)).getD (i_ * 7+j_) (.v (.bool false)))) (.e (ivsP [(pointI X)]))),
  .o 77 (.e (ris1_le _):PV.le (.e (.sl true 1 7 fun i_ j_=>[(bP b.lo.neg),(slP b.lo.L),(iP b.lo.e),(bP b.hi.neg),(slP b.hi.L),(iP b.hi.e),(bP b.all)].getD (i_ * 7+j_) (.v (.bool false)))) (.e (risP [b]))),
  .c (holds_out sysNeg [(pointI X)] H (risP [b]) p sysNeg_ok bx vH h0 hq),tB 83 (by decide:((1:Int) == 12)=false),tB 86 (by decide:((1:Int) == 1)=true)] <| .nil) (by kernel_rfl)
set_option maxHeartbeats 1000000 in
theorem none_badb (X:Dy) (vX:X.Valid) (l1:longB X.raw=false) (H:Dy) (vH:H.Valid) (l2:longB H.raw=false) (b:RI) (l3:longB b.lo=false) (l4:longB b.hi=false) (p:Nat) (hp:p ≤ 200) (hp1:8 ≤ p) (hp2:p ≤ 512) (hs:X.sign < 0) (he:chkE (mulD X H)=0) (hc:¬ 0 < cmpD (chk (mulD X H)) (intD (-1))) (h0:0 < H.sign) (hno:∀ c,BoxOk 1 c → holdsB sysNeg [pointI X] H c p=false) (gb:b.Good) (hbad:okB b=false ∨ b.all=true):PCt 3 [(dyP X),(dyP H),(riP b),(iP p)] (bP true):=by
 have vP:(chk (mulD X H)).Valid:=chk_valid (canon_canon _ _ _)
 have vM:(intD (-1)).Valid:=intZ_valid (by decide)
 have vPx:=pointI_valid vX
 have bx:BoxOk 1 [pointI X]:=single_ok vPx rfl
 exact tr true Tryz.call3 Tryz.func3 (chain [.c l28Awake_pc,.c (l28Long_pc (Dy.raw X):PCt 5 [(dyP X)] _),tB 17 (l1:(longB (Dy.raw X))=false),.c (l28Long_pc (Dy.raw H):PCt 5 [(dyP H)] _),tB 20 (l2:(longB (Dy.raw H))=false),.c (l28Long_pc b.lo),
  tB 25 (l3:(longB b.lo)=false),.c (l28Long_pc b.hi),tB 30 (l4:(longB b.hi)=false),tF 34 (200 < (p:Int)) (by omega),.c (refValid_pc _ ‹_›:PCt 6 [(dyP X)] _),.c (refSign_pc _:PCt 7 [(dyP X)] _),
  tF 44 (0 ≤ (Dy.sign X)) (by omega),.c (bR2Mul_pc X H vX vH),tB 53 (by rw [he]; rfl:((chkE (mulD X H)) != 0)=false),.c (refIntZ_pc (-1) (by decide):PCt 10 [(iP (-1))] _),.c (refCmp_pc (chk (mulD X H)) (intD (-1)) vP.near vM.near),
  tF 58 (0 < (cmpD (chk (mulD X H)) (intD (-1)))) (by omega),.c (caseNeg_pc:PCt 11 [(iP 0),(.v (.slice none 0 0))] _),.c (ivPoint_pc X ‹_›),
  .o 65 (.e (ivs1_le _):PV.le (.e (.sl true 1 7 fun i_ j_=>(ivL (pointI X)).getD (i_ * 7+j_) (.v (.bool false)))) (.e (ivsP [(pointI X)]))),.c (enclose_none sysNeg [(pointI X)] H p sysNeg_ok bx vH h0 sysNeg_rat' hp1 hp2 hno),
  .c (ivPoint_pc X ‹_›),.o 74 (.e (ivs1_le _):PV.le (.e (.sl true 1 7 fun i_ j_=>(ivL (pointI X)).getD (i_ * 7+j_) (.v (.bool false)))) (.e (ivsP [(pointI X)]))),
  .o 77 (.e (ris1_le _):PV.le (.e (.sl true 1 7 fun i_ j_=>[(bP b.lo.neg),(slP b.lo.L),(iP b.lo.e),(bP b.hi.neg),(slP b.hi.L),(iP b.hi.e),(bP b.all)].getD (i_ * 7+j_) (.v (.bool false)))) (.e (risP [b]))),
  .c (holds_badb sysNeg [(pointI X)] H p sysNeg_ok bx vH h0 b gb hbad rfl hp1 hp2),tB 83 (by decide:((12:Int) == 12)=true)] <| .nil) (by kernel_rfl)
set_option maxHeartbeats 1000000 in
theorem none_main (X:Dy) (vX:X.Valid) (l1:longB X.raw=false) (H:Dy) (vH:H.Valid) (l2:longB H.raw=false) (B:Iv) (vB:B.Valid) (aB:B.all=false) (l3:longB B.lo.raw=false) (l4:longB B.hi.raw=false) (p:Nat) (hp:p ≤ 200) (hp1:8 ≤ p) (hp2:p ≤ 512) (hs:X.sign < 0) (he:chkE (mulD X H)=0) (hc:¬ 0 < cmpD (chk (mulD X H)) (intD (-1))) (h0:0 < H.sign) (hno:∀ c,BoxOk 1 c → holdsB sysNeg [pointI X] H c p=false):PCt 3 [(dyP X),(dyP H),(ivP B),(iP p)] (bP true):=by
 have vP:(chk (mulD X H)).Valid:=chk_valid (canon_canon _ _ _)
 have vM:(intD (-1)).Valid:=intZ_valid (by decide)
 have vPx:=pointI_valid vX
 have bx:BoxOk 1 [pointI X]:=single_ok vPx rfl
 have bb:BoxOk 1 [B]:=single_ok vB aB
 have hold0:PCt 14 [sysP sysNeg,ivsP [pointI X],dyP H,ivsP [B],iP (p:Int)] (bP false):=by
  have:=holds_pc sysNeg [pointI X] H [B] p sysNeg_ok bx vH h0 bb sysNeg_rat' hp1 hp2
  rwa [hno [B] bb] at this
 exact tr true Tryz.call3 Tryz.func3 (chain [.c l28Awake_pc,.c (l28Long_pc (Dy.raw X):PCt 5 [(dyP X)] _),tB 17 (l1:(longB (Dy.raw X))=false),.c (l28Long_pc (Dy.raw H):PCt 5 [(dyP H)] _),tB 20 (l2:(longB (Dy.raw H))=false),
  .c (l28Long_pc (Dy.raw B.lo):PCt 5 [(dyP B.lo)] _),tB 25 (l3:(longB (Dy.raw B.lo))=false),.c (l28Long_pc (Dy.raw B.hi):PCt 5 [(dyP B.hi)] _),tB 30 (l4:(longB (Dy.raw B.hi))=false),tF 34 (200 < (p:Int)) (by omega),
  .c (refValid_pc _ ‹_›:PCt 6 [(dyP X)] _),.c (refSign_pc _:PCt 7 [(dyP X)] _),tF 44 (0 ≤ (Dy.sign X)) (by omega),.c (bR2Mul_pc X H vX vH),tB 53 (by rw [he]; rfl:((chkE (mulD X H)) != 0)=false),
  .c (refIntZ_pc (-1) (by decide):PCt 10 [(iP (-1))] _),.c (refCmp_pc (chk (mulD X H)) (intD (-1)) vP.near vM.near),tF 58 (0 < (cmpD (chk (mulD X H)) (intD (-1)))) (by omega),.c (caseNeg_pc:PCt 11 [(iP 0),(.v (.slice none 0 0))] _),
  .c (ivPoint_pc X ‹_›),.o 65 (.e (ivs1_le _):PV.le (.e (.sl true 1 7 fun i_ j_=>(ivL (pointI X)).getD (i_ * 7+j_) (.v (.bool false)))) (.e (ivsP [(pointI X)]))),
  .c (enclose_none sysNeg [(pointI X)] H p sysNeg_ok bx vH h0 sysNeg_rat' hp1 hp2 hno),.c (ivPoint_pc X ‹_›),
  .o 74 (.e (ivs1_le _):PV.le (.e (.sl true 1 7 fun i_ j_=>(ivL (pointI X)).getD (i_ * 7+j_) (.v (.bool false)))) (.e (ivsP [(pointI X)]))),
  .o 77 (.e (ivs1_le _):PV.le (.e (.sl true 1 7 fun i_ j_=>(ivL B).getD (i_ * 7+j_) (.v (.bool false)))) (.e (ivsP [B]))),.c (hold0:PCt 14 [(sysP sysNeg),(ivsP [(pointI X)]),(dyP H),(ivsP [B]),(iP p)] _),
  tB 83 (by decide:((12:Int) == 12)=true)] <| .nil) (by kernel_rfl)
theorem lawNone_any (x h:RD) (b:RI) (p:Int) (gx:x.Good) (gh:h.Good) (gb:b.Good):PCt 3 [rdP x,rdP h,riP b,iP p] (bP true):=by
 by_cases hE:(longB x=true ∨ longB h=true ∨ longB b.lo=true ∨ longB b.hi=true ∨ 200 < p ∨ ¬ okDB x=true)
 ·exact none_early x h b p gx hE
 ·simp only [not_or,Bool.not_eq_true,Int.not_lt,Classical.not_not] at hE
  obtain ⟨l1,l2,l3,l4,hp,hx⟩:=hE
  have hx:=okDB_true.1 (by simpa using hx)
  obtain ⟨X,rfl,vX⟩:∃ X:Dy,x=X.raw ∧ X.Valid:=⟨x.dy,(hx.eq gx).symm,hx.valid⟩
  rw [dyP_raw]
  by_cases hs:0 ≤ X.sign
  ·exact none_pos X vX l1 h l2 b l3 l4 p hp hs
  ·have hs:X.sign < 0:=by omega
   by_cases hbad:h.Ok
   ·obtain ⟨H,rfl,vH⟩:∃ H:Dy,h=H.raw ∧ H.Valid:=⟨h.dy,(hbad.eq gh).symm,hbad.valid⟩
    rw [dyP_raw]
    by_cases he:chkE (mulD X H)=0
    ·by_cases hc:0 < cmpD (chk (mulD X H)) (intD (-1))
     ·exact none_far X vX l1 H vH l2 b l3 l4 p hp hs he hc
     ·have hr:inRange (mulD X H):=Classical.byContradiction fun q=>by rw [chkE_no q] at he; cases he
      have hxh:X.q * H.q ≤ -1:=by
       have hc':cmpD (chk (mulD X H)) (intD (-1)) ≤ 0:=by omega
       rw [chk_yes hr,q_le,q_intD] at hc'
       have hq:=q_prod X H
       change (mulD X H).q=_ at hq
       rw [hq] at hc'
       exact hc'
      have hX:X.q < 0:=(q_sign X).2.1 hs
      have hh:0 < H.q:=by
       apply Classical.byContradiction
       intro hn
       have hn:0 ≤ -H.q:=by grind
       have:=Rat.mul_nonneg (show 0 ≤ -X.q by grind) hn
       grind
      have h0:0 < H.sign:=(q_sign H).1.2 hh
      by_cases hq:8 ≤ p ∧ p ≤ 512
      ·obtain ⟨q,rfl⟩:=Int.eq_ofNat_of_zero_le (show 0 ≤ p by omega)
       have hno:∀ c,BoxOk 1 c → holdsB sysNeg [pointI X] H c q=false:=fun c hc=>none_tube vX vH hh hxh (by omega) (by omega) hc
       by_cases hb:okB b=true ∧ b.all=false
       ·obtain ⟨hb1,hb2⟩:=hb
        have hb1:=okB_true.1 hb1
        obtain ⟨B,rfl,vB⟩:∃ B:Iv,b=B.raw ∧ B.Valid:=⟨b.iv,(hb1.eq gb).symm,hb1.valid⟩
        rw [ivP_raw]
        exact none_main X vX l1 H vH l2 B vB hb2 l3 l4 q (by omega) (by omega) (by omega) hs he hc h0 hno
       ·refine none_badb X vX l1 H vH l2 b l3 l4 q (by omega) (by omega) (by omega) hs he hc h0 hno gb ?_
        cases e1:okB b
        ·exact .inl rfl
        ·cases e2:b.all
         ·exact absurd ⟨e1,e2⟩ hb
         ·exact .inr rfl
      ·exact none_prec X vX l1 H vH l2 b l3 l4 p hp hs he hc h0 hq
    ·exact none_big X vX l1 H vH l2 b l3 l4 p hp hs he
   ·exact none_badh X vX l1 h gh l2 b l3 l4 p hp hs hbad
open Go.ChangeShapes Go.WideShapes Go.ChangeAt Go.RowKit Fp Pu
theorem rd_agg {W:World} {x:RD} {cs:Array Value} (h:IsRd W x cs.toList):Rep noB noB W (rdP x) (.agg cs):=by
 obtain ⟨_,hl,h⟩:=h
 have:=Rep.agg (bs:=noB) (br:=noB) (w:=W) (rdL x) cs.toList (by rw [hl]; rfl) (fun i p v h1 h2=>by
  have hi:i < 3:=by have:=(List.getElem?_eq_some_iff.1 h2).1; omega
  obtain ⟨v',h3,h4⟩:=h i hi
  rw [h2] at h3
  cases h3
  rw [List.getD_eq_getElem?_getD,h1] at h4
  exact h4)
 unfold rdP
 exact this
open Go.ChangeShapes Go.WideShapes Go.ChangeAt Go.RowKit Fp Pu
def exIv0:Value:=.agg #[.bool false,.slice none 0 0,.int .i64 0,.bool false,.slice none 0 0,.int .i64 0,.bool false]
def exIvD {H:Type}:DataW H:=.agg [.agg [.lit (.bool false),.nil,.lit (.int .i64 0)],.agg [.lit (.bool false),.nil,.lit (.int .i64 0)],.lit (.bool false)]
def exDy0:Value:=.agg #[.bool false,.slice none 0 0,.int .i64 0]
def exDyD {H:Type}:DataW H:=.agg [.lit (.bool false),.nil,.lit (.int .i64 0)]
def pnoneArgs:Array Value:=#[exDy0,exDy0,exIv0,.int .i64 0]
set_option maxRecDepth 100000 in
theorem pnone_contract (H:Type) (enc:TypeId × Value → H) (W:World) (base:Nat) (args:Array Value) (ds gs:List (DataW H)) (before:List MemPlace)
  (hval:∀ (j:Nat) t v,Tryz.f3.params[j]? = some t → args[j]? = some v → Value.okWide Tryz.prog W .any base t v)
  (hW:DataW.Whole enc Tryz.prog Tryz.f3.params.toList Rows.picardNoneSpec.vars false W args.toList ds gs before) (hL:laidMetH Tryz.prog Rows.picardNoneRow.laid W) :
  Calls Tryz.prog 3 args W fun e W'=>∃ v,e = .returned v ∧ Rows.picardNoneSpec.post enc Tryz.prog Tryz.f3 false true false false W args v W':=by
 have hW':=hW
 obtain ⟨p,q,hA0,hV,rfl,hfz,hnd⟩:=hW
 have hA:DataW.TrodAll enc Tryz.prog W 0 (fun _=>true) true Tryz.f3.params.toList args.toList ds p:=hA0
 rw [Tryz.params3] at hA hval
 obtain ⟨v0,vs0,d0,ds0,p0,q0,hvs,rfl,rfl,h0,hA0⟩:=trodAll_cons hA
 obtain ⟨v1,vs1,d1,ds1,p1,q1,rfl,rfl,rfl,h1,hA1⟩:=trodAll_cons hA0
 obtain ⟨v2,vs2,d2,ds2,p2,q2,rfl,rfl,rfl,h2,hA2⟩:=trodAll_cons hA1
 obtain ⟨v3,vs3,d3,ds3,p3,q3,rfl,rfl,rfl,h3,hA3⟩:=trodAll_cons hA2
 obtain ⟨rfl,rfl,rfl⟩:=trodAll_nil hA3
 obtain rfl:args = #[v0,v1,v2,v3]:=by cases args; simp_all
 obtain ⟨rfl,rfl⟩:=trodVars_none hV
 obtain ⟨cs0,rfl,hsz0⟩:=okWide_struct Tryz.underlying24 (hval 0 24 v0 rfl rfl)
 obtain ⟨cs1,rfl,hsz1⟩:=okWide_struct Tryz.underlying24 (hval 1 24 v1 rfl rfl)
 obtain ⟨cs2,rfl,hsz2⟩:=okWide_struct Tryz.underlying26 (hval 2 26 v2 rfl rfl)
 obtain ⟨x3,rfl,rfl,rfl,b3⟩:=open_int Tryz.underlying3 (hval 3 3 v3 rfl rfl) h3
 have h0k:=h0
 obtain ⟨fuel0,hf0⟩:=h0
 have h1k:=h1
 obtain ⟨fuel1,hf1⟩:=h1
 have h2k:=h2
 obtain ⟨fuel2,hf2⟩:=h2
 clear hA0
 have hlt0:∀ x ∈ p0,x.block < W.heap.size:=fun x hx=>hW'.lt x (by simp [hx])
 have hlt1:∀ x ∈ p1,x.block < W.heap.size:=fun x hx=>hW'.lt x (by simp [hx])
 have hlt2:∀ x ∈ p2,x.block < W.heap.size:=fun x hx=>hW'.lt x (by simp [hx])
 obtain ⟨x0,g0⟩:=open_rd hf0 hlt0
 obtain ⟨x1,g1⟩:=open_rd hf1 hlt1
 obtain ⟨x2,g2⟩:=open_ri hf2 hlt2
 have hrun:=(lawNone_any x0 x1 x2 x3 g0.1 g1.1 g2.1).run W noB [.agg cs0,.agg cs1,.agg cs2,.int .i64 x3] (tb_of_laid rfl hL) (fun _ h=>h.elim) (.cons (rd_agg (cs:=cs0) g0) (.cons (rd_agg (cs:=cs1) g1) (.cons (ri_agg (cs:=cs2) g2) (.cons (.v _) (.nil _ _ _)))))
 refine hrun.mono fun r W' ⟨v,hr,hb,hrep⟩=>?_
 obtain rfl:=Rep.v_inv hrep
 subst hr
 refine ⟨_,rfl,_,_,_,[],p0 ++ (p1 ++ (p2 ++ ([]))),[],hW',?_,?_,rfl,hb.frame _,fun h=>by cases h⟩
 ·exact trodAll_mk1 (shut_bool Tryz.underlying4 _)
 ·exact ⟨p0,_,(Below.trod laidOut (by kernel_rfl) (of_decide_eq_true (by kernel_rfl)) h0k hb hlt0),⟨p1,_,(Below.trod laidOut (by kernel_rfl) (of_decide_eq_true (by kernel_rfl)) h1k hb hlt1),⟨p2,_,(Below.trod laidOut (by kernel_rfl) (of_decide_eq_true (by kernel_rfl)) h2k hb hlt2),trodAll_mk1 (Below.trod laidOut (by kernel_rfl) (of_decide_eq_true (by kernel_rfl)) h3 hb (fun _ h=>by cases h)),rfl⟩,rfl⟩,rfl⟩
theorem pnone_met (os:Os):laidMet Tryz.prog Rows.picardNoneRow.laid ((laidWorld os pnoneArgs).forCall (fun _ _=>0) ⟨#[],pnoneArgs,[]⟩).memory :=
 laidMet_of_run' 8 (by kernel_rfl) (by kernel_rfl)
theorem pnone_reads (os:Os) {H:Type} (enc:TypeId × Value → H):∃ places,DataW.whole enc Tryz.prog ((laidWorld os pnoneArgs).forCall (fun _ _=>0) ⟨#[],pnoneArgs,[]⟩).memory Tryz.f3.params.toList Rows.picardNoneSpec.vars false pnoneArgs.toList 8=some ([exDyD,exDyD,exIvD,.lit (.int .i64 0)],[],places) :=
 ⟨[],by kernel_rfl⟩
set_option maxRecDepth 100000 in
theorem pnone_lifted (os:Os) (started:os.Started) (H:Type) (enc:TypeId × Value → H) (F:Stop.Interp) :
  ReturnsInHanded {} Tryz.checked os 3 .any ((OpenSpec.ofChange Rows.picardNoneSpec).preRow enc Tryz.prog Tryz.f3 Rows.picardNoneRow.domain false Rows.picardNoneRow.laid) (((OpenSpec.ofChange Rows.picardNoneSpec).at F).post enc Tryz.prog Tryz.f3 false true false false):=by
 obtain ⟨places,hx⟩:=pnone_reads os enc
 refine returnsInHanded_of_row (C:=Tryz.checked) (s:=OpenSpec.ofChange Rows.picardNoneSpec) own started (by kernel_rfl) Tryz.func3
  (witness_row_at (enc:=enc) (C:=Tryz.checked) false (laidWorld os pnoneArgs) pnoneArgs rfl (by kernel_rfl) (by kernel_rfl) (by kernel_rfl)
   (OpenSpec.preRow_of_cond 8 hx (by kernel_rfl) (fun k hk=>by cases hk) (by kernel_rfl) (pnone_met os))) ?_
 intro W base args ds gs before hval hW _ _ _ hL _ _
 exact pnone_contract H enc W base args ds gs before hval hW hL
theorem pnone_said:Rows.PicardNoneSaid :=
 OpenClaim.holds_of_cond 3 Tryz.f3 rfl rfl rfl rfl rfl rfl rfl ⟨rfl,rfl,rfl,rfl,rfl⟩ rfl rfl rfl rfl rfl (by kernel_rfl) Tryz.func3 (by kernel_rfl)
  (of_decide_eq_true (by kernel_rfl)) (by unfold Func.isWrapper; first | (rw [if_pos (by decide +kernel)]; kernel_rfl) | (rw [if_neg (by decide +kernel)]; exact ⟨rfl,rfl⟩))
  (fun os started H enc _ F=>by rw [OpenClaim.pre_eq_preRow]; exact pnone_lifted os started H enc F)
theorem pnone_plain (f:FuncId) (fn:Func) (hf:Tryz.pinned.checked.prog.funcNamed "flowpipe/flowpipelaw28.PicardNone" = some f) (hfn:Tryz.pinned.checked.prog.funcs[f]? = some fn) :
  false=Tryz.pinned.checked.prog.looks [] ∧ ∀ (j:Nat) t,fn.params[j]? = some t → Tryz.pinned.checked.prog.wantsStandIn t=false:=by
 obtain rfl:f=3:=Option.some.inj ((show Tryz.prog.funcNamed "flowpipe/flowpipelaw28.PicardNone" = some 3 by kernel_rfl).symm.trans hf) |>.symm
 obtain rfl:fn=Tryz.f3:=(Option.some.inj (Tryz.func3.symm.trans hfn)).symm
 refine ⟨by kernel_rfl,fun j t ht=>?_⟩
 rw [Tryz.params3] at ht
 have:t=24 ∨ t=26 ∨ t=3:=by
  have:=Array.mem_of_getElem? ht
  simp only [List.mem_toArray,List.mem_cons,List.not_mem_nil,or_false] at this
  rcases this with h | h | h | h <;> subst h <;> simp
 rcases this with rfl | rfl | rfl
 ·exact (show Tryz.prog.wantsStandIn 24=false by kernel_rfl)
 ·exact (show Tryz.prog.wantsStandIn 26=false by kernel_rfl)
 ·exact (show Tryz.prog.wantsStandIn 3=false by kernel_rfl)
theorem pnone_card:Rows.PicardNoneCardSaid :=
 Claim7.holds_tied_plain_at .later [] _ _ _ _ pnone_said (fun _ h=>by cases h) (by kernel_rfl) (fun _ h=>by cases h) picardNone_row_tie rfl ⟨rfl,rfl⟩ (by kernel_rfl) rfl pnone_plain (by kernel_rfl)
end Go.Proofs.YtkbjkchapnjhgaaGreatDoor
