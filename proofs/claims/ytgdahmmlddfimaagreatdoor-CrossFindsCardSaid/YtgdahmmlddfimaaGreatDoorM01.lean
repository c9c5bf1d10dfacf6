/- Lemmas that the last file uses. -/
import Derived.Test.YtgdahmmlddfimaaGreatDoorProg
import Derived.WalkKit
import Derived.BigQuiet
import Derived.WalkSpells
import Derived.WalkLawsBesides
import Derived.Lib.Hide
import Derived.Deep.RegionHeld3
import Derived.Maps.AppendAt
import Derived.Deep.AppendLies
import Derived.Deep.Draws
import Derived.Deep.DeepFit
import Derived.Laws.AppendOwnNone
import Derived.Shelf.Small.Bits
import Derived.Shelf.Spec.TrailingZeros
import Derived.Test.YtgdahmmlddfimaaGreatDoorCards
import Derived.Test.YtgdahmmlddfimaaGreatDoorTie
import Derived.ProofKit
import Derived.OpenShut
import Derived.Deep.DeepHandedRow
import Derived.Lib.LaidTab
import Derived.Laws.AppendOwn
import Derived.Laws.MakeOwn
import Derived.Laws.Slices
import Derived.Orders
import Derived.Laws.Build
set_option linter.unusedSimpArgs false
set_option linter.unusedVariables false
set_option linter.defProp false
set_option maxHeartbeats 4000000
open Go.Proofs.Tryz
namespace Go.Proofs.YtgdahmmlddfimaaGreatDoor
theorem aC{p:Prop}(h:p:=by omega):p:=h
theorem aD{p:Prop}(h:p:=by assumption):p:=h
theorem aE{p:Prop}(h:p:=by decide):p:=h
theorem aF{p:Prop}(h:p:=by kernel_rfl):p:=h
theorem aG{p:Prop}(h:p:=by rfl):p:=h
theorem aH{p:Prop}(h:p:=by simp):p:=h
theorem aI{p:Prop}(h:p:=by nofun):p:=h
theorem aJ{p:Prop}(h:p:=by simp<;>omega):p:=h
theorem aK{p:Prop}(h:p:=by grind):p:=h
theorem aL{p:Prop}(h:p:=by decide +kernel):p:=h
theorem aM{p:Prop}(h:p:=by split<;>omega):p:=h
theorem aN{p:Prop}(h:p:=by simp;omega):p:=h
theorem aO{p:Prop}(h:p:=by rw[Bool.eq_iff_iff];unfold jb;(repeat' split)<;>simp_all<;>omega):p:=h
theorem aP{p:Prop}(h:p:=by first|rfl|omega|(simp only[Nat.add_mul,Nat.one_mul];omega)):p:=h
theorem aQ{p:Prop}(h:p:=by simp[Op.operands]):p:=h
theorem aR{p:Prop}(h:p:=by first|assumption|decide):p:=h
theorem aS{p:Prop}(h:p:=by unfold oi;(repeat' split)<;>omega):p:=h
theorem aT{p:Prop}(h:p:=by unfold mT;rw[Bool.eq_iff_iff];simp_all<;>omega):p:=h
theorem aU{p:Prop}(h:p:=by rw[Bool.eq_iff_iff];simp<;>omega):p:=h
theorem aV{p:Prop}(h:p:=by first|rfl|rw[uw]):p:=h
theorem aW{p:Prop}(h:p:=by unfold s5;rw[Bool.eq_iff_iff];simp_all<;>omega):p:=h
theorem aX{p:Prop}(h:p:=by rw[List.length_map];omega):p:=h
theorem aY{p:Prop}(h:p:=by unfold rU;rw[Bool.eq_iff_iff];simp_all):p:=h
theorem aZ{p:Prop}(h:p:=by unfold wX;rw[Bool.eq_iff_iff];simp_all<;>omega):p:=h
theorem a6{p:Prop}(h:p:=by unfold nT DJ;simp_all):p:=h
theorem a7{p:Prop}(h:p:=by unfold pB;rw[Bool.eq_iff_iff];simp_all):p:=h
theorem bc{p:Prop}(h:p:=by rw[List.length_take];omega):p:=h
theorem bg{p:Prop}(h:p:=by unfold k0;simp_all<;>omega):p:=h
theorem bh{p:Prop}(h:p:=by unfold lk;simp_all):p:=h
theorem bj{p:Prop}(h:p:=by unfold kQ;omega):p:=h
theorem bk{α:Type _}[BEq α][LawfulBEq α]{a b:α}(h:a≠b):(a==b)=false:=beq_eq_false_iff_ne.2 h
theorem bn{α:Type _}[BEq α][LawfulBEq α]{a b:α}(h:a=b):(a==b)=true:=beq_iff_eq.2 h
theorem bt{b:Bool}(h:¬b=true):b=false:=Bool.eq_false_iff.2 h
theorem bu{α:Type _}[BEq α][LawfulBEq α]{a b:α}(h:a=b):(a != b)=false:=bne_eq_false_iff_eq.2 h
theorem bw{α:Type _}[BEq α][LawfulBEq α]{a b:α}(h:a≠b):(a != b)=true:=bne_iff_ne.2 h
def bA:=@if_neg
def bB:=@if_pos
def bC:=@decide_eq_true
def bD:=@decide_eq_false
def bE:=@List.getD_eq_getElem?_getD
def bF:=@Nat.le_refl
def bG:=@Nat.not_lt_zero
def bH:=@Nat.le_trans
def bI:=@if_false
def bJ:=@List.getElem?_eq_getElem
def bK:=@Nat.pow_add
def bL:=@Nat.pow_pos
def bM:=@Option.some.injEq
def bN:=@if_true
def bO:=@Nat.mul_assoc
def bQ:=@Bool.and_eq_true
def bR:=@Bool.false_eq_true
def bS:=@Nat.pow_succ
def bT:=@Nat.mul_comm
def bU:=@List.all_eq_true
def bV:=@Nat.mod_lt
def bW:=@Prod.mk.injEq
def bX:=@Rat.le_trans
def bY:=@Nat.mul_le_mul_right
def bZ:=@List.length_map
def b5:=@Nat.pow_le_pow_right
def b6:=@List.mem_range
def b7:=@Rat.le_of_lt
def b9:=@Nat.mul_add
def ca:=@Nat.lt_of_lt_of_le
def cg:=@Nat.add_zero
def ch:=@Option.map_eq_some_iff
def cj:=@Nat.zero_le
def ck:=@Rat.mul_nonneg
def cr:=@Nat.add_mul
def ct:=@Classical.byContradiction
def cv:=@Nat.one_mul
def cw:=@Nat.div_le_self
def cz:=@List.getElem?_eq_none
def cC:=@List.length_append
def cD:=@Nat.zero_add
def cE:=@List.getElem?_eq_some_iff
def cF:=@List.length_take
def cG:=@List.getElem?_map
def cH:=@Nat.mod_eq_of_lt
def cI:=@Nat.mul_one
def cJ:=@Nat.beq_refl
def cK:=@List.getElem_mem
def cL:=@decide_eq_true_eq
def cM:=@Option.map_some
def cN:=@Int.le_refl
def cO:=@Rat.mul_le_mul_of_nonneg_right
def cP:=@Rat.le_refl
def cQ:=@Nat.lt_of_le_of_lt
def cR:=@of_decide_eq_true
def cS:=@Nat.div_lt_iff_lt_mul
def cT:=@Nat.mul_zero
def cU:=@Nat.pow_zero
def cV:=@Nat.le_of_ble_eq_true
def cW:=@List.take_of_length_le
def c9:=@Nat.div_add_mod
def dc:=@Nat.zero_mul
def de:=@Nat.mul_le_mul_left
def df:=@beq_false
def dg:=@List.any_eq_false
def dh:=@Rat.mul_le_mul_of_nonneg_left
def di:=@Bool.true_and
def dj:=@Classical.choose_spec
def dk:=@Rat.natCast_nonneg
def dm:=@Rat.div_def
def dp:=@List.length_cons
def dq:=@Nat.add_assoc
def dr:=@Array.getElem?_eq_some_iff
def dt:=@List.mem_flatMap
def du:=@ne_eq
def dv:=@Bool.eq_iff_iff
def dw:=@List.mem_cons
def dx:=@Nat.div_eq_of_lt
def dz:=@List.mem_map
def dA:=@Nat.sub_self
def dB:=@List.length_set
def dC:=@Nat.le_div_iff_mul_le
def dD:=@Nat.div_mul_le_self
def dE:=@Rat.natCast_mul
def dF:=@Nat.min_eq_left
def dG:=@Nat.mul_lt_mul_of_pos_right
def dH:=@List.eq_nil_of_length_eq_zero
def dI:=@List.mem_iff_getElem?
def dJ:=@Array.ext'
def dK:=@List.mem_append
def dL:=@Nat.div_div_eq_div_mul
def dM:=@List.getElem?_take
def dN:=@List.getElem?_drop
def dO:=@List.getElem?_append_left
def dP:=@Array.length_toList
def dQ:=@Nat.sub_zero
def dR:=@Nat.mul_le_mul
def dU:=@Nat.le_of_lt
def dV:=@Rat.natCast_le_natCast
def dW:=@Rat.not_lt
def dX:=@List.getElem_cons_succ
def dY:=@Nat.mul_ne_zero
def dZ:=@Nat.mod_one
def ef:=@List.mem_of_getElem?
def eh:=@Array.mem_of_getElem?
def ej:=@List.any_cons
def ek:=@Bool.or_eq_false_iff
def eo:=@Bool.or_eq_true
def ep:=@List.any_eq_true
def er:=@Rat.div_mul_cancel
def et:=@List.mem_of_mem_take
def eu:=@List.take_succ_cons
def ev:=@Nat.mul_div_cancel
def ew:=@List.getElem?_append
def eB:=@Bool.not_eq_true'
def eC:=@Nat.mul_left_comm
def eD:=@List.take_length
def eE:=@Nat.pos_of_ne_zero
def eF:=@Rat.intCast_natCast
def eG:=@Rat.natCast_add
def eH:=@Rat.mul_lt_mul_of_pos_right
def eI:=@of_decide_eq_false
def eJ:=@Int.toNat_of_nonneg
def eK:=@List.mem_of_mem_drop
def eN:=@Nat.add_mul_mod_self_left
def eO:=@List.drop_eq_nil_of_le
def eP:=@Nat.mod_add_div
def eR:=@Nat.ne_of_gt
def eU:=@List.getElem_toArray
def eV:=@List.getElem_cons_zero
def eW:=@List.drop_zero
def eX:=@List.drop_succ_cons
def eZ:=@List.take_zero
def e9:=@List.map_cons
def fc:=@Nat.eq_zero_or_pos
def fe:=@List.length_drop
def ff:=@Bool.or_false
def fg:=@not_false_eq_true
def fh:=@List.length_pos_iff
def fi:=@Int.natAbs_natCast
def fj:=@Nat.mod_le
def fk:=@Rat.mul_pos
def fm:=@List.length_singleton
def fo:=@Nat.add_sub_cancel
def fp:=@Bool.not_false
def fu:=@List.map_congr_left
def fv:=@Option.isSome_map
def fw:=@List.size_toArray
def fz:=@List.any_nil
def fA:=@Nat.sub_le
def fB:=@List.getElem?_replicate
def fC:=@Int.natCast_mul
def fD:=@Nat.xor_lt_two_pow
def fE:=@Rat.mul_assoc
def fF:=@Nat.add_mul_div_left
def fG:=@List.drop_eq_getElem_cons
def fH:=@Array.getElem?_modify
def fI:=@Bool.not_true
def fJ:=@Nat.blt_eq
def fK:=@List.getElem?_append_right
def fL:=@Array.mem_append
def fM:=@getElem!_pos
def fN:=@and_true
def fO:=@List.mem_singleton
def fP:=@List.mapM_cons
def fQ:=@Nat.lt_trans
def fR:=@Nat.lt_succ_self
def fS:=@Nat.and_lt_two_pow
def fT:=@decide_true
def fU:=@Int.eq_ofNat_of_zero_le
def fV:=@BitVec.toNat_ofInt
def fW:=@Nat.div_one
def fX:=@Rat.le_of_mul_le_mul_right
def fY:=@Rat.neg_neg
def fZ:=@Rat.one_mul
def gh:=@Rat.mul_comm
def gj:=@Rat.inv_pos
def gn:=@Rat.le_antisymm
def gq:=@List.take_succ_eq_append_getElem
def gr:=@Nat.mul_pos
def gv:=@Nat.lt_or_ge
def gw:=@List.append_nil
def gE:=@Int.toNat_natCast
def gF:=@Nat.mul_add_mod
def gG:=@List.ext_getElem?
def gH:=@Array.mem_map
def gI:=@Array.mem_range
def gJ:=@Int.natCast_add
def gK:=@Int.natAbs_neg
def gL:=@List.getElem?_range
def gM:=@List.ext_getElem
def gN:=@Rat.intCast_le_intCast
def gO:=@Rat.natCast_pos
def gP:=@Nat.div_lt_self
def gQ:=@Nat.le_mul_of_pos_left
def gR:=@Nat.mul_right_comm
def gS:=@Nat.sub_add_cancel
def gT:=@Nat.mul_mod_left
def gU:=@List.map_append
def gV:=@Nat.le_mul_of_pos_right
def gW:=@Array.getElem_mem
def gX:=@List.getElem?_toArray
def gY:=@List.mem_toArray
def gZ:=@List.append_assoc
def ia:=@Option.bind_eq_some_iff
def ib:=@Option.isSome_iff_exists
def ic:=@Bool.and_eq_true_iff
def ado:=@BitVec.ofInt_natCast
def aps:=@BitVec.toNat_ofNat
def apt:=@Nat.pow_lt_pow_right
def apu:=@decide_eq_true_iff
def apv:=@decide_false
def apw:=@Nat.le_of_eq
def apx:=@Bool.false_or
def apy:=@Bool.or_self
def apz:=@Nat.succ_mul
def apA:=@Nat.div_le_div_left
def apB:=@Rat.intCast_neg
def apC:=@Rat.neg_mul
def apD:=@Rat.inv_mul_cancel
def apE:=@Nat.one_ne_zero
def apF:=@List.cons_append
def apG:=@List.take_append_drop
def apH:=@List.eq_nil_or_concat
def apI:=@List.concat_eq_append
def apJ:=@List.getElem?_cons_succ
def apK:=@Nat.mul_add_div
def apL:=@Array.size_append
def apM:=@not_true_eq_false
def apN:=@List.length_nil
def apO:=@Option.getD_some
def apP:=@Bool.and_eq_false_iff
def apQ:=@List.pairwise_cons
def apR:=@List.pairwise_append
def apS:=@Option.some.inj
def apT:=@Array.getElem_setIfInBounds_ne
def apU:=@Nat.or_lt_two_pow
def apV:=@List.take_add_one
def apW:=@decide_eq_decide
def apX:=@List.getElem?_set
def apY:=@Nat.testBit_xor
def apZ:=@List.length_eq_zero_iff
def ap0:=@Bool.and_true
def ap1:=@Rat.mul_div_cancel
def ap2:=@Array.getElem?_setIfInBounds_ne
def ap3:=@Array.getElem?_append_left
def ap4:=@Int.tdiv_eq_ediv_of_nonneg
def ap5:=@Array.toList_setIfInBounds
def ap6:=@List.drop_length_add_append
def ap7:=@Array.all_eq_true_iff_forall_mem
def ap8:=@Array.mapM_eq_mapM_toList
def ap9:=@Nat.and_two_pow_sub_one_eq_mod
def aqa:=@Nat.eq_of_mul_eq_mul_right
def aqb:=@Nat.lt_of_mul_lt_mul_right
def aqc:=@Rat.lt_of_mul_lt_mul_right
def aqd:=@Int.tmod_eq_emod_of_nonneg
def aqe:=@Int.mul_tdiv_cancel_left
def aqf:=@Nat.mul_div_cancel_left
def aqg:=@Nat.mod_two_eq_zero_or_one
def aqh:=@Nat.mul_lt_mul_of_lt_of_lt
def aqi:=@Lib.hid
end Go.Proofs.YtgdahmmlddfimaaGreatDoor
namespace Go.Proofs.YtgdahmmlddfimaaGreatDoor.Fp
def val:List Nat->Nat
 | []=>0
 |x::l=>x+4294967296*val l
def iZ(L:List Nat):Prop:=∀ x,x ∈ L->x<4294967296
def iZ.nil:iZ []:=by intro x h;cases h
def iZ.cons{x:Nat}{l:List Nat}(hx:x<4294967296)(h:iZ l):iZ (x::l):=by
 intro y hy;rcases dw.1 hy with rfl|hy;exact hx;exact h _ hy
def iZ.head{x:Nat}{l:List Nat}(h:iZ (x::l)):x<4294967296:=h x aH 
def iZ.tail{x:Nat}{l:List Nat}(h:iZ (x::l)):iZ l:=λy hy=>h y (by simp[hy])
def iZ.append{l m:List Nat}(h:iZ l)(k:iZ m):iZ (l++m):=by
 intro x hx;rcases dK.1 hx with hx|hx;exact h _ hx;exact k _ hx
def iZ.take{l:List Nat}(h:iZ l)(n:Nat):iZ (l.take n):=λx hx=>h x (et hx)
def iZ.drop{l:List Nat}(h:iZ l)(n:Nat):iZ (l.drop n):=λx hx=>h x (eK hx)
def iZ.get{l:List Nat}(h:iZ l){i:Nat}(hi:i<l.length):l[i]<4294967296:=h _ (cK hi)
def iZ.getD{l:List Nat}(h:iZ l)(i:Nat):l.getD i 0<4294967296:=by
 rw[bE];by_cases hi:i<l.length
 .rw [bJ hi];exact h.get hi
 .rw [cz aC];decide
def iZ.FI(n:Nat):iZ (List.replicate n 0):=by
 intro x hx;rw[List.mem_replicate]at hx;rw[hx.2];decide
@[simp] theorem Bh:val []=0:=rfl
@[simp] theorem rJ (x:Nat) (l:List Nat):val (x::l)=x+4294967296*val l:=rfl
def wY(l m:List Nat):val (l++m)=val l+4294967296^l.length*val m:=by
 induction l with
 |nil=>simp
 |cons x l ih=>
  simp only[apF,rJ,ih,dp,bS];rw[b9,bT (4294967296^l.length) 4294967296,bO];omega
def po{l:List Nat}(h:iZ l):val l<4294967296^l.length:=by
 induction l with
 |nil=>simp
 |cons x l ih=>
  have h1:=h.head;have h2:=ih h.tail;simp only[rJ,dp,bS];have:val l+1<=4294967296^l.length:=h2;have:=de 4294967296 this;rw[bT (4294967296^l.length)];omega
def CI(n:Nat):val (List.replicate n 0)=0:=by
 induction n with
 |zero=>rfl
 |succ n ih=>simp[List.replicate_succ,ih]
def F0(l:List Nat)(n:Nat)(hn:n<=l.length):val l=val (l.take n)+4294967296^n*val (l.drop n):=by
 conv=>lhs;rw[<-apG n l,wY]
 rw[cF,dF hn]
def CJ(l:List Nat)(n:Nat)(hn:n<l.length):val (l.take (n+1))=val (l.take n)+4294967296^n*l[n]:=by
 rw[gq hn,wY,cF,dF aC];simp
def aoh{l:List Nat}(h:iZ l)(n:Nat):val (l.take n)=val l%4294967296^n:=by
 by_cases hn:n<=l.length
 .rw [F0 l n hn,eN,cH];have:=po (h.take n);rwa[cF,dF hn]at this
 .rw [cW aC,cH];refine ca (po h) (b5 aE aC)
def I0{l:List Nat}(h:iZ l)(n:Nat):val (l.drop n)=val l/4294967296^n:=by
 by_cases hn:n<=l.length
 .rw [F0 l n hn];have:=po (h.take n);rw[cF,dF hn]at this;rw[fF _ _ (bL aE),dx this,cD]
 .rw [eO aC,dx];rfl;exact ca (po h) (b5 aE aC)
def iT:List Nat->List Nat
 | []=>[]
 |x::l=>match iT l with
  | []=>if x=0 then[]else[x]
  |y::m=>x::y::m
def np(L:List Nat):Nat:=(iT L).length
def aau(l:List Nat):iT (l++[0])=iT l:=by
 induction l with
 |nil=>rfl
 |cons x l ih=>simp only[apF,iT,ih]
def aat(l:List Nat)(x:Nat)(hx:x≠0):iT (l++[x])=l++[x]:=by
 induction l with
 |nil=>simp[iT,hx]
 |cons y l ih=>
  simp only[apF,iT,ih];cases l<;>rfl
def LY(L:List Nat):iT L=L.take (np L):=by
 unfold np
 induction L with
 |nil=>rfl
 |cons x l ih=>
  simp only[iT];cases h:iT l with
  |nil=>by_cases hx:x=0<;>simp[hx]
  |cons y m=>
   rw[h]at ih;simp only[dp,eu];rw[dp]at ih;rw[<-ih]
def qw(L:List Nat):np L<=L.length:=by
 have h:=congrArg List.length (LY L);rw[cF]at h;unfold np at h ⊢;omega
def qZ(L:List Nat):val (iT L)=val L:=by
 induction L with
 |nil=>rfl
 |cons x l ih=>
  simp only[iT];cases h:iT l with
  |nil=>rw[h]at ih;by_cases hx:x=0<;>simp[hx,<-ih]
  |cons y m=>rw[h]at ih;simp only[rJ]at ih ⊢;rw[ih]
def iZ.iT{L:List Nat}(h:iZ L):iZ (Fp.iT L):=by rw[LY];exact h.take _
def nX(L:List Nat):Prop:=iT L=L
def Bf(L:List Nat):nX (iT L):=by
 unfold nX
 induction L with
 |nil=>rfl
 |cons x l ih=>
  simp only[iT];cases h:iT l with
  |nil=>by_cases hx:x=0<;>simp[hx,iT]
  |cons y m=>rw[h]at ih;simp only[iT]at ih ⊢;rw[ih]
def nX.nil:nX []:=rfl
def CH(L:List Nat):nX L↔∀ h:0<L.length,L[L.length-1]≠0:=by
 rcases apH L with rfl|⟨l,x,rfl⟩
 .simp [nX,iT]
 .simp only[apI,cC,fm,fo,List.getElem_concat_length];constructor
  .intro h _ hx;subst hx;have:=congrArg List.length h;rw[aau]at this;have h2:=qw l;unfold np at h2;rw[cC]at this;simp at this;omega
  .intro h;exact aat l x (h aC)
def Q5(L:List Nat)(n:Nat)(hn:n<L.length)(h0:L[n]=0):np (L.take (n+1))=np (L.take n):=by
 unfold np;rw[gq hn,h0,aau]
def Q4(L:List Nat)(n:Nat)(hn:n<L.length)(h0:L[n]≠0):np (L.take (n+1))=n+1:=by
 unfold np;rw[gq hn,aat _ _ h0];simp;omega
def nX.M4{x:Nat}{l:List Nat}(h:nX (x::l)):nX l:=by
 rw[CH]at h ⊢;intro hl;have:=h aH;simp only[dp,fo]at this;have e:(x::l)[l.length]'(aH)=l[l.length-1]:=by
  rw[List.getElem_cons];rw[dif_neg aC]
 rwa[e]at this
def nX.Bi{L:List Nat}(h:nX L)(hl:L≠[]):0<val L:=by
 induction L with
 |nil=>exact absurd rfl hl
 |cons x l ih=>
  simp only[rJ];by_cases rq:l=[]
  .subst rq;have:=(CH _).1 h aH;simp at this;simp;omega
  .have:=ih h.M4 rq;omega
def nX.ext{L M:List Nat}(hL:nX L)(hM:nX M)(kL:iZ L)(kM:iZ M)(h:val L=val M):L=M:=by
 induction L generalizing M with
 |nil=>
  by_cases hm:M=[]
  .exact hm.symm
  .have:=hM.Bi hm;rw[<-h]at this;simp at this
 |cons x l ih=>
  cases M with
  |nil=>have:=hL.Bi aH;rw[h]at this;simp at this
  |cons y m=>
   simp only[rJ]at h;have h1:=kL.head;have h2:=kM.head;have e:x=y:= aC ;subst e;rw[ih hL.M4 hM.M4 kL.tail kM.tail aC]
def ij(n:Nat):List Nat:=if n=0 then[]else n%4294967296::ij (n/4294967296)
termination_by n
decreasing_by exact gP aC aE 
def oV:ij 0=[]:=by rw[ij];rfl
def Fs{n:Nat}(h:n≠0):ij n=n%4294967296::ij (n/4294967296):=by rw[ij,bA h]
def kP(n:Nat):val (ij n)=n:=by
 induction n using Nat.strongRecOn with
 |_ n ih=>
  by_cases h:n=0
  .subst h;rw[oV];rfl
  .rw [Fs h,rJ,ih _ (gP aC aE)];exact eP n 4294967296
def mQ(n:Nat):iZ (ij n):=by
 induction n using Nat.strongRecOn with
 |_ n ih=>
  by_cases h:n=0
  .subst h;rw[oV];exact iZ.nil
  .rw [Fs h];exact iZ.cons (bV _ aE) (ih _ (gP aC aE))
def wW(n:Nat):nX (ij n):=by
 induction n using Nat.strongRecOn with
 |_ n ih=>
  by_cases h:n=0
  .subst h;rw[oV];exact nX.nil
  .rw [Fs h];have h1:=ih _ (gP aC (aE:1<4294967296));unfold nX at h1 ⊢;simp only[iT,h1];by_cases h2:n/4294967296=0
   .rw [h2,oV];have:n%4294967296≠0:= aC ;simp[this]
   .rw [Fs h2]
def sx{L:List Nat}(h:iZ L):iT L=ij (val L):=
 nX.ext (Bf L) (wW _) h.iT (mQ _) (by rw[qZ,kP])
def nX.Gx{L:List Nat}(h:nX L)(k:iZ L):L=ij (val L):=by
 rw[<-sx k];exact h.symm
def WD{n:Nat}:ij n=[]↔n=0:=by
 constructor
 .intro h;have:=kP n;rw[h]at this;exact this.symm
 .rintro rfl;exact oV
def xB{n k:Nat}(h:n<4294967296^k):(ij n).length<=k:=by
 induction k generalizing n with
 |zero=>simp at h;subst h;rw[oV];simp
 |succ k ih=>
  by_cases h0:n=0
  .subst h0;rw[oV];simp
  .rw [Fs h0,dp];have:n/4294967296<4294967296^k:=by
    rw[cS aE];rwa[bS]at h
   have:=ih this;omega
def Hw{n k:Nat}(h:(ij n).length<=k):n<4294967296^k:=by
 have h1:=po (mQ n);rw[kP]at h1;exact ca h1 (b5 aE h)
def iB(n:Nat):Nat:=if n=0 then 0 else n.log2+1
def tE:iB 0=0:=rfl
def mK{n k:Nat}:iB n<=k↔n<2^k:=by
 unfold iB;by_cases h:n=0
 .subst h;simp[bL]
 .rw [bA h,<-Nat.log2_lt h];omega
def yH{n k:Nat}:k<iB n↔2^k<=n:=by
 have:=@mK n k;omega
def Aj{n k:Nat}(h1:2^k<=n)(h2:n<2^(k+1)):iB n=k+1:=by
 have a:=yH.2 h1;have b:=mK.2 h2;omega
def tv(n:Nat):n<2^iB n:=mK.1 (bF _)
def vP{n:Nat}(h:n≠0):2^(iB n-1)<=n:=by
 have:iB n-1<iB n:=by
  have:iB n≠0:=by unfold iB;simp[h]
  omega
 exact yH.1 this
def pF{n:Nat}(h:n≠0):0<iB n:=by unfold iB;simp[h]
def xS{m n:Nat}(h:m<=n):iB m<=iB n:=mK.2 (cQ h (tv n))
def sC{n:Nat}(h:n≠0)(k:Nat):iB (n*2^k)=iB n+k:=by
 have h1:=tv n;have h2:=vP h;have h3:=pF h;have e:iB n+k=(iB n-1+k)+1:= aC ;rw[e];apply Aj
 .rw [bK];exact bY _ h2
 .rw [<-e,bK];exact dG h1 (bL aE)
def ui(k:Nat):(4294967296:Nat)^k=2^(32*k):=by
 rw[Nat.pow_mul]
def acn{l:List Nat}{x:Nat}(h:iZ (l++[x]))(hx:x≠0):iB (val (l++[x]))=32*l.length+iB x:=by
 rw[wY];simp only[rJ,Bh,cT,cg];have hl:val l<4294967296^l.length:=po (λy hy=>h y (by simp[hy]));rw[ui]at hl ⊢;have h1:=tv x;have h2:=vP hx;have h3:=pF hx;have e:32*l.length+iB x=(32*l.length+(iB x-1))+1:= aC ;rw[e];apply Aj
 .rw [bK];have:=de (2^(32*l.length)) h2;omega
 .rw [<-e,bK];have:=de (2^(32*l.length)) (show x+1<=2^iB x from h1);rw[b9]at this;omega
def lp(a b:Nat):Int:=if a<b then -1 else if b<a then 1 else 0
def L6{L M:List Nat}(kL:iZ L)(hM:nX M)(h:L.length<M.length):val L<val M:=by
 rcases apH M with rfl|⟨m,x,rfl⟩
 .simp at h
 .simp only[apI,cC,fm]at h hM ⊢;have hx:x≠0:=by
   have:=(CH _).1 hM aH;simpa using this
  have h1:=po kL;rw[wY];have h2:(4294967296:Nat)^L.length<=4294967296^m.length:=b5 aE aC;have h3:(4294967296:Nat)^m.length*1<=4294967296^m.length*val [x]:=de _ aN;omega
def aod{L M:List Nat}(kL:iZ L)(i:Nat)(hi:i<L.length)(hlen:L.length=M.length)(ahc:L.drop (i+1)=M.drop (i+1))(iK:L[i]<M[i]'(aC)):val L<val M:=by
 rw[F0 L (i+1) aC,F0 M (i+1) aC,ahc,CJ L i hi,CJ M i aC];have h1:=po (kL.take i);rw[cF,dF aC]at h1;have h2:=de (4294967296^i) (show L[i]+1<=M[i]'(aC)from iK);rw[b9]at h2;omega
def aof(L:List Nat)(k:Nat)(h:iZ L):val (L.drop k)=val L/2^(32*k):=by
 rw[I0 h,ui]
def rI(s:Nat):List Nat->List Nat
 | []=>[]
 |x::l=>((x+4294967296*l.getD 0 0)/2^s)%4294967296::rI s l
def LK(s:Nat)(L:List Nat):(rI s L).length=L.length:=by
 induction L with
 |nil=>rfl
 |cons x l ih=>simp[rI,ih]
def ZP(s:Nat)(L:List Nat)(i:Nat)(h:i<L.length):(rI s L)[i]? = some (((L[i]+4294967296*L.getD (i+1) 0)/2^s)%4294967296):=by
 induction L generalizing i with
 |nil=>simp at h
 |cons x l ih=>
  cases i with
  |zero=>simp[rI]
  |succ i=>
   simp only[dp]at h;simp only[rI,apJ,ih i aC,dX];congr 1
def Cj(s:Nat)(L:List Nat):iZ (rI s L):=by
 induction L with
 |nil=>exact iZ.nil
 |cons x l ih=>exact iZ.cons (bV _ aE) ih
def aog{L:List Nat}(h:iZ L)(s:Nat)(hs:s<32):val (rI s L)=val L/2^s:=by
 induction L with
 |nil=>simp[rI]
 |cons x l ih=>
  have e:32=s+(32-s):= aC ;have e2:(4294967296:Nat)=2^s*2^(32-s):=by rw[<-bK,<-e]
  have hp:0<2^s:=bL aE;have hx:=h.head;simp only[rI,rJ,ih h.tail];generalize hv:val l=v;have hh:l.getD 0 0=v%4294967296:=by
   rw[<-hv];cases l with
   |nil=>simp
   |cons y m=>
    have:=h.tail.head;simp[rJ];omega
  rw[hh];have f1:(x+4294967296*(v%4294967296))/2^s=x/2^s+2^(32-s)*(v%4294967296):=by
   rw[show x+4294967296*(v%4294967296)=x+2^s*(2^(32-s)*(v%4294967296))by rw[<-bO,<-e2],fF _ _ hp]
  have f2:(x+4294967296*v)/2^s=x/2^s+2^(32-s)*v:=by
   rw[show x+4294967296*v=x+2^s*(2^(32-s)*v)by rw[<-bO,<-e2],fF _ _ hp]
  rw[f1,f2];have qH:x/2^s<2^(32-s):=by
   rw[cS hp,bT,<-e2];exact hx
  generalize x/2^s=q at qH ⊢;have g1:(4294967296:Nat)=2^(32-s)*2^s:=by rw[bT];exact e2
  have g2:v=2^s*(v/2^s)+v%2^s:=(c9 v (2^s)).symm;have g3:(q+2^(32-s)*(v%4294967296))%4294967296=q+2^(32-s)*(v%2^s):=by
   have k1:v%4294967296%2^s=v%2^s:=by
    rw[e2,Nat.mod_mul_right_mod]
   have k2:(v%4294967296)=2^s*(v%4294967296/2^s)+v%2^s:=by
    rw[<-k1];exact(c9 _ _).symm
   conv=>lhs;rw[k2]
   rw[b9,<-bO,<-g1];rw[(aC:q+(4294967296*(v%4294967296/2^s)+2^(32-s)*(v%2^s))=(q+2^(32-s)*(v%2^s))+4294967296*(v%4294967296/2^s)),eN];apply cH;have:v%2^s+1<=2^s:=bV _ hp;have:=de (2^(32-s)) this;rw[<-g1,b9]at this;omega
  rw[g3]
  conv=>rhs;rw[g2,b9,<-bO,<-g1]
  omega
def L7{L:List Nat}(h:iZ L)(n:Nat):val (rI (n%32) (L.drop (n/32)))=val L/2^n:=by
 rw[aog (h.drop _) _ (bV _ aE),aof _ _ h,dL,<-bK];congr 2;omega
def QT{out a:List Nat}{i c s n0:Nat}(hi:i<a.length)(hlen:out.length=n0+i)
 (h:val out+4294967296^(n0+i)*c=val (a.take i)*2^s*4294967296^n0):
 val (out++[(a[i]*2^s+c)%4294967296])+4294967296^(n0+(i+1))*((a[i]*2^s+c)/4294967296)=val (a.take (i+1))*2^s*4294967296^n0:=by
 rw[wY,CJ a i hi,hlen];simp only[rJ,Bh,cT,cg];generalize hx:a[i]*2^s+c=x;have e:=eP x 4294967296;have p:4294967296^(n0+(i+1))=4294967296^(n0+i)*4294967296:=by rw[<-dq,bS]
 rw[p,dq,bO (4294967296^(n0+i)),<-b9,e,<-hx,b9,<-dq,Nat.add_right_comm,h,cr,cr];congr 1;rw[bK]
 ac_rfl
def xN(b:List Nat)(i:Nat):val (b.take (i+1))=val (b.take i)+4294967296^i*b.getD i 0:=by
 by_cases hi:i<b.length
 .rw [CJ b i hi,bE,bJ hi];rfl
 .rw [cW aC,cW aC,bE,cz aC];simp
def apj{out a b:List Nat}{i c y d c':Nat}(hi:i<a.length)(hlen:out.length=i)
 (hb:val (b.take (i+1))=val (b.take i)+4294967296^i*y)
 (hd:d+y+c=a[i]+4294967296*c')
 (h:val out+val (b.take i)=val (a.take i)+4294967296^i*c):
 val (out++[d])+val (b.take (i+1))=val (a.take (i+1))+4294967296^(i+1)*c':=by
 rw[wY,CJ a i hi,hb,hlen];simp only[rJ,Bh,cT,cg];have e:=congrArg (4294967296^i * ·) hd;simp only[b9,<-bO]at e;rw[bS];omega
def kn(n:Nat):Nat:=if n=0 then 0 else(Nat.gcd n (2^(Nat.log2 n+1))).log2
def M6{m:Nat}(hm:m%2=1)(k:Nat):kn (m*2^k)=k:=by
 have h0:m*2^k≠0:=dY aC (eR (bL aE));unfold kn;rw[bA h0];have hk:k<=Nat.log2 (m*2^k):=by
  apply ct;intro h;have h1:m*2^k<2^k:=(Nat.log2_lt h0).1 aC;have:1*2^k<=m*2^k:=bY _ aC;omega
 obtain⟨j,hj⟩:∃ j,Nat.log2 (m*2^k)+1=j+k:=⟨Nat.log2 (m*2^k)+1-k,aC⟩
 rw[hj,bK,Nat.gcd_mul_right];have hg:Nat.gcd m (2^j)=1:=by
  have hc:Nat.Coprime m 2:=by
   unfold Nat.Coprime;rw[Nat.gcd_comm,Nat.gcd_rec,hm];rfl
  exact Nat.Coprime.pow_right j hc
 rw[hg,cv,Nat.log2_two_pow]
def M7{n:Nat}(h:n%2=1):kn n=0:=by have:=M6 h 0;simpa using this
def anV{n:Nat}(h:n≠0):∃ m k,m%2=1/\n=m*2^k:=by
 induction n using Nat.strongRecOn with
 |_ n ih=>
  by_cases h2:n%2=1
  .exact ⟨n,0,h2,aH⟩
  .obtain ⟨m,k,hm,he⟩:=ih (n/2) aC aC ;exact⟨m,k+1,hm,by rw[bS,<-bO,<-he];omega⟩
def SW{n:Nat}(h:n≠0)(h2:n%2=0):kn n=kn (n/2)+1:=by
 obtain⟨m,k,hm,he⟩:=anV (n:=n/2) aC;have e:n=m*2^(k+1):=by rw[bS,<-bO,<-he];omega
 rw[he,M6 hm]
 conv=>lhs;rw[e]
 exact M6 hm _
def CY{n:Nat}(h:n≠0):∃ m,m%2=1/\n=m*2^kn n:=by
 induction n using Nat.strongRecOn with
 |_ n ih=>
  by_cases h2:n%2=1
  .exact ⟨n,h2,by rw[M7 h2];omega⟩
  .obtain ⟨m,hm,he⟩:=ih (n/2) aC aC ;refine⟨m,hm,?_⟩;rw[SW h aC,bS,<-bO,<-he];omega
def An{m:Nat}(hm:m%2=1)(k:Nat):kn (m*2^k)=k:=by
 induction k with
 |zero=>rw[cU,cI,M7 hm]
 |succ k ih=>
  have hp:0<m*2^k:=gr aC (bL aE);have e:m*2^(k+1)=m*2^k*2:=by rw[bS,bO]
  rw[e,SW aC aC,ev _ aE,ih]
def Fy{n:Nat}(h:n≠0):(n/2^kn n)%2=1:=by
 obtain⟨m,hm,he⟩:=CY h;have:n/2^kn n=m:=by conv=>lhs;rw[he,An hm];rw[ev _ (bL aE)]
 rw[this];exact hm
def Gt{n:Nat}(h:n≠0):(n/2^kn n)*2^kn n=n:=by
 obtain⟨m,hm,he⟩:=CY h;have:n/2^kn n=m:=by conv=>lhs;rw[he,An hm];rw[ev _ (bL aE)]
 rw[this];exact he.symm
def K9{n:Nat}(h:n≠0):2^kn n<=n:=by
 obtain⟨m,hm,he⟩:=CY h
 conv=>rhs;rw[he]
 exact gQ _ aC 
def adQ{x v:Nat}(hx:x≠0)(iK:x<4294967296):kn (x+4294967296*v)=kn x:=by
 obtain⟨m,hm,he⟩:=CY hx;have hk:kn x<32:=by
  have h1:=K9 hx;rcases gv (kn x) 32 with h|h
  .exact h
  .have:=b5 (n:=2) aE h;have e:(2:Nat)^32=4294967296:= aE ;omega
 have e:x+4294967296*v=(m+2^(32-kn x)*v)*2^kn x:=by
  rw[cr,<-he,gR,<-bK,gS aC]
 conv=>lhs;rw[e]
 apply An;have:2^(32-kn x)=2*2^(31-kn x):=by rw[(aC:32-kn x=(31-kn x)+1),bS,bT]
 rw[this,bO,eN];exact hm
def adR{v:Nat}(hv:v≠0)(k:Nat):kn (2^k*v)=k+kn v:=by
 obtain⟨m,hm,he⟩:=CY hv
 conv=>lhs;rw[he,<-bO,bT (2^k),bO,<-bK]
 exact An hm _
def I1{L:List Nat}:val L=0↔∀ x,x ∈ L->x=0:=by
 induction L with
 |nil=>simp
 |cons x l ih=>
  simp only[rJ,dw];constructor
  .intro h y hy;rcases hy with rfl|hy
   .omega
   .exact ih.1 aC y hy
  .intro h;have h1:=h x (.inl rfl);have h2:=ih.2 (λy hy=>h y (.inr hy));omega
def adS{L:List Nat}(h:iZ L)(i:Nat)(hi:i<L.length)(h0:∀ j,(hj:j<i)->L[j]=0)(hx:L[i]≠0):kn (val L)=32*i+kn L[i]:=by
 rw[F0 L i aC];have:val (L.take i)=0:=by
  rw[I1];intro y hy;obtain⟨j,hj,rfl⟩:=List.getElem_of_mem hy;rw[cF]at hj;rw[List.getElem_take];exact h0 j aC 
 rw[this,cD,ui,fG hi,rJ];rw[adR aC,adQ hx (h.get hi)]
def Ra{L:List Nat}{k x:Nat}(hk:k<L.length):val (L.set k x)+4294967296^k*L[k]=val L+4294967296^k*x:=by
 induction L generalizing k with
 |nil=>simp at hk
 |cons y l ih=>
  cases k with
  |zero=>simp;omega
  |succ k=>
   simp only[dp]at hk;have:=ih (k:=k) aC;simp only[List.set_cons_succ,rJ,dX,bS];have e1:(4294967296^k*4294967296*l[k])=4294967296*(4294967296^k*l[k]):=by ac_rfl
   have e2:(4294967296^k*4294967296*x)=4294967296*(4294967296^k*x):=by ac_rfl
   rw[e1,e2];omega
def iZ.set{L:List Nat}(h:iZ L)(k:Nat){x:Nat}(hx:x<4294967296):iZ (L.set k x):=by
 intro y hy;rcases List.mem_or_eq_of_mem_set hy with hy|rfl
 .exact h _ hy
 .exact hx
structure Dy where
 neg:Bool
 m:Nat
 e:Int
def Dy.oe(d:Dy):Prop:=(d.m=0/\d.neg=false/\d.e=0)\/d.m%2=1
def canon(neg:Bool)(m:Nat)(e:Int):Dy:=if m=0 then⟨false,0,0⟩else⟨neg,m/2^kn m,e+kn m⟩
def ux(neg:Bool)(m:Nat)(e:Int):(canon neg m e).oe:=by
 unfold canon;split
 .exact .inl ⟨rfl,rfl,rfl⟩
 .rename_i h;exact .inr (Fy h)
def Dy.oe.Jw{d:Dy}(h:d.oe):canon d.neg d.m d.e=d:=by
 obtain⟨s,m,e⟩:=d;rcases h with⟨h1,h2,h3⟩|h
 .simp only at h1 h2 h3;subst h1 h2 h3;rfl
 .simp only at h ⊢;unfold canon;rw[bA aC,M7 h];simp
def oR(d:Dy):Prop:=d.m=0\/iB d.m<=4096 /\ -16384<=d.e/\d.e<=16384/\(iB d.m:Int)+d.e<=16384
instance (d:Dy):Decidable (oR d):=by unfold oR;infer_instance
structure Dy.ix(d:Dy):Prop where
 canon:d.oe
 range:oR d
def iS:Dy:=⟨false,0,0⟩
def tC:iS.ix:=⟨.inl ⟨rfl,rfl,rfl⟩,.inl rfl⟩
def Dy.jq(d:Dy):Int:=if d.m=0 then 0 else if d.neg then -1 else 1
def Dy.iI(d:Dy):Int:=if d.m=0 then 0 else iB d.m+d.e
def Dy.kG(d:Dy)(e:Int):Nat:=d.m*2^(d.e-e).toNat
def Dy.num(d:Dy)(e:Int):Int:=if d.neg then -(d.kG e:Int)else d.kG e
def jf(a b:Dy):Int:=
 if a.num (min a.e b.e)<b.num (min a.e b.e)then -1 else if b.num (min a.e b.e)<a.num (min a.e b.e)then 1 else 0
def AT{d:Dy}(h:d.m≠0)(e:Int):0<d.kG e:=gr aC (bL aE)
def WX{d:Dy}(h:d.m=0)(e:Int):d.kG e=0:=by unfold Dy.kG;rw[h,dc]
def Sc{d:Dy}(h:d.m≠0){e:Int}(he:e<=d.e):(iB (d.kG e):Int)=iB d.m+d.e-e:=by
 unfold Dy.kG;rw[sC h];omega
def WW{a b:Dy}(ha:a.m≠0)(hb:b.m≠0){e:Int}(h1:e<=a.e)(h2:e<=b.e)(h:a.iI<b.iI):a.kG e<b.kG e:=by
 have k1:=Sc ha h1;have k2:=Sc hb h2;unfold Dy.iI at h;rw[bA ha,bA hb]at h;rcases gv (a.kG e) (b.kG e)with h'|h'
 .exact h'
 .have:=xS h';omega
def uy(a b:Dy):Int:=lp (a.kG (min a.e b.e)) (b.kG (min a.e b.e))
def SO{a b:Dy}(ha:a.m≠0)(hb:b.m≠0)(h:a.iI<b.iI):uy a b = -1:=by
 unfold uy lp;rw[bB (WW ha hb (Int.min_le_left _ _) (Int.min_le_right _ _) h)]
def SN{a b:Dy}(ha:a.m≠0)(hb:b.m≠0)(h:b.iI<a.iI):uy a b=1:=by
 have:=WW hb ha (Int.min_le_right a.e b.e) (Int.min_le_left _ _) h;unfold uy lp;rw[bA aC,bB this]
def FP(d:Dy):(d.m=0/\d.jq=0)\/(d.m≠0/\d.neg=true/\d.jq = -1)\/(d.m≠0/\d.neg=false/\d.jq=1):=by
 unfold Dy.jq;by_cases h:d.m=0
 .exact .inl ⟨h,bB h⟩
 .cases hn:d.neg
  .exact .inr (.inr ⟨h,rfl,by simp[h]⟩)
  .exact .inr (.inl ⟨h,rfl,by simp[h]⟩)
def XL{d:Dy}(e:Int):(d.jq=0->d.num e=0)/\(d.jq = -1->d.num e<0/\d.num e = -(d.kG e))/\(d.jq=1->0<d.num e/\d.num e=d.kG e):=by
 unfold Dy.num;rcases FP d with⟨h1,h2⟩|⟨h1,h2,h3⟩|⟨h1,h2,h3⟩
 .rw [h2,WX h1];simp
 .have:=AT h1 e;rw[h3,h2];simp;omega
 .have:=AT h1 e;rw[h3,h2];simp;omega
def EC(a b:Dy):jf a b=if a.jq<b.jq then -1 else if b.jq<a.jq then 1 else if a.jq=0 then 0 else a.jq*uy a b:=by
 unfold jf uy lp;generalize min a.e b.e=e;obtain⟨p1,p2,p3⟩:=XL (d:=a) e;obtain⟨q1,q2,q3⟩:=XL (d:=b) e;generalize a.num e=x at *
 generalize b.num e=y at *
 generalize a.kG e=x' at *
 generalize b.kG e=y' at *
 have ha:a.jq=0\/a.jq = -1\/a.jq=1:=by rcases FP a with⟨_,h⟩|⟨_,_,h⟩|⟨_,_,h⟩<;>simp[h]
 have hb:b.jq=0\/b.jq = -1\/b.jq=1:=by rcases FP b with⟨_,h⟩|⟨_,_,h⟩|⟨_,_,h⟩<;>simp[h]
 generalize a.jq=s at *
 generalize b.jq=t at *
 rcases ha with rfl|rfl|rfl<;>rcases hb with rfl|rfl|rfl<;>simp at p1 p2 p3 q1 q2 q3<;>(repeat' split)<;>omega
def kR(z:Int)(e:Int):Dy:=canon (decide (z<0)) z.natAbs e
def iH(a b:Dy):Dy:=
 if a.m=0 then b else if b.m=0 then a else kR (a.num (min a.e b.e)+b.num (min a.e b.e)) (min a.e b.e)
def iO(d:Dy):Dy:=⟨!d.neg&&decide (d.m≠0),d.m,d.e⟩
def PL{d:Dy}(h:d.oe):(iO d).oe:=by
 rcases h with⟨h1,h2,h3⟩|h
 .exact .inl ⟨h1,by simp[iO,h1],h3⟩
 .exact .inr h
def wN{d:Dy}(h:d.ix):(iO d).ix:=⟨PL h.canon,h.range⟩
def amI(n:Bool)(m:Nat)(e:Int):(canon n m e).jq=if m=0 then 0 else if n then -1 else 1:=by
 unfold canon;by_cases h:m=0
 .simp [h,Dy.jq]
 .have:(canon n m e).m≠0:=by unfold canon;rw[bA h];have:=Fy h;simp only;omega
  unfold canon at this;rw[bA h]at this ⊢;unfold Dy.jq;rw[bA this,bA h]
def amJ(z e:Int):(kR z e).jq=if z<0 then -1 else if 0<z then 1 else 0:=by
 unfold kR;rw[amI];by_cases h:z<0
 .rw [bA aC,bB h];simp[h]
 .rw [bA h];by_cases h0:0<z
  .rw [bA aC,bB h0];simp[h]
  .rw [bA h0,bB aC]
def XK(d:Dy)(e:Int)(hd:d.m≠0):(iO d).num e = -(d.num e):=by
 unfold Dy.num iO Dy.kG;cases d.neg<;>simp[hd]
def adG{a b:Dy}(ha:a.m≠0)(hb:b.m≠0):(iH a (iO b)).jq=jf a b:=by
 unfold iH;rw[bA ha,bA (by simpa[iO]using hb),amJ];have e1:(iO b).e=b.e:=rfl;rw[e1,XK _ _ hb];unfold jf;generalize a.num _=x;generalize b.num _=y
 repeat' split
 all_goals omega
def adI{a b:Dy}(ha:a.m≠0)(hb:b.m≠0)(hs:a.jq=b.jq)(h:a.iI<b.iI):jf a b = -a.jq:=by
 rw[EC,bA aC,bA aC,SO ha hb h];split<;>omega
def adH{a b:Dy}(ha:a.m≠0)(hb:b.m≠0)(hs:a.jq=b.jq)(h:b.iI<a.iI):jf a b=a.jq:=by
 rw[EC,bA aC,bA aC,SN ha hb h];split<;>omega
def ED(a b:Dy):jf a b=if a.jq≠b.jq then(if a.jq<b.jq then -1 else 1)else if a.jq=0 then 0 else
 if a.iI≠b.iI then(if(a.iI<b.iI)=(0<a.jq)then -1 else 1)else(iH a (iO b)).jq:=by
 by_cases hs:a.jq=b.jq
 .rw [bA (by simpa using hs)];by_cases h0:a.jq=0
  .rw [bB h0,EC,bA aC,bA aC,bB h0]
  .rw [bA h0];have ha:a.m≠0:=by intro h;exact h0 (by unfold Dy.jq;rw[bB h])
   have hb:b.m≠0:=by intro h;exact h0 (by rw[hs];unfold Dy.jq;rw[bB h])
   have hc:a.jq = -1\/a.jq=1:=by rcases FP a with⟨_,h⟩|⟨_,_,h⟩|⟨_,_,h⟩<;>simp_all
   by_cases ht:a.iI=b.iI
   .rw [bA (by simpa using ht),adG ha hb]
   .rw [bB (by simpa using ht)];rcases Int.lt_or_gt_of_ne ht with h|h
    .rw [adI ha hb hs h];rcases hc with h'|h'<;>rw[h']<;>simp[h]
    .rw [adH ha hb hs h];rcases hc with h'|h'<;>rw[h']<;>simp[(aC:¬a.iI<b.iI)]
 .rw [bB (by simpa using hs),EC];by_cases h:a.jq<b.jq
  .rw [bB h,bB h]
  .rw [bA h,bA h,bB aC]
def abk{out:List Nat}{k c x y P Q P' Q':Nat}(hlen:out.length=k)(h:val out+4294967296^k*c=P+Q)
 (hP:P'=P+4294967296^k*x) (hQ:Q'=Q+4294967296^k*y):
 val (out++[(c+x+y)%4294967296])+4294967296^(k+1)*((c+x+y)/4294967296)=P'+Q':=by
 rw[wY,hlen,hP,hQ];simp only[rJ,Bh,cT,cg];generalize hx:c+x+y=z;have e:=eP z 4294967296;rw[bS,dq,bO,<-b9,e,<-hx,b9,b9];omega
def am3{out:List Nat}{k c x y d c' P Q P' Q':Nat}(hlen:out.length=k)(h:val out+Q=P+4294967296^k*c)
 (hP:P'=P+4294967296^k*x) (hQ:Q'=Q+4294967296^k*y) (hd:d+y+c=x+4294967296*c'):
 val (out++[d])+Q'=P'+4294967296^(k+1)*c':=by
 rw[wY,hlen,hP,hQ];simp only[rJ,Bh,cT,cg];have e:=congrArg (4294967296^k * ·) hd;simp only[b9,<-bO]at e;rw[bS];omega
def Z6{out:List Nat}{n c P Q:Nat}(ho:iZ out)(hlen:out.length=n)(h:val out+Q=P+4294967296^n*c)(hle:Q<=P):c=0/\val out=P-Q:=by
 have h1:=po ho;rw[hlen]at h1;rcases c with _|c
 .exact ⟨rfl,aC⟩
 .exfalso;have:4294967296^n*1<=4294967296^n*(c+1):=de _ aC;omega
def aci{L:List Nat}(h:iZ L)(k:Nat)(hk:k/32<L.length):val L/2^k%2=L[k/32]/2^(k%32)%2:=by
 have e:k=32*(k/32)+k%32:= aC 
 conv=>lhs;rw[e,bK,<-dL,<-ui,<-I0 h,fG hk,rJ]
 have hs:k%32<32:=bV _ aE;have e2:(4294967296:Nat)=2^(k%32)*(2*2^(31-k%32)):=by
  rw[<-Nat.pow_succ',<-bK,(aC:k%32+(31-k%32).succ=32)]
 conv=>lhs;rw[e2,bO,fF _ _ (bL aE),bO,eN]
def ach{n k:Nat}(h:n≠0)(hk:k<kn n):n/2^k%2=0:=by
 obtain⟨m,hm,he⟩:=CY h;generalize kn n=c at *
 rw[he,(aC:c=k+(c-k)),bK,<-bO,gR,ev _ (bL aE),(aC:c-k=(c-k-1)+1),bS,<-bO,gT]
def acg{n:Nat}(h:n≠0):n/2^kn n%2=1:=Fy h
def Gj{L:List Nat}(h:iZ L)(h0:val L≠0):kn (val L)/32<L.length:=by
 have h1:=K9 h0;have h2:=po h;rw[ui]at h2;have h3:2^kn (val L)<2^(32*L.length):=cQ h1 h2;have:=(Nat.pow_lt_pow_iff_right (aE:1<2)).1 h3;omega
end Go.Proofs.YtgdahmmlddfimaaGreatDoor.Fp
namespace Go.Proofs.YtgdahmmlddfimaaGreatDoor
open Go.RowKit Fp
structure Sl(w:World)(A:Option Addr)(c:Nat)(L:List Nat):Prop where
 cap:L.length<=c
 rO:c<=9223372036854775807
 ok:iZ L
 zL:A=none->c=0
 cell:∀ (i x:Nat),L[i]? = some x->∃ b o,A=some ⟨b,o,none⟩/\b<w.heap.size/\w.cell? ⟨b,o+i,none⟩=some (.int .u32 (x:Int))
def acq(a:Addr)(n:Nat):(a.add n).block=a.block:=by unfold Addr.add;split<;>rfl
section
variable {w w':World} {A:Option Addr} {c:Nat} {L:List Nat}
def Sl.mS(h:Sl w A c L){i:Nat}(hi:i<L.length):∃ b o,A=some ⟨b,o,none⟩/\b<w.heap.size/\w.cell? ⟨b,o+i,none⟩=some (.int .u32 (L[i]:Int)):=
 h.cell i _ (bJ hi)
def Sl.nil(w:World):Sl w none 0 []:=⟨bF _,aE,iZ.nil,λ_=>rfl,λi x h=>by simp at h⟩
def Sl.below(h:Sl w A c L)(hb:Below w.heap.size w w'):Sl w' A c L:=
 ⟨h.cap,h.rO,h.ok,h.zL,λi x hx=>by
  obtain⟨b,o,e,h1,h2⟩:=h.cell i x hx;exact⟨b,o,e,ca h1 hb.size,(hb.cell h1).trans h2⟩⟩
def Sl.alloc(h:Sl w A c L)(o:Obj):Sl (w.alloc o) A c L:=h.below ((Below.refl _ _).alloc (bF _) _)
def Sl.drew(h:Sl w A c L):Sl w.drew A c L:=h.below ((Below.refl _ _).drew)
def Sl.take(h:Sl w A c L)(n:Nat):Sl w A c (L.take n):=
 ⟨by have:=h.cap;rw[cF];omega,h.rO,h.ok.take n,h.zL,λi x hx=>h.cell i x (by
  rw[dM]at hx;split at hx
  .exact hx
  .cases hx)⟩
def Sl.len(h:Sl w A c L):L.length<=9223372036854775807:=bH h.cap h.rO
def Sl.eqv{L':List Nat}(h:Sl w A c L)(e:L=L'):Sl w A c L':=e▸h
end
def CP(b o i:Nat):(⟨b,o,none⟩:Addr).add i=⟨b,o+i,none⟩:=by
 unfold Addr.add;split
 .rename_i h0;rw[h0];rfl
 .simp
abbrev iV(w w':World):Prop:=Below w.heap.size w w'
def iV.trans{a b c:World}(h:iV a b)(k:iV b c):iV a c:=Below.trans h (k.mono h.size)
def iV.alloc(w:World)(o:Obj):iV w (w.alloc o):=(Below.refl _ _).alloc (bF _) _
def iV.drew(w:World):iV w w.drew:=(Below.refl _ _).drew
def iV.refl(w:World):iV w w:=Below.refl _ _
def Lv{A:Option Addr}{n m c:Nat}(h:n=m):Ending.returned (.slice A n c) = .returned (.slice A m c):=by rw[h]
def pz{k:IntKind}{a b:Int}(h:a=b):Ending.returned (.int k a) = .returned (.int k b):=by rw[h]
def Lu{a b:Bool}(h:a=b):Ending.returned (.bool a) = .returned (.bool b):=by rw[h]
def vU(w:World)(L:List Nat)(e:Ending)(w':World):Prop:=∃ A c,e = .returned (.slice A L.length c)/\Sl w' A c L/\iV w w'
def Ek(w:World)(L:List Nat)(n:Int)(e:Ending)(w':World):Prop:=∃ A c,e = .returned (.tuple #[.slice A L.length c,.int .i64 n])/\Sl w' A c L/\iV w w'
def Tb(w:World):Prop:=TabAt 0 Lib.deBruijn32tab w
def Tb.below{w w':World}(h:Tb w)(hb:iV w w'):Tb w':=λj hj=>by
 have h1:=h j hj;rw[hb.cell (block_lt_of_cell h1)];exact h1
def Tb.alloc{w:World}(h:Tb w)(o:Obj):Tb (w.alloc o):=h.below (iV.alloc _ _)
def acf(x:Nat)(h:x<4294967296):Lib.bitLen x=iB x:=by
 induction x using Nat.strongRecOn with
 |_ x ih=>
  by_cases h0:x=0
  .subst h0;rfl
  .rw [Lib.bitLen_half x h0 aC,ih (x/2) aC aC];by_cases h1:x/2=0
   .have:x=1:= aC ;subst this;rfl
   .have e1:=vP h1;have e2:=tv (x/2);have e3:=pF h1;generalize iB (x/2)=k at *
    obtain⟨j,rfl⟩:∃ j,k=j+1:=⟨k-1,aC⟩
    rw[fo]at e1;rw[Nat.add_comm];refine(Aj ?_ ?_).symm
    .rw [bS];omega
    .rw [bS];omega
def adT(x:Nat)(h0:x≠0)(h:x<4294967296):Lib.ctz 32 x=kn x:=by
 unfold Lib.ctz;rw[bA h0];obtain⟨m,hm,_⟩:=Lib.ctzFrom_spec 32 x aC h
 conv=>rhs;rw[hm,bT]
 exact(An aC _).symm
def pn(L:List Nat):List Value:=L.map λ(n:Nat)=>Value.int .u32 (n:Int)
def an2{L:List Nat}{j:Nat}{u:Value}(h:(pn L)[j]? = some u):∃ n,L[j]? = some n/\u = .int .u32 (n:Int):=by
 unfold pn at h;rw[cG]at h;obtain⟨n,hn,rfl⟩:=ch.1 h;exact⟨n,hn,rfl⟩
def an1(L M:List Nat):pn (L++M)=pn L++pn M:=gU
def an3(L:List Nat):∀ u ∈ pn L,u.oneCell'=true:=by
 intro u hu;obtain⟨n,_,rfl⟩:=dz.1 hu;rfl
structure Ow(w:World)(base:Nat)(v:Value)(L:List Nat):Prop where
 row:w.ownsRow base 171 1 v L.length (pn L)
 ok:iZ L
def Ow.sl{w:World}{base:Nat}{v:Value}{L:List Nat}(h:Ow w base v L):∃ A c,v = .slice A L.length c/\Sl w A c L:=by
 have hr:=h.row;rcases hr.2 with⟨rfl,h0⟩|⟨g,cap,cur,rfl,hb,hg,ph,oo,mX,He⟩
 .have:L=[]:=dH h0;subst this;exact⟨none,0,rfl,Sl.nil w⟩
 .refine ⟨_,_,rfl,ph,(by simpa[maxLen]using oo),h.ok,(λh=>by cases h),λi x hx=>⟨_,_,rfl,(dr.1 hg).1,?_⟩⟩;have h:=hr.cells (g:=g) rfl i (.int .u32 (x:Int)) (by unfold pn;rw[cG,hx];rfl);rw[CP]at h;exact h
def Ow.nil(w:World)(base:Nat):Ow w base (.slice none 0 0) []:=⟨World.ownsRow_nil w base _ _,iZ.nil⟩
def Ow.alloc{w:World}{base:Nat}{v:Value}{L:List Nat}(h:Ow w base v L)(o:Obj):Ow (w.alloc o) base v L:=⟨h.row.alloc o,h.ok⟩
def Ow.empty(w:World)(base:Nat)(hb:base<=w.heap.size):Ow (w.alloc (.cells #[] 171)) base (.slice (some ⟨w.heap.size,0,none⟩) 0 0) []:=
 ⟨World.ownsRow_made w #[] 0 hb aE rfl,iZ.nil⟩
def sN{w:World}{n:Nat}(h:n<=w.heap.size)(o:Obj):n<=(w.alloc o).heap.size:= aN 
def Sl.one(w:World)(x:Nat)(hx:x<4294967296):Sl (w.alloc (.cells #[.int .u32 x] 171)) (some ⟨w.heap.size,0,none⟩) 1 [x]:=
 ⟨bF _,aE,iZ.cons hx iZ.nil,(λh=>by cases h),λi y hy=>by
  obtain⟨h1,h2⟩:=cE.1 hy;obtain rfl:i=0:=by simp at h1;omega
  simp at h2;subst h2;refine⟨_,_,rfl,aH,?_⟩;exact World.cell?_alloc_at _ _ _ _ rfl⟩
def Sl.vI(w:World)(y:Int)(x:Nat)(e:y=(x:Int))(hx:x<4294967296):Sl (w.alloc (.cells #[.int .u32 y] 171)) (some ⟨w.heap.size,0,none⟩) 1 [x]:=by
 subst e;exact Sl.one w x hx
def O7:(prog.info? 171).map (λi=>(i.zero,i.size,i.bytes))=some (some (.int .u32 0),1,4):= aF 
def tA{ig:Array Oper}{rest:List Oper}{o:Oper}{a:Act}{Q:Exit->Act->World->Prop}{w:World}(qS:o.guard=none)(s x:Operand)
 (ho:o.op = .call { callee:=.builtin .append,args:=#[s,x],argTypes:=#[29,29] })
 (base:Nat) (v:Value) (L:List Nat) (hs:a.eval s=v) (mi:Ow w base v L)
 (A:Option Addr) (m c:Nat) (M:List Nat) (hx:a.eval x = .slice A m c) (hm:m=M.length) (hr:Sl w A c M)
 (lL:L.length+M.length<=10000000000) (agJ:base<=w.heap.size)
 (h:∀ v' w',Ow w' base v' (L++M)->w.grownBy w' v.ownBlock->(v'.ownBlock=v.ownBlock\/v'.ownBlock=some w.heap.size)->wpList prog ig Q rest (a.put o.dst v') w'):
 wpList prog ig Q (o::rest) a w:=by
 obtain⟨i,hi,hz,h1,h2⟩:=info_parts O7;subst hm;rcases A with _|ad
 .have hc:=hr.zL rfl;subst hc;have hM:M=[]:=dH (by have:=hr.cap;omega);subst hM;refine wpList_append_own_none qS s x _ ho base _ i 1 underlying29 hi v _ _ hs mi.row hx ?_;have:=h v w (by rw[gw];exact mi) ⟨rfl,rfl,rfl,bF _,λ_ _ _=>rfl⟩ (.inl rfl);exact this
 .refine wpList_append_own_at w qS s x _ ho base _ i _ 1 4 underlying29 hi hz h1 h2 rfl aE v L.length (pn L) hs mi.row ad M.length c (pn M) hx (by simp[pn]) ?_ (an3 M)
   (by simp only[maxLen];omega) aC agJ ?_
  .intro j u hu;obtain⟨n,hn,rfl⟩:=an2 hu;obtain⟨b,o,e,_,hc⟩:=hr.cell j n hn;cases e;rw[CP];exact hc
  .intro v' w' ag7 hg _ qR;exact h v' w' ⟨by rw[cC,an1];exact ag7,mi.ok.append hr.ok⟩ hg qR
def Rw(w:World)(b:Nat)(L:List Nat):Prop:=w.heap[b]? = some (.cells (pn L).toArray 171 (0,0))
section
variable {w w':World} {b:Nat} {L:List Nat}
def Rw.lt(h:Rw w b L):b<w.heap.size:=(dr.1 h).1
def Rw.cell(h:Rw w b L){i x:Nat}(hx:L[i]? = some x):w.cell? ⟨b,i,none⟩=some (.int .u32 (x:Int)):=by
 unfold Rw at h;simp only[World.cell?,h];simp[pn,hx]
def Rw.frozen(h:Rw w b L)(i:Nat):w.frozen? ⟨b,i,none⟩=false:=by
 unfold Rw at h;simp[World.frozen?,h]
def Rw.set(h:Rw w b L)(i x:Nat):Rw (w.setCell ⟨b,i,none⟩ (.int .u32 (x:Int))) b (L.set i x):=by
 unfold Rw at h ⊢;simp only[World.setCell,fH,h];simp[pn,List.map_set]
def Rw.sl(h:Rw w b L)(hk:iZ L)(hl:L.length<=10000000000):Sl w (some ⟨b,0,none⟩) L.length L:=
 ⟨bF _,aC,hk,(λh=>by cases h),λi x hx=>⟨_,_,rfl,h.lt,by
  rw[cD];exact h.cell hx⟩⟩
def Rw.AS(w:World)(n:Nat):Rw (w.alloc (.cells (pn (List.replicate n 0)).toArray 171)) w.heap.size (List.replicate n 0):=heap_alloc_new w _
end
def abi(b i:Nat):(⟨b,0,none⟩:Addr).add i=⟨b,i,none⟩:=by
 unfold Addr.add;split
 .rename_i h0;rw[h0]
 .simp
def Hy(n:Nat)(hn:n<=10000000000)(w:World):
 (Instr.makeSlice 29 (.int .i64 (n:Int)) (.int .i64 (n:Int))).run prog w = .ok (.slice (some ⟨w.heap.size,0,none⟩) n n) (w.alloc (.cells (pn (List.replicate n 0)).toArray 171)):=by
 obtain⟨i,hi,hz,h1,h2⟩:=info_parts O7;have hr:=run_make (P:=prog) w 29 171 i _ underlying29 hi hz .i64 .i64 n n aC aC (by rw[h2];omega) aC;rw[hr,gE,h1,cI];refine congrArg (λcs=>Result.ok (Value.slice (some ⟨w.heap.size,0,none⟩) n n) (w.alloc (.cells cs 171))) ?_;apply Array.ext
 .simp [madeCells,pn]
 .intro i h1 h2;simp[madeCells,pn,Value.cells,dZ]
def yW(w:World)(d:Dy)(e:Ending)(w':World):Prop:=
 ∃ A c,e = .returned (.agg #[.bool d.neg,.slice A (ij d.m).length c,.int .i64 d.e])/\Sl w' A c (ij d.m)/\iV w w'
def Ae(w:World)(d:Dy)(n:Int)(e:Ending)(w':World):Prop:=
 ∃ A c,e = .returned (.tuple #[.agg #[.bool d.neg,.slice A (ij d.m).length c,.int .i64 d.e],.int .i64 n])/\Sl w' A c (ij d.m)/\iV w w'
def Ac(w:World)(g:Nat):Prop:=∀ o x,w.cell? ⟨g,o,none⟩≠some (.int .u32 x)
def Sl.C5{w:World}{A:Option Addr}{c:Nat}{L:List Nat}(h:Sl w A c L){g i:Nat}(hg:Ac w g)(u:Value):Sl (w.setCell ⟨g,i,none⟩ u) A c L:=
 ⟨h.cap,h.rO,h.ok,h.zL,λj x hx=>by
  obtain⟨b,o,e,h1,h2⟩:=h.cell j x hx;refine⟨b,o,e,by simpa[World.setCell]using h1,?_⟩;rw[World.cell?_setCell_other w _ _ u]
  .exact h2
  .intro e';simp only[Addr.mk.injEq]at e';exact hg (o+j) x (by rw[e'.1];exact h2)⟩
def Ac.Fz{w:World}{g:Nat}{cs:Array Value}{t:TypeId}{fr:Nat×Nat}(h:w.heap[g]? = some (.cells cs t fr))(hc:∀ (i:Nat) (x:Int),cs[i]? ≠ some (.int .u32 x)):Ac w g:=λo x e=>by
 simp only[World.cell?,h]at e;simp at e;exact hc o x (by simpa using e)
def j8(w:World)(g:Nat)(s:Bool)(A:Option Addr)(n c:Nat)(e:Int):Prop:=w.heap[g]? = some (.cells #[.bool s,.slice A n c,.int .i64 e] 31 (0,0))
section
variable {w w':World} {g n c:Nat} {s:Bool} {A:Option Addr} {e:Int}
def j8.new(W:World)(s:Bool)(A:Option Addr)(n c:Nat)(e:Int):j8 (W.alloc (.cells #[.bool s,.slice A n c,.int .i64 e] 31)) W.heap.size s A n c e:=heap_alloc_new W _
def j8.vG{W:World}{g:Nat}(hg:W.heap.size=g)(s:Bool)(A:Option Addr)(n c:Nat)(e:Int):j8 (W.alloc (.cells #[.bool s,.slice A n c,.int .i64 e] 31)) g s A n c e:=hg▸heap_alloc_new W _
def j8.lt(h:j8 w g s A n c e):g<w.heap.size:=(dr.1 h).1
def j8.ext(h:j8 w g s A n c e)(hb:iV w w'):j8 w' g s A n c e:=(hb.block g h.lt).trans h
def j8.alloc(h:j8 w g s A n c e)(o:Obj):j8 (w.alloc o) g s A n c e:=h.ext (iV.alloc _ _)
def j8.drew(h:j8 w g s A n c e):j8 w.drew g s A n c e:=h
def j8.ng(h:j8 w g s A n c e):Ac w g:=Ac.Fz h (λi x=>by rcases i with _|_|_|i<;>simp)
def j8.c0(h:j8 w g s A n c e):w.cell? ⟨g,0,none⟩=some (.bool s):=by unfold j8 at h;simp[World.cell?,h]
def j8.c1(h:j8 w g s A n c e):w.cell? ⟨g,1,none⟩=some (.slice A n c):=by unfold j8 at h;simp[World.cell?,h]
def j8.c2(h:j8 w g s A n c e):w.cell? ⟨g,2,none⟩=some (.int .i64 e):=by unfold j8 at h;simp[World.cell?,h]
def j8.fr(h:j8 w g s A n c e)(i:Nat):w.frozen? ⟨g,i,none⟩=false:=by unfold j8 at h;simp[World.frozen?,h]
def j8.set(h:j8 w g s A n c e)(s':Bool)(A':Option Addr)(n' c':Nat)(e':Int):
 j8 (((w.setCell ⟨g,0,none⟩ (.bool s')).setCell ⟨g,1,none⟩ (.slice A' n' c')).setCell ⟨g,2,none⟩ (.int .i64 e')) g s' A' n' c' e':=by
 have h1:=heap_setCell_same w g 0 _ _ (.bool s') h;have h2:=heap_setCell_same _ g 1 _ _ (.slice A' n' c') h1;have h3:=heap_setCell_same _ g 2 _ _ (.int .i64 e') h2;exact h3
def j8.wS{L:List Nat}{A':Option Addr}{c':Nat}(h:j8 w g s A n c e)(hs:Sl w A' c' L)(s':Bool)(e':Int)(n' c2:Nat)(A2:Option Addr):
 Sl (((w.setCell ⟨g,0,none⟩ (.bool s')).setCell ⟨g,1,none⟩ (.slice A2 n' c2)).setCell ⟨g,2,none⟩ (.int .i64 e')) A' c' L:=by
 have h1:=heap_setCell_same w g 0 _ _ (.bool s') h;have h2:=heap_setCell_same _ g 1 _ _ (.slice A2 n' c2) h1;have k1:Ac (w.setCell ⟨g,0,none⟩ (.bool s')) g:=Ac.Fz h1 (λi x=>by rcases i with _|_|_|i<;>simp);have k2:Ac ((w.setCell ⟨g,0,none⟩ (.bool s')).setCell ⟨g,1,none⟩ (.slice A2 n' c2)) g:=Ac.Fz h2 (λi x=>by rcases i with _|_|_|i<;>simp);exact((hs.C5 h.ng _).C5 k1 _).C5 k2 _
def j8.vL{w0:World}(hb:iV w0 w)(hg:w0.heap.size<=g)(s':Bool)(A':Option Addr)(n' c':Nat)(e':Int):
 iV w0 (((w.setCell ⟨g,0,none⟩ (.bool s')).setCell ⟨g,1,none⟩ (.slice A' n' c')).setCell ⟨g,2,none⟩ (.int .i64 e')):=
 ((hb.setCell hg _).setCell hg _).setCell hg _
end
def Tm:(prog.info? 31).map (·.size)=some 3:= aF 
def alm{fn:Func}{p:Tmp}(h:fn.results = #[.cell p 31])(tmps:Array Value){w:World}{g n c:Nat}{s:Bool}{A:Option Addr}{e:Int}
 (hp:tmps.getD p undef = .pointer (some ⟨g,0,none⟩)) (hb:j8 w g s A n c e):
 (results fn tmps).run prog w = .ok (.agg #[.bool s,.slice A n c,.int .i64 e]) w:=
 results_cell_row h tmps w g _ _ _ _ hp hb underlying31 rfl Tm
def aln{fn:Func}{p t:Tmp}(h:fn.results = #[.cell p 31,.tmp t])(tmps:Array Value){w:World}{g n c:Nat}{s:Bool}{A:Option Addr}{e:Int}
 (hp:tmps.getD p undef = .pointer (some ⟨g,0,none⟩)) (hb:j8 w g s A n c e):
 (results fn tmps).run prog w = .ok (.tuple #[.agg #[.bool s,.slice A n c,.int .i64 e],tmps.getD t undef]) w:=by
 have B4:tmps[p]?.getD undef = .pointer (some ⟨g,0,none⟩):=by simpa using hp
 simp[results,h,B4,asAddr,run_loadVar_row w g _ _ _ _ _ hb underlying31 rfl Tm]
def vY{fn:Func}{p:Tmp}(h:fn.results = #[.cell p 31]){a:Act}{w W:World}{d:Dy}{g:Nat}{A:Option Addr}{c n:Nat}
 (hp:a.tmps.getD p undef = .pointer (some ⟨g,0,none⟩)) (hd:a.defers=[]) (hb:j8 W g d.neg A n c d.e) (hn:n=(ij d.m).length) (hs:Sl W A c (ij d.m)) (he:iV w W):
 bodyPost prog fn (yW w d) .ret a W:=by
 subst hn;exact bodyPost_ret (alm h _ hp hb) hd ⟨A,c,rfl,hs,he⟩
def EI{fn:Func}{p t:Tmp}(h:fn.results = #[.cell p 31,.tmp t]){a:Act}{w W:World}{d:Dy}{k:Int}{g:Nat}{A:Option Addr}{c n:Nat}
 (hp:a.tmps.getD p undef = .pointer (some ⟨g,0,none⟩)) (ht:a.tmps.getD t undef = .int .i64 k) (hd:a.defers=[]) (hb:j8 W g d.neg A n c d.e) (hn:n=(ij d.m).length) (hs:Sl W A c (ij d.m)) (he:iV w W):
 bodyPost prog fn (Ae w d k) .ret a W:=by
 subst hn;exact bodyPost_ret ((aln h _ hp hb).trans (by rw[ht])) hd ⟨A,c,rfl,hs,he⟩
open Go.ChangeShapes Go.WideShapes Go.ChangeAt
def own:ownKnob prog.godebug=none:= aF 
def Hr:laidOutB prog=true:= aF 
def Uf:prog.globalNamed "math/bits.deBruijn32tab" = some 0:= aF 
def afG:(prog.globals[0]?).map (·.type)=some 256:= aF 
def adt:prog.cellsOf 256=32:= aF 
def ads:prog.cellsOf 5=1:= aF 
def adr:prog.cellsOf 171=1:= aF 
def anJ {l:List (String×DataW Unit)} (hl:l=[("math/bits.deBruijn32tab", Rows.laid_math_bits_deBruijn32tab)]) {W:World} (h:laidMet prog l W):Tb W:=by
 subst hl;have ht:Lib.TabIs prog W "math/bits.deBruijn32tab" .u8 (Lib.deBruijn32tab.map λ(n:Nat)=>(n:Int)):=
  Lib.tabIs_of_head (rest:=[]) Uf afG underlying256 underlying5 ads adt h
 intro j hj;have:=ht.cell Uf j (by simpa using hj);rw[this];simp[bE];rw[bJ hj];simp
def ahf{n:Int}(h:(Lit.int .i64 n).wf=true):-9223372036854775808<=n/\n<=9223372036854775807:=by
 have h1:IntKind.i64.min = -9223372036854775808:=rfl;have h2:IntKind.i64.max=9223372036854775807:=rfl;simp[Lit.wf,h1,h2]at h;omega
def ajv{H:Type}{enc:TypeId×Value->H}{W:World}{fuel:Nat}{c:Value}{x:DataW H×List MemPlace}
 (h:DataW.trod enc prog W 0 (λ_=>true) true fuel 29 [c]=some x) (_hlt:∀ p ∈ x.2,p.block<W.heap.size):
 ∃ A L cap,c = .slice A L.length cap/\Sl W A cap L:=by
 rcases open_ints underlying29 underlying171 adr h with⟨mX,hx⟩|⟨a,len,cap,zs,mX,_,hl,hm,hz,hx,kF,hwz⟩
 .simp at mX;exact⟨none,[],0,mX,Sl.nil W⟩
 .simp at mX;simp only[bN]at hz;refine⟨some a,(zs.take len).map Int.toNat,cap,?_,?_⟩
  .rw [mX,bZ,cF,dF aC]
  .have Vx:∀ n ∈ zs,0<=n/\n<4294967296:=λn hn=>by
    have:=hwz n hn;have h1:IntKind.u32.min=0:=rfl;have h2:IntKind.u32.max=4294967295:=rfl;simp[Lit.wf,h1,h2]at this;omega
   refine⟨by rw[bZ,cF];omega,by simpa[maxLen]using hm,?_,(λh=>by cases h),?_⟩
   .intro y hy;obtain⟨z,zD,rfl⟩:=dz.1 hy;have:=Vx z (et zD);omega
   .intro i y hy;rw[cG]at hy;obtain⟨z,zD,rfl⟩:=ch.1 hy;rw[dM]at zD;split at zD
    .rename_i hi;have hc:=kF i aC;rw[bE,zD]at hc;obtain⟨b,off,spot⟩:=a;have hsp:spot=none:=by
      rcases spot with _|q
      .rfl
      .exfalso;have pV:=kF 0 aC;rw[show(⟨b,off,some q⟩:Addr).add 0=⟨b,off,some q⟩from rfl]at pV;unfold World.cell? at pV;split at pV<;>simp at pV
     subst hsp;refine⟨b,off,rfl,?_,?_⟩
     .have:=block_lt_of_cell hc;rwa[acq]at this
     .rw [CP]at hc;rw[hc];have:=Vx z (ef zD);simp;omega
    .cases zD
def WL{α:Type}{l:List α}(h:l.length=3):∃ a b c,l=[a,b,c]:=by
 match l,h with
 | [a,b,c],_=>exact⟨a,b,c,rfl⟩
def aip{α:Type}{l:List α}(h:l.length=7):∃ a b c d e f g,l=[a,b,c,d,e,f,g]:=by
 match l,h with
 | [a,b,c,d,e,f,g],_=>exact⟨a,b,c,d,e,f,g,rfl⟩
def ajt{H:Type}{enc:TypeId×Value->H}{W:World}{fuel:Nat}{cs:List Value}{x:DataW H×List MemPlace}
 (h:DataW.trod enc prog W 0 (λ_=>true) true fuel 31 cs=some x) (iK:∀ p ∈ x.2,p.block<W.heap.size):
 ∃ s A L cap e,cs=[.bool s,.slice A L.length cap,.int .i64 e]/\Sl W A cap L/\(-9223372036854775808<=e/\e<=9223372036854775807):=by
 obtain⟨xs,n,rfl,rfl,hl,jG,hf⟩:=DataW.trod_struct underlying31 h;have hC:prog.cellsOf 31=3:= aF ;have hB:prog.cellsOf 4=1:= aF ;have hS:prog.cellsOf 29=1:= aF ;have hI:prog.cellsOf 3=1:= aF ;rw[hC]at hl;obtain⟨a,b,c,rfl⟩:=WL hl;have h0:=hf 0 _ rfl;have h1:=hf 1 _ rfl;have h2:=hf 2 _ rfl;simp only[eU,eV,dX]at h0 h1 h2;simp only[hB,hS,hI,eW,eX,eu,eZ]at h0 h1 h2;rw[bJ (by rw[jG];decide)]at h0 h1 h2;obtain⟨s,hs,_⟩:=DataW.trod_bool underlying4 h0;obtain⟨A,L,cap,hc,tS⟩:=ajv h1 (λp hp=>iK p (dt.2 ⟨_,cK _,hp⟩));obtain⟨e,he,_,hw⟩:=DataW.trod_int underlying3 h2;simp at hs he;subst hs he hc;exact⟨s,A,L,cap,e,rfl,tS,ahf hw⟩
noncomputable def Pm(os:Os)(args:Array Value):World:=
 {World.holding prog os ⟨#[],args,[]⟩with heap:=(World.holding prog os ⟨#[],args,[]⟩).heap.modify 0 fun
   | .cells _ t frozen=>.cells (Lib.deBruijn32tab.map λ(n:Nat)=>Value.int .u8 (n:Int)).toArray t frozen
   |o=>o }
end Go.Proofs.YtgdahmmlddfimaaGreatDoor
namespace Go.Proofs.YtgdahmmlddfimaaGreatDoor.Pu
open Go.RowKit
inductive E where
 |any
 |v (x:Value)
 |agg (l:List E)
 |iE (l:List E)
 |sl (nl:Bool) (n sz:Nat) (el:Nat->Nat->E)
 |jh (m:Nat) (el:Nat->E)
 |fn (f:FuncId) (cap:List E)
 |mp (l:List (Int×FuncId×List FuncId))
 |nZ (fl nl:Bool) (n sz:Nat) (el:Nat->Nat->E)
def qI:Value->Bool
 | .int .u32 _=>true
 |_=>false
def E.nr:Nat->E->Bool
 |_,.any=>true
 |_,.v _=>true
 |_,.sl ..=>true
 |_,.mp _=>true
 |d+1,.agg l=>l.all (E.nr d)
 |d+1,.iE l=>l.all (E.nr d)
 |d+1,.fn _ l=>l.all (E.nr d)
 |_,_=>false
def CN(bs:Nat->Prop)(w:World):List (Int×FuncId×List FuncId)->List MapEntry->Prop
 | [],[]=>True
 |x::l,e::es=>(e.key = .int .i64 x.1/\∃ vs:List Value,e.val = .func (.func x.2.1) #[] vs.toArray/\vs.length=x.2.2.length /\
  ∀ (i:Nat) (g:FuncId) (v:Value),x.2.2[i]? = some g->vs[i]? = some v->∃ b,v = .pointer (some ⟨b,0,none⟩)/\¬bs b/\b<w.heap.size/\w.cell? ⟨b,0,none⟩=some (.func (.func g) #[] #[]))/\CN bs w l es
 |_,_=>False
def CN.mono{bs bs':Nat->Prop}{w w':World}(lL:w.heap.size<=w'.heap.size)(h1:∀ b,b<w.heap.size->bs' b->bs b)(hc:∀ b,b<w.heap.size->¬bs b->w'.heap[b]? = w.heap[b]?):
 ∀ {l:List (Int×FuncId×List FuncId)} {es:List MapEntry},CN bs w l es->CN bs' w' l es
 | [],[],_=>trivial
 | [],_::_,h=>h
 |_::_,[],h=>h
 |_::_,_::_,⟨⟨k1,vs,k2,k3,k4⟩,h⟩=>⟨⟨k1,vs,k2,k3,λi g v hg hv=>by
  obtain⟨b,q1,q2,q3,q4⟩:=k4 i g v hg hv;exact⟨b,q1,λx=>q2 (h1 b q3 x),ca q3 lL,by rw[World.cell?_of_block (w:=w) (hc b q3 q2)];exact q4⟩⟩,CN.mono lL h1 hc h⟩
inductive iQ(bs br:Nat->Prop)(w:World):E->Value->Prop
 |any (x:Value):iQ bs br w .any x
 |v (x:Value):iQ bs br w (.v x) x
 |agg (l:List E) (vs:List Value) (h:vs.length=l.length) (k:∀ (i:Nat) (p:E) (x:Value),l[i]? = some p->vs[i]? = some x->iQ bs br w p x):iQ bs br w (.agg l) (.agg vs.toArray)
 |iE (l:List E) (vs:List Value) (h:vs.length=l.length) (k:∀ (i:Nat) (p:E) (x:Value),l[i]? = some p->vs[i]? = some x->iQ bs br w p x):iQ bs br w (.iE l) (.tuple vs.toArray)
 |sl (nl:Bool) (n sz:Nat) (el:Nat->Nat->E) (A:Option Addr) (c:Nat) (f:Nat->Nat->Value) (hc:n<=c) (hm:c<=9223372036854775807) (h0:A=none->c=0)
  (hl:∀ i j,i<n->j<sz->(f i j).oneCell'=true/\(nl=true->qI (f i j)=false))
  (hr:∀ i j,i<n->j<sz->(el i j).nr 2=true)
  (cell:∀ i j,i<n->j<sz->∃ b o,A=some ⟨b,o,none⟩/\¬bs b/\b<w.heap.size/\w.cell? ⟨b,o+(i*sz+j),none⟩=some (f i j))
  (k:∀ i j,i<n->j<sz->iQ bs br w (el i j) (f i j)):iQ bs br w (.sl nl n sz el) (.slice A n c)
 |jh (m:Nat) (el:Nat->E) (b o:Nat) (f:Nat->Value) (hb:¬br b) (iK:b<w.heap.size) (hl:∀ j,j<m->(f j).oneCell'=true)
  (cell:∀ j,j<m->w.cell? ⟨b,o+j,none⟩=some (f j))
  (k:∀ j,j<m->iQ bs br w (el j) (f j)):iQ bs br w (.jh m el) (.pointer (some ⟨b,o,none⟩))
 |fn (f:FuncId) (l:List E) (vs:List Value) (h:vs.length=l.length) (k:∀ (i:Nat) (p:E) (x:Value),l[i]? = some p->vs[i]? = some x->iQ bs br w p x):iQ bs br w (.fn f l) (.func (.func f) #[] vs.toArray)
 |mp (l:List (Int×FuncId×List FuncId)) (b clk:Nat) (es:Array MapEntry) (hb:¬bs b) (iK:b<w.heap.size) (hh:w.heap[b]? = some (.map es clk)) (ho:CN bs w l es.toList):iQ bs br w (.mp l) (.map (some b))
 |nZ (fl nl:Bool) (n sz:Nat) (el:Nat->Nat->E) (A:Option Addr) (c:Nat) (f:Nat->Nat->Value) (hc:n<=c) (hm:c<=9223372036854775807) (h0:A=none->c=0)
  (hl:∀ i j,i<n->j<sz->(f i j).oneCell'=true/\(nl=true->qI (f i j)=false))
  (hr:fl=true->∀ i j,i<n->j<sz->(el i j).nr 2=true)
  (cell:∀ i j,i<n->j<sz->∃ b o,A=some ⟨b,o,none⟩/\¬br b/\b<w.heap.size/\w.cell? ⟨b,o+(i*sz+j),none⟩=some (f i j))
  (k:∀ i j,i<n->j<sz->iQ bs br w (el i j) (f i j)):iQ bs br w (.nZ fl nl n sz el) (.slice A n c)
def iQ.mono{bs br bs' br':Nat->Prop}{w w':World}(lL:w.heap.size<=w'.heap.size)
 (h1:∀ b,b<w.heap.size->bs' b->bs b) (h2:∀ b,b<w.heap.size->br' b->br b)
 (hc:∀ b,b<w.heap.size->(¬bs b\/¬br b)->w'.heap[b]? = w.heap[b]?)
 {e:E} {v:Value} (h:iQ bs br w e v):iQ bs' br' w' e v:=by
 induction h with
 |any x=>exact .any x
 |v x=>exact .v x
 |agg l vs h k ih=>exact .agg l vs h ih
 |iE l vs h k ih=>exact .iE l vs h ih
 |sl nl n sz el A c f hn hm h0 hl hr cell k ih=>
  refine .sl nl n sz el A c f hn hm h0 hl hr (λi j hi hj=>?_) ih;obtain⟨b,o,e,hb,iK,kF⟩:=cell i j hi hj;exact⟨b,o,e,λhx=>hb (h1 b iK hx),ca iK lL,by rw[World.cell?_of_block (w:=w) (hc b iK (.inl hb))];exact kF⟩
 |jh m el b o f hb iK hl cell k ih=>
  exact .jh m el b o f (λhx=>hb (h2 b iK hx)) (ca iK lL) hl (λj hj=>by rw[World.cell?_of_block (w:=w) (hc b iK (.inr hb))];exact cell j hj) ih
 |fn f l vs h k ih=>exact .fn f l vs h ih
 |mp l b clk es hb iK hh ho=>exact .mp l b clk es (λx=>hb (h1 b iK x)) (ca iK lL) (by rw[hc b iK (.inl hb)];exact hh) (ho.mono lL h1 λb iK hb=>hc b iK (.inl hb))
 |nZ fl nl n sz el A c f hn hm h0 hl hr cell k ih=>
  refine .nZ fl nl n sz el A c f hn hm h0 hl hr (λi j hi hj=>?_) ih;obtain⟨b,o,e,hb,iK,kF⟩:=cell i j hi hj;exact⟨b,o,e,λhx=>hb (h2 b iK hx),ca iK lL,by rw[World.cell?_of_block (w:=w) (hc b iK (.inr hb))];exact kF⟩
def iQ.q6{bs br bs' br':Nat->Prop}{w:World}(h1:∀ b,bs' b->bs b)(h2:∀ b,br' b->br b){e:E}{v:Value}(h:iQ bs br w e v):iQ bs' br' w e v:=
 h.mono (bF _) (λb _=>h1 b) (λb _=>h2 b) (λ_ _ _=>rfl)
def E.plain:Nat->E->Bool
 |_,.any=>true
 |_,.v _=>true
 |d+1,.agg l=>l.all (E.plain d)
 |d+1,.iE l=>l.all (E.plain d)
 |_,_=>false
def iQ.plain{bs br bs' br':Nat->Prop}{w w':World}{e:E}{v:Value}(h:iQ bs br w e v):∀ d,e.plain d=true->iQ bs' br' w' e v:=by
 induction h with
 |any x=>exact λ_ _=>.any x
 |v x=>exact λ_ _=>.v x
 |agg l vs h k ih=>
  intro d hd;cases d with
  |zero=>simp[E.plain]at hd
  |succ d=>
   simp only[E.plain,bU]at hd;exact .agg l vs h λi p x hp hx=>ih i p x hp hx d (hd p (ef hp))
 |iE l vs h k ih=>
  intro d hd;cases d with
  |zero=>simp[E.plain]at hd
  |succ d=>
   simp only[E.plain,bU]at hd;exact .iE l vs h λi p x hp hx=>ih i p x hp hx d (hd p (ef hp))
 |sl=>intro d hd;cases d<;>simp[E.plain]at hd
 |jh=>intro d hd;cases d<;>simp[E.plain]at hd
 |fn=>intro d hd;cases d<;>simp[E.plain]at hd
 |mp=>intro d hd;cases d<;>simp[E.plain]at hd
 |nZ=>intro d hd;cases d<;>simp[E.plain]at hd
def iQ.nr{bs br br':Nat->Prop}{w:World}{e:E}{v:Value}(h:iQ bs br w e v):∀ d,e.nr d=true->iQ bs br' w e v:=by
 induction h with
 |any x=>exact λ_ _=>.any x
 |v x=>exact λ_ _=>.v x
 |agg l vs h k ih=>
  intro d hd;cases d with
  |zero=>simp[E.nr]at hd
  |succ d=>
   simp only[E.nr,bU]at hd;exact .agg l vs h λi p x hp hx=>ih i p x hp hx d (hd p (ef hp))
 |iE l vs h k ih=>
  intro d hd;cases d with
  |zero=>simp[E.nr]at hd
  |succ d=>
   simp only[E.nr,bU]at hd;exact .iE l vs h λi p x hp hx=>ih i p x hp hx d (hd p (ef hp))
 |fn f l vs h k ih=>
  intro d hd;cases d with
  |zero=>simp[E.nr]at hd
  |succ d=>
   simp only[E.nr,bU]at hd;exact .fn f l vs h λi p x hp hx=>ih i p x hp hx d (hd p (ef hp))
 |jh=>intro d hd;cases d<;>simp[E.nr]at hd
 |nZ=>intro d hd;cases d<;>simp[E.nr]at hd
 |mp l b clk es hb iK hh ho=>exact λ_ _=>.mp l b clk es hb iK hh ho
 |sl nl n sz el A c f hn hm h0 hl hr cell k ih=>
  exact λ_ _=>.sl nl n sz el A c f hn hm h0 hl hr cell λi j hi hj=>ih i j hi hj 2 (hr i j hi hj)
def E.one:E->Bool
 | .v x=>x.oneCell'
 | .sl ..=>true
 | .jh ..=>true
 | .fn ..=>true
 |_=>false
def E.ng:E->Bool
 | .v x=>!qI x
 | .sl ..=>true
 | .jh ..=>true
 | .fn ..=>true
 |_=>false
def iQ.one{bs br:Nat->Prop}{w:World}{e:E}{v:Value}(h:iQ bs br w e v)(h1:e.one=true):v.oneCell'=true:=by
 cases h<;>first|exact h1|rfl|(simp[E.one]at h1)
def iQ.ng{bs br:Nat->Prop}{w:World}{e:E}{v:Value}(h:iQ bs br w e v)(h1:e.ng=true):qI v=false:=by
 cases h with
 |v=>unfold E.ng at h1;cases hb:qI v<;>simp_all
 |any=>cases h1
 |agg=>cases h1
 |iE=>cases h1
 |sl=>rfl
 |jh=>rfl
 |fn=>rfl
 |mp=>cases h1
 |nZ=>cases h1
structure kJ(bs br:Nat->Prop)(w:World)(l:List E)(vs:List Value):Prop where
 len:vs.length=l.length
 lf:∀ (i:Nat) (p:E) (x:Value),l[i]? = some p->vs[i]? = some x->iQ bs br w p x
def kJ.nil(bs br:Nat->Prop)(w:World):kJ bs br w [] []:=⟨rfl,λi p x h=>by simp at h⟩
def kJ.cons{bs br:Nat->Prop}{w:World}{p:E}{x:Value}{l:List E}{vs:List Value}(h:iQ bs br w p x)(k:kJ bs br w l vs):kJ bs br w (p::l) (x::vs):=
 ⟨by simp[k.len],λi q y hq hy=>by
  cases i with
  |zero=>simp at hq hy;subst hq hy;exact h
  |succ i=>simp at hq hy;exact k.lf i q y hq hy⟩
def kJ.head{bs br:Nat->Prop}{w:World}{p:E}{x:Value}{l:List E}{vs:List Value}(h:kJ bs br w (p::l) (x::vs)):iQ bs br w p x:=h.lf 0 p x rfl rfl
def kJ.tail{bs br:Nat->Prop}{w:World}{p:E}{x:Value}{l:List E}{vs:List Value}(h:kJ bs br w (p::l) (x::vs)):kJ bs br w l vs:=
 ⟨by have:=h.len;simpa using this,λi q y hq hy=>h.lf (i+1) q y (by simpa using hq) (by simpa using hy)⟩
def kJ.ni{bs br:Nat->Prop}{w:World}{p:E}{l:List E}{vs:List Value}(h:kJ bs br w (p::l) vs):∃ x ys,vs=x::ys/\iQ bs br w p x/\kJ bs br w l ys:=by
 cases vs with
 |nil=>have:=h.len;simp at this
 |cons x ys=>exact⟨x,ys,rfl,h.head,h.tail⟩
def kJ.rS{bs br:Nat->Prop}{w:World}{vs:List Value}(h:kJ bs br w [] vs):vs=[]:=dH h.len
def kJ.mono{bs br bs' br':Nat->Prop}{w w':World}{l:List E}{vs:List Value}(h:kJ bs br w l vs)(k:∀ e v,iQ bs br w e v->iQ bs' br' w' e v):kJ bs' br' w' l vs:=
 ⟨h.len,λi p x hp hx=>k _ _ (h.lf i p x hp hx)⟩
def kJ.take{bs br:Nat->Prop}{w:World}{l:List E}{vs:List Value}(h:kJ bs br w l vs)(n:Nat):kJ bs br w (l.take n) (vs.take n):=
 ⟨by simp[h.len],λi p x hp hx=>by
  rw[dM]at hp hx;split at hp
  .rename_i hi;rw[bB hi]at hx;exact h.lf i p x hp hx
  .cases hp⟩
def kJ.drop{bs br:Nat->Prop}{w:World}{l:List E}{vs:List Value}(h:kJ bs br w l vs)(n:Nat):kJ bs br w (l.drop n) (vs.drop n):=
 ⟨by simp[h.len],λi p x hp hx=>by
  rw[dN]at hp hx;exact h.lf _ p x hp hx⟩
def kJ.app{bs br:Nat->Prop}{w:World}{l m:List E}{vs us:List Value}(h:kJ bs br w l vs)(k:kJ bs br w m us):kJ bs br w (l++m) (vs++us):=
 ⟨by simp[h.len,k.len],λi p x hp hx=>by
  rw[ew]at hp hx;rw[h.len]at hx;split at hp
  .rename_i hi;rw[bB hi]at hx;exact h.lf i p x hp hx
  .rename_i hi;rw[bA hi]at hx;exact k.lf _ p x hp hx⟩
def kJ.adO(bs br:Nat->Prop)(w:World)(vs:List Value):kJ bs br w (vs.map .v) vs:=
 ⟨aH,λi p x hp hx=>by
  rw[cG,hx]at hp;simp at hp;subst hp;exact .v x⟩
def iQ.CQ{bs br:Nat->Prop}{w:World}{l:List E}{v:Value}(h:iQ bs br w (.agg l) v):∃ vs:List Value,v = .agg vs.toArray/\kJ bs br w l vs:=by
 cases h with
 |agg _ vs h k=>exact⟨vs,rfl,h,k⟩
def iQ.aay{bs br:Nat->Prop}{w:World}{l:List E}{v:Value}(h:iQ bs br w (.iE l) v):∃ vs:List Value,v = .tuple vs.toArray/\kJ bs br w l vs:=by
 cases h with
 |iE _ vs h k=>exact⟨vs,rfl,h,k⟩
def iQ.kX{bs br:Nat->Prop}{w:World}{x v:Value}(h:iQ bs br w (.v x) v):v=x:=by cases h;rfl
def iQ.T9{bs br:Nat->Prop}{w:World}{f:FuncId}{l:List E}{v:Value}(h:iQ bs br w (.fn f l) v):∃ vs:List Value,v = .func (.func f) #[] vs.toArray/\kJ bs br w l vs:=by
 cases h with
 |fn _ _ vs h k=>exact⟨vs,rfl,h,k⟩
def kJ.agg{bs br:Nat->Prop}{w:World}{l:List E}{vs:List Value}(h:kJ bs br w l vs):iQ bs br w (.agg l) (.agg vs.toArray):=.agg l vs h.len h.lf
def kJ.iE{bs br:Nat->Prop}{w:World}{l:List E}{vs:List Value}(h:kJ bs br w l vs):iQ bs br w (.iE l) (.tuple vs.toArray):=.iE l vs h.len h.lf
def E.cells?:E->Option (List E)
 | .agg l=>if l.all E.one then some l else none
 | .v (.agg cs)=>if cs.toList.all Value.oneCell' then some (cs.toList.map .v)else none
 | .v x=>if x.oneCell' then some [.v x]else none
 | .sl nl n sz el=>some [.sl nl n sz el]
 | .jh m el=>some [.jh m el]
 | .fn f c=>some [.fn f c]
 |_=>none
def iQ.cells{bs br:Nat->Prop}{w:World}{e:E}{v:Value}(h:iQ bs br w e v){l:List E}(hl:e.cells? = some l):
 kJ bs br w l v.cells.toList/\∀ u ∈ v.cells.toList,u.oneCell'=true:=by
 have single:∀ {e:E} {v:Value},iQ bs br w e v->v.oneCell'=true->v.cells = #[v]->kJ bs br w [e] v.cells.toList/\∀ u ∈ v.cells.toList,u.oneCell'=true:=by
  intro e v h h1 hc;rw[hc];exact⟨.cons h (.nil _ _ _),by simpa using h1⟩
 cases h with
 |any x=>simp[E.cells?]at hl
 |v=>
  by_cases ha:∃ cs,v = .agg cs
  .obtain ⟨cs,rfl⟩:=ha;simp only[E.cells?]at hl;split at hl
   .rename_i h1;cases hl;exact⟨kJ.adO _ _ _ _,λu hu=>bU.1 h1 u hu⟩
   .cases hl
  .have hx:(E.v v).cells? = if v.oneCell' then some [.v v]else none:=by
    cases v<;>first|rfl|exact absurd ⟨_,rfl⟩ ha
   rw[hx]at hl;split at hl
   .rename_i h1;cases hl;exact single (.v v) h1 (by cases v<;>first|rfl|exact absurd ⟨_,rfl⟩ ha)
   .cases hl
 |agg l vs h k=>
  simp only[E.cells?]at hl;split at hl
  .rename_i h1;cases hl;refine⟨⟨h,k⟩,?_⟩;intro u hu;obtain⟨i,hi⟩:=dI.1 hu;have GX:i<l.length:=by
    obtain⟨hi,_⟩:=cE.1 hi;simp[Value.cells]at hi;omega
   exact(k i _ u (bJ GX) (by simpa[Value.cells]using hi)).one (bU.1 h1 _ (cK GX))
  .cases hl
 |iE=>simp[E.cells?]at hl
 |mp=>simp[E.cells?]at hl
 |nZ=>simp[E.cells?]at hl
 |sl nl n sz el A c f hc hm h0 rq hr cell k=>simp only[E.cells?]at hl;cases hl;exact single (.sl nl n sz el A c f hc hm h0 rq hr cell k) rfl rfl
 |jh m el b o f hb iK rq cell k=>simp only[E.cells?]at hl;cases hl;exact single (.jh m el b o f hb iK rq cell k) rfl rfl
 |fn f l' vs h k=>simp only[E.cells?]at hl;cases hl;exact single (.fn f l' vs h k) rfl rfl
structure TI where
 id:TypeId
 d:TypeDesc
 i:TypeInfo
def mV(P:Program)(T:List TI):Prop:=∀ x,x ∈ T->P.underlying x.id=some x.d/\P.info? x.id=some x.i
def nh:List TI->TypeId->Option TI
 | [],_=>none
 |x::l,t=>if Nat.beq x.id t then some x else nh l t
def xW(T:List TI)(t:TypeId):Option TypeDesc:=match nh T t with
 |some x=>some x.d
 |none=>none
def TI.isAgg(x:TI):Bool:=match x.d with
 | .struct _ | .array _ _=>true
 |_=>false
inductive CV where
 |e (x:E)
 |box (id:Nat)
 |row (id:Nat)
inductive PV where
 |e (x:E)
 |box (id off:Nat)
 |own (id:Nat)
 |nQ (id sz i j:Nat)
 |iU (id k:Nat)
 |rE (id sz k i j:Nat)
 |ql (f:FuncId) (cap:List CV)
def CV.lG:CV->List Nat
 | .e _=>[]
 | .box id=>[id]
 | .row id=>[id]
def PV.lG:PV->List Nat
 | .e _=>[]
 | .box id _ | .own id | .nQ id _ _ _ | .iU id _ | .rE id _ _ _ _=>[id]
 | .ql _ cap=>cap.flatMap CV.lG
inductive Bx where
 |cells (T:TypeId) (l:List E)
 |row (nl:Bool) (T:TypeId) (n sz:Nat) (el:Nat->Nat->E)
 |ke (nl:Bool) (T1 T0:TypeId) (n sz:Nat) (len:Nat->Nat) (el:Nat->Nat->Nat->E) (pend:Option Nat)
 |qe (nl:Bool) (T:TypeId) (l:List PV)
def Bx.Lc:Bx->List PV
 | .qe _ _ l=>l
 |_=>[]
def Bx.lG(b:Bx):List Nat:=b.Lc.flatMap PV.lG
def Bx.rF(g:PV->PV):Bx->Bx
 | .qe nl T l=>.qe nl T (l.map g)
 |b=>b
def Bx.nl:Bx->Bool
 | .cells _ l=>l.all E.ng
 | .row nl ..=>nl
 | .ke nl ..=>nl
 | .qe nl ..=>nl
structure PS where
 n:Nat
 nl:Bool
 t:List (Nat×PV)
 b:List (Nat×Bx)
def look{α:Type}:List (Nat×α)->Nat->Option α
 | [],_=>none
 | (k,x)::l,t=>if Nat.beq k t then some x else look l t
def PS.get(σ:PS)(t:Nat):PV:=(look σ.t t).getD (.e .any)
def PS.bo(σ:PS)(id:Nat):Option Bx:=look σ.b id
def PS.op(σ:PS):Operand->PV
 | .tmp t=>σ.get t
 | .const v=>.e (.v v)
 | .global g=>.e (.v (.pointer (some ⟨g,0,none⟩)))
 | .func f=>.e (.fn f [])
inductive mJ where
 |none
 |new (id:Nat) (b:Bx)
 |sy (id:Nat) (b:Bx)
 |qg (id:Nat) (b:Bx)
 |tH (id:Nat) (b:Bx)
 |fin (id:Nat)
 |pj (id r:Nat) (b:Bx)
 |xK (id:Nat) (b:Bx)
structure kO where
 r:PV
 f:mJ:=.none
 rb:List Nat:=[]
 jV:List Prop:=[]
 rd:List PV:=[]
 hb:Bool:=false
 ob:List Nat:=[]
def CV.Hn(id:Nat):CV->Bool
 | .row i=>Nat.beq i id
 |_=>false
def PV.lH:mJ->PV->PV
 | .qg id _,.own i=>if Nat.beq i id then .e .any else .own i
 | .qg id _,.nQ i s x j=>if Nat.beq i id then .e .any else .nQ i s x j
 | .qg id _,.ql f cap=>if cap.any (CV.Hn id)then .e .any else .ql f cap
 | .tH id _,.iU i k=>if Nat.beq i id then .e .any else .iU i k
 | .tH id _,.rE i s k x j=>if Nat.beq i id then .e .any else .rE i s k x j
 | .fin id,p=>if p.lG.any (Nat.beq id)then .e .any else p
 | .xK id _,p=>if p.lG.any (Nat.beq id)then .e .any else p
 | .pj id r _,.box i off=>if Nat.beq i id then(if Nat.beq off 0 then .nQ id 1 0 0 else .e .any)else if Nat.beq i r then .e .any else .box i off
 | .pj id r _,p=>if p.lG.any (λx=>Nat.beq id x||Nat.beq r x)then .e .any else p
 |_,p=>p
def uW(l:List (Nat×Bx))(id:Nat)(b:Bx):List (Nat×Bx):=(id,b)::l.filter λx=>!Nat.beq x.1 id
def mJ.MQ:mJ->List (Nat×Bx)->List (Nat×Bx)
 | .none,l=>l
 | .new id b,l | .sy id b,l | .qg id b,l | .tH id b,l | .xK id b,l=>uW l id b
 | .fin id,l=>l.filter λx=>!Nat.beq x.1 id
 | .pj id r b,l=>uW (l.filter λx=>!Nat.beq x.1 r) id b
def mJ.wZ:mJ->Bool
 | .qg .. | .tH .. | .fin .. | .pj .. | .xK ..=>true
 |_=>false
def PS.pre(σ:PS)(f:mJ):List (Nat×Bx):=if f.wZ then σ.b.map λx=>(x.1,x.2.rF (PV.lH f))else σ.b
def PS.oN(σ:PS)(f:mJ):PS:={ σ with t:=if f.wZ then σ.t.map λx=>(x.1,x.2.lH f)else σ.t,b:=f.MQ (σ.pre f) }
def PS.put(σ:PS)(d:Option Tmp)(p:PV):PS:=match d with
 |some d=>{ σ with t:=(d,p)::σ.t.filter λx=>!Nat.beq x.1 d }
 |none=>σ
def kQ:IntKind->Int->Prop
 | .i8,z=>-128<=z/\z<=127
 | .i16,z=>-32768<=z/\z<=32767
 | .i32,z=>-2147483648<=z/\z<=2147483647
 | .i64,z=>-9223372036854775808<=z/\z<=9223372036854775807
 | .u8,z=>0<=z/\z<=255
 | .u16,z=>0<=z/\z<=65535
 | .u32,z=>0<=z/\z<=4294967295
 | .u64,z=>0<=z/\z<=18446744073709551615
def Zb(op:BinOp)(k k':IntKind):Bool:=match op with
 | .shl=>true
 | .shr=>true
 |_=>decide (k=k')
def My(k:IntKind)(x y:Int):Int:=match k with
 | .u32=>IntKind.u32.wrap (x+y)
 |_=>x+y
def RC(k:IntKind)(x y:Int):List Prop:=match k with
 | .u32=>[]
 |_=>[kQ k (x+y)]
def Np(op:BinOp)(k:IntKind)(x:Int)(y:Int):Option (Value×List Prop):=match op with
 | .add=>some (.int k (My k x y),RC k x y)
 | .sub=>some (.int k (x-y),[kQ k (x-y)])
 | .mul=>some (.int k (x*y),[kQ k (x*y)])
 | .quo=>some (.int k (x.tdiv y),[0<y,kQ k x])
 | .rem=>some (.int k (x.tmod y),[0<y])
 | .and=>some (.int k (bits .and k x y),[])
 | .or=>some (.int k (bits .or k x y),[])
 | .shl=>some (.int k (k.wrap (x*2^y.toNat)),[0<=y/\y<=k.bits])
 | .shr=>some (.int k (x/2^y.toNat),[0<=y/\y<=k.bits])
 | .eql=>some (.bool (x==y),[])
 | .neq=>some (.bool (x != y),[])
 | .lss=>some (.bool (decide (x<y)),[])
 | .leq=>some (.bool (decide (x<=y)),[])
 | .gtr=>some (.bool (decide (y<x)),[])
 | .geq=>some (.bool (decide (y<=x)),[])
 |_=>none
def Lb:List PV->Option (List E)
 | []=>some []
 | .e x::l=>(Lb l).map (x :: ·)
 |_::_=>none
def PS.read(σ:PS)(p:PV)(m:Nat):Option (List E×List Nat×List Prop):=match p with
 | .box id off=>match σ.bo id with
  |some (.cells _ l)=>if Nat.ble (off+m) l.length then some ((l.drop off).take m,[id],[])else none
  |some (.qe _ _ l)=>if Nat.ble (off+m) l.length then(Lb ((l.drop off).take m)).map λes=>(es,[id],[])else none
  |_=>none
 | .nQ id sz i j=>match σ.bo id with
  |some (.row _ _ n s el)=>if Nat.beq s sz&&Nat.ble (j+m) sz then some ((List.range m).map λq=>el i (j+q),[id],[i<n])else none
  |_=>none
 | .rE id sz k i j=>match σ.bo id with
  |some (.ke _ _ _ n s len el _)=>if Nat.beq s sz&&Nat.ble (j+m) sz then some ((List.range m).map λq=>el k i (j+q),[id],[k<n,i<len k])else none
  |_=>none
 | .e (.jh k el)=>if Nat.ble m k then some ((List.range m).map el,[],[])else none
 |_=>none
def CV.ext(σ:PS):CV->Option (E×List Nat)
 | .e x=>some (x,[])
 | .box id=>match σ.bo id with
  |some (.cells _ l)=>some (.jh l.length λj=>l.getD j .any,[id])
  |_=>none
 | .row id=>match σ.bo id with
  |some (.ke nl _ _ n sz len el none)=>if Nat.beq n 1 then some (.jh 1 λ_=>.sl nl (len 0) sz (el 0),[id])else none
  |_=>none
def CV.Hm:CV->Bool
 | .row _=>true
 |_=>false
def wb(σ:PS):List CV->Option (List E×List Nat)
 | []=>some ([],[])
 |c::l=>match c.ext σ,wb σ l with
  |some (x,i),some (xs,is)=>some (x::xs,i++is)
  |_,_=>none
def PV.xz(σ:PS):PV->Bool
 | .own id=>match σ.bo id with
  |some (.ke ..)=>false
  |_=>true
 | .iU _ _=>true
 | .ql _ cap=>cap.any CV.Hm
 |_=>false
def PV.ext(σ:PS):PV->Option (E×List Nat)
 | .e x=>some (x,[])
 | .own id=>match σ.bo id with
  |some (.row nl _ n sz el)=>some (.sl nl n sz el,[id])
  |some (.ke nl _ _ n sz len el none)=>some (.nZ false true n 1 λk _=>.nZ true nl (len k) sz (el k),[id])
  |_=>none
 | .box id 0=>match σ.bo id with
  |some (.cells _ l)=>some (.jh l.length λj=>l.getD j .any,[id])
  |_=>none
 | .iU id k=>match σ.bo id with
  |some (.ke nl _ _ n sz len el none)=>if Nat.blt k n then some (.sl nl (len k) sz (el k),[id])else none
  |_=>none
 | .ql f cap=>match wb σ cap with
  |some (xs,is)=>some (.fn f xs,is)
  |none=>none
 |_=>none
def uX(σ:PS):List Operand->Option (List E×List Nat)
 | []=>some ([],[])
 |o::l=>match(σ.op o).ext σ,uX σ l with
  |some (x,i),some (xs,is)=>some (x::xs,i++is)
  |_,_=>none
def xU:List PV->Option (List CV)
 | []=>some []
 | .e x::l=>(xU l).map (.e x :: ·)
 | .box id 0::l=>(xU l).map (.box id :: ·)
 | .nQ id sz i j::l=>if Nat.beq sz 1&&Nat.beq i 0&&Nat.beq j 0 then(xU l).map (.row id :: ·)else none
 |_::_=>none
def pD(w:World)(b:Nat):Prop:=∀ o x,w.cell? ⟨b,o,none⟩≠some (.int .u32 x)
structure PC(P:Program)(K:World->Prop)(f:FuncId)(args:List E)(kt:E):Prop where
 call:∀ (vs:Array Value) (w:World),(callFunc f vs).run P w = .ok (.enter f vs) w
 run:∀ (w:World) (B:Nat->Prop) (vs:List Value),K w->(∀ b,B b->b<w.heap.size/\pD w b)->kJ B (λ_=>False) w args vs ->
  Calls P f vs.toArray w (λe w'=>∃ v,e = .returned v/\Below w.heap.size w w'/\iQ B (λ_=>True) w' kt v)
structure I9(P:Program)(K:World->Prop)(f:FuncId)(args:List E)(kt:E):Prop where
 call:∀ (vs:Array Value) (w:World),(callFunc f vs).run P w = .ok (.enter f vs) w
 run:∀ (w:World) (B:Nat->Prop) (vs:List Value),K w->(∀ b,B b->b<w.heap.size)->kJ B (λ_=>False) w args vs ->
  Calls P f vs.toArray w (λe w'=>∃ v,e = .returned v/\Below w.heap.size w w'/\iQ B (λ_=>True) w' kt v)
def oh(w:World)(v:Value)(T:TypeId)(n sz:Nat)(f:Nat->Nat->Value)(nl:Bool):Prop:=
 (v = .slice none 0 0/\n=0) \/
 ∃ (b c:Nat) (cur:Array Value),v = .slice (some ⟨b,0,none⟩) n c/\w.heap[b]? = some (.cells cur T (0,0))/\n<=c/\c<=maxLen/\cur.size=c*sz /\
  (∀ i j,i<n->j<sz->cur[i*sz+j]? = some (f i j)/\(f i j).oneCell'=true)/\(nl=true->∀ u,u ∈ cur->qI u=false)
structure vS(P:Program)(K:World->Prop)(f:FuncId)(args:List E)(nl:Bool)(T:TypeId)(n sz:Nat)(el:Nat->Nat->E):Prop where
 call:∀ (vs:Array Value) (w:World),(callFunc f vs).run P w = .ok (.enter f vs) w
 run:∀ (w:World) (B:Nat->Prop) (vs:List Value),K w->(∀ b,B b->b<w.heap.size/\pD w b)->kJ B (λ_=>False) w args vs ->
  Calls P f vs.toArray w (λe w'=>∃ v,e = .returned v/\Below w.heap.size w w'/\∃ g,oh w' v T n sz g nl/\(∀ x,v.ownBlock=some x->w.heap.size<=x/\x<w'.heap.size) /\
   ∀ i j,i<n->j<sz->iQ (λb=>B b\/v.ownBlock=some b) (λ_=>True) w' (el i j) (g i j)/\(el i j).nr 2=true)
structure q8 where
 cl:List (Nat×E):=[]
 ov:List (Nat×PV):=[]
 nw:List (Nat×Bx):=[]
 gi:List (Nat×Value):=[]
def It(T:List TI):List Field->Option (List (Nat×Nat))
 | []=>some []
 |f::fs=>match nh T f.type,It T fs with
  |some ti,some l=>some ((f.offset,ti.i.size)::l)
  |_,_=>none
def Cp(l:List E)(off:Nat)(m:List E):List E:=l.take off++m++l.drop (off+m.length)
def th(σ:PS)(place:Nat->Option (Nat×Nat)):List E->List (Nat×Operand)->Option (List E)
 |l,[]=>some l
 |l,(i,x)::ps=>match place i,σ.op x with
  |some (off,size),.e e=>match e.cells? with
   |some m=>if Nat.beq m.length size&&Nat.ble (off+m.length) l.length then th σ place (Cp l off m) ps else none
   |none=>none
  |_,_=>none
def z8(ti:TI):Option (List E):=match ti.i.zero with
 |some z=>(E.v z).cells?
 |none=>none
def lf{α:Type}:Nat->List α->List α
 | 0,_=>[]
 |n+1,l=>l++lf n l
def oJ(P:Program)(op:BinOp)(t:TypeId)(x y:E)(v:Value):Prop:=∀ (bs br:Nat->Prop) (w:World) (a b:Value) (ox oy:Operand),iQ bs br w x a->iQ bs br w y b->(eqGuard op t ox oy a b).run P w = .ok () w/\(binOp op t a b).run P w = .ok v w
def afR(O:q8)(d:Option Tmp):Option Value:=match d with
 |some d=>match look O.cl d with
  |some (.v v)=>some v
  |_=>none
 |none=>none
def afQ(O:q8)(d:Option Tmp):Option Value:=match d with
 |some d=>look O.gi d
 |none=>none
def w7(e:E):Prop:=∀ (bs bs' br:Nat->Prop) (w:World) (v:Value),(∀ x,bs' x->bs x\/pD w x)->iQ bs br w e v->iQ bs' br w e v
def vH(σ:PS)(d:Nat)(b:Bx):mJ:=match σ.bo d with
 |none=>.new d b
 |some _=>.xK d b
def A0(σ:PS)(d:Nat)(is:List Nat):List Nat:=match σ.bo d with
 |none=>is
 |some _=>d::is
def F5(n sz:Nat)(el:Nat->Nat->E):Prop:=∀ i j,i<n->j<sz->w7 (el i j)
def BL(P:Program)(K:World->Prop)(O:q8)(σ:PS)(d:Option Tmp)(f:FuncId)(xs:List E)(is:List Nat)(ow:Bool):Option kO:=
 match(match d with
  |some d=>look O.cl d
  |none=>some .any)with
 |some kt=>if kt.plain 3||(σ.nl && !ow)then some { r:=.e kt,rb:=is,jV:=[PC P K f xs kt] }else if !ow then some { r:=.e kt,rb:=is,jV:=[I9 P K f xs kt] }
  else if σ.nl then some { r:=.e kt,rb:=is,jV:=[PC P K f xs kt,w7 kt] }else none
 |none=>match d with
  |some d=>match look O.nw d with
   |some (.row nl T n sz el)=>if σ.nl&&nl then some { r:=.own d,f:=vH σ d (.row nl T n sz el),rb:=A0 σ d is,jV:=vS P K f xs nl T n sz el::(if ow then[F5 n sz el]else[]) }else none
   |_=>none
  |none=>none
def AV(σ:PS)(d:Option Tmp)(b:Bx)(r:Nat->PV)(jV:List Prop):Option kO:=match d with
 |some d=>match σ.bo d with
  |none=>if !σ.nl||b.nl then some { r:=r d,f:=.new d b,jV:=jV }else none
  |some _=>none
 |none=>none
def PV.MD:PV->Option (Bool×Nat×Nat×(Nat->Nat->E))
 | .e (.sl nl n sz el)=>some (nl,n,sz,el)
 | .e (.nZ true nl n sz el)=>some (nl,n,sz,el)
 |_=>none
def Cf(σ:PS)(d:Option Tmp)(b:Bx)(r:Nat->PV):Option kO:=match d with
 |some d=>if !σ.nl||b.nl then some { r:=r d,f:=vH σ d b,rb:=A0 σ d [] }else none
 |none=>none
def BK(T:List TI)(σ:PS)(d:Option Tmp)(t:TypeId)(s x:PV):Option kO:=match x.MD with
 |some (nl2,m,sz2,el2)=>match nh T t with
  |some tt=>match tt.d with
   | .slice e=>match nh T e with
    |some te=>match z8 te with
     |some z=>if Nat.beq te.i.size sz2&&Nat.ble 1 sz2&&Nat.ble 1 te.i.bytes&&Nat.beq z.length sz2 then match s with
      | .own id=>match σ.bo id with
       |some (.row nl T1 n sz el)=>if Nat.beq T1 e&&Nat.beq sz sz2&&(!σ.nl||(nl&&(nl2&&z.all E.ng)))then
        some { r:=.own id,f:=.qg id (.row (nl&&(nl2&&z.all E.ng)) T1 (n+m) sz λi j=>if i<n then el i j else el2 (i-n) j),rb:=[id],jV:=[(n+m)*te.i.bytes<=140737488355328] }
        else none
       |_=>none
      | .iU id k=>match σ.bo id with
       |some (.ke nl T1 T0 n sz len el none)=>if Nat.beq T0 e&&Nat.beq sz sz2&&(!nl||(nl2&&z.all E.ng))then
        some { r:=.iU id k,f:=.tH id (.ke nl T1 T0 n sz (λq=>if q=k then len q+m else len q) (λq i j=>if q=k then(if i<len q then el q i j else el2 (i-len q) j)else el q i j) (some k)),rb:=[id],jV:=[k<n,(len k+m)*te.i.bytes<=140737488355328] }
        else none
       |_=>none
      | .e (.v (.slice none 0 0))=>AV σ d (.row (nl2&&z.all E.ng) e m sz2 el2) .own [m*te.i.bytes<=140737488355328]
      |_=>none
     else none
     |none=>none
    |none=>none
   |_=>none
  |none=>none
 |_=>none
def C2(T:List TI)(σ:PS)(d:Option Tmp)(t:TypeId)(s x:PV):Option kO:=match BK T { σ with nl:=false } d t s x with
 |some u=>match u.f,u.r with
  | .qg id (.row nl _ n sz el),.own id'=>if Nat.beq id' id then some { r:=.e (.sl nl n sz el),f:=.fin id,rb:=u.rb,jV:=True::u.jV }else none
  |_,_=>none
 |none=>none
def PV.FB:PV->Option Nat
 | .own q=>some q
 |_=>none
def Cm(σ:PS):List (Nat×Operand)->Option Nat
 | [(0,x)]=>(σ.op x).FB
 |_=>none
def Jz(T:List TI)(t:TypeId):Option (TypeId×Nat):=match nh T t with
 |some tt=>match tt.d with
  | .slice e=>match nh T e with
   |some te=>match z8 te with
    |some [z]=>if Nat.beq te.i.size 1&&Nat.ble 1 te.i.bytes&&z.ng then some (e,te.i.bytes)else none
    |_=>none
   |none=>none
  |_=>none
 |none=>none
def C4(T:List TI)(σ:PS)(d:Option Tmp)(t:TypeId)(n q:Nat):Option kO:=match d with
 |some id=>match σ.bo id,σ.bo q,Jz T t with
  |none,some (.row nl T0 m sz el),some (e,_)=>if Nat.beq n 1 && !Nat.beq id q then
   some { r:=.own id,f:=.pj id q (.ke nl e T0 1 sz (λ_=>m) (λ_=>el) none),rb:=[id,q] }else none
  |_,_,_=>none
 |none=>none
def C3(T:List TI)(σ:PS)(d:Option Tmp)(t:TypeId)(s:PV)(q:Nat):Option kO:=match σ.bo q,Jz T t with
 |some (.ke nl2 T2 T0 m sz len2 el2 none),some (e,by_)=>match s,d with
  | .own id,_=>match σ.bo id with
   |some (.ke nl T1 T0' n sz' len el none)=>if Nat.beq T1 e&&Nat.beq T2 e&&Nat.beq T0' T0&&Nat.beq sz' sz && !Nat.beq id q then
    some { r:=.own id,f:=.pj id q (.ke (nl&&nl2) T1 T0 (n+m) sz (λk=>if k<n then len k else len2 (k-n)) (λk=>if k<n then el k else el2 (k-n)) none),rb:=[id,q],jV:=[0<m,(n+m)*by_<=140737488355328] }else none
   |_=>none
  | .e (.v (.slice none 0 0)),some id=>match σ.bo id with
   |none=>if Nat.beq T2 e && !Nat.beq id q then
    some { r:=.own id,f:=.pj id q (.ke nl2 T2 T0 m sz len2 el2 none),rb:=[id,q],jV:=[0<m,m*by_<=140737488355328] }else none
   |_=>none
  |_,_=>none
 |_,_=>none
def TB(T:List TI)(t:TypeId)(l c:PV):Option (Bx×List Prop):=match l,c with
 | .e (.v (.int _ l)),.e (.v (.int _ c))=>match nh T t with
  |some tt=>match tt.d with
   | .slice e=>match nh T e with
    |some te=>match z8 te with
     |some z=>if Nat.beq te.i.size z.length&&Nat.ble 1 te.i.size then
      let jV:=[0<=l/\l<=c,(te.i.bytes:Int)*c<=281474976710656/\c<=9223372036854775807]
      match te.d with
      | .slice e0=>match nh T e0,z with
       |some t0,[.v (.slice none 0 0)]=>some (.ke true e e0 l.toNat t0.i.size (λ_=>0) (λ_ _ _=>.any) none,jV)
       |_,_=>none
      |_=>some (.row (z.all E.ng) e l.toNat te.i.size (λ_ j=>z.getD j .any),jV)
      else none
     |none=>none
    |none=>none
   |_=>none
  |none=>none
 |_,_=>none
def JN(T:List TI)(σ:PS)(d:Option Tmp)(t:TypeId)(l c:PV):Option kO:=match TB T t l c with
 |some (b,jV)=>AV σ d b .own jV
 |none=>none
def JO(T:List TI)(t:TypeId)(x:PV)(lo hi:Option PV):Option kO:=match x with
 | .e (.sl nl n sz el)=>match nh T t with
  |some tt=>match tt.d with
   | .slice e=>match nh T e with
    |some te=>if Nat.beq te.i.size sz then match lo,hi with
     |none,some (.e (.v (.int _ h)))=>some { r:=.e (.sl nl h.toNat sz el),jV:=[0<=h/\h<=n] }
     |some (.e (.v (.int _ l))),none=>some { r:=.e (.sl nl (n-l.toNat) sz λi j=>el (l.toNat+i) j),jV:=[0<=l/\l<=n] }
     |some (.e (.v (.int _ l))),some (.e (.v (.int _ h)))=>some { r:=.e (.sl nl (h.toNat-l.toNat) sz λi j=>el (l.toNat+i) j),jV:=[0<=l/\l<=h/\h<=n] }
     |_,_=>none
     else none
    |none=>none
   |_=>none
  |none=>none
 | .e (.nZ fl nl n sz el)=>match nh T t with
  |some tt=>match tt.d with
   | .slice e=>match nh T e with
    |some te=>if Nat.beq te.i.size sz then match lo,hi with
     |none,some (.e (.v (.int _ h)))=>some { r:=.e (.nZ fl nl h.toNat sz el),jV:=[0<=h/\h<=n] }
     |some (.e (.v (.int _ l))),none=>some { r:=.e (.nZ fl nl (n-l.toNat) sz λi j=>el (l.toNat+i) j),jV:=[0<=l/\l<=n] }
     |some (.e (.v (.int _ l))),some (.e (.v (.int _ h)))=>some { r:=.e (.nZ fl nl (h.toNat-l.toNat) sz λi j=>el (l.toNat+i) j),jV:=[0<=l/\l<=h/\h<=n] }
     |_,_=>none
     else none
    |none=>none
   |_=>none
  |none=>none
 |_=>none
def JK(T:List TI)(σ:PS)(t:TypeId)(x i:PV):Option kO:=match i with
 | .e (.v (.int _ z))=>match nh T t with
  |some tt=>match tt.d with
   | .slice e=>match nh T e with
    |some te=>match x with
     | .e (.sl _ n sz el)=>if Nat.beq te.i.size sz&&Nat.ble 1 sz then some { r:=.e (.jh sz (el z.toNat)),jV:=[0<=z/\z<n] }else none
     | .e (.nZ _ _ n sz el)=>if Nat.beq te.i.size sz&&Nat.ble 1 sz then some { r:=.e (.jh sz (el z.toNat)),jV:=[0<=z/\z<n] }else none
     | .own id=>match σ.bo id with
      |some (.row _ _ n sz _)=>if Nat.beq te.i.size sz then some { r:=.nQ id sz z.toNat 0,rb:=[id],jV:=[0<=z/\z<n] }else none
      |some (.ke _ _ _ n _ _ _ _)=>if Nat.beq te.i.size 1 then some { r:=.nQ id 1 z.toNat 0,rb:=[id],jV:=[0<=z/\z<n] }else none
      |_=>none
     | .iU id k=>match σ.bo id with
      |some (.ke _ _ _ n sz len _ _)=>if Nat.beq te.i.size sz then some { r:=.rE id sz k z.toNat 0,rb:=[id],jV:=[k<n,0<=z/\z<len k] }else none
      |_=>none
     |_=>none
    |none=>none
   | .array n e=>match nh T e with
    |some te=>match x with
     | .box id off=>some { r:=.box id (off+z.toNat*te.i.size),jV:=[0<=z/\z<n] }
     | .e (.jh m el)=>if Nat.beq (n*te.i.size) m then some { r:=.e (.jh te.i.size λj=>el (z.toNat*te.i.size+j)),jV:=[0<=z/\z<n] }else none
     |_=>none
    |none=>none
   |_=>none
  |none=>none
 |_=>none
def D3(l:List PV)(off:Nat)(m:List PV):List PV:=l.take off++m++l.drop (off+m.length)
def Bx.VW:Bx->Bool
 | .row ..=>true
 | .ke ..=>true
 |_=>false
def JR(ti:TI)(bi bq:Option Bx)(id off q:Nat):Option kO:=match bi,bq with
 |some (.cells T1 [_]),some (.row nl T0 n sz el)=>if(!Nat.beq id q&&Nat.beq ti.i.size 1)&&Nat.beq off 0 then
  some { r:=.e .any,f:=.pj id q (.ke nl T1 T0 1 sz (λ_=>n) (λ_=>el) none),rb:=[id,q] }else none
 |_,_=>none
def JQ(ti:TI)(bi bq:Option Bx)(id off q:Nat):Option kO:=match bi,bq with
 |some (.qe nl T1 l),some b=>if b.VW&&Nat.beq ti.i.size 1&&Nat.blt off l.length then
  some { r:=.e .any,f:=.sy id (.qe nl T1 (D3 l off [.own q])),rb:=[id,q] }else none
 |_,_=>none
def EJ(ti:TI)(bi bq:Option Bx)(id off q:Nat):Option kO:=match JR ti bi bq id off q with
 |some u=>some u
 |none=>JQ ti bi bq id off q
def JP(T:List TI)(σ:PS)(t:TypeId)(a x:PV):Option kO:=match nh T t with
 |some ti=>match a,x with
  | .box id off,.e e=>match σ.bo id,e.cells? with
   |some (.cells T1 l),some m=>if Nat.beq m.length ti.i.size&&Nat.ble (off+m.length) l.length&&(!σ.nl||m.all E.ng)then
    some { r:=.e .any,f:=.sy id (.cells T1 (Cp l off m)),rb:=[id] }else none
   |some (.qe nl T1 l),some m=>if Nat.beq m.length ti.i.size&&Nat.ble (off+m.length) l.length&&(!nl||m.all E.ng)then
    some { r:=.e .any,f:=.sy id (.qe nl T1 (D3 l off (m.map .e))),rb:=[id] }else none
   |_,_=>none
  | .box id off,.own q=>EJ ti (σ.bo id) (σ.bo q) id off q
  | .nQ id sz i j,.e e=>match σ.bo id,e.cells? with
   |some (.row nl T1 n s el),some m=>if Nat.beq m.length ti.i.size&&Nat.beq s sz&&Nat.ble (j+m.length) sz&&(!nl||m.all E.ng)&&m.all (E.nr 2)then
    some { r:=.e .any,f:=.sy id (.row nl T1 n s λi' j'=>if i'=i/\j<=j'/\j'<j+m.length then m.getD (j'-j) .any else el i' j'),rb:=[id],jV:=[i<n] }else none
   |_,_=>none
  | .nQ id 1 i 0,.iU id' k=>match σ.bo id with
   |some (.ke nl T1 T0 n sz len el (some k'))=>if Nat.beq id id'&&Nat.beq ti.i.size 1 then
    some { r:=.e .any,f:=.sy id (.ke nl T1 T0 n sz len el none),rb:=[id],jV:=[i=k',k=k',k'<n] }else none
   |_=>none
  |_,_=>none
 |none=>none
def tG:PV->PS->Option (Value×List Nat)
 | .e (.nZ _ _ n _ _),_=>some (.int .i64 (n:Int),[])
 | .e (.sl _ n _ _),_=>some (.int .i64 (n:Int),[])
 | .e (.v (.slice _ n _)),_=>some (.int .i64 (n:Int),[])
 | .own id,σ=>match σ.bo id with
  |some (.row _ _ n _ _)=>some (.int .i64 (n:Int),[id])
  |some (.ke _ _ _ n _ _ _ _)=>some (.int .i64 (n:Int),[id])
  |_=>none
 | .iU id k,σ=>match σ.bo id with
  |some (.ke _ _ _ n _ len _ _)=>if Nat.blt k n then some (.int .i64 (len k:Int),[id])else none
  |_=>none
 |_,_=>none
def Cc(ti:TI):Option (List E×List Nat×List Prop)->Option kO
 |some (l,is,jV)=>if ti.isAgg then some { r:=.e (.agg l),rb:=is,jV:=jV }else match l with
  | [e]=>some { r:=.e e,rb:=is,jV:=jV }
  |_=>none
 |none=>none
def D9(σ:PS):PV->Option (Nat×Nat×Nat)
 | .nQ id sz i j=>match σ.bo id with
  |some (.ke _ _ _ n _ _ _ none)=>if Nat.beq sz 1&&Nat.beq j 0 then some (id,i,n)else none
  |_=>none
 |_=>none
def K5:List PV->Nat->Option Nat
 | [],_=>none
 | .own q::_,0=>some q
 |_::_,0=>none
 |_::l,n+1=>K5 l n
def C8(σ:PS):PV->Option (Nat×Nat)
 | .box id off=>match σ.bo id with
  |some (.qe _ _ l)=>(K5 l off).map λq=>(id,q)
  |_=>none
 |_=>none
def JM(ti:TI)(σ:PS)(p:PV):Option kO:=match D9 σ p with
 |some (id,i,n)=>if ti.isAgg then none else some { r:=.iU id i,rb:=[id],jV:=[i<n] }
 |none=>Cc ti (σ.read p ti.i.size)
def JL(T:List TI)(σ:PS)(t:TypeId)(p:PV):Option kO:=match nh T t with
 |some ti=>match C8 σ p with
  |some (id,q)=>if ti.isAgg then none else some { r:=.own q,rb:=[id] }
  |none=>JM ti σ p
 |none=>none
def Jj(O:q8):Option Tmp->Bool
 |some d=>(look O.nw d).isSome
 |none=>false
def DU:List (Int×FuncId×List FuncId)->Int->Option E
 | [],_=>none
 |x::l,z=>if x.1=z then some (.fn x.2.1 (x.2.2.map λg=>.jh 1 λ_=>.fn g []))else DU l z
def afP(O:q8):Option Tmp->Option E
 |some d=>look O.cl d
 |none=>none
def jW(P:Program)(K:World->Prop)(T:List TI)(O:q8)(σ:PS)(o:Oper):Option kO:=match o.op with
 | .move x=>some { r:=σ.op x }
 | .assign x=>some { r:=σ.op x }
 | .pick c a b=>match σ.op c with
  | .e (.v (.bool true))=>some { r:=σ.op a }
  | .e (.v (.bool false))=>some { r:=σ.op b }
  |_=>none
 | .alloc t=>match nh T t with
  |some ti=>match z8 ti with
   |some z=>Cf σ o.dst (.cells t z) (.box · 0)
   |none=>none
  |none=>none
 | .box t x=>match σ.op x with
  | .e e=>match e.cells? with
   |some l=>Cf σ o.dst (.cells t l) (.box · 0)
   |none=>none
  |_=>none
 | .build t ps=>match nh T t with
  |some ti=>match z8 ti with
   |some z=>match ti.d with
    | .struct fs=>match It T fs.toList with
     |some pl=>(th σ (λi=>pl[i]?) z ps.toList).map λl=>{ r:=.e (.agg l) }
     |none=>none
    | .array _ e=>match nh T e with
     |some te=>(th σ (λi=>some (i*te.i.size,te.i.size)) z ps.toList).map λl=>{ r:=.e (.agg l) }
     |none=>none
    |_=>none
   |none=>none
  |none=>none
 | .buildSlice t n ps=>match Cm σ ps.toList with|some q=>C4 T σ o.dst t n q|none=>match nh T t with
  |some tt=>match tt.d with
   | .slice e=>match nh T e with
    |some te=>match z8 te with
     |some z=>if Nat.beq z.length te.i.size&&Nat.ble 1 te.i.size&&Nat.ble (n*te.i.size) 16777216 then
      (th σ (λi=>some (i*te.i.size,te.i.size)) (lf n z) ps.toList).bind λl=>
       if !(l.all (E.nr 2))then none else if Jj O o.dst then AV σ o.dst (.row (l.all E.ng) e n te.i.size λi j=>l.getD (i*te.i.size+j) (.v (.bool false))) .own [True]
       else if l.all E.ng then some { r:=.e (.sl true n te.i.size λi j=>l.getD (i*te.i.size+j) (.v (.bool false))) }
       else some { r:=.e (.sl false n te.i.size λi j=>l.getD (i*te.i.size+j) (.v (.bool false))) }
      else none
     |none=>none
    |none=>none
   |_=>none
  |none=>none
 | .load t a=>JL T σ t (σ.op a)
 | .store t a x=>JP T σ t (σ.op a) (σ.op x)
 | .nilCheck x=>match σ.op x with
  | .box id off=>some { r:=.box id off }
  | .e (.jh m el)=>some { r:=.e (.jh m el) }
  | .e (.fn f c)=>some { r:=.e (.fn f c) }
  | .ql f c=>some { r:=.ql f c }
  |_=>none
 | .binOp op t x y _=>match σ.op x,σ.op y with
  | .e (.v (.int k a)),.e (.v (.int k' b))=>
   match afQ O o.dst with
   |some v=>some { r:=.e (.v v),jV:=[oJ P op t (.v (.int k a)) (.v (.int k' b)) v] }
   |none=>if Zb op k k' then(Np op k a b).map λr=>{ r:=.e (.v r.1),jV:=r.2 }else none
  | .e (.v (.bool a)),.e (.v (.bool b))=>match xW T t with
   |some .bool=>match op with
    | .eql=>some { r:=.e (.v (.bool (a==b))) }
    | .neq=>some { r:=.e (.v (.bool (!(a==b)))) }
    |_=>none
   |_=>none
  | .e (.sl _ n _ _),.e (.v (.slice none 0 0))=>match xW T t with
   |some (.slice _)=>match op with
    | .eql=>some { r:=.e (.v (.bool false)),jV:=[0<n] }
    | .neq=>some { r:=.e (.v (.bool true)),jV:=[0<n] }
    |_=>none
   |_=>none
  | .e a,.e b=>match afR O o.dst with
   |some v=>some { r:=.e (.v v),jV:=[oJ P op t a b v] }
   |none=>none
  |_,_=>none
 | .unOp op _ x=>match op,σ.op x with
  | .not,.e (.v (.bool b))=>some { r:=.e (.v (.bool (!b))) }
  | .neg,.e (.v (.int k z))=>some { r:=.e (.v (.int k (0-z))),jV:=[kQ k (0-z)] }
  |_,_=>none
 | .convert src dst x=>match xW T dst,nh T src,σ.op x with
  |some (.int k),some _,.e (.v (.int _ z))=>some { r:=.e (.v (.int k (k.wrap z))) }
  |_,_,_=>none
 | .makeFunc (.func f) first cap=>if first.isEmpty then match xU (cap.toList.map σ.op)with
  |some l=>some { r:=.ql f l }
  |none=>none
  else none
 | .makeSlice t l c=>JN T σ o.dst t (σ.op l) (σ.op c)
 | .slice t x lo hi none=>JO T t (σ.op x) (lo.map σ.op) (hi.map σ.op)
 | .fieldAddr t x f=>match xW T t with
  |some (.struct fs)=>match fs[f]? with
   |some fd=>match nh T fd.type with
    |some ft=>if Nat.beq ft.i.size 0 then none else match σ.op x with
     | .box id off=>some { r:=.box id (off+fd.offset) }
     | .nQ id sz i j=>some { r:=.nQ id sz i (j+fd.offset) }
     | .rE id sz k i j=>some { r:=.rE id sz k i (j+fd.offset) }
     | .e (.jh m el)=>if Nat.ble fd.offset m then some { r:=.e (.jh (m-fd.offset) λj=>el (fd.offset+j)) }else none
     |_=>none
    |none=>none
   |none=>none
  |_=>none
 | .indexAddr t x i=>JK T σ t (σ.op x) (σ.op i)
 | .index t x i=>match σ.op x,σ.op i with
  | .e (.agg l),.e (.v (.int _ z))=>match nh T t with
   |some tt=>match tt.d with
    | .array n e=>match nh T e with
     |some te=>if te.isAgg&&Nat.beq (n*te.i.size) l.length then some { r:=.e (.agg ((l.drop (z.toNat*te.i.size)).take te.i.size)),jV:=[0<=z/\z<n] }else none
     |none=>none
    |_=>none
   |none=>none
  |_,_=>none
 | .field t x f=>match σ.op x,xW T t with
  | .e (.agg l),some (.struct fs)=>match fs[f]? with
   |some fd=>match nh T fd.type with
    |some ft=>if ft.isAgg then none else match l[fd.offset]? with
     |some e=>some { r:=.e e }
     |none=>none
    |none=>none
   |none=>none
  |_,_=>none
 | .lookup t x i false=>match σ.op x,σ.op i,xW T t with
  | .e (.mp l),.e (.v (.int .i64 z)),some (.map k _)=>match xW T k,afP O o.dst with
   |some (.int .i64),some e=>some { r:=.e e,jV:=[DU l z=some e] }
   |_,_=>none
  |_,_,_=>none
 | .extract x i=>match σ.op x with
  | .e (.iE l)=>match l[i]? with
   |some e=>some { r:=.e e }
   |none=>none
  |_=>none
 | .call c=>match c.callee with
  | .builtin .len=>match c.args.toList,c.argTypes.toList with
   | [x],[t]=>match xW T t with
    |some (.slice _)=>(tG (σ.op x) σ).map λr=>{ r:=.e (.v r.1),rb:=r.2 }
    |_=>none
   |_,_=>none
  | .builtin .append=>match c.args.toList,c.argTypes.toList with
   | [s,x],[t,t']=>if Nat.beq t t' then(match(σ.op x).FB with|some q=>C3 T σ o.dst t (σ.op s) q|none=>if Jj O o.dst then C2 T σ o.dst t (σ.op s) (σ.op x)else BK T σ o.dst t (σ.op s) (σ.op x))else none
   |_,_=>none
  | .builtin .max=>match c.args.toList.map σ.op with
   | [.e (.v (.int k a)),.e (.v (.int _ b))]=>some { r:=.e (.v (.int k (if b>a then b else a))) }
   | [.e (.v (.int k a)),.e (.v (.int _ b)),.e (.v (.int _ z))]=>some { r:=.e (.v (.int k (if z>(if b>a then b else a)then z else(if b>a then b else a)))) }
   |_=>none
  | .builtin .min=>match c.args.toList.map σ.op with
   | [.e (.v (.int k a)),.e (.v (.int _ b))]=>some { r:=.e (.v (.int k (if b<a then b else a))) }
   |_=>none
  | .value f=>match σ.op f,uX σ c.args.toList with
   | .e (.fn g cap),some (xs,is)=>BL P K O σ o.dst g (xs++cap) is ((c.args.toList.map σ.op).any (PV.xz σ))
   | .ql g cap,some (xs,is)=>match wb σ cap with
    |some (ys,js)=>BL P K O σ o.dst g (xs++ys) (is++js) ((c.args.toList.map σ.op).any (PV.xz σ)||cap.any CV.Hm)
    |none=>none
   |_,_=>none
  |_=>none
 |_=>none
structure Lk where
 mz:Nat->Prop
 own:Nat->Nat->Prop
 val:Nat->Value
 iU:Nat->Nat->Value
def jH(L:Lk)(x:Nat):Prop:=∃ id,L.own id x
def jl(B:Nat->Prop)(L:Lk)(x:Nat):Prop:=B x\/jH L x
def xP(bs br:Nat->Prop)(L:Lk)(w:World):CV->Value->Prop
 | .e x,v=>iQ bs br w x v
 | .box id,v=>L.mz id/\∃ b,L.val id = .pointer (some ⟨b,0,none⟩)/\v = .pointer (some ⟨b,0,none⟩)
 | .row id,v=>L.mz id/\∃ b n c,L.val id = .slice (some ⟨b,0,none⟩) n c/\v = .pointer (some ⟨b,0,none⟩)
def lF(bs br:Nat->Prop)(L:Lk)(w:World):PV->Value->Prop
 | .e x,v=>iQ bs br w x v
 | .box id off,v=>L.mz id/\∃ b,L.val id = .pointer (some ⟨b,0,none⟩)/\v = .pointer (some ⟨b,off,none⟩)
 | .own id,v=>L.mz id/\v=L.val id
 | .nQ id sz i j,v=>L.mz id/\∃ b n c,L.val id = .slice (some ⟨b,0,none⟩) n c/\v = .pointer (some ⟨b,i*sz+j,none⟩)
 | .iU id k,v=>L.mz id/\v=L.iU id k
 | .rE id sz k i j,v=>L.mz id/\∃ b n c,L.iU id k = .slice (some ⟨b,0,none⟩) n c/\v = .pointer (some ⟨b,i*sz+j,none⟩)
 | .ql f cap,v=>∃ vs:List Value,v = .func (.func f) #[] vs.toArray/\vs.length=cap.length/\∀ (i:Nat) (c:CV) (x:Value),cap[i]? = some c->vs[i]? = some x->xP bs br L w c x
def PV.le(p q:PV):Prop:=∀ (bs br:Nat->Prop) (L:Lk) (w:World) (v:Value),lF bs br L w p v->lF bs br L w q v
abbrev aj(a b:E):Prop:=PV.le (.e a) (.e b)
def wa(P:Program)(K:World->Prop)(T:List TI)(O:q8)(σ:PS)(o:Oper):Option kO:=match jW P K T O σ o with
 |some u=>match o.dst with
  |some d=>match look O.ov d with
   |some p=>some { u with r:=p,jV:=PV.le u.r p::u.jV }
   |none=>some u
  |none=>some u
 |none=>none
def Bl(ig:Array Oper)(σ:PS)(o:Oper):Option Bool:=match o.guard with
 |none=>some true
 |some (j,want)=>match(ig[j]?).bind (·.dst)with
  |some t=>match σ.get t with
   | .e (.v (.bool true))=>some want
   | .e (.v (.bool false))=>some (!want)
   | .e (.v (.tuple _))=>some false
   |_=>none
  |none=>none
def PS.app(σ:PS)(d:Option Tmp)(u:kO):PS:=(σ.oN u.f).put d u.r
def xy(σ:PS):Option Tmp->Bool
 |some d=>Nat.blt d σ.n
 |none=>true
def Io:Op->List Operand
 | .move x | .assign x | .box _ x | .load _ x | .nilCheck x | .unOp _ _ x | .convert _ _ x | .fieldAddr _ x _ | .field _ x _ | .extract x _=>[x]
 | .pick c a b=>[c,a,b]
 | .build _ ps | .buildSlice _ _ ps=>ps.toList.map (·.2)
 | .store _ a v | .binOp _ _ a v _ | .makeSlice _ a v | .indexAddr _ a v | .index _ a v | .lookup _ a v _=>[a,v]
 | .makeFunc _ first captured=>first.toList++captured.toList
 | .slice _ x l h m=>x::(l.toList++h.toList++m.toList)
 | .call c=>(match c.callee with | .value f=>[f] | .invoke r _=>[r] | .builtin _=>[])++c.args.toList
 |_=>[]
def FX:List Operand->List Tmp
 | []=>[]
 | .tmp t::l=>t::FX l
 |_::l=>FX l
def looks(ig:Array Oper)(o:Oper):List Tmp:=FX (Io o.op)++(match o.guard with
 |some (g,_)=>((ig[g]?).bind (·.dst)).toList
 |none=>[])
def mJ.AL:mJ->List Nat
 | .none=>[]
 | .new i _ | .sy i _ | .qg i _ | .tH i _ | .fin i | .xK i _=>[i]
 | .pj i r _=>[i,r]
def Bx.pJ(f:mJ)(b:Bx):Bool:=f.wZ&&b.lG.any λr=>f.AL.any λi=>Nat.beq i r
def PS.pJ(σ:PS)(f:mJ):Bool:=f.wZ&&σ.b.any λx=>match σ.bo x.1 with
 |some b=>b.pJ f
 |none=>false
def mJ.M5:mJ->List Nat
 | .new _ b | .sy _ b | .qg _ b | .tH _ b | .xK _ b | .pj _ _ b=>b.lG
 |_=>[]
def mJ.id:mJ->Option Nat
 | .none=>Option.none
 | .new i _ | .sy i _ | .qg i _ | .tH i _ | .fin i | .pj i _ _ | .xK i _=>some i
def PS.yK(σ:PS)(f:mJ):List Nat:=match f.id with
 |some i=>(match σ.bo i with
  |some b=>b.lG
  |none=>[])
 |none=>[]
def sf(P:Program)(K:World->Prop)(T:List TI)(O:q8)(ig:Array Oper)(σ:PS)(o:Oper):Option kO:=
 if xy σ o.dst then match Bl ig σ o with
  |some true=>match wa P K T O σ o with
   |some u=>some { u with rd:=(looks ig o).map σ.get,hb:=σ.pJ u.f,ob:=σ.yK u.f }
   |none=>none
  |some false=>some { r:=.e (.v (.tuple #[])),rd:=(looks ig o).map σ.get }
  |none=>none
 else none
def Of(l:List Nat)(n:Nat):Bool:=l.any (Nat.beq n)
def mJ.yC:mJ->Bool
 | .pj ..=>true
 | .xK ..=>true
 |_=>false
def AP:mJ->PV->Bool
 | .qg id _,.own i=>!Nat.beq i id
 | .qg id _,.nQ i _ _ _=>!Nat.beq i id
 | .qg id _,.ql _ cap=>!cap.any (CV.Hn id)
 | .tH id _,.iU i _=>!Nat.beq i id
 | .tH id _,.rE i _ _ _ _=>!Nat.beq i id
 | .fin id,p=>!p.lG.any (Nat.beq id)
 |_,_=>true
def yJ(l:List Nat):Option Nat->Bool
 |some d=>!Of l d
 |none=>true
def L4:Option Nat->Option Nat->Bool
 |some a,some b=>!Nat.beq a b
 |_,_=>true
def PM:PV->Bool
 | .e .any=>false
 |_=>true
def DA(ig:Array Oper)(x y:Oper×kO):Bool:=
 yJ (looks ig y.1) x.1.dst&&L4 x.1.dst y.1.dst&&yJ (looks ig x.1) y.1.dst &&
 yJ y.2.rb x.2.f.id&&yJ x.2.rb y.2.f.id&&L4 x.2.f.id y.2.f.id&&AP x.2.f y.2.r&&AP y.2.f x.2.r &&
 (!x.2.f.wZ||y.2.rd.all PM)&&x.2.rd.all (AP y.2.f) && !x.2.f.yC && !y.2.f.yC &&
 !x.2.hb && !y.2.hb&&yJ x.2.ob y.2.f.id&&yJ y.2.ob x.2.f.id&&yJ x.2.f.M5 y.2.f.id&&yJ y.2.f.M5 x.2.f.id
def DC(o:Oper)(i:Nat):Bool:=o.after.toList.any λe=>Region.binds .any e&&Nat.beq e.on i
def Cs(ig:Array Oper):Nat->Oper->Nat->Bool
 | 0,o,i=>DC o i
 |n+1,o,i=>DC o i||o.after.toList.any λe=>Region.binds .any e&&(match ig[e.on]? with
  |some z=>Cs ig n z i
  |none=>false)
def FC(ig:Array Oper):Nat->List (Oper×kO)->Bool
 |_,[]=>true
 |i,x::l=>x.1.after.toList.all (λe=>!Region.binds .any e||Nat.blt e.on i)&&l.all (λy=>Cs ig 3 y.1 i||DA ig x y)&&FC ig (i+1) l
def IW(σ:PS):PV->Option E
 | .e x=>if x.nr 3 then some x else none
 | .own id=>match σ.bo id with
  |some (.row nl _ n sz el)=>some (.sl nl n sz el)
  |some (.ke nl _ _ n sz len el none)=>some (.sl true n 1 λk _=>.sl nl (len k) sz (el k))
  |_=>none
 | .iU id k=>match σ.bo id with
  |some (.ke nl _ _ n sz len el none)=>if Nat.blt k n then some (.sl nl (len k) sz (el k))else none
  |_=>none
 |_=>none
def Qt(T:List TI)(σ:PS):ResultVar->Option E
 | .tmp t=>IW σ (σ.get t)
 | .cell a t=>match nh T t with
  |some ti=>match σ.read (σ.get a) ti.i.size with
   |some (l,_,[])=>if ti.isAgg then(if(E.agg l).nr 3 then some (.agg l)else none)else match l with
    | [e]=>if e.nr 3 then some e else none
    |_=>none
   |_=>none
  |none=>none
def FJ(T:List TI)(σ:PS):List ResultVar->Option (List E)
 | []=>some []
 |x::l=>match Qt T σ x,FJ T σ l with
  |some e,some es=>some (e::es)
  |_,_=>none
def Ls(T:List TI)(fn:Func)(σ:PS):Option E:=match FJ T σ fn.results.toList with
 |some [e]=>some e
 |some l=>some (.iE l)
 |none=>none
inductive Ex where
 |normal
 |exit (id:Nat)
 |ret
def GC:Code->Nat
 | .region id _ _=>id
 | .seq a _=>GC a
 | .cond _ a _=>GC a
 | .block _ b=>GC b
 | .loop b=>GC b
 |_=>0
def Hl:Nat->List E->List (Nat×PV)
 |_,[]=>[]
 |i,x::l=>(i,.e x)::Hl (i+1) l
def B7(fn:Func)(nl:Bool)(args:List E):PS:={ n:=fn.ntmps,nl:=nl,t:=Hl 0 args,b:=[] }
def lv{a b:Nat}:Nat.beq a b=true↔a=b:=⟨Nat.eq_of_beq_eq_true,λh=>by subst h;exact cJ a⟩
def df{a b:Nat}(h:a≠b):Nat.beq a b=false:=by
 cases hb:Nat.beq a b with
 |false=>rfl
 |true=>exact absurd (lv.1 hb) h
def uc{α:Type}(k:Nat)(x:α)(l:List (Nat×α))(t:Nat):look ((k,x)::l) t=if k=t then some x else look l t:=by
 by_cases h:k=t
 .subst h;simp[look]
 .simp [look,h,df h]
def Hu{α:Type}(l:List (Nat×α))(d t:Nat)(h:d≠t):look (l.filter λx=>!Nat.beq x.1 d) t=look l t:=by
 induction l with
 |nil=>rfl
 |cons y l ih=>
  obtain⟨k,x⟩:=y;rw[List.filter_cons];by_cases hk:k=d
  .subst hk;simp only[cJ,fI,bR,bI];rw[ih,uc,bA h]
  .simp only[df hk,fp,bN];rw[uc,uc,ih]
def KJ{α:Type}(l:List (Nat×α))(f:α->α)(t:Nat):look (l.map λx=>(x.1,f x.2)) t=(look l t).map f:=by
 induction l with
 |nil=>rfl
 |cons y l ih=>
  obtain⟨k,x⟩:=y;rw[e9,uc,uc,ih];split<;>rfl
def PS.NL(σ:PS)(d:Nat)(p:PV)(t:Nat):(σ.put (some d) p).get t=if d=t then p else σ.get t:=by
 unfold PS.get PS.put;simp only[uc];by_cases h:d=t
 .rw [bB h,bB h];rfl
 .rw [bA h,bA h,Hu _ _ _ h]
def PS.acr(σ:PS)(d:Option Tmp)(p:PV)(id:Nat):(σ.put d p).bo id=σ.bo id:=by cases d<;>rfl
def PS.PF(σ:PS)(d:Option Tmp)(p:PV):(σ.put d p).n=σ.n:=by cases d<;>rfl
def PS.ajg(σ:PS)(d:Option Tmp)(p:PV):(σ.put d p).nl=σ.nl:=by cases d<;>rfl
def DO(l:List (Nat×Bx))(id:Nat)(b:Bx)(t:Nat):look (uW l id b) t=if id=t then some b else look l t:=by
 unfold uW;rw[uc];by_cases h:id=t
 .rw [bB h,bB h]
 .rw [bA h,bA h,Hu _ _ _ h]
def WQ{α:Type}(l:List (Nat×α))(d:Nat):look (l.filter λx=>!Nat.beq x.1 d) d=none:=by
 induction l with
 |nil=>rfl
 |cons y l ih=>
  obtain⟨k,x⟩:=y;rw[List.filter_cons];by_cases hk:k=d
  .subst hk;simpa only[cJ,fI,bR,bI]using ih
  .simp only[df hk,fp,bN];rw[uc,bA hk,ih]
def DN{α:Type}(l:List (Nat×α))(i id:Nat):look (l.filter λx=>!Nat.beq x.1 i) id=if i=id then none else look l id:=by
 by_cases h:i=id
 .subst h;rw[bB rfl];exact WQ _ _
 .rw [bA h];exact Hu _ _ _ h
def DQ(b:Bx):b.rF (λp=>p)=b:=by cases b<;>simp[Bx.rF]
def WY{b:Bx}{g:PV->PV}(h:∀ p,p ∈ b.Lc->g p=p):b.rF g=b:=by
 cases b with
 |qe nl T l=>
  simp only[Bx.rF,Bx.qe.injEq,true_and]
  conv=>rhs;rw[<-List.map_id l]
  exact fu h
 |_=>rfl
def DR(b:Bx)(g:PV->PV):(b.rF g).nl=b.nl:=by cases b<;>rfl
def aaG{f:mJ}(h:f.wZ=false)(p:PV):p.lH f=p:=by
 cases f<;>first|(exact Bool.noConfusion h)|(cases p<;>rfl)
def PS.BA(σ:PS)(f:mJ)(i:Nat):look (σ.pre f) i=(σ.bo i).map (Bx.rF (PV.lH f)):=by
 unfold PS.pre PS.bo;by_cases h:f.wZ=true
 .rw [bB h,KJ]
 .rw [bA h];cases look σ.b i with
  |none=>rfl
  |some b=>simp only[cM];rw[WY λp _=>aaG (by simpa using h) p]
def PS.Db(σ:PS)(f:mJ)(t:Nat):(σ.oN f).get t=(σ.get t).lH f:=by
 unfold PS.get PS.oN;by_cases h:f.wZ=true
 .simp only[h,bN];rw[KJ];cases look σ.t t with
  |none=>cases f<;>rfl
  |some p=>rfl
 .have hv:∀ p:PV,p.lH f=p:=by
   intro p;cases f<;>first|exact absurd rfl h|(cases p<;>rfl)
  simp only[h,hv];rfl
def Rr(bs br:Nat->Prop)(L:Lk)(w:World)(id:Nat)(nl:Bool)(T1 T0:TypeId)(n sz:Nat)(len:Nat->Nat)(el:Nat->Nat->Nat->E)(pend:Option Nat):Prop:=∃ (b c:Nat) (cur:Array Value) (f:Nat->Nat->Nat->Value),L.val id = .slice (some ⟨b,0,none⟩) n c/\w.heap[b]? = some (.cells cur T1 (0,0))/\n<=c/\c<=maxLen/\cur.size=c /\
 (∀ k,k<n->pend≠some k->cur[k]? = some (L.iU id k))/\(∀ u,u ∈ cur->qI u=false) /\
 (∀ k,k<n->oh w (L.iU id k) T0 (len k) sz (f k) nl/\∀ i j,i<len k->j<sz->iQ bs br w (el k i j) (f k i j)/\(el k i j).nr 2=true) /\
 (∀ x,L.own id x↔x=b\/∃ k,k<n/\(L.iU id k).ownBlock=some x) /\
 (∀ k k' x,k<n->k'<n->(L.iU id k).ownBlock=some x->(L.iU id k').ownBlock=some x->k=k')/\(∀ k,k<n->(L.iU id k).ownBlock≠some b)
def nW(bs br:Nat->Prop)(L:Lk)(w:World)(id:Nat):Bx->Prop
 | .cells T l=>∃ b vs,L.val id = .pointer (some ⟨b,0,none⟩)/\(∀ x,L.own id x↔x=b)/\w.heap[b]? = some (.cells vs.toArray T (0,0))/\kJ bs br w l vs/\∀ u,u ∈ vs->u.oneCell'=true
 | .row nl T n sz el=>∃ f:Nat->Nat->Value,oh w (L.val id) T n sz f nl/\(∀ x,L.own id x↔(L.val id).ownBlock=some x)/\∀ i j,i<n->j<sz->iQ bs br w (el i j) (f i j)/\(el i j).nr 2=true
 | .ke nl T1 T0 n sz len el pend=>(L.val id = .slice none 0 0/\n=0/\∀ x,¬L.own id x)\/Rr bs br L w id nl T1 T0 n sz len el pend
 | .qe nl T l=>∃ (b:Nat) (vs:List Value),L.val id = .pointer (some ⟨b,0,none⟩)/\(∀ x,L.own id x↔x=b)/\w.heap[b]? = some (.cells vs.toArray T (0,0))/\vs.length=l.length /\
  (∀ (i:Nat) (p:PV) (v:Value),l[i]? = some p->vs[i]? = some v->lF bs br L w p v)/\∀ u,u ∈ vs->u.oneCell'=true/\(nl=true->qI u=false)
def nW.xL{bs br:Nat->Prop}{L:Lk}{w:World}{id:Nat}{nl:Bool}{T1 T0 n sz:Nat}{len:Nat->Nat}{el:Nat->Nat->Nat->E}{pend:Option Nat}(h:nW bs br L w id (.ke nl T1 T0 n sz len el pend))(hn:0<n):
 Rr bs br L w id nl T1 T0 n sz len el pend:=by
 rcases h with⟨_,h,_⟩|h
 .omega
 .exact h
structure jx(w0:World)(B:Nat->Prop)(σ:PS)(a:Act)(w:World)(L:Lk):Prop where
 hd:a.defers=[]
 hs:a.tmps.size=σ.n
 ht:∀ t,lF (jl B L) (jH L) L w (σ.get t) (a.tmps.getD t undef)
 hb:∀ id b,σ.bo id=some b->nW (jl B L) (jH L) L w id b
 hv:∀ id,L.mz id↔(σ.bo id).isSome=true
 hn:∀ id x,L.own id x->L.mz id
 hw:∀ id x,L.own id x->w0.heap.size<=x/\x<w.heap.size
 hi:∀ id id' x,L.own id x->L.own id' x->id=id'
 he:Below w0.heap.size w0 w
 hl:σ.nl=true->∀ id b,σ.bo id=some b->b.nl=true
structure r9(L:Lk)(w:World)(L':Lk)(w':World):Prop where
 size:w.heap.size<=w'.heap.size
 jH:∀ x,x<w.heap.size->Pu.jH L' x->Pu.jH L x
 pO:∀ x,x<w.heap.size->¬Pu.jH L x->w'.heap[x]? = w.heap[x]?
def r9.lf{B:Nat->Prop}{L L':Lk}{w w':World}(h:r9 L w L' w'){e:E}{v:Value}(k:iQ (jl B L) (Pu.jH L) w e v):iQ (jl B L') (Pu.jH L') w' e v:=by
 refine k.mono h.size (λb hb hx=>?_) (λb hb hx=>h.jH b hb hx) (λb hb xp=>h.pO b hb ?_)
 .rcases hx with hx|hx
  .exact .inl hx
  .exact .inr (h.jH b hb hx)
 .rcases xp with xp|xp
  .exact λhm=>xp (.inr hm)
  .exact xp
def oh.block{w w':World}{v:Value}{T:TypeId}{n sz:Nat}{f:Nat->Nat->Value}{nl:Bool}(h:oh w v T n sz f nl)
 (hk:∀ x,v.ownBlock=some x->w'.heap[x]? = w.heap[x]?):oh w' v T n sz f nl:=by
 rcases h with h|⟨b,c,cur,rfl,hg,r⟩
 .exact .inl h
 .exact .inr ⟨b,c,cur,rfl,by rw[hk b rfl];exact hg,r⟩
def nW.map{B:Nat->Prop}{L L':Lk}{w w':World}(h:r9 L w L' w'){id:Nat}{b:Bx}{g g':PV->PV}(k:nW (jl B L) (jH L) L w id (b.rF g))
 (hv:L'.val id=L.val id) (ho:∀ x,L'.own id x↔L.own id x) (lI:∀ j,L'.iU id j=L.iU id j) (hk:∀ x,L.own id x->w'.heap[x]? = w.heap[x]?)
 (hT:∀ p v,p ∈ b.Lc->lF (jl B L) (jH L) L w (g p) v->lF (jl B L') (jH L') L' w' (g' p) v):nW (jl B L') (jH L') L' w' id (b.rF g'):=by
 cases b with
 |qe nl T l=>
  obtain⟨b,vs,h1,h2,h3,h4,h5,h6⟩:=k;refine⟨b,vs,by rw[hv];exact h1,λx=>(ho x).trans (h2 x),by rw[hk b ((h2 b).2 rfl)];exact h3,by simpa using h4,λi p v hp hx=>?_,h6⟩;rw[cG]at hp;obtain⟨q,hq,rfl⟩:=ch.1 hp;exact hT q v (ef hq) (h5 i (g q) v (by rw[cG,hq];rfl) hx)
 |cells T l=>
  obtain⟨b,vs,h1,h2,h3,h4,h5⟩:=k;exact⟨b,vs,by rw[hv];exact h1,λx=>(ho x).trans (h2 x),by rw[hk b ((h2 b).2 rfl)];exact h3,h4.mono λ_ _=>h.lf,h5⟩
 |row nl T n sz el=>
  obtain⟨f,h1,h2,h3⟩:=k;exact⟨f,by rw[hv];exact h1.block λx hx=>hk x ((h2 x).2 hx),λx=>by rw[ho,hv];exact h2 x,λi j hi hj=>⟨h.lf (h3 i j hi hj).1,(h3 i j hi hj).2⟩⟩
 |ke nl T1 T0 n sz len el pend=>
  rcases k with⟨h1,h2,h3⟩|k
  .exact .inl ⟨by rw[hv];exact h1,h2,λx hx=>h3 x ((ho x).1 hx)⟩
  obtain⟨b,c,cur,f,h1,h2,h3,h4,h5,h6,h7,h8,h9,sE,sU⟩:=k;have e:L'.iU id=L.iU id:=funext lI;refine .inr ⟨b,c,cur,f,by rw[hv];exact h1,by rw[hk b ((h9 b).2 (.inl rfl))];exact h2,h3,h4,h5,by rw[e];exact h6,h7,?_,?_,by rw[e];exact sE,by rw[e];exact sU⟩
  .intro k Kk;obtain⟨q1,q2⟩:=h8 k Kk;rw[e];exact⟨q1.block λx hx=>hk x ((h9 x).2 (.inr ⟨k,Kk,hx⟩)),λi j hi hj=>⟨h.lf (q2 i j hi hj).1,(q2 i j hi hj).2⟩⟩
  .intro x;rw[ho,e];exact h9 x
def nW.later{B:Nat->Prop}{L L':Lk}{w w':World}(h:r9 L w L' w'){id:Nat}{b:Bx}(k:nW (jl B L) (jH L) L w id b)
 (hv:L'.val id=L.val id) (ho:∀ x,L'.own id x↔L.own id x) (lI:∀ j,L'.iU id j=L.iU id j) (hk:∀ x,L.own id x->w'.heap[x]? = w.heap[x]?)
 (hT:∀ p v,p ∈ b.Lc->lF (jl B L) (jH L) L w p v->lF (jl B L') (jH L') L' w' p v):nW (jl B L') (jH L') L' w' id b:=by
 have:=nW.map (g:=λp=>p) (g':=λp=>p) h (b:=b) (by rw[DQ];exact k) hv ho lI hk hT;rwa[DQ]at this
def xP.later{B:Nat->Prop}{L L':Lk}{w w':World}(h:r9 L w L' w'){c:CV}{v:Value}(k:xP (jl B L) (jH L) L w c v)
 (hv:∀ id,L.mz id->L'.mz id/\L'.val id=L.val id):xP (jl B L') (jH L') L' w' c v:=by
 cases c with
 |e x=>exact h.lf k
 |box id=>obtain⟨k1,b,k2,k3⟩:=k;exact⟨(hv id k1).1,b,by rw[(hv id k1).2];exact k2,k3⟩
 |row id=>obtain⟨k1,b,n,c,k2,k3⟩:=k;exact⟨(hv id k1).1,b,n,c,by rw[(hv id k1).2];exact k2,k3⟩
def lF.later{B:Nat->Prop}{L L':Lk}{w w':World}(h:r9 L w L' w'){p:PV}{v:Value}(k:lF (jl B L) (jH L) L w p v)
 (hv:∀ id,L.mz id->L'.mz id/\L'.val id=L.val id/\∀ j,L'.iU id j=L.iU id j):lF (jl B L') (jH L') L' w' p v:=by
 cases p with
 |e x=>exact h.lf k
 |box id off=>obtain⟨k1,b,k2,k3⟩:=k;exact⟨(hv id k1).1,b,by rw[(hv id k1).2.1];exact k2,k3⟩
 |own id=>obtain⟨k1,k2⟩:=k;exact⟨(hv id k1).1,by rw[(hv id k1).2.1];exact k2⟩
 |nQ id sz i j=>obtain⟨k1,b,n,c,k2,k3⟩:=k;exact⟨(hv id k1).1,b,n,c,by rw[(hv id k1).2.1];exact k2,k3⟩
 |iU id q=>obtain⟨k1,k2⟩:=k;exact⟨(hv id k1).1,by rw[(hv id k1).2.2];exact k2⟩
 |rE id sz q i j=>obtain⟨k1,b,n,c,k2,k3⟩:=k;exact⟨(hv id k1).1,b,n,c,by rw[(hv id k1).2.2];exact k2,k3⟩
 |ql f cap=>
  obtain⟨vs,k1,k2,k3⟩:=k;exact⟨vs,k1,k2,λi c x hc hx=>(k3 i c x hc hx).later h λid hl=>⟨(hv id hl).1,(hv id hl).2.1⟩⟩
def lF.move{B:Nat->Prop}{L L':Lk}{w w':World}(h:r9 L w L' w'){p:PV}{v:Value}(k:lF (jl B L) (jH L) L w p v)
 (hv:∀ id,id ∈ p.lG->L.mz id->L'.mz id/\L'.val id=L.val id/\∀ j,L'.iU id j=L.iU id j):lF (jl B L') (jH L') L' w' p v:=by
 cases p with
 |e x=>exact h.lf k
 |box id off=>obtain⟨k1,b,k2,k3⟩:=k;have q:=hv id (by simp[PV.lG]) k1;exact⟨q.1,b,by rw[q.2.1];exact k2,k3⟩
 |own id=>obtain⟨k1,k2⟩:=k;have q:=hv id (by simp[PV.lG]) k1;exact⟨q.1,by rw[q.2.1];exact k2⟩
 |nQ id sz i j=>obtain⟨k1,b,n,c,k2,k3⟩:=k;have q:=hv id (by simp[PV.lG]) k1;exact⟨q.1,b,n,c,by rw[q.2.1];exact k2,k3⟩
 |iU id r=>obtain⟨k1,k2⟩:=k;have q:=hv id (by simp[PV.lG]) k1;exact⟨q.1,by rw[q.2.2];exact k2⟩
 |rE id sz r i j=>obtain⟨k1,b,n,c,k2,k3⟩:=k;have q:=hv id (by simp[PV.lG]) k1;exact⟨q.1,b,n,c,by rw[q.2.2];exact k2,k3⟩
 |ql f cap=>
  obtain⟨vs,k1,k2,k3⟩:=k;refine⟨vs,k1,k2,λi c x hc hx=>?_⟩;have q:=k3 i c x hc hx;cases c with
  |e y=>exact h.lf q
  |box id=>
   obtain⟨q1,b,q2,q3⟩:=q;have r:=hv id (by simp only[PV.lG,dt];exact⟨.box id,ef hc,by simp[CV.lG]⟩) q1;exact⟨r.1,b,by rw[r.2.1];exact q2,q3⟩
  |row id=>
   obtain⟨q1,b,n,c,q2,q3⟩:=q;have r:=hv id (by simp only[PV.lG,dt];exact⟨.row id,ef hc,by simp[CV.lG]⟩) q1;exact⟨r.1,b,n,c,by rw[r.2.1];exact q2,q3⟩
def jx.later{w0:World}{B:Nat->Prop}{σ:PS}{a:Act}{w w':World}{L:Lk}(r:jx w0 B σ a w L)(h:Below w.heap.size w w'):jx w0 B σ a w' L:=by
 have hl:r9 L w L w':=⟨h.size,λ_ _ h=>h,λx hx _=>h.block x hx⟩
 refine⟨r.hd,r.hs,λt=>(r.ht t).later hl λid k=>⟨k,rfl,λ_=>rfl⟩,λid b hb=>(r.hb id b hb).later hl rfl (λ_=>Iff.rfl) (λ_=>rfl) (λx hx=>h.block x (r.hw id x hx).2) (λp v _ k=>k.later hl λid k=>⟨k,rfl,λ_=>rfl⟩),r.hv,r.hn,
  λid x hx=>⟨(r.hw id x hx).1,ca (r.hw id x hx).2 h.size⟩,r.hi,r.he.trans (h.mono r.he.size),r.hl⟩
def jx.drew{w0:World}{B:Nat->Prop}{σ:PS}{a:Act}{w:World}{L:Lk}(r:jx w0 B σ a w L):jx w0 B σ a w.drew L:=r.later (Below.refl _ _).drew
def jx.put{w0:World}{B:Nat->Prop}{σ:PS}{a:Act}{w:World}{L:Lk}(r:jx w0 B σ a w L)(d:Option Tmp)(p:PV)(v:Value)(hd:xy σ d=true)(hp:lF (jl B L) (jH L) L w p v):jx w0 B (σ.put d p) (a.put d v) w L:=by
 cases d with
 |none=>exact r
 |some d=>
  have Dh:d<σ.n:=by simpa[xy,fJ]using hd
  refine⟨r.hd,by simp[Act.put,r.hs,PS.PF],λt=>?_,λid b hb=>r.hb id b hb,r.hv,r.hn,r.hw,r.hi,r.he,r.hl⟩;rw[PS.NL];by_cases h:d=t
  .subst h;rw[bB rfl];have:(a.put (some d) v).tmps.getD d undef=v:=by
    simp[Act.put,Array.getElem?_setIfInBounds,r.hs,Dh]
   rw[this];exact hp
  .rw [bA h];have:(a.put (some d) v).tmps.getD t undef=a.tmps.getD t undef:=by
    simp[Act.put,ap2 h]
   rw[this];exact r.ht t
def jx.op{w0:World}{B:Nat->Prop}{σ:PS}{a:Act}{w:World}{L:Lk}(r:jx w0 B σ a w L)(x:Operand):lF (jl B L) (jH L) L w (σ.op x) (a.eval x):=by
 cases x with
 |tmp t=>exact r.ht t
 |const v=>exact .v v
 |global g=>exact .v _
 |func f=>exact .fn f [] [] rfl (λi p x h=>by simp at h)
def Lk.set(L:Lk)(id:Nat)(O:Nat->Prop)(v:Value)(iU:Nat->Value):Lk:=
 {mz:=λi=>i=id\/L.mz i
  own:=λi x=>if i=id then O x else L.own i x
  val:=λi=>if i=id then v else L.val i
  iU:=λi=>if i=id then iU else L.iU i }
section
variable {L:Lk} {id:Nat} {O:Nat->Prop} {v:Value} {iU:Nat->Value}
def Lk.s8(x:Nat):(L.set id O v iU).own id x↔O x:=by simp[Lk.set]
def Lk.pQ:(L.set id O v iU).val id=v:=by simp[Lk.set]
def Lk.sQ(k:Nat):(L.set id O v iU).iU id k=iU k:=by simp[Lk.set]
def Lk.CC:(L.set id O v iU).mz id:=.inl rfl
def Lk.CD{i:Nat}(h:i≠id)(x:Nat):(L.set id O v iU).own i x↔L.own i x:=by simp[Lk.set,h]
def Lk.zW{i:Nat}(h:i≠id):(L.set id O v iU).val i=L.val i:=by simp[Lk.set,h]
def Lk.Ee{i:Nat}(h:i≠id)(k:Nat):(L.set id O v iU).iU i k=L.iU i k:=by simp[Lk.set,h]
end
structure rK(L:Lk)(w:World)(id:Nat)(O:Nat->Prop)(w':World):Prop where
 own:∀ x,O x->(L.own id x\/w.heap.size<=x)/\x<w'.heap.size
 size:w.heap.size<=w'.heap.size
 pO:∀ x,x<w.heap.size->¬L.own id x->w'.heap[x]? = w.heap[x]?
 os:w'.os=w.os
 tape:w'.tape=w.tape
 output:w'.output=w.output
def rK.later{L:Lk}{w:World}{id:Nat}{O:Nat->Prop}{w':World}(h:rK L w id O w')(v:Value)(iU:Nat->Value):r9 L w (L.set id O v iU) w':=by
 refine⟨h.size,λx hx hm=>?_,λx hx hm=>h.pO x hx λho=>hm ⟨id,ho⟩⟩;obtain⟨i,hi⟩:=hm;by_cases e:i=id
 .subst e;rcases(h.own x ((Lk.s8 x).1 hi)).1 with k|k
  .exact ⟨i,k⟩
  .omega
 .exact ⟨i,(Lk.CD e x).1 hi⟩
def jx.set{w0:World}{B:Nat->Prop}{σ:PS}{a:Act}{w:World}{L:Lk}(r:jx w0 B σ a w L)(id:Nat)(b':Bx)(O:Nat->Prop)(v:Value)(iU:Nat->Value)(w':World)(f:mJ)
 (hf:f.MQ (σ.pre f)=uW (σ.pre f) id b') (ht:rK L w id O w')
 (hB:nW (jl B (L.set id O v iU)) (jH (L.set id O v iU)) (L.set id O v iU) w' id b')
 (hT:∀ p v0,lF (jl B L) (jH L) L w p v0->lF (jl B (L.set id O v iU)) (jH (L.set id O v iU)) (L.set id O v iU) w' (p.lH f) v0)
 (jZ:σ.nl=true->b'.nl=true):jx w0 B (σ.oN f) a w' (L.set id O v iU):=by
 have hl:=ht.later v iU;have jD:∀ i,(σ.oN f).bo i=if id=i then some b' else(σ.bo i).map (Bx.rF (PV.lH f)):=by
  intro i;show look (f.MQ (σ.pre f)) i=_;rw[hf,DO,PS.BA]
 have At:Below w0.heap.size w w':=⟨ht.os,ht.tape,ht.output,ht.size,λx hx=>ht.pO x (ca hx r.he.size) λho=>by have:=(r.hw id x ho).1;omega⟩
 refine⟨r.hd,r.hs,λt=>?_,λi b hb=>?_,λi=>?_,λi x hx=>?_,λi x hx=>?_,λi j x hi hj=>?_,r.he.trans At,λzp i b hb=>?_⟩
 .rw [PS.Db];exact hT _ _ (r.ht t)
 .rw [jD]at hb;by_cases e:id=i
  .subst e;rw[bB rfl]at hb;cases hb;exact hB
  .rw [bA e]at hb;have e':i≠id:=λh=>e h.symm
   obtain⟨b0,mr,rfl⟩:=ch.1 hb;exact nW.map (g:=λp=>p) hl (by rw[DQ];exact r.hb i b0 mr) (Lk.zW e') (Lk.CD e') (Lk.Ee e') (λx hx=>ht.pO x (r.hw i x hx).2 λho=>e (r.hi id i x ho hx)) λp v _ k=>hT p v k
 .rw [jD];by_cases e:id=i
  .subst e;rw[bB rfl];simp[Lk.set]
  .rw [bA e];have e':i≠id:=λh=>e h.symm
   simp only[Lk.set,e',false_or,fv];exact r.hv i
 .by_cases e:i=id
  .exact .inl e
  .exact .inr (r.hn i x ((Lk.CD e x).1 hx))
 .by_cases e:i=id
  .subst e;obtain⟨k1,k2⟩:=ht.own x ((Lk.s8 x).1 hx);refine⟨?_,k2⟩;rcases k1 with k1|k1
   .exact (r.hw i x k1).1
   .exact bH r.he.size k1
  .have:=r.hw i x ((Lk.CD e x).1 hx);exact⟨this.1,ca this.2 ht.size⟩
 .by_cases e1:i=id
  .by_cases e2:j=id
   .rw [e1,e2]
   .have k2:=(Lk.CD e2 x).1 hj;subst e1;rcases(ht.own x ((Lk.s8 x).1 hi)).1 with k|k
    .exact r.hi _ _ x k k2
    .have:=(r.hw j x k2).2;omega
  .have k1:=(Lk.CD e1 x).1 hi;by_cases e2:j=id
   .subst e2;rcases(ht.own x ((Lk.s8 x).1 hj)).1 with k|k
    .exact r.hi _ _ x k1 k
    .have:=(r.hw i x k1).2;omega
   .exact r.hi _ _ x k1 ((Lk.CD e2 x).1 hj)
 .rw [jD]at hb;by_cases e:id=i
  .rw [bB e]at hb;cases hb;exact jZ zp
  .rw [bA e]at hb;obtain⟨b0,mr,rfl⟩:=ch.1 hb;rw[DR];exact r.hl zp i b0 mr
def jx.new{w0:World}{B:Nat->Prop}{σ:PS}{a:Act}{w:World}{L:Lk}(r:jx w0 B σ a w L)(id:Nat)(b':Bx)(O:Nat->Prop)(v:Value)(iU:Nat->Value)(w':World)
 (kZ:σ.bo id=none) (hO:∀ x,O x->w.heap.size<=x/\x<w'.heap.size) (hb:Below w.heap.size w w')
 (hB:nW (jl B (L.set id O v iU)) (jH (L.set id O v iU)) (L.set id O v iU) w' id b')
 (jZ:(!σ.nl||b'.nl)=true):jx w0 B (σ.oN (.new id b')) a w' (L.set id O v iU):=by
 have US:¬L.mz id:=λh=>by have:=(r.hv id).1 h;rw[kZ]at this;simp at this
 have ht:rK L w id O w':=⟨λx hx=>⟨.inr (hO x hx).1,(hO x hx).2⟩,hb.size,λx hx _=>hb.block x hx,hb.os,hb.tape,hb.output⟩
 refine r.set id b' O v iU w' (.new id b') rfl ht hB (λp v0 hp=>?_) (λh=>by simpa[h]using jZ);have kB:∀ {i},L.mz i->i≠id:=λh e=>US (e▸h)
 have:p.lH (.new id b')=p:=by cases p<;>rfl
 rw[this];exact hp.later (ht.later v iU) λi hi=>⟨.inr hi,Lk.zW (kB hi),λj=>Lk.Ee (kB hi) j⟩
def jx.sy{w0:World}{B:Nat->Prop}{σ:PS}{a:Act}{w:World}{L:Lk}(r:jx w0 B σ a w L)(id:Nat)(b':Bx)(w':World)
 (qi:L.mz id) (ht:rK L w id (L.own id) w')
 (hB:nW (jl B (L.set id (L.own id) (L.val id) (L.iU id))) (jH (L.set id (L.own id) (L.val id) (L.iU id))) (L.set id (L.own id) (L.val id) (L.iU id)) w' id b')
 (jZ:σ.nl=true->b'.nl=true):jx w0 B (σ.oN (.sy id b')) a w' (L.set id (L.own id) (L.val id) (L.iU id)):=by
 refine r.set id b' _ _ _ w' (.sy id b') rfl ht hB (λp v0 hp=>?_) jZ;have:p.lH (.sy id b')=p:=by cases p<;>rfl
 rw[this];refine hp.later (ht.later _ _) λi hi=>⟨.inr hi,?_,λj=>?_⟩
 .by_cases e:i=id
  .subst e;exact Lk.pQ
  .exact Lk.zW e
 .by_cases e:i=id
  .subst e;exact Lk.sQ j
  .exact Lk.Ee e j
def jx.qg{w0:World}{B:Nat->Prop}{σ:PS}{a:Act}{w:World}{L:Lk}(r:jx w0 B σ a w L)(id:Nat)(b':Bx)(O:Nat->Prop)(v:Value)(w':World)
 (hp:∀ b,L.val id ≠ .pointer (some b)) (ht:rK L w id O w')
 (hB:nW (jl B (L.set id O v (L.iU id))) (jH (L.set id O v (L.iU id))) (L.set id O v (L.iU id)) w' id b')
 (jZ:σ.nl=true->b'.nl=true):jx w0 B (σ.oN (.qg id b')) a w' (L.set id O v (L.iU id)):=by
 have hl:=ht.later v (L.iU id);refine r.set id b' O v (L.iU id) w' (.qg id b') rfl ht hB (λp v0 rA=>?_) jZ;have B2:∀ i j,(L.set id O v (L.iU id)).iU i j=L.iU i j:=λi j=>by
  by_cases e:i=id
  .subst e;exact Lk.sQ j
  .exact Lk.Ee e j
 cases p with
 |e x=>exact hl.lf rA
 |box i off=>
  obtain⟨k1,b,k2,k3⟩:=rA;have e:i≠id:=λe=>by subst e;exact hp _ k2
  exact⟨.inr k1,b,by rw[Lk.zW e];exact k2,k3⟩
 |own i=>
  by_cases e:i=id
  .subst e;simp only[PV.lH,cJ,bN];exact .any _
  .simp only[PV.lH,df e,bR,bI];exact⟨.inr rA.1,by rw[Lk.zW e];exact rA.2⟩
 |nQ i s x j=>
  by_cases e:i=id
  .subst e;simp only[PV.lH,cJ,bN];exact .any _
  .simp only[PV.lH,df e,bR,bI];obtain⟨k1,b,n,c,k2,k3⟩:=rA;exact⟨.inr k1,b,n,c,by rw[Lk.zW e];exact k2,k3⟩
 |iU i k=>exact⟨.inr rA.1,by rw[B2];exact rA.2⟩
 |rE i s k x j=>obtain⟨k1,b,n,c,k2,k3⟩:=rA;exact⟨.inr k1,b,n,c,by rw[B2];exact k2,k3⟩
 |ql f cap=>
  cases pV:cap.any (CV.Hn id)with
  |true=>simp only[PV.lH,pV,bN];exact .any _
  |false=>
   simp only[PV.lH,pV,bR,bI];obtain⟨vs,k1,k2,k3⟩:=rA;refine⟨vs,k1,k2,λi c x hc hx=>?_⟩;have hk:=k3 i c x hc hx;cases c with
   |e y=>exact hl.lf hk
   |box q=>
    obtain⟨q1,b,q2,q3⟩:=hk;have e:q≠id:=λe=>by subst e;exact hp _ q2
    exact⟨.inr q1,b,by rw[Lk.zW e];exact q2,q3⟩
   |row q=>
    obtain⟨q1,b,n,c,q2,q3⟩:=hk;have e:q≠id:=λe=>by
     have:=dg.1 pV (.row q) (ef hc);subst e;simp[CV.Hn]at this
    exact⟨.inr q1,b,n,c,by rw[Lk.zW e];exact q2,q3⟩
def jx.tH{w0:World}{B:Nat->Prop}{σ:PS}{a:Act}{w:World}{L:Lk}(r:jx w0 B σ a w L)(id:Nat)(b':Bx)(O:Nat->Prop)(iU:Nat->Value)(w':World)
 (ht:rK L w id O w')
 (hB:nW (jl B (L.set id O (L.val id) iU)) (jH (L.set id O (L.val id) iU)) (L.set id O (L.val id) iU) w' id b')
 (jZ:σ.nl=true->b'.nl=true):jx w0 B (σ.oN (.tH id b')) a w' (L.set id O (L.val id) iU):=by
 have hl:=ht.later (L.val id) iU;refine r.set id b' O (L.val id) iU w' (.tH id b') rfl ht hB (λp v0 rA=>?_) jZ;have lV:∀ i,(L.set id O (L.val id) iU).val i=L.val i:=λi=>by
  by_cases e:i=id
  .subst e;exact Lk.pQ
  .exact Lk.zW e
 cases p with
 |e x=>exact hl.lf rA
 |box i off=>obtain⟨k1,b,k2,k3⟩:=rA;exact⟨.inr k1,b,by rw[lV];exact k2,k3⟩
 |own i=>exact⟨.inr rA.1,by rw[lV];exact rA.2⟩
 |nQ i s x j=>obtain⟨k1,b,n,c,k2,k3⟩:=rA;exact⟨.inr k1,b,n,c,by rw[lV];exact k2,k3⟩
 |iU i k=>
  by_cases e:i=id
  .subst e;simp only[PV.lH,cJ,bN];exact .any _
  .simp only[PV.lH,df e,bR,bI];exact⟨.inr rA.1,by rw[Lk.Ee e];exact rA.2⟩
 |rE i s k x j=>
  by_cases e:i=id
  .subst e;simp only[PV.lH,cJ,bN];exact .any _
  .simp only[PV.lH,df e,bR,bI];obtain⟨k1,b,n,c,k2,k3⟩:=rA;exact⟨.inr k1,b,n,c,by rw[Lk.Ee e];exact k2,k3⟩
 |ql f cap=>
  obtain⟨vs,k1,k2,k3⟩:=rA;refine⟨vs,k1,k2,λi c x hc hx=>(k3 i c x hc hx).later hl λj hj=>⟨.inr hj,lV j⟩⟩
structure Mj(w:World)(v:Value)(T:TypeId)(n sz m:Nat)(f g:Nat->Nat->Value)(nl:Bool)(v':Value)(w':World):Prop where
 own:oh w' v' T (n+m) sz (λi j=>if i<n then f i j else g (i-n) j) nl
 Gg:∀ x,v'.ownBlock=some x->v.ownBlock=some x\/(w.heap.size<=x/\x<w'.heap.size)
 size:w.heap.size<=w'.heap.size
 pO:∀ x,x<w.heap.size->v.ownBlock≠some x->w'.heap[x]? = w.heap[x]?
 os:w'.os=w.os
 tape:w'.tape=w.tape
 output:w'.output=w.output
def pr(n sz:Nat)(f:Nat->Nat->Value):List Value:=(List.range (n*sz)).map λq=>f (q/sz) (q%sz)
def xi(n sz:Nat)(f:Nat->Nat->Value):(pr n sz f).length=n*sz:=by simp[pr]
def NH{n sz:Nat}{f:Nat->Nat->Value}{i j:Nat}(hi:i<n)(hj:j<sz):(pr n sz f)[i*sz+j]? = some (f i j):=by
 have h1:i*sz+j<n*sz:=by
  have:=bY sz (show i+1<=n from hi);rw[cr,cv]at this;omega
 have h2:(i*sz+j)/sz=i:=by rw[bT,apK aC,dx hj,cg]
 have h3:(i*sz+j)%sz=j:=by rw[bT,gF,cH hj]
 simp[pr,h1,h2,h3]
def JS{n sz:Nat}{f:Nat->Nat->Value}{q:Nat}{u:Value}(h:(pr n sz f)[q]? = some u):q/sz<n/\q%sz<sz/\u=f (q/sz) (q%sz)/\q/sz*sz+q%sz=q:=by
 unfold pr at h;rw[cG]at h;obtain⟨x,hx,rfl⟩:=ch.1 h;obtain⟨h1,h2⟩:=cE.1 hx;simp at h1 h2;subst h2;have hz:0<sz:=by
  rcases fc sz with h0|h0
  .subst h0;simp at h1
  .exact h0
 exact⟨(cS hz).2 h1,bV _ hz,rfl,by rw[bT];exact c9 q sz⟩
def oh.row{w:World}{v:Value}{T:TypeId}{n sz:Nat}{f:Nat->Nat->Value}{nl:Bool}(h:oh w v T n sz f nl):w.ownsRow 0 T sz v n (pr n sz f):=by
 rcases h with⟨rfl,rfl⟩|⟨b,c,cur,rfl,hg,ph,oo,mX,kF,_⟩
 .exact ⟨xi _ _ _,.inl ⟨rfl,rfl⟩⟩
 .refine ⟨xi _ _ _,.inr ⟨b,c,cur,rfl,cj _,hg,ph,oo,mX,?_⟩⟩;apply gG;intro q;by_cases hq:q<n*sz
  .have hz:0<sz:=by
    rcases fc sz with h0|h0
    .subst h0;simp at hq
    .exact h0
   have h1:q/sz<n:=(cS hz).2 hq;have h2:=bV q hz;have h3:q/sz*sz+q%sz=q:=by rw[bT];exact c9 q sz
   have h4:=(kF _ _ h1 h2).1;have h5:=NH (f:=f) h1 h2;rw[h3]at h4 h5;rw[dM,bB hq,h5];simpa using h4
  .rw [dM,bA hq,cz (by rw[xi];omega)]
def Y9(P:Program)(w:World)(t ty e:TypeId)(i:TypeInfo)(z:Value)(sz:Nat)(ht:P.underlying t=some (.slice e))(hi:P.info? e=some i)(hz:i.zero=some z)
 (uM:i.size=sz) (VH:z.cells.size=sz) (lL:0<sz) (jE:1<=i.bytes) (apf:∀ u,u ∈ z.cells->u.oneCell'=true)
 (v:Value) (n:Nat) (f:Nat->Nat->Value) (nl:Bool) (mi:oh w v e n sz f nl)
 (A:Option Addr) (m c:Nat) (g:Nat->Nat->Value) (hA:∀ k j,k<m->j<sz->∃ b o,A=some ⟨b,o,none⟩/\w.cell? ⟨b,o+(k*sz+j),none⟩=some (g k j)) (wm:A=none->m=0)
 (h1:∀ k j,k<m->j<sz->(g k j).oneCell'=true/\(nl=true->qI (g k j)=false)) (VG:nl=true->∀ u,u ∈ z.cells->qI u=false)
 (Ka:(n+m)*i.bytes<=140737488355328):
 ∃ v' w',(Builtin.append_ #[t,t] ty #[v,.slice A m c]).run P w = .ok v' w'/\Mj w v e n sz m f g nl v' w':=by
 have hle:n+m<=(n+m)*i.bytes:=gV _ jE;have NO:n+m<=maxLen:=by unfold maxLen;omega
 have zi:∀ i j,i<n+m->j<sz->(pr n sz f++pr m sz g)[i*sz+j]? = some (if i<n then f i j else g (i-n) j):=by
  intro i j hi hj;by_cases lI:i<n
  .rw [bB lI,dO,NH lI hj];rw[xi];have:=bY sz (show i+1<=n from lI);rw[cr,cv]at this;omega
  .rw [bA lI,fK,xi]
   .have:i*sz+j-n*sz=(i-n)*sz+j:=by
     have:=Nat.sub_mul i n sz;have:=bY sz (aC:n<=i);omega
    rw[this,NH aC hj]
   .rw [xi];have:=bY sz (aC:n<=i);omega
 have Dk:∀ i j,i<n+m->j<sz->(if i<n then f i j else g (i-n) j).oneCell'=true:=by
  intro i j hi hj;split
  .rename_i lI;rcases mi with⟨_,h0⟩|⟨b,c,cur,_,_,_,_,_,hc,_⟩
   .omega
   .exact (hc i j lI hj).2
  .rename_i lI;exact(h1 (i-n) j aC hj).1
 have h1':∀ u ∈ pr m sz g,u.oneCell'=true:=by
  intro u hu;obtain⟨q,hq⟩:=dI.1 hu;obtain⟨q1,q2,rfl,_⟩:=JS hq;exact(h1 _ _ q1 q2).1
 have gnl:nl=true->∀ u,u ∈ pr m sz g->qI u=false:=by
  intro hn u hu;obtain⟨q,hq⟩:=dI.1 hu;obtain⟨q1,q2,rfl,_⟩:=JS hq;exact(h1 _ _ q1 q2).2 hn
 rcases A with _|ad
 .have hm:=wm rfl;subst hm;rcases mi with⟨rfl,rfl⟩|⟨b,cc,cur,rfl,hg,ph,oo,mX,kF,jZ⟩
  .refine ⟨.slice none 0 0,w,?_,.inl ⟨rfl,rfl⟩,λx hx=>.inl hx,bF _,λ_ _ _=>rfl,rfl,rfl,rfl⟩;simp[Builtin.append_,run_underlying ht,sizeOf,typeInfo,hi,Builtin.lenOf,Builtin.firstCells,loadCells,loadCellsFrom]
  .refine ⟨.slice (some ⟨b,0,none⟩) n cc,w,?_,.inr ⟨b,cc,cur,rfl,hg,ph,oo,mX,?_,jZ⟩,λx hx=>.inl hx,bF _,λ_ _ _=>rfl,rfl,rfl,rfl⟩
   .simp [Builtin.append_,run_underlying ht,sizeOf,typeInfo,hi,Builtin.lenOf,Builtin.firstCells,ph,storeCells]
   .intro i j hi hj;have lI:i<n:= aC ;simp only[lI,bN];exact kF i j lI hj
 .have OJ:∀ j u,(pr m sz g)[j]? = some u->w.cell? (ad.add j)=some u:=by
   intro q u hq;obtain⟨q1,q2,rfl,q4⟩:=JS hq;obtain⟨b,o,e,hc⟩:=hA _ _ q1 q2;cases e;rw[q4]at hc;rw[show(⟨b,o,none⟩:Addr).add q=⟨b,o+q,none⟩from Addr.add_lit _ _ _];exact hc
  rcases mi with⟨rfl,rfl⟩|⟨b,cc,cur,rfl,hg,ph,oo,mX,kF,jZ⟩
  .by_cases hm:m=0
   .subst hm;refine⟨.slice none 0 0,w,?_,.inl ⟨rfl,rfl⟩,λx hx=>.inl hx,bF _,λ_ _ _=>rfl,rfl,rfl,rfl⟩;simp[Builtin.append_,run_underlying ht,sizeOf,typeInfo,hi,Builtin.lenOf,Builtin.firstCells,loadCells,loadCellsFrom]
   .have hr:=run_append_nil (P:=P) w t ty e i z ht hi hz ad m c (pr m sz g) (by rw[xi,uM]) OJ aC (by unfold maxLen at NO;omega) (by have hb:=Ka;simp only[cD]at hb;omega);have tJ:=grownCap_ge w m 0 e;have oo:grownCap w m 0 e<=maxLen:=grownCap_le_maxLen w m 0 e aC;refine⟨_,_,hr,.inr ⟨w.heap.size,_,_,aH,heap_alloc_new w.drew _,aC,oo,?_,?_,?_⟩,λx hx=>.inr ?_,aH,λx hx _=>Below.heap_alloc w.drew _ x hx,rfl,rfl,rfl⟩
    .simp only[apL,fw,size_zeroCells,VH,xi,<-cr];congr 1;omega
    .intro i j hi hj;have:=zi i j hi hj;refine⟨?_,Dk i j hi hj⟩;simp only[pr,dc,List.range_zero,List.map_nil,List.nil_append]at this;rw[<-this,ap3]
     .simp [pr]
     .obtain ⟨q,_⟩:=cE.1 this;simpa[pr]using q
    .intro hn u hu;rcases fL.1 hu with hu|hu
     .exact gnl hn u (by simpa using hu)
     .simp only[Builtin.zeroCells,gH,gI]at hu;obtain⟨q,hq,rfl⟩:=hu;have iK:q%z.cells.size<z.cells.size:=bV _ aC;rw[fM z.cells _ iK];exact VG hn _ (gW iK)
    .simp [Value.ownBlock]at hx;subst hx;simp
  .by_cases OO:n+m<=cc
   .have GU:(pr m sz g).length=m*i.size:=by rw[xi,uM]
    have sj:n*i.size+(pr m sz g).length<=cur.size:=by rw[GU,mX,uM,<-cr];exact bY _ OO
    have hr:=run_append_room (P:=P) w t ty e i ht hi b n cc cur hg ad m c (pr m sz g) GU OJ h1' OO sj;have He:cur.toList.take (n*i.size)=pr n sz f:=by
     have OP:w.ownsRow 0 e sz (.slice (some ⟨b,0,none⟩) n cc) n (pr n sz f):=oh.row (nl:=nl) (.inr ⟨b,cc,cur,rfl,hg,ph,oo,mX,kF,jZ⟩);rcases OP.2 with⟨hh,_⟩|⟨b',c',cur',hh,_,UW,_,_,_,Kz⟩
     .cases hh
     .cases hh;rw[hg]at UW;cases UW;rw[uM];exact Kz
    refine⟨_,_,hr,.inr ⟨b,cc,_,rfl,setRow_heap w b cur _ e _ hg,OO,oo,?_,?_,?_⟩,λx hx=>.inl hx,aH,λx hx kB=>setRow_other w b x _ (λq=>kB (by simp[Value.ownBlock,q])),rfl,rfl,rfl⟩
    .simp only[fw,cC,cF,fe,dP];omega
    .intro k j hk hj;refine⟨?_,Dk k j hk hj⟩;rw[He,<-zi k j hk hj];have hq:k*sz+j<(pr n sz f++pr m sz g).length:=by
      obtain⟨q,_⟩:=cE.1 (zi k j hk hj);exact q
     rw[gX,dO hq]
    .intro hn u hu;simp only[gY,dK]at hu;rcases hu with(hu|hu)|hu
     .exact jZ hn u (by have:=et hu;simpa using this)
     .exact gnl hn u hu
     .exact jZ hn u (by have:=eK hu;simpa using this)
   .have OP:w.ownsRow 0 e sz (.slice (some ⟨b,0,none⟩) n cc) n (pr n sz f):=oh.row (nl:=nl) (.inr ⟨b,cc,cur,rfl,hg,ph,oo,mX,kF,jZ⟩);have holds:∀ j u,(pr n sz f)[j]? = some u->w.cell? ((⟨b,0,none⟩:Addr).add j)=some u:=OP.cells (g:=b) rfl;have hr:=run_append_grow (P:=P) w t ty e i z ht hi hz ⟨b,0,none⟩ n cc (pr n sz f) (by rw[xi,uM]) holds ad m c (pr m sz g) (by rw[xi,uM]) OJ aC (by unfold maxLen at NO;omega) (growslice_fits aC Ka);have tJ:=grownCap_ge w (n+m) cc e;have agN:grownCap w (n+m) cc e<=maxLen:=grownCap_le_maxLen w (n+m) cc e NO;refine⟨_,_,hr,.inr ⟨w.heap.size,_,_,aH,heap_alloc_new w.drew _,aC,agN,?_,?_,?_⟩,λx hx=>.inr ?_,aH,λx hx _=>Below.heap_alloc w.drew _ x hx,rfl,rfl,rfl⟩
    .simp only[apL,fw,size_zeroCells,VH,xi,<-cr];congr 1;omega
    .intro k j hk hj;refine⟨?_,Dk k j hk hj⟩;rw[<-zi k j hk hj];have hq:k*sz+j<(pr n sz f++pr m sz g).length:=by
      obtain⟨q,_⟩:=cE.1 (zi k j hk hj);exact q
     rw[ap3 (by simpa using hq)];simp
    .intro hn u hu;rcases fL.1 hu with hu|hu
     .rcases fL.1 hu with hu|hu
      .obtain ⟨q,hq⟩:=dI.1 (show u ∈ pr n sz f by simpa using hu);obtain⟨q1,q2,rfl,_⟩:=JS hq;exact jZ hn _ (eh (kF _ _ q1 q2).1)
      .exact gnl hn u (by simpa using hu)
     .simp only[Builtin.zeroCells,gH,gI]at hu;obtain⟨q,hq,rfl⟩:=hu;have iK:q%z.cells.size<z.cells.size:=bV _ aC;rw[fM z.cells _ iK];exact VG hn _ (gW iK)
    .simp [Value.ownBlock]at hx;subst hx;simp
def aaE{id:Nat}{b:Bx}{p:PV}(h:p.lG.any (Nat.beq id)=false):p.lH (.qg id b)=p:=by
 cases p with
 |own i=>
  have:Nat.beq i id=false:=by
   simp only[PV.lG,ej,fz,ff]at h;exact df λe=>by rw[e,cJ]at h;cases h
  simp[PV.lH,this]
 |nQ i s x j=>
  have:Nat.beq i id=false:=by
   simp only[PV.lG,ej,fz,ff]at h;exact df λe=>by rw[e,cJ]at h;cases h
  simp[PV.lH,this]
 |ql f cap=>
  have:cap.any (CV.Hn id)=false:=by
   rw[dg];intro c hc hr;cases c with
   |row i=>
    have hi:i=id:=lv.1 hr;have:=dg.1 h i (by simp only[PV.lG,dt];exact⟨.row i,hc,by simp[CV.lG]⟩);rw[hi,cJ]at this;exact this rfl
   |_=>cases hr
  simp[PV.lH,this]
 |_=>rfl
def jx.fin{w0:World}{B:Nat->Prop}{σ:PS}{a:Act}{w:World}{L:Lk}{id:Nat}{nl:Bool}{T n sz:Nat}{el:Nat->Nat->E}(hB:∀ b,B b->b<w0.heap.size)
 (r:jx w0 B (σ.oN (.qg id (.row nl T n sz el))) a w L):∃ L',jx w0 B (σ.oN (.fin id)) a w L'/\iQ (jl B L') (jH L') w (.sl nl n sz el) (L.val id):=by
 let L':Lk:=⟨λi=>L.mz i/\i≠id,λi x=>L.own i x/\i≠id,L.val,L.iU⟩
 have iK:r9 L w L' w:=⟨bF _,λx _ ⟨i,h,_⟩=>⟨i,h⟩,λ_ _ _=>rfl⟩
 have si:∀ i,(σ.oN (.fin id)).bo i=if i=id then none else(σ.bo i).map (Bx.rF (PV.lH (.fin id))):=by
  intro i;show look ((σ.pre (.fin id)).filter λx=>!Nat.beq x.1 id) i=_;rw[DN,PS.BA];by_cases h:i=id
  .subst h;simp
  .rw [bA h,bA (λe=>h e.symm)]
 have Oh:∀ i,i≠id->(σ.oN (.qg id (.row nl T n sz el))).bo i=(σ.bo i).map (Bx.rF (PV.lH (.qg id (.row nl T n sz el)))):=by
  intro i h;show look (uW (σ.pre (.qg id (.row nl T n sz el))) id (.row nl T n sz el)) i=_;rw[DO,PS.BA,bA (λe=>h e.symm)]
 have agK:(σ.oN (.qg id (.row nl T n sz el))).bo id=some (.row nl T n sz el):=by
  show look (uW (σ.pre (.qg id (.row nl T n sz el))) id (.row nl T n sz el)) id=_;rw[DO,bB rfl]
 have BW:∀ x,L.own id x->¬jl B L' x:=by
  rintro x hx (h|⟨i,h1,h2⟩)
  .have:=hB x h;have:=(r.hw id x hx).1;omega
  .exact h2 (r.hi i id x h1 hx)
 have hold:iQ (jl B L') (jH L') w (.sl nl n sz el) (L.val id):=by
  obtain⟨f,h1,h2,h3⟩:=r.hb id _ agK;rcases h1 with⟨h0,rfl⟩|⟨b,c,cur,h0,hg,ph,oo,mX,kF,jZ⟩
  .rw [h0];exact .sl nl 0 sz el none 0 f (bF _) aE (λ_=>rfl) (λi j hi=>absurd hi (bG i)) (λi j hi=>absurd hi (bG i)) (λi j hi=>absurd hi (bG i)) (λi j hi=>absurd hi (bG i))
  .have tN:=(h2 b).2 (by rw[h0];rfl);rw[h0];refine .sl nl n sz el _ c f ph (by unfold maxLen at oo;omega) (λh=>by cases h) (λi j hi hj=>⟨(kF i j hi hj).2,λhn=>jZ hn _ (eh (kF i j hi hj).1)⟩) (λi j hi hj=>(h3 i j hi hj).2)
    (λi j hi hj=>⟨b,0,rfl,BW b tN,(r.hw id b tN).2,?_⟩) (λi j hi hj=>iK.lf (h3 i j hi hj).1)
   rw[cD];simp only[World.cell?,hg];simpa using(kF i j hi hj).1
 have hT:∀ (p:PV) (v:Value),lF (jl B L) (jH L) L w (p.lH (.qg id (.row nl T n sz el))) v->lF (jl B L') (jH L') L' w (p.lH (.fin id)) v:=by
  intro p v k;show lF _ _ _ _ (if p.lG.any (Nat.beq id)then .e .any else p) _;cases hp:p.lG.any (Nat.beq id)with
  |true=>exact .any _
  |false=>
   rw[aaE hp]at k;refine lF.move iK k λi hi qi=>⟨⟨qi,?_⟩,rfl,λ_=>rfl⟩
   rintro rfl;have:=dg.1 hp i hi;simp at this
 refine⟨L',⟨r.hd,r.hs,λt=>?_,λi b' h=>?_,λi=>?_,λi x h=>⟨r.hn i x h.1,h.2⟩,λi x h=>r.hw i x h.1,λi i' x h k=>r.hi i i' x h.1 k.1,r.he,λh i b' k=>?_⟩,hold⟩
 .have k:=r.ht t;rw[PS.Db]at k ⊢;exact hT _ _ k
 .rw [si]at h;split at h
  .cases h
  .rename_i hi;obtain⟨b0,mr,rfl⟩:=ch.1 h;exact nW.map iK (r.hb i _ (by rw[Oh i hi,mr];rfl)) rfl (λx=>⟨λq=>q.1,λq=>⟨q,hi⟩⟩) (λ_=>rfl) (λ_ _=>rfl) λp v _ k=>hT p v k
 .rw [si];show L.mz i/\i≠id↔_;by_cases hi:i=id
  .subst hi;simp
  .simp only[hi,du,fg,fN,bI];rw[r.hv i,Oh i hi,fv,fv]
 .rw [si]at k;split at k
  .cases k
  .rename_i hi;obtain⟨b0,mr,rfl⟩:=ch.1 k;have:=r.hl h i _ (by rw[Oh i hi,mr];rfl);rw[DR]at this ⊢;exact this
def Rc{id q:Nat}{b:Bx}{p:PV}(h:p.lG.any (λx=>Nat.beq id x||Nat.beq q x)=false):p.lH (.pj id q b)=p:=by
 cases p with
 |box i off=>
  simp only[PV.lG,ej,fz,ff,ek]at h;have h1:Nat.beq i id=false:=df λe=>by rw[e,cJ]at h;cases h.1
  have h2:Nat.beq i q=false:=df λe=>by rw[e,cJ]at h;cases h.2
  simp[PV.lH,h1,h2]
 |e x=>simp[PV.lH,PV.lG]
 |own i=>show(if(PV.lG (.own i)).any _=true then _ else _)=_;rw[h];rfl
 |nQ i a b c=>show(if(PV.lG (.nQ i a b c)).any _=true then _ else _)=_;rw[h];rfl
 |iU i k=>show(if(PV.lG (.iU i k)).any _=true then _ else _)=_;rw[h];rfl
 |rE i s k x j=>show(if(PV.lG (.rE i s k x j)).any _=true then _ else _)=_;rw[h];rfl
 |ql f cap=>show(if(PV.lG (.ql f cap)).any _=true then _ else _)=_;rw[h];rfl
def aaF{id q:Nat}{b:Bx}{p:PV}(h:p.lG.any (λx=>Nat.beq id x||Nat.beq q x)=true)(hb:∀ i off,p ≠ .box i off):p.lH (.pj id q b) = .e .any:=by
 cases p with
 |box i off=>exact absurd rfl (hb i off)
 |e x=>simp[PV.lG]at h
 |own i=>show(if(PV.lG (.own i)).any _=true then _ else _)=_;rw[h];rfl
 |nQ i a b c=>show(if(PV.lG (.nQ i a b c)).any _=true then _ else _)=_;rw[h];rfl
 |iU i k=>show(if(PV.lG (.iU i k)).any _=true then _ else _)=_;rw[h];rfl
 |rE i s k x j=>show(if(PV.lG (.rE i s k x j)).any _=true then _ else _)=_;rw[h];rfl
 |ql f cap=>show(if(PV.lG (.ql f cap)).any _=true then _ else _)=_;rw[h];rfl
def jx.pj{w0:World}{B:Nat->Prop}{σ:PS}{a:Act}{w:World}{L:Lk}(r:jx w0 B σ a w L){id q T1 T0 n sz:Nat}{nl:Bool}{el:Nat->Nat->E}{x:E}
 (hid:σ.bo id=some (.cells T1 [x])) (hq:σ.bo q=some (.row nl T0 n sz el)) (kB:id≠q) {b:Nat} (hv:L.val id = .pointer (some ⟨b,0,none⟩)) {w':World} (hw:w'.heap[b]? = some (.cells #[L.val q] T1 (0,0)))
 (ht:rK L w id (L.own id) w'):∃ L',jx w0 B (σ.oN (.pj id q (.ke nl T1 T0 1 sz (λ_=>n) (λ_=>el) none))) a w' L':=by
 let L':Lk:=⟨λi=>L.mz i/\i≠q,λi y=>if i=id then L.own id y\/L.own q y else L.own i y/\i≠q,λi=>if i=id then .slice (some ⟨b,0,none⟩) 1 1 else L.val i,λi j=>if i=id then L.val q else L.iU i j⟩
 have ag0:∀ y,jH L' y->jH L y:=by
  rintro y ⟨i,hi⟩;by_cases e:i=id
  .have hi:L.own id y\/L.own q y:=by simpa[L',e]using hi
   rcases hi with h|h
   .exact ⟨id,h⟩
   .exact ⟨q,h⟩
  .have hi:L.own i y/\i≠q:=by simpa[L',e]using hi
   exact⟨i,hi.1⟩
 have ao8:∀ y,jH L y->jH L' y:=by
  rintro y ⟨i,hi⟩;by_cases e:i=id\/i=q
  .refine ⟨id,?_⟩;show if id=id then L.own id y\/L.own q y else _
   rw[bB rfl];rcases e with e|e<;>subst e
   .exact .inl hi
   .exact .inr hi
  .have e1:i≠id:=λh=>e (.inl h)
   have e2:i≠q:=λh=>e (.inr h)
   refine⟨i,?_⟩;show if i=id then _ else L.own i y/\i≠q
   rw[bA e1];exact⟨hi,e2⟩
 have iK:r9 L w L' w':=⟨ht.size,λy _ h=>ag0 y h,λy hy hm=>ht.pO y hy λho=>hm ⟨id,ho⟩⟩
 have lV:∀ i,i≠id->L'.val i=L.val i:=λi e=>by show(if i=id then _ else _)=_;rw[bA e]
 have B2:∀ i,i≠id->∀ j,L'.iU i j=L.iU i j:=λi e j=>by show(if i=id then _ else _)=_;rw[bA e]
 have mi:∀ i,i≠id->∀ y,L'.own i y↔L.own i y/\i≠q:=λi e y=>by show(if i=id then _ else _)↔_;rw[bA e]
 have AG:∀ y,L'.own id y↔L.own id y\/L.own q y:=λy=>by show(if id=id then _ else _)↔_;rw[bB rfl]
 obtain⟨b0,vs,i1,i2,i3,i4,i5⟩:=r.hb id _ hid;rw[hv]at i1;cases i1;obtain⟨f,q1,q2,q3⟩:=r.hb q _ hq;have qi:L.mz id:=(r.hv id).2 (by rw[hid];rfl);have Ks:∀ i y,i≠id->L.own i y->w'.heap[y]? = w.heap[y]?:=λi y e hy=>ht.pO y (r.hw i y hy).2 λho=>e (r.hi i id y hy ho)
 have jD:∀ i,(σ.oN (.pj id q (.ke nl T1 T0 1 sz (λ_=>n) (λ_=>el) none))).bo i=if id=i then some (.ke nl T1 T0 1 sz (λ_=>n) (λ_=>el) none)else if i=q then none else(σ.bo i).map (Bx.rF (PV.lH (.pj id q (.ke nl T1 T0 1 sz (λ_=>n) (λ_=>el) none)))):=by
  intro i;show look (uW ((σ.pre (.pj id q (.ke nl T1 T0 1 sz (λ_=>n) (λ_=>el) none))).filter λy=>!Nat.beq y.1 q) id _) i=_;rw[DO];by_cases e:id=i
  .rw [bB e,bB e]
  .rw [bA e,bA e,DN,PS.BA];by_cases e2:q=i
   .rw [bB e2,bB e2.symm]
   .rw [bA e2,bA λh=>e2 h.symm]
 have At:Below w0.heap.size w w':=⟨ht.os,ht.tape,ht.output,ht.size,λy hy=>ht.pO y (ca hy r.he.size) λho=>by have:=(r.hw id y ho).1;omega⟩
 have kF:(L.val q).oneCell'=true/\qI (L.val q)=false:=by
  rcases q1 with⟨h,_⟩|⟨b1,c1,cur,h,_⟩<;>rw[h]<;>exact⟨rfl,rfl⟩
 have hT:∀ (p:PV) (v:Value),lF (jl B L) (jH L) L w p v->lF (jl B L') (jH L') L' w' (p.lH (.pj id q (.ke nl T1 T0 1 sz (λ_=>n) (λ_=>el) none))) v:=by
  intro p v k;cases hp:p.lG.any (λy=>Nat.beq id y||Nat.beq q y)with
  |false=>
   rw[Rc hp];refine k.move iK λi hi hl=>?_
   have:=dg.1 hp i hi;simp only[eo,not_or]at this;have e1:i≠id:=λe=>this.1 (by rw[e];exact cJ _)
   have e2:i≠q:=λe=>this.2 (by rw[e];exact cJ _)
   exact⟨⟨hl,e2⟩,lV i e1,B2 i e1⟩
  |true=>
   by_cases jo:∃ i off,p = .box i off
   .obtain ⟨i,off,rfl⟩:=jo;obtain⟨k1,b1,k2,k3⟩:=k;by_cases e1:i=id
    .subst e1;by_cases e0:off=0
     .subst e0;simp only[PV.lH,cJ,bN];rw[hv]at k2;cases k2;exact⟨⟨k1,kB⟩,b,1,1,by show(if i=i then _ else _)=_;rw[bB rfl],k3⟩
     .simp only[PV.lH,cJ,bN,df e0,bR,bI];exact .any _
    .have e2:i=q:=by
      simp only[PV.lG,ej,fz,ff,eo]at hp;rcases hp with hp|hp
      .exact absurd (lv.1 hp).symm e1
      .exact (lv.1 hp).symm
     simp only[PV.lH,df e1,bR,bI,e2,cJ,bN];have e3:Nat.beq q id=false:=df λh=>kB h.symm
     simp only[e3,bR,bI];exact .any _
   .rw [aaF hp λi off h=>jo ⟨i,off,h⟩];exact .any _
 refine⟨L',r.hd,r.hs,λt=>?_,λi b' hb=>?_,λi=>?_,λi y hy=>?_,λi y hy=>?_,λi j y hi hj=>?_,r.he.trans At,λzp i b' hb=>?_⟩
 .rw [PS.Db];exact hT _ _ (r.ht t)
 .rw [jD]at hb;by_cases e:id=i
  .subst e;rw[bB rfl]at hb;cases hb;have GY:∀ j,L'.iU id j=L.val q:=λj=>by show(if id=id then _ else _)=_;rw[bB rfl]
   refine .inr ⟨b,1,#[L.val q],λ_=>f,by show(if id=id then _ else _)=_;rw[bB rfl],hw,bF _,aE,rfl,λk hk _=>?_,λu hu=>?_,λk hk=>?_,λy=>?_,λk k' y hk GZ _ _=> aC,λk hk=>?_⟩
   .obtain rfl:k=0:= aC ;rw[GY];rfl
   .have:u=L.val q:=by simpa using hu
    rw[this];exact kF.2
   .rw [GY];exact⟨q1.block λy hy=>Ks q y (λh=>kB h.symm) ((q2 y).2 hy),λi j hi hj=>⟨iK.lf (q3 i j hi hj).1,(q3 i j hi hj).2⟩⟩
   .rw [AG];constructor
    .rintro (h|h)
     .exact .inl ((i2 y).1 h)
     .exact .inr ⟨0,aE,by rw[GY];exact(q2 y).1 h⟩
    .rintro (h|⟨k,_,h⟩)
     .exact .inl ((i2 y).2 h)
     .rw [GY]at h;exact .inr ((q2 y).2 h)
   .rw [GY];intro h;exact kB (r.hi id q b ((i2 b).2 rfl) ((q2 b).2 h))
  .rw [bA e]at hb;by_cases e2:i=q
   .rw [bB e2]at hb;cases hb
   .rw [bA e2]at hb;have e':i≠id:=λh=>e h.symm
    obtain⟨b0',mr,rfl⟩:=ch.1 hb;exact nW.map (g:=λp=>p) iK (by rw[DQ];exact r.hb i b0' mr) (lV i e') (λy=>(mi i e' y).trans ⟨λh=>h.1,λh=>⟨h,e2⟩⟩) (B2 i e') (λy hy=>Ks i y e' hy) λp v _ k=>hT p v k
 .rw [jD];show L.mz i/\i≠q↔_;by_cases e:id=i
  .subst e;rw[bB rfl];exact⟨λ_=>rfl,λ_=>⟨qi,kB⟩⟩
  .rw [bA e];by_cases e2:i=q
   .subst e2;simp
   .rw [bA e2];rw[fv];exact⟨λh=>(r.hv i).1 h.1,λh=>⟨(r.hv i).2 h,e2⟩⟩
 .by_cases e:i=id
  .subst e;exact⟨qi,kB⟩
  .have:=(mi i e y).1 hy;exact⟨r.hn i y this.1,this.2⟩
 .by_cases e:i=id
  .subst e;rcases(AG y).1 hy with h|h
   .exact ⟨(r.hw _ y h).1,ca (r.hw _ y h).2 ht.size⟩
   .exact ⟨(r.hw _ y h).1,ca (r.hw _ y h).2 ht.size⟩
  .have h:=((mi i e y).1 hy).1;exact⟨(r.hw _ y h).1,ca (r.hw _ y h).2 ht.size⟩
 .by_cases e1:i=id
  .by_cases e2:j=id
   .rw [e1,e2]
   .exfalso;subst e1;have h2:=(mi j e2 y).1 hj;rcases(AG y).1 hi with h|h
    .exact e2 (r.hi j _ y h2.1 h)
    .exact h2.2 (r.hi j q y h2.1 h)
  .by_cases e2:j=id
   .exfalso;subst e2;have h1:=(mi i e1 y).1 hi;rcases(AG y).1 hj with h|h
    .exact e1 (r.hi i _ y h1.1 h)
    .exact h1.2 (r.hi i q y h1.1 h)
   .exact r.hi i j y ((mi i e1 y).1 hi).1 ((mi j e2 y).1 hj).1
 .rw [jD]at hb;by_cases e:id=i
  .rw [bB e]at hb;cases hb;show nl=true;exact r.hl zp q (.row nl T0 n sz el) hq
  .rw [bA e]at hb;by_cases e2:i=q
   .rw [bB e2]at hb;cases hb
   .rw [bA e2]at hb;obtain⟨b0',mr,rfl⟩:=ch.1 hb;rw[DR];exact r.hl zp i b0' mr
def Lk.qV(L:Lk)(id q:Nat)(O:Nat->Prop)(v:Value)(iU:Nat->Value):Lk:=
 {mz:=λi=>(i=id\/L.mz i)/\i≠q
  own:=λi x=>if i=id then O x else L.own i x/\i≠q
  val:=λi=>if i=id then v else L.val i
  iU:=λi j=>if i=id then iU j else L.iU i j }
def jx.qV{w0:World}{B:Nat->Prop}{σ:PS}{a:Act}{w:World}{L:Lk}(r:jx w0 B σ a w L){id q:Nat}(kB:id≠q)(b':Bx)(O:Nat->Prop)(v:Value)(iU:Nat->Value)(w':World)
 (hO:∀ x,O x->(L.own id x\/L.own q x\/w.heap.size<=x)/\x<w'.heap.size) (lL:w.heap.size<=w'.heap.size) (yl:∀ x,x<w.heap.size->¬L.own id x->w'.heap[x]? = w.heap[x]?)
 (yo:w'.os=w.os) (OS:w'.tape=w.tape) (qE:w'.output=w.output)
 (hB:r9 L w (L.qV id q O v iU) w'->nW (jl B (L.qV id q O v iU)) (jH (L.qV id q O v iU)) (L.qV id q O v iU) w' id b')
 (kZ:L.mz id->∀ b,L.val id ≠ .pointer (some b)) (jZ:σ.nl=true->b'.nl=true):jx w0 B (σ.oN (.pj id q b')) a w' (L.qV id q O v iU):=by
 have lV:∀ i,i≠id->(L.qV id q O v iU).val i=L.val i:=λi e=>by show(if i=id then _ else _)=_;rw[bA e]
 have B2:∀ i,i≠id->∀ j,(L.qV id q O v iU).iU i j=L.iU i j:=λi e j=>by show(if i=id then _ else _)=_;rw[bA e]
 have mi:∀ i,i≠id->∀ y,(L.qV id q O v iU).own i y↔L.own i y/\i≠q:=λi e y=>by show(if i=id then _ else _)↔_;rw[bA e]
 have AG:∀ y,(L.qV id q O v iU).own id y↔O y:=λy=>by show(if id=id then _ else _)↔_;rw[bB rfl]
 have iK:r9 L w (L.qV id q O v iU) w':=by
  refine⟨lL,λy hy h=>?_,λy hy hm=>yl y hy λho=>hm ⟨id,ho⟩⟩;obtain⟨i,hi⟩:=h;by_cases e:i=id
  .subst e;rcases(hO y ((AG y).1 hi)).1 with h|h|h
   .exact ⟨i,h⟩
   .exact ⟨q,h⟩
   .omega
  .exact ⟨i,((mi i e y).1 hi).1⟩
 have jD:∀ i,(σ.oN (.pj id q b')).bo i=if id=i then some b' else if i=q then none else(σ.bo i).map (Bx.rF (PV.lH (.pj id q b'))):=by
  intro i;show look (uW ((σ.pre (.pj id q b')).filter λy=>!Nat.beq y.1 q) id _) i=_;rw[DO];by_cases e:id=i
  .rw [bB e,bB e]
  .rw [bA e,bA e,DN,PS.BA];by_cases e2:q=i
   .rw [bB e2,bB e2.symm]
   .rw [bA e2,bA λh=>e2 h.symm]
 have At:Below w0.heap.size w w':=⟨yo,OS,qE,lL,λy hy=>yl y (ca hy r.he.size) λho=>by have:=(r.hw id y ho).1;omega⟩
 have Ks:∀ i y,i≠id->L.own i y->w'.heap[y]? = w.heap[y]?:=λi y e hy=>yl y (r.hw i y hy).2 λho=>e (r.hi i id y hy ho)
 have hwl:∀ i y,L.own i y->w0.heap.size<=y/\y<w'.heap.size:=λi y h=>⟨(r.hw i y h).1,ca (r.hw i y h).2 lL⟩
 have hT:∀ (p:PV) (v0:Value),lF (jl B L) (jH L) L w p v0->lF (jl B (L.qV id q O v iU)) (jH (L.qV id q O v iU)) (L.qV id q O v iU) w' (p.lH (.pj id q b')) v0:=by
  intro p v0 k;cases hp:p.lG.any (λy=>Nat.beq id y||Nat.beq q y)with
  |false=>
   rw[Rc hp];refine k.move iK λi hi hl=>?_
   have:=dg.1 hp i hi;simp only[eo,not_or]at this;have e1:i≠id:=λe=>this.1 (by rw[e];exact cJ _)
   have e2:i≠q:=λe=>this.2 (by rw[e];exact cJ _)
   exact⟨⟨.inr hl,e2⟩,lV i e1,B2 i e1⟩
  |true=>
   by_cases jo:∃ i off,p = .box i off
   .obtain ⟨i,off,rfl⟩:=jo;obtain⟨k1,b1,k2,k3⟩:=k;by_cases e1:i=id
    .subst e1;exact absurd k2 (kZ k1 _)
    .have e2:i=q:=by
      simp only[PV.lG,ej,fz,ff,eo]at hp;rcases hp with hp|hp
      .exact absurd (lv.1 hp).symm e1
      .exact (lv.1 hp).symm
     have e3:Nat.beq q id=false:=df λh=>kB h.symm
     simp only[PV.lH,e2,e3,cJ,bN,bR,bI];exact .any _
   .rw [aaF hp λi off h=>jo ⟨i,off,h⟩];exact .any _
 refine⟨r.hd,r.hs,λt=>?_,λi b hb=>?_,λi=>?_,λi y hy=>?_,λi y hy=>?_,λi j y hi hj=>?_,r.he.trans At,λzp i b hb=>?_⟩
 .rw [PS.Db];exact hT _ _ (r.ht t)
 .rw [jD]at hb;by_cases e:id=i
  .subst e;rw[bB rfl]at hb;cases hb;exact hB iK
  .rw [bA e]at hb;by_cases e2:i=q
   .rw [bB e2]at hb;cases hb
   .rw [bA e2]at hb;have e':i≠id:=λh=>e h.symm
    obtain⟨b0',mr,rfl⟩:=ch.1 hb;exact nW.map (g:=λp=>p) iK (by rw[DQ];exact r.hb i b0' mr) (lV i e') (λy=>(mi i e' y).trans ⟨λh=>h.1,λh=>⟨h,e2⟩⟩) (B2 i e') (λy hy=>Ks i y e' hy) λp v _ k=>hT p v k
 .rw [jD];show(i=id\/L.mz i)/\i≠q↔_;by_cases e:id=i
  .subst e;rw[bB rfl];exact⟨λ_=>rfl,λ_=>⟨.inl rfl,kB⟩⟩
  .rw [bA e];have e':i≠id:=λh=>e h.symm
   by_cases e2:i=q
   .subst e2;simp
   .rw [bA e2];rw[fv];exact⟨λh=>(r.hv i).1 (h.1.resolve_left e'),λh=>⟨.inr ((r.hv i).2 h),e2⟩⟩
 .by_cases e:i=id
  .subst e;exact⟨.inl rfl,kB⟩
  .have:=(mi i e y).1 hy;exact⟨.inr (r.hn i y this.1),this.2⟩
 .by_cases e:i=id
  .subst e;obtain⟨h,h2⟩:=hO y ((AG y).1 hy);rcases h with h|h|h
   .exact ⟨(r.hw _ y h).1,h2⟩
   .exact ⟨(r.hw _ y h).1,h2⟩
   .exact ⟨bH r.he.size h,h2⟩
  .exact hwl i y ((mi i e y).1 hy).1
 .have cross:∀ j,j≠id->L.own j y/\j≠q->O y->False:=by
   intro j e h2 h;rcases(hO y h).1 with h|h|h
   .exact e (r.hi j _ y h2.1 h)
   .exact h2.2 (r.hi j q y h2.1 h)
   .have:=(r.hw j y h2.1).2;omega
  by_cases e1:i=id
  .by_cases e2:j=id
   .rw [e1,e2]
   .subst e1;exact(cross j e2 ((mi j e2 y).1 hj) ((AG y).1 hi)).elim
  .by_cases e2:j=id
   .subst e2;exact(cross i e1 ((mi i e1 y).1 hi) ((AG y).1 hj)).elim
   .exact r.hi i j y ((mi i e1 y).1 hi).1 ((mi j e2 y).1 hj).1
 .rw [jD]at hb;by_cases e:id=i
  .rw [bB e]at hb;cases hb;exact jZ zp
  .rw [bA e]at hb;by_cases e2:i=q
   .rw [bB e2]at hb;cases hb
   .rw [bA e2]at hb;obtain⟨b0',mr,rfl⟩:=ch.1 hb;rw[DR];exact r.hl zp i b0' mr
def Lk.Wo{L:Lk}{id q:Nat}{O:Nat->Prop}{v:Value}{iU:Nat->Value}(x:Nat):(L.qV id q O v iU).own id x↔O x:=by simp[Lk.qV]
def Lk.Hp{L:Lk}{id q:Nat}{O:Nat->Prop}{v:Value}{iU:Nat->Value}:(L.qV id q O v iU).val id=v:=by simp[Lk.qV]
def Lk.zG{L:Lk}{id q:Nat}{O:Nat->Prop}{v:Value}{iU:Nat->Value}(k:Nat):(L.qV id q O v iU).iU id k=iU k:=by simp[Lk.qV]
def Lk.Ph{L:Lk}{id q:Nat}(kB:id≠q){O:Nat->Prop}{v:Value}{iU:Nat->Value}:(L.qV id q O v iU).mz id:=⟨.inl rfl,kB⟩
def jx.Tk{w0:World}{B:Nat->Prop}{σ:PS}{a:Act}{w:World}{L:Lk}(r:jx w0 B σ a w L)(id:Nat):∃ L',jx w0 B (σ.oN (.fin id)) a w L'/\(∀ i x,L'.own i x->L.own i x)/\(σ.oN (.fin id)).bo id=none:=by
 let L':Lk:=⟨λi=>L.mz i/\i≠id,λi x=>L.own i x/\i≠id,L.val,L.iU⟩
 have iK:r9 L w L' w:=⟨bF _,λx _ ⟨i,h,_⟩=>⟨i,h⟩,λ_ _ _=>rfl⟩
 have si:∀ i,(σ.oN (.fin id)).bo i=if i=id then none else(σ.bo i).map (Bx.rF (PV.lH (.fin id))):=by
  intro i;show look ((σ.pre (.fin id)).filter λx=>!Nat.beq x.1 id) i=_;rw[DN,PS.BA];by_cases h:i=id
  .rw [bB h,bB h.symm]
  .rw [bA h,bA (λe=>h e.symm)]
 have hT:∀ (p:PV) (v:Value),lF (jl B L) (jH L) L w p v->lF (jl B L') (jH L') L' w (p.lH (.fin id)) v:=by
  intro p v k;show lF _ _ _ _ (if p.lG.any (Nat.beq id)then .e .any else p) _;cases hp:p.lG.any (Nat.beq id)with
  |true=>exact .any _
  |false=>
   refine lF.move iK k λi hi qi=>⟨⟨qi,?_⟩,rfl,λ_=>rfl⟩
   rintro rfl;have:=dg.1 hp i hi;simp at this
 refine⟨L',⟨r.hd,r.hs,λt=>?_,λi b' h=>?_,λi=>?_,λi x h=>⟨r.hn i x h.1,h.2⟩,λi x h=>r.hw i x h.1,λi i' x h k=>r.hi i i' x h.1 k.1,r.he,λh i b' k=>?_⟩,λi x h=>h.1,by rw[si,bB rfl]⟩
 .rw [PS.Db];exact hT _ _ (r.ht t)
 .rw [si]at h;split at h
  .cases h
  .rename_i hi;obtain⟨b0',mr,rfl⟩:=ch.1 h;exact nW.map (g:=λp=>p) iK (by rw[DQ];exact r.hb i b0' mr) rfl (λx=>⟨λq=>q.1,λq=>⟨q,hi⟩⟩) (λ_=>rfl) (λ_ _=>rfl) λp v _ k=>hT p v k
 .rw [si];show L.mz i/\i≠id↔_;by_cases hi:i=id
  .subst hi;simp
  .simp only[hi,du,fg,fN,bI,fv];exact r.hv i
 .rw [si]at k;split at k
  .cases k
  .obtain ⟨b0',mr,rfl⟩:=ch.1 k;rw[DR];exact r.hl h i b0' mr
def Tp(σ:PS)(id:Nat)(b:Bx):(σ.oN (.fin id)).oN (.new id b)=σ.oN (.xK id b):=by
 have h:∀ l:List (Nat×Bx),uW (l.filter λx=>!Nat.beq x.1 id) id b=uW l id b:=by
  intro l;unfold uW;rw[List.filter_filter];congr 2;funext x;cases Nat.beq x.1 id<;>rfl
 show PS.mk σ.n σ.nl (σ.t.map _) (uW ((σ.pre (.fin id)).filter λx=>!Nat.beq x.1 id) id b)=PS.mk σ.n σ.nl (σ.t.map _) (uW (σ.pre (.xK id b)) id b);rw[h];rfl
def aaz{T:List TI}{t:TypeId}{x:TI}(h:nh T t=some x):x ∈ T/\x.id=t:=by
 induction T with
 |nil=>cases h
 |cons y l ih=>
  unfold nh at h;split at h
  .rename_i hb;cases h;exact⟨aH,lv.1 hb⟩
  .obtain ⟨h1,h2⟩:=ih h;exact⟨by simp[h1],h2⟩
def mV.r8{P:Program}{T:List TI}(hT:mV P T){t:TypeId}{x:TI}(h:nh T t=some x):P.underlying t=some x.d:=by
 obtain⟨h1,h2⟩:=aaz h;rw[<-h2];exact(hT x h1).1
def mV.AM{P:Program}{T:List TI}(hT:mV P T){t:TypeId}{x:TI}(h:nh T t=some x):P.info? t=some x.i:=by
 obtain⟨h1,h2⟩:=aaz h;rw[<-h2];exact(hT x h1).2
def BG{T:List TI}{t:TypeId}{d:TypeDesc}(h:xW T t=some d):∃ x,nh T t=some x/\x.d=d:=by
 unfold xW at h;split at h
 .rename_i x hx;exact⟨x,hx,by simpa using h⟩
 .cases h
section
variable {P:Program} {T:List TI} (hT:mV P T) (w:World)
include hT
def uU{t:TypeId}{x:TI}(h:nh T t=some x):(sizeOf t).run P w = .ok x.i.size w:=by
 simp[sizeOf,typeInfo,hT.AM h]
def QG{t:TypeId}{x:TI}(h:nh T t=some x){z:Value}(hz:x.i.zero=some z):(zeroValue t).run P w = .ok z w:=by
 simp[zeroValue,typeInfo,hT.AM h,hz]
def Lz{t:TypeId}{x:TI}(h:nh T t=some x):(isAgg t).run P w = .ok x.isAgg w:=by
 unfold isAgg TI.isAgg;rw[Sem.run_bind,run_underlying (hT.r8 h) w];cases x.d<;>simp
def Za{t:TypeId}{x:TI}(h:nh T t=some x)(ha:x.isAgg=true)(b o:Nat)(vs:List Value)(hl:vs.length=x.i.size)
 (hc:∀ (j:Nat) (u:Value),vs[j]? = some u->w.cell? ⟨b,o+j,none⟩=some u):(loadVar t ⟨b,o,none⟩).run P w = .ok (.agg vs.toArray) w:=by
 have hr:=run_loadCells_list (P:=P) w ⟨b,o,none⟩ vs (λj v hv=>by rw[Addr.add_lit];exact hc j v hv);rw[hl]at hr;simp[loadVar,Lz hT w h,ha,uU hT w h,hr]
def LA{t:TypeId}{x:TI}(h:nh T t=some x)(ha:x.isAgg=false)(b o:Nat)(u:Value)(hc:w.cell? ⟨b,o,none⟩=some u):(loadVar t ⟨b,o,none⟩).run P w = .ok u w:=by
 simp[loadVar,Lz hT w h,ha,hc]
def FN{t:TypeId}{x:TI}(h:nh T t=some x)(b o:Nat)(E:TypeId)(cur:Array Value)(hg:w.heap[b]? = some (.cells cur E (0,0)))(v:Value)(hl:v.cells.toList.length=x.i.size)
 (sj:o+v.cells.toList.length<=cur.size) (h1:∀ u ∈ v.cells.toList,u.oneCell'=true):
 (storeVar t ⟨b,o,none⟩ v).run P w = .ok () (w.setRow b (cur.toList.take o++v.cells.toList++cur.toList.drop (o+v.cells.toList.length)).toArray):=by
 have hr:=run_storeCells_at P b o E v.cells.toList 0 cur w hg (by simpa using sj) h1;simp only[cg]at hr;have rq:v.cells.size=x.i.size:=by simpa using hl
 simp only[storeVar,Sem.run_bind,uU hT w h,Result.andThen,rq,du,apM,bI,hr,Sem.run_ite,Sem.run_pure]
end
def rK.setRow{L:Lk}{w:World}{id b:Nat}(hb:L.own id b)(iK:∀ x,L.own id x->x<w.heap.size)(cs:Array Value):rK L w id (L.own id) (w.setRow b cs):=
 ⟨λx hx=>⟨.inl hx,by simpa using iK x hx⟩,aH,λx _ kB=>setRow_other w b x cs (λe=>kB (e▸hb)),rfl,rfl,rfl⟩
def ku(P:Program)(K:World->Prop)(w0:World)(B:Nat->Prop)(σ:PS)(o:Oper)(a:Act)(w:World)(u:kO):Prop:=
 ∃ v w' L',((execOp a.eval o).run P w = .ok (.value v) w'\/((execOp a.eval o).run P w = .ok .skip w'/\v=undef))/\jx w0 B (σ.oN u.f) a w' L'/\lF (jl B L') (jH L') L' w' u.r v
section
variable {P:Program} {K:World->Prop} {w0:World} {B:Nat->Prop} {σ:PS} {o:Oper} {a:Act} {w:World} {L:Lk} {u:kO}
def ku.pure(r:jx w0 B σ a w L){v:Value}(lE:(execOp a.eval o).run P w = .ok (.value v) w)(hf:u.f = .none)(hp:lF (jl B L) (jH L) L w u.r v):ku P K w0 B σ o a w u:=
 ⟨v,w,L,.inl lE,by rw[hf];exact r,hp⟩
def akj{l:List PV}{es:List E}(h:Lb l=some es):l=es.map .e:=by
 induction l generalizing es with
 |nil=>cases h;rfl
 |cons p l ih=>
  cases p with
  |e x=>
   simp only[Lb]at h;obtain⟨t,ht,rfl⟩:=ch.1 h;rw[ih ht];rfl
  |_=>cases h
def jx.read(r:jx w0 B σ a w L){p:PV}{v:Value}(hp:lF (jl B L) (jH L) L w p v){m:Nat}{l:List E}{is:List Nat}{jV:List Prop}(h:σ.read p m=some (l,is,jV))(ho:∀ q,q ∈ jV->q):
 ∃ b q vs,v = .pointer (some ⟨b,q,none⟩)/\kJ (jl B L) (jH L) w l vs/\vs.length=m/\∀ (j:Nat) (u:Value),vs[j]? = some u->w.cell? ⟨b,q+j,none⟩=some u:=by
 have tab:∀ (b q:Nat) (g:Nat->E) (f:Nat->Value),(∀ j,j<m->w.cell? ⟨b,q+j,none⟩=some (f j)/\iQ (jl B L) (jH L) w (g j) (f j)) ->
  ∃ vs:List Value,kJ (jl B L) (jH L) w ((List.range m).map g) vs/\vs.length=m/\∀ (j:Nat) (u:Value),vs[j]? = some u->w.cell? ⟨b,q+j,none⟩=some u:=by
  intro b q g f hc;refine⟨(List.range m).map f,⟨aH,λi p x hp hx=>?_⟩,aH,λj u hu=>?_⟩
  .rw [cG]at hp hx;obtain⟨i1,Az,rfl⟩:=ch.1 hp;obtain⟨i2,EY,rfl⟩:=ch.1 hx;rw[Az]at EY;cases EY;obtain⟨iK,rfl⟩:=cE.1 Az;simp at iK;simpa using(hc i iK).2
  .rw [cG]at hu;obtain⟨i1,Az,rfl⟩:=ch.1 hu;obtain⟨iK,rfl⟩:=cE.1 Az;simp at iK;simpa using(hc j iK).1
 cases p with
 |box id off=>
  simp only[PS.read]at h;split at h
  .rename_i T l0 jD;split at h
   .rename_i hle;simp only[bM,bW]at h;obtain⟨rfl,rfl,rfl⟩:=h;obtain⟨b,vs,h1,h2,h3,h4,h5⟩:=r.hb id _ jD;obtain⟨_,b',k2,rfl⟩:=hp;rw[h1]at k2;cases k2;have OC:=cV hle;refine⟨b,off,(vs.drop off).take m,rfl,(h4.drop off).take m,by simp[h4.len];omega,λj u hu=>?_⟩;rw[dM]at hu;split at hu
    .rw [dN]at hu;simp only[World.cell?,h3];simpa using hu
    .cases hu
   .cases h
  .rename_i nl T l0 jD;split at h
   .rename_i hle;obtain⟨es,GS,h⟩:=ch.1 h;simp only[bW]at h;obtain⟨rfl,rfl,rfl⟩:=h;obtain⟨b,vs,h1,h2,h3,h4,h5,h6⟩:=r.hb id _ jD;obtain⟨_,b',k2,rfl⟩:=hp;rw[h1]at k2;cases k2;have OC:=cV hle;have hm:=akj GS;have hlen:es.length=m:=by
     have:=congrArg List.length hm;simp only[cF,fe,bZ]at this;omega
    refine⟨b,off,(vs.drop off).take m,rfl,⟨by simp[h4,hlen];omega,λi p x hp hx=>?_⟩,by simp[h4];omega,λj u hu=>?_⟩
    .have hq:((l0.drop off).take m)[i]? = some (.e p):=by rw[hm,cG,hp];rfl
     rw[dM]at hq hx;split at hq
     .rename_i hi;rw[bB hi,dN]at hx;rw[dN]at hq;exact h5 _ _ _ hq hx
     .cases hq
    .rw [dM]at hu;split at hu
     .rw [dN]at hu;simp only[World.cell?,h3];simpa using hu
     .cases hu
   .cases h
  .cases h
 |nQ id sz i j=>
  simp only[PS.read]at h;split at h
  .rename_i nl T n s el jD;split at h
   .rename_i hle;simp only[bM,bW]at h;obtain⟨rfl,rfl,rfl⟩:=h;simp only[bQ]at hle;have e1:=lv.1 hle.1;have e2:=cV hle.2;subst e1;have hi:i<n:=ho _ aH;obtain⟨f,h1,h2,h3⟩:=r.hb id _ jD;obtain⟨_,b,n',c',k2,rfl⟩:=hp;rcases h1 with⟨h1,_⟩|⟨b',c,cur,h1,hg,ph,oo,mX,kF,jZ⟩
    .rw [k2]at h1;cases h1
    .rw [k2]at h1;cases h1;obtain⟨vs,q1,q2,q3⟩:=tab b (i*s+j) (λq=>el i (j+q)) (λq=>f i (j+q)) (λq hq=>⟨by
      simp only[World.cell?,hg];have:=(kF i (j+q) hi aC).1;rw[<-dq]at this;simpa using this,(h3 i (j+q) hi aC).1⟩)
     exact⟨b,i*s+j,vs,rfl,q1,q2,q3⟩
   .cases h
  .cases h
 |rE id sz k i j=>
  simp only[PS.read]at h;split at h
  .rename_i nl T1 T0 n s len el pend jD;split at h
   .rename_i hle;simp only[bM,bW]at h;obtain⟨rfl,rfl,rfl⟩:=h;simp only[bQ]at hle;have e1:=lv.1 hle.1;have e2:=cV hle.2;subst e1;have hk:k<n:=ho _ aH;have hi:i<len k:=ho _ aH;obtain⟨b0,c0,cur0,f,g1,g2,g3,g4,g5,g6,g7,g8,_⟩:=(r.hb id _ jD).xL aC;obtain⟨h1,h3⟩:=g8 k hk;obtain⟨_,b,n',c',k2,rfl⟩:=hp;rcases h1 with⟨h1,_⟩|⟨b',c,cur,h1,hg,ph,oo,mX,kF,jZ⟩
    .rw [k2]at h1;cases h1
    .rw [k2]at h1;cases h1;obtain⟨vs,q1,q2,q3⟩:=tab b (i*s+j) (λq=>el k i (j+q)) (λq=>f k i (j+q)) (λq hq=>⟨by
      simp only[World.cell?,hg];have:=(kF i (j+q) hi aC).1;rw[<-dq]at this;simpa using this,(h3 i (j+q) hi aC).1⟩)
     exact⟨b,i*s+j,vs,rfl,q1,q2,q3⟩
   .cases h
  .cases h
 |e x=>
  cases x with
  |jh k el=>
   simp only[PS.read]at h;split at h
   .rename_i hle;simp only[bM,bW]at h;obtain⟨rfl,rfl,rfl⟩:=h;have OC:=cV hle;cases hp with
    |jh _ _ b q f hb iK hl cell kk=>
     obtain⟨vs,q1,q2,q3⟩:=tab b q el f (λj hj=>⟨cell j aC,kk j aC⟩);exact⟨b,q,vs,rfl,q1,q2,q3⟩
   .cases h
  |_=>cases h
 |_=>cases h
def F3{ti:TI}{l:List E}(h:z8 ti=some l):∃ z,ti.i.zero=some z/\∀ (bs br:Nat->Prop) (w:World),kJ bs br w l z.cells.toList/\∀ u ∈ z.cells.toList,u.oneCell'=true:=by
 unfold z8 at h;split at h
 .rename_i z hz;exact⟨z,hz,λbs br w=>(iQ.v (bs:=bs) (br:=br) (w:=w) z).cells h⟩
 .cases h
def jx.Xx(r:jx w0 B σ a w L)(id:Nat)(T:TypeId)(l:List E)(v:Value)(kZ:σ.bo id=none)(hv:kJ (jl B L) (jH L) w l v.cells.toList)(h1:∀ u ∈ v.cells.toList,u.oneCell'=true)
 (jZ:(!σ.nl||l.all E.ng)=true):
 ∃ L',jx w0 B (σ.oN (.new id (.cells T l))) a (w.alloc (.cells v.cells T)) L'/\lF (jl B L') (jH L') L' (w.alloc (.cells v.cells T)) (.box id 0) (.pointer (some ⟨w.heap.size,0,none⟩)):=by
 have hb:Below w.heap.size w (w.alloc (.cells v.cells T)):=(Below.refl _ _).alloc (bF _) _;have US:∀ x,¬L.own id x:=λx hx=>by have:=(r.hv id).1 (r.hn id x hx);rw[kZ]at this;simp at this
 have ht:rK L w id (λx=>x=w.heap.size) (w.alloc (.cells v.cells T)):=⟨λx hx=>⟨.inr aC,aN⟩,hb.size,λx hx _=>hb.block x hx,rfl,rfl,rfl⟩
 have hl:=ht.later (.pointer (some ⟨w.heap.size,0,none⟩)) (λ_=>undef);refine⟨_,r.new id (.cells T l) (λx=>x=w.heap.size) (.pointer (some ⟨w.heap.size,0,none⟩)) (λ_=>undef) _ kZ (λx hx=>by subst hx;simp) hb
  ⟨w.heap.size,v.cells.toList,Lk.pQ,λx=>Lk.s8 x,by rw[Array.toArray_toList];exact heap_alloc_new w _,hv.mono λ_ _=>hl.lf,h1⟩ jZ,Lk.CC,w.heap.size,Lk.pQ,rfl⟩
def KL{d:Option Tmp}{b:Bx}{rr:Nat->PV}(h:Cf σ d b rr=some u):∃ id,d=some id/\(!σ.nl||b.nl)=true/\u={ r:=rr id,f:=vH σ id b,rb:=A0 σ id [] }:=by
 unfold Cf at h;split at h
 .rename_i id;split at h
  .rename_i hc;cases h;exact⟨id,rfl,hc,rfl⟩
  .cases h
 .cases h
def jx.Xy(r:jx w0 B σ a w L)(id:Nat)(T:TypeId)(l:List E)(v:Value)(hv:kJ (jl B L) (jH L) w l v.cells.toList)(h1:∀ u ∈ v.cells.toList,u.oneCell'=true)
 (jZ:(!σ.nl||l.all E.ng)=true):
 ∃ L',jx w0 B (σ.oN (vH σ id (.cells T l))) a (w.alloc (.cells v.cells T)) L'/\lF (jl B L') (jH L') L' (w.alloc (.cells v.cells T)) (.box id 0) (.pointer (some ⟨w.heap.size,0,none⟩)):=by
 unfold vH;split
 .rename_i kZ;exact r.Xx id T l v kZ hv h1 jZ
 .obtain ⟨L1,r1,ho,kZ⟩:=r.Tk id;have hm:∀ x,jH L1 x->jH L x:=λx ⟨i,hi⟩=>⟨i,ho i x hi⟩
  obtain⟨L',r',hp⟩:=r1.Xx id T l v kZ (hv.mono λ_ _=>iQ.q6 (λx h=>h.elim .inl λh=>.inr (hm x h)) hm) h1 jZ;rw[Tp]at r';exact⟨L',r',hp⟩
def HW{d:Option Tmp}{b:Bx}{rr:Nat->PV}{jV:List Prop}(h:AV σ d b rr jV=some u):∃ id,d=some id/\σ.bo id=none/\(!σ.nl||b.nl)=true/\u={ r:=rr id,f:=.new id b,jV:=jV }:=by
 unfold AV at h;split at h
 .rename_i id;split at h
  .rename_i kZ;split at h
   .rename_i hc;cases h;exact⟨id,rfl,kZ,hc,rfl⟩
   .cases h
  .cases h
 .cases h
end
def I3{k:IntKind}{z:Int}(h:kQ k z):k.wrap z=z:=by
 cases k<;>simp only[kQ]at h<;>simp only[IntKind.wrap,IntKind.bits,IntKind.signed]<;>simp<;>(try split)<;>omega
def alq{k:IntKind}{x y:Int}(h:kQ k x)(hy:0<y):kQ k (x.tdiv y):=by
 by_cases h0:0<=x
 .have h1:0<=x/y:=Int.ediv_nonneg h0 aC ;have h2:x/y<=x:=Int.ediv_le_self y h0;rw[ap4 h0];cases k<;>simp only[kQ]at h ⊢ <;> omega
 .obtain ⟨z,rfl⟩:∃ z,x = -z:=⟨-x,aC⟩
  have h0:0<=z:= aC ;have h1:0<=z/y:=Int.ediv_nonneg h0 aC;have h2:z/y<=z:=Int.ediv_le_self y h0;rw[Int.neg_tdiv,ap4 h0];cases k<;>simp only[kQ]at h ⊢ <;> omega
def aey{P:Program}{op:BinOp}{k k':IntKind}{x y:Int}{v:Value}{jV:List Prop}(h:Np op k x y=some (v,jV))(ho:∀ q,q ∈ jV->q)
 (hk:Zb op k k'=true) (t:TypeId) (w:World):(binOp op t (.int k x) (.int k' y)).run P w = .ok v w:=by
 cases op<;>simp only[Np,bM,bW,reduceCtorEq]at h<;>(obtain⟨rfl,rfl⟩:=h)<;>(try (have GZ:=cR hk;subst GZ))
 case add=>
  rw[binOp_add];by_cases J0:k = .u32
  .subst J0;simp[Op.intArith,My]
  .have e:My k x y=x+y:=by cases k<;>first|rfl|exact absurd rfl J0
   have e2:RC k x y=[kQ k (x+y)]:=by cases k<;>first|rfl|exact absurd rfl J0
   rw[e];simp[Op.intArith,I3 (ho (kQ k (x+y)) (by rw[e2];simp))]
 case sub=>rw[binOp_sub];simp[Op.intArith,I3 (ho (kQ k (x-y)) aH)]
 case mul=>rw[binOp_mul];simp[Op.intArith,I3 (ho (kQ k (x*y)) aH)]
 case quo=>
  have h1:=ho (0<y) aH;have h2:=ho (kQ k x) aH;rw[binOp_quo];have hy:¬y=0:= aC ;simp[Op.intDiv,hy,I3 (alq h2 h1)]
 case rem=>
  have h1:=ho (0<y) aH;rw[binOp_rem];have hy:¬y=0:= aC ;simp[Op.intDiv,hy]
 case and=>rw[binOp_and,intBits_and];rfl
 case or=>rw[binOp_or,intBits_or];rfl
 case shl=>
  have h1:=ho (0<=y/\y<=k.bits) aH;rw[binOp_shl,shift_shl k k' x y h1.1 h1.2];rfl
 case shr=>
  have h1:=ho (0<=y/\y<=k.bits) aH;rw[binOp_shr,shift_shr k k' x y h1.1 h1.2];rfl
 case eql=>rw[binOp_eql];rfl
 case neq=>rw[binOp_neq];rfl
 case lss=>rw[binOp_lss];rfl
 case leq=>rw[binOp_leq];rfl
 case gtr=>rw[binOp_gtr];rfl
 case geq=>rw[binOp_geq];rfl
section
variable {P:Program} {K:World->Prop} {T:List TI} {O:q8} {w0:World} {B:Nat->Prop} {σ:PS} {o:Oper} {a:Act} {w:World} {L:Lk} {u:kO}
def age{x:Operand}(iJ:o.op = .move x)(r:jx w0 B σ a w L)(h:jW P K T O σ o=some u):ku P K w0 B σ o a w u:=by
 simp only[jW,iJ]at h;cases h;exact ku.pure r (by simp only[execOp,iJ];rfl) rfl (r.op x)
def afU{x:Operand}(iJ:o.op = .assign x)(r:jx w0 B σ a w L)(h:jW P K T O σ o=some u):ku P K w0 B σ o a w u:=by
 simp only[jW,iJ]at h;cases h;exact ku.pure r (by simp only[execOp,iJ];rfl) rfl (r.op x)
def agh{c x y:Operand}(iJ:o.op = .pick c x y)(r:jx w0 B σ a w L)(h:jW P K T O σ o=some u):ku P K w0 B σ o a w u:=by
 simp only[jW,iJ]at h;have hc:=r.op c;split at h
 .rename_i hv;rw[hv]at hc;have hc:=iQ.kX hc;cases h;exact ku.pure r (by simp[execOp,iJ,hc,asBool]) rfl (r.op x)
 .rename_i hv;rw[hv]at hc;have hc:=iQ.kX hc;cases h;exact ku.pure r (by simp[execOp,iJ,hc,asBool]) rfl (r.op y)
 .cases h
def agf{x:Operand}(iJ:o.op = .nilCheck x)(r:jx w0 B σ a w L)(h:jW P K T O σ o=some u):ku P K w0 B σ o a w u:=by
 simp only[jW,iJ]at h;have hc:=r.op x;split at h
 .rename_i hv;rw[hv]at hc;cases h;obtain⟨k1,b,k2,k3⟩:=hc;exact ku.pure r (v:=a.eval x) (by simp[execOp,iJ,k3]) rfl ⟨k1,b,k2,k3⟩
 .rename_i hv;rw[hv]at hc;cases h;generalize hq:a.eval x=q at hc;refine ku.pure r (v:=q) ?_ rfl hc;cases hc;simp only[execOp,iJ,hq];rfl
 .rename_i hv;rw[hv]at hc;cases h;refine ku.pure r (v:=a.eval x) ?_ rfl hc;obtain⟨vs,e,_⟩:=iQ.T9 hc;simp only[execOp,iJ,e];rfl
 .rename_i hv;rw[hv]at hc;cases h;refine ku.pure r (v:=a.eval x) ?_ rfl hc;obtain⟨vs,e,_⟩:=hc;simp only[execOp,iJ,e];rfl
 .cases h
def afV(hT:mV P T){op:BinOp}{t yt:TypeId}{x y:Operand}(iJ:o.op = .binOp op t x y yt)(r:jx w0 B σ a w L)(h:jW P K T O σ o=some u)(ho:∀ q,q ∈ u.jV->q):ku P K w0 B σ o a w u:=by
 simp only[jW,iJ]at h;have hx:=r.op x;have hy:=r.op y;split at h
 .rename_i k z k' z' zC Dv;rw[zC]at hx;rw[Dv]at hy;split at h
  .rename_i v hv;cases h;obtain⟨h1,h2⟩:=ho _ (fO.2 rfl) _ _ w _ _ x y hx hy;refine ku.pure r (v:=v) ?_ rfl (.v _);simp only[execOp,iJ,Sem.run_bind,h1,Result.andThen_ok,h2,Sem.run_pure]
  have hx:=iQ.kX hx;have hy:=iQ.kX hy;split at h
  .rename_i hk;obtain⟨rr,hr,rfl⟩:=ch.1 h;have lE:=aey (P:=P) (k':=k') hr ho hk t w;refine ku.pure r (v:=rr.1) ?_ rfl (.v _);simp only[execOp,iJ,hx,hy,Sem.run_bind,eqGuard_at_int,Sem.run_pure,Result.andThen_ok,lE]
  .cases h
 .rename_i z z' zC Dv;rw[zC]at hx;rw[Dv]at hy;have hx:=iQ.kX hx;have hy:=iQ.kX hy;split at h
  .rename_i hd;obtain⟨ti,h1,h2⟩:=BG hd;have hu:P.underlying t=some .bool:=by rw[hT.r8 h1,h2]
   split at h
   .cases h;refine ku.pure r (v:=.bool (z==z')) ?_ rfl (.v _);simp only[execOp,iJ,hx,hy,Sem.run_bind,eqGuard_at_bool,Sem.run_pure,Result.andThen_ok,run_eql_bool w t z z' hu]
   .cases h;refine ku.pure r (v:=.bool (!(z==z'))) ?_ rfl (.v _);simp only[execOp,iJ,hx,hy,Sem.run_bind,eqGuard_at_bool,Sem.run_pure,Result.andThen_ok];have:(binOp .neq t (.bool z) (.bool z')).run P w = .ok (.bool (!(z==z'))) w:=by
     simp only[binOp,Sem.run_bind,run_equal_bool w t z z' hu,Result.andThen_ok,Sem.run_pure]
    rw[this];rfl
   .cases h
  .cases h
 .rename_i nl n sz el zC Dv;rw[zC]at hx;rw[Dv]at hy;have hy:=iQ.kX hy;have hx:iQ (jl B L) (jH L) w (.sl nl n sz el) (a.eval x):=hx;split at h
  .rename_i e hd;obtain⟨ti,h1,h2⟩:=BG hd;have hu:P.underlying t=some (.slice e):=by rw[hT.r8 h1,h2]
   have key:∀ A c,0<n->a.eval x = .slice A n c->iQ (jl B L) (jH L) w (.sl nl n sz el) (.slice A n c)->A.isNone=false:=by
    intro A c hn e1 hr;cases A with
    |some ad=>rfl
    |none=>
     cases hr with
     |sl _ _ _ _ _ _ f hc hm h0=>have:=h0 rfl;omega
   generalize hv:a.eval x=vx at hx;cases hx with
   |sl _ _ _ _ A c f hc hm h0 hl hr cell k=>
    have zz:iQ (jl B L) (jH L) w (.sl nl n sz el) (.slice A n c):=.sl nl n sz el A c f hc hm h0 hl hr cell k;split at h
    .cases h;have hn:0<n:=ho _ aH;refine ku.pure r (v:=.bool false) ?_ rfl (.v _);simp only[execOp,iJ,hv,hy,Sem.run_bind,eqGuard_at_slice,Sem.run_pure,Result.andThen_ok,Lib.run_eql_slice_nil w t e A n c 0 0 hu,key A c hn hv zz]
    .cases h;have hn:0<n:=ho _ aH;refine ku.pure r (v:=.bool true) ?_ rfl (.v _);simp only[execOp,iJ,hv,hy,Sem.run_bind,eqGuard_at_slice,Sem.run_pure,Result.andThen_ok,run_neq_slice_nil_any w t e A n c 0 0 hu,key A c hn hv zz,fp]
    .cases h
  .cases h
 .rename_i xe ye zC Dv;rw[zC]at hx;rw[Dv]at hy;split at h
  .rename_i v hv;cases h;obtain⟨h1,h2⟩:=ho _ (fO.2 rfl) _ _ w _ _ x y hx hy;refine ku.pure r (v:=v) ?_ rfl (.v _);simp only[execOp,iJ,Sem.run_bind,h1,Result.andThen_ok,h2,Sem.run_pure]
  .cases h
 .cases h
def agk{op:UnOp}{t:TypeId}{x:Operand}(iJ:o.op = .unOp op t x)(r:jx w0 B σ a w L)(h:jW P K T O σ o=some u)(ho:∀ q,q ∈ u.jV->q):ku P K w0 B σ o a w u:=by
 simp only[jW,iJ]at h;have hx:=r.op x;split at h
 .rename_i z hv;rw[hv]at hx;have hx:=iQ.kX hx;cases h;exact ku.pure r (v:=.bool (!z)) (by simp[execOp,iJ,hx,Op.unary]) rfl (.v _)
 .rename_i k z hv;rw[hv]at hx;have hx:=iQ.kX hx;cases h;have:=I3 (ho (kQ k (0-z)) aH);refine ku.pure r (v:=.int k (0-z)) ?_ rfl (.v _);simp only[execOp,iJ,hx,Op.unary,Op.intArith,this];rfl
 .cases h
def afZ(hT:mV P T){src dst:TypeId}{x:Operand}(iJ:o.op = .convert src dst x)(r:jx w0 B σ a w L)(h:jW P K T O σ o=some u):ku P K w0 B σ o a w u:=by
 simp only[jW,iJ]at h;have hx:=r.op x;split at h
 .rename_i k ts k' z hd hs hv;rw[hv]at hx;have hx:=iQ.kX hx;obtain⟨td,h1,h2⟩:=BG hd;have hu:P.underlying dst=some (.int k):=by rw[hT.r8 h1,h2]
  have hk:P.intKind dst=k:=by simp[Program.intKind,hu]
  have lE:=run_convert_int (P:=P) w src dst k' z (by rw[hT.r8 hs];rfl) (by rw[hk];exact hu);rw[hk]at lE;cases h;exact ku.pure r (v:=.int k (k.wrap z)) (by simp only[execOp,iJ,hx,Sem.run_bind,lE];rfl) rfl (.v _)
 .cases h
def af0{x:Operand}{i:Nat}(iJ:o.op = .extract x i)(r:jx w0 B σ a w L)(h:jW P K T O σ o=some u):ku P K w0 B σ o a w u:=by
 simp only[jW,iJ]at h;have hx:=r.op x;split at h
 .rename_i l hv;rw[hv]at hx;obtain⟨vs,e,hr⟩:=iQ.aay hx;split at h
  .rename_i y hy;cases h;have iK:i<vs.length:=by rw[hr.len];exact(cE.1 hy).1
   have Fh:=bJ iK;refine ku.pure r (v:=vs[i]) ?_ rfl (hr.lf i y _ hy Fh);simp only[execOp,iJ,e,Instr.extract,gX,Fh];rfl
  .cases h
 .cases h
def W6{bs:Nat->Prop}{z:Int}{e:E}:∀ {l:List (Int×FuncId×List FuncId)} {es:List MapEntry} (i:Nat),CN bs w l es->DU l z=some e->(∀ b,jH L b->bs b) ->
 ∃ j v,Instr.findNow (.int .i64) (.int .i64 z) es i=some (some (j,v))/\iQ bs (jH L) w e v
 | [],_,_,_,h,_=>by cases h
 |_::_,[],_,k,_,_=>k.elim
 |x::l,y::es,i,⟨⟨k1,vs,k2,k3,k4⟩,k⟩,h,hm=>by
  unfold DU at h;have e0:Instr.sameNow (.int .i64) (.int .i64 z) y.key=some (z==x.1):=by rw[k1];rfl
  by_cases hz:x.1=z
  .rw [bB hz]at h;cases h;have e1:(z==x.1)=true:=by simp[hz]
   refine⟨i,y.val,?_,?_⟩
   .rw [Instr.findNow,e0,e1]
   .rw [k2];refine .fn _ _ vs (by simpa using k3) λj p v hp hv=>?_
    rw[cG]at hp;obtain⟨g,hg,rfl⟩:=ch.1 hp;obtain⟨b,rfl,q2,q3,q4⟩:=k4 j g v hg hv;have hc:∀ q,q<1->w.cell? ⟨b,0+q,none⟩=some (.func (.func g) #[] #[]):=λq hq=>by
     obtain rfl:q=0:= aC ;exact q4
    exact .jh 1 _ b 0 (λ_=>.func (.func g) #[] #[]) (λh=>q2 (hm b h)) q3 (λ_ _=>rfl) hc λ_ _=>.fn g [] [] rfl (λi p x h=>by simp at h)
  .rw [bA hz]at h;have e1:(z==x.1)=false:=by simp;exact λe=>hz e.symm
   obtain⟨j,v,q1,q2⟩:=W6 (i+1) k h hm;exact⟨j,v,by rw[Instr.findNow,e0,e1];exact q1,q2⟩
def adw{k:TypeId}(hk:P.underlying k=some (.int .i64))(e:Bool)(n:Nat)(z:Int):(Instr.checkKey e (n+1) k (.int .i64 z)).run P w = .ok () w:=by
 unfold Instr.checkKey;simp only[Sem.run_bind,run_underlying hk,Result.andThen];rfl
def af8(hT:mV P T){t:TypeId}{x i:Operand}{ok:Bool}(iJ:o.op = .lookup t x i ok)(r:jx w0 B σ a w L)(h:jW P K T O σ o=some u)(ho:∀ q,q ∈ u.jV->q):ku P K w0 B σ o a w u:=by
 cases ok with
 |true=>simp[jW,iJ]at h
 |false=>
 simp only[jW,iJ]at h;have hx:=r.op x;have hi:=r.op i;split at h
 .rename_i l z k e0 hv hw hd;obtain⟨ti,h1,h2⟩:=BG hd;have hu:P.underlying t=some (.map k e0):=by rw[hT.r8 h1,h2]
  rw[hv]at hx;rw[hw]at hi;have hi:=iQ.kX hi;split at h
  .rename_i e BZ hg;obtain⟨tk,h3,h4⟩:=BG BZ;have hk:P.underlying k=some (.int .i64):=by rw[hT.r8 h3,h4]
   cases h;have Aw:DU l z=some e:=ho _ aH;generalize hq:a.eval x=q at hx;cases hx with
   |mp _ b clk es hb iK hh mc=>
    obtain⟨j,v,q1,q2⟩:=W6 (w:=w) (L:=L) 0 mc Aw λb h=>.inr h
    refine ku.pure r (v:=v) ?_ rfl q2;have mU:(getObj b).run P w = .ok (.map es clk) w:=by simp[getObj,Sem.run,hh]
    have hck:=adw (P:=P) (w:=w) hk es.isEmpty 9999 z;have hfk:(Instr.findKey k (.int .i64 z) es.toList).run P w = .ok (some (j,v)) w:=by unfold Instr.findKey;simp[run_underlying hk,Result.andThen,q1]
    have hl:(Instr.lookup t (.map (some b)) (.int .i64 z) false).run P w = .ok v w:=by
     unfold Instr.lookup;simp[run_underlying hu,mU,hck,hfk,Result.andThen]
    simp only[execOp,iJ,hq,hi,Sem.run_bind,hl,Result.andThen_ok,Sem.run_pure]
  .cases h
 .cases h
def af1(hT:mV P T){t:TypeId}{x:Operand}{f:Nat}(iJ:o.op = .field t x f)(r:jx w0 B σ a w L)(h:jW P K T O σ o=some u):ku P K w0 B σ o a w u:=by
 simp only[jW,iJ]at h;have hx:=r.op x;split at h
 .rename_i l fs hv hd;obtain⟨ti,h1,h2⟩:=BG hd;have hu:P.underlying t=some (.struct fs):=by rw[hT.r8 h1,h2]
  rw[hv]at hx;obtain⟨vs,e,hr⟩:=iQ.CQ hx;split at h
  .rename_i fd Ou;split at h
   .rename_i ft Ov;split at h
    .cases h
    .rename_i hag;split at h
     .rename_i y hy;cases h;have iK:fd.offset<vs.length:=by rw[hr.len];exact(cE.1 hy).1
      have Fh:=bJ iK;refine ku.pure r (v:=vs[fd.offset]) ?_ rfl (hr.lf fd.offset y _ hy Fh);simp only[execOp,iJ,e,Instr.field,asAgg,Sem.run_bind,Sem.run_pure,Result.andThen_ok,run_underlying hu,Ou,part,Lz hT w Ov,hag,gX,Fh];rfl
     .cases h
   .cases h
  .cases h
 .cases h
def adp{ps:List PV}{l:List CV}{vs:List Value}(h:xU ps=some l)(hlen:vs.length=ps.length)(hr:∀ (i:Nat) (p:PV) (x:Value),ps[i]? = some p->vs[i]? = some x->lF (jl B L) (jH L) L w p x):
 vs.length=l.length/\∀ (i:Nat) (c:CV) (x:Value),l[i]? = some c->vs[i]? = some x->xP (jl B L) (jH L) L w c x:=by
 induction ps generalizing l vs with
 |nil=>cases h;exact⟨hlen,λi c x hc=>by simp at hc⟩
 |cons p ps ih=>
  cases vs with
  |nil=>simp at hlen
  |cons y vs=>
   have step:∀ (c0:CV) (l':List CV),xU ps=some l'->xP (jl B L) (jH L) L w c0 y->l=c0::l' ->
    (y::vs).length=l.length/\∀ (i:Nat) (c:CV) (x:Value),l[i]? = some c->(y::vs)[i]? = some x->xP (jl B L) (jH L) L w c x:=by
    intro c0 l' rq pV hl;obtain⟨i1,i2⟩:=ih rq (by simpa using hlen) (λi p x hp hx=>hr (i+1) p x (by simpa using hp) (by simpa using hx));subst hl;refine⟨by simp[i1],λi c x hc hx=>?_⟩;cases i with
    |zero=>simp at hc hx;subst hc hx;exact pV
    |succ i=>simp at hc hx;exact i2 i c x hc hx
   have h0:=hr 0 p y rfl rfl;cases p with
   |e x=>
    simp only[xU]at h;obtain⟨l',rq,rfl⟩:=ch.1 h;exact step (.e x) l' rq h0 rfl
   |box id off=>
    cases off with
    |zero=>
     simp only[xU]at h;obtain⟨l',rq,rfl⟩:=ch.1 h;exact step (.box id) l' rq h0 rfl
    |succ=>simp[xU]at h
   |nQ id sz i j=>
    simp only[xU]at h;split at h
    .rename_i hc;simp only[bQ]at hc;obtain rfl:=lv.1 hc.1.1;obtain rfl:=lv.1 hc.1.2;obtain rfl:=lv.1 hc.2;obtain⟨l',rq,rfl⟩:=ch.1 h;obtain⟨k1,b,n,c,k2,k3⟩:=h0;exact step (.row id) l' rq ⟨k1,b,n,c,k2,by simpa using k3⟩ rfl
    .cases h
   |_=>simp[xU]at h
def af9{fn:Fn}{first cap:Array Operand}(iJ:o.op = .makeFunc fn first cap)(r:jx w0 B σ a w L)(h:jW P K T O σ o=some u):ku P K w0 B σ o a w u:=by
 cases fn with
 |func f=>
  simp only[jW,iJ]at h;split at h
  .rename_i agP;have hf:first = #[]:=by simpa using agP
   subst hf;split at h
   .rename_i l hl;cases h;have hc:=adp (B:=B) (L:=L) (w:=w) (vs:=cap.toList.map a.eval) hl aH (λi p x hp hx=>by
     rw[cG]at hp hx;obtain⟨q,hq,rfl⟩:=ch.1 hp;rw[hq]at hx;simp at hx;subst hx;exact r.op q)
    refine ku.pure r (v:=.func (.func f) #[] (cap.toList.map a.eval).toArray) ?_ rfl ⟨cap.toList.map a.eval,rfl,hc.1,hc.2⟩;have e1:cap.map a.eval=(cap.toList.map a.eval).toArray:=by apply dJ;simp
    have e2:(#[]:Array Operand).map a.eval = #[]:= aH ;simp only[execOp,iJ,Instr.makeFunc,e1,e2,Sem.run_bind,Sem.run_pure,Result.andThen_ok]
   .cases h
  .cases h
 |_=>simp[jW,iJ]at h
def af3(hT:mV P T){t:TypeId}{x i:Operand}(iJ:o.op = .index t x i)(r:jx w0 B σ a w L)(h:jW P K T O σ o=some u)(ho:∀ q,q ∈ u.jV->q):ku P K w0 B σ o a w u:=by
 simp only[jW,iJ]at h;have hx:=r.op x;have hi:=r.op i;split at h
 .rename_i l k z hv hw;rw[hv]at hx;rw[hw]at hi;have ei:=iQ.kX hi;obtain⟨vs,e,hr⟩:=iQ.CQ hx;split at h
  .rename_i tt rB;split at h
   .rename_i n e' hd;have hu:P.underlying t=some (.array n e'):=by rw[hT.r8 rB,hd]
    split at h
    .rename_i te ot;split at h
     .rename_i hc;simp only[bQ,lv]at hc;cases h;obtain⟨xw,xx⟩:=ho (0<=z/\z<n) aH;refine ku.pure r (v:=.agg ((vs.drop (z.toNat*te.i.size)).take te.i.size).toArray) ?_ rfl ((hr.drop _).take _).agg;simp only[execOp,iJ,e,ei,Instr.index,asIntOf,Sem.run_bind,Sem.run_pure,Result.andThen_ok,run_underlying hu,xw,xx,and_self,bN,uU hT w ot,part,Lz hT w ot,hc.1];simp
     .cases h
    .cases h
   .cases h
  .cases h
 .cases h
def af2(hT:mV P T){t:TypeId}{x:Operand}{f:Nat}(iJ:o.op = .fieldAddr t x f)(r:jx w0 B σ a w L)(h:jW P K T O σ o=some u):ku P K w0 B σ o a w u:=by
 simp only[jW,iJ]at h;have hx:=r.op x;split at h
 .rename_i fs hd;obtain⟨ti,h1,h2⟩:=BG hd;have hu:P.underlying t=some (.struct fs):=by rw[hT.r8 h1,h2]
  split at h
  .rename_i fd Ou;split at h
   .rename_i ft Ov;split at h
    .cases h
    .rename_i kB;have ag2:¬ft.i.size=0:=λe=>kB (lv.2 e)
     have lE:∀ b off,a.eval x = .pointer (some ⟨b,off,none⟩)->(execOp a.eval o).run P w = .ok (.value (.pointer (some ⟨b,off+fd.offset,none⟩))) w:=by
      intro b off e;simp only[execOp,iJ,e,Instr.fieldAt,Instr.sureAddr,fieldPlace,Sem.run_bind,run_underlying hu,Result.andThen_ok,Ou,Sem.run_pure,uU hT w Ov,ag2,bI,Addr.add_lit]
     split at h
     .rename_i id off hv;rw[hv]at hx;obtain⟨k1,b,k2,k3⟩:=hx;cases h;exact ku.pure r (lE b off k3) rfl ⟨k1,b,k2,rfl⟩
     .rename_i id sz i j hv;rw[hv]at hx;obtain⟨k1,b,n,c,k2,k3⟩:=hx;cases h;exact ku.pure r (lE b _ k3) rfl ⟨k1,b,n,c,k2,by rw[dq]⟩
     .rename_i id sz k i j hv;rw[hv]at hx;obtain⟨k1,b,n,c,k2,k3⟩:=hx;cases h;exact ku.pure r (lE b _ k3) rfl ⟨k1,b,n,c,k2,by rw[dq]⟩
     .rename_i m el hv;rw[hv]at hx;split at h
      .rename_i hle;have OC:=cV hle;cases h;generalize hq:a.eval x=q at hx;cases hx with
       |jh _ _ b off g hb iK hl cell kk=>
        refine ku.pure r (lE b off hq) rfl (.jh _ _ b _ (λj=>g (fd.offset+j)) hb iK (λj hj=>hl _ aC) (λj hj=>?_) (λj hj=>kk _ aC));have:=cell (fd.offset+j) aC;rwa[<-dq]at this
      .cases h
     .cases h
   .cases h
  .cases h
 .cases h
end
section
variable {P:Program} {K:World->Prop} {T:List TI} {O:q8} {w0:World} {B:Nat->Prop} {σ:PS} {o:Oper} {a:Act} {w:World} {L:Lk} {u:kO}
def air(hT:mV P T){t:TypeId}{x:Operand}{ti:TI}(oQ:nh T t=some ti)(iJ:o.op = .load t x)(r:jx w0 B σ a w L)(h:Cc ti (σ.read (σ.op x) ti.i.size)=some u)(ho:∀ q,q ∈ u.jV->q):ku P K w0 B σ o a w u:=by
 cases hr:σ.read (σ.op x) ti.i.size with
 |none=>rw[hr]at h;cases h
 |some y=>
  obtain⟨l,is,jV⟩:=y;rw[hr]at h;simp only[Cc]at h;by_cases ha:ti.isAgg=true
  .rw [bB ha]at h;cases h;obtain⟨b,q,vs,e,h1,h2,h3⟩:=r.read (r.op x) hr ho;refine ku.pure r (v:=.agg vs.toArray) ?_ rfl h1.agg;simp only[execOp,iJ,e,Instr.loadAt,Instr.sureAddr,Sem.run_bind,Sem.run_pure,Result.andThen_ok,Za hT w oQ ha b q vs h2 h3]
  .rw [bA ha]at h;have BU:ti.isAgg=false:=by simpa using ha
   split at h
   .rename_i p;cases h;obtain⟨b,q,vs,e,h1,h2,h3⟩:=r.read (r.op x) hr ho;obtain⟨y,ys,rfl,hy,Dx⟩:=h1.ni;refine ku.pure r (v:=y) ?_ rfl hy;have hc:=h3 0 y rfl;simp only[execOp,iJ,e,Instr.loadAt,Instr.sureAddr,Sem.run_bind,Sem.run_pure,Result.andThen_ok,LA hT w oQ BU b q y (by simpa using hc)]
   .cases h
def ajN{l:List PV}{off q:Nat}(h:K5 l off=some q):l[off]? = some (.own q):=by
 induction l generalizing off with
 |nil=>cases h
 |cons p l ih=>
  cases off with
  |zero=>cases p<;>first|(cases h;rfl)|cases h
  |succ n=>
   have h':K5 l n=some q:=by cases p<;>exact h
   simpa using ih h'
def af7(hT:mV P T){t:TypeId}{x:Operand}(iJ:o.op = .load t x)(r:jx w0 B σ a w L)(h:jW P K T O σ o=some u)(ho:∀ q,q ∈ u.jV->q):ku P K w0 B σ o a w u:=by
 simp only[jW,iJ,JL]at h;split at h
 .rename_i ti oQ;split at h
  .rename_i id q qh;by_cases ha:ti.isAgg=true
   .rw [bB ha]at h;cases h
   .rw [bA ha]at h;have BU:ti.isAgg=false:=by simpa using ha
    cases h;have hx:=r.op x;cases hp:σ.op x with
    |box id' off=>
     rw[hp]at qh hx;simp only[C8]at qh;split at qh
     .rename_i nl T0 l jD;obtain⟨q',hq,qh⟩:=ch.1 qh;simp only[bW]at qh;obtain⟨rfl,rfl⟩:=qh;obtain⟨b,vs,h1,h2,h3,h4,h5,h6⟩:=r.hb id' _ jD;obtain⟨k1,b',k2,k3⟩:=hx;rw[h1]at k2;cases k2;have hl:=ajN hq;obtain⟨v,hv⟩:∃ v,vs[off]? = some v:=⟨_,bJ (by rw[h4];exact(cE.1 hl).1)⟩
      have hr:=h5 off _ v hl hv;refine ku.pure r (v:=v) ?_ rfl hr;have kF:w.cell? ⟨b,off,none⟩=some v:=by
       simp only[World.cell?,h3];simpa using hv
      simp only[execOp,iJ,k3,Instr.loadAt,Instr.sureAddr,Sem.run_bind,Sem.run_pure,Result.andThen_ok,LA hT w oQ BU b _ _ kF]
     .cases qh
    |_=>rw[hp]at qh;cases qh
  unfold JM at h;split at h
  .rename_i id i n qU;by_cases ha:ti.isAgg=true
   .rw [bB ha]at h;cases h
   .rw [bA ha]at h;have BU:ti.isAgg=false:=by simpa using ha
    cases h;have hx:=r.op x;cases hp:σ.op x with
    |nQ id' sz i' j=>
     rw[hp]at qU hx;simp only[D9]at qU;split at qU
     .rename_i nl T1 T0 n' sz' len el jD;split at qU
      .rename_i hc;simp only[bM,bW]at qU;obtain⟨rfl,rfl,rfl⟩:=qU;simp only[bQ]at hc;have e1:=lv.1 hc.1;have e2:=lv.1 hc.2;subst e1 e2;have hi:i'<n':=ho _ aH;obtain⟨b,c,cur,f,h1,h2,h3,h4,h5,h6,h7,h8,h9,sE,sU⟩:=(r.hb id' _ jD).xL aC;obtain⟨k1,b',n2,c2,k2,k3⟩:=hx;rw[h1]at k2;cases k2;refine ku.pure r (v:=L.iU id' i') ?_ rfl ⟨k1,rfl⟩;have kF:w.cell? ⟨b,i'*1+0,none⟩=some (L.iU id' i'):=by
        simp only[World.cell?,h2];simpa using h6 i' hi aH 
       simp only[execOp,iJ,k3,Instr.loadAt,Instr.sureAddr,Sem.run_bind,Sem.run_pure,Result.andThen_ok,LA hT w oQ BU b _ _ kF]
      .cases qU
     .cases qU
    |_=>rw[hp]at qU;cases qU
  .exact air hT oQ iJ r h ho
 .cases h
def Ya{bs br:Nat->Prop}{l m:List E}{vs us:List Value}(h:kJ bs br w l vs)(k:kJ bs br w m us)(off:Nat):kJ bs br w (Cp l off m) (vs.take off++us++vs.drop (off+us.length)):=by
 unfold Cp;rw[k.len];exact((h.take off).app k).app (h.drop _)
def aki{q:E->Bool}{l m:List E}(h:l.all q=true)(k:m.all q=true)(off:Nat):(Cp l off m).all q=true:=by
 unfold Cp;rw[List.all_append,List.all_append,k];have h1:(l.take off).all q=true:=bU.2 λx hx=>bU.1 h x (et hx)
 have h2:(l.drop (off+m.length)).all q=true:=bU.2 λx hx=>bU.1 h x (eK hx)
 rw[h1,h2];rfl
def Yb{R R':PV->Value->Prop}{l m:List PV}{vs us:List Value}(h:vs.length=l.length)(k:us.length=m.length)(off:Nat)
 (hl:∀ (i:Nat) (p:PV) (v:Value),l[i]? = some p->vs[i]? = some v->R p v) (hm:∀ (i:Nat) (p:PV) (v:Value),m[i]? = some p->us[i]? = some v->R' p v) (hR:∀ p v,R p v->R' p v):
 (vs.take off++us++vs.drop (off+us.length)).length=(D3 l off m).length/\∀ (i:Nat) (p:PV) (v:Value),(D3 l off m)[i]? = some p->(vs.take off++us++vs.drop (off+us.length))[i]? = some v->R' p v:=by
 unfold D3;rw[k];refine⟨by simp[h,k],λi p v hp hv=>?_⟩;rw[ew,ew]at hp hv;simp only[cC,cF,h,k]at hp hv;by_cases h1:i<min off l.length+m.length
 .rw [bB h1]at hp hv;by_cases h2:i<min off l.length
  .rw [bB h2]at hp hv;rw[dM]at hp hv;split at hp
   .rename_i h3;rw[bB h3]at hv;exact hR _ _ (hl i p v hp hv)
   .cases hp
  .rw [bA h2]at hp hv;exact hm _ p v hp hv
 .rw [bA h1]at hp hv;rw[dN]at hp hv;exact hR _ _ (hl _ p v hp hv)
def oh.Ol{w:World}{v:Value}{T:TypeId}{n sz:Nat}{f:Nat->Nat->Value}{nl:Bool}(h:oh w v T n sz f nl):v.cells.toList=[v]/\v.oneCell'=true/\qI v=false:=by
 rcases h with⟨rfl,_⟩|⟨b,c,cur,rfl,_⟩<;>exact⟨rfl,rfl,rfl⟩
def nW.Ol{bs br:Nat->Prop}{id:Nat}{b:Bx}(h:nW bs br L w id b)(hs:b.VW=true):(L.val id).cells.toList=[L.val id]/\(L.val id).oneCell'=true/\qI (L.val id)=false:=by
 cases b with
 |row nl T n sz el=>obtain⟨f,h1,_⟩:=h;exact h1.Ol
 |ke nl T1 T0 n sz len el pend=>
  rcases h with⟨h,_⟩|⟨b,c,cur,f,h,_⟩<;>rw[h]<;>exact⟨rfl,rfl,rfl⟩
 |cells _ _=>cases hs
 |qe _ _ _=>cases hs
def QS{id:Nat}:∀ i,L.mz i->(L.set id (L.own id) (L.val id) (L.iU id)).mz i/\(L.set id (L.own id) (L.val id) (L.iU id)).val i=L.val i/\∀ j,(L.set id (L.own id) (L.val id) (L.iU id)).iU i j=L.iU i j:=by
 intro i hi;by_cases e:i=id
 .subst e;exact⟨.inr hi,Lk.pQ,λj=>Lk.sQ j⟩
 .exact ⟨.inr hi,Lk.zW e,λj=>Lk.Ee e j⟩
def agj(hT:mV P T){t:TypeId}{x y:Operand}(iJ:o.op = .store t x y)(r:jx w0 B σ a w L)(h:jW P K T O σ o=some u)(ho:∀ q,q ∈ u.jV->q):ku P K w0 B σ o a w u:=by
 simp only[jW,iJ,JP]at h;have hx:=r.op x;have hy:=r.op y;split at h
 .rename_i ti oQ;split at h
  .
   rename_i id off e pM Dq;rw[pM]at hx;rw[Dq]at hy;split at h
   .rename_i T1 l m jD hm;split at h
    .rename_i hc;cases h;simp only[bQ]at hc;have c1:=lv.1 hc.1.1;have c2:=cV hc.1.2;obtain⟨b,vs,h1,h2,h3,h4,h5⟩:=r.hb id _ jD;obtain⟨k1,b',k2,k3⟩:=hx;rw[h1]at k2;cases k2;obtain⟨q1,q2⟩:=hy.cells hm;have ht:=rK.setRow (L:=L) ((h2 b).2 rfl) (λx hx=>(r.hw id x hx).2) (vs.take off++(a.eval y).cells.toList++vs.drop (off+(a.eval y).cells.toList.length)).toArray;have hl:=ht.later (L.val id) (L.iU id);refine⟨undef,_,_,.inr ⟨?_,rfl⟩,r.sy id (.cells T1 (Cp l off m)) _ k1 ht ⟨b,_,by rw[Lk.pQ];exact h1,λx=>(Lk.s8 x).trans (h2 x),setRow_heap w b _ _ T1 _ h3,(Ya h4 q1 off).mono λ_ _=>hl.lf,?_⟩ ?_,.any _⟩
     .have hr:=FN hT w oQ b off T1 vs.toArray h3 (a.eval y) (by rw[q1.len,c1]) (by rw[q1.len,fw,h4.len];exact c2) q2;simp only[execOp,iJ,k3,Instr.storeAt,Instr.sureAddr,Sem.run_bind,Sem.run_pure,Result.andThen_ok,hr]
     .intro v hv;simp only[dK]at hv;rcases hv with(hv|hv)|hv
      .exact h5 v (et hv)
      .exact q2 v hv
      .exact h5 v (eK hv)
     .intro hn;have:=hc.2;rw[hn]at this;exact aki (r.hl hn id _ jD) (by simpa using this) off
    .cases h
   .rename_i nl T1 l m jD hm;split at h
    .rename_i hc;cases h;simp only[bQ]at hc;have c1:=lv.1 hc.1.1;have c2:=cV hc.1.2;obtain⟨b,vs,h1,h2,h3,h4,h5,h6⟩:=r.hb id _ jD;obtain⟨k1,b',k2,k3⟩:=hx;rw[h1]at k2;cases k2;obtain⟨q1,q2⟩:=hy.cells hm;have ht:=rK.setRow (L:=L) ((h2 b).2 rfl) (λx hx=>(r.hw id x hx).2) (vs.take off++(a.eval y).cells.toList++vs.drop (off+(a.eval y).cells.toList.length)).toArray;have hl:=ht.later (L.val id) (L.iU id);obtain⟨p1,p2⟩:=Yb (R:=lF (jl B L) (jH L) L w) (R':=lF (jl B (L.set id (L.own id) (L.val id) (L.iU id))) (jH (L.set id (L.own id) (L.val id) (L.iU id))) (L.set id (L.own id) (L.val id) (L.iU id)) (w.setRow b (vs.take off++(a.eval y).cells.toList++vs.drop (off+(a.eval y).cells.toList.length)).toArray))
      h4 (us:=(a.eval y).cells.toList) (m:=m.map .e) (by rw[q1.len,bZ]) off h5 (λi p v hp hv=>by
       rw[cG]at hp;obtain⟨e0,he,rfl⟩:=ch.1 hp;exact hl.lf (q1.lf i e0 v he hv)) λp v k=>k.later hl QS
     refine⟨undef,_,_,.inr ⟨?_,rfl⟩,r.sy id (.qe nl T1 (D3 l off (m.map .e))) _ k1 ht ⟨b,_,by rw[Lk.pQ];exact h1,λx=>(Lk.s8 x).trans (h2 x),setRow_heap w b _ _ T1 _ h3,p1,p2,?_⟩ ?_,.any _⟩
     .have hr:=FN hT w oQ b off T1 vs.toArray h3 (a.eval y) (by rw[q1.len,c1]) (by rw[q1.len,fw,h4];exact c2) q2;simp only[execOp,iJ,k3,Instr.storeAt,Instr.sureAddr,Sem.run_bind,Sem.run_pure,Result.andThen_ok,hr]
     .intro v hv;simp only[dK]at hv;rcases hv with(hv|hv)|hv
      .exact h6 v (et hv)
      .refine ⟨q2 v hv,λhn=>?_⟩;have:=hc.2;rw[hn]at this;have xm:m.all E.ng=true:=by simpa using this
       obtain⟨i,hi⟩:=dI.1 hv;have iK:i<m.length:=by rw[<-q1.len];exact(cE.1 hi).1
       exact(q1.lf i _ v (bJ iK) hi).ng (bU.1 xm _ (cK iK))
      .exact h6 v (eK hv)
     .intro hn;exact r.hl hn id (.qe nl T1 l) jD
    .cases h
   .cases h
  .
   rename_i id off q pM Dq;rw[pM]at hx;rw[Dq]at hy;unfold EJ at h;split at h
   rotate_left
   .unfold JQ at h;split at h
    .rename_i nl T1 l bq jD uG;split at h
     .rename_i hc;cases h;simp only[bQ]at hc;have c1:=lv.1 hc.1.2;have c2:off<l.length:=by simpa[fJ]using hc.2
      obtain⟨b,vs,h1,h2,h3,h4,h5,h6⟩:=r.hb id _ jD;obtain⟨k1,b',k2,k3⟩:=hx;rw[h1]at k2;cases k2;obtain⟨vt,AJ⟩:=hy;obtain⟨d1,d2,d3⟩:=(r.hb q _ uG).Ol hc.1.1;have mX:(a.eval y).cells.toList=[L.val q]:=by rw[AJ,d1]
      have ht:=rK.setRow (L:=L) ((h2 b).2 rfl) (λx hx=>(r.hw id x hx).2) (vs.take off++[L.val q]++vs.drop (off+[L.val q].length)).toArray;have hl:=ht.later (L.val id) (L.iU id);obtain⟨p1,p2⟩:=Yb (R:=lF (jl B L) (jH L) L w) (R':=lF (jl B (L.set id (L.own id) (L.val id) (L.iU id))) (jH (L.set id (L.own id) (L.val id) (L.iU id))) (L.set id (L.own id) (L.val id) (L.iU id)) (w.setRow b (vs.take off++[L.val q]++vs.drop (off+[L.val q].length)).toArray))
       h4 (us:=[L.val q]) (m:=[.own q]) rfl off h5 (λi p v hp hv=>by
        cases i with
        |zero=>
         simp at hp hv;subst hp hv;have:=QS (L:=L) (id:=id) q vt;exact⟨this.1,this.2.1.symm⟩
        |succ i=>simp at hp) λp v k=>k.later hl QS
      refine⟨undef,_,_,.inr ⟨?_,rfl⟩,r.sy id (.qe nl T1 (D3 l off [.own q])) _ k1 ht ⟨b,_,by rw[Lk.pQ];exact h1,λx=>(Lk.s8 x).trans (h2 x),setRow_heap w b _ _ T1 _ h3,p1,p2,?_⟩ ?_,.any _⟩
      .have hr:=FN hT w oQ b off T1 vs.toArray h3 (a.eval y) (by rw[mX,c1];rfl) (by rw[mX,fw,h4];exact c2) (by rw[mX];exact λu hu=>by rw[fO.1 hu];exact d2);rw[mX]at hr;simp only[execOp,iJ,k3,Instr.storeAt,Instr.sureAddr,Sem.run_bind,Sem.run_pure,Result.andThen_ok,hr]
      .intro v hv;simp only[dK]at hv;rcases hv with(hv|hv)|hv
       .exact h6 v (et hv)
       .rw [fO.1 hv];exact⟨d2,λ_=>d3⟩
       .exact h6 v (eK hv)
      .intro hn;exact r.hl hn id (.qe nl T1 l) jD
     .cases h
    .cases h
   rename_i u' hM;cases h;unfold JR at hM;have h:=hM;clear hM;split at h
   .rename_i T1 x0 nl T0 n sz el jD uG;split at h
    .rename_i hc;cases h;rw[bQ]at hc;obtain⟨hc,pV⟩:=hc;have e0:=lv.1 pV;subst e0;simp only[bQ,eB]at hc;have kB:id≠q:=λe=>by rw[e,cJ]at hc;cases hc.1
     have c1:=lv.1 hc.2;obtain⟨b,vs,h1,h2,h3,h4,h5⟩:=r.hb id _ jD;obtain⟨k1,b',k2,k3⟩:=hx;rw[h1]at k2;cases k2;obtain⟨_,AJ⟩:=hy;obtain⟨v0,rfl⟩:∃ v0,vs=[v0]:=by
      have:=h4.len;rcases vs with _|⟨v0,_|⟨v1,vs⟩⟩
      .simp at this
      .exact ⟨v0,rfl⟩
      .simp at this
     obtain⟨f,g1,_⟩:=r.hb q _ uG;have kF:(L.val q).cells.toList=[L.val q]/\(L.val q).oneCell'=true:=by
      rcases g1 with⟨g,_⟩|⟨b1,c1,cur,g,_⟩<;>rw[g]<;>exact⟨rfl,rfl⟩
     have ht:=rK.setRow (L:=L) ((h2 b).2 rfl) (λx hx=>(r.hw id x hx).2) #[L.val q];obtain⟨L',hr⟩:=r.pj jD uG kB h1 (setRow_heap w b _ _ T1 _ h3) ht;refine⟨undef,_,L',.inr ⟨?_,rfl⟩,hr,.any _⟩;have lE:=FN hT w oQ b 0 T1 #[v0] h3 (a.eval y) (by rw[AJ,kF.1,c1];rfl) (by rw[AJ,kF.1];exact bF 1) (by rw[AJ,kF.1];exact λu hu=>by rw[fO.1 hu];exact kF.2);rw[AJ,kF.1]at lE;simp only[execOp,iJ,k3,Instr.storeAt,Instr.sureAddr,Sem.run_bind,Sem.run_pure,Result.andThen_ok,AJ,lE];rfl
    .cases h
   .cases h
  .
   rename_i id sz i j e pM Dq;rw[pM]at hx;rw[Dq]at hy;split at h
   .rename_i nl T1 n s el m jD hm;split at h
    .rename_i hc;cases h;simp only[bQ]at hc;have c1:=lv.1 hc.1.1.1.1;have c2:=lv.1 hc.1.1.1.2;have c3:=cV hc.1.1.2;subst c2;have hi:i<n:=ho _ aH;obtain⟨f,h1,h2,h3⟩:=r.hb id _ jD;obtain⟨k1,b',n',c',k2,k3⟩:=hx;rcases h1 with⟨h1,_⟩|⟨b,c,cur,h1,hg,ph,oo,mX,kF,jZ⟩
     .rw [k2]at h1;cases h1
     .rw [k2]at h1;cases h1;obtain⟨q1,q2⟩:=hy.cells hm;have mi:L.own id b':=(h2 b').2 (by rw[k2];rfl);have ao1:i*s+s<=cur.size:=by
       rw[mX];have:=bY s (aC:i+1<=c');rwa[cr,cv]at this
      have sj:i*s+j+(a.eval y).cells.toList.length<=cur.size:=by rw[q1.len];omega
      have ht:=rK.setRow (L:=L) mi (λx hx=>(r.hw id x hx).2) (cur.toList.take (i*s+j)++(a.eval y).cells.toList++cur.toList.drop (i*s+j+(a.eval y).cells.toList.length)).toArray;have hl:=ht.later (L.val id) (L.iU id);refine⟨undef,_,_,.inr ⟨?_,rfl⟩,r.sy id _ _ k1 ht ⟨λi' j'=>if i'=i/\j<=j'/\j'<j+m.length then(a.eval y).cells.toList.getD (j'-j) undef else f i' j',?_,λx=>?_,?_⟩ ?_,.any _⟩
      .have hr:=FN hT w oQ b' (i*s+j) T1 cur hg (a.eval y) (by rw[q1.len,c1]) sj q2;simp only[execOp,iJ,k3,Instr.storeAt,Instr.sureAddr,Sem.run_bind,Sem.run_pure,Result.andThen_ok,hr]
      .rw [Lk.pQ];refine .inr ⟨b',c',_,k2,setRow_heap w b' _ _ T1 _ hg,ph,oo,?_,?_,?_⟩
       .simp only[fw,cC,cF,fe,dP];have agQ:=sj;simp only[dP]at agQ;rw[dF aC];omega
       .intro i' j' oc tK;obtain⟨o1,o2⟩:=kF i' j' oc tK;have hlen:i'*s+j'<cur.size:=by
         rw[mX];have:=bY s (aC:i'+1<=c');rw[cr,cv]at this;omega
        have rk:i'≠i->i'*s+j'<i*s\/i*s+s<=i'*s+j':=by
         intro kB;rcases Nat.lt_or_gt_of_ne kB with iK|iK
         .left;have:=bY s (show i'+1<=i from iK);rw[cr,cv]at this;omega
         .right;have:=bY s (show i+1<=i' from iK);rw[cr,cv]at this;omega
        simp only[gX];rw[gZ,ew,cF,dP,dF aC];by_cases lI:i'=i/\j<=j'/\j'<j+m.length
        .obtain ⟨rfl,p1,p2⟩:=lI;rw[bA aC,dO (by rw[q1.len];omega)];have e1:i'*s+j'-(i'*s+j)=j'-j:= aC ;have iK:j'-j<(a.eval y).cells.toList.length:=by rw[q1.len];omega
         rw[bB ⟨rfl,p1,p2⟩,e1,bE,bJ iK];exact⟨rfl,q2 _ (cK iK)⟩
        .rw [bA lI];refine⟨?_,o2⟩;by_cases lh:i'*s+j'<i*s+j
         .rw [bB lh,dM,bB lh];simpa using o1
         .rw [bA lh,fK,dN]
          .have:i*s+j+(a.eval y).cells.toList.length+(i'*s+j'-(i*s+j)-(a.eval y).cells.toList.length)=i'*s+j':=by
            rw[q1.len];by_cases GW:i'=i
            .subst GW;omega
            .have:=rk GW;omega
           rw[this];simpa using o1
          .rw [q1.len];by_cases GW:i'=i
           .subst GW;omega
           .have:=rk GW;omega
       .intro hn v hv;simp only[gY,dK]at hv;rcases hv with(hv|hv)|hv
        .exact jZ hn v (by have:=et hv;simpa using this)
        .obtain ⟨q,hq⟩:=dI.1 hv;have yx:q<m.length:=by rw[<-q1.len];exact(cE.1 hq).1
         have hmn:m.all E.ng=true:=by have:=hc.1.2;rw[hn]at this;simpa using this
         exact(q1.lf q _ v (bJ yx) hq).ng (bU.1 hmn _ (cK yx))
        .exact jZ hn v (by have:=eK hv;simpa using this)
      .rw [Lk.pQ];exact(Lk.s8 x).trans (h2 x)
      .intro i' j' oc tK;refine(λ(q:iQ _ _ _ _ _/\_)=>⟨hl.lf q.1,q.2⟩) (?_:_/\_);dsimp only;by_cases lI:i'=i/\j<=j'/\j'<j+m.length
       .rw [bB lI,bB lI];have E7:j'-j<m.length:= aC ;have Hg:j'-j<(a.eval y).cells.toList.length:=by rw[q1.len];omega
        rw[bE,bJ E7,bE,bJ Hg];exact⟨q1.lf _ _ _ (bJ E7) (bJ Hg),bU.1 hc.2 _ (cK E7)⟩
       .rw [bA lI,bA lI];exact h3 i' j' oc tK
      .intro hn;have:=r.hl hn id _ jD;exact this
    .cases h
   .cases h
  .
   rename_i id i id' k pM Dq;rw[pM]at hx;rw[Dq]at hy;split at h
   .rename_i nl T1 T0 n sz len el k' jD;split at h
    .rename_i hc;cases h;simp only[bQ]at hc;have c1:=lv.1 hc.1;have c2:=lv.1 hc.2;subst c1;have e1:i=k':=ho _ aH;have e2:k=k':=ho _ aH;have hk:k'<n:=ho _ aH;subst e1 e2;obtain⟨b,c,cur,f,h1,h2,h3,h4,h5,h6,h7,h8,h9,sE,sU⟩:=(r.hb id _ jD).xL aC;obtain⟨k1,b',n',c',k2,k3⟩:=hx;obtain⟨_,Fj⟩:=hy;rw[h1]at k2;cases k2;have Dk:(L.iU id k).oneCell'=true/\qI (L.iU id k)=false/\(L.iU id k).cells = #[L.iU id k]:=by
      rcases(h8 k hk).1 with⟨e,_⟩|⟨_,_,_,e,_⟩<;>rw[e]<;>exact⟨rfl,rfl,rfl⟩
     have mi:L.own id b:=(h9 b).2 (.inl rfl);have ht:=rK.setRow (L:=L) mi (λx hx=>(r.hw id x hx).2) (cur.toList.take (k*1+0)++(a.eval y).cells.toList++cur.toList.drop (k*1+0+(a.eval y).cells.toList.length)).toArray;have hl:=ht.later (L.val id) (L.iU id);have zi:(a.eval y).cells.toList=[L.iU id k]:=by rw[Fj,Dk.2.2]
     have UR:(cur.toList.take (k*1+0)++(a.eval y).cells.toList++cur.toList.drop (k*1+0+(a.eval y).cells.toList.length)).toArray=cur.setIfInBounds k (L.iU id k):=by
      rw[zi];apply dJ;simp only[cI,cg,fm,ap5];rw[List.set_eq_take_append_cons_drop,bB (by simpa using(aC:k<cur.size))];simp
     rw[UR]at ht hl;have yl:∀ x,x≠b->(w.setRow b (cur.setIfInBounds k (L.iU id k))).heap[x]? = w.heap[x]?:=λx hx=>setRow_other w b x _ hx
     refine⟨undef,_,_,.inr ⟨?_,rfl⟩,r.sy id _ _ k1 ht (.inr ⟨b,c,cur.setIfInBounds k (L.iU id k),f,by rw[Lk.pQ];exact h1,setRow_heap w b _ _ T1 _ h2,h3,h4,by simpa using h5,?_,?_,?_,?_,?_,?_⟩) ?_,.any _⟩
     .have hr:=FN hT w oQ b (k*1+0) T1 cur h2 (a.eval y) (by rw[zi];simpa using c2.symm) (by rw[zi];simp;omega) (by rw[zi];simpa using Dk.1);rw[UR]at hr;simp only[execOp,iJ,k3,Instr.storeAt,Instr.sureAddr,Sem.run_bind,Sem.run_pure,Result.andThen_ok,hr]
     .intro q hq _;rw[Lk.sQ];by_cases vk:q=k
      .subst vk;have:q<cur.size:= aC ;simp[this]
      .rw [ap2 (λe=>vk e.symm)];exact h6 q hq (by simpa using λe=>vk e.symm)
     .intro v hv;rcases Array.mem_or_eq_of_mem_setIfInBounds hv with hv|hv
      .exact h7 v hv
      .subst hv;exact Dk.2.1
     .intro q hq;obtain⟨p1,p2⟩:=h8 q hq;rw[Lk.sQ];exact⟨p1.block λx hx=>yl x λe=>sU q hq (e▸hx),λi j hi hj=>⟨hl.lf (p2 i j hi hj).1,(p2 i j hi hj).2⟩⟩
     .intro x;rw[Lk.s8];refine(h9 x).trans ?_;simp only[Lk.sQ]
     .simp only[Lk.sQ];exact sE
     .simp only[Lk.sQ];exact sU
     .intro hn;have:=r.hl hn id _ jD;exact this
    .cases h
   .cases h
  .cases h
 .cases h
def afS(hT:mV P T){t:TypeId}(iJ:o.op = .alloc t)(r:jx w0 B σ a w L)(h:jW P K T O σ o=some u):ku P K w0 B σ o a w u:=by
 simp only[jW,iJ]at h;split at h
 .rename_i ti oQ;split at h
  .rename_i z hz;obtain⟨id,hd,jZ,rfl⟩:=KL h;obtain⟨zv,tW,sK⟩:=F3 hz;obtain⟨q1,q2⟩:=sK (jl B L) (jH L) w;obtain⟨L',r',hp⟩:=r.Xy id t z zv q1 q2 (by simpa[Bx.nl]using jZ);refine⟨_,_,L',.inl ?_,r',hp⟩;simp only[execOp,iJ,Instr.alloc,Sem.run_bind,QG hT w oQ tW,Result.andThen_ok,newVar,newRow,run_newObj_alloc,Sem.run_pure]
  .cases h
 .cases h
def afW{t:TypeId}{x:Operand}(iJ:o.op = .box t x)(r:jx w0 B σ a w L)(h:jW P K T O σ o=some u):ku P K w0 B σ o a w u:=by
 simp only[jW,iJ]at h;have hx:=r.op x;split at h
 .rename_i e hv;rw[hv]at hx;split at h
  .rename_i l hl;obtain⟨id,hd,jZ,rfl⟩:=KL h;obtain⟨q1,q2⟩:=hx.cells hl;obtain⟨L',r',hp⟩:=r.Xy id t l (a.eval x) q1 q2 (by simpa[Bx.nl]using jZ);refine⟨_,_,L',.inl ?_,r',hp⟩;simp only[execOp,iJ,Instr.box,Sem.run_bind,Result.andThen_ok,newVar,newRow,run_newObj_alloc,Sem.run_pure]
  .cases h
 .cases h
end
def afz(us:List Value):∀ (off k:Nat) (cs:Array Value),off+k+us.length<=cs.size ->
 (us.zipIdx k).foldl (λcs (c:Value×Nat)=>cs.setIfInBounds (off+c.2) c.1) cs=(cs.toList.take (off+k)++us++cs.toList.drop (off+k+us.length)).toArray:=by
 induction us with
 |nil=>intro off k cs h;simp
 |cons x us ih=>
  intro off k cs h;simp only[List.zipIdx_cons,List.foldl_cons];rw[ih off (k+1) _ (by simp at h ⊢;omega)];apply dJ;simp only[dp]at h;obtain⟨A,y,D,mX,hA⟩:∃ A y D,cs.toList=A++y::D/\A.length=off+k:=by
   have iK:off+k<cs.toList.length:= aN ;refine⟨cs.toList.take (off+k),cs.toList[off+k],cs.toList.drop (off+k+1),?_,by rw[cF];omega⟩;rw[<-fG iK,apG]
  simp only[ap5,dp,mX,<-hA];rw[List.set_append_right _ _ (bF _),dA,List.set_cons_zero,
   show off+(k+1)+us.length=A.length+(us.length+1)by omega,(aC:off+(k+1)=A.length+1),
   List.take_length_add_append,ap6,List.take_left,ap6]
  simp
def TX(place:Nat->Option (Nat×Nat))(cs:Array Value)(i:Nat)(v:Value)(rest:List (Nat×Value))(off:Nat)(hp:place i=some (off,v.cells.toList.length))(sj:off+v.cells.toList.length<=cs.size):
 Instr.fill place cs ((i,v)::rest)=Instr.fill place (cs.toList.take off++v.cells.toList++cs.toList.drop (off+v.cells.toList.length)).toArray rest:=by
 have h1:¬(v.cells.size≠v.cells.toList.length\/off+v.cells.size>cs.size):=by simp at sj ⊢;omega
 have hf:=afz v.cells.toList off 0 cs (by simpa using sj);simp only[cg]at hf;have h2:(v.cells.zipIdx.foldl (λcs (c,j)=>cs.setIfInBounds (off+j) c) cs)=(cs.toList.take off++v.cells.toList++cs.toList.drop (off+v.cells.toList.length)).toArray:=by
  rw[<-hf,<-Array.foldl_toList,Array.toList_zipIdx]
 rw[Instr.fill,hp];simp only;rw[bA (by simpa using h1),h2]
section
variable {P:Program} {K:World->Prop} {T:List TI} {O:q8} {w0:World} {B:Nat->Prop} {σ:PS} {o:Oper} {a:Act} {w:World} {L:Lk} {u:kO}
def NG(r:jx w0 B σ a w L){place:Nat->Option (Nat×Nat)}{ps:List (Nat×Operand)}{l m:List E}{cs:Array Value}(h:th σ place l ps=some m)
 (hr:kJ (jl B L) (jH L) w l cs.toList) (h1:∀ u ∈ cs,u.oneCell'=true):
 ∃ cs',Instr.fill place cs (ps.map λx=>(x.1,a.eval x.2))=some cs'/\kJ (jl B L) (jH L) w m cs'.toList/\(∀ u ∈ cs',u.oneCell'=true):=by
 induction ps generalizing l cs with
 |nil=>
  simp only[th]at h;cases h;exact⟨cs,rfl,hr,h1⟩
 |cons p ps ih=>
  obtain⟨i,x⟩:=p;simp only[th]at h;have hx:=r.op x;split at h
  .rename_i off size e hp hv;rw[hv]at hx;split at h
   .rename_i q hq;split at h
    .rename_i hc;simp only[bQ]at hc;have c1:=lv.1 hc.1;have c2:=cV hc.2;obtain⟨q1,q2⟩:=hx.cells hq;have hlen:(a.eval x).cells.toList.length=size:=by rw[q1.len,c1]
     have hcl:=hr.len;rw[e9,TX place cs i (a.eval x) _ off (by rw[hlen];exact hp) (by rw[q1.len];simp at hcl;omega)];refine ih h (Ya hr q1 off) λv hv=>?_
     simp only[gY,dK]at hv;rcases hv with(hv|hv)|hv
     .exact h1 v (by have:=et hv;simpa using this)
     .exact q2 v hv
     .exact h1 v (by have:=eK hv;simpa using this)
    .cases h
   .cases h
  .cases h
def P8(ps:Array (Nat×Operand))(a:Act):(ps.map λ(x:Nat×Operand)=>(x.1,a.eval x.2)).toList=ps.toList.map λx=>(x.1,a.eval x.2):= aH 
def aj5{P:Program}(hT:mV P T){fs:List Field}{pl:List (Nat×Nat)}(h:It T fs=some pl):fs.mapM (λf=>(P.info? f.type).map λi=>(f.offset,i.size))=some pl:=by
 induction fs generalizing pl with
 |nil=>simp only[It]at h;cases h;rfl
 |cons f fs ih=>
  simp only[It]at h;split at h
  .rename_i ti l h1 h2;cases h;simp[fP,hT.AM h1,ih h2]
  .cases h
def afX(hT:mV P T){t:TypeId}{ps:Array (Nat×Operand)}(iJ:o.op = .build t ps)(r:jx w0 B σ a w L)(h:jW P K T O σ o=some u):ku P K w0 B σ o a w u:=by
 simp only[jW,iJ]at h;have main:∀ (l:List E) (cs:Array Value),P.built t (ps.toList.map λx=>(x.1,a.eval x.2))=some cs->kJ (jl B L) (jH L) w l cs.toList->u={ r:=.e (.agg l) }->ku P K w0 B σ o a w u:=by
  intro l cs hb hr hu;subst hu;have lE:=run_build (P:=P) w t (ps.map λ(x:Nat×Operand)=>(x.1,a.eval x.2)) cs (by rw[P8];exact hb);refine ku.pure r (v:=.agg cs) ?_ rfl (by have:=hr.agg;rwa[Array.toArray_toList]at this);simp only[execOp,iJ,Sem.run_bind,lE,Result.andThen_ok,Sem.run_pure]
 split at h
 .rename_i ti oQ;split at h
  .rename_i z hz;obtain⟨zv,tW,sK⟩:=F3 hz;obtain⟨q1,q2⟩:=sK (jl B L) (jH L) w;split at h
   .rename_i fs hd;split at h
    .rename_i pl Dm;obtain⟨l,hl,rfl⟩:=ch.1 h;obtain⟨cs,p1,p2,_⟩:=NG r hl q1 (λu hu=>q2 u (by simpa using hu));refine main l cs ?_ p2 rfl;unfold Program.built;rw[hT.AM oQ,hT.r8 oQ,hd];simp only[tW,aj5 hT Dm];have:(λx:Nat=>pl.toArray[x]?)=λx=>pl[x]?:=by funext x;simp
     rw[this];exact p1
    .cases h
   .rename_i n e hd;split at h
    .rename_i te ot;obtain⟨l,hl,rfl⟩:=ch.1 h;obtain⟨cs,p1,p2,_⟩:=NG r hl q1 (λu hu=>q2 u (by simpa using hu));refine main l cs ?_ p2 rfl;unfold Program.built;rw[hT.AM oQ,hT.r8 oQ,hd];simp only[tW,hT.AM ot];exact p1
    .cases h
   .cases h
  .cases h
 .cases h
def YL{α:Type}(n:Nat)(l:List α):(lf n l).length=n*l.length:=by
 induction n with
 |zero=>simp[lf]
 |succ n ih=>simp only[lf,cC,ih,cr,cv];omega
def alg{α:Type}(n:Nat)(l:List α)(q:Nat)(h:q<n*l.length):(lf n l)[q]? = l[q%l.length]?:=by
 induction n generalizing q with
 |zero=>simp at h
 |succ n ih=>
  simp only[lf];rw[cr,cv]at h;by_cases hq:q<l.length
  .rw [dO hq,cH hq]
  .rw [fK aC,ih _ aC];congr 1;exact(Nat.mod_eq_sub_mod aC).symm
def alh{bs br:Nat->Prop}{z:List E}{zs:Array Value}(h:kJ bs br w z zs.toList)(n:Nat):kJ bs br w (lf n z) ((Array.range (n*zs.size)).map (zs[· % zs.size]!)).toList:=by
 have hl:=h.len;simp only[dP]at hl;refine⟨by simp[YL,hl],λi p x hp hx=>?_⟩;have hi:i<n*zs.size:=by
  have:=(cE.1 hx).1;simpa using this
 have hz:0<zs.size:=by
  rcases fc zs.size with h0|h0
  .rw [h0]at hi;simp at hi
  .exact h0
 rw[alg _ _ _ (by rw[<-hl];exact hi),<-hl]at hp;have iK:=bV i hz;simp[hi]at hx;subst hx;rw[fM zs _ iK];exact h.lf _ p _ hp (by simp[iK])
def ZW(hB:∀ b,B b->b<w0.heap.size)(r:jx w0 B σ a w L)(e:TypeId)(n sz:Nat)(l:List E)(cs:Array Value)(nl:Bool)(hr:kJ (jl B L) (jH L) w l cs.toList)(h1:∀ u ∈ cs,u.oneCell'=true)(hlen:cs.size=n*sz)
 (uH:n<=9223372036854775807) (jZ:nl=true->l.all E.ng=true) (uJ:l.all (E.nr 2)=true):
 jx w0 B σ a (w.alloc (.cells cs e)) L/\iQ (jl B L) (jH L) (w.alloc (.cells cs e)) (.sl nl n sz λi j=>l.getD (i*sz+j) (.v (.bool false))) (.slice (some ⟨w.heap.size,0,none⟩) n n):=by
 have hb:Below w.heap.size w (w.alloc (.cells cs e)):=(Below.refl _ _).alloc (bF _) _;have hl:r9 L w L (w.alloc (.cells cs e)):=⟨hb.size,λ_ _ h=>h,λx hx _=>hb.block x hx⟩
 refine⟨r.later hb,?_⟩;have lI:∀ i j,i<n->j<sz->i*sz+j<cs.size:=by
  intro i j hi hj;rw[hlen];have:=bY sz (show i+1<=n from hi);rw[cr,cv]at this;omega
 have kS:=hr.len;simp only[dP]at kS;refine .sl nl n sz _ _ n (λi j=>cs.getD (i*sz+j) undef) (bF _) uH (λh=>by cases h) (λi j hi hj=>?_) (λi j hi hj=>?_) (λi j hi hj=>?_) (λi j hi hj=>?_)
 .have hq:=lI i j hi hj;have e1:cs.getD (i*sz+j) undef=cs[i*sz+j]:=by simp[hq]
  rw[e1];refine⟨h1 _ (gW hq),λsk=>?_⟩;have wC:i*sz+j<l.length:= aC ;exact(hr.lf (i*sz+j) _ _ (bJ wC) (by simp[hq])).ng (bU.1 (jZ sk) _ (cK wC))
 .have hq:=lI i j hi hj;have wC:i*sz+j<l.length:= aC ;rw[bE,bJ wC];exact bU.1 uJ _ (cK wC)
 .have hq:=lI i j hi hj;refine⟨w.heap.size,0,rfl,λBW=>?_,aH,?_⟩
  .rcases BW with hx|⟨id,hx⟩
   .have:=hB _ hx;have:=r.he.size;omega
   .have:=(r.hw id _ hx).2;omega
  .rw [cD,World.cell?_alloc_new];simp[hq]
 .have hq:=lI i j hi hj;have wC:i*sz+j<l.length:= aC ;have e1:cs.getD (i*sz+j) undef=cs[i*sz+j]:=by simp[hq]
  rw[e1,bE,bJ wC];exact hl.lf (hr.lf (i*sz+j) _ _ (bJ wC) (by simp[hq]))
def aif{l:List E}{vs:List Value}{bs br:Nat->Prop}{w:World}(h:kJ bs br w l vs)(hl:l.all E.ng=true):∀ v ∈ vs,qI v=false:=by
 intro v hv;obtain⟨i,hi⟩:=dI.1 hv;obtain⟨Az,_⟩:=cE.1 hi;have GX:i<l.length:=by have:=h.len;omega
 exact(h.lf i _ v (bJ GX) hi).ng (bU.1 hl _ (cK GX))
def SB(w:World)(hT:mV P T){t e:TypeId}{by_:Nat}(h:Jz T t=some (e,by_)):∃ te zv uz,P.underlying t=some (.slice e)/\nh T e=some te/\te.i.size=1/\te.i.bytes=by_/\1<=by_/\te.i.zero=some zv/\zv.cells = #[uz]/\uz.oneCell'=true/\qI uz=false:=by
 unfold Jz at h;split at h
 .rename_i tt rB;split at h
  .rename_i e' hd;split at h
   .rename_i te ot;split at h
    .rename_i z hz;split at h
     .rename_i hc;simp only[bM,bW]at h;obtain⟨rfl,rfl⟩:=h;simp only[bQ]at hc;obtain⟨zv,tW,sK⟩:=F3 hz;obtain⟨q1,q2⟩:=sK (λ_=>False) (λ_=>False) w;have hl:=q1.len;simp only[dP,dp,apN]at hl;obtain⟨uz,Vs⟩:∃ uz,zv.cells = #[uz]:=by
       refine⟨zv.cells[0],?_⟩;apply Array.ext
       .simpa using hl
       .intro i h1 h2;obtain rfl:i=0:=by simp at h2;omega
        rfl
      rw[Vs]at q1 q2;exact⟨te,zv,uz,by rw[hT.r8 rB,hd],ot,lv.1 hc.1.1,rfl,cV hc.1.2,tW,Vs,q2 uz aH,(q1.lf 0 z uz rfl rfl).ng hc.2⟩
     .cases h
    .cases h
   .cases h
  .cases h
 .cases h
def oh.head{v:Value}{T:TypeId}{n sz:Nat}{f:Nat->Nat->Value}{nl:Bool}(h:oh w v T n sz f nl):v.cells.toList=[v]/\v.oneCell'=true/\qI v=false:=by
 rcases h with⟨g,_⟩|⟨b1,c1,cur,g,_⟩<;>rw[g]<;>exact⟨rfl,rfl,rfl⟩
def agl(hT:mV P T){t:TypeId}{n q:Nat}{ps:Array (Nat×Operand)}(iJ:o.op = .buildSlice t n ps)(tR:Cm σ ps.toList=some q)(r:jx w0 B σ a w L)(h:C4 T σ o.dst t n q=some u):ku P K w0 B σ o a w u:=by
 obtain⟨x,pM,hx⟩:∃ x,ps.toList=[(0,x)]/\σ.op x = .own q:=by
  unfold Cm at tR;split at tR
  .rename_i x pM;refine⟨x,pM,?_⟩;generalize σ.op x=p at tR ⊢;cases p<;>simp only[PV.FB,reduceCtorEq,bM]at tR;rw[tR]
  .cases tR
 have VB:=r.op x;rw[hx]at VB;obtain⟨k1,k2⟩:=VB;unfold C4 at h;split at h
 .rename_i id Kd;split at h
  .rename_i nl T0 m sz el e by_ kZ uG BX;split at h
   .rename_i hc;cases h;simp only[bQ,eB]at hc;obtain rfl:=lv.1 hc.1;have kB:id≠q:=λe=>by have:=hc.2;rw[e,cJ]at this;cases this
    obtain⟨te,zv,uz,hu,ot,uM,_,_,tW,xw,_,_⟩:=SB w hT BX;obtain⟨f,g1,g2,g3⟩:=r.hb q _ uG;obtain⟨d1,d2,d3⟩:=g1.head;have lE:(execOp a.eval o).run P w = .ok (.value (.slice (some ⟨w.heap.size,0,none⟩) 1 1)) (w.alloc (.cells #[L.val q] e)):=by
     have mX:(Array.range (1*te.i.size)).map (zv.cells[· % zv.cells.size]!) = #[uz]:=by
      rw[uM,xw];refine Array.ext aH λi h1 h2=>?_
      have:i=0:=by simp at h2;omega
      subst this;simp
     have Ke:Instr.fill (λi=>some (i*te.i.size,te.i.size)) #[uz] (ps.map λ(x:Nat×Operand)=>(x.1,a.eval x.2)).toList=some #[L.val q]:=by
      rw[P8,pM];simp only[e9,List.map_nil];rw[TX _ _ _ _ _ 0 (by rw[k2,d1,uM];rfl) (by rw[k2,d1];simp)];rw[k2,d1];rfl
     have vj:¬(1*te.i.size>16777216):= aC ;have h0:¬(1*te.i.size=0):= aC ;simp only[execOp,iJ,Instr.buildSlice,Sem.run_bind,run_underlying hu,Result.andThen_ok,uU hT w ot,vj,bI,h0,Sem.run_pure,QG hT w ot tW,mX,Ke,newRow,run_newObj_alloc]
    have iK:w.heap.size<(w.alloc (.cells #[L.val q] e)).heap.size:= aH ;have hb:Below w.heap.size w (w.alloc (.cells #[L.val q] e)):=(Below.refl _ _).alloc (bF _) _;refine⟨_,_,_,.inl lE,r.qV kB _ (λx=>x=w.heap.size\/L.own q x) (.slice (some ⟨w.heap.size,0,none⟩) 1 1) (λ_=>L.val q) _ (λy hy=>?_) hb.size (λy hy _=>hb.block y hy) rfl rfl rfl (λhl=>?_) (λOE=>?_) (λhn=>?_),Lk.Ph kB,Lk.Hp.symm⟩
    .rcases hy with rfl|hy
     .exact ⟨.inr (.inr (bF _)),iK⟩
     .exact ⟨.inr (.inl hy),fQ (r.hw q y hy).2 iK⟩
    .refine .inr ⟨w.heap.size,1,#[L.val q],λ_=>f,Lk.Hp,heap_alloc_new w _,bF _,aE,rfl,λk hk _=>?_,λv hv=>?_,λk hk=>?_,λy=>?_,λk k' y hk GZ _ _=> aC,λk hk=>?_⟩
     .obtain rfl:k=0:= aC ;rw[Lk.zG];rfl
     .have:v=L.val q:=by simpa using hv
      rw[this];exact d3
     .rw [Lk.zG];exact⟨g1.block λy hy=>hb.block y (r.hw q y ((g2 y).2 hy)).2,λi j hi hj=>⟨hl.lf (g3 i j hi hj).1,(g3 i j hi hj).2⟩⟩
     .rw [Lk.Wo];constructor
      .rintro (h|h)
       .exact .inl h
       .exact .inr ⟨0,aE,by rw[Lk.zG];exact(g2 y).1 h⟩
      .rintro (h|⟨k,_,h⟩)
       .exact .inl h
       .rw [Lk.zG]at h;exact .inr ((g2 y).2 h)
     .rw [Lk.zG];intro h;have:=(r.hw q _ ((g2 _).2 h)).2;omega
    .have:=(r.hv id).1 OE;rw[kZ]at this;cases this
    .have:=r.hl hn q _ uG;exact this
   .cases h
  .cases h
 .cases h
def afY(hT:mV P T)(hB:∀ b,B b->b<w0.heap.size){t:TypeId}{n:Nat}{ps:Array (Nat×Operand)}(iJ:o.op = .buildSlice t n ps)(r:jx w0 B σ a w L)(h:jW P K T O σ o=some u):ku P K w0 B σ o a w u:=by
 simp only[jW,iJ]at h;split at h
 .rename_i q hq;exact agl hT iJ hq r h
 split at h
 .rename_i tt rB;split at h
  .rename_i e hd;split at h
   .rename_i te ot;split at h
    .rename_i z hz;split at h
     .rename_i hc;simp only[bQ]at hc;have c1:=lv.1 hc.1.1;have c2:=cV hc.2;obtain⟨zv,tW,sK⟩:=F3 hz;obtain⟨q1,q2⟩:=sK (jl B L) (jH L) w;have hu:P.underlying t=some (.slice e):=by rw[hT.r8 rB,hd]
      have wF:zv.cells.size=te.i.size:=by have:=q1.len;simp only[dP]at this;omega
      obtain⟨l,hl,h⟩:=ia.1 h;obtain⟨cs,p1,p2,p3⟩:=NG r hl (alh q1 n) (λv hv=>by
       simp only[gH,gI]at hv;obtain⟨q,hq,rfl⟩:=hv;have Fk:0<zv.cells.size:=by
        rcases fc zv.cells.size with h0|h0
        .rw [h0]at hq;simp at hq
        .exact h0
       rw[fM zv.cells _ (bV q Fk)];exact q2 _ aH)
      have hlen:l.length=n*te.i.size:=by
       have:∀ (ps:List (Nat×Operand)) (l m:List E),th σ (λi=>some (i*te.i.size,te.i.size)) l ps=some m->m.length=l.length:=by
        intro ps
        induction ps with
        |nil=>intro l m h;simp only[th]at h;cases h;rfl
        |cons p ps ih=>
         intro l m h;obtain⟨i,x⟩:=p;simp only[th]at h;split at h
         .split at h
          .split at h
           .rename_i hc;simp only[bQ]at hc;have:=cV hc.2;rw[ih _ _ h];simp[Cp];omega
           .cases h
          .cases h
         .cases h
       rw[this _ _ _ hl,YL,c1]
      have mX:cs.size=n*te.i.size:=by have:=p2.len;simp only[dP]at this;omega
      have Ke:Instr.fill (λi=>some (i*te.i.size,te.i.size)) ((Array.range (n*te.i.size)).map (zv.cells[· % zv.cells.size]!)) (ps.map λ(x:Nat×Operand)=>(x.1,a.eval x.2)).toList=some cs:=by
       rw[P8,<-wF];rw[<-wF]at p1;exact p1
      have lE:(execOp a.eval o).run P w = .ok (.value (.slice (some ⟨w.heap.size,0,none⟩) n n)) (w.alloc (.cells cs e)):=by
       have vj:¬(n*te.i.size>16777216):= aC ;by_cases h0:n*te.i.size=0
       .have e0:∀ g:Nat->Value,(Array.range 0).map g = #[]:=λg=>by simp[Array.range]
        have UT:=Ke;rw[h0,e0]at UT;have z24:¬(0>2^24):= aE ;simp only[execOp,iJ,Instr.buildSlice,Sem.run_bind,run_underlying hu,Result.andThen_ok,uU hT w ot,vj,bI,h0,z24,bN,Sem.run_pure,e0,UT,newRow,run_newObj_alloc]
       .simp only[execOp,iJ,Instr.buildSlice,Sem.run_bind,run_underlying hu,Result.andThen_ok,uU hT w ot,vj,bI,h0,Sem.run_pure,QG hT w ot tW,Ke,newRow,run_newObj_alloc]
      have mY:n<=9223372036854775807:=by
       have:=gV n (cV hc.1.2);omega
      by_cases uJ:l.all (E.nr 2)=true
      .simp only[uJ,fI,bR,bI]at h;split at h
       .
        obtain⟨id,Kd,kZ,jZ,rfl⟩:=HW h;have hb:Below w.heap.size w (w.alloc (.cells cs e)):=(Below.refl _ _).alloc (bF _) _;have ht:rK L w id (λx=>x=w.heap.size) (w.alloc (.cells cs e)):=⟨λx hx=>⟨.inr aC,aN⟩,hb.size,λx hx _=>hb.block x hx,rfl,rfl,rfl⟩
        have iK:=ht.later (.slice (some ⟨w.heap.size,0,none⟩) n n) (λ_=>undef);have E6:∀ i j,i<n->j<te.i.size->i*te.i.size+j<n*te.i.size:=by
         intro i j hi hj;have:=bY te.i.size (show i+1<=n from hi);rw[cr,cv]at this;omega
        refine⟨_,_,_,.inl lE,r.new id _ (λx=>x=w.heap.size) (.slice (some ⟨w.heap.size,0,none⟩) n n) (λ_=>undef) _ kZ (λx hx=>by subst hx;simp) hb
         ⟨λi j=>cs.getD (i*te.i.size+j) undef,.inr ⟨w.heap.size,n,cs,Lk.pQ,heap_alloc_new w _,bF _,by unfold maxLen;omega,mX,λi j hi hj=>?_,λhn u hu=>?_⟩,λx=>?_,λi j hi hj=>?_⟩ jZ,Lk.CC,Lk.pQ.symm⟩
        .have hq:i*te.i.size+j<cs.size:=by rw[mX];exact E6 i j hi hj
         have e1:cs.getD (i*te.i.size+j) undef=cs[i*te.i.size+j]:=by simp[hq]
         show cs[i*te.i.size+j]? = some (cs.getD (i*te.i.size+j) undef)/\(cs.getD (i*te.i.size+j) undef).oneCell'=true;rw[e1];exact⟨by simp[hq],p3 _ aH⟩
        .exact aif p2 hn u (by simpa using hu)
        .rw [Lk.s8,Lk.pQ];simp only[Value.ownBlock,bM];exact eq_comm
        .have hq:i*te.i.size+j<cs.size:=by rw[mX];exact E6 i j hi hj
         have yx:i*te.i.size+j<l.length:=by rw[hlen];exact E6 i j hi hj
         have e1:cs.getD (i*te.i.size+j) undef=cs[i*te.i.size+j]:=by simp[hq]
         simp only[bE,bJ yx,apO,e1];exact⟨iK.lf (p2.lf _ _ _ (bJ yx) (by simp[hq])),bU.1 uJ _ (cK yx)⟩
       split at h
       .rename_i xm;cases h;obtain⟨r',hp⟩:=ZW hB r e n te.i.size l cs true p2 p3 mX mY (λ_=>xm) uJ;exact⟨_,_,L,.inl lE,r',hp⟩
       .cases h;obtain⟨r',hp⟩:=ZW hB r e n te.i.size l cs false p2 p3 mX mY (λh=>by cases h) uJ;exact⟨_,_,L,.inl lE,r',hp⟩
      .simp [uJ]at h
     .cases h
    .cases h
   .cases h
  .cases h
 .cases h
end
def JJ{P:Program}{t e:TypeId}(h:P.underlying t=some (.slice e)):P.elem t=e:=by simp[Program.elem,h]
def aeu{P:Program}{t e:TypeId}{n:Nat}(h:P.underlying t=some (.array n e)):P.elem t=e/\P.arrayLen t=n:=by simp[Program.elem,Program.arrayLen,h]
section
variable {P:Program} {K:World->Prop} {T:List TI} {O:q8} {w0:World} {B:Nat->Prop} {σ:PS} {o:Oper} {a:Act} {w:World} {L:Lk} {u:kO}
def af4(hT:mV P T){t:TypeId}{x i:Operand}(iJ:o.op = .indexAddr t x i)(r:jx w0 B σ a w L)(h:jW P K T O σ o=some u)(ho:∀ q,q ∈ u.jV->q):ku P K w0 B σ o a w u:=by
 simp only[jW,iJ,JK]at h;have hx:=r.op x;have hi:=r.op i;split at h
 .rename_i k z hpi;rw[hpi]at hi;have hi:=iQ.kX hi;split at h
  .rename_i tt rB;split at h
   .
    rename_i e hd;have hu:P.underlying t=some (.slice e):=by rw[hT.r8 rB,hd]
    have he:=JJ hu;split at h
    .rename_i te ot;have lE:∀ (ad:Addr) (n c:Nat),a.eval x = .slice (some ad) n c->0<=z->z<n->(execOp a.eval o).run P w = .ok (.value (.pointer (some (ad.add (z.toNat*te.i.size))))) w:=by
      intro ad n c e1 h0 h1;have hr:=run_indexAt_slice (P:=P) w t ad n c k z (by rw[he];exact hu);rw[bB ⟨h0,h1⟩,he,uU hT w ot]at hr;simp only[execOp,iJ,e1,hi,Sem.run_bind,hr,Result.andThen_ok,Sem.run_pure]
     split at h
     .rename_i nl n sz el pM;rw[pM]at hx;split at h
      .rename_i hs;simp only[bQ]at hs;have vq:=cV hs.2;have hs:=lv.1 hs.1;cases h;have hz:0<=z/\z<n:=ho _ aH;have AK:z.toNat<n:= aC ;generalize hq:a.eval x=q at hx;cases hx with
       |sl _ _ _ _ A c f hc hm h0 hl uJ cell kk=>
        obtain⟨b,of,e1,hb,iK,_⟩:=cell z.toNat 0 AK vq;subst e1;refine ku.pure r (lE ⟨b,of,none⟩ n c hq hz.1 hz.2) rfl ?_;rw[Addr.add_lit,hs];refine .jh sz _ b _ (λj=>f z.toNat j) (λhm=>hb (.inr hm)) iK (λj hj=>(hl _ _ AK hj).1) (λj hj=>?_) (λj hj=>kk _ _ AK hj);obtain⟨b',of',e2,_,_,Dg⟩:=cell z.toNat j AK hj;cases e2;rwa[<-dq]at Dg
      .cases h
     .rename_i fl nl n sz el pM;rw[pM]at hx;split at h
      .rename_i hs;simp only[bQ]at hs;have vq:=cV hs.2;have hs:=lv.1 hs.1;cases h;have hz:0<=z/\z<n:=ho _ aH;have AK:z.toNat<n:= aC ;generalize hq:a.eval x=q at hx;cases hx with
       |nZ _ _ _ _ _ A c f hc hm h0 hl uJ cell kk=>
        obtain⟨b,of,e1,hb,iK,_⟩:=cell z.toNat 0 AK vq;subst e1;refine ku.pure r (lE ⟨b,of,none⟩ n c hq hz.1 hz.2) rfl ?_;rw[Addr.add_lit,hs];refine .jh sz _ b _ (λj=>f z.toNat j) hb iK (λj hj=>(hl _ _ AK hj).1) (λj hj=>?_) (λj hj=>kk _ _ AK hj);obtain⟨b',of',e2,_,_,Dg⟩:=cell z.toNat j AK hj;cases e2;rwa[<-dq]at Dg
      .cases h
     .rename_i id pM;rw[pM]at hx;split at h
      .rename_i nl T1 n sz el jD;split at h
       .rename_i hs;have hs:=lv.1 hs;cases h;have hz:0<=z/\z<n:=ho _ aH;obtain⟨f,h1,h2,h3⟩:=r.hb id _ jD;obtain⟨k1,k2⟩:=hx;rcases h1 with⟨h1,sk⟩|⟨b,c,cur,h1,hg,ph,oo,mX,kF,jZ⟩
        .omega
        .rw [h1]at k2;refine ku.pure r (lE ⟨b,0,none⟩ n c k2 hz.1 hz.2) rfl ⟨k1,b,n,c,h1,?_⟩;rw[Addr.add_lit,hs,cD,cg]
       .cases h
      .rename_i nl T1 T0 n sz len el pend jD;split at h
       .rename_i hs;have hs:=lv.1 hs;cases h;have hz:0<=z/\z<n:=ho _ aH;obtain⟨b,c,cur,f,h1,h2,h3,h4,h5,h6,h7,h8,h9,sE,sU⟩:=(r.hb id _ jD).xL aC;obtain⟨k1,k2⟩:=hx;rw[h1]at k2;refine ku.pure r (lE ⟨b,0,none⟩ n c k2 hz.1 hz.2) rfl ⟨k1,b,n,c,h1,?_⟩;rw[Addr.add_lit,hs,cD,cg]
       .cases h
      .cases h
     .rename_i id k pM;rw[pM]at hx;split at h
      .rename_i nl T1 T0 n sz len el pend jD;split at h
       .rename_i hs;have hs:=lv.1 hs;cases h;have hk:k<n:=ho _ aH;have hz:0<=z/\z<len k:=ho _ aH;obtain⟨b0,c0,cur0,f,g1,g2,g3,g4,g5,g6,g7,g8,_⟩:=(r.hb id _ jD).xL aC;obtain⟨k1,k2⟩:=hx;rcases(g8 k hk).1 with⟨h1,sk⟩|⟨b,c,cur,h1,hg,ph,oo,mX,kF,jZ⟩
        .omega
        .rw [h1]at k2;refine ku.pure r (lE ⟨b,0,none⟩ (len k) c k2 hz.1 hz.2) rfl ⟨k1,b,len k,c,h1,?_⟩;rw[Addr.add_lit,hs,cD,cg]
       .cases h
      .cases h
     .cases h
    .cases h
   .
    rename_i n e hd;have hu:P.underlying t=some (.array n e):=by rw[hT.r8 rB,hd]
    obtain⟨he,hn⟩:=aeu hu;split at h
    .rename_i te ot;have lE:∀ (ad:Addr),a.eval x = .pointer (some ad)->0<=z->z<n->(execOp a.eval o).run P w = .ok (.value (.pointer (some (ad.add (z.toNat*te.i.size))))) w:=by
      intro ad e1 h0 h1;have hr:=run_indexAt_array (P:=P) w t ad k z (by rw[he,hn];exact hu);rw[hn,bB ⟨h0,h1⟩,he,uU hT w ot]at hr;simp only[execOp,iJ,e1,hi,Sem.run_bind,hr,Result.andThen_ok,Sem.run_pure]
     split at h
     .rename_i id off pM;rw[pM]at hx;cases h;have hz:0<=z/\z<n:=ho _ aH;obtain⟨k1,b,k2,k3⟩:=hx;refine ku.pure r (lE _ k3 hz.1 hz.2) rfl ⟨k1,b,k2,?_⟩;rw[Addr.add_lit]
     .rename_i m el pM;rw[pM]at hx;split at h
      .rename_i hs;have hs:=lv.1 hs;cases h;have hz:0<=z/\z<n:=ho _ aH;have lI:∀ j,j<te.i.size->z.toNat*te.i.size+j<m:=by
        intro j hj;rw[<-hs];have:=bY te.i.size (aC:z.toNat+1<=n);rw[cr,cv]at this;omega
       generalize hq:a.eval x=q at hx;cases hx with
       |jh _ _ b of f hb iK hl cell kk=>
        refine ku.pure r (lE _ hq hz.1 hz.2) rfl ?_;rw[Addr.add_lit];refine .jh te.i.size _ b _ (λj=>f (z.toNat*te.i.size+j)) hb iK (λj hj=>hl _ (lI j hj)) (λj hj=>?_) (λj hj=>kk _ (lI j hj));have:=cell _ (lI j hj);rwa[<-dq]at this
      .cases h
     .cases h
    .cases h
   .cases h
  .cases h
 .cases h
def agi(hT:mV P T){t:TypeId}{x:Operand}{lo hi:Option Operand}(iJ:o.op = .slice t x lo hi none)(r:jx w0 B σ a w L)(h:jW P K T O σ o=some u)(ho:∀ q,q ∈ u.jV->q):ku P K w0 B σ o a w u:=by
 simp only[jW,iJ,JO]at h;have hx:=r.op x;split at h
 .rename_i nl n sz el pM;rw[pM]at hx;split at h
  .rename_i tt rB;split at h
   .rename_i e hd;have hu:P.underlying t=some (.slice e):=by rw[hT.r8 rB,hd]
    have he:=JJ hu;have yA:P.underlying t=some (.slice (P.elem t)):=by rw[he];exact hu
    split at h
    .rename_i te ot;split at h
     .rename_i hs;have hs:=lv.1 hs;generalize hq:a.eval x=q at hx;cases hx with
      |sl _ _ _ _ A c f hc hm h0 hl uJ cell kk=>
       have fin:∀ l h':Nat,l<=h'->h'<=n->iQ (jl B L) (jH L) w (.sl nl (h'-l) sz λi j=>el (l+i) j) (sliced A l h' c te.i.size):=by
        intro l h' hlh hhn;unfold sliced;refine .sl nl (h'-l) sz _ _ (c-l) (λi j=>f (l+i) j) aC aC (λhA=>?_) (λi j hi hj=>hl _ _ aC hj) (λi j hi hj=>uJ _ _ aC hj) (λi j hi hj=>?_) (λi j hi hj=>kk _ _ aC hj)
        .split at hA
         .have:=h0 hA;omega
         .have:=h0 (by simpa using hA);omega
        .obtain ⟨b,of,e1,hb,iK,kF⟩:=cell (l+i) j aC hj;subst e1;rw[bA aC];refine⟨b,of+l*te.i.size,by rw[cM,Addr.add_lit],hb,iK,?_⟩;rw[hs];rw[cr]at kF;rw[<-kF];congr 2;omega
       have run:∀ (l h':Nat) (lo' oc:Option Value),lo.map a.eval=lo'->hi.map a.eval=oc->(Instr.slice t (.slice A n c) lo' oc none).run P w = .ok (sliced A l h' c te.i.size) w ->
        (execOp a.eval o).run P w = .ok (.value (sliced A l h' c te.i.size)) w:=by
        intro l h' lo' oc e1 e2 hr;simp only[execOp,iJ,Sem.run_bind,hq,e1,e2,Option.map_none,run_sliceAt_slice (P:=P) w t _ _ _ _ yA,hr,Result.andThen_ok,Sem.run_pure]
       split at h
       .rename_i kh hh qq sH;cases h;have hb:0<=hh/\hh<=n:=ho _ aH;cases lo with
        |some _=>simp at qq
        |none=>
         cases hi with
         |none=>simp at sH
         |some hi=>
          simp only[cM,bM]at sH;have hv:=r.op hi;rw[sH]at hv;have hv:=iQ.kX hv;have hr:=run_slice_h (P:=P) w t A n c yA kh hh hb.1 aC;rw[he,uU hT w ot]at hr;have hf:=fin 0 hh.toNat (cj _) aC ;simp only[dQ,cD]at hf;exact ku.pure r (run 0 hh.toNat none (some (.int kh hh)) rfl (by rw[cM,hv]) hr) rfl hf
       .rename_i kl ll qq sH;cases h;have hb:0<=ll/\ll<=n:=ho _ aH;cases hi with
        |some _=>simp at sH
        |none=>
         cases lo with
         |none=>simp at qq
         |some lo=>
          simp only[cM,bM]at qq;have hv:=r.op lo;rw[qq]at hv;have hv:=iQ.kX hv;have hr:=run_slice_l (P:=P) w t A n c yA kl ll hb.1 hb.2;rw[he,uU hT w ot]at hr;exact ku.pure r (run ll.toNat n (some (.int kl ll)) none (by rw[cM,hv]) rfl hr) rfl (fin ll.toNat n aC (bF _))
       .rename_i kl ll kh hh qq sH;cases h;have hb:0<=ll/\ll<=hh/\hh<=n:=ho _ aH;cases hi with
        |none=>simp at sH
        |some hi=>
         cases lo with
         |none=>simp at qq
         |some lo=>
          simp only[cM,bM]at qq sH;have hv:=r.op lo;rw[qq]at hv;have hv:=iQ.kX hv;have tV:=r.op hi;rw[sH]at tV;have tV:=iQ.kX tV;have hr:=run_slice_lh (P:=P) w t A n c yA kl kh ll hh hb.1 hb.2.1 aC;rw[he,uU hT w ot]at hr;exact ku.pure r (run ll.toNat hh.toNat (some (.int kl ll)) (some (.int kh hh)) (by rw[cM,hv]) (by rw[cM,tV]) hr) rfl (fin ll.toNat hh.toNat aC aC)
       .cases h
     .cases h
    .cases h
   .cases h
  .cases h
 .rename_i fl nl n sz el pM;rw[pM]at hx;split at h
  .rename_i tt rB;split at h
   .rename_i e hd;have hu:P.underlying t=some (.slice e):=by rw[hT.r8 rB,hd]
    have he:=JJ hu;have yA:P.underlying t=some (.slice (P.elem t)):=by rw[he];exact hu
    split at h
    .rename_i te ot;split at h
     .rename_i hs;have hs:=lv.1 hs;generalize hq:a.eval x=q at hx;cases hx with
      |nZ _ _ _ _ _ A c f hc hm h0 hl uJ cell kk=>
       have fin:∀ l h':Nat,l<=h'->h'<=n->iQ (jl B L) (jH L) w (.nZ fl nl (h'-l) sz λi j=>el (l+i) j) (sliced A l h' c te.i.size):=by
        intro l h' hlh hhn;unfold sliced;refine .nZ fl nl (h'-l) sz _ _ (c-l) (λi j=>f (l+i) j) aC aC (λhA=>?_) (λi j hi hj=>hl _ _ aC hj) (λhf i j hi hj=>uJ hf _ _ aC hj) (λi j hi hj=>?_) (λi j hi hj=>kk _ _ aC hj)
        .split at hA
         .have:=h0 hA;omega
         .have:=h0 (by simpa using hA);omega
        .obtain ⟨b,of,e1,hb,iK,kF⟩:=cell (l+i) j aC hj;subst e1;rw[bA aC];refine⟨b,of+l*te.i.size,by rw[cM,Addr.add_lit],hb,iK,?_⟩;rw[hs];rw[cr]at kF;rw[<-kF];congr 2;omega
       have run:∀ (l h':Nat) (lo' oc:Option Value),lo.map a.eval=lo'->hi.map a.eval=oc->(Instr.slice t (.slice A n c) lo' oc none).run P w = .ok (sliced A l h' c te.i.size) w ->
        (execOp a.eval o).run P w = .ok (.value (sliced A l h' c te.i.size)) w:=by
        intro l h' lo' oc e1 e2 hr;simp only[execOp,iJ,Sem.run_bind,hq,e1,e2,Option.map_none,run_sliceAt_slice (P:=P) w t _ _ _ _ yA,hr,Result.andThen_ok,Sem.run_pure]
       split at h
       .rename_i kh hh qq sH;cases h;have hb:0<=hh/\hh<=n:=ho _ aH;cases lo with
        |some _=>simp at qq
        |none=>
         cases hi with
         |none=>simp at sH
         |some hi=>
          simp only[cM,bM]at sH;have hv:=r.op hi;rw[sH]at hv;have hv:=iQ.kX hv;have hr:=run_slice_h (P:=P) w t A n c yA kh hh hb.1 aC;rw[he,uU hT w ot]at hr;have hf:=fin 0 hh.toNat (cj _) aC ;simp only[dQ,cD]at hf;exact ku.pure r (run 0 hh.toNat none (some (.int kh hh)) rfl (by rw[cM,hv]) hr) rfl hf
       .rename_i kl ll qq sH;cases h;have hb:0<=ll/\ll<=n:=ho _ aH;cases hi with
        |some _=>simp at sH
        |none=>
         cases lo with
         |none=>simp at qq
         |some lo=>
          simp only[cM,bM]at qq;have hv:=r.op lo;rw[qq]at hv;have hv:=iQ.kX hv;have hr:=run_slice_l (P:=P) w t A n c yA kl ll hb.1 hb.2;rw[he,uU hT w ot]at hr;exact ku.pure r (run ll.toNat n (some (.int kl ll)) none (by rw[cM,hv]) rfl hr) rfl (fin ll.toNat n aC (bF _))
       .rename_i kl ll kh hh qq sH;cases h;have hb:0<=ll/\ll<=hh/\hh<=n:=ho _ aH;cases hi with
        |none=>simp at sH
        |some hi=>
         cases lo with
         |none=>simp at qq
         |some lo=>
          simp only[cM,bM]at qq sH;have hv:=r.op lo;rw[qq]at hv;have hv:=iQ.kX hv;have tV:=r.op hi;rw[sH]at tV;have tV:=iQ.kX tV;have hr:=run_slice_lh (P:=P) w t A n c yA kl kh ll hh hb.1 hb.2.1 aC;rw[he,uU hT w ot]at hr;exact ku.pure r (run ll.toNat hh.toNat (some (.int kl ll)) (some (.int kh hh)) (by rw[cM,hv]) (by rw[cM,tV]) hr) rfl (fin ll.toNat hh.toNat aC aC)
       .cases h
     .cases h
    .cases h
   .cases h
  .cases h
 .cases h
end
section
variable {P:Program} {K:World->Prop} {T:List TI} {O:q8} {w0:World} {B:Nat->Prop} {σ:PS} {o:Oper} {a:Act} {w:World} {L:Lk} {u:kO}
def adu{x:Value}{l:List E}(h:(E.v x).cells? = some l):∀ e,e ∈ l->e.nr 2=true:=by
 intro e he;cases x<;>simp only[E.cells?]at h
 case agg cs=>
  split at h
  .cases h;obtain⟨q,_,rfl⟩:=dz.1 he;rfl
  .cases h
 all_goals
  split at h
  .cases h;simp only[fO]at he;subst he;rfl
  .cases h
def aoR{ti:TI}{l:List E}(h:z8 ti=some l):∀ e,e ∈ l->e.nr 2=true:=by
 unfold z8 at h;split at h
 .exact adu h
 .cases h
def KH{l:List E}{vs:List Value}{bs br:Nat->Prop}(h:kJ bs br w l vs)(hl:l.all E.ng=true):∀ v ∈ vs,qI v=false:=by
 intro v hv;obtain⟨q,hq⟩:=dI.1 hv;have yx:q<l.length:=by rw[<-h.len];exact(cE.1 hq).1
 exact(h.lf q _ v (bJ yx) hq).ng (bU.1 hl _ (cK yx))
def WS{z:Array Value}{n q:Nat}(hz:0<z.size)(hq:q<n):(madeCells z n)[q]? = some (z[q%z.size]'(bV _ hz)):=by
 unfold madeCells;simp[hq];rw[fM z _ (bV _ hz)]
def WT{z:Array Value}{n:Nat}(hz:0<z.size){v:Value}(hv:v ∈ madeCells z n):v ∈ z:=by
 unfold madeCells at hv;simp only[gH,gI]at hv;obtain⟨q,hq,rfl⟩:=hv;rw[fM z _ (bV _ hz)];exact gW _
def aga(hT:mV P T){t:TypeId}{l c:Operand}(iJ:o.op = .makeSlice t l c)(r:jx w0 B σ a w L)(h:jW P K T O σ o=some u)(ho:∀ q,q ∈ u.jV->q):ku P K w0 B σ o a w u:=by
 simp only[jW,iJ,JN]at h;have hl:=r.op l;have hc:=r.op c;split at h
 .rename_i bx jV jo;obtain⟨id,Kd,kZ,jZ,rfl⟩:=HW h;clear h;simp only[TB]at jo;split at jo
  rotate_left
  .cases jo
  rename_i kl zl kc zc Dm hpc;rw[Dm]at hl;rw[hpc]at hc;have hl:=iQ.kX hl;have hc:=iQ.kX hc;split at jo
  .rename_i tt rB;split at jo
   .rename_i e hd;have hu:P.underlying t=some (.slice e):=by rw[hT.r8 rB,hd]
    split at jo
    .rename_i te ot;split at jo
     .rename_i z hz;split at jo
      .rename_i Au;simp only[bQ]at Au;have c1:=lv.1 Au.1;have c2:=cV Au.2;obtain⟨zv,tW,sK⟩:=F3 hz;obtain⟨q1,q2⟩:=sK (jl B L) (jH L) w;have wF:zv.cells.size=te.i.size:=by have:=q1.len;simp only[dP]at this;omega
       have Fk:0<zv.cells.size:= aC ;have key:∀ (h1:0<=zl/\zl<=zc) (h2:(te.i.bytes:Int)*zc<=281474976710656/\zc<=9223372036854775807),
        (execOp a.eval o).run P w = .ok (.value (.slice (some ⟨w.heap.size,0,none⟩) zl.toNat zc.toNat)) (w.alloc (.cells (madeCells zv.cells (zc.toNat*te.i.size)) e)):=by
        intro h1 h2;have hr:=run_make (P:=P) w t e te.i zv hu (hT.AM ot) tW kl kc zl zc h1.1 h1.2 h2.1 h2.2;simp only[execOp,iJ,hl,hc,Sem.run_bind,hr,Result.andThen_ok,Sem.run_pure]
       have hb:∀ o':Obj,Below w.heap.size w (w.alloc o'):=λo'=>(Below.refl _ _).alloc (bF _) _
       have lens:zl<=zc->zc<=9223372036854775807->zl.toNat<=zc.toNat/\zc.toNat<=maxLen:=by intro h1 h2;unfold maxLen;omega
       split at jo
       .
        rename_i e0 hd0;split at jo
        .rename_i t0 OQ;obtain⟨y,ys,Dx,hy,Dj⟩:=q1.ni;have hy:=iQ.kX hy;have Dj:=Dj.rS;subst hy Dj;have VF:zv.cells = #[.slice none 0 0]:=by apply dJ;rw[Dx]
         have lL:te.i.size=1:=by rw[<-wF,VF];rfl
         cases jo;have h1:0<=zl/\zl<=zc:=ho _ aH;have h2:(te.i.bytes:Int)*zc<=281474976710656/\zc<=9223372036854775807:=ho _ aH;have hlen:=lens h1.2 h2.2;have xm:∀ v,v ∈ madeCells zv.cells (zc.toNat*te.i.size)->v = .slice none 0 0:=λv hv=>by
          have:=WT Fk hv;rw[VF]at this;simpa using this
         refine⟨_,_,_,.inl (key h1 h2),r.new id _ (λx=>x=w.heap.size) (.slice (some ⟨w.heap.size,0,none⟩) zl.toNat zc.toNat) (λ_=>.slice none 0 0) _ kZ (λx hx=>by subst hx;simp) (hb _)
          (.inr ⟨w.heap.size,zc.toNat,_,λ_ _ _=>undef,Lk.pQ,heap_alloc_new w _,hlen.1,hlen.2,by rw[size_madeCells,lL,cI],λk hk _=>?_,λv hv=>?_,λk hk=>?_,λx=>?_,λk k' x hk GZ h1=>?_,λk hk=>?_⟩) jZ,Lk.CC,Lk.pQ.symm⟩
         .rw [Lk.sQ];have hq:k<zc.toNat*te.i.size:=by rw[lL];omega
          have hg:=WS Fk hq;rw[hg];exact congrArg some (xm _ (eh hg))
         .rw [xm v hv];rfl
         .rw [Lk.sQ];exact⟨.inl ⟨rfl,rfl⟩,λi j hi=>absurd hi (bG i)⟩
         .rw [Lk.s8];simp only[Lk.sQ,Value.ownBlock];simp
         .rw [Lk.sQ]at h1;simp[Value.ownBlock]at h1
         .rw [Lk.sQ];simp[Value.ownBlock]
        .cases jo
       .cases jo;have h1:0<=zl/\zl<=zc:=ho _ aH;have h2:(te.i.bytes:Int)*zc<=281474976710656/\zc<=9223372036854775807:=ho _ aH;have hlen:=lens h1.2 h2.2;refine⟨_,_,_,.inl (key h1 h2),r.new id _ (λx=>x=w.heap.size) (.slice (some ⟨w.heap.size,0,none⟩) zl.toNat zc.toNat) (λ_=>undef) _ kZ (λx hx=>by subst hx;simp) (hb _)
         ⟨λ_ j=>zv.cells.getD j undef,.inr ⟨w.heap.size,zc.toNat,_,Lk.pQ,heap_alloc_new w _,hlen.1,hlen.2,size_madeCells _ _,λi j hi hj=>?_,λhn v hv=>?_⟩,λx=>?_,λi j hi hj=>?_⟩ jZ,Lk.CC,Lk.pQ.symm⟩
        .have hq:i*te.i.size+j<zc.toNat*te.i.size:=by
          have:=bY te.i.size (aC:i+1<=zc.toNat);rw[cr,cv]at this;omega
         have OF:(i*te.i.size+j)%zv.cells.size=j:=by rw[wF,bT,gF,cH hj]
         have tK:j<zv.cells.size:= aC ;rw[WS Fk hq];simp only[OF];have e1:zv.cells.getD j undef=zv.cells[j]:=by simp[tK]
         rw[e1];exact⟨rfl,q2 _ aH⟩
        .exact KH q1 hn v (by have:=WT Fk hv;simpa using this)
        .rw [Lk.s8,Lk.pQ];simp only[Value.ownBlock,bM];exact eq_comm
        .have tK:j<zv.cells.size:= aC ;have Oz:j<z.length:= aC ;have e1:zv.cells.getD j undef=zv.cells[j]:=by simp[tK]
         simp only[e1];rw[bE,bJ Oz];obtain⟨p1,_⟩:=sK (jl B (L.set id (λx=>x=w.heap.size) (.slice (some ⟨w.heap.size,0,none⟩) zl.toNat zc.toNat) (λ_=>undef))) (jH (L.set id (λx=>x=w.heap.size) (.slice (some ⟨w.heap.size,0,none⟩) zl.toNat zc.toNat) (λ_=>undef))) (w.alloc (.cells (madeCells zv.cells (zc.toNat*te.i.size)) e));exact⟨p1.lf j _ _ (bJ Oz) (by simp[tK]),aoR hz _ (cK Oz)⟩
      .cases jo
     .cases jo
    .cases jo
   .cases jo
  .cases jo
 .cases h
def af6(hT:mV P T){x:Operand}{t:TypeId}{c:Call}(hc:c={ callee:=.builtin .len,args:=#[x],argTypes:=#[t] })(iJ:o.op = .call c){e:TypeId}(hd:xW T t=some (.slice e))(r:jx w0 B σ a w L){rr:Value×List Nat}(h:tG (σ.op x) σ=some rr)(hu:u={ r:=.e (.v rr.1),rb:=rr.2 }):ku P K w0 B σ o a w u:=by
 obtain⟨ti,h1,h2⟩:=BG hd;have Vr:P.underlying t=some (.slice e):=by rw[hT.r8 h1,h2]
 have he:=JJ Vr;have hx:=r.op x;have key:∀ (A:Option Addr) (n cp:Nat),a.eval x = .slice A n cp->rr.1 = .int .i64 (n:Int)->ku P K w0 B σ o a w u:=by
  intro A n cp e1 e2;have hr:=run_len_slice (P:=P) w t o.type A n cp (by rw[he];exact Vr);subst hu;refine ku.pure r (v:=.int .i64 (n:Int)) ?_ rfl (by rw[e2];exact .v _);subst hc;have em:(#[x]:Array Operand).map a.eval = #[a.eval x]:= aH ;simp only[execOp,iJ,resolve,em,e1,Sem.run_bind,Sem.run_pure,Result.andThen_ok,invoke,builtin,hr];rfl
 cases hp:σ.op x with
 |e y=>
  rw[hp]at h hx;cases y with
  |sl nl n sz el=>
   simp only[tG,bM]at h;generalize hq:a.eval x=q at hx;cases hx with
   |sl _ _ _ _ A c f hc hm h0 hl uJ cell kk=>exact key A n c hq (by rw[<-h])
  |nZ fl nl n sz el=>
   simp only[tG,bM]at h;generalize hq:a.eval x=q at hx;cases hx with
   |nZ _ _ _ _ _ A c f hc hm h0 hl uJ cell kk=>exact key A n c hq (by rw[<-h])
  |v y=>
   have hx:=iQ.kX hx;cases y with
   |slice A n cp=>
    simp only[tG,bM]at h;exact key A n cp hx (by rw[<-h])
   |_=>simp[tG]at h
  |_=>simp[tG]at h
 |own id=>
  rw[hp]at h hx;obtain⟨_,k2⟩:=hx;simp only[tG]at h;split at h
  .rename_i nl T1 n sz el jD;simp only[bM]at h;obtain⟨f,q1,_,_⟩:=r.hb id _ jD;rcases q1 with⟨q1,q0⟩|⟨b,c,cur,q1,_⟩
   .rw [q1]at k2;exact key none 0 0 k2 (by rw[<-h,q0])
   .rw [q1]at k2;exact key _ n c k2 (by rw[<-h])
  .rename_i nl T1 T0 n sz len el pend jD;simp only[bM]at h;rcases r.hb id _ jD with⟨q1,q0,_⟩|⟨b,c,cur,f,q1,_⟩
   .rw [q1]at k2;exact key none 0 0 k2 (by rw[<-h,q0])
   rw[q1]at k2;exact key _ n c k2 (by rw[<-h])
  .cases h
 |iU id k=>
  rw[hp]at h hx;obtain⟨_,k2⟩:=hx;simp only[tG]at h;split at h
  .rename_i nl T1 T0 n sz len el pend jD;split at h
   .rename_i hk;have hk:k<n:=by simpa[fJ]using hk
    simp only[bM]at h;obtain⟨b0,c0,cur0,f,g1,g2,g3,g4,g5,g6,g7,g8,_⟩:=(r.hb id _ jD).xL aC;rcases(g8 k hk).1 with⟨q1,q0⟩|⟨b,c,cur,q1,_⟩
    .rw [q1]at k2;exact key none 0 0 k2 (by rw[<-h,q0])
    .rw [q1]at k2;exact key _ (len k) c k2 (by rw[<-h])
   .cases h
  .cases h
 |_=>rw[hp]at h;simp[tG]at h
end
section
variable {P:Program} {K:World->Prop} {T:List TI} {O:q8} {w0:World} {B:Nat->Prop} {σ:PS} {o:Oper} {a:Act} {w:World} {L:Lk} {u:kO}
def oh.q6{v:Value}{T:TypeId}{n sz:Nat}{f:Nat->Nat->Value}{nl nl':Bool}(h:oh w v T n sz f nl)(k:nl'=true->nl=true):oh w v T n sz f nl':=by
 rcases h with h|⟨b,c,cur,h1,h2,h3,h4,h5,h6,h7⟩
 .exact .inl h
 .exact .inr ⟨b,c,cur,h1,h2,h3,h4,h5,h6,λq=>h7 (k q)⟩
def abw{p:PV}{nl:Bool}{n sz:Nat}{el:Nat->Nat->E}(h:p.MD=some (nl,n,sz,el)){v:Value}(hv:lF (jl B L) (jH L) L w p v):∃ (A:Option Addr) (c:Nat) (f:Nat->Nat->Value),v = .slice A n c/\(A=none->c=0)/\n<=c /\
 (∀ i j,i<n->j<sz->(f i j).oneCell'=true/\(nl=true->qI (f i j)=false))/\(∀ i j,i<n->j<sz->∃ b o,A=some ⟨b,o,none⟩/\w.cell? ⟨b,o+(i*sz+j),none⟩=some (f i j)) /\
 ∀ i j,i<n->j<sz->iQ (jl B L) (jH L) w (el i j) (f i j)/\(el i j).nr 2=true:=by
 unfold PV.MD at h;split at h
 .cases h;cases hv with
  |sl _ _ _ _ A c f hc hm h0 hl hr cell k=>exact⟨A,c,f,rfl,h0,hc,hl,λi j hi hj=>by obtain⟨b,o,e,_,_,pv⟩:=cell i j hi hj;exact⟨b,o,e,pv⟩,λi j hi hj=>⟨k i j hi hj,hr i j hi hj⟩⟩
 .cases h;cases hv with
  |nZ _ _ _ _ _ A c f hc hm h0 hl hr cell k=>exact⟨A,c,f,rfl,h0,hc,hl,λi j hi hj=>by obtain⟨b,o,e,_,_,pv⟩:=cell i j hi hj;exact⟨b,o,e,pv⟩,λi j hi hj=>⟨k i j hi hj,hr rfl i j hi hj⟩⟩
 .cases h
def Ui(hT:mV P T){s x:Operand}{t:TypeId}{c:Call}(hc:c={ callee:=.builtin .append,args:=#[s,x],argTypes:=#[t,t] })(iJ:o.op = .call c)(r:jx w0 B σ a w L)
 (h:BK T σ o.dst t (σ.op s) (σ.op x)=some u) (ho:∀ q,q ∈ u.jV->q):ku P K w0 B σ o a w u:=by
 have hs:=r.op s;have hx:=r.op x;simp only[BK]at h;split at h
 .rename_i nl2 m sz2 el2 pM;obtain⟨A,cx,g,hqx,hg0,hgc,U1,gcell,gk⟩:=abw pM hx;split at h
  .rename_i tt rB;split at h
   .rename_i e hd;have hu:P.underlying t=some (.slice e):=by rw[hT.r8 rB,hd]
    split at h
    .rename_i te ot;split at h
     .rename_i z hz;split at h
      .rename_i Au;simp only[bQ]at Au;have c1:=lv.1 Au.1.1.1;have c2:=cV Au.1.1.2;have c3:=cV Au.1.2;have c4:=lv.1 Au.2;obtain⟨zv,tW,sK⟩:=F3 hz;obtain⟨q1,q2⟩:=sK (jl B L) (jH L) w;have wF:zv.cells.size=sz2:=by have:=q1.len;simp only[dP]at this;omega
       have key:∀ (v:Value) (n:Nat) (f:Nat->Nat->Value) (nl:Bool),a.eval s=v->oh w v e n sz2 f nl->(nl=true->nl2=true/\z.all E.ng=true)->(n+m)*te.i.bytes<=140737488355328 ->
        ∃ v' w',(execOp a.eval o).run P w = .ok (.value v') w'/\Mj w v e n sz2 m f g nl v' w':=by
        intro v n f nl hv mi jZ jE;obtain⟨v',w',hr,mE⟩:=Y9 P w t o.type e te.i zv sz2 hu (hT.AM ot) tW c1 wF aC c3 (λu hu=>q2 u (by simpa using hu)) v n f nl mi A m cx g
         gcell (λhA=>by have:=hg0 hA;omega)
         (λk j hk hj=>⟨(U1 k j hk hj).1,λhn=>(U1 k j hk hj).2 (jZ hn).1⟩) (λhn u hu=>KH q1 (jZ hn).2 u (by simpa using hu)) jE
        refine⟨v',w',?_,mE⟩;subst hc;have em:(#[s,x]:Array Operand).map a.eval = #[a.eval s,a.eval x]:= aH ;simp only[execOp,iJ,resolve,em,hv,hqx,Sem.run_bind,Sem.run_pure,Result.andThen_ok,invoke,builtin,hr]
       split at h
       .
        rename_i id tR;rw[tR]at hs;split at h
        .rename_i nl T1 n sz el jD;split at h
         .rename_i pv;simp only[bQ]at pv;have d1:=lv.1 pv.1.1;have d2:=lv.1 pv.1.2;subst d1 d2;cases h;have jE:(n+m)*te.i.bytes<=140737488355328:=ho _ aH;obtain⟨f,p1,p2,p3⟩:=r.hb id _ jD;obtain⟨k1,k2⟩:=hs;have jZ:(nl&&(nl2&&z.all E.ng))=true->nl2=true/\z.all E.ng=true:=λhn=>by simp only[bQ]at hn;exact hn.2
          obtain⟨v',w',lE,mE⟩:=key (L.val id) n f _ k2 (p1.q6 λhn=>by simp only[bQ]at hn;exact hn.1) jZ jE;have ht:rK L w id (λy=>v'.ownBlock=some y) w':=by
           refine⟨λy hy=>?_,mE.size,λy hy kZ=>mE.pO y hy λe1=>kZ ((p2 y).2 e1),mE.os,mE.tape,mE.output⟩;rcases mE.Gg y hy with e1|⟨e1,e2⟩
           .have:=(p2 y).2 e1;exact⟨.inl this,ca (r.hw id y this).2 mE.size⟩
           .exact ⟨.inr e1,e2⟩
          have hl:=ht.later v' (L.iU id);have hpt:∀ b,L.val id ≠ .pointer (some b):=λb e1=>by
           rcases p1 with⟨e2,_⟩|⟨_,_,_,e2,_⟩<;>rw[e1]at e2<;>cases e2
          refine⟨v',w',_,.inl lE,r.qg id _ _ v' w' hpt ht ⟨λi j=>if i<n then f i j else g (i-n) j,by rw[Lk.pQ];exact mE.own,λy=>by rw[Lk.s8,Lk.pQ],λi j hi hj=>(λ(q:iQ _ _ _ _ _/\_)=>⟨hl.lf q.1,q.2⟩) (?_:_/\_)⟩ (λhn=>?_),Lk.CC,Lk.pQ.symm⟩
          .by_cases lI:i<n
           .simp only[lI,bN];exact p3 i j lI hj
           .simp only[lI,bI];exact gk _ _ aC hj
          .have:=pv.2;rw[hn]at this;simpa[Bx.nl]using this
         .cases h
        .cases h
       .
        rename_i id k tR;rw[tR]at hs;split at h
        .rename_i nl T1 T0 n sz len el jD;split at h
         .rename_i pv;simp only[bQ]at pv;have d1:=lv.1 pv.1.1;have d2:=lv.1 pv.1.2;subst d1 d2;cases h;have hk:k<n:=ho _ aH;have jE:(len k+m)*te.i.bytes<=140737488355328:=ho _ aH;obtain⟨b,cp,cur,f,p1,p2,p3,p4,p5,p6,p7,p8,p9,p10,p11⟩:=(r.hb id _ jD).xL aC;obtain⟨k1,k2⟩:=hs;have jZ:nl=true->nl2=true/\z.all E.ng=true:=λhn=>by have:=pv.2;rw[hn]at this;simpa using this
          obtain⟨v',w',lE,mE⟩:=key (L.iU id k) (len k) (f k) nl k2 (p8 k hk).1 jZ jE;have uF:∀ y,v'.ownBlock=some y->(L.iU id k).ownBlock=some y\/(w.heap.size<=y/\y<w'.heap.size):=mE.Gg;have UP:b<w.heap.size:=(r.hw id b ((p9 b).2 (.inl rfl))).2;have B0:∀ q y,q<n->(L.iU id q).ownBlock=some y->y<w.heap.size:=λq y hq hy=>(r.hw id y ((p9 y).2 (.inr ⟨q,hq,hy⟩))).2
          have ht:rK L w id (λy=>y=b\/∃ q,q<n/\(if q=k then v' else L.iU id q).ownBlock=some y) w':=by
           refine⟨λy hy=>?_,mE.size,λy hy kZ=>mE.pO y hy λe1=>kZ ((p9 y).2 (.inr ⟨k,hk,e1⟩)),mE.os,mE.tape,mE.output⟩;rcases hy with rfl|⟨q,hq,hy⟩
           .exact ⟨.inl ((p9 y).2 (.inl rfl)),ca UP mE.size⟩
           .by_cases vk:q=k
            .subst vk;rw[bB rfl]at hy;rcases uF y hy with e1|⟨e1,e2⟩
             .have:=(p9 y).2 (.inr ⟨q,hq,e1⟩);exact⟨.inl this,ca (r.hw id y this).2 mE.size⟩
             .exact ⟨.inr e1,e2⟩
            .rw [bA vk]at hy;have:=(p9 y).2 (.inr ⟨q,hq,hy⟩);exact⟨.inl this,ca (r.hw id y this).2 mE.size⟩
          have hl:=ht.later (L.val id) (λq=>if q=k then v' else L.iU id q);have yl:∀ y,y<w.heap.size->(L.iU id k).ownBlock≠some y->w'.heap[y]? = w.heap[y]?:=mE.pO;refine⟨v',w',_,.inl lE,r.tH id _ _ (λq=>if q=k then v' else L.iU id q) w' ht
           (.inr ⟨b,cp,cur,λq i j=>if q=k then(if i<len q then f q i j else g (i-len q) j)else f q i j,by rw[Lk.pQ];exact p1,by rw[yl b UP (p11 k hk)];exact p2,p3,p4,p5,λq hq vk=>?_,p7,λq hq=>?_,λy=>?_,λq q' y hq wC hy rD=>?_,λq hq hy=>?_⟩) (λhn=>?_),Lk.CC,?_⟩
          .have kB:q≠k:=λe1=>vk (by rw[e1])
           rw[Lk.sQ,bA kB];exact p6 q hq aH 
          .rw [Lk.sQ];by_cases vk:q=k
           .subst vk;simp only[bN];refine⟨mE.own,λi j hi hj=>(λ(q:iQ _ _ _ _ _/\_)=>⟨hl.lf q.1,q.2⟩) (?_:_/\_)⟩;by_cases lI:i<len q
            .simp only[lI,bN];exact(p8 q hq).2 i j lI hj
            .simp only[lI,bI];exact gk _ _ aC hj
           .simp only[vk,bI];obtain⟨s1,s2⟩:=p8 q hq;exact⟨s1.block λy hy=>yl y (B0 q y hq hy) λe1=>vk (p10 q k y hq hk hy e1),λi j hi hj=>⟨hl.lf (s2 i j hi hj).1,(s2 i j hi hj).2⟩⟩
          .rw [Lk.s8];simp only[Lk.sQ]
          .simp only[Lk.sQ]at hy rD;by_cases h1:q=k
           .subst h1;by_cases h2:q'=q
            .exact h2.symm
            .rw [bB rfl]at hy;rw[bA h2]at rD;rcases uF y hy with e1|⟨e1,_⟩
             .exact p10 q q' y hq wC e1 rD
             .have:=B0 q' y wC rD;omega
           .rw [bA h1]at hy;by_cases h2:q'=k
            .subst h2;rw[bB rfl]at rD;rcases uF y rD with e1|⟨e1,_⟩
             .exact p10 q q' y hq wC hy e1
             .have:=B0 q y hq hy;omega
            .rw [bA h2]at rD;exact p10 q q' y hq wC hy rD
          .simp only[Lk.sQ]at hy;by_cases h1:q=k
           .subst h1;rw[bB rfl]at hy;rcases uF b hy with e1|⟨e1,_⟩
            .exact p11 q hq e1
            .omega
           .rw [bA h1]at hy;exact p11 q hq hy
          .have:=r.hl hn id _ jD;exact this
          .rw [Lk.sQ,bB rfl]
         .cases h
        .cases h
       .
        rename_i tR;rw[tR]at hs;have hs:=iQ.kX hs;obtain⟨id,Kd,kZ,zp,rfl⟩:=HW h;have jE:m*te.i.bytes<=140737488355328:=ho _ aH;obtain⟨v',w',lE,mE⟩:=key _ 0 g (nl2&&z.all E.ng) hs (.inl ⟨rfl,rfl⟩) (λhn=>by simpa using hn) (by simpa using jE);have hb:Below w.heap.size w w':=⟨mE.os,mE.tape,mE.output,mE.size,λy hy=>mE.pO y hy (by simp[Value.ownBlock])⟩
        have hO:∀ y,v'.ownBlock=some y->w.heap.size<=y/\y<w'.heap.size:=λy hy=>by
         rcases mE.Gg y hy with e1|e1
         .simp [Value.ownBlock]at e1
         .exact e1
        have ht:rK L w id (λy=>v'.ownBlock=some y) w':=⟨λy hy=>⟨.inr (hO y hy).1,(hO y hy).2⟩,hb.size,λy hy _=>hb.block y hy,hb.os,hb.tape,hb.output⟩
        have hl:=ht.later v' (λ_=>undef);have mi:=mE.own;rw[cD]at mi;refine⟨v',w',_,.inl lE,r.new id _ (λy=>v'.ownBlock=some y) v' (λ_=>undef) w' kZ hO hb ⟨λi j=>if i<0 then g i j else g (i-0) j,by rw[Lk.pQ];exact mi,λy=>by rw[Lk.s8,Lk.pQ],λi j hi hj=>(λ(q:iQ _ _ _ _ _/\_)=>⟨hl.lf q.1,q.2⟩) (?_:_/\_)⟩ zp,Lk.CC,Lk.pQ.symm⟩;simp only[bG,bI,dQ];exact gk i j hi hj
       .cases h
      .cases h
     .cases h
    .cases h
   .cases h
  .cases h
 .cases h
def Wn{id q T0 T1 n m sz:Nat}{nl nl2:Bool}{len len2:Nat->Nat}{el el2:Nat->Nat->Nat->E}(kB:id≠q)(r:jx w0 B σ a w L){v':Value}{w':World}(hm:0<m)
 (hq:nW (jl B L) (jH L) L w q (.ke nl2 T1 T0 m sz len2 el2 none))
 (f1:Nat->Nat->Nat->Value)
 (h8:∀ k,k<n->oh w (L.iU id k) T0 (len k) sz (f1 k) nl/\∀ i j,i<len k->j<sz->iQ (jl B L) (jH L) w (el k i j) (f1 k i j)/\(el k i j).nr 2=true)
 (h9:∀ k x,k<n->(L.iU id k).ownBlock=some x->L.own id x) (sE:∀ k k' x,k<n->k'<n->(L.iU id k).ownBlock=some x->(L.iU id k').ownBlock=some x->k=k')
 {v:Value} (Fg:∀ y,v.ownBlock=some y->L.own id y) (sU:∀ k y,k<n->(L.iU id k).ownBlock=some y->v.ownBlock≠some y)
 (mi:oh w' v' T1 (n+m) 1 (λk _=>if k<n then L.iU id k else L.iU q (k-n)) true)
 (uF:∀ y,v'.ownBlock=some y->v.ownBlock=some y\/(w.heap.size<=y/\y<w'.heap.size))
 (lL:w.heap.size<=w'.heap.size) (yl:∀ y,y<w.heap.size->v.ownBlock≠some y->w'.heap[y]? = w.heap[y]?) (yo:w'.os=w.os) (OS:w'.tape=w.tape) (qE:w'.output=w.output)
 (kZ:L.mz id->∀ b,L.val id ≠ .pointer (some b)) (jZ:σ.nl=true->(nl&&nl2)=true):
 jx w0 B (σ.oN (.pj id q (.ke (nl&&nl2) T1 T0 (n+m) sz (λk=>if k<n then len k else len2 (k-n)) (λk=>if k<n then el k else el2 (k-n)) none))) a w'
  (L.qV id q (λy=>v'.ownBlock=some y\/∃ k,k<n+m/\(if k<n then L.iU id k else L.iU q (k-n)).ownBlock=some y) v' (λk=>if k<n then L.iU id k else L.iU q (k-n))):=by
 obtain⟨b,c,cur,f,g1,g2,g3,g4,g5,g6,g7,g8,g9,g10,g11⟩:=hq.xL hm;have OK:∀ k x,k<m->(L.iU q k).ownBlock=some x->L.own q x:=λk x hk hx=>(g9 x).2 (.inr ⟨k,hk,hx⟩)
 have B0:∀ k y,k<n+m->(if k<n then L.iU id k else L.iU q (k-n)).ownBlock=some y->(L.own id y\/L.own q y)/\v.ownBlock≠some y:=by
  intro k y hk hy;by_cases e:k<n
  .rw [bB e]at hy;exact⟨.inl (h9 k y e hy),sU k y e hy⟩
  .rw [bA e]at hy;have:=OK _ _ aC hy;exact⟨.inr this,λh=>kB (r.hi id q y (Fg y h) this)⟩
 have iK:∀ y,L.own id y\/L.own q y->y<w.heap.size:=λy h=>by
  rcases h with h|h
  .exact (r.hw id y h).2
  .exact (r.hw q y h).2
 refine r.qV kB _ _ v' _ w' (λy hy=>?_) lL (λy hy ag4=>yl y hy λh=>ag4 (Fg y h)) yo OS qE (λhl=>?_) kZ jZ
 .rcases hy with hy|⟨k,hk,hy⟩
  .rcases uF y hy with h|⟨h1,h2⟩
   .exact ⟨.inl (Fg y h),ca (r.hw id y (Fg y h)).2 lL⟩
   .exact ⟨.inr (.inr h1),h2⟩
  .have h:=(B0 k y hk hy).1;exact⟨h.elim .inl λh=>.inr (.inl h),ca (iK y h) lL⟩
 .rcases mi with⟨_,h0⟩|⟨b',c',cur',k1,k2,k3,k4,k5,k6,k7⟩
  .omega
  .have U6:∀ k y,k<n+m->(if k<n then L.iU id k else L.iU q (k-n)).ownBlock=some y->w'.heap[y]? = w.heap[y]?:=λk y hk hy=>yl y (iK y (B0 k y hk hy).1) (B0 k y hk hy).2
   refine .inr ⟨b',c',cur',λk=>if k<n then f1 k else f (k-n),by rw[Lk.Hp];exact k1,k2,k3,k4,aC,λk hk _=>?_,λu hu=>?_,λk hk=>?_,λy=>?_,λk k' y hk GZ hy rD=>?_,λk hk hy=>?_⟩
   .rw [Lk.zG];have:=(k6 k 0 hk aE).1;rwa[cI,cg]at this
   .exact k7 rfl u hu
   .rw [Lk.zG];by_cases e:k<n
    .simp only[e,bN];obtain⟨s1,s2⟩:=h8 k e;refine⟨(s1.q6 λh=>?_).block λy hy=>U6 k y hk (by rw[bB e];exact hy),λi j hi hj=>⟨hl.lf (s2 i j hi hj).1,(s2 i j hi hj).2⟩⟩;simp only[bQ]at h;exact h.1
    .simp only[e,bI];obtain⟨s1,s2⟩:=g8 (k-n) aC;refine⟨(s1.q6 λh=>?_).block λy hy=>U6 k y hk (by rw[bA e];exact hy),λi j hi hj=>⟨hl.lf (s2 i j hi hj).1,(s2 i j hi hj).2⟩⟩;simp only[bQ]at h;exact h.2
   .rw [Lk.Wo,k1];simp only[Lk.zG,Value.ownBlock,bM];constructor
    .rintro (h|h)
     .exact .inl h.symm
     .exact .inr h
    .rintro (h|h)
     .exact .inl h.symm
     .exact .inr h
   .simp only[Lk.zG]at hy rD;by_cases e:k<n
    .rw [bB e]at hy;by_cases e':k'<n
     .rw [bB e']at rD;exact sE k k' y e e' hy rD
     .rw [bA e']at rD;exact absurd (r.hi id q y (h9 k y e hy) (OK _ _ aC rD)) kB
    .rw [bA e]at hy;by_cases e':k'<n
     .rw [bB e']at rD;exact absurd (r.hi id q y (h9 k' y e' rD) (OK _ _ aC hy)) kB
     .rw [bA e']at rD;have:=g10 (k-n) (k'-n) y aC aC hy rD;omega
   .rw [Lk.zG]at hy;have h:=B0 k b' hk hy;rcases uF b' (by rw[k1];rfl)with h2|⟨h2,_⟩
    .exact h.2 h2
    .have:=iK b' h.1;omega
def ajO{p:PV}{q:Nat}(h:p.FB=some q):p = .own q:=by
 cases p<;>simp only[PV.FB,reduceCtorEq,bM]at h;rw[h]
def af5(hT:mV P T){s x:Operand}{t:TypeId}{q:Nat}{c:Call}(hc:c={ callee:=.builtin .append,args:=#[s,x],argTypes:=#[t,t] })(iJ:o.op = .call c)(r:jx w0 B σ a w L)
  (hq:(σ.op x).FB=some q) (h:C3 T σ o.dst t (σ.op s) q=some u) (ho:∀ q,q ∈ u.jV->q):ku P K w0 B σ o a w u:=by
 have hx:=r.op x;rw[ajO hq]at hx;obtain⟨kx,kv⟩:=hx;have hs:=r.op s;unfold C3 at h;split at h
 .rename_i nl2 T2 T0 m sz len2 el2 e by_ uG BX;obtain⟨te,zv,uz,hu,ot,uM,Ka,lh,tW,xw,xx,Dz⟩:=SB w hT BX;have VI:∀ v,v ∈ zv.cells->v.oneCell'=true/\qI v=false:=λv hv=>by
   rw[xw]at hv;have:v=uz:=by simpa using hv
   rw[this];exact⟨xx,Dz⟩
  have key:∀ (v:Value) (n:Nat) (f:Nat->Nat->Value),0<m->a.eval s=v->oh w v e n 1 f true->(n+m)*by_<=140737488355328 ->
    ∃ v' w',(execOp a.eval o).run P w = .ok (.value v') w'/\Mj w v e n 1 m f (λk _=>L.iU q k) true v' w':=by
   intro v n f hm hv mi jE;obtain⟨bq,cq,curq,fq,g1,g2,g3,g4,g5,g6,g7,g8,g9,g10,g11⟩:=(r.hb q _ uG).xL hm;have Fi:a.eval x = .slice (some ⟨bq,0,none⟩) m cq:=by rw[kv,g1]
   obtain⟨v',w',hr,mE⟩:=Y9 P w t o.type e te.i zv 1 hu (hT.AM ot) tW uM (by rw[xw];rfl) aE aC (λv hv=>(VI v hv).1) v n f true mi (some ⟨bq,0,none⟩) m cq (λk _=>L.iU q k)
    (λk j hk hj=>⟨bq,0,rfl,by
     obtain rfl:j=0:= aC ;have:=g6 k hk aH;simp only[World.cell?,g2];simpa using this⟩) (λhA=>by cases hA)
    (λk j hk hj=>⟨(g8 k hk).1.head.2.1,λ_=>(g8 k hk).1.head.2.2⟩) (λ_ v hv=>(VI v hv).2) (by rw[Ka];exact jE)
   refine⟨v',w',?_,mE⟩;subst hc;have em:(#[s,x]:Array Operand).map a.eval = #[a.eval s,a.eval x]:= aH ;simp only[execOp,iJ,resolve,em,hv,Fi,Sem.run_bind,Sem.run_pure,Result.andThen_ok,invoke,builtin,hr]
  split at h
  .
   rename_i id tR;rw[tR]at hs;obtain⟨ks,ks2⟩:=hs;split at h
   .rename_i nl T1 T0' n sz' len el jD;split at h
    .rename_i pv;cases h;simp only[bQ,eB]at pv;obtain rfl:=lv.1 pv.1.1.1.1;obtain rfl:=lv.1 pv.1.1.1.2;obtain rfl:=lv.1 pv.1.1.2;obtain rfl:=lv.1 pv.1.2;have kB:id≠q:=λe=>by have:=pv.2;rw[e,cJ]at this;cases this
     have hm:0<m:=ho _ aH;have jE:(n+m)*by_<=140737488355328:=ho _ aH;obtain⟨f,pown,p8,p9,p10,Fg,p11,pno⟩:∃ f:Nat->Nat->Nat->Value,oh w (L.val id) _ n 1 (λk _=>L.iU id k) true /\
       (∀ k,k<n->oh w (L.iU id k) T0' (len k) sz' (f k) nl/\∀ i j,i<len k->j<sz'->iQ (jl B L) (jH L) w (el k i j) (f k i j)/\(el k i j).nr 2=true) /\
       (∀ k x,k<n->(L.iU id k).ownBlock=some x->L.own id x)/\(∀ k k' x,k<n->k'<n->(L.iU id k).ownBlock=some x->(L.iU id k').ownBlock=some x->k=k') /\
       (∀ y,(L.val id).ownBlock=some y->L.own id y)/\(∀ k y,k<n->(L.iU id k).ownBlock=some y->(L.val id).ownBlock≠some y)/\∀ b,L.val id ≠ .pointer (some b):=by
      rcases r.hb id _ jD with⟨h1,h2,h3⟩|⟨b,cp,cur,f,p1,p2,p3,p4,p5,p6,p7,p8,p9,p10,p11⟩
      .refine ⟨λ_ _ _=>undef,.inl ⟨h1,h2⟩,λk hk=> aC,λk x hk=> aC,λk k' x hk=> aC,λy hy=>?_,λk y hk=> aC,λb hb=>?_⟩
       .rw [h1]at hy;simp[Value.ownBlock]at hy
       .rw [h1]at hb;cases hb
      .refine ⟨f,.inr ⟨b,cp,cur,p1,p2,p3,p4,aC,λk j hk hj=>?_,λ_=>p7⟩,p8,λk y hk hy=>(p9 y).2 (.inr ⟨k,hk,hy⟩),p10,λy hy=>?_,λk y hk hy Fj=>?_,λb1 lh=>?_⟩
       .obtain rfl:j=0:= aC ;rw[cI,cg];exact⟨p6 k hk aH,(p8 k hk).1.head.2.1⟩
       .rw [p1]at hy;simp only[Value.ownBlock,bM]at hy;exact(p9 y).2 (.inl hy.symm)
       .rw [p1]at Fj;simp only[Value.ownBlock,bM]at Fj;exact p11 k hk (Fj▸hy)
       .rw [p1]at lh;cases lh
     obtain⟨v',w',lE,mE⟩:=key (L.val id) n (λk _=>L.iU id k) hm ks2 pown jE;refine⟨v',w',_,.inl lE,Wn kB r hm (r.hb q _ uG) f p8 p9 p10 Fg p11 mE.own mE.Gg mE.size mE.pO mE.os mE.tape mE.output (λ_=>pno) (λhn=>?_),Lk.Ph kB,Lk.Hp.symm⟩
     .have h1:nl=true:=r.hl hn id _ jD;have h2:nl2=true:=r.hl hn q _ uG;rw[h1,h2];rfl
    .cases h
   .cases h
  .
   rename_i id tR Kd;rw[tR]at hs;have hs:=iQ.kX hs;split at h
   .rename_i kZ;split at h
    .rename_i pv;cases h;simp only[bQ,eB]at pv;obtain rfl:=lv.1 pv.1;have kB:id≠q:=λe=>by have:=pv.2;rw[e,cJ]at this;cases this
     have hm:0<m:=ho _ aH;have jE:m*by_<=140737488355328:=ho _ aH;obtain⟨v',w',lE,mE⟩:=key _ 0 (λk _=>L.iU id k) hm hs (.inl ⟨rfl,rfl⟩) (by simpa using jE);have OE:¬L.mz id:=λh=>by have:=(r.hv id).1 h;rw[kZ]at this;cases this
     have hj:=Wn (n:=0) (nl:=true) (len:=λ_=>0) (el:=λ_ _ _=>.any) kB r hm (r.hb q _ uG) (λ_ _ _=>undef) (λk hk=>absurd hk (bG k)) (λk y hk=>absurd hk (bG k)) (λk k' y hk=>absurd hk (bG k))
      (v:=.slice none 0 0) (λy hy=>by simp[Value.ownBlock]at hy) (λk y hk=>absurd hk (bG k)) mE.own mE.Gg mE.size mE.pO mE.os mE.tape mE.output (λh=>absurd h OE) (λhn=>r.hl hn q _ uG)
     simp only[bG,bI,dQ,cD,di]at hj;exact⟨v',w',_,.inl lE,hj,Lk.Ph kB,Lk.Hp.symm⟩
    .cases h
   .cases h
  .cases h
 .cases h
def afT(hT:mV P T)(hB:∀ b,B b->b<w0.heap.size){s x:Operand}{t:TypeId}{c:Call}(hc:c={ callee:=.builtin .append,args:=#[s,x],argTypes:=#[t,t] })(iJ:o.op = .call c)(r:jx w0 B σ a w L)
 (h:C2 T σ o.dst t (σ.op s) (σ.op x)=some u) (ho:∀ q,q ∈ u.jV->q):ku P K w0 B σ o a w u:=by
 unfold C2 at h;split at h
 .rename_i u0 h0;split at h
  .rename_i id nl T1 n sz el id' hf hr;split at h
   .rename_i hid;have hid:=lv.1 hid;subst hid;cases h;have r2:jx w0 B { σ with nl:=false } a w L:=⟨r.hd,r.hs,r.ht,r.hb,r.hv,r.hn,r.hw,r.hi,r.he,λh=>by cases h⟩
    obtain⟨v,w',L1,lE,hrel,sK⟩:=Ui (K:=K) hT hc iJ r2 h0 λq hq=>ho q (List.mem_cons_of_mem _ hq)
    rw[hf]at hrel;rw[hr]at sK;obtain⟨L',k1,k2⟩:=jx.fin hB hrel;refine⟨v,w',L',lE,⟨k1.hd,k1.hs,k1.ht,k1.hb,k1.hv,k1.hn,k1.hw,k1.hi,k1.he,λhn i b hb=>?_⟩,?_⟩
    .have hb:look ((σ.pre (.fin id')).filter λx=>!Nat.beq x.1 id') i=some b:=hb;rw[DN,PS.BA]at hb;split at hb
     .cases hb
     .obtain ⟨b0,mr,rfl⟩:=ch.1 hb;rw[DR];exact r.hl hn i b0 mr
    rw[sK.2];exact k2
   .cases h
  .cases h
 .cases h
def agb{x y:Operand}{c:Call}(hc:c.callee = .builtin .max/\c.args = #[x,y])(iJ:o.op = .call c)(r:jx w0 B σ a w L){k k':IntKind}{p q:Int}(hx:σ.op x = .e (.v (.int k p)))(hy:σ.op y = .e (.v (.int k' q)))
 (hu:u={ r:=.e (.v (.int k (if q>p then q else p))) }):ku P K w0 B σ o a w u:=by
 have h1:=r.op x;have h2:=r.op y;rw[hx]at h1;rw[hy]at h2;have h1:=iQ.kX h1;have h2:=iQ.kX h2;subst hu;refine ku.pure r (v:=.int k (if q>p then q else p)) ?_ rfl (.v _);have em:(#[x,y]:Array Operand).map a.eval = #[.int k p,.int k' q]:=by simp[h1,h2]
 simp only[execOp,iJ,resolve,hc.1,hc.2,em,Sem.run_bind,Sem.run_pure,Result.andThen_ok,invoke,builtin,run_max_int2]
def agc{x y z:Operand}{c:Call}(hc:c.callee = .builtin .max/\c.args = #[x,y,z])(iJ:o.op = .call c)(r:jx w0 B σ a w L){k k' k'':IntKind}{p q s:Int}(hx:σ.op x = .e (.v (.int k p)))(hy:σ.op y = .e (.v (.int k' q)))(hz:σ.op z = .e (.v (.int k'' s)))
 (hu:u={ r:=.e (.v (.int k (if s>(if q>p then q else p)then s else(if q>p then q else p)))) }):ku P K w0 B σ o a w u:=by
 have h1:=r.op x;have h2:=r.op y;have h3:=r.op z;rw[hx]at h1;rw[hy]at h2;rw[hz]at h3;have h1:=iQ.kX h1;have h2:=iQ.kX h2;have h3:=iQ.kX h3;subst hu;refine ku.pure r (v:=.int k (if s>(if q>p then q else p)then s else(if q>p then q else p))) ?_ rfl (.v _);have em:(#[x,y,z]:Array Operand).map a.eval = #[.int k p,.int k' q,.int k'' s]:=by simp[h1,h2,h3]
 simp only[execOp,iJ,resolve,hc.1,hc.2,em,Sem.run_bind,Sem.run_pure,Result.andThen_ok,invoke,builtin,run_max_int3]
def agd{x y:Operand}{c:Call}(hc:c.callee = .builtin .min/\c.args = #[x,y])(iJ:o.op = .call c)(r:jx w0 B σ a w L){k k':IntKind}{p q:Int}(hx:σ.op x = .e (.v (.int k p)))(hy:σ.op y = .e (.v (.int k' q)))
 (hu:u={ r:=.e (.v (.int k (if q<p then q else p))) }):ku P K w0 B σ o a w u:=by
 have h1:=r.op x;have h2:=r.op y;rw[hx]at h1;rw[hy]at h2;have h1:=iQ.kX h1;have h2:=iQ.kX h2;subst hu;refine ku.pure r (v:=.int k (if q<p then q else p)) ?_ rfl (.v _);have em:(#[x,y]:Array Operand).map a.eval = #[.int k p,.int k' q]:=by simp[h1,h2]
 simp only[execOp,iJ,resolve,hc.1,hc.2,em,Sem.run_bind,Sem.run_pure,Result.andThen_ok,invoke,builtin,run_min_int2]
end
structure Gd(P:Program)(K:World->Prop)(w0:World)(B:Nat->Prop):Prop where
 k:K w0
 K7:∀ w w',K w->Below w.heap.size w w'->K w'
 hB:∀ b,B b->b<w0.heap.size/\pD w0 b
def pD.Fz{w w':World}{b:Nat}(h:pD w b)(hb:w'.heap[b]? = w.heap[b]?):pD w' b:=by
 intro o x e;exact h o x (by rw[<-e];exact(World.cell?_of_block (w:=w) (w':=w') hb).symm)
def pD.KV{w:World}{b:Nat}{cs:Array Value}{T:TypeId}{fr:Nat×Nat}(hg:w.heap[b]? = some (.cells cs T fr))(h:∀ v,v ∈ cs->qI v=false):pD w b:=by
 intro o x e;simp only[World.cell?,hg]at e;simp only[Option.isSome_none,bR,bI]at e;have:=h _ (eh e);cases this
section
variable {P:Program} {K:World->Prop} {T:List TI} {O:q8} {w0:World} {B:Nat->Prop} {σ:PS} {o:Oper} {a:Act} {w:World} {L:Lk} {u:kO}
def oh.KQ{v:Value}{T:TypeId}{n sz:Nat}{f:Nat->Nat->Value}(h:oh w v T n sz f true){x:Nat}(hx:v.ownBlock=some x):pD w x:=by
 rcases h with⟨rfl,_⟩|⟨b,c,cur,rfl,hg,_,_,_,_,jZ⟩
 .simp [Value.ownBlock]at hx
 .simp [Value.ownBlock]at hx;subst hx;exact pD.KV hg (jZ rfl)
def nW.KQ{id:Nat}{b:Bx}(h:nW (jl B L) (jH L) L w id b)(hn:b.nl=true){x:Nat}(hx:L.own id x):pD w x:=by
 cases b with
 |cells T l=>
  obtain⟨b,vs,h1,h2,h3,h4,h5⟩:=h;obtain rfl:=(h2 x).1 hx;exact pD.KV h3 λv hv=>KH h4 hn v (by simpa using hv)
 |row nl T n sz el=>
  obtain⟨f,h1,h2,h3⟩:=h;have hn:nl=true:=hn;subst hn;exact h1.KQ ((h2 x).1 hx)
 |ke nl T1 T0 n sz len el pend=>
  rcases h with⟨_,_,h⟩|h
  .exact absurd hx (h x)
  obtain⟨b,c,cur,f,h1,h2,h3,h4,h5,h6,h7,h8,h9,sE,sU⟩:=h;have hn:nl=true:=hn;subst hn;rcases(h9 x).1 hx with rfl|⟨k,hk,hkx⟩
  .exact pD.KV h2 λv hv=>h7 v hv
  .exact (h8 k hk).1.KQ hkx
 |qe nl T l=>
  obtain⟨b,vs,h1,h2,h3,h4,h5,h6⟩:=h;obtain rfl:=(h2 x).1 hx;exact pD.KV h3 λv hv=>(h6 v (by simpa using hv)).2 hn
def jx.Jp(g:Gd P K w0 B)(r:jx w0 B σ a w L)(hn:σ.nl=true):∀ b,jl B L b->b<w.heap.size/\pD w b:=by
 intro b hb;rcases hb with hb|⟨id,hb⟩
 .obtain ⟨h1,h2⟩:=g.hB b hb;exact⟨ca h1 r.he.size,h2.Fz (r.he.block b h1)⟩
 .refine ⟨(r.hw id b hb).2,?_⟩;have hl:=(r.hv id).1 (r.hn id b hb);obtain⟨bx,jo⟩:=ib.1 hl;exact(r.hb id bx jo).KQ (r.hl hn id bx jo) hb
def nW.jh{id:Nat}{Tt:TypeId}{l:List E}(h:nW (jl B L) (jH L) L w id (.cells Tt l)){b:Nat}(hv:L.val id = .pointer (some ⟨b,0,none⟩))(iK:∀ x,L.own id x->x<w.heap.size):
 iQ (jl B L) (λ_=>False) w (.jh l.length λj=>l.getD j .any) (.pointer (some ⟨b,0,none⟩)):=by
 obtain⟨b',vs,h1,h2,h3,h4,h5⟩:=h;rw[hv]at h1;cases h1;refine .jh _ _ b 0 (λj=>vs.getD j undef) (λh=>h) (iK b ((h2 b).2 rfl)) (λj hj=>?_) (λj hj=>?_) (λj hj=>?_)
 .have tK:j<vs.length:=by rw[h4.len];exact hj
  rw[bE,bJ tK];exact h5 _ (cK tK)
 .have tK:j<vs.length:=by rw[h4.len];exact hj
  simp only[World.cell?,h3];simp[tK]
 .have tK:j<vs.length:=by rw[h4.len];exact hj
  rw[bE,bJ hj,bE,bJ tK];exact(h4.lf j _ _ (bJ hj) (bJ tK)).q6 (λ_ h=>h) (λ_ h=>h.elim)
def oh.YK{v:Value}{T:TypeId}{n sz:Nat}{f:Nat->Nat->Value}{nl:Bool}{el:Nat->Nat->E}{bs br:Nat->Prop}(h1:oh w v T n sz f nl)(iK:∀ x,v.ownBlock=some x->x<w.heap.size)
 (h3:∀ i j,i<n->j<sz->iQ bs br w (el i j) (f i j)/\(el i j).nr 2=true):iQ (λ_=>False) (λ_=>False) w (.sl nl n sz el) v:=by
 rcases h1 with⟨rfl,rfl⟩|⟨b,c,cur,rfl,hg,ph,oo,mX,kF,jZ⟩
 .exact .sl nl 0 sz el none 0 f (bF _) aE (λ_=>rfl) (λi j hi=>absurd hi (bG i)) (λi j hi=>absurd hi (bG i)) (λi j hi=>absurd hi (bG i)) (λi j hi=>absurd hi (bG i))
 .refine .sl nl n sz el _ c f ph (by unfold maxLen at oo;omega) (λh=>by cases h) (λi j hi hj=>⟨(kF i j hi hj).2,λhn=>jZ hn _ (eh (kF i j hi hj).1)⟩) (λi j hi hj=>(h3 i j hi hj).2)
   (λi j hi hj=>⟨b,0,rfl,λh=>h,iK b rfl,?_⟩) (λi j hi hj=>(iQ.nr ((h3 i j hi hj).1.q6 (λ_ h=>h.elim) (λ_ h=>h)) 2 (h3 i j hi hj).2))
  rw[cD];simp only[World.cell?,hg];simpa using(kF i j hi hj).1
def jx.VL(r:jx w0 B σ a w L){id T1 T0 n sz k:Nat}{nl:Bool}{len:Nat->Nat}{el:Nat->Nat->Nat->E}{pend:Option Nat}(jD:σ.bo id=some (.ke nl T1 T0 n sz len el pend))(hk:k<n):
 iQ (λ_=>False) (λ_=>False) w (.sl nl (len k) sz (el k)) (L.iU id k):=by
 obtain⟨b,c,cur,f,h1,h2,h3,h4,h5,h6,h7,h8,h9,sE,sU⟩:=(r.hb id _ jD).xL aC;exact(h8 k hk).1.YK (λx hx=>(r.hw id x ((h9 x).2 (.inr ⟨k,hk,hx⟩))).2) (h8 k hk).2
def CV.Gy(r:jx w0 B σ a w L){c:CV}{e:E}{is:List Nat}(h:c.ext σ=some (e,is))(kZ:c.Hm=false){v:Value}(hv:xP (jl B L) (jH L) L w c v):iQ (jl B L) (λ_=>False) w e v:=by
 cases c with
 |e x=>simp only[CV.ext,bM,bW]at h;obtain⟨rfl,_⟩:=h;exact hv.q6 (λ_ h=>h) (λ_ h=>h.elim)
 |box id=>
  simp only[CV.ext]at h;split at h
  .rename_i Tt l jD;simp only[bM,bW]at h;obtain⟨rfl,_⟩:=h;obtain⟨_,b,k2,rfl⟩:=hv;exact(r.hb id _ jD).jh k2 λx hx=>(r.hw id x hx).2
  .cases h
 |row id=>cases kZ
def CV.Ny(r:jx w0 B σ a w L){c:CV}{e:E}{is:List Nat}(h:c.ext σ=some (e,is)){v:Value}(hv:xP (jl B L) (jH L) L w c v):iQ (λ_=>False) (λ_=>False) w e v:=by
 cases kZ:c.Hm with
 |false=>exact(CV.Gy r h kZ hv).q6 (λ_ h=>h.elim) (λ_ h=>h)
 |true=>
  cases c with
  |row id=>
   simp only[CV.ext]at h;split at h
   .rename_i nl T1 T0 n sz len el jD;split at h
    .rename_i hn;have hn:=lv.1 hn;subst hn;simp only[bM,bW]at h;obtain⟨rfl,_⟩:=h;obtain⟨_,b,n',c,k2,rfl⟩:=hv;have lI:=r.VL jD (fR 0);obtain⟨b',c',cur,f,h1,h2,h3,h4,h5,h6,h7,h8,h9,sE,sU⟩:=(r.hb id _ jD).xL aE;rw[k2]at h1;cases h1;have pV:=h6 0 (fR 0) aH;refine .jh 1 _ b 0 (λ_=>L.iU id 0) (λh=>h) (r.hw id b ((h9 b).2 (.inl rfl))).2 (λj hj=>(h8 0 (fR 0)).1.head.2.1) (λj hj=>?_) (λj hj=>lI);obtain rfl:j=0:= aC ;simp only[World.cell?,h2];simpa using pV
    .cases h
   .cases h
  |_=>cases kZ
def TG(r:jx w0 B σ a w L){l:List CV}{es:List E}{is:List Nat}(h:wb σ l=some (es,is))(kZ:l.any CV.Hm=false){vs:List Value}(hlen:vs.length=l.length)
 (hv:∀ (i:Nat) (c:CV) (x:Value),l[i]? = some c->vs[i]? = some x->xP (jl B L) (jH L) L w c x):kJ (jl B L) (λ_=>False) w es vs:=by
 induction l generalizing es is vs with
 |nil=>simp only[wb,bM,bW]at h;obtain⟨rfl,_⟩:=h;obtain rfl:=dH hlen;exact .nil _ _ _
 |cons c l ih=>
  cases vs with
  |nil=>simp at hlen
  |cons v vs=>
   simp only[wb]at h;split at h
   .rename_i x i xs js h1 h2;simp only[bM,bW]at h;obtain⟨rfl,_⟩:=h;simp only[ej,ek]at kZ;exact .cons (CV.Gy r h1 kZ.1 (hv 0 c v rfl rfl)) (ih h2 kZ.2 (by simpa using hlen) λi c x hc hx=>hv (i+1) c x (by simpa using hc) (by simpa using hx))
   .cases h
def TH(r:jx w0 B σ a w L){l:List CV}{es:List E}{is:List Nat}(h:wb σ l=some (es,is)){vs:List Value}(hlen:vs.length=l.length)
 (hv:∀ (i:Nat) (c:CV) (x:Value),l[i]? = some c->vs[i]? = some x->xP (jl B L) (jH L) L w c x):kJ (λ_=>False) (λ_=>False) w es vs:=by
 induction l generalizing es is vs with
 |nil=>simp only[wb,bM,bW]at h;obtain⟨rfl,_⟩:=h;obtain rfl:=dH hlen;exact .nil _ _ _
 |cons c l ih=>
  cases vs with
  |nil=>simp at hlen
  |cons v vs=>
   simp only[wb]at h;split at h
   .rename_i x i xs js h1 h2;simp only[bM,bW]at h;obtain⟨rfl,_⟩:=h;exact .cons (CV.Ny r h1 (hv 0 c v rfl rfl)) (ih h2 (by simpa using hlen) λi c x hc hx=>hv (i+1) c x (by simpa using hc) (by simpa using hx))
   .cases h
def oh.ah6{v:Value}{T:TypeId}{n sz:Nat}{f:Nat->Nat->Value}{nl:Bool}{el:Nat->Nat->E}{bs br:Nat->Prop}(h1:oh w v T n sz f nl)(iK:∀ x,v.ownBlock=some x->x<w.heap.size)
 (h3:∀ i j,i<n->j<sz->iQ bs br w (el i j) (f i j)/\(el i j).nr 2=true):iQ bs (λ_=>False) w (.nZ true nl n sz el) v:=by
 rcases h1 with⟨rfl,rfl⟩|⟨b,c,cur,rfl,hg,ph,oo,mX,kF,jZ⟩
 .exact .nZ true nl 0 sz el none 0 f (bF _) aE (λ_=>rfl) (λi j hi=>absurd hi (bG i)) (λ_ i j hi=>absurd hi (bG i)) (λi j hi=>absurd hi (bG i)) (λi j hi=>absurd hi (bG i))
 .refine .nZ true nl n sz el _ c f ph (by unfold maxLen at oo;omega) (λh=>by cases h) (λi j hi hj=>⟨(kF i j hi hj).2,λhn=>jZ hn _ (eh (kF i j hi hj).1)⟩) (λ_ i j hi hj=>(h3 i j hi hj).2)
   (λi j hi hj=>⟨b,0,rfl,λh=>h,iK b rfl,?_⟩) (λi j hi hj=>iQ.nr (h3 i j hi hj).1 2 (h3 i j hi hj).2)
  rw[cD];simp only[World.cell?,hg];simpa using(kF i j hi hj).1
def PV.Gy(r:jx w0 B σ a w L){p:PV}{e:E}{is:List Nat}(h:p.ext σ=some (e,is))(kZ:p.xz σ=false){v:Value}(hv:lF (jl B L) (jH L) L w p v):iQ (jl B L) (λ_=>False) w e v:=by
 cases p with
 |e x=>simp only[PV.ext,bM,bW]at h;obtain⟨rfl,_⟩:=h;exact iQ.q6 (λ_ h=>h) (λ_ h=>h.elim) hv
 |box id off=>
  cases off with
  |succ=>simp[PV.ext]at h
  |zero=>
   simp only[PV.ext]at h;split at h
   .rename_i Tt l jD;simp only[bM,bW]at h;obtain⟨rfl,_⟩:=h;obtain⟨_,b,k2,rfl⟩:=hv;exact(r.hb id _ jD).jh k2 λx hx=>(r.hw id x hx).2
   .cases h
 |ql f cap=>
  simp only[PV.ext]at h;split at h
  .rename_i xs js h1;simp only[bM,bW]at h;obtain⟨rfl,_⟩:=h;obtain⟨vs,rfl,k2,k3⟩:=hv;have:=TG r h1 kZ k2 k3;exact .fn f xs vs this.len this.lf
  .cases h
 |own id=>
  obtain⟨_,rfl⟩:=hv;simp only[PV.xz]at kZ;split at kZ
  .rename_i nl T1 T0 n sz len el pend jD;simp only[PV.ext,jD]at h;cases pend with
   |some k=>cases h
   |none=>
    simp only[bM,bW]at h;obtain⟨rfl,_⟩:=h;rcases r.hb id _ jD with⟨h1,h2,_⟩|⟨b,c,cur,f,h1,h2,h3,h4,h5,h6,h7,h8,h9,sE,sU⟩
    .subst h2;rw[h1];exact .nZ false true 0 1 _ none 0 (λ_ _=>undef) (bF _) aE (λ_=>rfl) (λi j hi=>absurd hi (bG i)) (λh=>by cases h) (λi j hi=>absurd hi (bG i)) (λi j hi=>absurd hi (bG i))
    .rw [h1];refine .nZ false true n 1 _ _ c (λk _=>L.iU id k) h3 (by unfold maxLen at h4;omega) (λh=>by cases h) (λk j hk hj=>⟨(h8 k hk).1.head.2.1,λ_=>(h8 k hk).1.head.2.2⟩) (λh=>by cases h)
      (λk j hk hj=>⟨b,0,rfl,λh=>h,(r.hw id b ((h9 b).2 (.inl rfl))).2,?_⟩) (λk j hk hj=>(h8 k hk).1.ah6 (λx hx=>(r.hw id x ((h9 x).2 (.inr ⟨k,hk,hx⟩))).2) (h8 k hk).2)
     rw[cD,cI];obtain rfl:j=0:= aC ;simp only[World.cell?,h2];simpa using h6 k hk aH 
  .cases kZ
 |iU id k=>cases kZ
 |nQ=>simp[PV.ext]at h
 |rE=>simp[PV.ext]at h
def PV.Ny(r:jx w0 B σ a w L){p:PV}{e:E}{is:List Nat}(h:p.ext σ=some (e,is)){v:Value}(hv:lF (jl B L) (jH L) L w p v):iQ (λ_=>False) (λ_=>False) w e v:=by
 by_cases kZ:p.xz σ=false
 .exact (PV.Gy r h kZ hv).q6 (λ_ h=>h.elim) (λ_ h=>h)
 .cases p with
  |own id=>
   obtain⟨_,rfl⟩:=hv;simp only[PV.ext]at h;split at h
   .rename_i nl T n sz el jD;simp only[bM,bW]at h;obtain⟨rfl,_⟩:=h;obtain⟨f,h1,h2,h3⟩:=r.hb id _ jD;exact h1.YK (λx hx=>(r.hw id x ((h2 x).2 hx)).2) h3
   .rename_i nl T1 T0 n sz len el jD;exact absurd (by simp only[PV.xz,jD]) kZ
   .cases h
  |iU id k=>
   obtain⟨_,rfl⟩:=hv;simp only[PV.ext]at h;split at h
   .rename_i nl T1 T0 n sz len el jD;split at h
    .rename_i hk;simp only[bM,bW]at h;obtain⟨rfl,_⟩:=h;exact r.VL jD (by simpa[fJ]using hk)
    .cases h
   .cases h
  |ql f cap=>
   simp only[PV.ext]at h;split at h
   .rename_i xs js h1;simp only[bM,bW]at h;obtain⟨rfl,_⟩:=h;obtain⟨vs,rfl,k2,k3⟩:=hv;have:=TH r h1 k2 k3;exact .fn f xs vs this.len this.lf
   .cases h
  |e x=>exact absurd rfl kZ
  |box id off=>exact absurd rfl kZ
  |nQ id sz i j=>exact absurd rfl kZ
  |rE id sz k i j=>exact absurd rfl kZ
def RP(r:jx w0 B σ a w L){l:List Operand}{es:List E}{is:List Nat}(h:uX σ l=some (es,is)):kJ (λ_=>False) (λ_=>False) w es (l.map a.eval):=by
 induction l generalizing es is with
 |nil=>simp only[uX,bM,bW]at h;obtain⟨rfl,_⟩:=h;exact .nil _ _ _
 |cons x l ih=>
  simp only[uX]at h;split at h
  .rename_i y i xs js h1 h2;simp only[bM,bW]at h;obtain⟨rfl,_⟩:=h;exact .cons (PV.Ny r h1 (r.op x)) (ih h2)
  .cases h
def RO(r:jx w0 B σ a w L){l:List Operand}{es:List E}{is:List Nat}(h:uX σ l=some (es,is))(kZ:(l.map σ.op).any (PV.xz σ)=false):kJ (jl B L) (λ_=>False) w es (l.map a.eval):=by
 induction l generalizing es is with
 |nil=>simp only[uX,bM,bW]at h;obtain⟨rfl,_⟩:=h;exact .nil _ _ _
 |cons x l ih=>
  simp only[uX]at h;split at h
  .rename_i y i xs js h1 h2;simp only[bM,bW]at h;obtain⟨rfl,_⟩:=h;simp only[e9,ej,ek]at kZ;exact .cons (PV.Gy r h1 kZ.1 (r.op x)) (ih h2 kZ.2)
  .cases h
def I7(P:Program)(K:World->Prop)(w0:World)(B:Nat->Prop)(σ:PS)(o:Oper)(a:Act)(w:World)(u:kO):Prop:=
 ∀ (Kc:Act->World->Prop) (Q:Exit->Act->World->Prop),(∀ v w' L',jx w0 B (σ.oN u.f) a w' L'->lF (jl B L') (jH L') L' w' u.r v->Kc (a.put o.dst v) w')->o.wp P a w Kc Q
def ku.pI(h:ku P K w0 B σ o a w u):I7 P K w0 B σ o a w u:=by
 intro Kc Q hk;obtain⟨v,w',L',lE,hr,hp⟩:=h;unfold Oper.wp;rcases lE with lE|⟨lE,rfl⟩
 .rw [lE];exact hk v w' L' hr hp
 .rw [lE];exact hk _ w' L' hr hp
def Tg(g:Gd P K w0 B)(r:jx w0 B σ a w L){c:Call}{f:Operand}(iJ:o.op = .call c)(hf:c.callee = .value f){gf:FuncId}{xs ys:List E}{is:List Nat}{us:List Value}
 {ow:Bool} (Av:a.eval f = .func (.func gf) #[] us.toArray) (OW:kJ (λ_=>False) (λ_=>False) w xs (c.args.toList.map a.eval)) (qH:ow=false->kJ (jl B L) (λ_=>False) w xs (c.args.toList.map a.eval)) (OT:kJ (λ_=>False) (λ_=>False) w ys us) (AI:ow=false->kJ (jl B L) (λ_=>False) w ys us)
 (h:BL P K O σ o.dst gf (xs++ys) is ow=some u) (ho:∀ q,q ∈ u.jV->q):I7 P K w0 B σ o a w u:=by
 intro Kc Q hk;simp only[BL]at h;split at h
 .rename_i kt G9;split at h
  .rename_i hc;cases h;have pc:PC P K gf (xs++ys) kt:=ho _ aH;have Od:=OW.app OT;have lE:(execOp a.eval o).run P w = .ok (.enter gf ((c.args.toList.map a.eval)++us).toArray) w:=by
    have e1:c.args.map a.eval=(c.args.toList.map a.eval).toArray:=by apply dJ;simp
    have e2:#[]++(c.args.toList.map a.eval).toArray++us.toArray=((c.args.toList.map a.eval)++us).toArray:= aH ;simp only[execOp,iJ,resolve,hf,Av,Deferred.ofValue,Sem.run_bind,Sem.run_pure,Result.andThen_ok,invoke,e1,e2,pc.call]
   unfold Oper.wp;rw[lE];show Calls P gf _ w _;have hK:K w:=g.K7 _ _ g.k r.he;by_cases Dm:kt.plain 3=true
   .refine (pc.run w (λ_=>False) _ hK (λ_ h=>h.elim) Od).mono ?_;rintro e w' ⟨v,rfl,hb,hv⟩;exact hk v w' L (r.later hb) (iQ.plain (w:=w') hv 3 Dm)
   .have hn:σ.nl=true/\ow=false:=by simpa[Dm]using hc
    refine(pc.run w (jl B L) _ hK (r.Jp g hn.1) ((qH hn.2).app (AI hn.2))).mono ?_;rintro e w' ⟨v,rfl,hb,hv⟩;exact hk v w' L (r.later hb) (iQ.q6 (λ_ h=>h) (λ_ _=>trivial) hv)
  .split at h
   .rename_i hc;cases h;have pc:I9 P K gf (xs++ys) kt:=ho _ aH;have lE:(execOp a.eval o).run P w = .ok (.enter gf ((c.args.toList.map a.eval)++us).toArray) w:=by
     have e1:c.args.map a.eval=(c.args.toList.map a.eval).toArray:=by apply dJ;simp
     have e2:#[]++(c.args.toList.map a.eval).toArray++us.toArray=((c.args.toList.map a.eval)++us).toArray:= aH ;simp only[execOp,iJ,resolve,hf,Av,Deferred.ofValue,Sem.run_bind,Sem.run_pure,Result.andThen_ok,invoke,e1,e2,pc.call]
    unfold Oper.wp;rw[lE];show Calls P gf _ w _;have hK:K w:=g.K7 _ _ g.k r.he;have hn:ow=false:=by simpa using hc
    refine(pc.run w (jl B L) _ hK (λb hb=>?_) ((qH hn).app (AI hn))).mono ?_
    .rcases hb with hb|⟨id,hb⟩
     .exact ca (g.hB b hb).1 r.he.size
     .exact (r.hw id b hb).2
    .rintro e w' ⟨v,rfl,hb,hv⟩;exact hk v w' L (r.later hb) (iQ.q6 (λ_ h=>h) (λ_ _=>trivial) hv)
   .split at h
    .rename_i jZ;cases h;have pc:PC P K gf (xs++ys) kt:=ho _ aH;have vj:w7 kt:=ho _ aH;have Od:=OW.app OT;have lE:(execOp a.eval o).run P w = .ok (.enter gf ((c.args.toList.map a.eval)++us).toArray) w:=by
      have e1:c.args.map a.eval=(c.args.toList.map a.eval).toArray:=by apply dJ;simp
      have e2:#[]++(c.args.toList.map a.eval).toArray++us.toArray=((c.args.toList.map a.eval)++us).toArray:= aH ;simp only[execOp,iJ,resolve,hf,Av,Deferred.ofValue,Sem.run_bind,Sem.run_pure,Result.andThen_ok,invoke,e1,e2,pc.call]
     unfold Oper.wp;rw[lE];show Calls P gf _ w _;have hK:K w:=g.K7 _ _ g.k r.he;refine(pc.run w (λ_=>False) _ hK (λ_ h=>h.elim) Od).mono ?_;rintro e w' ⟨v,rfl,hb,hv⟩;have r':=r.later hb;exact hk v w' L r' (iQ.q6 (λ_ h=>h) (λ_ _=>trivial) (vj _ _ _ _ _ (λx hx=>.inr (r'.Jp g jZ x hx).2) hv))
    .cases h
 .split at h
  .rename_i d hd;split at h
   .rename_i nl T n sz el hnw;split at h
    .rename_i hc;cases h;simp only[bQ]at hc;have pc:vS P K gf (xs++ys) nl T n sz el:=ho _ aH;have lE:(execOp a.eval o).run P w = .ok (.enter gf ((c.args.toList.map a.eval)++us).toArray) w:=by
      have e1:c.args.map a.eval=(c.args.toList.map a.eval).toArray:=by apply dJ;simp
      have e2:#[]++(c.args.toList.map a.eval).toArray++us.toArray=((c.args.toList.map a.eval)++us).toArray:= aH ;simp only[execOp,iJ,resolve,hf,Av,Deferred.ofValue,Sem.run_bind,Sem.run_pure,Result.andThen_ok,invoke,e1,e2,pc.call]
     unfold Oper.wp;rw[lE];show Calls P gf _ w _;have hK:K w:=g.K7 _ _ g.k r.he;have fin:∀ (v:Value) (w':World) (gg:Nat->Nat->Value),Below w.heap.size w w'->oh w' v T n sz gg nl->(∀ x,v.ownBlock=some x->w.heap.size<=x/\x<w'.heap.size) ->
      (∀ i j,i<n->j<sz->iQ (λb=>jl B L b\/v.ownBlock=some b) (λ_=>True) w' (el i j) (gg i j)/\(el i j).nr 2=true)->Kc (a.put o.dst v) w':=by
      intro v w' gg hb mi uF zj;have key:∀ (σ1:PS) (L1:Lk),jx w0 B σ1 a w L1->(∀ i x,L1.own i x->L.own i x)->σ1.bo d=none->σ1.nl=σ.nl->∃ L',jx w0 B (σ1.oN (.new d (.row nl T n sz el))) a w' L'/\lF (jl B L') (jH L') L' w' (.own d) v:=by
       intro σ1 L1 r1 B5 kZ ao9;have ag3:=r1.new d (.row nl T n sz el) (λx=>v.ownBlock=some x) v (λ_=>undef) w' kZ uF hb
        ⟨gg,by rw[Lk.pQ];exact mi,λx=>by rw[Lk.s8,Lk.pQ],λi j hi hj=>⟨?_,(zj i j hi hj).2⟩⟩ (by simp[Bx.nl,hc.2])
       .exact ⟨_,ag3,Lk.CC,Lk.pQ.symm⟩
       .refine (zj i j hi hj).1.q6 (λb h=>?_) (λ_ _=>trivial);rcases h with h|⟨id,h⟩
        .exact .inl (.inl h)
        .by_cases e:id=d
         .subst e;exact .inr ((Lk.s8 b).1 h)
         .exact .inl (.inr ⟨id,B5 _ _ ((Lk.CD e b).1 h)⟩)
      cases jD:σ.bo d with
      |none=>
       obtain⟨L',k1,k2⟩:=key σ L r (λ_ _ h=>h) jD rfl;exact hk v w' L' (by simpa only[vH,jD]using k1) k2
      |some b=>
       obtain⟨L1,r1,B5,kZ⟩:=r.Tk d;obtain⟨L',k1,k2⟩:=key _ L1 r1 B5 kZ rfl;rw[Tp]at k1;exact hk v w' L' (by simpa only[vH,jD]using k1) k2
     cases lQ:ow with
     |false=>
      refine(pc.run w (jl B L) _ hK (r.Jp g hc.1) ((qH lQ).app (AI lQ))).mono ?_;rintro e w' ⟨v,rfl,hb,gg,mi,uF,zj⟩;exact fin v w' gg hb mi uF zj
     |true=>
      have vj:F5 n sz el:=ho _ (by simp[lQ]);refine(pc.run w (λ_=>False) _ hK (λ_ h=>h.elim) (OW.app OT)).mono ?_;rintro e w' ⟨v,rfl,hb,gg,mi,uF,zj⟩;have r':=r.later hb;refine fin v w' gg hb mi uF λi j hi hj=>⟨vj i j hi hj _ _ _ _ _ (λx hx=>?_) (zj i j hi hj).1,(zj i j hi hj).2⟩
      rcases hx with hx|hx
      .exact .inr (r'.Jp g hc.1 x hx).2
      .exact .inl (.inr hx)
    .cases h
   .cases h
  .cases h
def Ns(hT:mV P T)(g:Gd P K w0 B)(r:jx w0 B σ a w L)(h:jW P K T O σ o=some u)(ho:∀ q,q ∈ u.jV->q):I7 P K w0 B σ o a w u:=by
 cases iJ:o.op with
 |move x=>exact(age (P:=P) (K:=K) iJ r h).pI
 |assign x=>exact(afU (P:=P) (K:=K) iJ r h).pI
 |pick c x y=>exact(agh (P:=P) (K:=K) iJ r h).pI
 |alloc t=>exact(afS hT iJ r h).pI
 |box t x=>exact(afW (P:=P) (K:=K) iJ r h).pI
 |build t ps=>exact(afX hT iJ r h).pI
 |buildSlice t n ps=>exact(afY hT (λb hb=>(g.hB b hb).1) iJ r h).pI
 |load t x=>exact(af7 hT iJ r h ho).pI
 |store t x y=>exact(agj hT iJ r h ho).pI
 |nilCheck x=>exact(agf (P:=P) (K:=K) iJ r h).pI
 |binOp op t x y yt=>exact(afV hT iJ r h ho).pI
 |unOp op t x=>exact(agk (P:=P) (K:=K) iJ r h ho).pI
 |convert s d x=>exact(afZ hT iJ r h).pI
 |makeFunc fn first cap=>exact(af9 (P:=P) (K:=K) iJ r h).pI
 |makeSlice t l c=>exact(aga hT iJ r h ho).pI
 |slice t x lo hi mx=>
  cases mx with
  |none=>exact(agi hT iJ r h ho).pI
  |some=>simp[jW,iJ]at h
 |fieldAddr t x f=>exact(af2 hT iJ r h).pI
 |indexAddr t x i=>exact(af4 hT iJ r h ho).pI
 |index t x i=>exact(af3 hT iJ r h ho).pI
 |field t x f=>exact(af1 hT iJ r h).pI
 |lookup t x i ok=>exact(af8 hT iJ r h ho).pI
 |extract x i=>exact(af0 (P:=P) (K:=K) iJ r h).pI
 |call c=>
  obtain⟨callee,args,ats⟩:=c;cases callee with
  |builtin b=>
   simp only[jW,iJ]at h;cases b
   case len=>
    dsimp only at h;split at h
    .rename_i x t hx ht;have ha:args = #[x]:=by apply dJ;simpa using hx
     have Hd:ats = #[t]:=by apply dJ;simpa using ht
     split at h
     .rename_i e hd;obtain⟨rr,hr,rfl⟩:=ch.1 h;exact(af6 hT (by rw[ha,Hd]) iJ hd r hr rfl).pI
     .cases h
    .cases h
   case append=>
    dsimp only at h;split at h
    .rename_i s x t t' hx ht;have ha:args = #[s,x]:=by apply dJ;simpa using hx
     have Hd:ats = #[t,t']:=by apply dJ;simpa using ht
     split at h
     .rename_i rB;have rB:=lv.1 rB;subst rB;split at h
      .rename_i q hq;exact(af5 hT (by rw[ha,Hd]) iJ r hq h ho).pI
      split at h
      .exact (afT hT (λb hb=>(g.hB b hb).1) (by rw[ha,Hd]) iJ r h ho).pI
      .exact (Ui hT (by rw[ha,Hd]) iJ r h ho).pI
     .cases h
    .cases h
   case max=>
    dsimp only at h;split at h
    .rename_i k p k' q hx;rcases args with⟨l⟩
     rcases l with _|⟨x,_|⟨y,_|⟨z,l⟩⟩⟩<;>simp at hx
     cases h;exact(agb (P:=P) (K:=K) ⟨rfl,rfl⟩ iJ r hx.1 hx.2 rfl).pI
    .rename_i k p k' q k'' s hx;rcases args with⟨l⟩
     rcases l with _|⟨x,_|⟨y,_|⟨z,_|⟨z',l⟩⟩⟩⟩<;>simp at hx
     cases h;exact(agc (P:=P) (K:=K) ⟨rfl,rfl⟩ iJ r hx.1 hx.2.1 hx.2.2 rfl).pI
    .cases h
   case min=>
    dsimp only at h;split at h
    .rename_i k p k' q hx;rcases args with⟨l⟩
     rcases l with _|⟨x,_|⟨y,_|⟨z,l⟩⟩⟩<;>simp at hx
     cases h;exact(agd (P:=P) (K:=K) ⟨rfl,rfl⟩ iJ r hx.1 hx.2 rfl).pI
    .cases h
   all_goals cases h
  |value f=>
   simp only[jW,iJ]at h;have Av:=r.op f;split at h
   .rename_i gf cap xs is Dl qH;rw[Dl]at Av;obtain⟨us,e1,AI⟩:=iQ.T9 Av;exact Tg g r iJ rfl e1 (RP r qH) (λkZ=>RO r qH kZ) (AI.mono λ_ _=>iQ.q6 (λ_ h=>h.elim) (λ_ h=>h.elim)) (λ_=>AI.mono λ_ _=>iQ.q6 (λ_ h=>h) (λ_ h=>h.elim)) h ho
   .rename_i gf cap xs is Dl qH;rw[Dl]at Av;obtain⟨us,e1,k2,k3⟩:=Av;split at h
    .rename_i ys js Dx;exact Tg g r iJ rfl e1 (RP r qH) (λkZ=>RO r qH (ek.1 kZ).1) (TH r Dx k2 k3) (λkZ=>TG r Dx (ek.1 kZ).2 k2 k3) h ho
    .cases h
   .cases h
  |invoke _ _=>simp[jW,iJ]at h
 |_=>simp[jW,iJ]at h
def aeI(hT:mV P T)(g:Gd P K w0 B)(r:jx w0 B σ a w L)(h:wa P K T O σ o=some u)(ho:∀ q,q ∈ u.jV->q):I7 P K w0 B σ o a w u:=by
 unfold wa at h;split at h
 .rename_i u0 h0;split at h
  .split at h
   .rename_i p hp;cases h;have he:PV.le u0.r p:=ho _ aH;have:=Ns hT g r h0 (λq hq=>ho q (by simp[hq]));intro Kc Q hk;exact this Kc Q λv w' L' hr hv=>hk v w' L' hr (he _ _ _ _ _ hv)
   .cases h;exact Ns hT g r h0 ho
  .cases h;exact Ns hT g r h0 ho
 .cases h
end
end Go.Proofs.YtgdahmmlddfimaaGreatDoor.Pu
