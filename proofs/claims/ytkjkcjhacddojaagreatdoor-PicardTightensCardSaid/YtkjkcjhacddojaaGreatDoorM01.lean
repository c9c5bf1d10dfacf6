/- Lemmas that the last file uses. -/
import Derived.Test.YtkjkcjhacddojaaGreatDoorProg
import Derived.WalkKit
import Derived.BigQuiet
import Derived.WalkSpells
import Derived.WalkLawsBesides
import Derived.Lib.Hide
import Derived.Deep.RegionHeld3
import Derived.Maps.AppendAt
import Derived.Deep.AppendLies
import Derived.Deep.Draws
import Derived.Deep.DeepFit
import Derived.Laws.AppendOwnNone
import Derived.Shelf.Small.Bits
import Derived.Shelf.Spec.TrailingZeros
import Derived.Test.YtkjkcjhacddojaaGreatDoorCards
import Derived.Test.YtkjkcjhacddojaaGreatDoorTie
import Derived.ProofKit
import Derived.OpenShut
import Derived.Deep.DeepHandedRow
import Derived.Lib.LaidTab
import Derived.Laws.AppendOwn
import Derived.Laws.MakeOwn
import Derived.Laws.Slices
import Derived.Orders
import Derived.Laws.Build
set_option linter.unusedSimpArgs false
set_option linter.unusedVariables false
set_option linter.defProp false
set_option maxHeartbeats 4000000
open Go.Proofs.Tryz
namespace Go.Proofs.YtkjkcjhacddojaaGreatDoor
theorem ae{p:Prop}(h:p:=by omega):p:=h
theorem af{p:Prop}(h:p:=by assumption):p:=h
theorem ag{p:Prop}(h:p:=by decide):p:=h
theorem ah{p:Prop}(h:p:=by kernel_rfl):p:=h
theorem ai{p:Prop}(h:p:=by rfl):p:=h
theorem aj{p:Prop}(h:p:=by simp):p:=h
theorem ak{p:Prop}(h:p:=by nofun):p:=h
theorem an{p:Prop}(h:p:=by simp<;>omega):p:=h
theorem aq{p:Prop}(h:p:=by grind):p:=h
theorem ar{p:Prop}(h:p:=by decide +kernel):p:=h
theorem au{p:Prop}(h:p:=by split<;>omega):p:=h
theorem av{p:Prop}(h:p:=by simp;omega):p:=h
theorem aw{p:Prop}(h:p:=by first|rfl|omega|(simp only[Nat.add_mul,Nat.one_mul];omega)):p:=h
theorem ax{p:Prop}(h:p:=by simp[Op.operands]):p:=h
theorem ay{p:Prop}(h:p:=by first|omega|(simp only[mK];omega)):p:=h
theorem az{p:Prop}(h:p:=by simp_all[mQ,wu,F5]<;>intros<;>omega):p:=h
theorem aC{p:Prop}(h:p:=by unfold nM;omega):p:=h
theorem aD{p:Prop}(h:p:=by rw[lX];grind):p:=h
theorem aE{p:Prop}(h:p:=by rw[List.length_take];omega):p:=h
theorem aF{p:Prop}(h:p:=by rw[IntKind.wrap_u32];omega):p:=h
theorem aG{p:Prop}(h:p:=by rw[List.length_map];omega):p:=h
theorem aI{p:Prop}(h:p:=by rw[uG];omega):p:=h
theorem aJ{p:Prop}(h:p:=by unfold ky;omega):p:=h
theorem aK{α:Type _}[BEq α][LawfulBEq α]{a b:α}(h:a≠b):(a==b)=false:=beq_eq_false_iff_ne.2 h
theorem aM{α:Type _}[BEq α][LawfulBEq α]{a b:α}(h:a=b):(a==b)=true:=beq_iff_eq.2 h
theorem aO{b:Bool}(h:¬b=true):b=false:=Bool.eq_false_iff.2 h
theorem aP{α:Type _}[BEq α][LawfulBEq α]{a b:α}(h:a=b):(a != b)=false:=bne_eq_false_iff_eq.2 h
theorem aQ{α:Type _}[BEq α][LawfulBEq α]{a b:α}(h:a≠b):(a != b)=true:=bne_iff_ne.2 h
def aR:=@if_neg
def aS:=@if_pos
def aT:=@decide_eq_true
def aU:=@decide_eq_false
def aV:=@Nat.le_refl
def aW:=@List.getD_eq_getElem?_getD
def aX:=@Nat.pow_add
def aY:=@Nat.le_trans
def aZ:=@Nat.pow_pos
def a6:=@Nat.pow_succ
def a7:=@if_false
def bc:=@Nat.mul_comm
def bd:=@Nat.mul_assoc
def bg:=@List.getElem?_eq_getElem
def bh:=@Nat.mod_lt
def bj:=@Nat.pow_le_pow_right
def bk:=@Nat.not_lt_zero
def bn:=@if_true
def bq:=@Bool.false_eq_true
def bt:=@Nat.mul_add
def bu:=@Bool.and_eq_true
def bw:=@Rat.le_of_lt
def bA:=@Rat.le_trans
def bB:=@Nat.add_zero
def bC:=@Nat.mod_eq_of_lt
def bD:=@Nat.div_le_self
def bE:=@Nat.mul_le_mul_right
def bF:=@Nat.lt_of_lt_of_le
def bG:=@Classical.byContradiction
def bH:=@List.all_eq_true
def bI:=@List.mem_range
def bJ:=@Option.some.injEq
def bK:=@Nat.one_mul
def bL:=@Nat.add_mul
def bM:=@Rat.mul_nonneg
def bN:=@Nat.zero_le
def bO:=@Nat.pow_zero
def bQ:=@Nat.mul_one
def bR:=@Nat.lt_of_le_of_lt
def bS:=@Nat.div_lt_iff_lt_mul
def bT:=@List.getElem?_eq_none
def bU:=@decide_eq_true_eq
def bV:=@Rat.le_refl
def bW:=@Nat.div_eq_of_lt
def bX:=@Nat.zero_add
def bY:=@Nat.div_add_mod
def bZ:=@List.getElem?_eq_some_iff
def b6:=@Int.le_refl
def b8:=@List.length_take
def b9:=@Rat.mul_le_mul_of_nonneg_right
def ca:=@Prod.mk.injEq
def cg:=@Nat.mul_le_mul_left
def ch:=@List.length_append
def cj:=@List.getElem?_map
def ck:=@of_decide_eq_true
def cr:=@Nat.zero_mul
def ct:=@List.take_of_length_le
def cv:=@Nat.mul_zero
def cw:=@List.length_set
def cz:=@List.getElem_mem
def cA:=@Nat.div_div_eq_div_mul
def cB:=@Rat.mul_le_mul_of_nonneg_left
def cC:=@Rat.div_def
def cD:=@Nat.mul_lt_mul_of_pos_right
def cE:=@Nat.mul_left_comm
def cF:=@Nat.add_assoc
def cG:=@Rat.natCast_nonneg
def cH:=@Option.map_eq_some_iff
def cI:=@Nat.mod_one
def cJ:=@Nat.le_of_ble_eq_true
def cK:=@Option.map_some
def cL:=@Nat.mul_le_mul
def cM:=@Nat.le_div_iff_mul_le
def cN:=@Classical.choose_spec
def cO:=@Nat.div_mul_le_self
def cP:=@Rat.natCast_mul
def cQ:=@Array.getElem?_eq_some_iff
def cR:=@List.length_map
def cS:=@Bool.eq_iff_iff
def cT:=@Nat.min_eq_left
def cU:=@Nat.sub_self
def cV:=@List.mem_cons
def cW:=@ne_eq
def cX:=@Nat.le_of_lt
def cY:=@Rat.natCast_le_natCast
def c9:=@List.mem_map
def dc:=@Nat.mul_add_div
def de:=@List.length_cons
def df:=@List.eq_nil_of_length_eq_zero
def dg:=@List.mem_iff_getElem?
def dh:=@Array.mem_of_getElem?
def di:=@Array.ext'
def dj:=@Nat.sub_zero
def dk:=@List.any_eq_true
def dm:=@Nat.sub_le
def dp:=@Nat.mod_le
def dq:=@Rat.div_mul_cancel
def dr:=@Rat.not_lt
def dt:=@Nat.mod_add_div
def du:=@Nat.mul_ne_zero
def dv:=@Nat.mul_div_cancel
def dw:=@Nat.beq_refl
def dx:=@beq_false
def dz:=@Bool.not_false
def dA:=@Nat.mul_add_mod
def dB:=@Array.length_toList
def dC:=@Int.natAbs_natCast
def dD:=@Int.eq_ofNat_of_zero_le
def dE:=@Nat.pos_of_ne_zero
def dF:=@Bool.true_and
def dG:=@Nat.div_one
def dH:=@List.mem_append
def dI:=@Nat.add_sub_cancel
def dJ:=@Nat.ne_of_gt
def dK:=@Nat.lt_or_ge
def dL:=@List.getElem?_append_left
def dM:=@List.any_eq_false
def dN:=@Int.natCast_mul
def dO:=@Rat.intCast_natCast
def dP:=@Rat.mul_pos
def dQ:=@Rat.natCast_add
def dR:=@Rat.le_antisymm
def dU:=@Rat.mul_lt_mul_of_pos_right
def dV:=@Nat.add_mul_mod_self_left
def dW:=@List.drop_eq_nil_of_le
def dX:=@List.getElem_cons_succ
def dY:=@List.getElem?_take
def dZ:=@Nat.add_comm
def ef:=@Bool.not_true
def eh:=@Nat.eq_zero_or_pos
def ej:=@List.getElem?_append_right
def ek:=@List.length_pos_iff
def en:=@Rat.mul_assoc
def eo:=@List.mem_of_mem_take
def ep:=@List.take_succ_cons
def er:=@List.mem_of_getElem?
def et:=@List.getElem?_drop
def eu:=@List.length_drop
def ev:=@not_false_eq_true
def ew:=@Bool.not_eq_true'
def ey:=@Int.natCast_add
def ez:=@Nat.pow_lt_pow_right
def eA:=@Nat.xor_lt_two_pow
def eB:=@Rat.le_of_mul_le_mul_right
def eC:=@Rat.one_mul
def eD:=@Int.toNat_of_nonneg
def eE:=@List.mem_of_mem_drop
def eF:=@Nat.add_mul_div_left
def eG:=@Nat.mul_pos
def eH:=@Nat.sub_add_cancel
def eI:=@List.drop_eq_getElem_cons
def eJ:=@Nat.mul_mod_left
def eK:=@Array.getElem?_modify
def eN:=@List.getElem_toArray
def eO:=@List.getElem_cons_zero
def eP:=@List.drop_zero
def eR:=@List.drop_succ_cons
def eU:=@List.take_zero
def eV:=@List.mem_flatMap
def eW:=@List.map_cons
def eX:=@List.ext_getElem?
def eZ:=@Array.mem_append
def e9:=@getElem!_pos
def fc:=@List.mapM_cons
def fe:=@List.map_congr_left
def ff:=@Nat.and_lt_two_pow
def fg:=@Int.natAbs_neg
def fh:=@List.take_length
def fi:=@BitVec.toNat_ofInt
def fj:=@Nat.le_of_not_lt
def fk:=@Nat.lt_irrefl
def fm:=@Nat.lt_trans
def fo:=@Rat.natCast_pos
def fp:=@Rat.neg_neg
def fu:=@Rat.mul_comm
def fw:=@Rat.inv_pos
def fz:=@of_decide_eq_false
def fA:=@List.take_succ_eq_append_getElem
def fB:=@Nat.mul_right_comm
def fC:=@Int.toNat_natCast
def fD:=@List.getElem?_append
def fE:=@List.size_toArray
def fF:=@Array.mem_map
def fG:=@Array.mem_range
def fH:=@Bool.or_eq_true
def fI:=@Nat.or_comm
def fJ:=@List.getElem?_replicate
def fK:=@decide_true
def fL:=@Nat.le_of_eq
def fM:=@Nat.mod_mul
def fN:=@Nat.zero_div
def fO:=@Rat.intCast_le_intCast
def fP:=@Rat.intCast_neg
def fQ:=@Rat.neg_mul
def fR:=@Rat.zero_mul
def fS:=@Nat.div_pos
def fT:=@List.length_singleton
def fU:=@Nat.div_lt_self
def fV:=@Nat.le_mul_of_pos_left
def fW:=@Nat.le_mul_of_pos_right
def fX:=@Array.getElem_mem
def fY:=@List.getElem?_toArray
def fZ:=@List.mem_toArray
def gh:=@Option.bind_eq_some_iff
def gi:=@Option.isSome_iff_exists
def gj:=@BitVec.ofInt_natCast
def gl:=@BitVec.toNat_ofNat
def gn:=@Nat.and_one_is_mod
def gp:=@Nat.mul_lt_mul''
def gq:=@decide_eq_true_iff
def gr:=@beq_iff_eq
def gv:=@List.getElem?_set_ne
def gw:=@Nat.mul_mod_mul_left
def gy:=@List.length_eq_zero_iff
def gz:=@Bool.or_self
def gE:=@Nat.succ_mul
def gF:=@Nat.div_le_div_left
def gG:=@Nat.lt_of_not_le
def gH:=@List.ext_getElem
def gI:=@List.getElem_map
def gJ:=@Rat.inv_mul_cancel
def gK:=@Nat.one_ne_zero
def gL:=@Int.tmod_eq_emod_of_nonneg
def gM:=@List.cons_append
def gN:=@List.take_append_drop
def gO:=@List.eq_nil_or_concat
def gP:=@List.concat_eq_append
def gQ:=@Nat.pow_lt_pow_iff_right
def gR:=@List.map_append
def gS:=@Array.size_append
def gT:=@List.any_cons
def gU:=@Bool.or_false
def ado:=@not_true_eq_false
def anM:=@List.set_cons_zero
def anN:=@Option.getD_some
def anO:=@List.pairwise_cons
def anP:=@List.pairwise_append
def anQ:=@Option.some.inj
def anR:=@Array.getElem_setIfInBounds_ne
def anS:=@Nat.or_lt_two_pow
def anT:=@Nat.and_two_pow_sub_one_eq_mod
def anU:=@List.take_add_one
def anV:=@decide_eq_decide
def anW:=@Nat.zero_lt_succ
def anX:=@Nat.testBit_xor
def anY:=@Nat.mul_eq_zero
def anZ:=@Bool.false_or
def an0:=@List.getElem?_range
def an1:=@List.getElem_set
def an2:=@List.getElem_range
def an3:=@Nat.lt_succ_self
def an4:=@Rat.mul_div_cancel
def an5:=@Nat.mul_div_cancel_left
def an6:=@List.getElem?_cons_succ
def an7:=@Array.getElem?_setIfInBounds_ne
def an8:=@Array.getElem?_append_left
def an9:=@Int.tdiv_eq_ediv_of_nonneg
def aoa:=@Array.toList_setIfInBounds
def aob:=@List.drop_length_add_append
def aoc:=@Array.all_eq_true_iff_forall_mem
def aod:=@Array.mapM_eq_mapM_toList
def aoe:=@Nat.eq_of_mul_eq_mul_right
def aof:=@Nat.lt_of_mul_lt_mul_right
def aog:=@Rat.lt_of_mul_lt_mul_right
def aoh:=@Nat.mul_lt_mul_of_lt_of_le
def aoi:=@Int.mul_tdiv_cancel_left
def aoj:=@Nat.mod_two_eq_zero_or_one
def aok:=@Nat.mul_lt_mul_of_lt_of_lt
def aol:=@Lib.hid
end Go.Proofs.YtkjkcjhacddojaaGreatDoor
namespace Go.Proofs.YtkjkcjhacddojaaGreatDoor.Fp
def val:List Nat->Nat
 | []=>0
 |x::l=>x+4294967296*val l
def iD(L:List Nat):Prop:=∀ x,x ∈ L->x<4294967296
theorem iD.nil:iD []:=by intro x h;cases h
theorem iD.cons{x:Nat}{l:List Nat}(hx:x<4294967296)(h:iD l):iD (x::l):=by
 intro y hy;rcases cV.1 hy with rfl|hy;exact hx;exact h _ hy
theorem iD.head{x:Nat}{l:List Nat}(h:iD (x::l)):x<4294967296:=h x aj 
theorem iD.tail{x:Nat}{l:List Nat}(h:iD (x::l)):iD l:=λy hy=>h y (by simp[hy])
theorem iD.append{l m:List Nat}(h:iD l)(k:iD m):iD (l++m):=by
 intro x hx;rcases dH.1 hx with hx|hx;exact h _ hx;exact k _ hx
theorem iD.take{l:List Nat}(h:iD l)(n:Nat):iD (l.take n):=λx hx=>h x (eo hx)
theorem iD.drop{l:List Nat}(h:iD l)(n:Nat):iD (l.drop n):=λx hx=>h x (eE hx)
theorem iD.get{l:List Nat}(h:iD l){i:Nat}(hi:i<l.length):l[i]<4294967296:=h _ (cz hi)
theorem iD.getD{l:List Nat}(h:iD l)(i:Nat):l.getD i 0<4294967296:=by
 rw[aW];by_cases hi:i<l.length
 .rw [bg hi];exact h.get hi
 .rw [bT ae];decide
theorem iD.Cd(n:Nat):iD (List.replicate n 0):=by
 intro x hx;rw[List.mem_replicate]at hx;rw[hx.2];decide
@[simp] theorem zS:val []=0:=rfl
@[simp] theorem qF (x:Nat) (l:List Nat):val (x::l)=x+4294967296*val l:=rfl
theorem uU(l m:List Nat):val (l++m)=val l+4294967296^l.length*val m:=by
 induction l with
 |nil=>simp
 |cons x l ih=>
  simp only[gM,qF,ih,de,a6];rw[bt,bc (4294967296^l.length) 4294967296,bd];omega
theorem mh{l:List Nat}(h:iD l):val l<4294967296^l.length:=by
 induction l with
 |nil=>simp
 |cons x l ih=>
  have h1:=h.head;have h2:=ih h.tail;simp only[qF,de,a6];have:val l+1<=4294967296^l.length:=h2;have:=cg 4294967296 this;rw[bc (4294967296^l.length)];omega
theorem zU(n:Nat):val (List.replicate n 0)=0:=by
 induction n with
 |zero=>rfl
 |succ n ih=>simp[List.replicate_succ,ih]
theorem Ec(l:List Nat)(n:Nat)(hn:n<=l.length):val l=val (l.take n)+4294967296^n*val (l.drop n):=by
 conv=>lhs;rw[<-gN n l,uU]
 rw[b8,cT hn]
theorem yj(l:List Nat)(n:Nat)(hn:n<l.length):val (l.take (n+1))=val (l.take n)+4294967296^n*l[n]:=by
 rw[fA hn,uU,b8,cT ae];simp
theorem amV{l:List Nat}(h:iD l)(n:Nat):val (l.take n)=val l%4294967296^n:=by
 by_cases hn:n<=l.length
 .rw [Ec l n hn,dV,bC]
  have:=mh (h.take n);rwa[b8,cT hn]at this
 .rw [ct ae,bC]
  refine bF (mh h) (bj ag ae)
theorem GA{l:List Nat}(h:iD l)(n:Nat):val (l.drop n)=val l/4294967296^n:=by
 by_cases hn:n<=l.length
 .rw [Ec l n hn]
  have:=mh (h.take n);rw[b8,cT hn]at this;rw[eF _ _ (aZ ag),bW this,bX]
 .rw [dW ae,bW];rfl
  exact bF (mh h) (bj ag ae)
def il:List Nat->List Nat
 | []=>[]
 |x::l=>match il l with
  | []=>if x=0 then[]else[x]
  |y::m=>x::y::m
def lZ(L:List Nat):Nat:=(il L).length
theorem YS(l:List Nat):il (l++[0])=il l:=by
 induction l with
 |nil=>rfl
 |cons x l ih=>simp only[gM,il,ih]
theorem YR(l:List Nat)(x:Nat)(hx:x≠0):il (l++[x])=l++[x]:=by
 induction l with
 |nil=>simp[il,hx]
 |cons y l ih=>
  simp only[gM,il,ih];cases l<;>rfl
theorem Gy(L:List Nat):il L=L.take (lZ L):=by
 unfold lZ
 induction L with
 |nil=>rfl
 |cons x l ih=>
  simp only[il];cases h:il l with
  |nil=>by_cases hx:x=0<;>simp[hx]
  |cons y m=>
   rw[h]at ih;simp only[de,ep];rw[de]at ih;rw[<-ih]
theorem oO(L:List Nat):lZ L<=L.length:=by
 have h:=congrArg List.length (Gy L);rw[b8]at h;unfold lZ at h ⊢;omega
theorem oG(L:List Nat):val (il L)=val L:=by
 induction L with
 |nil=>rfl
 |cons x l ih=>
  simp only[il];cases h:il l with
  |nil=>rw[h]at ih;by_cases hx:x=0<;>simp[hx,<-ih]
  |cons y m=>rw[h]at ih;simp only[qF]at ih ⊢;rw[ih]
theorem iD.il{L:List Nat}(h:iD L):iD (Fp.il L):=by rw[Gy];exact h.take _
def nf(L:List Nat):Prop:=il L=L
theorem zP(L:List Nat):nf (il L):=by
 unfold nf
 induction L with
 |nil=>rfl
 |cons x l ih=>
  simp only[il];cases h:il l with
  |nil=>by_cases hx:x=0<;>simp[hx,il]
  |cons y m=>rw[h]at ih;simp only[il]at ih ⊢;rw[ih]
theorem nf.nil:nf []:=rfl
theorem Bb(L:List Nat):nf L↔∀ h:0<L.length,L[L.length-1]≠0:=by
 rcases gO L with rfl|⟨l,x,rfl⟩
 .simp [nf,il]
 .simp only[gP,ch,fT,dI,List.getElem_concat_length]
  constructor
  .intro h _ hx
   subst hx;have:=congrArg List.length h;rw[YS]at this;have h2:=oO l;unfold lZ at h2;rw[ch]at this;simp at this;omega
  .intro h
   exact YR l x (h ae)
theorem Kd(L:List Nat)(n:Nat)(hn:n<L.length)(h0:L[n]=0):lZ (L.take (n+1))=lZ (L.take n):=by
 unfold lZ;rw[fA hn,h0,YS]
theorem Kb(L:List Nat)(n:Nat)(hn:n<L.length)(h0:L[n]≠0):lZ (L.take (n+1))=n+1:=by
 unfold lZ;rw[fA hn,YR _ _ h0];simp;omega
theorem nf.K8{x:Nat}{l:List Nat}(h:nf (x::l)):nf l:=by
 rw[Bb]at h ⊢;intro hl;have:=h aj;simp only[de,dI]at this;have e:(x::l)[l.length]'(aj)=l[l.length-1]:=by
  rw[List.getElem_cons];rw[dif_neg ae]
 rwa[e]at this
theorem nf.zT{L:List Nat}(h:nf L)(hl:L≠[]):0<val L:=by
 induction L with
 |nil=>exact absurd rfl hl
 |cons x l ih=>
  simp only[qF];by_cases pM:l=[]
  .subst pM
   have:=(Bb _).1 h aj;simp at this;simp;omega
  .have:=ih h.K8 pM
   omega
theorem nf.ext{L M:List Nat}(hL:nf L)(hM:nf M)(kL:iD L)(kM:iD M)(h:val L=val M):L=M:=by
 induction L generalizing M with
 |nil=>
  by_cases hm:M=[]
  .exact hm.symm
  .have:=hM.zT hm;rw[<-h]at this;simp at this
 |cons x l ih=>
  cases M with
  |nil=>have:=hL.zT aj;rw[h]at this;simp at this
  |cons y m=>
   simp only[qF]at h;have h1:=kL.head;have h2:=kM.head;have e:x=y:= ae ;subst e;rw[ih hL.K8 hM.K8 kL.tail kM.tail ae]
def gV(n:Nat):List Nat:=if n=0 then[]else n%4294967296::gV (n/4294967296)
termination_by n
decreasing_by exact fU ae ag 
theorem na:gV 0=[]:=by rw[gV];rfl
theorem zh{n:Nat}(h:n≠0):gV n=n%4294967296::gV (n/4294967296):=by rw[gV,aR h]
theorem jC(n:Nat):val (gV n)=n:=by
 induction n using Nat.strongRecOn with
 |_ n ih=>
  by_cases h:n=0
  .subst h;rw[na];rfl
  .rw [zh h,qF,ih _ (fU ae ag)]
   exact dt n 4294967296
theorem kE(n:Nat):iD (gV n):=by
 induction n using Nat.strongRecOn with
 |_ n ih=>
  by_cases h:n=0
  .subst h;rw[na];exact iD.nil
  .rw [zh h]
   exact iD.cons (bh _ ag) (ih _ (fU ae ag))
theorem tX(n:Nat):nf (gV n):=by
 induction n using Nat.strongRecOn with
 |_ n ih=>
  by_cases h:n=0
  .subst h;rw[na];exact nf.nil
  .rw [zh h]
   have h1:=ih _ (fU ae (ag:1<4294967296));unfold nf at h1 ⊢;simp only[il,h1];by_cases h2:n/4294967296=0
   .rw [h2,na]
    have:n%4294967296≠0:= ae ;simp[this]
   .rw [zh h2]
theorem qE{L:List Nat}(h:iD L):il L=gV (val L):=
 nf.ext (zP L) (tX _) h.il (kE _) (by rw[oG,jC])
theorem nf.EC{L:List Nat}(h:nf L)(k:iD L):L=gV (val L):=by
 rw[<-qE k];exact h.symm
theorem U3{n:Nat}:gV n=[]↔n=0:=by
 constructor
 .intro h;have:=jC n;rw[h]at this;exact this.symm
 .rintro rfl;exact na
theorem rj{n k:Nat}(h:n<4294967296^k):(gV n).length<=k:=by
 induction k generalizing n with
 |zero=>simp at h;subst h;rw[na];simp
 |succ k ih=>
  by_cases h0:n=0
  .subst h0;rw[na];simp
  .rw [zh h0,de]
   have:n/4294967296<4294967296^k:=by
    rw[bS ag];rwa[a6]at h
   have:=ih this;omega
theorem uF{n k:Nat}(h:(gV n).length<=k):n<4294967296^k:=by
 have h1:=mh (kE n);rw[jC]at h1;exact bF h1 (bj ag h)
def ie(n:Nat):Nat:=if n=0 then 0 else n.log2+1
theorem q8:ie 0=0:=rfl
theorem kR{n k:Nat}:ie n<=k↔n<2^k:=by
 unfold ie;by_cases h:n=0
 .subst h;simp[aZ]
 .rw [aR h,<-Nat.log2_lt h];omega
theorem sA{n k:Nat}:k<ie n↔2^k<=n:=by
 have:=@kR n k;omega
theorem u4{n k:Nat}(h1:2^k<=n)(h2:n<2^(k+1)):ie n=k+1:=by
 have a:=sA.2 h1;have b:=kR.2 h2;omega
theorem oY(n:Nat):n<2^ie n:=kR.1 (aV _)
theorem rH{n:Nat}(h:n≠0):2^(ie n-1)<=n:=by
 have:ie n-1<ie n:=by
  have:ie n≠0:=by unfold ie;simp[h]
  omega
 exact sA.1 this
theorem mY{n:Nat}(h:n≠0):0<ie n:=by unfold ie;simp[h]
theorem tk{m n:Nat}(h:m<=n):ie m<=ie n:=kR.2 (bR h (oY n))
theorem qt{n:Nat}(h:n≠0)(k:Nat):ie (n*2^k)=ie n+k:=by
 have h1:=oY n;have h2:=rH h;have h3:=mY h;have e:ie n+k=(ie n-1+k)+1:= ae ;rw[e];apply u4
 .rw [aX];exact bE _ h2
 .rw [<-e,aX];exact cD h1 (aZ ag)
theorem nP(k:Nat):(4294967296:Nat)^k=2^(32*k):=by
 rw[Nat.pow_mul]
theorem aaU{l:List Nat}{x:Nat}(h:iD (l++[x]))(hx:x≠0):ie (val (l++[x]))=32*l.length+ie x:=by
 rw[uU];simp only[qF,zS,cv,bB];have hl:val l<4294967296^l.length:=mh (λy hy=>h y (by simp[hy]));rw[nP]at hl ⊢;have h1:=oY x;have h2:=rH hx;have h3:=mY hx;have e:32*l.length+ie x=(32*l.length+(ie x-1))+1:= ae ;rw[e];apply u4
 .rw [aX]
  have:=cg (2^(32*l.length)) h2;omega
 .rw [<-e,aX]
  have:=cg (2^(32*l.length)) (show x+1<=2^ie x from h1);rw[bt]at this;omega
def kf(a b:Nat):Int:=if a<b then -1 else if b<a then 1 else 0
theorem Km{L M:List Nat}(kL:iD L)(hM:nf M)(h:L.length<M.length):val L<val M:=by
 rcases gO M with rfl|⟨m,x,rfl⟩
 .simp at h
 .simp only[gP,ch,fT]at h hM ⊢
  have hx:x≠0:=by
   have:=(Bb _).1 hM aj;simpa using this
  have h1:=mh kL;rw[uU];have h2:(4294967296:Nat)^L.length<=4294967296^m.length:=bj ag ae;have h3:(4294967296:Nat)^m.length*1<=4294967296^m.length*val [x]:=cg _ av;omega
theorem amR{L M:List Nat}(kL:iD L)(i:Nat)(hi:i<L.length)(hlen:L.length=M.length)(afH:L.drop (i+1)=M.drop (i+1))(iE:L[i]<M[i]'(ae)):val L<val M:=by
 rw[Ec L (i+1) ae,Ec M (i+1) ae,afH,yj L i hi,yj M i ae];have h1:=mh (kL.take i);rw[b8,cT ae]at h1;have h2:=cg (4294967296^i) (show L[i]+1<=M[i]'(ae)from iE);rw[bt]at h2;omega
theorem amT(L:List Nat)(k:Nat)(h:iD L):val (L.drop k)=val L/2^(32*k):=by
 rw[GA h,nP]
def qD(s:Nat):List Nat->List Nat
 | []=>[]
 |x::l=>((x+4294967296*l.getD 0 0)/2^s)%4294967296::qD s l
theorem J2(s:Nat)(L:List Nat):(qD s L).length=L.length:=by
 induction L with
 |nil=>rfl
 |cons x l ih=>simp[qD,ih]
theorem X4(s:Nat)(L:List Nat)(i:Nat)(h:i<L.length):(qD s L)[i]? = some (((L[i]+4294967296*L.getD (i+1) 0)/2^s)%4294967296):=by
 induction L generalizing i with
 |nil=>simp at h
 |cons x l ih=>
  cases i with
  |zero=>simp[qD]
  |succ i=>
   simp only[de]at h;simp only[qD,an6,ih i ae,dX];congr 1
theorem AO(s:Nat)(L:List Nat):iD (qD s L):=by
 induction L with
 |nil=>exact iD.nil
 |cons x l ih=>exact iD.cons (bh _ ag) ih
theorem amU{L:List Nat}(h:iD L)(s:Nat)(hs:s<32):val (qD s L)=val L/2^s:=by
 induction L with
 |nil=>simp[qD]
 |cons x l ih=>
  have e:32=s+(32-s):= ae ;have e2:(4294967296:Nat)=2^s*2^(32-s):=by rw[<-aX,<-e]
  have hp:0<2^s:=aZ ag;have hx:=h.head;simp only[qD,qF,ih h.tail];generalize hv:val l=v;have hh:l.getD 0 0=v%4294967296:=by
   rw[<-hv];cases l with
   |nil=>simp
   |cons y m=>
    have:=h.tail.head;simp[qF];omega
  rw[hh];have f1:(x+4294967296*(v%4294967296))/2^s=x/2^s+2^(32-s)*(v%4294967296):=by
   rw[show x+4294967296*(v%4294967296)=x+2^s*(2^(32-s)*(v%4294967296))by rw[<-bd,<-e2],eF _ _ hp]
  have f2:(x+4294967296*v)/2^s=x/2^s+2^(32-s)*v:=by
   rw[show x+4294967296*v=x+2^s*(2^(32-s)*v)by rw[<-bd,<-e2],eF _ _ hp]
  rw[f1,f2];have qd:x/2^s<2^(32-s):=by
   rw[bS hp,bc,<-e2];exact hx
  generalize x/2^s=q at qd ⊢;have g1:(4294967296:Nat)=2^(32-s)*2^s:=by rw[bc];exact e2
  have g2:v=2^s*(v/2^s)+v%2^s:=(bY v (2^s)).symm;have g3:(q+2^(32-s)*(v%4294967296))%4294967296=q+2^(32-s)*(v%2^s):=by
   have k1:v%4294967296%2^s=v%2^s:=by
    rw[e2,Nat.mod_mul_right_mod]
   have k2:(v%4294967296)=2^s*(v%4294967296/2^s)+v%2^s:=by
    rw[<-k1];exact(bY _ _).symm
   conv=>lhs;rw[k2]
   rw[bt,<-bd,<-g1];rw[show q+(4294967296*(v%4294967296/2^s)+2^(32-s)*(v%2^s))=(q+2^(32-s)*(v%2^s))+4294967296*(v%4294967296/2^s)by omega,dV];apply bC;have:v%2^s+1<=2^s:=bh _ hp;have:=cg (2^(32-s)) this;rw[<-g1,bt]at this;omega
  rw[g3]
  conv=>rhs;rw[g2,bt,<-bd,<-g1]
  omega
theorem Ko{L:List Nat}(h:iD L)(n:Nat):val (qD (n%32) (L.drop (n/32)))=val L/2^n:=by
 rw[amU (h.drop _) _ (bh _ ag),amT _ _ h,cA,<-aX];congr 2;omega
theorem OU{out a:List Nat}{i c s n0:Nat}(hi:i<a.length)(hlen:out.length=n0+i)
 (h:val out+4294967296^(n0+i)*c=val (a.take i)*2^s*4294967296^n0):
 val (out++[(a[i]*2^s+c)%4294967296])+4294967296^(n0+(i+1))*((a[i]*2^s+c)/4294967296)=val (a.take (i+1))*2^s*4294967296^n0:=by
 rw[uU,yj a i hi,hlen];simp only[qF,zS,cv,bB];generalize hx:a[i]*2^s+c=x;have e:=dt x 4294967296;have p:4294967296^(n0+(i+1))=4294967296^(n0+i)*4294967296:=by rw[<-cF,a6]
 rw[p,cF,bd (4294967296^(n0+i)),<-bt,e,<-hx,bt,<-cF,Nat.add_right_comm,h,bL,bL];congr 1;rw[aX]
 ac_rfl
theorem uW(b:List Nat)(i:Nat):val (b.take (i+1))=val (b.take i)+4294967296^i*b.getD i 0:=by
 by_cases hi:i<b.length
 .rw [yj b i hi,aW,bg hi];rfl
 .rw [ct ae,ct ae,aW,bT ae];simp
theorem anL{out a b:List Nat}{i c y d c':Nat}(hi:i<a.length)(hlen:out.length=i)
 (hb:val (b.take (i+1))=val (b.take i)+4294967296^i*y)
 (hd:d+y+c=a[i]+4294967296*c')
 (h:val out+val (b.take i)=val (a.take i)+4294967296^i*c):
 val (out++[d])+val (b.take (i+1))=val (a.take (i+1))+4294967296^(i+1)*c':=by
 rw[uU,yj a i hi,hb,hlen];simp only[qF,zS,cv,bB];have e:=congrArg (4294967296^i * ·) hd;simp only[bt,<-bd]at e;rw[a6];omega
def jQ(n:Nat):Nat:=if n=0 then 0 else(Nat.gcd n (2^(Nat.log2 n+1))).log2
theorem K9{m:Nat}(hm:m%2=1)(k:Nat):jQ (m*2^k)=k:=by
 have h0:m*2^k≠0:=du ae (dJ (aZ ag));unfold jQ;rw[aR h0];have hk:k<=Nat.log2 (m*2^k):=by
  apply bG;intro h;have h1:m*2^k<2^k:=(Nat.log2_lt h0).1 ae;have:1*2^k<=m*2^k:=bE _ ae;omega
 obtain⟨j,hj⟩:∃ j,Nat.log2 (m*2^k)+1=j+k:=⟨Nat.log2 (m*2^k)+1-k,ae⟩
 rw[hj,aX,Nat.gcd_mul_right];have hg:Nat.gcd m (2^j)=1:=by
  have hc:Nat.Coprime m 2:=by
   unfold Nat.Coprime;rw[Nat.gcd_comm,Nat.gcd_rec,hm];rfl
  exact Nat.Coprime.pow_right j hc
 rw[hg,bK,Nat.log2_two_pow]
theorem La{n:Nat}(h:n%2=1):jQ n=0:=by have:=K9 h 0;simpa using this
theorem amw{n:Nat}(h:n≠0):∃ m k,m%2=1/\n=m*2^k:=by
 induction n using Nat.strongRecOn with
 |_ n ih=>
  by_cases h2:n%2=1
  .exact ⟨n,0,h2,aj⟩
  .obtain ⟨m,k,hm,he⟩:=ih (n/2) ae ae 
   exact⟨m,k+1,hm,by rw[a6,<-bd,<-he];omega⟩
theorem Re{n:Nat}(h:n≠0)(h2:n%2=0):jQ n=jQ (n/2)+1:=by
 obtain⟨m,k,hm,he⟩:=amw (n:=n/2) ae;have e:n=m*2^(k+1):=by rw[a6,<-bd,<-he];omega
 rw[he,K9 hm]
 conv=>lhs;rw[e]
 exact K9 hm _
theorem Bm{n:Nat}(h:n≠0):∃ m,m%2=1/\n=m*2^jQ n:=by
 induction n using Nat.strongRecOn with
 |_ n ih=>
  by_cases h2:n%2=1
  .exact ⟨n,h2,by rw[La h2];omega⟩
  .obtain ⟨m,hm,he⟩:=ih (n/2) ae ae 
   refine⟨m,hm,?_⟩;rw[Re h ae,a6,<-bd,<-he];omega
theorem yH{m:Nat}(hm:m%2=1)(k:Nat):jQ (m*2^k)=k:=by
 induction k with
 |zero=>rw[bO,bQ,La hm]
 |succ k ih=>
  have hp:0<m*2^k:=eG ae (aZ ag);have e:m*2^(k+1)=m*2^k*2:=by rw[a6,bd]
  rw[e,Re ae ae,dv _ ag,ih]
theorem DH{n:Nat}(h:n≠0):(n/2^jQ n)%2=1:=by
 obtain⟨m,hm,he⟩:=Bm h;have:n/2^jQ n=m:=by conv=>lhs;rw[he,yH hm];rw[dv _ (aZ ag)]
 rw[this];exact hm
theorem Ew{n:Nat}(h:n≠0):(n/2^jQ n)*2^jQ n=n:=by
 obtain⟨m,hm,he⟩:=Bm h;have:n/2^jQ n=m:=by conv=>lhs;rw[he,yH hm];rw[dv _ (aZ ag)]
 rw[this];exact he.symm
theorem DM{n:Nat}(h:n≠0):2^jQ n<=n:=by
 obtain⟨m,hm,he⟩:=Bm h
 conv=>rhs;rw[he]
 exact fV _ ae 
theorem ab7{x v:Nat}(hx:x≠0)(iE:x<4294967296):jQ (x+4294967296*v)=jQ x:=by
 obtain⟨m,hm,he⟩:=Bm hx;have hk:jQ x<32:=by
  have h1:=DM hx;rcases dK (jQ x) 32 with h|h
  .exact h
  .have:=bj (n:=2) ag h
   have e:(2:Nat)^32=4294967296:= ag ;omega
 have e:x+4294967296*v=(m+2^(32-jQ x)*v)*2^jQ x:=by
  rw[bL,<-he,fB,<-aX,eH ae]
 conv=>lhs;rw[e]
 apply yH;have:2^(32-jQ x)=2*2^(31-jQ x):=by rw[show 32-jQ x=(31-jQ x)+1 by omega,a6,bc]
 rw[this,bd,dV];exact hm
theorem ab8{v:Nat}(hv:v≠0)(k:Nat):jQ (2^k*v)=k+jQ v:=by
 obtain⟨m,hm,he⟩:=Bm hv
 conv=>lhs;rw[he,<-bd,bc (2^k),bd,<-aX]
 exact yH hm _
theorem GB{L:List Nat}:val L=0↔∀ x,x ∈ L->x=0:=by
 induction L with
 |nil=>simp
 |cons x l ih=>
  simp only[qF,cV];constructor
  .intro h y hy
   rcases hy with rfl|hy
   .omega
   .exact ih.1 ae y hy
  .intro h
   have h1:=h x (.inl rfl);have h2:=ih.2 (λy hy=>h y (.inr hy));omega
theorem ab9{L:List Nat}(h:iD L)(i:Nat)(hi:i<L.length)(h0:∀ j,(hj:j<i)->L[j]=0)(hx:L[i]≠0):jQ (val L)=32*i+jQ L[i]:=by
 rw[Ec L i ae];have:val (L.take i)=0:=by
  rw[GB];intro y hy;obtain⟨j,hj,rfl⟩:=List.getElem_of_mem hy;rw[b8]at hj;rw[List.getElem_take];exact h0 j ae 
 rw[this,bX,nP,eI hi,qF];rw[ab8 ae,ab7 hx (h.get hi)]
theorem Pj{L:List Nat}{k x:Nat}(hk:k<L.length):val (L.set k x)+4294967296^k*L[k]=val L+4294967296^k*x:=by
 induction L generalizing k with
 |nil=>simp at hk
 |cons y l ih=>
  cases k with
  |zero=>simp;omega
  |succ k=>
   simp only[de]at hk;have:=ih (k:=k) ae;simp only[List.set_cons_succ,qF,dX,a6];have e1:(4294967296^k*4294967296*l[k])=4294967296*(4294967296^k*l[k]):=by ac_rfl
   have e2:(4294967296^k*4294967296*x)=4294967296*(4294967296^k*x):=by ac_rfl
   rw[e1,e2];omega
theorem iD.set{L:List Nat}(h:iD L)(k:Nat){x:Nat}(hx:x<4294967296):iD (L.set k x):=by
 intro y hy;rcases List.mem_or_eq_of_mem_set hy with hy|rfl
 .exact h _ hy
 .exact hx
structure Dy where
 neg:Bool
 m:Nat
 e:Int
def Dy.kN(d:Dy):Prop:=(d.m=0/\d.neg=false/\d.e=0)\/d.m%2=1
def canon(neg:Bool)(m:Nat)(e:Int):Dy:=if m=0 then⟨false,0,0⟩else⟨neg,m/2^jQ m,e+jQ m⟩
theorem qV(neg:Bool)(m:Nat)(e:Int):(canon neg m e).kN:=by
 unfold canon;split
 .exact .inl ⟨rfl,rfl,rfl⟩
 .rename_i h;exact .inr (DH h)
theorem Dy.kN.CF{d:Dy}(h:d.kN):canon d.neg d.m d.e=d:=by
 obtain⟨s,m,e⟩:=d;rcases h with⟨h1,h2,h3⟩|h
 .simp only at h1 h2 h3;subst h1 h2 h3;rfl
 .simp only at h ⊢
  unfold canon;rw[aR ae,La h];simp
def mW(d:Dy):Prop:=d.m=0\/ie d.m<=4096 /\ -16384<=d.e/\d.e<=16384/\(ie d.m:Int)+d.e<=16384
instance (d:Dy):Decidable (mW d):=by unfold mW;infer_instance
structure Dy.ic(d:Dy):Prop where
 canon:d.kN
 range:mW d
def jA:Dy:=⟨false,0,0⟩
theorem rI:jA.ic:=⟨.inl ⟨rfl,rfl,rfl⟩,.inl rfl⟩
def Dy.iK(d:Dy):Int:=if d.m=0 then 0 else if d.neg then -1 else 1
def Dy.iw(d:Dy):Int:=if d.m=0 then 0 else ie d.m+d.e
def Dy.jS(d:Dy)(e:Int):Nat:=d.m*2^(d.e-e).toNat
def Dy.num(d:Dy)(e:Int):Int:=if d.neg then -(d.jS e:Int)else d.jS e
def jo(a b:Dy):Int:=
 if a.num (min a.e b.e)<b.num (min a.e b.e)then -1 else if b.num (min a.e b.e)<a.num (min a.e b.e)then 1 else 0
theorem vI{d:Dy}(h:d.m≠0)(e:Int):0<d.jS e:=eG ae (aZ ag)
theorem Vn{d:Dy}(h:d.m=0)(e:Int):d.jS e=0:=by unfold Dy.jS;rw[h,cr]
theorem Hd{d:Dy}(h:d.m≠0){e:Int}(he:e<=d.e):(ie (d.jS e):Int)=ie d.m+d.e-e:=by
 unfold Dy.jS;rw[qt h];omega
theorem Vm{a b:Dy}(ha:a.m≠0)(hb:b.m≠0){e:Int}(h1:e<=a.e)(h2:e<=b.e)(h:a.iw<b.iw):a.jS e<b.jS e:=by
 have k1:=Hd ha h1;have k2:=Hd hb h2;unfold Dy.iw at h;rw[aR ha,aR hb]at h;rcases dK (a.jS e) (b.jS e)with h'|h'
 .exact h'
 .have:=tk h';omega
def sN(a b:Dy):Int:=kf (a.jS (min a.e b.e)) (b.jS (min a.e b.e))
theorem Q7{a b:Dy}(ha:a.m≠0)(hb:b.m≠0)(h:a.iw<b.iw):sN a b = -1:=by
 unfold sN kf;rw[aS (Vm ha hb (Int.min_le_left _ _) (Int.min_le_right _ _) h)]
theorem Q6{a b:Dy}(ha:a.m≠0)(hb:b.m≠0)(h:b.iw<a.iw):sN a b=1:=by
 have:=Vm hb ha (Int.min_le_right a.e b.e) (Int.min_le_left _ _) h;unfold sN kf;rw[aR ae,aS this]
theorem Ck(d:Dy):(d.m=0/\d.iK=0)\/(d.m≠0/\d.neg=true/\d.iK = -1)\/(d.m≠0/\d.neg=false/\d.iK=1):=by
 unfold Dy.iK;by_cases h:d.m=0
 .exact .inl ⟨h,aS h⟩
 .cases hn:d.neg
  .exact .inr (.inr ⟨h,rfl,by simp[h]⟩)
  .exact .inr (.inl ⟨h,rfl,by simp[h]⟩)
theorem NN{d:Dy}(e:Int):(d.iK=0->d.num e=0)/\(d.iK = -1->d.num e<0/\d.num e = -(d.jS e))/\(d.iK=1->0<d.num e/\d.num e=d.jS e):=by
 unfold Dy.num;rcases Ck d with⟨h1,h2⟩|⟨h1,h2,h3⟩|⟨h1,h2,h3⟩
 .rw [h2,Vn h1];simp
 .have:=vI h1 e;rw[h3,h2];simp;omega
 .have:=vI h1 e;rw[h3,h2];simp;omega
theorem CJ(a b:Dy):jo a b=if a.iK<b.iK then -1 else if b.iK<a.iK then 1 else if a.iK=0 then 0 else a.iK*sN a b:=by
 unfold jo sN kf;generalize min a.e b.e=e;obtain⟨p1,p2,p3⟩:=NN (d:=a) e;obtain⟨q1,q2,q3⟩:=NN (d:=b) e;generalize a.num e=x at *
 generalize b.num e=y at *
 generalize a.jS e=x' at *
 generalize b.jS e=y' at *
 have ha:a.iK=0\/a.iK = -1\/a.iK=1:=by rcases Ck a with⟨_,h⟩|⟨_,_,h⟩|⟨_,_,h⟩<;>simp[h]
 have hb:b.iK=0\/b.iK = -1\/b.iK=1:=by rcases Ck b with⟨_,h⟩|⟨_,_,h⟩|⟨_,_,h⟩<;>simp[h]
 generalize a.iK=s at *
 generalize b.iK=t at *
 rcases ha with rfl|rfl|rfl<;>rcases hb with rfl|rfl|rfl<;>simp at p1 p2 p3 q1 q2 q3<;>(repeat' split)<;>omega
def kY(z:Int)(e:Int):Dy:=canon (decide (z<0)) z.natAbs e
def iJ(a b:Dy):Dy:=
 if a.m=0 then b else if b.m=0 then a else kY (a.num (min a.e b.e)+b.num (min a.e b.e)) (min a.e b.e)
def iF(d:Dy):Dy:=⟨!d.neg&&decide (d.m≠0),d.m,d.e⟩
theorem uI{d:Dy}(h:d.kN):(iF d).kN:=by
 rcases h with⟨h1,h2,h3⟩|h
 .exact .inl ⟨h1,by simp[iF,h1],h3⟩
 .exact .inr h
theorem qA{d:Dy}(h:d.ic):(iF d).ic:=⟨uI h.canon,h.range⟩
theorem ala(n:Bool)(m:Nat)(e:Int):(canon n m e).iK=if m=0 then 0 else if n then -1 else 1:=by
 unfold canon;by_cases h:m=0
 .simp [h,Dy.iK]
 .have:(canon n m e).m≠0:=by unfold canon;rw[aR h];have:=DH h;simp only;omega
  unfold canon at this;rw[aR h]at this ⊢;unfold Dy.iK;rw[aR this,aR h]
theorem alb(z e:Int):(kY z e).iK=if z<0 then -1 else if 0<z then 1 else 0:=by
 unfold kY;rw[ala];by_cases h:z<0
 .rw [aR ae,aS h];simp[h]
 .rw [aR h]
  by_cases h0:0<z
  .rw [aR ae,aS h0];simp[h]
  .rw [aR h0,aS ae]
theorem V2(d:Dy)(e:Int)(hd:d.m≠0):(iF d).num e = -(d.num e):=by
 unfold Dy.num iF Dy.jS;cases d.neg<;>simp[hd]
theorem abY{a b:Dy}(ha:a.m≠0)(hb:b.m≠0):(iJ a (iF b)).iK=jo a b:=by
 unfold iJ;rw[aR ha,aR (by simpa[iF]using hb),alb];have e1:(iF b).e=b.e:=rfl;rw[e1,V2 _ _ hb];unfold jo;generalize a.num _=x;generalize b.num _=y
 repeat' split
 all_goals omega
theorem ab0{a b:Dy}(ha:a.m≠0)(hb:b.m≠0)(hs:a.iK=b.iK)(h:a.iw<b.iw):jo a b = -a.iK:=by
 rw[CJ,aR ae,aR ae,Q7 ha hb h];split<;>omega
theorem abZ{a b:Dy}(ha:a.m≠0)(hb:b.m≠0)(hs:a.iK=b.iK)(h:b.iw<a.iw):jo a b=a.iK:=by
 rw[CJ,aR ae,aR ae,Q6 ha hb h];split<;>omega
theorem CK(a b:Dy):jo a b=if a.iK≠b.iK then(if a.iK<b.iK then -1 else 1)else if a.iK=0 then 0 else
 if a.iw≠b.iw then(if(a.iw<b.iw)=(0<a.iK)then -1 else 1)else(iJ a (iF b)).iK:=by
 by_cases hs:a.iK=b.iK
 .rw [aR (by simpa using hs)]
  by_cases h0:a.iK=0
  .rw [aS h0,CJ,aR ae,aR ae,aS h0]
  .rw [aR h0]
   have ha:a.m≠0:=by intro h;exact h0 (by unfold Dy.iK;rw[aS h])
   have hb:b.m≠0:=by intro h;exact h0 (by rw[hs];unfold Dy.iK;rw[aS h])
   have hc:a.iK = -1\/a.iK=1:=by rcases Ck a with⟨_,h⟩|⟨_,_,h⟩|⟨_,_,h⟩<;>simp_all
   by_cases ht:a.iw=b.iw
   .rw [aR (by simpa using ht),abY ha hb]
   .rw [aS (by simpa using ht)]
    rcases Int.lt_or_gt_of_ne ht with h|h
    .rw [ab0 ha hb hs h];rcases hc with h'|h'<;>rw[h']<;>simp[h]
    .rw [abZ ha hb hs h];rcases hc with h'|h'<;>rw[h']<;>simp[show ¬a.iw<b.iw by omega]
 .rw [aS (by simpa using hs),CJ]
  by_cases h:a.iK<b.iK
  .rw [aS h,aS h]
  .rw [aR h,aR h,aS ae]
theorem ZK{out:List Nat}{k c x y P Q P' Q':Nat}(hlen:out.length=k)(h:val out+4294967296^k*c=P+Q)
 (hP:P'=P+4294967296^k*x) (hQ:Q'=Q+4294967296^k*y):
 val (out++[(c+x+y)%4294967296])+4294967296^(k+1)*((c+x+y)/4294967296)=P'+Q':=by
 rw[uU,hlen,hP,hQ];simp only[qF,zS,cv,bB];generalize hx:c+x+y=z;have e:=dt z 4294967296;rw[a6,cF,bd,<-bt,e,<-hx,bt,bt];omega
theorem alA{out:List Nat}{k c x y d c' P Q P' Q':Nat}(hlen:out.length=k)(h:val out+Q=P+4294967296^k*c)
 (hP:P'=P+4294967296^k*x) (hQ:Q'=Q+4294967296^k*y) (hd:d+y+c=x+4294967296*c'):
 val (out++[d])+Q'=P'+4294967296^(k+1)*c':=by
 rw[uU,hlen,hP,hQ];simp only[qF,zS,cv,bB];have e:=congrArg (4294967296^k * ·) hd;simp only[bt,<-bd]at e;rw[a6];omega
theorem Yn{out:List Nat}{n c P Q:Nat}(ho:iD out)(hlen:out.length=n)(h:val out+Q=P+4294967296^n*c)(hle:Q<=P):c=0/\val out=P-Q:=by
 have h1:=mh ho;rw[hlen]at h1;rcases c with _|c
 .exact ⟨rfl,ae⟩
 .exfalso
  have:4294967296^n*1<=4294967296^n*(c+1):=cg _ ae;omega
theorem KP{L:List Nat}(h:iD L)(k:Nat)(hk:k/32<L.length):val L/2^k%2=L[k/32]/2^(k%32)%2:=by
 have e:k=32*(k/32)+k%32:= ae 
 conv=>lhs;rw[e,aX,<-cA,<-nP,<-GA h,eI hk,qF]
 have hs:k%32<32:=bh _ ag;have e2:(4294967296:Nat)=2^(k%32)*(2*2^(31-k%32)):=by
  rw[<-Nat.pow_succ',<-aX,show k%32+(31-k%32).succ=32 by omega]
 conv=>lhs;rw[e2,bd,eF _ _ (aZ ag),bd,dV]
theorem Qy{n k:Nat}(h:n≠0)(hk:k<jQ n):n/2^k%2=0:=by
 obtain⟨m,hm,he⟩:=Bm h;generalize jQ n=c at *
 rw[he,show c=k+(c-k)by omega,aX,<-bd,fB,dv _ (aZ ag),show c-k=(c-k-1)+1 by omega,a6,<-bd,eJ]
theorem Qx{n:Nat}(h:n≠0):n/2^jQ n%2=1:=DH h
theorem Ep{L:List Nat}(h:iD L)(h0:val L≠0):jQ (val L)/32<L.length:=by
 have h1:=DM h0;have h2:=mh h;rw[nP]at h2;have h3:2^jQ (val L)<2^(32*L.length):=bR h1 h2;have:=(gQ (ag:1<2)).1 h3;omega
end Go.Proofs.YtkjkcjhacddojaaGreatDoor.Fp
namespace Go.Proofs.YtkjkcjhacddojaaGreatDoor
open Go.RowKit Fp
structure Sl(w:World)(A:Option Addr)(c:Nat)(L:List Nat):Prop where
 cap:L.length<=c
 qf:c<=9223372036854775807
 ok:iD L
 xh:A=none->c=0
 cell:∀ (i x:Nat),L[i]? = some x->∃ b o,A=some ⟨b,o,none⟩/\b<w.heap.size/\w.cell? ⟨b,o+i,none⟩=some (.int .u32 (x:Int))
theorem aaY(a:Addr)(n:Nat):(a.add n).block=a.block:=by unfold Addr.add;split<;>rfl
section
variable {w w':World} {A:Option Addr} {c:Nat} {L:List Nat}
theorem Sl.lp(h:Sl w A c L){i:Nat}(hi:i<L.length):∃ b o,A=some ⟨b,o,none⟩/\b<w.heap.size/\w.cell? ⟨b,o+i,none⟩=some (.int .u32 (L[i]:Int)):=
 h.cell i _ (bg hi)
theorem Sl.nil(w:World):Sl w none 0 []:=⟨aV _,ag,iD.nil,λ_=>rfl,λi x h=>by simp at h⟩
theorem Sl.below(h:Sl w A c L)(hb:Below w.heap.size w w'):Sl w' A c L:=
 ⟨h.cap,h.qf,h.ok,h.xh,λi x hx=>by
  obtain⟨b,o,e,h1,h2⟩:=h.cell i x hx;exact⟨b,o,e,bF h1 hb.size,(hb.cell h1).trans h2⟩⟩
theorem Sl.alloc(h:Sl w A c L)(o:Obj):Sl (w.alloc o) A c L:=h.below ((Below.refl _ _).alloc (aV _) _)
theorem Sl.drew(h:Sl w A c L):Sl w.drew A c L:=h.below ((Below.refl _ _).drew)
theorem Sl.take(h:Sl w A c L)(n:Nat):Sl w A c (L.take n):=
 ⟨by have:=h.cap;rw[b8];omega,h.qf,h.ok.take n,h.xh,λi x hx=>h.cell i x (by
  rw[dY]at hx;split at hx
  .exact hx
  .cases hx)⟩
theorem Sl.len(h:Sl w A c L):L.length<=9223372036854775807:=aY h.cap h.qf
theorem Sl.eqv{L':List Nat}(h:Sl w A c L)(e:L=L'):Sl w A c L':=e▸h
end
theorem Bf(b o i:Nat):(⟨b,o,none⟩:Addr).add i=⟨b,o+i,none⟩:=by
 unfold Addr.add;split
 .rename_i h0;rw[h0];rfl
 .simp
abbrev iz(w w':World):Prop:=Below w.heap.size w w'
theorem iz.trans{a b c:World}(h:iz a b)(k:iz b c):iz a c:=Below.trans h (k.mono h.size)
theorem iz.alloc(w:World)(o:Obj):iz w (w.alloc o):=(Below.refl _ _).alloc (aV _) _
theorem iz.drew(w:World):iz w w.drew:=(Below.refl _ _).drew
theorem iz.refl(w:World):iz w w:=Below.refl _ _
theorem JS{A:Option Addr}{n m c:Nat}(h:n=m):Ending.returned (.slice A n c) = .returned (.slice A m c):=by rw[h]
theorem oE{k:IntKind}{a b:Int}(h:a=b):Ending.returned (.int k a) = .returned (.int k b):=by rw[h]
theorem JR{a b:Bool}(h:a=b):Ending.returned (.bool a) = .returned (.bool b):=by rw[h]
def tg(w:World)(L:List Nat)(e:Ending)(w':World):Prop:=∃ A c,e = .returned (.slice A L.length c)/\Sl w' A c L/\iz w w'
def Cv(w:World)(L:List Nat)(n:Int)(e:Ending)(w':World):Prop:=∃ A c,e = .returned (.tuple #[.slice A L.length c,.int .i64 n])/\Sl w' A c L/\iz w w'
def Tb(w:World):Prop:=TabAt 0 Lib.deBruijn32tab w
theorem Tb.below{w w':World}(h:Tb w)(hb:iz w w'):Tb w':=λj hj=>by
 have h1:=h j hj;rw[hb.cell (block_lt_of_cell h1)];exact h1
theorem Tb.alloc{w:World}(h:Tb w)(o:Obj):Tb (w.alloc o):=h.below (iz.alloc _ _)
theorem Tb.drew{w:World}(h:Tb w):Tb w.drew:=h.below (iz.drew _)
theorem aaJ(x:Nat)(h:x<4294967296):Lib.bitLen x=ie x:=by
 induction x using Nat.strongRecOn with
 |_ x ih=>
  by_cases h0:x=0
  .subst h0;rfl
  .rw [Lib.bitLen_half x h0 ae,ih (x/2) ae ae]
   by_cases h1:x/2=0
   .have:x=1:= ae 
    subst this;rfl
   .have e1:=rH h1
    have e2:=oY (x/2);have e3:=mY h1;generalize ie (x/2)=k at *
    obtain⟨j,rfl⟩:∃ j,k=j+1:=⟨k-1,ae⟩
    rw[dI]at e1;rw[dZ];refine(u4 ?_ ?_).symm
    .rw [a6];omega
    .rw [a6];omega
theorem aca(x:Nat)(h0:x≠0)(h:x<4294967296):Lib.ctz 32 x=jQ x:=by
 unfold Lib.ctz;rw[aR h0];obtain⟨m,hm,_⟩:=Lib.ctzFrom_spec 32 x ae h
 conv=>rhs;rw[hm,bc]
 exact(yH ae _).symm
def oj(L:List Nat):List Value:=L.map λ(n:Nat)=>Value.int .u32 (n:Int)
theorem amD{L:List Nat}{j:Nat}{u:Value}(h:(oj L)[j]? = some u):∃ n,L[j]? = some n/\u = .int .u32 (n:Int):=by
 unfold oj at h;rw[cj]at h;obtain⟨n,hn,rfl⟩:=cH.1 h;exact⟨n,hn,rfl⟩
theorem amC(L M:List Nat):oj (L++M)=oj L++oj M:=gR
theorem amE(L:List Nat):∀ u ∈ oj L,u.oneCell'=true:=by
 intro u hu;obtain⟨n,_,rfl⟩:=c9.1 hu;rfl
structure Ow(w:World)(base:Nat)(v:Value)(L:List Nat):Prop where
 row:w.ownsRow base 150 1 v L.length (oj L)
 ok:iD L
theorem Ow.sl{w:World}{base:Nat}{v:Value}{L:List Nat}(h:Ow w base v L):∃ A c,v = .slice A L.length c/\Sl w A c L:=by
 have hr:=h.row;rcases hr.2 with⟨rfl,h0⟩|⟨g,cap,cur,rfl,hb,hg,pB,nN,nO,Fg⟩
 .have:L=[]:=df h0
  subst this;exact⟨none,0,rfl,Sl.nil w⟩
 .refine ⟨_,_,rfl,pB,(by simpa[maxLen]using nN),h.ok,(λh=>by cases h),λi x hx=>⟨_,_,rfl,(cQ.1 hg).1,?_⟩⟩
  have h:=hr.cells (g:=g) rfl i (.int .u32 (x:Int)) (by unfold oj;rw[cj,hx];rfl);rw[Bf]at h;exact h
theorem Ow.nil(w:World)(base:Nat):Ow w base (.slice none 0 0) []:=⟨World.ownsRow_nil w base _ _,iD.nil⟩
theorem Ow.alloc{w:World}{base:Nat}{v:Value}{L:List Nat}(h:Ow w base v L)(o:Obj):Ow (w.alloc o) base v L:=⟨h.row.alloc o,h.ok⟩
theorem Ow.empty(w:World)(base:Nat)(hb:base<=w.heap.size):Ow (w.alloc (.cells #[] 150)) base (.slice (some ⟨w.heap.size,0,none⟩) 0 0) []:=
 ⟨World.ownsRow_made w #[] 0 hb ag rfl,iD.nil⟩
theorem qe{w:World}{n:Nat}(h:n<=w.heap.size)(o:Obj):n<=(w.alloc o).heap.size:= av 
theorem Sl.one(w:World)(x:Nat)(hx:x<4294967296):Sl (w.alloc (.cells #[.int .u32 x] 150)) (some ⟨w.heap.size,0,none⟩) 1 [x]:=
 ⟨aV _,ag,iD.cons hx iD.nil,(λh=>by cases h),λi y hy=>by
  obtain⟨h1,h2⟩:=bZ.1 hy;obtain rfl:i=0:=by simp at h1;omega
  simp at h2;subst h2;refine⟨_,_,rfl,aj,?_⟩;exact World.cell?_alloc_at _ _ _ _ rfl⟩
theorem Sl.s6(w:World)(y:Int)(x:Nat)(e:y=(x:Int))(hx:x<4294967296):Sl (w.alloc (.cells #[.int .u32 y] 150)) (some ⟨w.heap.size,0,none⟩) 1 [x]:=by
 subst e;exact Sl.one w x hx
theorem M5:(prog.info? 150).map (λi=>(i.zero,i.size,i.bytes))=some (some (.int .u32 0),1,4):= ah 
theorem q7{gX:Array Oper}{rest:List Oper}{o:Oper}{a:Act}{Q:Exit->Act->World->Prop}{w:World}(BA:o.guard=none)(s x:Operand)
 (ho:o.op = .call { callee:=.builtin .append,args:=#[s,x],argTypes:=#[37,37] })
 (base:Nat) (v:Value) (L:List Nat) (hs:a.eval s=v) (oh:Ow w base v L)
 (A:Option Addr) (m c:Nat) (M:List Nat) (hx:a.eval x = .slice A m c) (hm:m=M.length) (hr:Sl w A c M)
 (lO:L.length+M.length<=10000000000) (IA:base<=w.heap.size)
 (h:∀ v' w',Ow w' base v' (L++M)->w.grownBy w' v.ownBlock->(v'.ownBlock=v.ownBlock\/v'.ownBlock=some w.heap.size)->wpList prog gX Q rest (a.put o.dst v') w'):
 wpList prog gX Q (o::rest) a w:=by
 obtain⟨i,hi,hz,h1,h2⟩:=info_parts M5;subst hm;rcases A with _|ad
 .have hc:=hr.xh rfl
  subst hc;have hM:M=[]:=df (by have:=hr.cap;omega);subst hM;refine wpList_append_own_none BA s x _ ho base _ i 1 underlying37 hi v _ _ hs oh.row hx ?_;have:=h v w (by rw[List.append_nil];exact oh) ⟨rfl,rfl,rfl,aV _,λ_ _ _=>rfl⟩ (.inl rfl);exact this
 .refine wpList_append_own_at w BA s x _ ho base _ i _ 1 4 underlying37 hi hz h1 h2 rfl ag v L.length (oj L) hs oh.row ad M.length c (oj M) hx (by simp[oj]) ?_ (amE M)
   (by simp only[maxLen];omega) ae IA ?_
  .intro j u hu
   obtain⟨n,hn,rfl⟩:=amD hu;obtain⟨b,o,e,_,hc⟩:=hr.cell j n hn;cases e;rw[Bf];exact hc
  .intro v' w' afB hg _ o9
   exact h v' w' ⟨by rw[ch,amC];exact afB,oh.ok.append hr.ok⟩ hg o9
def Rw(w:World)(b:Nat)(L:List Nat):Prop:=w.heap[b]? = some (.cells (oj L).toArray 150 (0,0))
section
variable {w w':World} {b:Nat} {L:List Nat}
theorem Rw.lt(h:Rw w b L):b<w.heap.size:=(cQ.1 h).1
theorem Rw.cell(h:Rw w b L){i x:Nat}(hx:L[i]? = some x):w.cell? ⟨b,i,none⟩=some (.int .u32 (x:Int)):=by
 unfold Rw at h;simp only[World.cell?,h];simp[oj,hx]
theorem Rw.frozen(h:Rw w b L)(i:Nat):w.frozen? ⟨b,i,none⟩=false:=by
 unfold Rw at h;simp[World.frozen?,h]
theorem Rw.set(h:Rw w b L)(i x:Nat):Rw (w.setCell ⟨b,i,none⟩ (.int .u32 (x:Int))) b (L.set i x):=by
 unfold Rw at h ⊢;simp only[World.setCell,eK,h];simp[oj,List.map_set]
theorem Rw.sl(h:Rw w b L)(hk:iD L)(hl:L.length<=10000000000):Sl w (some ⟨b,0,none⟩) L.length L:=
 ⟨aV _,ae,hk,(λh=>by cases h),λi x hx=>⟨_,_,rfl,h.lt,by
  rw[bX];exact h.cell hx⟩⟩
theorem Rw.xS(w:World)(n:Nat):Rw (w.alloc (.cells (oj (List.replicate n 0)).toArray 150)) w.heap.size (List.replicate n 0):=heap_alloc_new w _
end
theorem ZJ(b i:Nat):(⟨b,0,none⟩:Addr).add i=⟨b,i,none⟩:=by
 unfold Addr.add;split
 .rename_i h0;rw[h0]
 .simp
theorem DB(n:Nat)(hn:n<=10000000000)(w:World):
 (Instr.makeSlice 37 (.int .i64 (n:Int)) (.int .i64 (n:Int))).run prog w = .ok (.slice (some ⟨w.heap.size,0,none⟩) n n) (w.alloc (.cells (oj (List.replicate n 0)).toArray 150)):=by
 obtain⟨i,hi,hz,h1,h2⟩:=info_parts M5;have hr:=run_make (P:=prog) w 37 150 i _ underlying37 hi hz .i64 .i64 n n ae ae (by rw[h2];omega) ae;rw[hr,fC,h1,bQ];refine congrArg (λcs=>Result.ok (Value.slice (some ⟨w.heap.size,0,none⟩) n n) (w.alloc (.cells cs 150))) ?_;apply Array.ext
 .simp [madeCells,oj]
 .intro i h1 h2
  simp[madeCells,oj,Value.cells,cI]
def ua(w:World)(d:Dy)(e:Ending)(w':World):Prop:=
 ∃ A c,e = .returned (.agg #[.bool d.neg,.slice A (gV d.m).length c,.int .i64 d.e])/\Sl w' A c (gV d.m)/\iz w w'
def tf(w:World)(d:Dy)(n:Int)(e:Ending)(w':World):Prop:=
 ∃ A c,e = .returned (.tuple #[.agg #[.bool d.neg,.slice A (gV d.m).length c,.int .i64 d.e],.int .i64 n])/\Sl w' A c (gV d.m)/\iz w w'
def yr(w:World)(g:Nat):Prop:=∀ o x,w.cell? ⟨g,o,none⟩≠some (.int .u32 x)
theorem Sl.yL{w:World}{A:Option Addr}{c:Nat}{L:List Nat}(h:Sl w A c L){g i:Nat}(hg:yr w g)(u:Value):Sl (w.setCell ⟨g,i,none⟩ u) A c L:=
 ⟨h.cap,h.qf,h.ok,h.xh,λj x hx=>by
  obtain⟨b,o,e,h1,h2⟩:=h.cell j x hx;refine⟨b,o,e,by simpa[World.setCell]using h1,?_⟩;rw[World.cell?_setCell_other w _ _ u]
  .exact h2
  .intro e'
   simp only[Addr.mk.injEq]at e';exact hg (o+j) x (by rw[e'.1];exact h2)⟩
theorem yr.DI{w:World}{g:Nat}{cs:Array Value}{t:TypeId}{fr:Nat×Nat}(h:w.heap[g]? = some (.cells cs t fr))(hc:∀ (i:Nat) (x:Int),cs[i]? ≠ some (.int .u32 x)):yr w g:=λo x e=>by
 simp only[World.cell?,h]at e;simp at e;exact hc o x (by simpa using e)
def jk(w:World)(g:Nat)(s:Bool)(A:Option Addr)(n c:Nat)(e:Int):Prop:=w.heap[g]? = some (.cells #[.bool s,.slice A n c,.int .i64 e] 39 (0,0))
section
variable {w w':World} {g n c:Nat} {s:Bool} {A:Option Addr} {e:Int}
theorem jk.new(W:World)(s:Bool)(A:Option Addr)(n c:Nat)(e:Int):jk (W.alloc (.cells #[.bool s,.slice A n c,.int .i64 e] 39)) W.heap.size s A n c e:=heap_alloc_new W _
theorem jk.pD{W:World}{g:Nat}(hg:W.heap.size=g)(s:Bool)(A:Option Addr)(n c:Nat)(e:Int):jk (W.alloc (.cells #[.bool s,.slice A n c,.int .i64 e] 39)) g s A n c e:=hg▸heap_alloc_new W _
theorem jk.lt(h:jk w g s A n c e):g<w.heap.size:=(cQ.1 h).1
theorem jk.ext(h:jk w g s A n c e)(hb:iz w w'):jk w' g s A n c e:=(hb.block g h.lt).trans h
theorem jk.alloc(h:jk w g s A n c e)(o:Obj):jk (w.alloc o) g s A n c e:=h.ext (iz.alloc _ _)
theorem jk.drew(h:jk w g s A n c e):jk w.drew g s A n c e:=h
theorem jk.nx(h:jk w g s A n c e):yr w g:=yr.DI h (λi x=>by rcases i with _|_|_|i<;>simp)
theorem jk.c0(h:jk w g s A n c e):w.cell? ⟨g,0,none⟩=some (.bool s):=by unfold jk at h;simp[World.cell?,h]
theorem jk.c1(h:jk w g s A n c e):w.cell? ⟨g,1,none⟩=some (.slice A n c):=by unfold jk at h;simp[World.cell?,h]
theorem jk.c2(h:jk w g s A n c e):w.cell? ⟨g,2,none⟩=some (.int .i64 e):=by unfold jk at h;simp[World.cell?,h]
theorem jk.fr(h:jk w g s A n c e)(i:Nat):w.frozen? ⟨g,i,none⟩=false:=by unfold jk at h;simp[World.frozen?,h]
theorem jk.set(h:jk w g s A n c e)(s':Bool)(A':Option Addr)(n' c':Nat)(e':Int):
 jk (((w.setCell ⟨g,0,none⟩ (.bool s')).setCell ⟨g,1,none⟩ (.slice A' n' c')).setCell ⟨g,2,none⟩ (.int .i64 e')) g s' A' n' c' e':=by
 have h1:=heap_setCell_same w g 0 _ _ (.bool s') h;have h2:=heap_setCell_same _ g 1 _ _ (.slice A' n' c') h1;have h3:=heap_setCell_same _ g 2 _ _ (.int .i64 e') h2;exact h3
theorem jk.qC{L:List Nat}{A':Option Addr}{c':Nat}(h:jk w g s A n c e)(hs:Sl w A' c' L)(s':Bool)(e':Int)(n' c2:Nat)(A2:Option Addr):
 Sl (((w.setCell ⟨g,0,none⟩ (.bool s')).setCell ⟨g,1,none⟩ (.slice A2 n' c2)).setCell ⟨g,2,none⟩ (.int .i64 e')) A' c' L:=by
 have h1:=heap_setCell_same w g 0 _ _ (.bool s') h;have h2:=heap_setCell_same _ g 1 _ _ (.slice A2 n' c2) h1;have k1:yr (w.setCell ⟨g,0,none⟩ (.bool s')) g:=yr.DI h1 (λi x=>by rcases i with _|_|_|i<;>simp);have k2:yr ((w.setCell ⟨g,0,none⟩ (.bool s')).setCell ⟨g,1,none⟩ (.slice A2 n' c2)) g:=yr.DI h2 (λi x=>by rcases i with _|_|_|i<;>simp);exact((hs.yL h.nx _).yL k1 _).yL k2 _
theorem jk.qo{w0:World}(hb:iz w0 w)(hg:w0.heap.size<=g)(s':Bool)(A':Option Addr)(n' c':Nat)(e':Int):
 iz w0 (((w.setCell ⟨g,0,none⟩ (.bool s')).setCell ⟨g,1,none⟩ (.slice A' n' c')).setCell ⟨g,2,none⟩ (.int .i64 e')):=
 ((hb.setCell hg _).setCell hg _).setCell hg _
end
theorem RL:(prog.info? 39).map (·.size)=some 3:= ah 
theorem aki{fn:Func}{p:Tmp}(h:fn.results = #[.cell p 39])(tmps:Array Value){w:World}{g n c:Nat}{s:Bool}{A:Option Addr}{e:Int}
 (hp:tmps.getD p undef = .pointer (some ⟨g,0,none⟩)) (hb:jk w g s A n c e):
 (results fn tmps).run prog w = .ok (.agg #[.bool s,.slice A n c,.int .i64 e]) w:=
 results_cell_row h tmps w g _ _ _ _ hp hb underlying39 rfl RL
theorem akj{fn:Func}{p t:Tmp}(h:fn.results = #[.cell p 39,.tmp t])(tmps:Array Value){w:World}{g n c:Nat}{s:Bool}{A:Option Addr}{e:Int}
 (hp:tmps.getD p undef = .pointer (some ⟨g,0,none⟩)) (hb:jk w g s A n c e):
 (results fn tmps).run prog w = .ok (.tuple #[.agg #[.bool s,.slice A n c,.int .i64 e],tmps.getD t undef]) w:=by
 have TU:tmps[p]?.getD undef = .pointer (some ⟨g,0,none⟩):=by simpa using hp
 simp[results,h,TU,asAddr,run_loadVar_row w g _ _ _ _ _ hb underlying39 rfl RL]
theorem sP{fn:Func}{p:Tmp}(h:fn.results = #[.cell p 39]){a:Act}{w W:World}{d:Dy}{g:Nat}{A:Option Addr}{c n:Nat}
 (hp:a.tmps.getD p undef = .pointer (some ⟨g,0,none⟩)) (hd:a.defers=[]) (hb:jk W g d.neg A n c d.e) (hn:n=(gV d.m).length) (hs:Sl W A c (gV d.m)) (he:iz w W):
 bodyPost prog fn (ua w d) .ret a W:=by
 subst hn;exact bodyPost_ret (aki h _ hp hb) hd ⟨A,c,rfl,hs,he⟩
theorem vd{fn:Func}{p t:Tmp}(h:fn.results = #[.cell p 39,.tmp t]){a:Act}{w W:World}{d:Dy}{k:Int}{g:Nat}{A:Option Addr}{c n:Nat}
 (hp:a.tmps.getD p undef = .pointer (some ⟨g,0,none⟩)) (ht:a.tmps.getD t undef = .int .i64 k) (hd:a.defers=[]) (hb:jk W g d.neg A n c d.e) (hn:n=(gV d.m).length) (hs:Sl W A c (gV d.m)) (he:iz w W):
 bodyPost prog fn (tf w d k) .ret a W:=by
 subst hn;exact bodyPost_ret ((akj h _ hp hb).trans (by rw[ht])) hd ⟨A,c,rfl,hs,he⟩
open Go.ChangeShapes Go.WideShapes Go.ChangeAt
theorem own:ownKnob prog.godebug=none:= ah 
theorem Dx:laidOutB prog=true:= ah 
theorem SA:prog.globalNamed "math/bits.deBruijn32tab" = some 0:= ah 
theorem aeh:(prog.globals[0]?).map (·.type)=some 248:= ah 
theorem abU:prog.cellsOf 248=32:= ah 
theorem abT:prog.cellsOf 5=1:= ah 
theorem abS:prog.cellsOf 150=1:= ah 
theorem al5 {l:List (String×DataW Unit)} (hl:l=[("math/bits.deBruijn32tab", Rows.laid_math_bits_deBruijn32tab)]) {W:World} (h:laidMet prog l W):Tb W:=by
 subst hl;have ht:Lib.TabIs prog W "math/bits.deBruijn32tab" .u8 (Lib.deBruijn32tab.map λ(n:Nat)=>(n:Int)):=
  Lib.tabIs_of_head (rest:=[]) SA aeh underlying248 underlying5 abT abU h
 intro j hj;have:=ht.cell SA j (by simpa using hj);rw[this];simp[aW];rw[bg hj];simp
theorem afL{n:Int}(h:(Lit.int .i64 n).wf=true):-9223372036854775808<=n/\n<=9223372036854775807:=by
 have h1:IntKind.i64.min = -9223372036854775808:=rfl;have h2:IntKind.i64.max=9223372036854775807:=rfl;simp[Lit.wf,h1,h2]at h;omega
theorem ah3{H:Type}{enc:TypeId×Value->H}{W:World}{fuel:Nat}{c:Value}{x:DataW H×List MemPlace}
 (h:DataW.trod enc prog W 0 (λ_=>true) true fuel 37 [c]=some x) (_hlt:∀ p ∈ x.2,p.block<W.heap.size):
 ∃ A L cap,c = .slice A L.length cap/\Sl W A cap L:=by
 rcases open_ints underlying37 underlying150 abS h with⟨nO,hx⟩|⟨a,len,cap,zs,nO,_,hl,hm,hz,hx,lq,hwz⟩
 .simp at nO
  exact⟨none,[],0,nO,Sl.nil W⟩
 .simp at nO
  simp only[bn]at hz;refine⟨some a,(zs.take len).map Int.toNat,cap,?_,?_⟩
  .rw [nO,cR,b8,cT ae]
  .have Ud:∀ n ∈ zs,0<=n/\n<4294967296:=λn hn=>by
    have:=hwz n hn;have h1:IntKind.u32.min=0:=rfl;have h2:IntKind.u32.max=4294967295:=rfl;simp[Lit.wf,h1,h2]at this;omega
   refine⟨by rw[cR,b8];omega,by simpa[maxLen]using hm,?_,(λh=>by cases h),?_⟩
   .intro y hy
    obtain⟨z,xO,rfl⟩:=c9.1 hy;have:=Ud z (eo xO);omega
   .intro i y hy
    rw[cj]at hy;obtain⟨z,xO,rfl⟩:=cH.1 hy;rw[dY]at xO;split at xO
    .rename_i hi
     have hc:=lq i ae;rw[aW,xO]at hc;obtain⟨b,off,spot⟩:=a;have MM:spot=none:=by
      rcases spot with _|q
      .rfl
      .exfalso
       have oM:=lq 0 ae;rw[show(⟨b,off,some q⟩:Addr).add 0=⟨b,off,some q⟩from rfl]at oM;unfold World.cell? at oM;split at oM<;>simp at oM
     subst MM;refine⟨b,off,rfl,?_,?_⟩
     .have:=block_lt_of_cell hc
      rwa[aaY]at this
     .rw [Bf]at hc
      rw[hc];have:=Ud z (er xO);simp;omega
    .cases xO
theorem U8{α:Type}{l:List α}(h:l.length=3):∃ a b c,l=[a,b,c]:=by
 match l,h with
 | [a,b,c],_=>exact⟨a,b,c,rfl⟩
theorem ag1{α:Type}{l:List α}(h:l.length=7):∃ a b c d e f g,l=[a,b,c,d,e,f,g]:=by
 match l,h with
 | [a,b,c,d,e,f,g],_=>exact⟨a,b,c,d,e,f,g,rfl⟩
theorem ah1{H:Type}{enc:TypeId×Value->H}{W:World}{fuel:Nat}{cs:List Value}{x:DataW H×List MemPlace}
 (h:DataW.trod enc prog W 0 (λ_=>true) true fuel 39 cs=some x) (iE:∀ p ∈ x.2,p.block<W.heap.size):
 ∃ s A L cap e,cs=[.bool s,.slice A L.length cap,.int .i64 e]/\Sl W A cap L/\(-9223372036854775808<=e/\e<=9223372036854775807):=by
 obtain⟨xs,n,rfl,rfl,hl,lv,hf⟩:=DataW.trod_struct underlying39 h;have hC:prog.cellsOf 39=3:= ah ;have hB:prog.cellsOf 4=1:= ah ;have hS:prog.cellsOf 37=1:= ah ;have hI:prog.cellsOf 3=1:= ah ;rw[hC]at hl;obtain⟨a,b,c,rfl⟩:=U8 hl;have h0:=hf 0 _ rfl;have h1:=hf 1 _ rfl;have h2:=hf 2 _ rfl;simp only[eN,eO,dX]at h0 h1 h2;simp only[hB,hS,hI,eP,eR,ep,eU]at h0 h1 h2;rw[bg (by rw[lv];decide)]at h0 h1 h2;obtain⟨s,hs,_⟩:=DataW.trod_bool underlying4 h0;obtain⟨A,L,cap,hc,tJ⟩:=ah3 h1 (λp hp=>iE p (eV.2 ⟨_,cz _,hp⟩));obtain⟨e,he,_,hw⟩:=DataW.trod_int underlying3 h2;simp at hs he;subst hs he hc;exact⟨s,A,L,cap,e,rfl,tJ,afL hw⟩
noncomputable def Nn(os:Os)(args:Array Value):World:=
 {World.holding prog os ⟨#[],args,[]⟩with heap:=(World.holding prog os ⟨#[],args,[]⟩).heap.modify 0 fun
   | .cells _ t frozen=>.cells (Lib.deBruijn32tab.map λ(n:Nat)=>Value.int .u8 (n:Int)).toArray t frozen
   |o=>o }
end Go.Proofs.YtkjkcjhacddojaaGreatDoor
namespace Go.Proofs.YtkjkcjhacddojaaGreatDoor.Pu
open Go.RowKit
inductive E where
 |any
 |v (x:Value)
 |agg (l:List E)
 |ix (l:List E)
 |sl (nl:Bool) (n sz:Nat) (el:Nat->Nat->E)
 |kz (m:Nat) (el:Nat->E)
 |fn (f:FuncId) (cap:List E)
def sy:Value->Bool
 | .int .u32 _=>true
 |_=>false
def E.nr:Nat->E->Bool
 |_,.any=>true
 |_,.v _=>true
 |_,.sl ..=>true
 |d+1,.agg l=>l.all (E.nr d)
 |d+1,.ix l=>l.all (E.nr d)
 |d+1,.fn _ l=>l.all (E.nr d)
 |_,_=>false
inductive iH(bs br:Nat->Prop)(w:World):E->Value->Prop
 |any (x:Value):iH bs br w .any x
 |v (x:Value):iH bs br w (.v x) x
 |agg (l:List E) (vs:List Value) (h:vs.length=l.length) (k:∀ (i:Nat) (p:E) (x:Value),l[i]? = some p->vs[i]? = some x->iH bs br w p x):iH bs br w (.agg l) (.agg vs.toArray)
 |ix (l:List E) (vs:List Value) (h:vs.length=l.length) (k:∀ (i:Nat) (p:E) (x:Value),l[i]? = some p->vs[i]? = some x->iH bs br w p x):iH bs br w (.ix l) (.tuple vs.toArray)
 |sl (nl:Bool) (n sz:Nat) (el:Nat->Nat->E) (A:Option Addr) (c:Nat) (f:Nat->Nat->Value) (hc:n<=c) (hm:c<=9223372036854775807) (h0:A=none->c=0)
  (hl:∀ i j,i<n->j<sz->(f i j).oneCell'=true/\(nl=true->sy (f i j)=false))
  (hr:∀ i j,i<n->j<sz->(el i j).nr 2=true)
  (cell:∀ i j,i<n->j<sz->∃ b o,A=some ⟨b,o,none⟩/\¬bs b/\b<w.heap.size/\w.cell? ⟨b,o+(i*sz+j),none⟩=some (f i j))
  (k:∀ i j,i<n->j<sz->iH bs br w (el i j) (f i j)):iH bs br w (.sl nl n sz el) (.slice A n c)
 |kz (m:Nat) (el:Nat->E) (b o:Nat) (f:Nat->Value) (hb:¬br b) (iE:b<w.heap.size) (hl:∀ j,j<m->(f j).oneCell'=true)
  (cell:∀ j,j<m->w.cell? ⟨b,o+j,none⟩=some (f j))
  (k:∀ j,j<m->iH bs br w (el j) (f j)):iH bs br w (.kz m el) (.pointer (some ⟨b,o,none⟩))
 |fn (f:FuncId) (l:List E) (vs:List Value) (h:vs.length=l.length) (k:∀ (i:Nat) (p:E) (x:Value),l[i]? = some p->vs[i]? = some x->iH bs br w p x):iH bs br w (.fn f l) (.func (.func f) #[] vs.toArray)
theorem iH.mono{bs br bs' br':Nat->Prop}{w w':World}(lO:w.heap.size<=w'.heap.size)
 (h1:∀ b,b<w.heap.size->bs' b->bs b) (h2:∀ b,b<w.heap.size->br' b->br b)
 (hc:∀ b o x,b<w.heap.size->(¬bs b\/¬br b)->w.cell? ⟨b,o,none⟩=some x->w'.cell? ⟨b,o,none⟩=some x)
 {e:E} {v:Value} (h:iH bs br w e v):iH bs' br' w' e v:=by
 induction h with
 |any x=>exact .any x
 |v x=>exact .v x
 |agg l vs h k ih=>exact .agg l vs h ih
 |ix l vs h k ih=>exact .ix l vs h ih
 |sl nl n sz el A c f hn hm h0 hl hr cell k ih=>
  refine .sl nl n sz el A c f hn hm h0 hl hr (λi j hi hj=>?_) ih;obtain⟨b,o,e,hb,iE,lq⟩:=cell i j hi hj;exact⟨b,o,e,λhx=>hb (h1 b iE hx),bF iE lO,hc b _ _ iE (.inl hb) lq⟩
 |kz m el b o f hb iE hl cell k ih=>
  exact .kz m el b o f (λhx=>hb (h2 b iE hx)) (bF iE lO) hl (λj hj=>hc b _ _ iE (.inr hb) (cell j hj)) ih
 |fn f l vs h k ih=>exact .fn f l vs h ih
theorem iH.rq{bs br bs' br':Nat->Prop}{w:World}(h1:∀ b,bs' b->bs b)(h2:∀ b,br' b->br b){e:E}{v:Value}(h:iH bs br w e v):iH bs' br' w e v:=
 h.mono (aV _) (λb _=>h1 b) (λb _=>h2 b) (λ_ _ _ _ _ h=>h)
def E.plain:Nat->E->Bool
 |_,.any=>true
 |_,.v _=>true
 |d+1,.agg l=>l.all (E.plain d)
 |d+1,.ix l=>l.all (E.plain d)
 |_,_=>false
theorem iH.plain{bs br bs' br':Nat->Prop}{w w':World}{e:E}{v:Value}(h:iH bs br w e v):∀ d,e.plain d=true->iH bs' br' w' e v:=by
 induction h with
 |any x=>exact λ_ _=>.any x
 |v x=>exact λ_ _=>.v x
 |agg l vs h k ih=>
  intro d hd;cases d with
  |zero=>simp[E.plain]at hd
  |succ d=>
   simp only[E.plain,bH]at hd;exact .agg l vs h λi p x hp hx=>ih i p x hp hx d (hd p (er hp))
 |ix l vs h k ih=>
  intro d hd;cases d with
  |zero=>simp[E.plain]at hd
  |succ d=>
   simp only[E.plain,bH]at hd;exact .ix l vs h λi p x hp hx=>ih i p x hp hx d (hd p (er hp))
 |sl=>intro d hd;cases d<;>simp[E.plain]at hd
 |kz=>intro d hd;cases d<;>simp[E.plain]at hd
 |fn=>intro d hd;cases d<;>simp[E.plain]at hd
theorem iH.nr{bs br br':Nat->Prop}{w:World}{e:E}{v:Value}(h:iH bs br w e v):∀ d,e.nr d=true->iH bs br' w e v:=by
 induction h with
 |any x=>exact λ_ _=>.any x
 |v x=>exact λ_ _=>.v x
 |agg l vs h k ih=>
  intro d hd;cases d with
  |zero=>simp[E.nr]at hd
  |succ d=>
   simp only[E.nr,bH]at hd;exact .agg l vs h λi p x hp hx=>ih i p x hp hx d (hd p (er hp))
 |ix l vs h k ih=>
  intro d hd;cases d with
  |zero=>simp[E.nr]at hd
  |succ d=>
   simp only[E.nr,bH]at hd;exact .ix l vs h λi p x hp hx=>ih i p x hp hx d (hd p (er hp))
 |fn f l vs h k ih=>
  intro d hd;cases d with
  |zero=>simp[E.nr]at hd
  |succ d=>
   simp only[E.nr,bH]at hd;exact .fn f l vs h λi p x hp hx=>ih i p x hp hx d (hd p (er hp))
 |kz=>intro d hd;cases d<;>simp[E.nr]at hd
 |sl nl n sz el A c f hn hm h0 hl hr cell k ih=>
  exact λ_ _=>.sl nl n sz el A c f hn hm h0 hl hr cell λi j hi hj=>ih i j hi hj 2 (hr i j hi hj)
def E.one:E->Bool
 | .v x=>x.oneCell'
 | .sl ..=>true
 | .kz ..=>true
 | .fn ..=>true
 |_=>false
def E.nx:E->Bool
 | .v x=>!sy x
 | .sl ..=>true
 | .kz ..=>true
 | .fn ..=>true
 |_=>false
theorem iH.one{bs br:Nat->Prop}{w:World}{e:E}{v:Value}(h:iH bs br w e v)(h1:e.one=true):v.oneCell'=true:=by
 cases h<;>first|exact h1|rfl|(simp[E.one]at h1)
theorem iH.nx{bs br:Nat->Prop}{w:World}{e:E}{v:Value}(h:iH bs br w e v)(h1:e.nx=true):sy v=false:=by
 cases h with
 |v=>unfold E.nx at h1;cases hb:sy v<;>simp_all
 |any=>cases h1
 |agg=>cases h1
 |ix=>cases h1
 |sl=>rfl
 |kz=>rfl
 |fn=>rfl
structure ku(bs br:Nat->Prop)(w:World)(l:List E)(vs:List Value):Prop where
 len:vs.length=l.length
 lr:∀ (i:Nat) (p:E) (x:Value),l[i]? = some p->vs[i]? = some x->iH bs br w p x
theorem ku.nil(bs br:Nat->Prop)(w:World):ku bs br w [] []:=⟨rfl,λi p x h=>by simp at h⟩
theorem ku.cons{bs br:Nat->Prop}{w:World}{p:E}{x:Value}{l:List E}{vs:List Value}(h:iH bs br w p x)(k:ku bs br w l vs):ku bs br w (p::l) (x::vs):=
 ⟨by simp[k.len],λi q y hq hy=>by
  cases i with
  |zero=>simp at hq hy;subst hq hy;exact h
  |succ i=>simp at hq hy;exact k.lr i q y hq hy⟩
theorem ku.head{bs br:Nat->Prop}{w:World}{p:E}{x:Value}{l:List E}{vs:List Value}(h:ku bs br w (p::l) (x::vs)):iH bs br w p x:=h.lr 0 p x rfl rfl
theorem ku.tail{bs br:Nat->Prop}{w:World}{p:E}{x:Value}{l:List E}{vs:List Value}(h:ku bs br w (p::l) (x::vs)):ku bs br w l vs:=
 ⟨by have:=h.len;simpa using this,λi q y hq hy=>h.lr (i+1) q y (by simpa using hq) (by simpa using hy)⟩
theorem ku.mg{bs br:Nat->Prop}{w:World}{p:E}{l:List E}{vs:List Value}(h:ku bs br w (p::l) vs):∃ x ys,vs=x::ys/\iH bs br w p x/\ku bs br w l ys:=by
 cases vs with
 |nil=>have:=h.len;simp at this
 |cons x ys=>exact⟨x,ys,rfl,h.head,h.tail⟩
theorem ku.qk{bs br:Nat->Prop}{w:World}{vs:List Value}(h:ku bs br w [] vs):vs=[]:=df h.len
theorem ku.mono{bs br bs' br':Nat->Prop}{w w':World}{l:List E}{vs:List Value}(h:ku bs br w l vs)(k:∀ e v,iH bs br w e v->iH bs' br' w' e v):ku bs' br' w' l vs:=
 ⟨h.len,λi p x hp hx=>k _ _ (h.lr i p x hp hx)⟩
theorem ku.take{bs br:Nat->Prop}{w:World}{l:List E}{vs:List Value}(h:ku bs br w l vs)(n:Nat):ku bs br w (l.take n) (vs.take n):=
 ⟨by simp[h.len],λi p x hp hx=>by
  rw[dY]at hp hx;split at hp
  .rename_i hi;rw[aS hi]at hx;exact h.lr i p x hp hx
  .cases hp⟩
theorem ku.drop{bs br:Nat->Prop}{w:World}{l:List E}{vs:List Value}(h:ku bs br w l vs)(n:Nat):ku bs br w (l.drop n) (vs.drop n):=
 ⟨by simp[h.len],λi p x hp hx=>by
  rw[et]at hp hx;exact h.lr _ p x hp hx⟩
theorem ku.app{bs br:Nat->Prop}{w:World}{l m:List E}{vs us:List Value}(h:ku bs br w l vs)(k:ku bs br w m us):ku bs br w (l++m) (vs++us):=
 ⟨by simp[h.len,k.len],λi p x hp hx=>by
  rw[fD]at hp hx;rw[h.len]at hx;split at hp
  .rename_i hi;rw[aS hi]at hx;exact h.lr i p x hp hx
  .rename_i hi;rw[aR hi]at hx;exact k.lr _ p x hp hx⟩
theorem ku.ab5(bs br:Nat->Prop)(w:World)(vs:List Value):ku bs br w (vs.map .v) vs:=
 ⟨aj,λi p x hp hx=>by
  rw[cj,hx]at hp;simp at hp;subst hp;exact .v x⟩
theorem iH.CA{bs br:Nat->Prop}{w:World}{l:List E}{v:Value}(h:iH bs br w (.agg l) v):∃ vs:List Value,v = .agg vs.toArray/\ku bs br w l vs:=by
 cases h with
 |agg _ vs h k=>exact⟨vs,rfl,h,k⟩
theorem iH.YW{bs br:Nat->Prop}{w:World}{l:List E}{v:Value}(h:iH bs br w (.ix l) v):∃ vs:List Value,v = .tuple vs.toArray/\ku bs br w l vs:=by
 cases h with
 |ix _ vs h k=>exact⟨vs,rfl,h,k⟩
theorem iH.kP{bs br:Nat->Prop}{w:World}{x v:Value}(h:iH bs br w (.v x) v):v=x:=by cases h;rfl
theorem iH.Ss{bs br:Nat->Prop}{w:World}{f:FuncId}{l:List E}{v:Value}(h:iH bs br w (.fn f l) v):∃ vs:List Value,v = .func (.func f) #[] vs.toArray/\ku bs br w l vs:=by
 cases h with
 |fn _ _ vs h k=>exact⟨vs,rfl,h,k⟩
theorem ku.agg{bs br:Nat->Prop}{w:World}{l:List E}{vs:List Value}(h:ku bs br w l vs):iH bs br w (.agg l) (.agg vs.toArray):=.agg l vs h.len h.lr
theorem ku.ix{bs br:Nat->Prop}{w:World}{l:List E}{vs:List Value}(h:ku bs br w l vs):iH bs br w (.ix l) (.tuple vs.toArray):=.ix l vs h.len h.lr
def E.cells?:E->Option (List E)
 | .agg l=>if l.all E.one then some l else none
 | .v (.agg cs)=>if cs.toList.all Value.oneCell' then some (cs.toList.map .v)else none
 | .v x=>if x.oneCell' then some [.v x]else none
 | .sl nl n sz el=>some [.sl nl n sz el]
 | .kz m el=>some [.kz m el]
 | .fn f c=>some [.fn f c]
 |_=>none
theorem iH.cells{bs br:Nat->Prop}{w:World}{e:E}{v:Value}(h:iH bs br w e v){l:List E}(hl:e.cells? = some l):
 ku bs br w l v.cells.toList/\∀ u ∈ v.cells.toList,u.oneCell'=true:=by
 have single:∀ {e:E} {v:Value},iH bs br w e v->v.oneCell'=true->v.cells = #[v]->ku bs br w [e] v.cells.toList/\∀ u ∈ v.cells.toList,u.oneCell'=true:=by
  intro e v h h1 hc;rw[hc];exact⟨.cons h (.nil _ _ _),by simpa using h1⟩
 cases h with
 |any x=>simp[E.cells?]at hl
 |v=>
  by_cases ha:∃ cs,v = .agg cs
  .obtain ⟨cs,rfl⟩:=ha
   simp only[E.cells?]at hl;split at hl
   .rename_i h1
    cases hl;exact⟨ku.ab5 _ _ _ _,λu hu=>bH.1 h1 u hu⟩
   .cases hl
  .have hx:(E.v v).cells? = if v.oneCell' then some [.v v]else none:=by
    cases v<;>first|rfl|exact absurd ⟨_,rfl⟩ ha
   rw[hx]at hl;split at hl
   .rename_i h1
    cases hl;exact single (.v v) h1 (by cases v<;>first|rfl|exact absurd ⟨_,rfl⟩ ha)
   .cases hl
 |agg l vs h k=>
  simp only[E.cells?]at hl;split at hl
  .rename_i h1
   cases hl;refine⟨⟨h,k⟩,?_⟩;intro u hu;obtain⟨i,hi⟩:=dg.1 hu;have EZ:i<l.length:=by
    obtain⟨hi,_⟩:=bZ.1 hi;simp[Value.cells]at hi;omega
   exact(k i _ u (bg EZ) (by simpa[Value.cells]using hi)).one (bH.1 h1 _ (cz EZ))
  .cases hl
 |ix=>simp[E.cells?]at hl
 |sl nl n sz el A c f hc hm h0 pM hr cell k=>simp only[E.cells?]at hl;cases hl;exact single (.sl nl n sz el A c f hc hm h0 pM hr cell k) rfl rfl
 |kz m el b o f hb iE pM cell k=>simp only[E.cells?]at hl;cases hl;exact single (.kz m el b o f hb iE pM cell k) rfl rfl
 |fn f l' vs h k=>simp only[E.cells?]at hl;cases hl;exact single (.fn f l' vs h k) rfl rfl
structure TI where
 id:TypeId
 d:TypeDesc
 i:TypeInfo
def mJ(P:Program)(T:List TI):Prop:=∀ x,x ∈ T->P.underlying x.id=some x.d/\P.info? x.id=some x.i
def mX:List TI->TypeId->Option TI
 | [],_=>none
 |x::l,t=>if Nat.beq x.id t then some x else mX l t
def yI(T:List TI)(t:TypeId):Option TypeDesc:=match mX T t with
 |some x=>some x.d
 |none=>none
def TI.isAgg(x:TI):Bool:=match x.d with
 | .struct _ | .array _ _=>true
 |_=>false
inductive CV where
 |e (x:E)
 |box (id:Nat)
inductive PV where
 |e (x:E)
 |box (id off:Nat)
 |own (id:Nat)
 |ql (id sz i j:Nat)
 |jz (id k:Nat)
 |tu (f:FuncId) (cap:List CV)
def CV.qQ:CV->List Nat
 | .e _=>[]
 | .box id=>[id]
def PV.qQ:PV->List Nat
 | .e _=>[]
 | .box id _ | .own id | .ql id _ _ _ | .jz id _=>[id]
 | .tu _ cap=>cap.flatMap CV.qQ
inductive Bx where
 |cells (T:TypeId) (l:List E)
 |row (nl:Bool) (T:TypeId) (n sz:Nat) (el:Nat->Nat->E)
 |qm (nl:Bool) (T1 T0:TypeId) (n sz:Nat) (len:Nat->Nat) (el:Nat->Nat->Nat->E) (pend:Option Nat)
def Bx.nl:Bx->Bool
 | .cells _ l=>l.all E.nx
 | .row nl ..=>nl
 | .qm nl ..=>nl
structure PS where
 n:Nat
 nl:Bool
 t:List (Nat×PV)
 b:List (Nat×Bx)
def look{α:Type}:List (Nat×α)->Nat->Option α
 | [],_=>none
 | (k,x)::l,t=>if Nat.beq k t then some x else look l t
def PS.get(σ:PS)(t:Nat):PV:=(look σ.t t).getD (.e .any)
def PS.bo(σ:PS)(id:Nat):Option Bx:=look σ.b id
def PS.op(σ:PS):Operand->PV
 | .tmp t=>σ.get t
 | .const v=>.e (.v v)
 | .global g=>.e (.v (.pointer (some ⟨g,0,none⟩)))
 | .func f=>.e (.fn f [])
inductive ru where
 |none
 |new (id:Nat) (b:Bx)
 |uT (id:Nat) (b:Bx)
 |rB (id:Nat) (b:Bx)
 |wG (id:Nat) (b:Bx)
 |fin (id:Nat)
structure kQ where
 r:PV
 f:ru:=.none
 rb:List Nat:=[]
 jY:List Prop:=[]
 rd:List PV:=[]
def PV.pF:ru->PV->PV
 | .rB id _,.own i=>if Nat.beq i id then .e .any else .own i
 | .rB id _,.ql i s x j=>if Nat.beq i id then .e .any else .ql i s x j
 | .wG id _,.jz i k=>if Nat.beq i id then .e .any else .jz i k
 | .fin id,p=>if p.qQ.any (Nat.beq id)then .e .any else p
 |_,p=>p
def D2(l:List (Nat×Bx))(id:Nat)(b:Bx):List (Nat×Bx):=(id,b)::l.filter λx=>!Nat.beq x.1 id
def ru.KS:ru->List (Nat×Bx)->List (Nat×Bx)
 | .none,l=>l
 | .new id b,l | .uT id b,l | .rB id b,l | .wG id b,l=>D2 l id b
 | .fin id,l=>l.filter λx=>!Nat.beq x.1 id
def ru.Kp:ru->Bool
 | .rB .. | .wG .. | .fin ..=>true
 |_=>false
def PS.qW(σ:PS)(f:ru):PS:={ σ with t:=if f.Kp then σ.t.map λx=>(x.1,x.2.pF f)else σ.t,b:=f.KS σ.b }
def PS.put(σ:PS)(d:Option Tmp)(p:PV):PS:=match d with
 |some d=>{ σ with t:=(d,p)::σ.t.filter λx=>!Nat.beq x.1 d }
 |none=>σ
def ky:IntKind->Int->Prop
 | .i8,z=>-128<=z/\z<=127
 | .i16,z=>-32768<=z/\z<=32767
 | .i32,z=>-2147483648<=z/\z<=2147483647
 | .i64,z=>-9223372036854775808<=z/\z<=9223372036854775807
 | .u8,z=>0<=z/\z<=255
 | .u16,z=>0<=z/\z<=65535
 | .u32,z=>0<=z/\z<=4294967295
 | .u64,z=>0<=z/\z<=18446744073709551615
def XP(op:BinOp)(k k':IntKind):Bool:=match op with
 | .shl=>true
 | .shr=>true
 |_=>decide (k=k')
def KE(k:IntKind)(x y:Int):Int:=match k with
 | .u32=>IntKind.u32.wrap (x+y)
 |_=>x+y
def PQ(k:IntKind)(x y:Int):List Prop:=match k with
 | .u32=>[]
 |_=>[ky k (x+y)]
def Lw(op:BinOp)(k:IntKind)(x:Int)(y:Int):Option (Value×List Prop):=match op with
 | .add=>some (.int k (KE k x y),PQ k x y)
 | .sub=>some (.int k (x-y),[ky k (x-y)])
 | .mul=>some (.int k (x*y),[ky k (x*y)])
 | .quo=>some (.int k (x.tdiv y),[0<y,ky k x])
 | .rem=>some (.int k (x.tmod y),[0<y])
 | .and=>some (.int k (bits .and k x y),[])
 | .or=>some (.int k (bits .or k x y),[])
 | .shl=>some (.int k (k.wrap (x*2^y.toNat)),[0<=y/\y<=k.bits])
 | .shr=>some (.int k (x/2^y.toNat),[0<=y/\y<=k.bits])
 | .eql=>some (.bool (x==y),[])
 | .neq=>some (.bool (x != y),[])
 | .lss=>some (.bool (decide (x<y)),[])
 | .leq=>some (.bool (decide (x<=y)),[])
 | .gtr=>some (.bool (decide (y<x)),[])
 | .geq=>some (.bool (decide (y<=x)),[])
 |_=>none
def PS.read(σ:PS)(p:PV)(m:Nat):Option (List E×List Nat×List Prop):=match p with
 | .box id off=>match σ.bo id with
  |some (.cells _ l)=>if Nat.ble (off+m) l.length then some ((l.drop off).take m,[id],[])else none
  |_=>none
 | .ql id sz i j=>match σ.bo id with
  |some (.row _ _ n s el)=>if Nat.beq s sz&&Nat.ble (j+m) sz then some ((List.range m).map λq=>el i (j+q),[id],[i<n])else none
  |_=>none
 | .e (.kz k el)=>if Nat.ble m k then some ((List.range m).map el,[],[])else none
 |_=>none
def CV.ext(σ:PS):CV->Option (E×List Nat)
 | .e x=>some (x,[])
 | .box id=>match σ.bo id with
  |some (.cells _ l)=>some (.kz l.length λj=>l.getD j .any,[id])
  |_=>none
def xx(σ:PS):List CV->Option (List E×List Nat)
 | []=>some ([],[])
 |c::l=>match c.ext σ,xx σ l with
  |some (x,i),some (xs,is)=>some (x::xs,i++is)
  |_,_=>none
def PV.BR:PV->Bool
 | .own _=>true
 |_=>false
def PV.ext(σ:PS):PV->Option (E×List Nat)
 | .e x=>some (x,[])
 | .own id=>match σ.bo id with
  |some (.row nl _ n sz el)=>some (.sl nl n sz el,[id])
  |_=>none
 | .box id 0=>match σ.bo id with
  |some (.cells _ l)=>some (.kz l.length λj=>l.getD j .any,[id])
  |_=>none
 | .tu f cap=>match xx σ cap with
  |some (xs,is)=>some (.fn f xs,is)
  |none=>none
 |_=>none
def uZ(σ:PS):List Operand->Option (List E×List Nat)
 | []=>some ([],[])
 |o::l=>match(σ.op o).ext σ,uZ σ l with
  |some (x,i),some (xs,is)=>some (x::xs,i++is)
  |_,_=>none
def yG:List PV->Option (List CV)
 | []=>some []
 | .e x::l=>(yG l).map (.e x :: ·)
 | .box id 0::l=>(yG l).map (.box id :: ·)
 |_::_=>none
def oR(w:World)(b:Nat):Prop:=∀ o x,w.cell? ⟨b,o,none⟩≠some (.int .u32 x)
structure PC(P:Program)(K:World->Prop)(f:FuncId)(args:List E)(jZ:E):Prop where
 call:∀ (vs:Array Value) (w:World),(callFunc f vs).run P w = .ok (.enter f vs) w
 run:∀ (w:World) (B:Nat->Prop) (vs:List Value),K w->(∀ b,B b->b<w.heap.size/\oR w b)->ku B (λ_=>False) w args vs ->
  Calls P f vs.toArray w (λe w'=>∃ v,e = .returned v/\Below w.heap.size w w'/\iH B (λ_=>True) w' jZ v)
structure Be(P:Program)(K:World->Prop)(f:FuncId)(args:List E)(jZ:E):Prop where
 call:∀ (vs:Array Value) (w:World),(callFunc f vs).run P w = .ok (.enter f vs) w
 run:∀ (w:World) (B:Nat->Prop) (vs:List Value),K w->(∀ b,B b->b<w.heap.size)->ku B (λ_=>False) w args vs ->
  Calls P f vs.toArray w (λe w'=>∃ v,e = .returned v/\Below w.heap.size w w'/\iH B (λ_=>True) w' jZ v)
theorem Be.pc{P:Program}{K:World->Prop}{f:FuncId}{args:List E}{jZ:E}(h:Be P K f args jZ):PC P K f args jZ:=
 ⟨h.call,λw B vs hK hB hr=>h.run w B vs hK (λb hb=>(hB b hb).1) hr⟩
def qH(w:World)(v:Value)(T:TypeId)(n sz:Nat)(f:Nat->Nat->Value)(nl:Bool):Prop:=
 (v = .slice none 0 0/\n=0) \/
 ∃ (b c:Nat) (cur:Array Value),v = .slice (some ⟨b,0,none⟩) n c/\w.heap[b]? = some (.cells cur T (0,0))/\n<=c/\c<=maxLen/\cur.size=c*sz /\
  (∀ i j,i<n->j<sz->cur[i*sz+j]? = some (f i j)/\(f i j).oneCell'=true)/\(nl=true->∀ u,u ∈ cur->sy u=false)
structure tc(P:Program)(K:World->Prop)(f:FuncId)(args:List E)(nl:Bool)(T:TypeId)(n sz:Nat)(el:Nat->Nat->E):Prop where
 call:∀ (vs:Array Value) (w:World),(callFunc f vs).run P w = .ok (.enter f vs) w
 run:∀ (w:World) (B:Nat->Prop) (vs:List Value),K w->(∀ b,B b->b<w.heap.size/\oR w b)->ku B (λ_=>False) w args vs ->
  Calls P f vs.toArray w (λe w'=>∃ v,e = .returned v/\Below w.heap.size w w'/\∃ g,qH w' v T n sz g nl/\(∀ x,v.ownBlock=some x->w.heap.size<=x/\x<w'.heap.size) /\
   ∀ i j,i<n->j<sz->iH (λb=>B b\/v.ownBlock=some b) (λ_=>True) w' (el i j) (g i j)/\(el i j).nr 2=true)
structure qG where
 cl:List (Nat×E):=[]
 ov:List (Nat×PV):=[]
 nw:List (Nat×Bx):=[]
def F3(T:List TI):List Field->Option (List (Nat×Nat))
 | []=>some []
 |f::fs=>match mX T f.type,F3 T fs with
  |some ti,some l=>some ((f.offset,ti.i.size)::l)
  |_,_=>none
def AT(l:List E)(off:Nat)(m:List E):List E:=l.take off++m++l.drop (off+m.length)
def rO(σ:PS)(place:Nat->Option (Nat×Nat)):List E->List (Nat×Operand)->Option (List E)
 |l,[]=>some l
 |l,(i,x)::ps=>match place i,σ.op x with
  |some (off,size),.e e=>match e.cells? with
   |some m=>if Nat.beq m.length size&&Nat.ble (off+m.length) l.length then rO σ place (AT l off m) ps else none
   |none=>none
  |_,_=>none
def zW(ti:TI):Option (List E):=match ti.i.zero with
 |some z=>(E.v z).cells?
 |none=>none
def lr{α:Type}:Nat->List α->List α
 | 0,_=>[]
 |n+1,l=>l++lr n l
def pG(P:Program)(op:BinOp)(t:TypeId)(x y:E)(v:Value):Prop:=∀ (bs br:Nat->Prop) (w:World) (a b:Value) (ox oy:Operand),iH bs br w x a->iH bs br w y b->(eqGuard op t ox oy a b).run P w = .ok () w/\(binOp op t a b).run P w = .ok v w
def aeo(O:qG)(d:Option Tmp):Option Value:=match d with
 |some d=>match look O.cl d with
  |some (.v v)=>some v
  |_=>none
 |none=>none
def Ak(P:Program)(K:World->Prop)(O:qG)(σ:PS)(d:Option Tmp)(f:FuncId)(xs:List E)(is:List Nat)(ow:Bool):Option kQ:=
 match(match d with
  |some d=>look O.cl d
  |none=>some .any)with
 |some jZ=>if jZ.plain 3||(σ.nl && !ow)then some { r:=.e jZ,rb:=is,jY:=[PC P K f xs jZ] }else if !ow then some { r:=.e jZ,rb:=is,jY:=[Be P K f xs jZ] }else none
 |none=>match d with
  |some d=>match look O.nw d,σ.bo d with
   |some (.row nl T n sz el),none=>if(σ.nl&&nl) && !ow then some { r:=.own d,f:=.new d (.row nl T n sz el),rb:=is,jY:=[tc P K f xs nl T n sz el] }else none
   |_,_=>none
  |none=>none
def xg(σ:PS)(d:Option Tmp)(b:Bx)(r:Nat->PV)(jY:List Prop):Option kQ:=match d with
 |some d=>match σ.bo d with
  |none=>if !σ.nl||b.nl then some { r:=r d,f:=.new d b,jY:=jY }else none
  |some _=>none
 |none=>none
def Aj(T:List TI)(σ:PS)(d:Option Tmp)(t:TypeId)(s x:PV):Option kQ:=match x with
 | .e (.sl nl2 m sz2 el2)=>match mX T t with
  |some tt=>match tt.d with
   | .slice e=>match mX T e with
    |some te=>match zW te with
     |some z=>if Nat.beq te.i.size sz2&&Nat.ble 1 sz2&&Nat.ble 1 te.i.bytes&&Nat.beq z.length sz2 then match s with
      | .own id=>match σ.bo id with
       |some (.row nl T1 n sz el)=>if Nat.beq T1 e&&Nat.beq sz sz2&&(!σ.nl||(nl&&(nl2&&z.all E.nx)))then
        some { r:=.own id,f:=.rB id (.row (nl&&(nl2&&z.all E.nx)) T1 (n+m) sz λi j=>if i<n then el i j else el2 (i-n) j),rb:=[id],jY:=[(n+m)*te.i.bytes<=140737488355328] }
        else none
       |_=>none
      | .jz id k=>match σ.bo id with
       |some (.qm nl T1 T0 n sz len el none)=>if Nat.beq T0 e&&Nat.beq sz sz2&&(!nl||(nl2&&z.all E.nx))then
        some { r:=.jz id k,f:=.wG id (.qm nl T1 T0 n sz (λq=>if q=k then len q+m else len q) (λq i j=>if q=k then(if i<len q then el q i j else el2 (i-len q) j)else el q i j) (some k)),rb:=[id],jY:=[k<n,(len k+m)*te.i.bytes<=140737488355328] }
        else none
       |_=>none
      | .e (.v (.slice none 0 0))=>xg σ d (.row (nl2&&z.all E.nx) e m sz2 el2) .own [m*te.i.bytes<=140737488355328]
      |_=>none
     else none
     |none=>none
    |none=>none
   |_=>none
  |none=>none
 |_=>none
def Bs(T:List TI)(σ:PS)(d:Option Tmp)(t:TypeId)(s x:PV):Option kQ:=match Aj T { σ with nl:=false } d t s x with
 |some u=>match u.f,u.r with
  | .rB id (.row nl _ n sz el),.own id'=>if Nat.beq id' id then some { r:=.e (.sl nl n sz el),f:=.fin id,rb:=u.rb,jY:=True::u.jY }else none
  |_,_=>none
 |none=>none
def R9(T:List TI)(t:TypeId)(l c:PV):Option (Bx×List Prop):=match l,c with
 | .e (.v (.int _ l)),.e (.v (.int _ c))=>match mX T t with
  |some tt=>match tt.d with
   | .slice e=>match mX T e with
    |some te=>match zW te with
     |some z=>if Nat.beq te.i.size z.length&&Nat.ble 1 te.i.size then
      let jY:=[0<=l/\l<=c,(te.i.bytes:Int)*c<=281474976710656/\c<=9223372036854775807]
      match te.d with
      | .slice e0=>match mX T e0,z with
       |some t0,[.v (.slice none 0 0)]=>some (.qm true e e0 l.toNat t0.i.size (λ_=>0) (λ_ _ _=>.any) none,jY)
       |_,_=>none
      |_=>some (.row (z.all E.nx) e l.toNat te.i.size (λ_ j=>z.getD j .any),jY)
      else none
     |none=>none
    |none=>none
   |_=>none
  |none=>none
 |_,_=>none
def Ic(T:List TI)(σ:PS)(d:Option Tmp)(t:TypeId)(l c:PV):Option kQ:=match R9 T t l c with
 |some (b,jY)=>xg σ d b .own jY
 |none=>none
def Ie(T:List TI)(t:TypeId)(x:PV)(lo hi:Option PV):Option kQ:=match x with
 | .e (.sl nl n sz el)=>match mX T t with
  |some tt=>match tt.d with
   | .slice e=>match mX T e with
    |some te=>if Nat.beq te.i.size sz then match lo,hi with
     |none,some (.e (.v (.int _ h)))=>some { r:=.e (.sl nl h.toNat sz el),jY:=[0<=h/\h<=n] }
     |some (.e (.v (.int _ l))),none=>some { r:=.e (.sl nl (n-l.toNat) sz λi j=>el (l.toNat+i) j),jY:=[0<=l/\l<=n] }
     |some (.e (.v (.int _ l))),some (.e (.v (.int _ h)))=>some { r:=.e (.sl nl (h.toNat-l.toNat) sz λi j=>el (l.toNat+i) j),jY:=[0<=l/\l<=h/\h<=n] }
     |_,_=>none
     else none
    |none=>none
   |_=>none
  |none=>none
 |_=>none
def Ia(T:List TI)(σ:PS)(t:TypeId)(x i:PV):Option kQ:=match i with
 | .e (.v (.int _ z))=>match mX T t with
  |some tt=>match tt.d with
   | .slice e=>match mX T e with
    |some te=>match x with
     | .e (.sl _ n sz el)=>if Nat.beq te.i.size sz&&Nat.ble 1 sz then some { r:=.e (.kz sz (el z.toNat)),jY:=[0<=z/\z<n] }else none
     | .own id=>match σ.bo id with
      |some (.row _ _ n sz _)=>if Nat.beq te.i.size sz then some { r:=.ql id sz z.toNat 0,rb:=[id],jY:=[0<=z/\z<n] }else none
      |some (.qm _ _ _ n _ _ _ _)=>if Nat.beq te.i.size 1 then some { r:=.ql id 1 z.toNat 0,rb:=[id],jY:=[0<=z/\z<n] }else none
      |_=>none
     |_=>none
    |none=>none
   | .array n e=>match mX T e with
    |some te=>match x with
     | .box id off=>some { r:=.box id (off+z.toNat*te.i.size),jY:=[0<=z/\z<n] }
     | .e (.kz m el)=>if Nat.beq (n*te.i.size) m then some { r:=.e (.kz te.i.size λj=>el (z.toNat*te.i.size+j)),jY:=[0<=z/\z<n] }else none
     |_=>none
    |none=>none
   |_=>none
  |none=>none
 |_=>none
def Ig(T:List TI)(σ:PS)(t:TypeId)(a x:PV):Option kQ:=match mX T t with
 |some ti=>match a,x with
  | .box id off,.e e=>match σ.bo id,e.cells? with
   |some (.cells T1 l),some m=>if Nat.beq m.length ti.i.size&&Nat.ble (off+m.length) l.length&&(!σ.nl||m.all E.nx)then
    some { r:=.e .any,f:=.uT id (.cells T1 (AT l off m)),rb:=[id] }else none
   |_,_=>none
  | .ql id sz i j,.e e=>match σ.bo id,e.cells? with
   |some (.row nl T1 n s el),some m=>if Nat.beq m.length ti.i.size&&Nat.beq s sz&&Nat.ble (j+m.length) sz&&(!nl||m.all E.nx)&&m.all (E.nr 2)then
    some { r:=.e .any,f:=.uT id (.row nl T1 n s λi' j'=>if i'=i/\j<=j'/\j'<j+m.length then m.getD (j'-j) .any else el i' j'),rb:=[id],jY:=[i<n] }else none
   |_,_=>none
  | .ql id 1 i 0,.jz id' k=>match σ.bo id with
   |some (.qm nl T1 T0 n sz len el (some k'))=>if Nat.beq id id'&&Nat.beq ti.i.size 1 then
    some { r:=.e .any,f:=.uT id (.qm nl T1 T0 n sz len el none),rb:=[id],jY:=[i=k',k=k',k'<n] }else none
   |_=>none
  |_,_=>none
 |none=>none
def vg:PV->PS->Option (Value×List Nat)
 | .e (.sl _ n _ _),_=>some (.int .i64 (n:Int),[])
 | .e (.v (.slice _ n _)),_=>some (.int .i64 (n:Int),[])
 | .own id,σ=>match σ.bo id with
  |some (.row _ _ n _ _)=>some (.int .i64 (n:Int),[id])
  |some (.qm _ _ _ n _ _ _ _)=>some (.int .i64 (n:Int),[id])
  |_=>none
 |_,_=>none
def FC(ti:TI):Option (List E×List Nat×List Prop)->Option kQ
 |some (l,is,jY)=>if ti.isAgg then some { r:=.e (.agg l),rb:=is,jY:=jY }else match l with
  | [e]=>some { r:=.e e,rb:=is,jY:=jY }
  |_=>none
 |none=>none
def Cg(σ:PS):PV->Option (Nat×Nat×Nat)
 | .ql id sz i j=>match σ.bo id with
  |some (.qm _ _ _ n _ _ _ none)=>if Nat.beq sz 1&&Nat.beq j 0 then some (id,i,n)else none
  |_=>none
 |_=>none
def Ib(T:List TI)(σ:PS)(t:TypeId)(p:PV):Option kQ:=match mX T t with
 |some ti=>match Cg σ p with
  |some (id,i,n)=>if ti.isAgg then none else some { r:=.jz id i,rb:=[id],jY:=[i<n] }
  |none=>FC ti (σ.read p ti.i.size)
 |none=>none
def G3(O:qG):Option Tmp->Bool
 |some d=>(look O.nw d).isSome
 |none=>false
def jN(P:Program)(K:World->Prop)(T:List TI)(O:qG)(σ:PS)(o:Oper):Option kQ:=match o.op with
 | .move x=>some { r:=σ.op x }
 | .assign x=>some { r:=σ.op x }
 | .pick c a b=>match σ.op c with
  | .e (.v (.bool true))=>some { r:=σ.op a }
  | .e (.v (.bool false))=>some { r:=σ.op b }
  |_=>none
 | .alloc t=>match mX T t with
  |some ti=>match zW ti with
   |some z=>xg σ o.dst (.cells t z) (.box · 0) []
   |none=>none
  |none=>none
 | .box t x=>match σ.op x with
  | .e e=>match e.cells? with
   |some l=>xg σ o.dst (.cells t l) (.box · 0) []
   |none=>none
  |_=>none
 | .build t ps=>match mX T t with
  |some ti=>match zW ti with
   |some z=>match ti.d with
    | .struct fs=>match F3 T fs.toList with
     |some pl=>(rO σ (λi=>pl[i]?) z ps.toList).map λl=>{ r:=.e (.agg l) }
     |none=>none
    | .array _ e=>match mX T e with
     |some te=>(rO σ (λi=>some (i*te.i.size,te.i.size)) z ps.toList).map λl=>{ r:=.e (.agg l) }
     |none=>none
    |_=>none
   |none=>none
  |none=>none
 | .buildSlice t n ps=>match mX T t with
  |some tt=>match tt.d with
   | .slice e=>match mX T e with
    |some te=>match zW te with
     |some z=>if Nat.beq z.length te.i.size&&Nat.ble 1 te.i.size&&Nat.ble (n*te.i.size) 16777216 then
      (rO σ (λi=>some (i*te.i.size,te.i.size)) (lr n z) ps.toList).bind λl=>
       if !(l.all (E.nr 2))then none else if G3 O o.dst then xg σ o.dst (.row (l.all E.nx) e n te.i.size λi j=>l.getD (i*te.i.size+j) (.v (.bool false))) .own [True]
       else if l.all E.nx then some { r:=.e (.sl true n te.i.size λi j=>l.getD (i*te.i.size+j) (.v (.bool false))) }
       else some { r:=.e (.sl false n te.i.size λi j=>l.getD (i*te.i.size+j) (.v (.bool false))) }
      else none
     |none=>none
    |none=>none
   |_=>none
  |none=>none
 | .load t a=>Ib T σ t (σ.op a)
 | .store t a x=>Ig T σ t (σ.op a) (σ.op x)
 | .nilCheck x=>match σ.op x with
  | .box id off=>some { r:=.box id off }
  | .e (.kz m el)=>some { r:=.e (.kz m el) }
  | .e (.fn f c)=>some { r:=.e (.fn f c) }
  | .tu f c=>some { r:=.tu f c }
  |_=>none
 | .binOp op t x y _=>match σ.op x,σ.op y with
  | .e (.v (.int k a)),.e (.v (.int k' b))=>
   if XP op k k' then(Lw op k a b).map λr=>{ r:=.e (.v r.1),jY:=r.2 }else none
  | .e (.v (.bool a)),.e (.v (.bool b))=>match yI T t with
   |some .bool=>match op with
    | .eql=>some { r:=.e (.v (.bool (a==b))) }
    | .neq=>some { r:=.e (.v (.bool (!(a==b)))) }
    |_=>none
   |_=>none
  | .e (.sl _ n _ _),.e (.v (.slice none 0 0))=>match yI T t with
   |some (.slice _)=>match op with
    | .eql=>some { r:=.e (.v (.bool false)),jY:=[0<n] }
    | .neq=>some { r:=.e (.v (.bool true)),jY:=[0<n] }
    |_=>none
   |_=>none
  | .e a,.e b=>match aeo O o.dst with
   |some v=>some { r:=.e (.v v),jY:=[pG P op t a b v] }
   |none=>none
  |_,_=>none
 | .unOp op _ x=>match op,σ.op x with
  | .not,.e (.v (.bool b))=>some { r:=.e (.v (.bool (!b))) }
  | .neg,.e (.v (.int k z))=>some { r:=.e (.v (.int k (0-z))),jY:=[ky k (0-z)] }
  |_,_=>none
 | .convert src dst x=>match yI T dst,mX T src,σ.op x with
  |some (.int k),some _,.e (.v (.int _ z))=>some { r:=.e (.v (.int k (k.wrap z))) }
  |_,_,_=>none
 | .makeFunc (.func f) first cap=>if first.isEmpty then match yG (cap.toList.map σ.op)with
  |some l=>some { r:=.tu f l }
  |none=>none
  else none
 | .makeSlice t l c=>Ic T σ o.dst t (σ.op l) (σ.op c)
 | .slice t x lo hi none=>Ie T t (σ.op x) (lo.map σ.op) (hi.map σ.op)
 | .fieldAddr t x f=>match yI T t with
  |some (.struct fs)=>match fs[f]? with
   |some fd=>match mX T fd.type with
    |some ft=>if Nat.beq ft.i.size 0 then none else match σ.op x with
     | .box id off=>some { r:=.box id (off+fd.offset) }
     | .ql id sz i j=>some { r:=.ql id sz i (j+fd.offset) }
     | .e (.kz m el)=>if Nat.ble fd.offset m then some { r:=.e (.kz (m-fd.offset) λj=>el (fd.offset+j)) }else none
     |_=>none
    |none=>none
   |none=>none
  |_=>none
 | .indexAddr t x i=>Ia T σ t (σ.op x) (σ.op i)
 | .index t x i=>match σ.op x,σ.op i with
  | .e (.agg l),.e (.v (.int _ z))=>match mX T t with
   |some tt=>match tt.d with
    | .array n e=>match mX T e with
     |some te=>if te.isAgg&&Nat.beq (n*te.i.size) l.length then some { r:=.e (.agg ((l.drop (z.toNat*te.i.size)).take te.i.size)),jY:=[0<=z/\z<n] }else none
     |none=>none
    |_=>none
   |none=>none
  |_,_=>none
 | .field t x f=>match σ.op x,yI T t with
  | .e (.agg l),some (.struct fs)=>match fs[f]? with
   |some fd=>match mX T fd.type with
    |some ft=>if ft.isAgg then none else match l[fd.offset]? with
     |some e=>some { r:=.e e }
     |none=>none
    |none=>none
   |none=>none
  |_,_=>none
 | .extract x i=>match σ.op x with
  | .e (.ix l)=>match l[i]? with
   |some e=>some { r:=.e e }
   |none=>none
  |_=>none
 | .call c=>match c.callee with
  | .builtin .len=>match c.args.toList,c.argTypes.toList with
   | [x],[t]=>match yI T t with
    |some (.slice _)=>(vg (σ.op x) σ).map λr=>{ r:=.e (.v r.1),rb:=r.2 }
    |_=>none
   |_,_=>none
  | .builtin .append=>match c.args.toList,c.argTypes.toList with
   | [s,x],[t,t']=>if Nat.beq t t' then(if G3 O o.dst then Bs T σ o.dst t (σ.op s) (σ.op x)else Aj T σ o.dst t (σ.op s) (σ.op x))else none
   |_,_=>none
  | .builtin .max=>match c.args.toList.map σ.op with
   | [.e (.v (.int k a)),.e (.v (.int _ b))]=>some { r:=.e (.v (.int k (if b>a then b else a))) }
   | [.e (.v (.int k a)),.e (.v (.int _ b)),.e (.v (.int _ z))]=>some { r:=.e (.v (.int k (if z>(if b>a then b else a)then z else(if b>a then b else a)))) }
   |_=>none
  | .builtin .min=>match c.args.toList.map σ.op with
   | [.e (.v (.int k a)),.e (.v (.int _ b))]=>some { r:=.e (.v (.int k (if b<a then b else a))) }
   |_=>none
  | .value f=>match σ.op f,uZ σ c.args.toList with
   | .e (.fn g cap),some (xs,is)=>Ak P K O σ o.dst g (xs++cap) is ((c.args.toList.map σ.op).any PV.BR)
   | .tu g cap,some (xs,is)=>match xx σ cap with
    |some (ys,js)=>Ak P K O σ o.dst g (xs++ys) (is++js) ((c.args.toList.map σ.op).any PV.BR)
    |none=>none
   |_,_=>none
  |_=>none
 |_=>none
structure Lk where
 oC:Nat->Prop
 own:Nat->Nat->Prop
 val:Nat->Value
 jz:Nat->Nat->Value
def kr(L:Lk)(x:Nat):Prop:=∃ id,L.own id x
def jE(B:Nat->Prop)(L:Lk)(x:Nat):Prop:=B x\/kr L x
def yx(bs br:Nat->Prop)(L:Lk)(w:World):CV->Value->Prop
 | .e x,v=>iH bs br w x v
 | .box id,v=>L.oC id/\∃ b,L.val id = .pointer (some ⟨b,0,none⟩)/\v = .pointer (some ⟨b,0,none⟩)
def nT(bs br:Nat->Prop)(L:Lk)(w:World):PV->Value->Prop
 | .e x,v=>iH bs br w x v
 | .box id off,v=>L.oC id/\∃ b,L.val id = .pointer (some ⟨b,0,none⟩)/\v = .pointer (some ⟨b,off,none⟩)
 | .own id,v=>L.oC id/\v=L.val id
 | .ql id sz i j,v=>L.oC id/\∃ b n c,L.val id = .slice (some ⟨b,0,none⟩) n c/\v = .pointer (some ⟨b,i*sz+j,none⟩)
 | .jz id k,v=>L.oC id/\v=L.jz id k
 | .tu f cap,v=>∃ vs:List Value,v = .func (.func f) #[] vs.toArray/\vs.length=cap.length/\∀ (i:Nat) (c:CV) (x:Value),cap[i]? = some c->vs[i]? = some x->yx bs br L w c x
def PV.le(p q:PV):Prop:=∀ (bs br:Nat->Prop) (L:Lk) (w:World) (v:Value),nT bs br L w p v->nT bs br L w q v
def ud(P:Program)(K:World->Prop)(T:List TI)(O:qG)(σ:PS)(o:Oper):Option kQ:=match jN P K T O σ o with
 |some u=>match o.dst with
  |some d=>match look O.ov d with
   |some p=>some { u with r:=p,jY:=PV.le u.r p::u.jY }
   |none=>some u
  |none=>some u
 |none=>none
def zV(gX:Array Oper)(σ:PS)(o:Oper):Option Bool:=match o.guard with
 |none=>some true
 |some (j,want)=>match(gX[j]?).bind (·.dst)with
  |some t=>match σ.get t with
   | .e (.v (.bool true))=>some want
   | .e (.v (.bool false))=>some (!want)
   | .e (.v (.tuple _))=>some false
   |_=>none
  |none=>none
def PS.app(σ:PS)(d:Option Tmp)(u:kQ):PS:=(σ.qW u.f).put d u.r
def vG(σ:PS):Option Tmp->Bool
 |some d=>Nat.blt d σ.n
 |none=>true
def FX:Op->List Operand
 | .move x | .assign x | .box _ x | .load _ x | .nilCheck x | .unOp _ _ x | .convert _ _ x | .fieldAddr _ x _ | .field _ x _ | .extract x _=>[x]
 | .pick c a b=>[c,a,b]
 | .build _ ps | .buildSlice _ _ ps=>ps.toList.map (·.2)
 | .store _ a v | .binOp _ _ a v _ | .makeSlice _ a v | .indexAddr _ a v | .index _ a v=>[a,v]
 | .makeFunc _ first captured=>first.toList++captured.toList
 | .slice _ x l h m=>x::(l.toList++h.toList++m.toList)
 | .call c=>(match c.callee with | .value f=>[f] | .invoke r _=>[r] | .builtin _=>[])++c.args.toList
 |_=>[]
def Ea:List Operand->List Tmp
 | []=>[]
 | .tmp t::l=>t::Ea l
 |_::l=>Ea l
def looks(gX:Array Oper)(o:Oper):List Tmp:=Ea (FX o.op)++(match o.guard with
 |some (g,_)=>((gX[g]?).bind (·.dst)).toList
 |none=>[])
def q9(P:Program)(K:World->Prop)(T:List TI)(O:qG)(gX:Array Oper)(σ:PS)(o:Oper):Option kQ:=
 if vG σ o.dst then match zV gX σ o with
  |some true=>match ud P K T O σ o with
   |some u=>some { u with rd:=(looks gX o).map σ.get }
   |none=>none
  |some false=>some { r:=.e (.v (.tuple #[])),rd:=(looks gX o).map σ.get }
  |none=>none
 else none
def Mg(l:List Nat)(n:Nat):Bool:=l.any (Nat.beq n)
def ru.id:ru->Option Nat
 | .none=>Option.none
 | .new i _ | .uT i _ | .rB i _ | .wG i _ | .fin i=>some i
def zf:ru->PV->Bool
 | .rB id _,.own i=>!Nat.beq i id
 | .rB id _,.ql i _ _ _=>!Nat.beq i id
 | .wG id _,.jz i _=>!Nat.beq i id
 | .fin id,p=>!p.qQ.any (Nat.beq id)
 |_,_=>true
def DG(l:List Nat):Option Nat->Bool
 |some d=>!Mg l d
 |none=>true
def Kj:Option Nat->Option Nat->Bool
 |some a,some b=>!Nat.beq a b
 |_,_=>true
def NJ:PV->Bool
 | .e .any=>false
 |_=>true
def BO(gX:Array Oper)(x y:Oper×kQ):Bool:=
 DG (looks gX y.1) x.1.dst&&Kj x.1.dst y.1.dst&&DG (looks gX x.1) y.1.dst &&
 DG y.2.rb x.2.f.id&&DG x.2.rb y.2.f.id&&Kj x.2.f.id y.2.f.id&&zf x.2.f y.2.r&&zf y.2.f x.2.r &&
 (!x.2.f.Kp||y.2.rd.all NJ)&&x.2.rd.all (zf y.2.f)
def BQ(o:Oper)(i:Nat):Bool:=o.after.toList.any λe=>Region.binds .any e&&Nat.beq e.on i
def AY(gX:Array Oper):Nat->Oper->Nat->Bool
 | 0,o,i=>BQ o i
 |n+1,o,i=>BQ o i||o.after.toList.any λe=>Region.binds .any e&&(match gX[e.on]? with
  |some z=>AY gX n z i
  |none=>false)
def DK(gX:Array Oper):Nat->List (Oper×kQ)->Bool
 |_,[]=>true
 |i,x::l=>x.1.after.toList.all (λe=>!Region.binds .any e||Nat.blt e.on i)&&l.all (λy=>AY gX 3 y.1 i||BO gX x y)&&DK gX (i+1) l
def Ke(σ:PS):PV->Option E
 | .e x=>if x.nr 3 then some x else none
 | .own id=>match σ.bo id with
  |some (.row nl _ n sz el)=>some (.sl nl n sz el)
  |some (.qm nl _ _ n sz len el none)=>some (.sl true n 1 λk _=>.sl nl (len k) sz (el k))
  |_=>none
 |_=>none
def OC(T:List TI)(σ:PS):ResultVar->Option E
 | .tmp t=>Ke σ (σ.get t)
 | .cell a t=>match mX T t with
  |some ti=>match σ.read (σ.get a) ti.i.size with
   |some (l,_,[])=>if ti.isAgg then(if(E.agg l).nr 3 then some (.agg l)else none)else match l with
    | [e]=>if e.nr 3 then some e else none
    |_=>none
   |_=>none
  |none=>none
def DW(T:List TI)(σ:PS):List ResultVar->Option (List E)
 | []=>some []
 |x::l=>match OC T σ x,DW T σ l with
  |some e,some es=>some (e::es)
  |_,_=>none
def JQ(T:List TI)(fn:Func)(σ:PS):Option E:=match DW T σ fn.results.toList with
 |some [e]=>some e
 |some l=>some (.ix l)
 |none=>none
inductive Ex where
 |normal
 |exit (id:Nat)
 |ret
def EH:Code->Nat
 | .region id _ _=>id
 | .seq a _=>EH a
 | .cond _ a _=>EH a
 | .block _ b=>EH b
 | .loop b=>EH b
 |_=>0
def Ft:Nat->List E->List (Nat×PV)
 |_,[]=>[]
 |i,x::l=>(i,.e x)::Ft (i+1) l
def AG(fn:Func)(nl:Bool)(args:List E):PS:={ n:=fn.ntmps,nl:=nl,t:=Ft 0 args,b:=[] }
theorem mU{a b:Nat}:Nat.beq a b=true↔a=b:=⟨Nat.eq_of_beq_eq_true,λh=>by subst h;exact dw a⟩
theorem dx{a b:Nat}(h:a≠b):Nat.beq a b=false:=by
 cases hb:Nat.beq a b with
 |false=>rfl
 |true=>exact absurd (mU.1 hb) h
theorem tR{α:Type}(k:Nat)(x:α)(l:List (Nat×α))(t:Nat):look ((k,x)::l) t=if k=t then some x else look l t:=by
 by_cases h:k=t
 .subst h;simp[look]
 .simp [look,h,dx h]
theorem FD{α:Type}(l:List (Nat×α))(d t:Nat)(h:d≠t):look (l.filter λx=>!Nat.beq x.1 d) t=look l t:=by
 induction l with
 |nil=>rfl
 |cons y l ih=>
  obtain⟨k,x⟩:=y;rw[List.filter_cons];by_cases hk:k=d
  .subst hk
   simp only[dw,ef,bq,a7];rw[ih,tR,aR h]
  .simp only[dx hk,dz,bn]
   rw[tR,tR,ih]
theorem Vd{α:Type}(l:List (Nat×α))(f:α->α)(t:Nat):look (l.map λx=>(x.1,f x.2)) t=(look l t).map f:=by
 induction l with
 |nil=>rfl
 |cons y l ih=>
  obtain⟨k,x⟩:=y;rw[eW,tR,tR,ih];split<;>rfl
theorem PS.LS(σ:PS)(d:Nat)(p:PV)(t:Nat):(σ.put (some d) p).get t=if d=t then p else σ.get t:=by
 unfold PS.get PS.put;simp only[tR];by_cases h:d=t
 .rw [aS h,aS h];rfl
 .rw [aR h,aR h,FD _ _ _ h]
theorem PS.aaZ(σ:PS)(d:Option Tmp)(p:PV)(id:Nat):(σ.put d p).bo id=σ.bo id:=by cases d<;>rfl
theorem PS.NA(σ:PS)(d:Option Tmp)(p:PV):(σ.put d p).n=σ.n:=by cases d<;>rfl
theorem PS.ahR(σ:PS)(d:Option Tmp)(p:PV):(σ.put d p).nl=σ.nl:=by cases d<;>rfl
theorem Ji(l:List (Nat×Bx))(id:Nat)(b:Bx)(t:Nat):look (D2 l id b) t=if id=t then some b else look l t:=by
 unfold D2;rw[tR];by_cases h:id=t
 .rw [aS h,aS h]
 .rw [aR h,aR h,FD _ _ _ h]
theorem Vc{α:Type}(l:List (Nat×α))(d:Nat):look (l.filter λx=>!Nat.beq x.1 d) d=none:=by
 induction l with
 |nil=>rfl
 |cons y l ih=>
  obtain⟨k,x⟩:=y;rw[List.filter_cons];by_cases hk:k=d
  .subst hk
   simpa only[dw,ef,bq,a7]using ih
  .simp only[dx hk,dz,bn]
   rw[tR,aR hk,ih]
theorem Nu{α:Type}(l:List (Nat×α))(i id:Nat):look (l.filter λx=>!Nat.beq x.1 i) id=if i=id then none else look l id:=by
 by_cases h:i=id
 .subst h;rw[aS rfl];exact Vc _ _
 .rw [aR h];exact FD _ _ _ h
theorem PS.Ip(σ:PS)(f:ru)(t:Nat):(σ.qW f).get t=(σ.get t).pF f:=by
 unfold PS.get PS.qW;by_cases h:f.Kp=true
 .simp only[h,bn]
  rw[Vd];cases look σ.t t with
  |none=>cases f<;>rfl
  |some p=>rfl
 .have hv:∀ p:PV,p.pF f=p:=by
   intro p;cases f<;>first|exact absurd rfl h|(cases p<;>rfl)
  simp only[h,hv];rfl
def rJ(bs br:Nat->Prop)(L:Lk)(w:World)(id:Nat):Bx->Prop
 | .cells T l=>∃ b vs,L.val id = .pointer (some ⟨b,0,none⟩)/\(∀ x,L.own id x↔x=b)/\w.heap[b]? = some (.cells vs.toArray T (0,0))/\ku bs br w l vs/\∀ u,u ∈ vs->u.oneCell'=true
 | .row nl T n sz el=>∃ f:Nat->Nat->Value,qH w (L.val id) T n sz f nl/\(∀ x,L.own id x↔(L.val id).ownBlock=some x)/\∀ i j,i<n->j<sz->iH bs br w (el i j) (f i j)/\(el i j).nr 2=true
 | .qm nl T1 T0 n sz len el pend=>∃ (b c:Nat) (cur:Array Value) (f:Nat->Nat->Nat->Value),L.val id = .slice (some ⟨b,0,none⟩) n c/\w.heap[b]? = some (.cells cur T1 (0,0))/\n<=c/\c<=maxLen/\cur.size=c /\
  (∀ k,k<n->pend≠some k->cur[k]? = some (L.jz id k))/\(∀ u,u ∈ cur->u.oneCell'=true/\sy u=false) /\
  (∀ k,k<n->qH w (L.jz id k) T0 (len k) sz (f k) nl/\∀ i j,i<len k->j<sz->iH bs br w (el k i j) (f k i j)/\(el k i j).nr 2=true) /\
  (∀ x,L.own id x↔x=b\/∃ k,k<n/\(L.jz id k).ownBlock=some x) /\
  (∀ k k' x,k<n->k'<n->(L.jz id k).ownBlock=some x->(L.jz id k').ownBlock=some x->k=k')/\(∀ k,k<n->(L.jz id k).ownBlock≠some b)
structure jD(w0:World)(B:Nat->Prop)(σ:PS)(a:Act)(w:World)(L:Lk):Prop where
 hd:a.defers=[]
 hs:a.tmps.size=σ.n
 ht:∀ t,nT (jE B L) (kr L) L w (σ.get t) (a.tmps.getD t undef)
 hb:∀ id b,σ.bo id=some b->rJ (jE B L) (kr L) L w id b
 hv:∀ id,L.oC id↔(σ.bo id).isSome=true
 hn:∀ id x,L.own id x->L.oC id
 hw:∀ id x,L.own id x->w0.heap.size<=x/\x<w.heap.size
 hi:∀ id id' x,L.own id x->L.own id' x->id=id'
 he:Below w0.heap.size w0 w
 hl:σ.nl=true->∀ id b,σ.bo id=some b->b.nl=true
structure s9(L:Lk)(w:World)(L':Lk)(w':World):Prop where
 size:w.heap.size<=w'.heap.size
 kr:∀ x,x<w.heap.size->Pu.kr L' x->Pu.kr L x
 pT:∀ x,x<w.heap.size->¬Pu.kr L x->w'.heap[x]? = w.heap[x]?
theorem s9.lr{B:Nat->Prop}{L L':Lk}{w w':World}(h:s9 L w L' w'){e:E}{v:Value}(k:iH (jE B L) (Pu.kr L) w e v):iH (jE B L') (Pu.kr L') w' e v:=by
 refine k.mono h.size (λb hb hx=>?_) (λb hb hx=>h.kr b hb hx) (λb o x hb tG hc=>?_)
 .rcases hx with hx|hx
  .exact .inl hx
  .exact .inr (h.kr b hb hx)
 .have hm:¬Pu.kr L b:=by
   rcases tG with tG|tG
   .exact λhm=>tG (.inr hm)
   .exact tG
  rw[<-hc];exact World.cell?_of_block (w:=w) (h.pT b hb hm)
theorem qH.block{w w':World}{v:Value}{T:TypeId}{n sz:Nat}{f:Nat->Nat->Value}{nl:Bool}(h:qH w v T n sz f nl)
 (hk:∀ x,v.ownBlock=some x->w'.heap[x]? = w.heap[x]?):qH w' v T n sz f nl:=by
 rcases h with h|⟨b,c,cur,rfl,hg,r⟩
 .exact .inl h
 .exact .inr ⟨b,c,cur,rfl,by rw[hk b rfl];exact hg,r⟩
theorem rJ.later{B:Nat->Prop}{L L':Lk}{w w':World}(h:s9 L w L' w'){id:Nat}{b:Bx}(k:rJ (jE B L) (kr L) L w id b)
 (hv:L'.val id=L.val id) (ho:∀ x,L'.own id x↔L.own id x) (mr:∀ j,L'.jz id j=L.jz id j) (hk:∀ x,L.own id x->w'.heap[x]? = w.heap[x]?):rJ (jE B L') (kr L') L' w' id b:=by
 cases b with
 |cells T l=>
  obtain⟨b,vs,h1,h2,h3,h4,h5⟩:=k;exact⟨b,vs,by rw[hv];exact h1,λx=>(ho x).trans (h2 x),by rw[hk b ((h2 b).2 rfl)];exact h3,h4.mono λ_ _=>h.lr,h5⟩
 |row nl T n sz el=>
  obtain⟨f,h1,h2,h3⟩:=k;exact⟨f,by rw[hv];exact h1.block λx hx=>hk x ((h2 x).2 hx),λx=>by rw[ho,hv];exact h2 x,λi j hi hj=>⟨h.lr (h3 i j hi hj).1,(h3 i j hi hj).2⟩⟩
 |qm nl T1 T0 n sz len el pend=>
  obtain⟨b,c,cur,f,h1,h2,h3,h4,h5,h6,h7,h8,h9,wH,xC⟩:=k;have e:L'.jz id=L.jz id:=funext mr;refine⟨b,c,cur,f,by rw[hv];exact h1,by rw[hk b ((h9 b).2 (.inl rfl))];exact h2,h3,h4,h5,by rw[e];exact h6,h7,?_,?_,by rw[e];exact wH,by rw[e];exact xC⟩
  .intro k IL
   obtain⟨q1,q2⟩:=h8 k IL;rw[e];exact⟨q1.block λx hx=>hk x ((h9 x).2 (.inr ⟨k,IL,hx⟩)),λi j hi hj=>⟨h.lr (q2 i j hi hj).1,(q2 i j hi hj).2⟩⟩
  .intro x
   rw[ho,e];exact h9 x
theorem yx.later{B:Nat->Prop}{L L':Lk}{w w':World}(h:s9 L w L' w'){c:CV}{v:Value}(k:yx (jE B L) (kr L) L w c v)
 (hv:∀ id,L.oC id->L'.oC id/\L'.val id=L.val id):yx (jE B L') (kr L') L' w' c v:=by
 cases c with
 |e x=>exact h.lr k
 |box id=>obtain⟨k1,b,k2,k3⟩:=k;exact⟨(hv id k1).1,b,by rw[(hv id k1).2];exact k2,k3⟩
theorem nT.later{B:Nat->Prop}{L L':Lk}{w w':World}(h:s9 L w L' w'){p:PV}{v:Value}(k:nT (jE B L) (kr L) L w p v)
 (hv:∀ id,L.oC id->L'.oC id/\L'.val id=L.val id/\∀ j,L'.jz id j=L.jz id j):nT (jE B L') (kr L') L' w' p v:=by
 cases p with
 |e x=>exact h.lr k
 |box id off=>obtain⟨k1,b,k2,k3⟩:=k;exact⟨(hv id k1).1,b,by rw[(hv id k1).2.1];exact k2,k3⟩
 |own id=>obtain⟨k1,k2⟩:=k;exact⟨(hv id k1).1,by rw[(hv id k1).2.1];exact k2⟩
 |ql id sz i j=>obtain⟨k1,b,n,c,k2,k3⟩:=k;exact⟨(hv id k1).1,b,n,c,by rw[(hv id k1).2.1];exact k2,k3⟩
 |jz id q=>obtain⟨k1,k2⟩:=k;exact⟨(hv id k1).1,by rw[(hv id k1).2.2];exact k2⟩
 |tu f cap=>
  obtain⟨vs,k1,k2,k3⟩:=k;exact⟨vs,k1,k2,λi c x hc hx=>(k3 i c x hc hx).later h λid hl=>⟨(hv id hl).1,(hv id hl).2.1⟩⟩
theorem jD.later{w0:World}{B:Nat->Prop}{σ:PS}{a:Act}{w w':World}{L:Lk}(r:jD w0 B σ a w L)(h:Below w.heap.size w w'):jD w0 B σ a w' L:=by
 have hl:s9 L w L w':=⟨h.size,λ_ _ h=>h,λx hx _=>h.block x hx⟩
 refine⟨r.hd,r.hs,λt=>(r.ht t).later hl λid k=>⟨k,rfl,λ_=>rfl⟩,λid b hb=>(r.hb id b hb).later hl rfl (λ_=>Iff.rfl) (λ_=>rfl) λx hx=>h.block x (r.hw id x hx).2,r.hv,r.hn,
  λid x hx=>⟨(r.hw id x hx).1,bF (r.hw id x hx).2 h.size⟩,r.hi,r.he.trans (h.mono r.he.size),r.hl⟩
theorem jD.drew{w0:World}{B:Nat->Prop}{σ:PS}{a:Act}{w:World}{L:Lk}(r:jD w0 B σ a w L):jD w0 B σ a w.drew L:=r.later (Below.refl _ _).drew
theorem jD.put{w0:World}{B:Nat->Prop}{σ:PS}{a:Act}{w:World}{L:Lk}(r:jD w0 B σ a w L)(d:Option Tmp)(p:PV)(v:Value)(hd:vG σ d=true)(hp:nT (jE B L) (kr L) L w p v):jD w0 B (σ.put d p) (a.put d v) w L:=by
 cases d with
 |none=>exact r
 |some d=>
  have wN:d<σ.n:=by simpa[vG,Nat.blt_eq]using hd
  refine⟨r.hd,by simp[Act.put,r.hs,PS.NA],λt=>?_,λid b hb=>r.hb id b hb,r.hv,r.hn,r.hw,r.hi,r.he,r.hl⟩;rw[PS.LS];by_cases h:d=t
  .subst h
   rw[aS rfl];have:(a.put (some d) v).tmps.getD d undef=v:=by
    simp[Act.put,Array.getElem?_setIfInBounds,r.hs,wN]
   rw[this];exact hp
  .rw [aR h]
   have:(a.put (some d) v).tmps.getD t undef=a.tmps.getD t undef:=by
    simp[Act.put,an7 h]
   rw[this];exact r.ht t
theorem jD.op{w0:World}{B:Nat->Prop}{σ:PS}{a:Act}{w:World}{L:Lk}(r:jD w0 B σ a w L)(x:Operand):nT (jE B L) (kr L) L w (σ.op x) (a.eval x):=by
 cases x with
 |tmp t=>exact r.ht t
 |const v=>exact .v v
 |global g=>exact .v _
 |func f=>exact .fn f [] [] rfl (λi p x h=>by simp at h)
def Lk.set(L:Lk)(id:Nat)(O:Nat->Prop)(v:Value)(jz:Nat->Value):Lk:=
 {oC:=λi=>i=id\/L.oC i
  own:=λi x=>if i=id then O x else L.own i x
  val:=λi=>if i=id then v else L.val i
  jz:=λi=>if i=id then jz else L.jz i }
section
variable {L:Lk} {id:Nat} {O:Nat->Prop} {v:Value} {jz:Nat->Value}
theorem Lk.sF(x:Nat):(L.set id O v jz).own id x↔O x:=by simp[Lk.set]
theorem Lk.pt:(L.set id O v jz).val id=v:=by simp[Lk.set]
theorem Lk.rG(k:Nat):(L.set id O v jz).jz id k=jz k:=by simp[Lk.set]
theorem Lk.A6:(L.set id O v jz).oC id:=.inl rfl
theorem Lk.A7{i:Nat}(h:i≠id)(x:Nat):(L.set id O v jz).own i x↔L.own i x:=by simp[Lk.set,h]
theorem Lk.A8{i:Nat}(h:i≠id):(L.set id O v jz).val i=L.val i:=by simp[Lk.set,h]
theorem Lk.Gr{i:Nat}(h:i≠id)(k:Nat):(L.set id O v jz).jz i k=L.jz i k:=by simp[Lk.set,h]
end
structure rL(L:Lk)(w:World)(id:Nat)(O:Nat->Prop)(w':World):Prop where
 own:∀ x,O x->(L.own id x\/w.heap.size<=x)/\x<w'.heap.size
 size:w.heap.size<=w'.heap.size
 pT:∀ x,x<w.heap.size->¬L.own id x->w'.heap[x]? = w.heap[x]?
 os:w'.os=w.os
 tape:w'.tape=w.tape
 output:w'.output=w.output
theorem rL.later{L:Lk}{w:World}{id:Nat}{O:Nat->Prop}{w':World}(h:rL L w id O w')(v:Value)(jz:Nat->Value):s9 L w (L.set id O v jz) w':=by
 refine⟨h.size,λx hx hm=>?_,λx hx hm=>h.pT x hx λho=>hm ⟨id,ho⟩⟩;obtain⟨i,hi⟩:=hm;by_cases e:i=id
 .subst e
  rcases(h.own x ((Lk.sF x).1 hi)).1 with k|k
  .exact ⟨i,k⟩
  .omega
 .exact ⟨i,(Lk.A7 e x).1 hi⟩
theorem jD.set{w0:World}{B:Nat->Prop}{σ:PS}{a:Act}{w:World}{L:Lk}(r:jD w0 B σ a w L)(id:Nat)(b':Bx)(O:Nat->Prop)(v:Value)(jz:Nat->Value)(w':World)(f:ru)
 (hf:f.KS σ.b=D2 σ.b id b') (ht:rL L w id O w')
 (hB:rJ (jE B (L.set id O v jz)) (kr (L.set id O v jz)) (L.set id O v jz) w' id b')
 (hT:∀ p v0,nT (jE B L) (kr L) L w p v0->nT (jE B (L.set id O v jz)) (kr (L.set id O v jz)) (L.set id O v jz) w' (p.pF f) v0)
 (ko:σ.nl=true->b'.nl=true):jD w0 B (σ.qW f) a w' (L.set id O v jz):=by
 have hl:=ht.later v jz;have ki:∀ i,(σ.qW f).bo i=if id=i then some b' else σ.bo i:=by
  intro i;show look (f.KS σ.b) i=_;rw[hf,Ji];rfl
 have nn:Below w0.heap.size w w':=⟨ht.os,ht.tape,ht.output,ht.size,λx hx=>ht.pT x (bF hx r.he.size) λho=>by have:=(r.hw id x ho).1;omega⟩
 refine⟨r.hd,r.hs,λt=>?_,λi b hb=>?_,λi=>?_,λi x hx=>?_,λi x hx=>?_,λi j x hi hj=>?_,r.he.trans nn,λIT i b hb=>?_⟩
 .rw [PS.Ip];exact hT _ _ (r.ht t)
 .rw [ki]at hb
  by_cases e:id=i
  .subst e
   rw[aS rfl]at hb;cases hb;exact hB
  .rw [aR e]at hb
   have e':i≠id:=λh=>e h.symm
   exact(r.hb i b hb).later hl (Lk.A8 e') (Lk.A7 e') (Lk.Gr e') λx hx=>ht.pT x (r.hw i x hx).2 λho=>e (r.hi id i x ho hx)
 .rw [ki]
  by_cases e:id=i
  .subst e;rw[aS rfl];simp[Lk.set]
  .rw [aR e]
   have e':i≠id:=λh=>e h.symm
   simp only[Lk.set,e',false_or];exact r.hv i
 .by_cases e:i=id
  .exact .inl e
  .exact .inr (r.hn i x ((Lk.A7 e x).1 hx))
 .by_cases e:i=id
  .subst e
   obtain⟨k1,k2⟩:=ht.own x ((Lk.sF x).1 hx);refine⟨?_,k2⟩;rcases k1 with k1|k1
   .exact (r.hw i x k1).1
   .exact aY r.he.size k1
  .have:=r.hw i x ((Lk.A7 e x).1 hx)
   exact⟨this.1,bF this.2 ht.size⟩
 .by_cases e1:i=id
  .by_cases e2:j=id
   .rw [e1,e2]
   .have k2:=(Lk.A7 e2 x).1 hj
    subst e1;rcases(ht.own x ((Lk.sF x).1 hi)).1 with k|k
    .exact r.hi _ _ x k k2
    .have:=(r.hw j x k2).2;omega
  .have k1:=(Lk.A7 e1 x).1 hi
   by_cases e2:j=id
   .subst e2
    rcases(ht.own x ((Lk.sF x).1 hj)).1 with k|k
    .exact r.hi _ _ x k1 k
    .have:=(r.hw i x k1).2;omega
   .exact r.hi _ _ x k1 ((Lk.A7 e2 x).1 hj)
 .rw [ki]at hb
  by_cases e:id=i
  .rw [aS e]at hb;cases hb;exact ko IT
  .rw [aR e]at hb;exact r.hl IT i b hb
theorem jD.new{w0:World}{B:Nat->Prop}{σ:PS}{a:Act}{w:World}{L:Lk}(r:jD w0 B σ a w L)(id:Nat)(b':Bx)(O:Nat->Prop)(v:Value)(jz:Nat->Value)(w':World)
 (lH:σ.bo id=none) (hO:∀ x,O x->w.heap.size<=x/\x<w'.heap.size) (hb:Below w.heap.size w w')
 (hB:rJ (jE B (L.set id O v jz)) (kr (L.set id O v jz)) (L.set id O v jz) w' id b')
 (ko:(!σ.nl||b'.nl)=true):jD w0 B (σ.qW (.new id b')) a w' (L.set id O v jz):=by
 have Tp:¬L.oC id:=λh=>by have:=(r.hv id).1 h;rw[lH]at this;simp at this
 have ht:rL L w id O w':=⟨λx hx=>⟨.inr (hO x hx).1,(hO x hx).2⟩,hb.size,λx hx _=>hb.block x hx,hb.os,hb.tape,hb.output⟩
 refine r.set id b' O v jz w' (.new id b') rfl ht hB (λp v0 hp=>?_) (λh=>by simpa[h]using ko);have jJ:∀ {i},L.oC i->i≠id:=λh e=>Tp (e▸h)
 have:p.pF (.new id b')=p:=by cases p<;>rfl
 rw[this];exact hp.later (ht.later v jz) λi hi=>⟨.inr hi,Lk.A8 (jJ hi),λj=>Lk.Gr (jJ hi) j⟩
theorem jD.uT{w0:World}{B:Nat->Prop}{σ:PS}{a:Act}{w:World}{L:Lk}(r:jD w0 B σ a w L)(id:Nat)(b':Bx)(w':World)
 (vz:L.oC id) (ht:rL L w id (L.own id) w')
 (hB:rJ (jE B (L.set id (L.own id) (L.val id) (L.jz id))) (kr (L.set id (L.own id) (L.val id) (L.jz id))) (L.set id (L.own id) (L.val id) (L.jz id)) w' id b')
 (ko:σ.nl=true->b'.nl=true):jD w0 B (σ.qW (.uT id b')) a w' (L.set id (L.own id) (L.val id) (L.jz id)):=by
 refine r.set id b' _ _ _ w' (.uT id b') rfl ht hB (λp v0 hp=>?_) ko;have:p.pF (.uT id b')=p:=by cases p<;>rfl
 rw[this];refine hp.later (ht.later _ _) λi hi=>⟨.inr hi,?_,λj=>?_⟩
 .by_cases e:i=id
  .subst e;exact Lk.pt
  .exact Lk.A8 e
 .by_cases e:i=id
  .subst e;exact Lk.rG j
  .exact Lk.Gr e j
theorem jD.rB{w0:World}{B:Nat->Prop}{σ:PS}{a:Act}{w:World}{L:Lk}(r:jD w0 B σ a w L)(id:Nat)(b':Bx)(O:Nat->Prop)(v:Value)(w':World)
 (hp:∀ b,L.val id ≠ .pointer (some b)) (ht:rL L w id O w')
 (hB:rJ (jE B (L.set id O v (L.jz id))) (kr (L.set id O v (L.jz id))) (L.set id O v (L.jz id)) w' id b')
 (ko:σ.nl=true->b'.nl=true):jD w0 B (σ.qW (.rB id b')) a w' (L.set id O v (L.jz id)):=by
 have hl:=ht.later v (L.jz id);refine r.set id b' O v (L.jz id) w' (.rB id b') rfl ht hB (λp v0 pZ=>?_) ko;have afo:∀ i j,(L.set id O v (L.jz id)).jz i j=L.jz i j:=λi j=>by
  by_cases e:i=id
  .subst e;exact Lk.rG j
  .exact Lk.Gr e j
 cases p with
 |e x=>exact hl.lr pZ
 |box i off=>
  obtain⟨k1,b,k2,k3⟩:=pZ;have e:i≠id:=λe=>by subst e;exact hp _ k2
  exact⟨.inr k1,b,by rw[Lk.A8 e];exact k2,k3⟩
 |own i=>
  by_cases e:i=id
  .subst e;simp only[PV.pF,dw,bn];exact .any _
  .simp only[PV.pF,dx e,bq,a7]
   exact⟨.inr pZ.1,by rw[Lk.A8 e];exact pZ.2⟩
 |ql i s x j=>
  by_cases e:i=id
  .subst e;simp only[PV.pF,dw,bn];exact .any _
  .simp only[PV.pF,dx e,bq,a7]
   obtain⟨k1,b,n,c,k2,k3⟩:=pZ;exact⟨.inr k1,b,n,c,by rw[Lk.A8 e];exact k2,k3⟩
 |jz i k=>exact⟨.inr pZ.1,by rw[afo];exact pZ.2⟩
 |tu f cap=>
  obtain⟨vs,k1,k2,k3⟩:=pZ;refine⟨vs,k1,k2,λi c x hc hx=>?_⟩;have hk:=k3 i c x hc hx;cases c with
  |e y=>exact hl.lr hk
  |box q=>
   obtain⟨q1,b,q2,q3⟩:=hk;have e:q≠id:=λe=>by subst e;exact hp _ q2
   exact⟨.inr q1,b,by rw[Lk.A8 e];exact q2,q3⟩
theorem jD.wG{w0:World}{B:Nat->Prop}{σ:PS}{a:Act}{w:World}{L:Lk}(r:jD w0 B σ a w L)(id:Nat)(b':Bx)(O:Nat->Prop)(jz:Nat->Value)(w':World)
 (ht:rL L w id O w')
 (hB:rJ (jE B (L.set id O (L.val id) jz)) (kr (L.set id O (L.val id) jz)) (L.set id O (L.val id) jz) w' id b')
 (ko:σ.nl=true->b'.nl=true):jD w0 B (σ.qW (.wG id b')) a w' (L.set id O (L.val id) jz):=by
 have hl:=ht.later (L.val id) jz;refine r.set id b' O (L.val id) jz w' (.wG id b') rfl ht hB (λp v0 pZ=>?_) ko;have kW:∀ i,(L.set id O (L.val id) jz).val i=L.val i:=λi=>by
  by_cases e:i=id
  .subst e;exact Lk.pt
  .exact Lk.A8 e
 cases p with
 |e x=>exact hl.lr pZ
 |box i off=>obtain⟨k1,b,k2,k3⟩:=pZ;exact⟨.inr k1,b,by rw[kW];exact k2,k3⟩
 |own i=>exact⟨.inr pZ.1,by rw[kW];exact pZ.2⟩
 |ql i s x j=>obtain⟨k1,b,n,c,k2,k3⟩:=pZ;exact⟨.inr k1,b,n,c,by rw[kW];exact k2,k3⟩
 |jz i k=>
  by_cases e:i=id
  .subst e;simp only[PV.pF,dw,bn];exact .any _
  .simp only[PV.pF,dx e,bq,a7]
   exact⟨.inr pZ.1,by rw[Lk.Gr e];exact pZ.2⟩
 |tu f cap=>
  obtain⟨vs,k1,k2,k3⟩:=pZ;refine⟨vs,k1,k2,λi c x hc hx=>(k3 i c x hc hx).later hl λj hj=>⟨.inr hj,kW j⟩⟩
structure Pt(w:World)(v:Value)(T:TypeId)(n sz m:Nat)(f g:Nat->Nat->Value)(nl:Bool)(v':Value)(w':World):Prop where
 own:qH w' v' T (n+m) sz (λi j=>if i<n then f i j else g (i-n) j) nl
 KR:∀ x,v'.ownBlock=some x->v.ownBlock=some x\/(w.heap.size<=x/\x<w'.heap.size)
 size:w.heap.size<=w'.heap.size
 pT:∀ x,x<w.heap.size->v.ownBlock≠some x->w'.heap[x]? = w.heap[x]?
 os:w'.os=w.os
 tape:w'.tape=w.tape
 output:w'.output=w.output
def om(n sz:Nat)(f:Nat->Nat->Value):List Value:=(List.range (n*sz)).map λq=>f (q/sz) (q%sz)
theorem vj(n sz:Nat)(f:Nat->Nat->Value):(om n sz f).length=n*sz:=by simp[om]
theorem LL{n sz:Nat}{f:Nat->Nat->Value}{i j:Nat}(hi:i<n)(hj:j<sz):(om n sz f)[i*sz+j]? = some (f i j):=by
 have h1:i*sz+j<n*sz:=by
  have:=bE sz (show i+1<=n from hi);rw[bL,bK]at this;omega
 have h2:(i*sz+j)/sz=i:=by rw[bc,dc ae,bW hj,bB]
 have h3:(i*sz+j)%sz=j:=by rw[bc,dA,bC hj]
 simp[om,h1,h2,h3]
theorem Il{n sz:Nat}{f:Nat->Nat->Value}{q:Nat}{u:Value}(h:(om n sz f)[q]? = some u):q/sz<n/\q%sz<sz/\u=f (q/sz) (q%sz)/\q/sz*sz+q%sz=q:=by
 unfold om at h;rw[cj]at h;obtain⟨x,hx,rfl⟩:=cH.1 h;obtain⟨h1,h2⟩:=bZ.1 hx;simp at h1 h2;subst h2;have hz:0<sz:=by
  rcases eh sz with h0|h0
  .subst h0;simp at h1
  .exact h0
 exact⟨(bS hz).2 h1,bh _ hz,rfl,by rw[bc];exact bY q sz⟩
theorem qH.row{w:World}{v:Value}{T:TypeId}{n sz:Nat}{f:Nat->Nat->Value}{nl:Bool}(h:qH w v T n sz f nl):w.ownsRow 0 T sz v n (om n sz f):=by
 rcases h with⟨rfl,rfl⟩|⟨b,c,cur,rfl,hg,pB,nN,nO,lq,_⟩
 .exact ⟨vj _ _ _,.inl ⟨rfl,rfl⟩⟩
 .refine ⟨vj _ _ _,.inr ⟨b,c,cur,rfl,bN _,hg,pB,nN,nO,?_⟩⟩
  apply eX;intro q;by_cases hq:q<n*sz
  .have hz:0<sz:=by
    rcases eh sz with h0|h0
    .subst h0;simp at hq
    .exact h0
   have h1:q/sz<n:=(bS hz).2 hq;have h2:=bh q hz;have h3:q/sz*sz+q%sz=q:=by rw[bc];exact bY q sz
   have h4:=(lq _ _ h1 h2).1;have h5:=LL (f:=f) h1 h2;rw[h3]at h4 h5;rw[dY,aS hq,h5];simpa using h4
  .rw [dY,aR hq,bT (by rw[vj];omega)]
theorem akJ(P:Program)(w:World)(t ty e:TypeId)(i:TypeInfo)(z:Value)(sz:Nat)(ht:P.underlying t=some (.slice e))(hi:P.info? e=some i)(hz:i.zero=some z)
 (xM:i.size=sz) (Un:z.cells.size=sz) (lO:0<sz) (jI:1<=i.bytes) (anJ:∀ u,u ∈ z.cells->u.oneCell'=true)
 (v:Value) (n:Nat) (f:Nat->Nat->Value) (nl:Bool) (oh:qH w v e n sz f nl)
 (A:Option Addr) (m c:Nat) (g:Nat->Nat->Value) (hA:∀ k j,k<m->j<sz->∃ b o,A=some ⟨b,o,none⟩/\w.cell? ⟨b,o+(k*sz+j),none⟩=some (g k j)) (ue:A=none->m=0)
 (h1:∀ k j,k<m->j<sz->(g k j).oneCell'=true/\(nl=true->sy (g k j)=false)) (Um:nl=true->∀ u,u ∈ z.cells->sy u=false)
 (Tl:(n+m)*i.bytes<=140737488355328):
 ∃ v' w',(Builtin.append_ #[t,t] ty #[v,.slice A m c]).run P w = .ok v' w'/\Pt w v e n sz m f g nl v' w':=by
 have hle:n+m<=(n+m)*i.bytes:=fW _ jI;have LV:n+m<=maxLen:=by unfold maxLen;omega
 have xI:∀ i j,i<n+m->j<sz->(om n sz f++om m sz g)[i*sz+j]? = some (if i<n then f i j else g (i-n) j):=by
  intro i j hi hj;by_cases mr:i<n
  .rw [aS mr,dL,LL mr hj]
   rw[vj];have:=bE sz (show i+1<=n from mr);rw[bL,bK]at this;omega
  .rw [aR mr,ej,vj]
   .have:i*sz+j-n*sz=(i-n)*sz+j:=by
     have:=Nat.sub_mul i n sz;have:=bE sz (show n<=i by omega);omega
    rw[this,LL ae hj]
   .rw [vj]
    have:=bE sz (show n<=i by omega);omega
 have yX:∀ i j,i<n+m->j<sz->(if i<n then f i j else g (i-n) j).oneCell'=true:=by
  intro i j hi hj;split
  .rename_i mr
   rcases oh with⟨_,h0⟩|⟨b,c,cur,_,_,_,_,_,hc,_⟩
   .omega
   .exact (hc i j mr hj).2
  .rename_i mr
   exact(h1 (i-n) j ae hj).1
 have h1':∀ u ∈ om m sz g,u.oneCell'=true:=by
  intro u hu;obtain⟨q,hq⟩:=dg.1 hu;obtain⟨q1,q2,rfl,_⟩:=Il hq;exact(h1 _ _ q1 q2).1
 have gnl:nl=true->∀ u,u ∈ om m sz g->sy u=false:=by
  intro hn u hu;obtain⟨q,hq⟩:=dg.1 hu;obtain⟨q1,q2,rfl,_⟩:=Il hq;exact(h1 _ _ q1 q2).2 hn
 rcases A with _|ad
 .have hm:=ue rfl
  subst hm;rcases oh with⟨rfl,rfl⟩|⟨b,cc,cur,rfl,hg,pB,nN,nO,lq,ko⟩
  .refine ⟨.slice none 0 0,w,?_,.inl ⟨rfl,rfl⟩,λx hx=>.inl hx,aV _,λ_ _ _=>rfl,rfl,rfl,rfl⟩
   simp[Builtin.append_,run_underlying ht,sizeOf,typeInfo,hi,Builtin.lenOf,Builtin.firstCells,loadCells,loadCellsFrom]
  .refine ⟨.slice (some ⟨b,0,none⟩) n cc,w,?_,.inr ⟨b,cc,cur,rfl,hg,pB,nN,nO,?_,ko⟩,λx hx=>.inl hx,aV _,λ_ _ _=>rfl,rfl,rfl,rfl⟩
   .simp [Builtin.append_,run_underlying ht,sizeOf,typeInfo,hi,Builtin.lenOf,Builtin.firstCells,pB,storeCells]
   .intro i j hi hj
    have mr:i<n:= ae ;simp only[mr,bn];exact lq i j mr hj
 .have ME:∀ j u,(om m sz g)[j]? = some u->w.cell? (ad.add j)=some u:=by
   intro q u hq;obtain⟨q1,q2,rfl,q4⟩:=Il hq;obtain⟨b,o,e,hc⟩:=hA _ _ q1 q2;cases e;rw[q4]at hc;rw[show(⟨b,o,none⟩:Addr).add q=⟨b,o+q,none⟩from Addr.add_lit _ _ _];exact hc
  rcases oh with⟨rfl,rfl⟩|⟨b,cc,cur,rfl,hg,pB,nN,nO,lq,ko⟩
  .by_cases hm:m=0
   .subst hm
    refine⟨.slice none 0 0,w,?_,.inl ⟨rfl,rfl⟩,λx hx=>.inl hx,aV _,λ_ _ _=>rfl,rfl,rfl,rfl⟩;simp[Builtin.append_,run_underlying ht,sizeOf,typeInfo,hi,Builtin.lenOf,Builtin.firstCells,loadCells,loadCellsFrom]
   .have hr:=run_append_nil (P:=P) w t ty e i z ht hi hz ad m c (om m sz g) (by rw[vj,xM]) ME ae (by unfold maxLen at LV;omega) (by have hb:=Tl;simp only[bX]at hb;omega)
    have pX:=grownCap_ge w m 0 e;have nN:grownCap w m 0 e<=maxLen:=grownCap_le_maxLen w m 0 e ae;refine⟨_,_,hr,.inr ⟨w.heap.size,_,_,aj,heap_alloc_new w.drew _,ae,nN,?_,?_,?_⟩,λx hx=>.inr ?_,aj,λx hx _=>Below.heap_alloc w.drew _ x hx,rfl,rfl,rfl⟩
    .simp only[gS,fE,size_zeroCells,Un,vj,<-bL]
     congr 1;omega
    .intro i j hi hj
     have:=xI i j hi hj;refine⟨?_,yX i j hi hj⟩;simp only[om,cr,List.range_zero,List.map_nil,List.nil_append]at this;rw[<-this,an8]
     .simp [om]
     .obtain ⟨q,_⟩:=bZ.1 this
      simpa[om]using q
    .intro hn u hu
     rcases eZ.1 hu with hu|hu
     .exact gnl hn u (by simpa using hu)
     .simp only[Builtin.zeroCells,fF,fG]at hu
      obtain⟨q,hq,rfl⟩:=hu;have iE:q%z.cells.size<z.cells.size:=bh _ ae;rw[e9 z.cells _ iE];exact Um hn _ (fX iE)
    .simp [Value.ownBlock]at hx
     subst hx;simp
  .by_cases MK:n+m<=cc
   .have xJ:(om m sz g).length=m*i.size:=by rw[vj,xM]
    have ot:n*i.size+(om m sz g).length<=cur.size:=by rw[xJ,nO,xM,<-bL];exact bE _ MK
    have hr:=run_append_room (P:=P) w t ty e i ht hi b n cc cur hg ad m c (om m sz g) xJ ME h1' MK ot;have Fg:cur.toList.take (n*i.size)=om n sz f:=by
     have ML:w.ownsRow 0 e sz (.slice (some ⟨b,0,none⟩) n cc) n (om n sz f):=qH.row (nl:=nl) (.inr ⟨b,cc,cur,rfl,hg,pB,nN,nO,lq,ko⟩);rcases ML.2 with⟨hh,_⟩|⟨b',c',cur',hh,_,Tw,_,_,_,AB⟩
     .cases hh
     .cases hh
      rw[hg]at Tw;cases Tw;rw[xM];exact AB
    refine⟨_,_,hr,.inr ⟨b,cc,_,rfl,setRow_heap w b cur _ e _ hg,MK,nN,?_,?_,?_⟩,λx hx=>.inl hx,aj,λx hx jJ=>setRow_other w b x _ (λq=>jJ (by simp[Value.ownBlock,q])),rfl,rfl,rfl⟩
    .simp only[fE,ch,b8,eu,dB]
     omega
    .intro k j hk hj
     refine⟨?_,yX k j hk hj⟩;rw[Fg,<-xI k j hk hj];have hq:k*sz+j<(om n sz f++om m sz g).length:=by
      obtain⟨q,_⟩:=bZ.1 (xI k j hk hj);exact q
     rw[fY,dL hq]
    .intro hn u hu
     simp only[fZ,dH]at hu;rcases hu with(hu|hu)|hu
     .exact ko hn u (by have:=eo hu;simpa using this)
     .exact gnl hn u hu
     .exact ko hn u (by have:=eE hu;simpa using this)
   .have ML:w.ownsRow 0 e sz (.slice (some ⟨b,0,none⟩) n cc) n (om n sz f):=qH.row (nl:=nl) (.inr ⟨b,cc,cur,rfl,hg,pB,nN,nO,lq,ko⟩)
    have holds:∀ j u,(om n sz f)[j]? = some u->w.cell? ((⟨b,0,none⟩:Addr).add j)=some u:=ML.cells (g:=b) rfl;have hr:=run_append_grow (P:=P) w t ty e i z ht hi hz ⟨b,0,none⟩ n cc (om n sz f) (by rw[vj,xM]) holds ad m c (om m sz g) (by rw[vj,xM]) ME ae (by unfold maxLen at LV;omega) (growslice_fits ae Tl);have pX:=grownCap_ge w (n+m) cc e;have afh:grownCap w (n+m) cc e<=maxLen:=grownCap_le_maxLen w (n+m) cc e LV;refine⟨_,_,hr,.inr ⟨w.heap.size,_,_,aj,heap_alloc_new w.drew _,ae,afh,?_,?_,?_⟩,λx hx=>.inr ?_,aj,λx hx _=>Below.heap_alloc w.drew _ x hx,rfl,rfl,rfl⟩
    .simp only[gS,fE,size_zeroCells,Un,vj,<-bL]
     congr 1;omega
    .intro k j hk hj
     refine⟨?_,yX k j hk hj⟩;rw[<-xI k j hk hj];have hq:k*sz+j<(om n sz f++om m sz g).length:=by
      obtain⟨q,_⟩:=bZ.1 (xI k j hk hj);exact q
     rw[an8 (by simpa using hq)];simp
    .intro hn u hu
     rcases eZ.1 hu with hu|hu
     .rcases eZ.1 hu with hu|hu
      .obtain ⟨q,hq⟩:=dg.1 (show u ∈ om n sz f by simpa using hu)
       obtain⟨q1,q2,rfl,_⟩:=Il hq;exact ko hn _ (dh (lq _ _ q1 q2).1)
      .exact gnl hn u (by simpa using hu)
     .simp only[Builtin.zeroCells,fF,fG]at hu
      obtain⟨q,hq,rfl⟩:=hu;have iE:q%z.cells.size<z.cells.size:=bh _ ae;rw[e9 z.cells _ iE];exact Um hn _ (fX iE)
    .simp [Value.ownBlock]at hx
     subst hx;simp
theorem nT.move{B:Nat->Prop}{L L':Lk}{w:World}(h:s9 L w L' w){p:PV}{v:Value}(k:nT (jE B L) (kr L) L w p v)
 (hv:∀ id,id ∈ p.qQ->L.oC id->L'.oC id/\L'.val id=L.val id/\∀ j,L'.jz id j=L.jz id j):nT (jE B L') (kr L') L' w p v:=by
 cases p with
 |e x=>exact h.lr k
 |box id off=>obtain⟨k1,b,k2,k3⟩:=k;have q:=hv id (by simp[PV.qQ]) k1;exact⟨q.1,b,by rw[q.2.1];exact k2,k3⟩
 |own id=>obtain⟨k1,k2⟩:=k;have q:=hv id (by simp[PV.qQ]) k1;exact⟨q.1,by rw[q.2.1];exact k2⟩
 |ql id sz i j=>obtain⟨k1,b,n,c,k2,k3⟩:=k;have q:=hv id (by simp[PV.qQ]) k1;exact⟨q.1,b,n,c,by rw[q.2.1];exact k2,k3⟩
 |jz id r=>obtain⟨k1,k2⟩:=k;have q:=hv id (by simp[PV.qQ]) k1;exact⟨q.1,by rw[q.2.2];exact k2⟩
 |tu f cap=>
  obtain⟨vs,k1,k2,k3⟩:=k;refine⟨vs,k1,k2,λi c x hc hx=>?_⟩;have q:=k3 i c x hc hx;cases c with
  |e y=>exact h.lr q
  |box id=>
   obtain⟨q1,b,q2,q3⟩:=q;have r:=hv id (by simp only[PV.qQ,eV];exact⟨.box id,er hc,by simp[CV.qQ]⟩) q1;exact⟨r.1,b,by rw[r.2.1];exact q2,q3⟩
theorem amX{id:Nat}{b:Bx}{p:PV}(h:p.qQ.any (Nat.beq id)=false):p.pF (.rB id b)=p:=by
 cases p with
 |own i=>
  have:Nat.beq i id=false:=by
   simp only[PV.qQ,gT,List.any_nil,gU]at h;exact dx λe=>by rw[e,dw]at h;cases h
  simp[PV.pF,this]
 |ql i s x j=>
  have:Nat.beq i id=false:=by
   simp only[PV.qQ,gT,List.any_nil,gU]at h;exact dx λe=>by rw[e,dw]at h;cases h
  simp[PV.pF,this]
 |_=>rfl
theorem jD.fin{w0:World}{B:Nat->Prop}{σ:PS}{a:Act}{w:World}{L:Lk}{id:Nat}{nl:Bool}{T n sz:Nat}{el:Nat->Nat->E}(hB:∀ b,B b->b<w0.heap.size)
 (r:jD w0 B (σ.qW (.rB id (.row nl T n sz el))) a w L):∃ L',jD w0 B (σ.qW (.fin id)) a w L'/\iH (jE B L') (kr L') w (.sl nl n sz el) (L.val id):=by
 let L':Lk:=⟨λi=>L.oC i/\i≠id,λi x=>L.own i x/\i≠id,L.val,L.jz⟩
 have iE:s9 L w L' w:=⟨aV _,λx _ ⟨i,h,_⟩=>⟨i,h⟩,λ_ _ _=>rfl⟩
 have wL:∀ i,(σ.qW (.fin id)).bo i=if i=id then none else(σ.qW (.rB id (.row nl T n sz el))).bo i:=by
  intro i;show look (σ.b.filter λx=>!Nat.beq x.1 id) i=if i=id then none else look (D2 σ.b id (.row nl T n sz el)) i
  rw[Nu,Ji];by_cases h:i=id
  .subst h;simp
  .rw [aR h,aR (λe=>h e.symm),aR (λe=>h e.symm)]
 have aff:(σ.qW (.rB id (.row nl T n sz el))).bo id=some (.row nl T n sz el):=by
  show look (D2 σ.b id (.row nl T n sz el)) id=_;rw[Ji,aS rfl]
 have xH:∀ x,L.own id x->¬jE B L' x:=by
  rintro x hx (h|⟨i,h1,h2⟩)
  .have:=hB x h;have:=(r.hw id x hx).1;omega
  .exact h2 (r.hi i id x h1 hx)
 have hold:iH (jE B L') (kr L') w (.sl nl n sz el) (L.val id):=by
  obtain⟨f,h1,h2,h3⟩:=r.hb id _ aff;rcases h1 with⟨h0,rfl⟩|⟨b,c,cur,h0,hg,pB,nN,nO,lq,ko⟩
  .rw [h0]
   exact .sl nl 0 sz el none 0 f (aV _) ag (λ_=>rfl) (λi j hi=>absurd hi (bk i)) (λi j hi=>absurd hi (bk i)) (λi j hi=>absurd hi (bk i)) (λi j hi=>absurd hi (bk i))
  .have rC:=(h2 b).2 (by rw[h0];rfl)
   rw[h0];refine .sl nl n sz el _ c f pB (by unfold maxLen at nN;omega) (λh=>by cases h) (λi j hi hj=>⟨(lq i j hi hj).2,λhn=>ko hn _ (dh (lq i j hi hj).1)⟩) (λi j hi hj=>(h3 i j hi hj).2)
    (λi j hi hj=>⟨b,0,rfl,xH b rC,(r.hw id b rC).2,?_⟩) (λi j hi hj=>iE.lr (h3 i j hi hj).1)
   rw[bX];simp only[World.cell?,hg];simpa using(lq i j hi hj).1
 refine⟨L',⟨r.hd,r.hs,λt=>?_,λi b' h=>?_,λi=>?_,λi x h=>⟨r.hn i x h.1,h.2⟩,λi x h=>r.hw i x h.1,λi i' x h k=>r.hi i i' x h.1 k.1,r.he,λh i b' k=>?_⟩,hold⟩
 .have k:=r.ht t
  rw[PS.Ip]at k ⊢;generalize σ.get t=p at k ⊢;show nT _ _ _ _ (if p.qQ.any (Nat.beq id)then .e .any else p) _;cases hp:p.qQ.any (Nat.beq id)with
  |true=>exact .any _
  |false=>
   rw[amX hp]at k;refine nT.move iE k λi hi vz=>⟨⟨vz,?_⟩,rfl,λ_=>rfl⟩
   rintro rfl;have:=dM.1 hp i hi;simp at this
 .rw [wL]at h
  split at h
  .cases h
  .rename_i hi
   exact(r.hb i b' h).later iE rfl (λx=>⟨λq=>q.1,λq=>⟨q,hi⟩⟩) (λ_=>rfl) λ_ _=>rfl
 .rw [wL]
  show L.oC i/\i≠id↔_;by_cases hi:i=id
  .subst hi;simp
  .simp only[hi,cW,ev,and_true,a7]
   exact r.hv i
 .rw [wL]at k
  split at k
  .cases k
  .exact r.hl h i b' k
theorem YZ{T:List TI}{t:TypeId}{x:TI}(h:mX T t=some x):x ∈ T/\x.id=t:=by
 induction T with
 |nil=>cases h
 |cons y l ih=>
  unfold mX at h;split at h
  .rename_i hb
   cases h;exact⟨aj,mU.1 hb⟩
  .obtain ⟨h1,h2⟩:=ih h
   exact⟨by simp[h1],h2⟩
theorem mJ.sd{P:Program}{T:List TI}(hT:mJ P T){t:TypeId}{x:TI}(h:mX T t=some x):P.underlying t=some x.d:=by
 obtain⟨h1,h2⟩:=YZ h;rw[<-h2];exact(hT x h1).1
theorem mJ.AF{P:Program}{T:List TI}(hT:mJ P T){t:TypeId}{x:TI}(h:mX T t=some x):P.info? t=some x.i:=by
 obtain⟨h1,h2⟩:=YZ h;rw[<-h2];exact(hT x h1).2
theorem CN{T:List TI}{t:TypeId}{d:TypeDesc}(h:yI T t=some d):∃ x,mX T t=some x/\x.d=d:=by
 unfold yI at h;split at h
 .rename_i x hx;exact⟨x,hx,by simpa using h⟩
 .cases h
section
variable {P:Program} {T:List TI} (hT:mJ P T) (w:World)
include hT
theorem xk{t:TypeId}{x:TI}(h:mX T t=some x):(sizeOf t).run P w = .ok x.i.size w:=by
 simp[sizeOf,typeInfo,hT.AF h]
theorem XN{t:TypeId}{x:TI}(h:mX T t=some x){z:Value}(hz:x.i.zero=some z):(zeroValue t).run P w = .ok z w:=by
 simp[zeroValue,typeInfo,hT.AF h,hz]
theorem JV{t:TypeId}{x:TI}(h:mX T t=some x):(isAgg t).run P w = .ok x.isAgg w:=by
 unfold isAgg TI.isAgg;rw[Sem.run_bind,run_underlying (hT.sd h) w];cases x.d<;>simp
theorem XM{t:TypeId}{x:TI}(h:mX T t=some x)(ha:x.isAgg=true)(b o:Nat)(vs:List Value)(hl:vs.length=x.i.size)
 (hc:∀ (j:Nat) (u:Value),vs[j]? = some u->w.cell? ⟨b,o+j,none⟩=some u):(loadVar t ⟨b,o,none⟩).run P w = .ok (.agg vs.toArray) w:=by
 have hr:=run_loadCells_list (P:=P) w ⟨b,o,none⟩ vs (λj v hv=>by rw[Addr.add_lit];exact hc j v hv);rw[hl]at hr;simp[loadVar,JV hT w h,ha,xk hT w h,hr]
theorem OM{t:TypeId}{x:TI}(h:mX T t=some x)(ha:x.isAgg=false)(b o:Nat)(u:Value)(hc:w.cell? ⟨b,o,none⟩=some u):(loadVar t ⟨b,o,none⟩).run P w = .ok u w:=by
 simp[loadVar,JV hT w h,ha,hc]
theorem ON{t:TypeId}{x:TI}(h:mX T t=some x)(b o:Nat)(E:TypeId)(cur:Array Value)(hg:w.heap[b]? = some (.cells cur E (0,0)))(v:Value)(hl:v.cells.toList.length=x.i.size)
 (ot:o+v.cells.toList.length<=cur.size) (h1:∀ u ∈ v.cells.toList,u.oneCell'=true):
 (storeVar t ⟨b,o,none⟩ v).run P w = .ok () (w.setRow b (cur.toList.take o++v.cells.toList++cur.toList.drop (o+v.cells.toList.length)).toArray):=by
 have hr:=run_storeCells_at P b o E v.cells.toList 0 cur w hg (by simpa using ot) h1;simp only[bB]at hr;have pM:v.cells.size=x.i.size:=by simpa using hl
 simp only[storeVar,Sem.run_bind,xk hT w h,Result.andThen,pM,cW,ado,a7,hr,Sem.run_ite,Sem.run_pure]
end
theorem rL.setRow{L:Lk}{w:World}{id b:Nat}(hb:L.own id b)(iE:∀ x,L.own id x->x<w.heap.size)(cs:Array Value):rL L w id (L.own id) (w.setRow b cs):=
 ⟨λx hx=>⟨.inl hx,by simpa using iE x hx⟩,aj,λx _ jJ=>setRow_other w b x cs (λe=>jJ (e▸hb)),rfl,rfl,rfl⟩
def kt(P:Program)(K:World->Prop)(w0:World)(B:Nat->Prop)(σ:PS)(o:Oper)(a:Act)(w:World)(u:kQ):Prop:=
 ∃ v w' L',((execOp a.eval o).run P w = .ok (.value v) w'\/((execOp a.eval o).run P w = .ok .skip w'/\v=undef))/\jD w0 B (σ.qW u.f) a w' L'/\nT (jE B L') (kr L') L' w' u.r v
section
variable {P:Program} {K:World->Prop} {w0:World} {B:Nat->Prop} {σ:PS} {o:Oper} {a:Act} {w:World} {L:Lk} {u:kQ}
theorem kt.pure(r:jD w0 B σ a w L){v:Value}(lN:(execOp a.eval o).run P w = .ok (.value v) w)(hf:u.f = .none)(hp:nT (jE B L) (kr L) L w u.r v):kt P K w0 B σ o a w u:=
 ⟨v,w,L,.inl lN,by rw[hf];exact r,hp⟩
theorem jD.read(r:jD w0 B σ a w L){p:PV}{v:Value}(hp:nT (jE B L) (kr L) L w p v){m:Nat}{l:List E}{is:List Nat}{jY:List Prop}(h:σ.read p m=some (l,is,jY))(ho:∀ q,q ∈ jY->q):
 ∃ b q vs,v = .pointer (some ⟨b,q,none⟩)/\ku (jE B L) (kr L) w l vs/\vs.length=m/\∀ (j:Nat) (u:Value),vs[j]? = some u->w.cell? ⟨b,q+j,none⟩=some u:=by
 have tab:∀ (b q:Nat) (g:Nat->E) (f:Nat->Value),(∀ j,j<m->w.cell? ⟨b,q+j,none⟩=some (f j)/\iH (jE B L) (kr L) w (g j) (f j)) ->
  ∃ vs:List Value,ku (jE B L) (kr L) w ((List.range m).map g) vs/\vs.length=m/\∀ (j:Nat) (u:Value),vs[j]? = some u->w.cell? ⟨b,q+j,none⟩=some u:=by
  intro b q g f hc;refine⟨(List.range m).map f,⟨aj,λi p x hp hx=>?_⟩,aj,λj u hu=>?_⟩
  .rw [cj]at hp hx
   obtain⟨i1,xK,rfl⟩:=cH.1 hp;obtain⟨i2,wQ,rfl⟩:=cH.1 hx;rw[xK]at wQ;cases wQ;obtain⟨iE,rfl⟩:=bZ.1 xK;simp at iE;simpa using(hc i iE).2
  .rw [cj]at hu
   obtain⟨i1,xK,rfl⟩:=cH.1 hu;obtain⟨iE,rfl⟩:=bZ.1 xK;simp at iE;simpa using(hc j iE).1
 cases p with
 |box id off=>
  simp only[PS.read]at h;split at h
  .rename_i T l0 ki
   split at h
   .rename_i hle
    simp only[bJ,ca]at h;obtain⟨rfl,rfl,rfl⟩:=h;obtain⟨b,vs,h1,h2,h3,h4,h5⟩:=r.hb id _ ki;obtain⟨_,b',k2,rfl⟩:=hp;rw[h1]at k2;cases k2;have Dc:=cJ hle;refine⟨b,off,(vs.drop off).take m,rfl,(h4.drop off).take m,by simp[h4.len];omega,λj u hu=>?_⟩;rw[dY]at hu;split at hu
    .rw [et]at hu
     simp only[World.cell?,h3];simpa using hu
    .cases hu
   .cases h
  .cases h
 |ql id sz i j=>
  simp only[PS.read]at h;split at h
  .rename_i nl T n s el ki
   split at h
   .rename_i hle
    simp only[bJ,ca]at h;obtain⟨rfl,rfl,rfl⟩:=h;simp only[bu]at hle;have e1:=mU.1 hle.1;have e2:=cJ hle.2;subst e1;have hi:i<n:=ho _ aj;obtain⟨f,h1,h2,h3⟩:=r.hb id _ ki;obtain⟨_,b,n',c',k2,rfl⟩:=hp;rcases h1 with⟨h1,_⟩|⟨b',c,cur,h1,hg,pB,nN,nO,lq,ko⟩
    .rw [k2]at h1;cases h1
    .rw [k2]at h1
     cases h1;obtain⟨vs,q1,q2,q3⟩:=tab b (i*s+j) (λq=>el i (j+q)) (λq=>f i (j+q)) (λq hq=>⟨by
      simp only[World.cell?,hg];have:=(lq i (j+q) hi ae).1;rw[<-cF]at this;simpa using this,(h3 i (j+q) hi ae).1⟩)
     exact⟨b,i*s+j,vs,rfl,q1,q2,q3⟩
   .cases h
  .cases h
 |e x=>
  cases x with
  |kz k el=>
   simp only[PS.read]at h;split at h
   .rename_i hle
    simp only[bJ,ca]at h;obtain⟨rfl,rfl,rfl⟩:=h;have Dc:=cJ hle;cases hp with
    |kz _ _ b q f hb iE hl cell kk=>
     obtain⟨vs,q1,q2,q3⟩:=tab b q el f (λj hj=>⟨cell j ae,kk j ae⟩);exact⟨b,q,vs,rfl,q1,q2,q3⟩
   .cases h
  |_=>cases h
 |_=>cases h
theorem GO{ti:TI}{l:List E}(h:zW ti=some l):∃ z,ti.i.zero=some z/\∀ (bs br:Nat->Prop) (w:World),ku bs br w l z.cells.toList/\∀ u ∈ z.cells.toList,u.oneCell'=true:=by
 unfold zW at h;split at h
 .rename_i z hz;exact⟨z,hz,λbs br w=>(iH.v (bs:=bs) (br:=br) (w:=w) z).cells h⟩
 .cases h
theorem jD.VV(r:jD w0 B σ a w L)(id:Nat)(T:TypeId)(l:List E)(v:Value)(lH:σ.bo id=none)(hv:ku (jE B L) (kr L) w l v.cells.toList)(h1:∀ u ∈ v.cells.toList,u.oneCell'=true)
 (ko:(!σ.nl||l.all E.nx)=true):
 ∃ L',jD w0 B (σ.qW (.new id (.cells T l))) a (w.alloc (.cells v.cells T)) L'/\nT (jE B L') (kr L') L' (w.alloc (.cells v.cells T)) (.box id 0) (.pointer (some ⟨w.heap.size,0,none⟩)):=by
 have hb:Below w.heap.size w (w.alloc (.cells v.cells T)):=(Below.refl _ _).alloc (aV _) _;have Tp:∀ x,¬L.own id x:=λx hx=>by have:=(r.hv id).1 (r.hn id x hx);rw[lH]at this;simp at this
 have ht:rL L w id (λx=>x=w.heap.size) (w.alloc (.cells v.cells T)):=⟨λx hx=>⟨.inr ae,av⟩,hb.size,λx hx _=>hb.block x hx,rfl,rfl,rfl⟩
 have hl:=ht.later (.pointer (some ⟨w.heap.size,0,none⟩)) (λ_=>undef);refine⟨_,r.new id (.cells T l) (λx=>x=w.heap.size) (.pointer (some ⟨w.heap.size,0,none⟩)) (λ_=>undef) _ lH (λx hx=>by subst hx;simp) hb
  ⟨w.heap.size,v.cells.toList,Lk.pt,λx=>Lk.sF x,by rw[Array.toArray_toList];exact heap_alloc_new w _,hv.mono λ_ _=>hl.lr,h1⟩ ko,Lk.A6,w.heap.size,Lk.pt,rfl⟩
theorem BY{d:Option Tmp}{b:Bx}{rr:Nat->PV}{jY:List Prop}(h:xg σ d b rr jY=some u):∃ id,d=some id/\σ.bo id=none/\(!σ.nl||b.nl)=true/\u={ r:=rr id,f:=.new id b,jY:=jY }:=by
 unfold xg at h;split at h
 .rename_i id
  split at h
  .rename_i lH
   split at h
   .rename_i hc
    cases h;exact⟨id,rfl,lH,hc,rfl⟩
   .cases h
  .cases h
 .cases h
end
theorem GH{k:IntKind}{z:Int}(h:ky k z):k.wrap z=z:=by
 cases k<;>simp only[ky]at h<;>simp only[IntKind.wrap,IntKind.bits,IntKind.signed]<;>simp<;>(try split)<;>omega
theorem akl{k:IntKind}{x y:Int}(h:ky k x)(hy:0<y):ky k (x.tdiv y):=by
 by_cases h0:0<=x
 .have h1:0<=x/y:=Int.ediv_nonneg h0 ae 
  have h2:x/y<=x:=Int.ediv_le_self y h0;rw[an9 h0];cases k<;>simp only[ky]at h ⊢ <;> omega
 .obtain ⟨z,rfl⟩:∃ z,x = -z:=⟨-x,ae⟩
  have h0:0<=z:= ae ;have h1:0<=z/y:=Int.ediv_nonneg h0 ae;have h2:z/y<=z:=Int.ediv_le_self y h0;rw[Int.neg_tdiv,an9 h0];cases k<;>simp only[ky]at h ⊢ <;> omega
theorem adb{P:Program}{op:BinOp}{k k':IntKind}{x y:Int}{v:Value}{jY:List Prop}(h:Lw op k x y=some (v,jY))(ho:∀ q,q ∈ jY->q)
 (hk:XP op k k'=true) (t:TypeId) (w:World):(binOp op t (.int k x) (.int k' y)).run P w = .ok v w:=by
 cases op<;>simp only[Lw,bJ,ca,reduceCtorEq]at h<;>(obtain⟨rfl,rfl⟩:=h)<;>(try (have TE:=ck hk;subst TE))
 case add=>
  rw[binOp_add];by_cases Is:k = .u32
  .subst Is;simp[Op.intArith,KE]
  .have e:KE k x y=x+y:=by cases k<;>first|rfl|exact absurd rfl Is
   have e2:PQ k x y=[ky k (x+y)]:=by cases k<;>first|rfl|exact absurd rfl Is
   rw[e];simp[Op.intArith,GH (ho (ky k (x+y)) (by rw[e2];simp))]
 case sub=>rw[binOp_sub];simp[Op.intArith,GH (ho (ky k (x-y)) aj)]
 case mul=>rw[binOp_mul];simp[Op.intArith,GH (ho (ky k (x*y)) aj)]
 case quo=>
  have h1:=ho (0<y) aj;have h2:=ho (ky k x) aj;rw[binOp_quo];have hy:¬y=0:= ae ;simp[Op.intDiv,hy,GH (akl h2 h1)]
 case rem=>
  have h1:=ho (0<y) aj;rw[binOp_rem];have hy:¬y=0:= ae ;simp[Op.intDiv,hy]
 case and=>rw[binOp_and,intBits_and];rfl
 case or=>rw[binOp_or,intBits_or];rfl
 case shl=>
  have h1:=ho (0<=y/\y<=k.bits) aj;rw[binOp_shl,shift_shl k k' x y h1.1 h1.2];rfl
 case shr=>
  have h1:=ho (0<=y/\y<=k.bits) aj;rw[binOp_shr,shift_shr k k' x y h1.1 h1.2];rfl
 case eql=>rw[binOp_eql];rfl
 case neq=>rw[binOp_neq];rfl
 case lss=>rw[binOp_lss];rfl
 case leq=>rw[binOp_leq];rfl
 case gtr=>rw[binOp_gtr];rfl
 case geq=>rw[binOp_geq];rfl
section
variable {P:Program} {K:World->Prop} {T:List TI} {O:qG} {w0:World} {B:Nat->Prop} {σ:PS} {o:Oper} {a:Act} {w:World} {L:Lk} {u:kQ}
theorem aeJ{x:Operand}(iG:o.op = .move x)(r:jD w0 B σ a w L)(h:jN P K T O σ o=some u):kt P K w0 B σ o a w u:=by
 simp only[jN,iG]at h;cases h;exact kt.pure r (by simp only[execOp,iG];rfl) rfl (r.op x)
theorem aer{x:Operand}(iG:o.op = .assign x)(r:jD w0 B σ a w L)(h:jN P K T O σ o=some u):kt P K w0 B σ o a w u:=by
 simp only[jN,iG]at h;cases h;exact kt.pure r (by simp only[execOp,iG];rfl) rfl (r.op x)
theorem aeL{c x y:Operand}(iG:o.op = .pick c x y)(r:jD w0 B σ a w L)(h:jN P K T O σ o=some u):kt P K w0 B σ o a w u:=by
 simp only[jN,iG]at h;have hc:=r.op c;split at h
 .rename_i hv
  rw[hv]at hc;have hc:=iH.kP hc;cases h;exact kt.pure r (by simp[execOp,iG,hc,asBool]) rfl (r.op x)
 .rename_i hv
  rw[hv]at hc;have hc:=iH.kP hc;cases h;exact kt.pure r (by simp[execOp,iG,hc,asBool]) rfl (r.op y)
 .cases h
theorem aeK{x:Operand}(iG:o.op = .nilCheck x)(r:jD w0 B σ a w L)(h:jN P K T O σ o=some u):kt P K w0 B σ o a w u:=by
 simp only[jN,iG]at h;have hc:=r.op x;split at h
 .rename_i hv
  rw[hv]at hc;cases h;obtain⟨k1,b,k2,k3⟩:=hc;exact kt.pure r (v:=a.eval x) (by simp[execOp,iG,k3]) rfl ⟨k1,b,k2,k3⟩
 .rename_i hv
  rw[hv]at hc;cases h;generalize hq:a.eval x=q at hc;refine kt.pure r (v:=q) ?_ rfl hc;cases hc;simp only[execOp,iG,hq];rfl
 .rename_i hv
  rw[hv]at hc;cases h;refine kt.pure r (v:=a.eval x) ?_ rfl hc;obtain⟨vs,e,_⟩:=iH.Ss hc;simp only[execOp,iG,e];rfl
 .rename_i hv
  rw[hv]at hc;cases h;refine kt.pure r (v:=a.eval x) ?_ rfl hc;obtain⟨vs,e,_⟩:=hc;simp only[execOp,iG,e];rfl
 .cases h
theorem aes(hT:mJ P T){op:BinOp}{t yt:TypeId}{x y:Operand}(iG:o.op = .binOp op t x y yt)(r:jD w0 B σ a w L)(h:jN P K T O σ o=some u)(ho:∀ q,q ∈ u.jY->q):kt P K w0 B σ o a w u:=by
 simp only[jN,iG]at h;have hx:=r.op x;have hy:=r.op y;split at h
 .rename_i k z k' z' uB BM
  rw[uB]at hx;rw[BM]at hy;have hx:=iH.kP hx;have hy:=iH.kP hy;split at h
  .rename_i hk
   obtain⟨rr,hr,rfl⟩:=cH.1 h;have lN:=adb (P:=P) (k':=k') hr ho hk t w;refine kt.pure r (v:=rr.1) ?_ rfl (.v _);simp only[execOp,iG,hx,hy,Sem.run_bind,eqGuard_at_int,Sem.run_pure,Result.andThen_ok,lN]
  .cases h
 .rename_i z z' uB BM
  rw[uB]at hx;rw[BM]at hy;have hx:=iH.kP hx;have hy:=iH.kP hy;split at h
  .rename_i hd
   obtain⟨ti,h1,h2⟩:=CN hd;have hu:P.underlying t=some .bool:=by rw[hT.sd h1,h2]
   split at h
   .cases h
    refine kt.pure r (v:=.bool (z==z')) ?_ rfl (.v _);simp only[execOp,iG,hx,hy,Sem.run_bind,eqGuard_at_bool,Sem.run_pure,Result.andThen_ok,run_eql_bool w t z z' hu]
   .cases h
    refine kt.pure r (v:=.bool (!(z==z'))) ?_ rfl (.v _);simp only[execOp,iG,hx,hy,Sem.run_bind,eqGuard_at_bool,Sem.run_pure,Result.andThen_ok];have:(binOp .neq t (.bool z) (.bool z')).run P w = .ok (.bool (!(z==z'))) w:=by
     simp only[binOp,Sem.run_bind,run_equal_bool w t z z' hu,Result.andThen_ok,Sem.run_pure]
    rw[this];rfl
   .cases h
  .cases h
 .rename_i nl n sz el uB BM
  rw[uB]at hx;rw[BM]at hy;have hy:=iH.kP hy;have hx:iH (jE B L) (kr L) w (.sl nl n sz el) (a.eval x):=hx;split at h
  .rename_i e hd
   obtain⟨ti,h1,h2⟩:=CN hd;have hu:P.underlying t=some (.slice e):=by rw[hT.sd h1,h2]
   have key:∀ A c,0<n->a.eval x = .slice A n c->iH (jE B L) (kr L) w (.sl nl n sz el) (.slice A n c)->A.isNone=false:=by
    intro A c hn e1 hr;cases A with
    |some ad=>rfl
    |none=>
     cases hr with
     |sl _ _ _ _ _ _ f hc hm h0=>have:=h0 rfl;omega
   generalize hv:a.eval x=vx at hx;cases hx with
   |sl _ _ _ _ A c f hc hm h0 hl hr cell k=>
    have wX:iH (jE B L) (kr L) w (.sl nl n sz el) (.slice A n c):=.sl nl n sz el A c f hc hm h0 hl hr cell k;split at h
    .cases h
     have hn:0<n:=ho _ aj;refine kt.pure r (v:=.bool false) ?_ rfl (.v _);simp only[execOp,iG,hv,hy,Sem.run_bind,eqGuard_at_slice,Sem.run_pure,Result.andThen_ok,Lib.run_eql_slice_nil w t e A n c 0 0 hu,key A c hn hv wX]
    .cases h
     have hn:0<n:=ho _ aj;refine kt.pure r (v:=.bool true) ?_ rfl (.v _);simp only[execOp,iG,hv,hy,Sem.run_bind,eqGuard_at_slice,Sem.run_pure,Result.andThen_ok,run_neq_slice_nil_any w t e A n c 0 0 hu,key A c hn hv wX,dz]
    .cases h
  .cases h
 .rename_i xe ye uB BM
  rw[uB]at hx;rw[BM]at hy;split at h
  .rename_i v hv
   cases h;obtain⟨h1,h2⟩:=ho _ (List.mem_singleton.2 rfl) _ _ w _ _ x y hx hy;refine kt.pure r (v:=v) ?_ rfl (.v _);simp only[execOp,iG,Sem.run_bind,h1,Result.andThen_ok,h2,Sem.run_pure]
  .cases h
 .cases h
theorem aeO{op:UnOp}{t:TypeId}{x:Operand}(iG:o.op = .unOp op t x)(r:jD w0 B σ a w L)(h:jN P K T O σ o=some u)(ho:∀ q,q ∈ u.jY->q):kt P K w0 B σ o a w u:=by
 simp only[jN,iG]at h;have hx:=r.op x;split at h
 .rename_i z hv
  rw[hv]at hx;have hx:=iH.kP hx;cases h;exact kt.pure r (v:=.bool (!z)) (by simp[execOp,iG,hx,Op.unary]) rfl (.v _)
 .rename_i k z hv
  rw[hv]at hx;have hx:=iH.kP hx;cases h;have:=GH (ho (ky k (0-z)) aj);refine kt.pure r (v:=.int k (0-z)) ?_ rfl (.v _);simp only[execOp,iG,hx,Op.unary,Op.intArith,this];rfl
 .cases h
theorem aew(hT:mJ P T){src dst:TypeId}{x:Operand}(iG:o.op = .convert src dst x)(r:jD w0 B σ a w L)(h:jN P K T O σ o=some u):kt P K w0 B σ o a w u:=by
 simp only[jN,iG]at h;have hx:=r.op x;split at h
 .rename_i k ts k' z hd hs hv
  rw[hv]at hx;have hx:=iH.kP hx;obtain⟨td,h1,h2⟩:=CN hd;have hu:P.underlying dst=some (.int k):=by rw[hT.sd h1,h2]
  have hk:P.intKind dst=k:=by simp[Program.intKind,hu]
  have lN:=run_convert_int (P:=P) w src dst k' z (by rw[hT.sd hs];rfl) (by rw[hk];exact hu);rw[hk]at lN;cases h;exact kt.pure r (v:=.int k (k.wrap z)) (by simp only[execOp,iG,hx,Sem.run_bind,lN];rfl) rfl (.v _)
 .cases h
theorem aex{x:Operand}{i:Nat}(iG:o.op = .extract x i)(r:jD w0 B σ a w L)(h:jN P K T O σ o=some u):kt P K w0 B σ o a w u:=by
 simp only[jN,iG]at h;have hx:=r.op x;split at h
 .rename_i l hv
  rw[hv]at hx;obtain⟨vs,e,hr⟩:=iH.YW hx;split at h
  .rename_i y hy
   cases h;have iE:i<vs.length:=by rw[hr.len];exact(bZ.1 hy).1
   have Dp:=bg iE;refine kt.pure r (v:=vs[i]) ?_ rfl (hr.lr i y _ hy Dp);simp only[execOp,iG,e,Instr.extract,fY,Dp];rfl
  .cases h
 .cases h
theorem aey(hT:mJ P T){t:TypeId}{x:Operand}{f:Nat}(iG:o.op = .field t x f)(r:jD w0 B σ a w L)(h:jN P K T O σ o=some u):kt P K w0 B σ o a w u:=by
 simp only[jN,iG]at h;have hx:=r.op x;split at h
 .rename_i l fs hv hd
  obtain⟨ti,h1,h2⟩:=CN hd;have hu:P.underlying t=some (.struct fs):=by rw[hT.sd h1,h2]
  rw[hv]at hx;obtain⟨vs,e,hr⟩:=iH.CA hx;split at h
  .rename_i fd Mr
   split at h
   .rename_i ft Mt
    split at h
    .cases h
    .rename_i hag
     split at h
     .rename_i y hy
      cases h;have iE:fd.offset<vs.length:=by rw[hr.len];exact(bZ.1 hy).1
      have Dp:=bg iE;refine kt.pure r (v:=vs[fd.offset]) ?_ rfl (hr.lr fd.offset y _ hy Dp);simp only[execOp,iG,e,Instr.field,asAgg,Sem.run_bind,Sem.run_pure,Result.andThen_ok,run_underlying hu,Mr,part,JV hT w Mt,hag,fY,Dp];rfl
     .cases h
   .cases h
  .cases h
 .cases h
theorem abN{ps:List PV}{l:List CV}{vs:List Value}(h:yG ps=some l)(hlen:vs.length=ps.length)(hr:∀ (i:Nat) (p:PV) (x:Value),ps[i]? = some p->vs[i]? = some x->nT (jE B L) (kr L) L w p x):
 vs.length=l.length/\∀ (i:Nat) (c:CV) (x:Value),l[i]? = some c->vs[i]? = some x->yx (jE B L) (kr L) L w c x:=by
 induction ps generalizing l vs with
 |nil=>cases h;exact⟨hlen,λi c x hc=>by simp at hc⟩
 |cons p ps ih=>
  cases vs with
  |nil=>simp at hlen
  |cons y vs=>
   have step:∀ (c0:CV) (l':List CV),yG ps=some l'->yx (jE B L) (kr L) L w c0 y->l=c0::l' ->
    (y::vs).length=l.length/\∀ (i:Nat) (c:CV) (x:Value),l[i]? = some c->(y::vs)[i]? = some x->yx (jE B L) (kr L) L w c x:=by
    intro c0 l' pM oM hl;obtain⟨i1,i2⟩:=ih pM (by simpa using hlen) (λi p x hp hx=>hr (i+1) p x (by simpa using hp) (by simpa using hx));subst hl;refine⟨by simp[i1],λi c x hc hx=>?_⟩;cases i with
    |zero=>simp at hc hx;subst hc hx;exact oM
    |succ i=>simp at hc hx;exact i2 i c x hc hx
   have h0:=hr 0 p y rfl rfl;cases p with
   |e x=>
    simp only[yG]at h;obtain⟨l',pM,rfl⟩:=cH.1 h;exact step (.e x) l' pM h0 rfl
   |box id off=>
    cases off with
    |zero=>
     simp only[yG]at h;obtain⟨l',pM,rfl⟩:=cH.1 h;exact step (.box id) l' pM h0 rfl
    |succ=>simp[yG]at h
   |_=>simp[yG]at h
theorem aeE{fn:Fn}{first cap:Array Operand}(iG:o.op = .makeFunc fn first cap)(r:jD w0 B σ a w L)(h:jN P K T O σ o=some u):kt P K w0 B σ o a w u:=by
 cases fn with
 |func f=>
  simp only[jN,iG]at h;split at h
  .rename_i afj
   have hf:first = #[]:=by simpa using afj
   subst hf;split at h
   .rename_i l hl
    cases h;have hc:=abN (B:=B) (L:=L) (w:=w) (vs:=cap.toList.map a.eval) hl aj (λi p x hp hx=>by
     rw[cj]at hp hx;obtain⟨q,hq,rfl⟩:=cH.1 hp;rw[hq]at hx;simp at hx;subst hx;exact r.op q)
    refine kt.pure r (v:=.func (.func f) #[] (cap.toList.map a.eval).toArray) ?_ rfl ⟨cap.toList.map a.eval,rfl,hc.1,hc.2⟩;have e1:cap.map a.eval=(cap.toList.map a.eval).toArray:=by apply di;simp
    have e2:(#[]:Array Operand).map a.eval = #[]:= aj ;simp only[execOp,iG,Instr.makeFunc,e1,e2,Sem.run_bind,Sem.run_pure,Result.andThen_ok]
   .cases h
  .cases h
 |_=>simp[jN,iG]at h
theorem aeA(hT:mJ P T){t:TypeId}{x i:Operand}(iG:o.op = .index t x i)(r:jD w0 B σ a w L)(h:jN P K T O σ o=some u)(ho:∀ q,q ∈ u.jY->q):kt P K w0 B σ o a w u:=by
 simp only[jN,iG]at h;have hx:=r.op x;have hi:=r.op i;split at h
 .rename_i l k z hv hw
  rw[hv]at hx;rw[hw]at hi;have ei:=iH.kP hi;obtain⟨vs,e,hr⟩:=iH.CA hx;split at h
  .rename_i tt rD
   split at h
   .rename_i n e' hd
    have hu:P.underlying t=some (.array n e'):=by rw[hT.sd rD,hd]
    split at h
    .rename_i te pR
     split at h
     .rename_i hc
      simp only[bu,mU]at hc;cases h;obtain⟨y7,tK⟩:=ho (0<=z/\z<n) aj;refine kt.pure r (v:=.agg ((vs.drop (z.toNat*te.i.size)).take te.i.size).toArray) ?_ rfl ((hr.drop _).take _).agg;simp only[execOp,iG,e,ei,Instr.index,asIntOf,Sem.run_bind,Sem.run_pure,Result.andThen_ok,run_underlying hu,y7,tK,and_self,bn,xk hT w pR,part,JV hT w pR,hc.1];simp
     .cases h
    .cases h
   .cases h
  .cases h
 .cases h
theorem aez(hT:mJ P T){t:TypeId}{x:Operand}{f:Nat}(iG:o.op = .fieldAddr t x f)(r:jD w0 B σ a w L)(h:jN P K T O σ o=some u):kt P K w0 B σ o a w u:=by
 simp only[jN,iG]at h;have hx:=r.op x;split at h
 .rename_i fs hd
  obtain⟨ti,h1,h2⟩:=CN hd;have hu:P.underlying t=some (.struct fs):=by rw[hT.sd h1,h2]
  split at h
  .rename_i fd Mr
   split at h
   .rename_i ft Mt
    split at h
    .cases h
    .rename_i jJ
     have afr:¬ft.i.size=0:=λe=>jJ (mU.2 e)
     have lN:∀ b off,a.eval x = .pointer (some ⟨b,off,none⟩)->(execOp a.eval o).run P w = .ok (.value (.pointer (some ⟨b,off+fd.offset,none⟩))) w:=by
      intro b off e;simp only[execOp,iG,e,Instr.fieldAt,Instr.sureAddr,fieldPlace,Sem.run_bind,run_underlying hu,Result.andThen_ok,Mr,Sem.run_pure,xk hT w Mt,afr,a7,Addr.add_lit]
     split at h
     .rename_i id off hv
      rw[hv]at hx;obtain⟨k1,b,k2,k3⟩:=hx;cases h;exact kt.pure r (lN b off k3) rfl ⟨k1,b,k2,rfl⟩
     .rename_i id sz i j hv
      rw[hv]at hx;obtain⟨k1,b,n,c,k2,k3⟩:=hx;cases h;exact kt.pure r (lN b _ k3) rfl ⟨k1,b,n,c,k2,by rw[cF]⟩
     .rename_i m el hv
      rw[hv]at hx;split at h
      .rename_i hle
       have Dc:=cJ hle;cases h;generalize hq:a.eval x=q at hx;cases hx with
       |kz _ _ b off g hb iE hl cell kk=>
        refine kt.pure r (lN b off hq) rfl (.kz _ _ b _ (λj=>g (fd.offset+j)) hb iE (λj hj=>hl _ ae) (λj hj=>?_) (λj hj=>kk _ ae));have:=cell (fd.offset+j) ae;rwa[<-cF]at this
      .cases h
     .cases h
   .cases h
  .cases h
 .cases h
end
section
variable {P:Program} {K:World->Prop} {T:List TI} {O:qG} {w0:World} {B:Nat->Prop} {σ:PS} {o:Oper} {a:Act} {w:World} {L:Lk} {u:kQ}
theorem ag2(hT:mJ P T){t:TypeId}{x:Operand}{ti:TI}(qX:mX T t=some ti)(iG:o.op = .load t x)(r:jD w0 B σ a w L)(h:FC ti (σ.read (σ.op x) ti.i.size)=some u)(ho:∀ q,q ∈ u.jY->q):kt P K w0 B σ o a w u:=by
 cases hr:σ.read (σ.op x) ti.i.size with
 |none=>rw[hr]at h;cases h
 |some y=>
  obtain⟨l,is,jY⟩:=y;rw[hr]at h;simp only[FC]at h;by_cases ha:ti.isAgg=true
  .rw [aS ha]at h
   cases h;obtain⟨b,q,vs,e,h1,h2,h3⟩:=r.read (r.op x) hr ho;refine kt.pure r (v:=.agg vs.toArray) ?_ rfl h1.agg;simp only[execOp,iG,e,Instr.loadAt,Instr.sureAddr,Sem.run_bind,Sem.run_pure,Result.andThen_ok,XM hT w qX ha b q vs h2 h3]
  .rw [aR ha]at h
   have C5:ti.isAgg=false:=by simpa using ha
   split at h
   .rename_i p
    cases h;obtain⟨b,q,vs,e,h1,h2,h3⟩:=r.read (r.op x) hr ho;obtain⟨y,ys,rfl,hy,Dr⟩:=h1.mg;refine kt.pure r (v:=y) ?_ rfl hy;have hc:=h3 0 y rfl;simp only[execOp,iG,e,Instr.loadAt,Instr.sureAddr,Sem.run_bind,Sem.run_pure,Result.andThen_ok,OM hT w qX C5 b q y (by simpa using hc)]
   .cases h
theorem aeD(hT:mJ P T){t:TypeId}{x:Operand}(iG:o.op = .load t x)(r:jD w0 B σ a w L)(h:jN P K T O σ o=some u)(ho:∀ q,q ∈ u.jY->q):kt P K w0 B σ o a w u:=by
 simp only[jN,iG,Ib]at h;split at h
 .rename_i ti qX
  split at h
  .rename_i id i n pQ
   by_cases ha:ti.isAgg=true
   .rw [aS ha]at h;cases h
   .rw [aR ha]at h
    have C5:ti.isAgg=false:=by simpa using ha
    cases h;have hx:=r.op x;cases hp:σ.op x with
    |ql id' sz i' j=>
     rw[hp]at pQ hx;simp only[Cg]at pQ;split at pQ
     .rename_i nl T1 T0 n' sz' len el ki
      split at pQ
      .rename_i hc
       simp only[bJ,ca]at pQ;obtain⟨rfl,rfl,rfl⟩:=pQ;simp only[bu]at hc;have e1:=mU.1 hc.1;have e2:=mU.1 hc.2;subst e1 e2;have hi:i'<n':=ho _ aj;obtain⟨b,c,cur,f,h1,h2,h3,h4,h5,h6,h7,h8,h9,wH,xC⟩:=r.hb id' _ ki;obtain⟨k1,b',n2,c2,k2,k3⟩:=hx;rw[h1]at k2;cases k2;refine kt.pure r (v:=L.jz id' i') ?_ rfl ⟨k1,rfl⟩;have lq:w.cell? ⟨b,i'*1+0,none⟩=some (L.jz id' i'):=by
        simp only[World.cell?,h2];simpa using h6 i' hi aj 
       simp only[execOp,iG,k3,Instr.loadAt,Instr.sureAddr,Sem.run_bind,Sem.run_pure,Result.andThen_ok,OM hT w qX C5 b _ _ lq]
      .cases pQ
     .cases pQ
    |_=>rw[hp]at pQ;cases pQ
  .exact ag2 hT qX iG r h ho
 .cases h
theorem Wm{bs br:Nat->Prop}{l m:List E}{vs us:List Value}(h:ku bs br w l vs)(k:ku bs br w m us)(off:Nat):ku bs br w (AT l off m) (vs.take off++us++vs.drop (off+us.length)):=by
 unfold AT;rw[k.len];exact((h.take off).app k).app (h.drop _)
theorem aiw{q:E->Bool}{l m:List E}(h:l.all q=true)(k:m.all q=true)(off:Nat):(AT l off m).all q=true:=by
 unfold AT;rw[List.all_append,List.all_append,k];have h1:(l.take off).all q=true:=bH.2 λx hx=>bH.1 h x (eo hx)
 have h2:(l.drop (off+m.length)).all q=true:=bH.2 λx hx=>bH.1 h x (eE hx)
 rw[h1,h2];rfl
theorem aeN(hT:mJ P T){t:TypeId}{x y:Operand}(iG:o.op = .store t x y)(r:jD w0 B σ a w L)(h:jN P K T O σ o=some u)(ho:∀ q,q ∈ u.jY->q):kt P K w0 B σ o a w u:=by
 simp only[jN,iG,Ig]at h;have hx:=r.op x;have hy:=r.op y;split at h
 .rename_i ti qX
  split at h
  .
   rename_i id off e rT Fa;rw[rT]at hx;rw[Fa]at hy;split at h
   .rename_i T1 l m ki hm
    split at h
    .rename_i hc
     cases h;simp only[bu]at hc;have c1:=mU.1 hc.1.1;have c2:=cJ hc.1.2;obtain⟨b,vs,h1,h2,h3,h4,h5⟩:=r.hb id _ ki;obtain⟨k1,b',k2,k3⟩:=hx;rw[h1]at k2;cases k2;obtain⟨q1,q2⟩:=hy.cells hm;have ht:=rL.setRow (L:=L) ((h2 b).2 rfl) (λx hx=>(r.hw id x hx).2) (vs.take off++(a.eval y).cells.toList++vs.drop (off+(a.eval y).cells.toList.length)).toArray;have hl:=ht.later (L.val id) (L.jz id);refine⟨undef,_,_,.inr ⟨?_,rfl⟩,r.uT id (.cells T1 (AT l off m)) _ k1 ht ⟨b,_,by rw[Lk.pt];exact h1,λx=>(Lk.sF x).trans (h2 x),setRow_heap w b _ _ T1 _ h3,(Wm h4 q1 off).mono λ_ _=>hl.lr,?_⟩ ?_,.any _⟩
     .have hr:=ON hT w qX b off T1 vs.toArray h3 (a.eval y) (by rw[q1.len,c1]) (by rw[q1.len,fE,h4.len];exact c2) q2
      simp only[execOp,iG,k3,Instr.storeAt,Instr.sureAddr,Sem.run_bind,Sem.run_pure,Result.andThen_ok,hr]
     .intro v hv
      simp only[dH]at hv;rcases hv with(hv|hv)|hv
      .exact h5 v (eo hv)
      .exact q2 v hv
      .exact h5 v (eE hv)
     .intro hn
      have:=hc.2;rw[hn]at this;exact aiw (r.hl hn id _ ki) (by simpa using this) off
    .cases h
   .cases h
  .
   rename_i id sz i j e rT Fa;rw[rT]at hx;rw[Fa]at hy;split at h
   .rename_i nl T1 n s el m ki hm
    split at h
    .rename_i hc
     cases h;simp only[bu]at hc;have c1:=mU.1 hc.1.1.1.1;have c2:=mU.1 hc.1.1.1.2;have c3:=cJ hc.1.1.2;subst c2;have hi:i<n:=ho _ aj;obtain⟨f,h1,h2,h3⟩:=r.hb id _ ki;obtain⟨k1,b',n',c',k2,k3⟩:=hx;rcases h1 with⟨h1,_⟩|⟨b,c,cur,h1,hg,pB,nN,nO,lq,ko⟩
     .rw [k2]at h1;cases h1
     .rw [k2]at h1
      cases h1;obtain⟨q1,q2⟩:=hy.cells hm;have oh:L.own id b':=(h2 b').2 (by rw[k2];rfl);have anz:i*s+s<=cur.size:=by
       rw[nO];have:=bE s (show i+1<=c' by omega);rwa[bL,bK]at this
      have ot:i*s+j+(a.eval y).cells.toList.length<=cur.size:=by rw[q1.len];omega
      have ht:=rL.setRow (L:=L) oh (λx hx=>(r.hw id x hx).2) (cur.toList.take (i*s+j)++(a.eval y).cells.toList++cur.toList.drop (i*s+j+(a.eval y).cells.toList.length)).toArray;have hl:=ht.later (L.val id) (L.jz id);refine⟨undef,_,_,.inr ⟨?_,rfl⟩,r.uT id _ _ k1 ht ⟨λi' j'=>if i'=i/\j<=j'/\j'<j+m.length then(a.eval y).cells.toList.getD (j'-j) undef else f i' j',?_,λx=>?_,?_⟩ ?_,.any _⟩
      .have hr:=ON hT w qX b' (i*s+j) T1 cur hg (a.eval y) (by rw[q1.len,c1]) ot q2
       simp only[execOp,iG,k3,Instr.storeAt,Instr.sureAddr,Sem.run_bind,Sem.run_pure,Result.andThen_ok,hr]
      .rw [Lk.pt]
       refine .inr ⟨b',c',_,k2,setRow_heap w b' _ _ T1 _ hg,pB,nN,?_,?_,?_⟩
       .simp only[fE,ch,b8,eu,dB]
        have afk:=ot;simp only[dB]at afk;rw[cT ae];omega
       .intro i' j' oH sn
        obtain⟨o1,o2⟩:=lq i' j' oH sn;have hlen:i'*s+j'<cur.size:=by
         rw[nO];have:=bE s (show i'+1<=c' by omega);rw[bL,bK]at this;omega
        have qn:i'≠i->i'*s+j'<i*s\/i*s+s<=i'*s+j':=by
         intro jJ;rcases Nat.lt_or_gt_of_ne jJ with iE|iE
         .left
          have:=bE s (show i'+1<=i from iE);rw[bL,bK]at this;omega
         .right
          have:=bE s (show i+1<=i' from iE);rw[bL,bK]at this;omega
        simp only[fY];rw[List.append_assoc,fD,b8,dB,cT ae];by_cases mr:i'=i/\j<=j'/\j'<j+m.length
        .obtain ⟨rfl,p1,p2⟩:=mr
         rw[aR ae,dL (by rw[q1.len];omega)];have e1:i'*s+j'-(i'*s+j)=j'-j:= ae ;have iE:j'-j<(a.eval y).cells.toList.length:=by rw[q1.len];omega
         rw[aS ⟨rfl,p1,p2⟩,e1,aW,bg iE];exact⟨rfl,q2 _ (cz iE)⟩
        .rw [aR mr]
         refine⟨?_,o2⟩;by_cases jb:i'*s+j'<i*s+j
         .rw [aS jb,dY,aS jb]
          simpa using o1
         .rw [aR jb,ej,et]
          .have:i*s+j+(a.eval y).cells.toList.length+(i'*s+j'-(i*s+j)-(a.eval y).cells.toList.length)=i'*s+j':=by
            rw[q1.len];by_cases EY:i'=i
            .subst EY;omega
            .have:=qn EY;omega
           rw[this];simpa using o1
          .rw [q1.len]
           by_cases EY:i'=i
           .subst EY;omega
           .have:=qn EY;omega
       .intro hn v hv
        simp only[fZ,dH]at hv;rcases hv with(hv|hv)|hv
        .exact ko hn v (by have:=eo hv;simpa using this)
        .obtain ⟨q,hq⟩:=dg.1 hv
         have vE:q<m.length:=by rw[<-q1.len];exact(bZ.1 hq).1
         have hmn:m.all E.nx=true:=by have:=hc.1.2;rw[hn]at this;simpa using this
         exact(q1.lr q _ v (bg vE) hq).nx (bH.1 hmn _ (cz vE))
        .exact ko hn v (by have:=eE hv;simpa using this)
      .rw [Lk.pt]
       exact(Lk.sF x).trans (h2 x)
      .intro i' j' oH sn
       refine(λ(q:iH _ _ _ _ _/\_)=>⟨hl.lr q.1,q.2⟩) (?_:_/\_);dsimp only;by_cases mr:i'=i/\j<=j'/\j'<j+m.length
       .rw [aS mr,aS mr]
        have IQ:j'-j<m.length:= ae ;have Fj:j'-j<(a.eval y).cells.toList.length:=by rw[q1.len];omega
        rw[aW,bg IQ,aW,bg Fj];exact⟨q1.lr _ _ _ (bg IQ) (bg Fj),bH.1 hc.2 _ (cz IQ)⟩
       .rw [aR mr,aR mr]
        exact h3 i' j' oH sn
      .intro hn
       have:=r.hl hn id _ ki;exact this
    .cases h
   .cases h
  .
   rename_i id i id' k rT Fa;rw[rT]at hx;rw[Fa]at hy;split at h
   .rename_i nl T1 T0 n sz len el k' ki
    split at h
    .rename_i hc
     cases h;simp only[bu]at hc;have c1:=mU.1 hc.1;have c2:=mU.1 hc.2;subst c1;have e1:i=k':=ho _ aj;have e2:k=k':=ho _ aj;have hk:k'<n:=ho _ aj;subst e1 e2;obtain⟨b,c,cur,f,h1,h2,h3,h4,h5,h6,h7,h8,h9,wH,xC⟩:=r.hb id _ ki;obtain⟨k1,b',n',c',k2,k3⟩:=hx;obtain⟨_,I7⟩:=hy;rw[h1]at k2;cases k2;have yX:(L.jz id k).oneCell'=true/\sy (L.jz id k)=false/\(L.jz id k).cells = #[L.jz id k]:=by
      rcases(h8 k hk).1 with⟨e,_⟩|⟨_,_,_,e,_⟩<;>rw[e]<;>exact⟨rfl,rfl,rfl⟩
     have oh:L.own id b:=(h9 b).2 (.inl rfl);have ht:=rL.setRow (L:=L) oh (λx hx=>(r.hw id x hx).2) (cur.toList.take (k*1+0)++(a.eval y).cells.toList++cur.toList.drop (k*1+0+(a.eval y).cells.toList.length)).toArray;have hl:=ht.later (L.val id) (L.jz id);have xI:(a.eval y).cells.toList=[L.jz id k]:=by rw[I7,yX.2.2]
     have Tm:(cur.toList.take (k*1+0)++(a.eval y).cells.toList++cur.toList.drop (k*1+0+(a.eval y).cells.toList.length)).toArray=cur.setIfInBounds k (L.jz id k):=by
      rw[xI];apply di;simp only[bQ,bB,fT,aoa];rw[List.set_eq_take_append_cons_drop,aS (by simpa using(ae:k<cur.size))];simp
     rw[Tm]at ht hl;have IK:∀ x,x≠b->(w.setRow b (cur.setIfInBounds k (L.jz id k))).heap[x]? = w.heap[x]?:=λx hx=>setRow_other w b x _ hx
     refine⟨undef,_,_,.inr ⟨?_,rfl⟩,r.uT id _ _ k1 ht ⟨b,c,cur.setIfInBounds k (L.jz id k),f,by rw[Lk.pt];exact h1,setRow_heap w b _ _ T1 _ h2,h3,h4,by simpa using h5,?_,?_,?_,?_,?_,?_⟩ ?_,.any _⟩
     .have hr:=ON hT w qX b (k*1+0) T1 cur h2 (a.eval y) (by rw[xI];simpa using c2.symm) (by rw[xI];simp;omega) (by rw[xI];simpa using yX.1)
      rw[Tm]at hr;simp only[execOp,iG,k3,Instr.storeAt,Instr.sureAddr,Sem.run_bind,Sem.run_pure,Result.andThen_ok,hr]
     .intro q hq _
      rw[Lk.rG];by_cases tI:q=k
      .subst tI
       have:q<cur.size:= ae ;simp[this]
      .rw [an7 (λe=>tI e.symm)]
       exact h6 q hq (by simpa using λe=>tI e.symm)
     .intro v hv
      rcases Array.mem_or_eq_of_mem_setIfInBounds hv with hv|hv
      .exact h7 v hv
      .subst hv;exact⟨yX.1,yX.2.1⟩
     .intro q hq
      obtain⟨p1,p2⟩:=h8 q hq;rw[Lk.rG];exact⟨p1.block λx hx=>IK x λe=>xC q hq (e▸hx),λi j hi hj=>⟨hl.lr (p2 i j hi hj).1,(p2 i j hi hj).2⟩⟩
     .intro x
      rw[Lk.sF];refine(h9 x).trans ?_;simp only[Lk.rG]
     .simp only[Lk.rG];exact wH
     .simp only[Lk.rG];exact xC
     .intro hn
      have:=r.hl hn id _ ki;exact this
    .cases h
   .cases h
  .cases h
 .cases h
theorem aep(hT:mJ P T){t:TypeId}(iG:o.op = .alloc t)(r:jD w0 B σ a w L)(h:jN P K T O σ o=some u):kt P K w0 B σ o a w u:=by
 simp only[jN,iG]at h;split at h
 .rename_i ti qX
  split at h
  .rename_i z hz
   obtain⟨id,hd,lH,ko,rfl⟩:=BY h;obtain⟨zv,xP,rV⟩:=GO hz;obtain⟨q1,q2⟩:=rV (jE B L) (kr L) w;obtain⟨L',r',hp⟩:=r.VV id t z zv lH q1 q2 (by simpa[Bx.nl]using ko);refine⟨_,_,L',.inl ?_,r',hp⟩;simp only[execOp,iG,Instr.alloc,Sem.run_bind,XN hT w qX xP,Result.andThen_ok,newVar,newRow,run_newObj_alloc,Sem.run_pure]
  .cases h
 .cases h
theorem aet{t:TypeId}{x:Operand}(iG:o.op = .box t x)(r:jD w0 B σ a w L)(h:jN P K T O σ o=some u):kt P K w0 B σ o a w u:=by
 simp only[jN,iG]at h;have hx:=r.op x;split at h
 .rename_i e hv
  rw[hv]at hx;split at h
  .rename_i l hl
   obtain⟨id,hd,lH,ko,rfl⟩:=BY h;obtain⟨q1,q2⟩:=hx.cells hl;obtain⟨L',r',hp⟩:=r.VV id t l (a.eval x) lH q1 q2 (by simpa[Bx.nl]using ko);refine⟨_,_,L',.inl ?_,r',hp⟩;simp only[execOp,iG,Instr.box,Sem.run_bind,Result.andThen_ok,newVar,newRow,run_newObj_alloc,Sem.run_pure]
  .cases h
 .cases h
end
theorem ad5(us:List Value):∀ (off k:Nat) (cs:Array Value),off+k+us.length<=cs.size ->
 (us.zipIdx k).foldl (λcs (c:Value×Nat)=>cs.setIfInBounds (off+c.2) c.1) cs=(cs.toList.take (off+k)++us++cs.toList.drop (off+k+us.length)).toArray:=by
 induction us with
 |nil=>intro off k cs h;simp
 |cons x us ih=>
  intro off k cs h;simp only[List.zipIdx_cons,List.foldl_cons];rw[ih off (k+1) _ (by simp at h ⊢;omega)];apply di;simp only[de]at h;obtain⟨A,y,D,nO,hA⟩:∃ A y D,cs.toList=A++y::D/\A.length=off+k:=by
   have iE:off+k<cs.toList.length:= av ;refine⟨cs.toList.take (off+k),cs.toList[off+k],cs.toList.drop (off+k+1),?_,by rw[b8];omega⟩;rw[<-eI iE,gN]
  simp only[aoa,de,nO,<-hA];rw[List.set_append_right _ _ (aV _),cU,anM,
   show off+(k+1)+us.length=A.length+(us.length+1)by omega,show off+(k+1)=A.length+1 by omega,
   List.take_length_add_append,aob,List.take_left,aob]
  simp
theorem ad1(place:Nat->Option (Nat×Nat))(cs:Array Value)(i:Nat)(v:Value)(rest:List (Nat×Value))(off:Nat)(hp:place i=some (off,v.cells.toList.length))(ot:off+v.cells.toList.length<=cs.size):
 Instr.fill place cs ((i,v)::rest)=Instr.fill place (cs.toList.take off++v.cells.toList++cs.toList.drop (off+v.cells.toList.length)).toArray rest:=by
 have h1:¬(v.cells.size≠v.cells.toList.length\/off+v.cells.size>cs.size):=by simp at ot ⊢;omega
 have hf:=ad5 v.cells.toList off 0 cs (by simpa using ot);simp only[bB]at hf;have h2:(v.cells.zipIdx.foldl (λcs (c,j)=>cs.setIfInBounds (off+j) c) cs)=(cs.toList.take off++v.cells.toList++cs.toList.drop (off+v.cells.toList.length)).toArray:=by
  rw[<-hf,<-Array.foldl_toList,Array.toList_zipIdx]
 rw[Instr.fill,hp];simp only;rw[aR (by simpa using h1),h2]
section
variable {P:Program} {K:World->Prop} {T:List TI} {O:qG} {w0:World} {B:Nat->Prop} {σ:PS} {o:Oper} {a:Act} {w:World} {L:Lk} {u:kQ}
theorem LK(r:jD w0 B σ a w L){place:Nat->Option (Nat×Nat)}{ps:List (Nat×Operand)}{l m:List E}{cs:Array Value}(h:rO σ place l ps=some m)
 (hr:ku (jE B L) (kr L) w l cs.toList) (h1:∀ u ∈ cs,u.oneCell'=true):
 ∃ cs',Instr.fill place cs (ps.map λx=>(x.1,a.eval x.2))=some cs'/\ku (jE B L) (kr L) w m cs'.toList/\(∀ u ∈ cs',u.oneCell'=true):=by
 induction ps generalizing l cs with
 |nil=>
  simp only[rO]at h;cases h;exact⟨cs,rfl,hr,h1⟩
 |cons p ps ih=>
  obtain⟨i,x⟩:=p;simp only[rO]at h;have hx:=r.op x;split at h
  .rename_i off size e hp hv
   rw[hv]at hx;split at h
   .rename_i q hq
    split at h
    .rename_i hc
     simp only[bu]at hc;have c1:=mU.1 hc.1;have c2:=cJ hc.2;obtain⟨q1,q2⟩:=hx.cells hq;have hlen:(a.eval x).cells.toList.length=size:=by rw[q1.len,c1]
     have Bz:=hr.len;rw[eW,ad1 place cs i (a.eval x) _ off (by rw[hlen];exact hp) (by rw[q1.len];simp at Bz;omega)];refine ih h (Wm hr q1 off) λv hv=>?_
     simp only[fZ,dH]at hv;rcases hv with(hv|hv)|hv
     .exact h1 v (by have:=eo hv;simpa using this)
     .exact q2 v hv
     .exact h1 v (by have:=eE hv;simpa using this)
    .cases h
   .cases h
  .cases h
theorem Wg(ps:Array (Nat×Operand))(a:Act):(ps.map λ(x:Nat×Operand)=>(x.1,a.eval x.2)).toList=ps.toList.map λx=>(x.1,a.eval x.2):= aj 
theorem aim{P:Program}(hT:mJ P T){fs:List Field}{pl:List (Nat×Nat)}(h:F3 T fs=some pl):fs.mapM (λf=>(P.info? f.type).map λi=>(f.offset,i.size))=some pl:=by
 induction fs generalizing pl with
 |nil=>simp only[F3]at h;cases h;rfl
 |cons f fs ih=>
  simp only[F3]at h;split at h
  .rename_i ti l h1 h2
   cases h;simp[fc,hT.AF h1,ih h2]
  .cases h
theorem aeu(hT:mJ P T){t:TypeId}{ps:Array (Nat×Operand)}(iG:o.op = .build t ps)(r:jD w0 B σ a w L)(h:jN P K T O σ o=some u):kt P K w0 B σ o a w u:=by
 simp only[jN,iG]at h;have main:∀ (l:List E) (cs:Array Value),P.built t (ps.toList.map λx=>(x.1,a.eval x.2))=some cs->ku (jE B L) (kr L) w l cs.toList->u={ r:=.e (.agg l) }->kt P K w0 B σ o a w u:=by
  intro l cs hb hr hu;subst hu;have lN:=run_build (P:=P) w t (ps.map λ(x:Nat×Operand)=>(x.1,a.eval x.2)) cs (by rw[Wg];exact hb);refine kt.pure r (v:=.agg cs) ?_ rfl (by have:=hr.agg;rwa[Array.toArray_toList]at this);simp only[execOp,iG,Sem.run_bind,lN,Result.andThen_ok,Sem.run_pure]
 split at h
 .rename_i ti qX
  split at h
  .rename_i z hz
   obtain⟨zv,xP,rV⟩:=GO hz;obtain⟨q1,q2⟩:=rV (jE B L) (kr L) w;split at h
   .rename_i fs hd
    split at h
    .rename_i pl BI
     obtain⟨l,hl,rfl⟩:=cH.1 h;obtain⟨cs,p1,p2,_⟩:=LK r hl q1 (λu hu=>q2 u (by simpa using hu));refine main l cs ?_ p2 rfl;unfold Program.built;rw[hT.AF qX,hT.sd qX,hd];simp only[xP,aim hT BI];have:(λx:Nat=>pl.toArray[x]?)=λx=>pl[x]?:=by funext x;simp
     rw[this];exact p1
    .cases h
   .rename_i n e hd
    split at h
    .rename_i te pR
     obtain⟨l,hl,rfl⟩:=cH.1 h;obtain⟨cs,p1,p2,_⟩:=LK r hl q1 (λu hu=>q2 u (by simpa using hu));refine main l cs ?_ p2 rfl;unfold Program.built;rw[hT.AF qX,hT.sd qX,hd];simp only[xP,hT.AF pR];exact p1
    .cases h
   .cases h
  .cases h
 .cases h
theorem Xw{α:Type}(n:Nat)(l:List α):(lr n l).length=n*l.length:=by
 induction n with
 |zero=>simp[lr]
 |succ n ih=>simp only[lr,ch,ih,bL,bK];omega
theorem akc{α:Type}(n:Nat)(l:List α)(q:Nat)(h:q<n*l.length):(lr n l)[q]? = l[q%l.length]?:=by
 induction n generalizing q with
 |zero=>simp at h
 |succ n ih=>
  simp only[lr];rw[bL,bK]at h;by_cases hq:q<l.length
  .rw [dL hq,bC hq]
  .rw [ej ae,ih _ ae]
   congr 1;exact(Nat.mod_eq_sub_mod ae).symm
theorem akd{bs br:Nat->Prop}{z:List E}{zs:Array Value}(h:ku bs br w z zs.toList)(n:Nat):ku bs br w (lr n z) ((Array.range (n*zs.size)).map (zs[· % zs.size]!)).toList:=by
 have hl:=h.len;simp only[dB]at hl;refine⟨by simp[Xw,hl],λi p x hp hx=>?_⟩;have hi:i<n*zs.size:=by
  have:=(bZ.1 hx).1;simpa using this
 have hz:0<zs.size:=by
  rcases eh zs.size with h0|h0
  .rw [h0]at hi;simp at hi
  .exact h0
 rw[akc _ _ _ (by rw[<-hl];exact hi),<-hl]at hp;have iE:=bh i hz;simp[hi]at hx;subst hx;rw[e9 zs _ iE];exact h.lr _ p _ hp (by simp[iE])
theorem Yb(hB:∀ b,B b->b<w0.heap.size)(r:jD w0 B σ a w L)(e:TypeId)(n sz:Nat)(l:List E)(cs:Array Value)(nl:Bool)(hr:ku (jE B L) (kr L) w l cs.toList)(h1:∀ u ∈ cs,u.oneCell'=true)(hlen:cs.size=n*sz)
 (wT:n<=9223372036854775807) (ko:nl=true->l.all E.nx=true) (wU:l.all (E.nr 2)=true):
 jD w0 B σ a (w.alloc (.cells cs e)) L/\iH (jE B L) (kr L) (w.alloc (.cells cs e)) (.sl nl n sz λi j=>l.getD (i*sz+j) (.v (.bool false))) (.slice (some ⟨w.heap.size,0,none⟩) n n):=by
 have hb:Below w.heap.size w (w.alloc (.cells cs e)):=(Below.refl _ _).alloc (aV _) _;have hl:s9 L w L (w.alloc (.cells cs e)):=⟨hb.size,λ_ _ h=>h,λx hx _=>hb.block x hx⟩
 refine⟨r.later hb,?_⟩;have mr:∀ i j,i<n->j<sz->i*sz+j<cs.size:=by
  intro i j hi hj;rw[hlen];have:=bE sz (show i+1<=n from hi);rw[bL,bK]at this;omega
 have hll:=hr.len;simp only[dB]at hll;refine .sl nl n sz _ _ n (λi j=>cs.getD (i*sz+j) undef) (aV _) wT (λh=>by cases h) (λi j hi hj=>?_) (λi j hi hj=>?_) (λi j hi hj=>?_) (λi j hi hj=>?_)
 .have hq:=mr i j hi hj
  have e1:cs.getD (i*sz+j) undef=cs[i*sz+j]:=by simp[hq]
  rw[e1];refine⟨h1 _ (fX hq),λpO=>?_⟩;have uw:i*sz+j<l.length:= ae ;exact(hr.lr (i*sz+j) _ _ (bg uw) (by simp[hq])).nx (bH.1 (ko pO) _ (cz uw))
 .have hq:=mr i j hi hj
  have uw:i*sz+j<l.length:= ae ;rw[aW,bg uw];exact bH.1 wU _ (cz uw)
 .have hq:=mr i j hi hj
  refine⟨w.heap.size,0,rfl,λxH=>?_,aj,?_⟩
  .rcases xH with hx|⟨id,hx⟩
   .have:=hB _ hx;have:=r.he.size;omega
   .have:=(r.hw id _ hx).2;omega
  .rw [bX,World.cell?_alloc_new]
   simp[hq]
 .have hq:=mr i j hi hj
  have uw:i*sz+j<l.length:= ae ;have e1:cs.getD (i*sz+j) undef=cs[i*sz+j]:=by simp[hq]
  rw[e1,aW,bg uw];exact hl.lr (hr.lr (i*sz+j) _ _ (bg uw) (by simp[hq]))
theorem agS{l:List E}{vs:List Value}{bs br:Nat->Prop}{w:World}(h:ku bs br w l vs)(hl:l.all E.nx=true):∀ v ∈ vs,sy v=false:=by
 intro v hv;obtain⟨i,hi⟩:=dg.1 hv;obtain⟨xK,_⟩:=bZ.1 hi;have EZ:i<l.length:=by have:=h.len;omega
 exact(h.lr i _ v (bg EZ) hi).nx (bH.1 hl _ (cz EZ))
theorem aev(hT:mJ P T)(hB:∀ b,B b->b<w0.heap.size){t:TypeId}{n:Nat}{ps:Array (Nat×Operand)}(iG:o.op = .buildSlice t n ps)(r:jD w0 B σ a w L)(h:jN P K T O σ o=some u):kt P K w0 B σ o a w u:=by
 simp only[jN,iG]at h;split at h
 .rename_i tt rD
  split at h
  .rename_i e hd
   split at h
   .rename_i te pR
    split at h
    .rename_i z hz
     split at h
     .rename_i hc
      simp only[bu]at hc;have c1:=mU.1 hc.1.1;have c2:=cJ hc.2;obtain⟨zv,xP,rV⟩:=GO hz;obtain⟨q1,q2⟩:=rV (jE B L) (kr L) w;have hu:P.underlying t=some (.slice e):=by rw[hT.sd rD,hd]
      have AE:zv.cells.size=te.i.size:=by have:=q1.len;simp only[dB]at this;omega
      obtain⟨l,hl,h⟩:=gh.1 h;obtain⟨cs,p1,p2,p3⟩:=LK r hl (akd q1 n) (λv hv=>by
       simp only[fF,fG]at hv;obtain⟨q,hq,rfl⟩:=hv;have BN:0<zv.cells.size:=by
        rcases eh zv.cells.size with h0|h0
        .rw [h0]at hq;simp at hq
        .exact h0
       rw[e9 zv.cells _ (bh q BN)];exact q2 _ aj)
      have hlen:l.length=n*te.i.size:=by
       have:∀ (ps:List (Nat×Operand)) (l m:List E),rO σ (λi=>some (i*te.i.size,te.i.size)) l ps=some m->m.length=l.length:=by
        intro ps
        induction ps with
        |nil=>intro l m h;simp only[rO]at h;cases h;rfl
        |cons p ps ih=>
         intro l m h;obtain⟨i,x⟩:=p;simp only[rO]at h;split at h
         .split at h
          .split at h
           .rename_i hc
            simp only[bu]at hc;have:=cJ hc.2;rw[ih _ _ h];simp[AT];omega
           .cases h
          .cases h
         .cases h
       rw[this _ _ _ hl,Xw,c1]
      have nO:cs.size=n*te.i.size:=by have:=p2.len;simp only[dB]at this;omega
      have Tu:Instr.fill (λi=>some (i*te.i.size,te.i.size)) ((Array.range (n*te.i.size)).map (zv.cells[· % zv.cells.size]!)) (ps.map λ(x:Nat×Operand)=>(x.1,a.eval x.2)).toList=some cs:=by
       rw[Wg,<-AE];rw[<-AE]at p1;exact p1
      have lN:(execOp a.eval o).run P w = .ok (.value (.slice (some ⟨w.heap.size,0,none⟩) n n)) (w.alloc (.cells cs e)):=by
       have Au:¬(n*te.i.size>16777216):= ae ;by_cases h0:n*te.i.size=0
       .have e0:∀ g:Nat->Value,(Array.range 0).map g = #[]:=λg=>by simp[Array.range]
        have Tv:=Tu;rw[h0,e0]at Tv;have z24:¬(0>2^24):= ag ;simp only[execOp,iG,Instr.buildSlice,Sem.run_bind,run_underlying hu,Result.andThen_ok,xk hT w pR,Au,a7,h0,z24,bn,Sem.run_pure,e0,Tv,newRow,run_newObj_alloc]
       .simp only[execOp,iG,Instr.buildSlice,Sem.run_bind,run_underlying hu,Result.andThen_ok,xk hT w pR,Au,a7,h0,Sem.run_pure,XN hT w pR xP,Tu,newRow,run_newObj_alloc]
      have kj:n<=9223372036854775807:=by
       have:=fW n (cJ hc.1.2);omega
      by_cases wU:l.all (E.nr 2)=true
      .simp only[wU,ef,bq,a7]at h
       split at h
       .
        obtain⟨id,Ts,lH,ko,rfl⟩:=BY h;have hb:Below w.heap.size w (w.alloc (.cells cs e)):=(Below.refl _ _).alloc (aV _) _;have ht:rL L w id (λx=>x=w.heap.size) (w.alloc (.cells cs e)):=⟨λx hx=>⟨.inr ae,av⟩,hb.size,λx hx _=>hb.block x hx,rfl,rfl,rfl⟩
        have iE:=ht.later (.slice (some ⟨w.heap.size,0,none⟩) n n) (λ_=>undef);have BC:∀ i j,i<n->j<te.i.size->i*te.i.size+j<n*te.i.size:=by
         intro i j hi hj;have:=bE te.i.size (show i+1<=n from hi);rw[bL,bK]at this;omega
        refine⟨_,_,_,.inl lN,r.new id _ (λx=>x=w.heap.size) (.slice (some ⟨w.heap.size,0,none⟩) n n) (λ_=>undef) _ lH (λx hx=>by subst hx;simp) hb
         ⟨λi j=>cs.getD (i*te.i.size+j) undef,.inr ⟨w.heap.size,n,cs,Lk.pt,heap_alloc_new w _,aV _,by unfold maxLen;omega,nO,λi j hi hj=>?_,λhn u hu=>?_⟩,λx=>?_,λi j hi hj=>?_⟩ ko,Lk.A6,Lk.pt.symm⟩
        .have hq:i*te.i.size+j<cs.size:=by rw[nO];exact BC i j hi hj
         have e1:cs.getD (i*te.i.size+j) undef=cs[i*te.i.size+j]:=by simp[hq]
         show cs[i*te.i.size+j]? = some (cs.getD (i*te.i.size+j) undef)/\(cs.getD (i*te.i.size+j) undef).oneCell'=true;rw[e1];exact⟨by simp[hq],p3 _ aj⟩
        .exact agS p2 hn u (by simpa using hu)
        .rw [Lk.sF,Lk.pt]
         simp only[Value.ownBlock,bJ];exact eq_comm
        .have hq:i*te.i.size+j<cs.size:=by rw[nO];exact BC i j hi hj
         have vE:i*te.i.size+j<l.length:=by rw[hlen];exact BC i j hi hj
         have e1:cs.getD (i*te.i.size+j) undef=cs[i*te.i.size+j]:=by simp[hq]
         simp only[aW,bg vE,anN,e1];exact⟨iE.lr (p2.lr _ _ _ (bg vE) (by simp[hq])),bH.1 wU _ (cz vE)⟩
       split at h
       .rename_i C6
        cases h;obtain⟨r',hp⟩:=Yb hB r e n te.i.size l cs true p2 p3 nO kj (λ_=>C6) wU;exact⟨_,_,L,.inl lN,r',hp⟩
       .cases h
        obtain⟨r',hp⟩:=Yb hB r e n te.i.size l cs false p2 p3 nO kj (λh=>by cases h) wU;exact⟨_,_,L,.inl lN,r',hp⟩
      .simp [wU]at h
     .cases h
    .cases h
   .cases h
  .cases h
 .cases h
end
theorem Lt{P:Program}{t e:TypeId}(h:P.underlying t=some (.slice e)):P.elem t=e:=by simp[Program.elem,h]
theorem ac1{P:Program}{t e:TypeId}{n:Nat}(h:P.underlying t=some (.array n e)):P.elem t=e/\P.arrayLen t=n:=by simp[Program.elem,Program.arrayLen,h]
section
variable {P:Program} {K:World->Prop} {T:List TI} {O:qG} {w0:World} {B:Nat->Prop} {σ:PS} {o:Oper} {a:Act} {w:World} {L:Lk} {u:kQ}
theorem aeB(hT:mJ P T){t:TypeId}{x i:Operand}(iG:o.op = .indexAddr t x i)(r:jD w0 B σ a w L)(h:jN P K T O σ o=some u)(ho:∀ q,q ∈ u.jY->q):kt P K w0 B σ o a w u:=by
 simp only[jN,iG,Ia]at h;have hx:=r.op x;have hi:=r.op i;split at h
 .rename_i k z hpi
  rw[hpi]at hi;have hi:=iH.kP hi;split at h
  .rename_i tt rD
   split at h
   .
    rename_i e hd;have hu:P.underlying t=some (.slice e):=by rw[hT.sd rD,hd]
    have he:=Lt hu;split at h
    .rename_i te pR
     have lN:∀ (ad:Addr) (n c:Nat),a.eval x = .slice (some ad) n c->0<=z->z<n->(execOp a.eval o).run P w = .ok (.value (.pointer (some (ad.add (z.toNat*te.i.size))))) w:=by
      intro ad n c e1 h0 h1;have hr:=run_indexAt_slice (P:=P) w t ad n c k z (by rw[he];exact hu);rw[aS ⟨h0,h1⟩,he,xk hT w pR]at hr;simp only[execOp,iG,e1,hi,Sem.run_bind,hr,Result.andThen_ok,Sem.run_pure]
     split at h
     .rename_i nl n sz el rT
      rw[rT]at hx;split at h
      .rename_i hs
       simp only[bu]at hs;have uy:=cJ hs.2;have hs:=mU.1 hs.1;cases h;have hz:0<=z/\z<n:=ho _ aj;have I9:z.toNat<n:= ae ;generalize hq:a.eval x=q at hx;cases hx with
       |sl _ _ _ _ A c f hc hm h0 hl wU cell kk=>
        obtain⟨b,of,e1,hb,iE,_⟩:=cell z.toNat 0 I9 uy;subst e1;refine kt.pure r (lN ⟨b,of,none⟩ n c hq hz.1 hz.2) rfl ?_;rw[Addr.add_lit,hs];refine .kz sz _ b _ (λj=>f z.toNat j) (λhm=>hb (.inr hm)) iE (λj hj=>(hl _ _ I9 hj).1) (λj hj=>?_) (λj hj=>kk _ _ I9 hj);obtain⟨b',of',e2,_,_,yP⟩:=cell z.toNat j I9 hj;cases e2;rwa[<-cF]at yP
      .cases h
     .rename_i id rT
      rw[rT]at hx;split at h
      .rename_i nl T1 n sz el ki
       split at h
       .rename_i hs
        have hs:=mU.1 hs;cases h;have hz:0<=z/\z<n:=ho _ aj;obtain⟨f,h1,h2,h3⟩:=r.hb id _ ki;obtain⟨k1,k2⟩:=hx;rcases h1 with⟨h1,pO⟩|⟨b,c,cur,h1,hg,pB,nN,nO,lq,ko⟩
        .omega
        .rw [h1]at k2
         refine kt.pure r (lN ⟨b,0,none⟩ n c k2 hz.1 hz.2) rfl ⟨k1,b,n,c,h1,?_⟩;rw[Addr.add_lit,hs,bX,bB]
       .cases h
      .rename_i nl T1 T0 n sz len el pend ki
       split at h
       .rename_i hs
        have hs:=mU.1 hs;cases h;have hz:0<=z/\z<n:=ho _ aj;obtain⟨b,c,cur,f,h1,h2,h3,h4,h5,h6,h7,h8,h9,wH,xC⟩:=r.hb id _ ki;obtain⟨k1,k2⟩:=hx;rw[h1]at k2;refine kt.pure r (lN ⟨b,0,none⟩ n c k2 hz.1 hz.2) rfl ⟨k1,b,n,c,h1,?_⟩;rw[Addr.add_lit,hs,bX,bB]
       .cases h
      .cases h
     .cases h
    .cases h
   .
    rename_i n e hd;have hu:P.underlying t=some (.array n e):=by rw[hT.sd rD,hd]
    obtain⟨he,hn⟩:=ac1 hu;split at h
    .rename_i te pR
     have lN:∀ (ad:Addr),a.eval x = .pointer (some ad)->0<=z->z<n->(execOp a.eval o).run P w = .ok (.value (.pointer (some (ad.add (z.toNat*te.i.size))))) w:=by
      intro ad e1 h0 h1;have hr:=run_indexAt_array (P:=P) w t ad k z (by rw[he,hn];exact hu);rw[hn,aS ⟨h0,h1⟩,he,xk hT w pR]at hr;simp only[execOp,iG,e1,hi,Sem.run_bind,hr,Result.andThen_ok,Sem.run_pure]
     split at h
     .rename_i id off rT
      rw[rT]at hx;cases h;have hz:0<=z/\z<n:=ho _ aj;obtain⟨k1,b,k2,k3⟩:=hx;refine kt.pure r (lN _ k3 hz.1 hz.2) rfl ⟨k1,b,k2,?_⟩;rw[Addr.add_lit]
     .rename_i m el rT
      rw[rT]at hx;split at h
      .rename_i hs
       have hs:=mU.1 hs;cases h;have hz:0<=z/\z<n:=ho _ aj;have mr:∀ j,j<te.i.size->z.toNat*te.i.size+j<m:=by
        intro j hj;rw[<-hs];have:=bE te.i.size (show z.toNat+1<=n by omega);rw[bL,bK]at this;omega
       generalize hq:a.eval x=q at hx;cases hx with
       |kz _ _ b of f hb iE hl cell kk=>
        refine kt.pure r (lN _ hq hz.1 hz.2) rfl ?_;rw[Addr.add_lit];refine .kz te.i.size _ b _ (λj=>f (z.toNat*te.i.size+j)) hb iE (λj hj=>hl _ (mr j hj)) (λj hj=>?_) (λj hj=>kk _ (mr j hj));have:=cell _ (mr j hj);rwa[<-cF]at this
      .cases h
     .cases h
    .cases h
   .cases h
  .cases h
 .cases h
theorem aeM(hT:mJ P T){t:TypeId}{x:Operand}{lo hi:Option Operand}(iG:o.op = .slice t x lo hi none)(r:jD w0 B σ a w L)(h:jN P K T O σ o=some u)(ho:∀ q,q ∈ u.jY->q):kt P K w0 B σ o a w u:=by
 simp only[jN,iG,Ie]at h;have hx:=r.op x;split at h
 .rename_i nl n sz el rT
  rw[rT]at hx;split at h
  .rename_i tt rD
   split at h
   .rename_i e hd
    have hu:P.underlying t=some (.slice e):=by rw[hT.sd rD,hd]
    have he:=Lt hu;have Dl:P.underlying t=some (.slice (P.elem t)):=by rw[he];exact hu
    split at h
    .rename_i te pR
     split at h
     .rename_i hs
      have hs:=mU.1 hs;generalize hq:a.eval x=q at hx;cases hx with
      |sl _ _ _ _ A c f hc hm h0 hl wU cell kk=>
       have fin:∀ l h':Nat,l<=h'->h'<=n->iH (jE B L) (kr L) w (.sl nl (h'-l) sz λi j=>el (l+i) j) (sliced A l h' c te.i.size):=by
        intro l h' hlh hhn;unfold sliced;refine .sl nl (h'-l) sz _ _ (c-l) (λi j=>f (l+i) j) ae ae (λhA=>?_) (λi j hi hj=>hl _ _ ae hj) (λi j hi hj=>wU _ _ ae hj) (λi j hi hj=>?_) (λi j hi hj=>kk _ _ ae hj)
        .split at hA
         .have:=h0 hA;omega
         .have:=h0 (by simpa using hA);omega
        .obtain ⟨b,of,e1,hb,iE,lq⟩:=cell (l+i) j ae hj
         subst e1;rw[aR ae];refine⟨b,of+l*te.i.size,by rw[cK,Addr.add_lit],hb,iE,?_⟩;rw[hs];rw[bL]at lq;rw[<-lq];congr 2;omega
       have run:∀ (l h':Nat) (lo' oH:Option Value),lo.map a.eval=lo'->hi.map a.eval=oH->(Instr.slice t (.slice A n c) lo' oH none).run P w = .ok (sliced A l h' c te.i.size) w ->
        (execOp a.eval o).run P w = .ok (.value (sliced A l h' c te.i.size)) w:=by
        intro l h' lo' oH e1 e2 hr;simp only[execOp,iG,Sem.run_bind,hq,e1,e2,Option.map_none,run_sliceAt_slice (P:=P) w t _ _ _ _ Dl,hr,Result.andThen_ok,Sem.run_pure]
       split at h
       .rename_i kh hh vy yS
        cases h;have hb:0<=hh/\hh<=n:=ho _ aj;cases lo with
        |some _=>simp at vy
        |none=>
         cases hi with
         |none=>simp at yS
         |some hi=>
          simp only[cK,bJ]at yS;have hv:=r.op hi;rw[yS]at hv;have hv:=iH.kP hv;have hr:=run_slice_h (P:=P) w t A n c Dl kh hh hb.1 ae;rw[he,xk hT w pR]at hr;have hf:=fin 0 hh.toNat (bN _) ae ;simp only[dj,bX]at hf;exact kt.pure r (run 0 hh.toNat none (some (.int kh hh)) rfl (by rw[cK,hv]) hr) rfl hf
       .rename_i kl ll vy yS
        cases h;have hb:0<=ll/\ll<=n:=ho _ aj;cases hi with
        |some _=>simp at yS
        |none=>
         cases lo with
         |none=>simp at vy
         |some lo=>
          simp only[cK,bJ]at vy;have hv:=r.op lo;rw[vy]at hv;have hv:=iH.kP hv;have hr:=run_slice_l (P:=P) w t A n c Dl kl ll hb.1 hb.2;rw[he,xk hT w pR]at hr;exact kt.pure r (run ll.toNat n (some (.int kl ll)) none (by rw[cK,hv]) rfl hr) rfl (fin ll.toNat n ae (aV _))
       .rename_i kl ll kh hh vy yS
        cases h;have hb:0<=ll/\ll<=hh/\hh<=n:=ho _ aj;cases hi with
        |none=>simp at yS
        |some hi=>
         cases lo with
         |none=>simp at vy
         |some lo=>
          simp only[cK,bJ]at vy yS;have hv:=r.op lo;rw[vy]at hv;have hv:=iH.kP hv;have rZ:=r.op hi;rw[yS]at rZ;have rZ:=iH.kP rZ;have hr:=run_slice_lh (P:=P) w t A n c Dl kl kh ll hh hb.1 hb.2.1 ae;rw[he,xk hT w pR]at hr;exact kt.pure r (run ll.toNat hh.toNat (some (.int kl ll)) (some (.int kh hh)) (by rw[cK,hv]) (by rw[cK,rZ]) hr) rfl (fin ll.toNat hh.toNat ae ae)
       .cases h
     .cases h
    .cases h
   .cases h
  .cases h
 .cases h
end
section
variable {P:Program} {K:World->Prop} {T:List TI} {O:qG} {w0:World} {B:Nat->Prop} {σ:PS} {o:Oper} {a:Act} {w:World} {L:Lk} {u:kQ}
theorem abV{x:Value}{l:List E}(h:(E.v x).cells? = some l):∀ e,e ∈ l->e.nr 2=true:=by
 intro e he;cases x<;>simp only[E.cells?]at h
 case agg cs=>
  split at h
  .cases h
   obtain⟨q,_,rfl⟩:=c9.1 he;rfl
  .cases h
 all_goals
  split at h
  .cases h
   simp only[List.mem_singleton]at he;subst he;rfl
  .cases h
theorem anp{ti:TI}{l:List E}(h:zW ti=some l):∀ e,e ∈ l->e.nr 2=true:=by
 unfold zW at h;split at h
 .exact abV h
 .cases h
theorem Nq{l:List E}{vs:List Value}{bs br:Nat->Prop}(h:ku bs br w l vs)(hl:l.all E.nx=true):∀ v ∈ vs,sy v=false:=by
 intro v hv;obtain⟨q,hq⟩:=dg.1 hv;have vE:q<l.length:=by rw[<-h.len];exact(bZ.1 hq).1
 exact(h.lr q _ v (bg vE) hq).nx (bH.1 hl _ (cz vE))
theorem Vi{z:Array Value}{n q:Nat}(hz:0<z.size)(hq:q<n):(madeCells z n)[q]? = some (z[q%z.size]'(bh _ hz)):=by
 unfold madeCells;simp[hq];rw[e9 z _ (bh _ hz)]
theorem Vj{z:Array Value}{n:Nat}(hz:0<z.size){v:Value}(hv:v ∈ madeCells z n):v ∈ z:=by
 unfold madeCells at hv;simp only[fF,fG]at hv;obtain⟨q,hq,rfl⟩:=hv;rw[e9 z _ (bh _ hz)];exact fX _
theorem aeF(hT:mJ P T){t:TypeId}{l c:Operand}(iG:o.op = .makeSlice t l c)(r:jD w0 B σ a w L)(h:jN P K T O σ o=some u)(ho:∀ q,q ∈ u.jY->q):kt P K w0 B σ o a w u:=by
 simp only[jN,iG,Ic]at h;have hl:=r.op l;have hc:=r.op c;split at h
 .rename_i bx jY iV
  obtain⟨id,Ts,lH,ko,rfl⟩:=BY h;clear h;simp only[R9]at iV;split at iV
  rotate_left
  .cases iV
  rename_i kl zl kc zc BI hpc;rw[BI]at hl;rw[hpc]at hc;have hl:=iH.kP hl;have hc:=iH.kP hc;split at iV
  .rename_i tt rD
   split at iV
   .rename_i e hd
    have hu:P.underlying t=some (.slice e):=by rw[hT.sd rD,hd]
    split at iV
    .rename_i te pR
     split at iV
     .rename_i z hz
      split at iV
      .rename_i yQ
       simp only[bu]at yQ;have c1:=mU.1 yQ.1;have c2:=cJ yQ.2;obtain⟨zv,xP,rV⟩:=GO hz;obtain⟨q1,q2⟩:=rV (jE B L) (kr L) w;have AE:zv.cells.size=te.i.size:=by have:=q1.len;simp only[dB]at this;omega
       have BN:0<zv.cells.size:= ae ;have key:∀ (h1:0<=zl/\zl<=zc) (h2:(te.i.bytes:Int)*zc<=281474976710656/\zc<=9223372036854775807),
        (execOp a.eval o).run P w = .ok (.value (.slice (some ⟨w.heap.size,0,none⟩) zl.toNat zc.toNat)) (w.alloc (.cells (madeCells zv.cells (zc.toNat*te.i.size)) e)):=by
        intro h1 h2;have hr:=run_make (P:=P) w t e te.i zv hu (hT.AF pR) xP kl kc zl zc h1.1 h1.2 h2.1 h2.2;simp only[execOp,iG,hl,hc,Sem.run_bind,hr,Result.andThen_ok,Sem.run_pure]
       have hb:∀ o':Obj,Below w.heap.size w (w.alloc o'):=λo'=>(Below.refl _ _).alloc (aV _) _
       have lens:zl<=zc->zc<=9223372036854775807->zl.toNat<=zc.toNat/\zc.toNat<=maxLen:=by intro h1 h2;unfold maxLen;omega
       split at iV
       .
        rename_i e0 hd0;split at iV
        .rename_i t0 MO
         obtain⟨y,ys,Dr,hy,BE⟩:=q1.mg;have hy:=iH.kP hy;have BE:=BE.qk;subst hy BE;have Ul:zv.cells = #[.slice none 0 0]:=by apply di;rw[Dr]
         have lO:te.i.size=1:=by rw[<-AE,Ul];rfl
         cases iV;have h1:0<=zl/\zl<=zc:=ho _ aj;have h2:(te.i.bytes:Int)*zc<=281474976710656/\zc<=9223372036854775807:=ho _ aj;have hlen:=lens h1.2 h2.2;have C6:∀ v,v ∈ madeCells zv.cells (zc.toNat*te.i.size)->v = .slice none 0 0:=λv hv=>by
          have:=Vj BN hv;rw[Ul]at this;simpa using this
         refine⟨_,_,_,.inl (key h1 h2),r.new id _ (λx=>x=w.heap.size) (.slice (some ⟨w.heap.size,0,none⟩) zl.toNat zc.toNat) (λ_=>.slice none 0 0) _ lH (λx hx=>by subst hx;simp) (hb _)
          ⟨w.heap.size,zc.toNat,_,λ_ _ _=>undef,Lk.pt,heap_alloc_new w _,hlen.1,hlen.2,by rw[size_madeCells,lO,bQ],λk hk _=>?_,λv hv=>?_,λk hk=>?_,λx=>?_,λk k' x hk TE h1=>?_,λk hk=>?_⟩ ko,Lk.A6,Lk.pt.symm⟩
         .rw [Lk.rG]
          have hq:k<zc.toNat*te.i.size:=by rw[lO];omega
          have hg:=Vi BN hq;rw[hg];exact congrArg some (C6 _ (dh hg))
         .rw [C6 v hv];exact⟨rfl,rfl⟩
         .rw [Lk.rG]
          exact⟨.inl ⟨rfl,rfl⟩,λi j hi=>absurd hi (bk i)⟩
         .rw [Lk.sF]
          simp only[Lk.rG,Value.ownBlock];simp
         .rw [Lk.rG]at h1
          simp[Value.ownBlock]at h1
         .rw [Lk.rG]
          simp[Value.ownBlock]
        .cases iV
       .cases iV
        have h1:0<=zl/\zl<=zc:=ho _ aj;have h2:(te.i.bytes:Int)*zc<=281474976710656/\zc<=9223372036854775807:=ho _ aj;have hlen:=lens h1.2 h2.2;refine⟨_,_,_,.inl (key h1 h2),r.new id _ (λx=>x=w.heap.size) (.slice (some ⟨w.heap.size,0,none⟩) zl.toNat zc.toNat) (λ_=>undef) _ lH (λx hx=>by subst hx;simp) (hb _)
         ⟨λ_ j=>zv.cells.getD j undef,.inr ⟨w.heap.size,zc.toNat,_,Lk.pt,heap_alloc_new w _,hlen.1,hlen.2,size_madeCells _ _,λi j hi hj=>?_,λhn v hv=>?_⟩,λx=>?_,λi j hi hj=>?_⟩ ko,Lk.A6,Lk.pt.symm⟩
        .have hq:i*te.i.size+j<zc.toNat*te.i.size:=by
          have:=bE te.i.size (show i+1<=zc.toNat by omega);rw[bL,bK]at this;omega
         have MC:(i*te.i.size+j)%zv.cells.size=j:=by rw[AE,bc,dA,bC hj]
         have sn:j<zv.cells.size:= ae ;rw[Vi BN hq];simp only[MC];have e1:zv.cells.getD j undef=zv.cells[j]:=by simp[sn]
         rw[e1];exact⟨rfl,q2 _ aj⟩
        .exact Nq q1 hn v (by have:=Vj BN hv;simpa using this)
        .rw [Lk.sF,Lk.pt]
         simp only[Value.ownBlock,bJ];exact eq_comm
        .have sn:j<zv.cells.size:= ae 
         have My:j<z.length:= ae ;have e1:zv.cells.getD j undef=zv.cells[j]:=by simp[sn]
         simp only[e1];rw[aW,bg My];obtain⟨p1,_⟩:=rV (jE B (L.set id (λx=>x=w.heap.size) (.slice (some ⟨w.heap.size,0,none⟩) zl.toNat zc.toNat) (λ_=>undef))) (kr (L.set id (λx=>x=w.heap.size) (.slice (some ⟨w.heap.size,0,none⟩) zl.toNat zc.toNat) (λ_=>undef))) (w.alloc (.cells (madeCells zv.cells (zc.toNat*te.i.size)) e));exact⟨p1.lr j _ _ (bg My) (by simp[sn]),anp hz _ (cz My)⟩
      .cases iV
     .cases iV
    .cases iV
   .cases iV
  .cases iV
 .cases h
theorem aeC(hT:mJ P T){x:Operand}{t:TypeId}{c:Call}(hc:c={ callee:=.builtin .len,args:=#[x],argTypes:=#[t] })(iG:o.op = .call c){e:TypeId}(hd:yI T t=some (.slice e))(r:jD w0 B σ a w L){rr:Value×List Nat}(h:vg (σ.op x) σ=some rr)(hu:u={ r:=.e (.v rr.1),rb:=rr.2 }):kt P K w0 B σ o a w u:=by
 obtain⟨ti,h1,h2⟩:=CN hd;have T8:P.underlying t=some (.slice e):=by rw[hT.sd h1,h2]
 have he:=Lt T8;have hx:=r.op x;have key:∀ (A:Option Addr) (n cp:Nat),a.eval x = .slice A n cp->rr.1 = .int .i64 (n:Int)->kt P K w0 B σ o a w u:=by
  intro A n cp e1 e2;have hr:=run_len_slice (P:=P) w t o.type A n cp (by rw[he];exact T8);subst hu;refine kt.pure r (v:=.int .i64 (n:Int)) ?_ rfl (by rw[e2];exact .v _);subst hc;have em:(#[x]:Array Operand).map a.eval = #[a.eval x]:= aj ;simp only[execOp,iG,resolve,em,e1,Sem.run_bind,Sem.run_pure,Result.andThen_ok,invoke,builtin,hr];rfl
 cases hp:σ.op x with
 |e y=>
  rw[hp]at h hx;cases y with
  |sl nl n sz el=>
   simp only[vg,bJ]at h;generalize hq:a.eval x=q at hx;cases hx with
   |sl _ _ _ _ A c f hc hm h0 hl wU cell kk=>exact key A n c hq (by rw[<-h])
  |v y=>
   have hx:=iH.kP hx;cases y with
   |slice A n cp=>
    simp only[vg,bJ]at h;exact key A n cp hx (by rw[<-h])
   |_=>simp[vg]at h
  |_=>simp[vg]at h
 |own id=>
  rw[hp]at h hx;obtain⟨_,k2⟩:=hx;simp only[vg]at h;split at h
  .rename_i nl T1 n sz el ki
   simp only[bJ]at h;obtain⟨f,q1,_,_⟩:=r.hb id _ ki;rcases q1 with⟨q1,q0⟩|⟨b,c,cur,q1,_⟩
   .rw [q1]at k2
    exact key none 0 0 k2 (by rw[<-h,q0])
   .rw [q1]at k2
    exact key _ n c k2 (by rw[<-h])
  .rename_i nl T1 T0 n sz len el pend ki
   simp only[bJ]at h;obtain⟨b,c,cur,f,q1,_⟩:=r.hb id _ ki;rw[q1]at k2;exact key _ n c k2 (by rw[<-h])
  .cases h
 |_=>rw[hp]at h;simp[vg]at h
end
section
variable {P:Program} {K:World->Prop} {T:List TI} {O:qG} {w0:World} {B:Nat->Prop} {σ:PS} {o:Oper} {a:Act} {w:World} {L:Lk} {u:kQ}
theorem qH.rq{v:Value}{T:TypeId}{n sz:Nat}{f:Nat->Nat->Value}{nl nl':Bool}(h:qH w v T n sz f nl)(k:nl'=true->nl=true):qH w v T n sz f nl':=by
 rcases h with h|⟨b,c,cur,h1,h2,h3,h4,h5,h6,h7⟩
 .exact .inl h
 .exact .inr ⟨b,c,cur,h1,h2,h3,h4,h5,h6,λq=>h7 (k q)⟩
theorem SH(hT:mJ P T){s x:Operand}{t:TypeId}{c:Call}(hc:c={ callee:=.builtin .append,args:=#[s,x],argTypes:=#[t,t] })(iG:o.op = .call c)(r:jD w0 B σ a w L)
 (h:Aj T σ o.dst t (σ.op s) (σ.op x)=some u) (ho:∀ q,q ∈ u.jY->q):kt P K w0 B σ o a w u:=by
 have hs:=r.op s;have hx:=r.op x;simp only[Aj]at h;split at h
 .rename_i nl2 m sz2 el2 rT
  rw[rT]at hx;split at h
  .rename_i tt rD
   split at h
   .rename_i e hd
    have hu:P.underlying t=some (.slice e):=by rw[hT.sd rD,hd]
    split at h
    .rename_i te pR
     split at h
     .rename_i z hz
      split at h
      .rename_i yQ
       simp only[bu]at yQ;have c1:=mU.1 yQ.1.1.1;have c2:=cJ yQ.1.1.2;have c3:=cJ yQ.1.2;have c4:=mU.1 yQ.2;obtain⟨zv,xP,rV⟩:=GO hz;obtain⟨q1,q2⟩:=rV (jE B L) (kr L) w;have AE:zv.cells.size=sz2:=by have:=q1.len;simp only[dB]at this;omega
       generalize hqx:a.eval x=vx at hx;cases hx with
       |sl _ _ _ _ A cx g hgc hgm EW TB gnr gcell gk0=>
       have gk:=λi j hi hj=>And.intro (gk0 i j hi hj) (gnr i j hi hj)
       have key:∀ (v:Value) (n:Nat) (f:Nat->Nat->Value) (nl:Bool),a.eval s=v->qH w v e n sz2 f nl->(nl=true->nl2=true/\z.all E.nx=true)->(n+m)*te.i.bytes<=140737488355328 ->
        ∃ v' w',(execOp a.eval o).run P w = .ok (.value v') w'/\Pt w v e n sz2 m f g nl v' w':=by
        intro v n f nl hv oh ko jI;obtain⟨v',w',hr,oo⟩:=akJ P w t o.type e te.i zv sz2 hu (hT.AF pR) xP c1 AE ae c3 (λu hu=>q2 u (by simpa using hu)) v n f nl oh A m cx g
         (λk j hk hj=>by obtain⟨b,of,e1,_,_,rP⟩:=gcell k j hk hj;exact⟨b,of,e1,rP⟩) (λhA=>by have:=EW hA;omega)
         (λk j hk hj=>⟨(TB k j hk hj).1,λhn=>(TB k j hk hj).2 (ko hn).1⟩) (λhn u hu=>Nq q1 (ko hn).2 u (by simpa using hu)) jI
        refine⟨v',w',?_,oo⟩;subst hc;have em:(#[s,x]:Array Operand).map a.eval = #[a.eval s,a.eval x]:= aj ;simp only[execOp,iG,resolve,em,hv,hqx,Sem.run_bind,Sem.run_pure,Result.andThen_ok,invoke,builtin,hr]
       split at h
       .
        rename_i id E8;rw[E8]at hs;split at h
        .rename_i nl T1 n sz el ki
         split at h
         .rename_i rP
          simp only[bu]at rP;have d1:=mU.1 rP.1.1;have d2:=mU.1 rP.1.2;subst d1 d2;cases h;have jI:(n+m)*te.i.bytes<=140737488355328:=ho _ aj;obtain⟨f,p1,p2,p3⟩:=r.hb id _ ki;obtain⟨k1,k2⟩:=hs;have ko:(nl&&(nl2&&z.all E.nx))=true->nl2=true/\z.all E.nx=true:=λhn=>by simp only[bu]at hn;exact hn.2
          obtain⟨v',w',lN,oo⟩:=key (L.val id) n f _ k2 (p1.rq λhn=>by simp only[bu]at hn;exact hn.1) ko jI;have ht:rL L w id (λy=>v'.ownBlock=some y) w':=by
           refine⟨λy hy=>?_,oo.size,λy hy lH=>oo.pT y hy λe1=>lH ((p2 y).2 e1),oo.os,oo.tape,oo.output⟩;rcases oo.KR y hy with e1|⟨e1,e2⟩
           .have:=(p2 y).2 e1
            exact⟨.inl this,bF (r.hw id y this).2 oo.size⟩
           .exact ⟨.inr e1,e2⟩
          have hl:=ht.later v' (L.jz id);have hpt:∀ b,L.val id ≠ .pointer (some b):=λb e1=>by
           rcases p1 with⟨e2,_⟩|⟨_,_,_,e2,_⟩<;>rw[e1]at e2<;>cases e2
          refine⟨v',w',_,.inl lN,r.rB id _ _ v' w' hpt ht ⟨λi j=>if i<n then f i j else g (i-n) j,by rw[Lk.pt];exact oo.own,λy=>by rw[Lk.sF,Lk.pt],λi j hi hj=>(λ(q:iH _ _ _ _ _/\_)=>⟨hl.lr q.1,q.2⟩) (?_:_/\_)⟩ (λhn=>?_),Lk.A6,Lk.pt.symm⟩
          .by_cases mr:i<n
           .simp only[mr,bn];exact p3 i j mr hj
           .simp only[mr,a7];exact gk _ _ ae hj
          .have:=rP.2
           rw[hn]at this;simpa[Bx.nl]using this
         .cases h
        .cases h
       .
        rename_i id k E8;rw[E8]at hs;split at h
        .rename_i nl T1 T0 n sz len el ki
         split at h
         .rename_i rP
          simp only[bu]at rP;have d1:=mU.1 rP.1.1;have d2:=mU.1 rP.1.2;subst d1 d2;cases h;have hk:k<n:=ho _ aj;have jI:(len k+m)*te.i.bytes<=140737488355328:=ho _ aj;obtain⟨b,cp,cur,f,p1,p2,p3,p4,p5,p6,p7,p8,p9,p10,p11⟩:=r.hb id _ ki;obtain⟨k1,k2⟩:=hs;have ko:nl=true->nl2=true/\z.all E.nx=true:=λhn=>by have:=rP.2;rw[hn]at this;simpa using this
          obtain⟨v',w',lN,oo⟩:=key (L.jz id k) (len k) (f k) nl k2 (p8 k hk).1 ko jI;have As:∀ y,v'.ownBlock=some y->(L.jz id k).ownBlock=some y\/(w.heap.size<=y/\y<w'.heap.size):=oo.KR;have Tj:b<w.heap.size:=(r.hw id b ((p9 b).2 (.inl rfl))).2;have Mw:∀ q y,q<n->(L.jz id q).ownBlock=some y->y<w.heap.size:=λq y hq hy=>(r.hw id y ((p9 y).2 (.inr ⟨q,hq,hy⟩))).2
          have ht:rL L w id (λy=>y=b\/∃ q,q<n/\(if q=k then v' else L.jz id q).ownBlock=some y) w':=by
           refine⟨λy hy=>?_,oo.size,λy hy lH=>oo.pT y hy λe1=>lH ((p9 y).2 (.inr ⟨k,hk,e1⟩)),oo.os,oo.tape,oo.output⟩;rcases hy with rfl|⟨q,hq,hy⟩
           .exact ⟨.inl ((p9 y).2 (.inl rfl)),bF Tj oo.size⟩
           .by_cases tI:q=k
            .subst tI
             rw[aS rfl]at hy;rcases As y hy with e1|⟨e1,e2⟩
             .have:=(p9 y).2 (.inr ⟨q,hq,e1⟩)
              exact⟨.inl this,bF (r.hw id y this).2 oo.size⟩
             .exact ⟨.inr e1,e2⟩
            .rw [aR tI]at hy
             have:=(p9 y).2 (.inr ⟨q,hq,hy⟩);exact⟨.inl this,bF (r.hw id y this).2 oo.size⟩
          have hl:=ht.later (L.val id) (λq=>if q=k then v' else L.jz id q);have IK:∀ y,y<w.heap.size->(L.jz id k).ownBlock≠some y->w'.heap[y]? = w.heap[y]?:=oo.pT;refine⟨v',w',_,.inl lN,r.wG id _ _ (λq=>if q=k then v' else L.jz id q) w' ht
           ⟨b,cp,cur,λq i j=>if q=k then(if i<len q then f q i j else g (i-len q) j)else f q i j,by rw[Lk.pt];exact p1,by rw[IK b Tj (p11 k hk)];exact p2,p3,p4,p5,λq hq tI=>?_,p7,λq hq=>?_,λy=>?_,λq q' y hq uw hy qw=>?_,λq hq hy=>?_⟩ (λhn=>?_),Lk.A6,?_⟩
          .have jJ:q≠k:=λe1=>tI (by rw[e1])
           rw[Lk.rG,aR jJ];exact p6 q hq aj 
          .rw [Lk.rG]
           by_cases tI:q=k
           .subst tI
            simp only[bn];refine⟨oo.own,λi j hi hj=>(λ(q:iH _ _ _ _ _/\_)=>⟨hl.lr q.1,q.2⟩) (?_:_/\_)⟩;by_cases mr:i<len q
            .simp only[mr,bn];exact(p8 q hq).2 i j mr hj
            .simp only[mr,a7];exact gk _ _ ae hj
           .simp only[tI,a7]
            obtain⟨s1,s2⟩:=p8 q hq;exact⟨s1.block λy hy=>IK y (Mw q y hq hy) λe1=>tI (p10 q k y hq hk hy e1),λi j hi hj=>⟨hl.lr (s2 i j hi hj).1,(s2 i j hi hj).2⟩⟩
          .rw [Lk.sF]
           simp only[Lk.rG]
          .simp only[Lk.rG]at hy qw
           by_cases h1:q=k
           .subst h1
            by_cases h2:q'=q
            .exact h2.symm
            .rw [aS rfl]at hy
             rw[aR h2]at qw;rcases As y hy with e1|⟨e1,_⟩
             .exact p10 q q' y hq uw e1 qw
             .have:=Mw q' y uw qw;omega
           .rw [aR h1]at hy
            by_cases h2:q'=k
            .subst h2
             rw[aS rfl]at qw;rcases As y qw with e1|⟨e1,_⟩
             .exact p10 q q' y hq uw hy e1
             .have:=Mw q y hq hy;omega
            .rw [aR h2]at qw
             exact p10 q q' y hq uw hy qw
          .simp only[Lk.rG]at hy
           by_cases h1:q=k
           .subst h1
            rw[aS rfl]at hy;rcases As b hy with e1|⟨e1,_⟩
            .exact p11 q hq e1
            .omega
           .rw [aR h1]at hy
            exact p11 q hq hy
          .have:=r.hl hn id _ ki
           exact this
          .rw [Lk.rG,aS rfl]
         .cases h
        .cases h
       .
        rename_i E8;rw[E8]at hs;have hs:=iH.kP hs;obtain⟨id,Ts,lH,IT,rfl⟩:=BY h;have jI:m*te.i.bytes<=140737488355328:=ho _ aj;obtain⟨v',w',lN,oo⟩:=key _ 0 g (nl2&&z.all E.nx) hs (.inl ⟨rfl,rfl⟩) (λhn=>by simpa using hn) (by simpa using jI);have hb:Below w.heap.size w w':=⟨oo.os,oo.tape,oo.output,oo.size,λy hy=>oo.pT y hy (by simp[Value.ownBlock])⟩
        have hO:∀ y,v'.ownBlock=some y->w.heap.size<=y/\y<w'.heap.size:=λy hy=>by
         rcases oo.KR y hy with e1|e1
         .simp [Value.ownBlock]at e1
         .exact e1
        have ht:rL L w id (λy=>v'.ownBlock=some y) w':=⟨λy hy=>⟨.inr (hO y hy).1,(hO y hy).2⟩,hb.size,λy hy _=>hb.block y hy,hb.os,hb.tape,hb.output⟩
        have hl:=ht.later v' (λ_=>undef);have oh:=oo.own;rw[bX]at oh;refine⟨v',w',_,.inl lN,r.new id _ (λy=>v'.ownBlock=some y) v' (λ_=>undef) w' lH hO hb ⟨λi j=>if i<0 then g i j else g (i-0) j,by rw[Lk.pt];exact oh,λy=>by rw[Lk.sF,Lk.pt],λi j hi hj=>(λ(q:iH _ _ _ _ _/\_)=>⟨hl.lr q.1,q.2⟩) (?_:_/\_)⟩ IT,Lk.A6,Lk.pt.symm⟩;simp only[bk,a7,dj];exact gk i j hi hj
       .cases h
      .cases h
     .cases h
    .cases h
   .cases h
  .cases h
 .cases h
theorem aeq(hT:mJ P T)(hB:∀ b,B b->b<w0.heap.size){s x:Operand}{t:TypeId}{c:Call}(hc:c={ callee:=.builtin .append,args:=#[s,x],argTypes:=#[t,t] })(iG:o.op = .call c)(r:jD w0 B σ a w L)
 (h:Bs T σ o.dst t (σ.op s) (σ.op x)=some u) (ho:∀ q,q ∈ u.jY->q):kt P K w0 B σ o a w u:=by
 unfold Bs at h;split at h
 .rename_i u0 h0
  split at h
  .rename_i id nl T1 n sz el id' hf hr
   split at h
   .rename_i hid
    have hid:=mU.1 hid;subst hid;cases h;have r2:jD w0 B { σ with nl:=false } a w L:=⟨r.hd,r.hs,r.ht,r.hb,r.hv,r.hn,r.hw,r.hi,r.he,λh=>by cases h⟩
    obtain⟨v,w',L1,lN,hrel,rV⟩:=SH (K:=K) hT hc iG r2 h0 λq hq=>ho q (List.mem_cons_of_mem _ hq)
    rw[hf]at hrel;rw[hr]at rV;obtain⟨L',k1,k2⟩:=jD.fin hB hrel;refine⟨v,w',L',lN,⟨k1.hd,k1.hs,k1.ht,k1.hb,k1.hv,k1.hn,k1.hw,k1.hi,k1.he,λhn i b hb=>r.hl hn i b ?_⟩,?_⟩
    .have hb:look (σ.b.filter λx=>!Nat.beq x.1 id') i=some b:=hb
     rw[Nu]at hb;split at hb
     .cases hb
     .exact hb
    rw[rV.2];exact k2
   .cases h
  .cases h
 .cases h
theorem aeG{x y:Operand}{c:Call}(hc:c.callee = .builtin .max/\c.args = #[x,y])(iG:o.op = .call c)(r:jD w0 B σ a w L){k k':IntKind}{p q:Int}(hx:σ.op x = .e (.v (.int k p)))(hy:σ.op y = .e (.v (.int k' q)))
 (hu:u={ r:=.e (.v (.int k (if q>p then q else p))) }):kt P K w0 B σ o a w u:=by
 have h1:=r.op x;have h2:=r.op y;rw[hx]at h1;rw[hy]at h2;have h1:=iH.kP h1;have h2:=iH.kP h2;subst hu;refine kt.pure r (v:=.int k (if q>p then q else p)) ?_ rfl (.v _);have em:(#[x,y]:Array Operand).map a.eval = #[.int k p,.int k' q]:=by simp[h1,h2]
 simp only[execOp,iG,resolve,hc.1,hc.2,em,Sem.run_bind,Sem.run_pure,Result.andThen_ok,invoke,builtin,run_max_int2]
theorem aeH{x y z:Operand}{c:Call}(hc:c.callee = .builtin .max/\c.args = #[x,y,z])(iG:o.op = .call c)(r:jD w0 B σ a w L){k k' k'':IntKind}{p q s:Int}(hx:σ.op x = .e (.v (.int k p)))(hy:σ.op y = .e (.v (.int k' q)))(hz:σ.op z = .e (.v (.int k'' s)))
 (hu:u={ r:=.e (.v (.int k (if s>(if q>p then q else p)then s else(if q>p then q else p)))) }):kt P K w0 B σ o a w u:=by
 have h1:=r.op x;have h2:=r.op y;have h3:=r.op z;rw[hx]at h1;rw[hy]at h2;rw[hz]at h3;have h1:=iH.kP h1;have h2:=iH.kP h2;have h3:=iH.kP h3;subst hu;refine kt.pure r (v:=.int k (if s>(if q>p then q else p)then s else(if q>p then q else p))) ?_ rfl (.v _);have em:(#[x,y,z]:Array Operand).map a.eval = #[.int k p,.int k' q,.int k'' s]:=by simp[h1,h2,h3]
 simp only[execOp,iG,resolve,hc.1,hc.2,em,Sem.run_bind,Sem.run_pure,Result.andThen_ok,invoke,builtin,run_max_int3]
theorem aeI{x y:Operand}{c:Call}(hc:c.callee = .builtin .min/\c.args = #[x,y])(iG:o.op = .call c)(r:jD w0 B σ a w L){k k':IntKind}{p q:Int}(hx:σ.op x = .e (.v (.int k p)))(hy:σ.op y = .e (.v (.int k' q)))
 (hu:u={ r:=.e (.v (.int k (if q<p then q else p))) }):kt P K w0 B σ o a w u:=by
 have h1:=r.op x;have h2:=r.op y;rw[hx]at h1;rw[hy]at h2;have h1:=iH.kP h1;have h2:=iH.kP h2;subst hu;refine kt.pure r (v:=.int k (if q<p then q else p)) ?_ rfl (.v _);have em:(#[x,y]:Array Operand).map a.eval = #[.int k p,.int k' q]:=by simp[h1,h2]
 simp only[execOp,iG,resolve,hc.1,hc.2,em,Sem.run_bind,Sem.run_pure,Result.andThen_ok,invoke,builtin,run_min_int2]
end
structure Gd(P:Program)(K:World->Prop)(w0:World)(B:Nat->Prop):Prop where
 k:K w0
 N7:∀ w w',K w->Below w.heap.size w w'->K w'
 hB:∀ b,B b->b<w0.heap.size/\oR w0 b
theorem oR.DI{w w':World}{b:Nat}(h:oR w b)(hb:w'.heap[b]? = w.heap[b]?):oR w' b:=by
 intro o x e;exact h o x (by rw[<-e];exact(World.cell?_of_block (w:=w) (w':=w') hb).symm)
theorem oR.NP{w:World}{b:Nat}{cs:Array Value}{T:TypeId}{fr:Nat×Nat}(hg:w.heap[b]? = some (.cells cs T fr))(h:∀ v,v ∈ cs->sy v=false):oR w b:=by
 intro o x e;simp only[World.cell?,hg]at e;simp only[Option.isSome_none,bq,a7]at e;have:=h _ (dh e);cases this
section
variable {P:Program} {K:World->Prop} {T:List TI} {O:qG} {w0:World} {B:Nat->Prop} {σ:PS} {o:Oper} {a:Act} {w:World} {L:Lk} {u:kQ}
theorem qH.Jq{v:Value}{T:TypeId}{n sz:Nat}{f:Nat->Nat->Value}(h:qH w v T n sz f true){x:Nat}(hx:v.ownBlock=some x):oR w x:=by
 rcases h with⟨rfl,_⟩|⟨b,c,cur,rfl,hg,_,_,_,_,ko⟩
 .simp [Value.ownBlock]at hx
 .simp [Value.ownBlock]at hx
  subst hx;exact oR.NP hg (ko rfl)
theorem rJ.Jq{id:Nat}{b:Bx}(h:rJ (jE B L) (kr L) L w id b)(hn:b.nl=true){x:Nat}(hx:L.own id x):oR w x:=by
 cases b with
 |cells T l=>
  obtain⟨b,vs,h1,h2,h3,h4,h5⟩:=h;obtain rfl:=(h2 x).1 hx;exact oR.NP h3 λv hv=>Nq h4 hn v (by simpa using hv)
 |row nl T n sz el=>
  obtain⟨f,h1,h2,h3⟩:=h;have hn:nl=true:=hn;subst hn;exact h1.Jq ((h2 x).1 hx)
 |qm nl T1 T0 n sz len el pend=>
  obtain⟨b,c,cur,f,h1,h2,h3,h4,h5,h6,h7,h8,h9,wH,xC⟩:=h;have hn:nl=true:=hn;subst hn;rcases(h9 x).1 hx with rfl|⟨k,hk,hkx⟩
  .exact oR.NP h2 λv hv=>(h7 v hv).2
  .exact (h8 k hk).1.Jq hkx
theorem jD.Qt(g:Gd P K w0 B)(r:jD w0 B σ a w L)(hn:σ.nl=true):∀ b,jE B L b->b<w.heap.size/\oR w b:=by
 intro b hb;rcases hb with hb|⟨id,hb⟩
 .obtain ⟨h1,h2⟩:=g.hB b hb
  exact⟨bF h1 r.he.size,h2.DI (r.he.block b h1)⟩
 .refine ⟨(r.hw id b hb).2,?_⟩
  have hl:=(r.hv id).1 (r.hn id b hb);obtain⟨bx,iV⟩:=gi.1 hl;exact(r.hb id bx iV).Jq (r.hl hn id bx iV) hb
theorem rJ.kz{id:Nat}{Tt:TypeId}{l:List E}(h:rJ (jE B L) (kr L) L w id (.cells Tt l)){b:Nat}(hv:L.val id = .pointer (some ⟨b,0,none⟩))(iE:∀ x,L.own id x->x<w.heap.size):
 iH (jE B L) (λ_=>False) w (.kz l.length λj=>l.getD j .any) (.pointer (some ⟨b,0,none⟩)):=by
 obtain⟨b',vs,h1,h2,h3,h4,h5⟩:=h;rw[hv]at h1;cases h1;refine .kz _ _ b 0 (λj=>vs.getD j undef) (λh=>h) (iE b ((h2 b).2 rfl)) (λj hj=>?_) (λj hj=>?_) (λj hj=>?_)
 .have sn:j<vs.length:=by rw[h4.len];exact hj
  rw[aW,bg sn];exact h5 _ (cz sn)
 .have sn:j<vs.length:=by rw[h4.len];exact hj
  simp only[World.cell?,h3];simp[sn]
 .have sn:j<vs.length:=by rw[h4.len];exact hj
  rw[aW,bg hj,aW,bg sn];exact(h4.lr j _ _ (bg hj) (bg sn)).rq (λ_ h=>h) (λ_ h=>h.elim)
theorem CV.Ij(r:jD w0 B σ a w L){c:CV}{e:E}{is:List Nat}(h:c.ext σ=some (e,is)){v:Value}(hv:yx (jE B L) (kr L) L w c v):iH (jE B L) (λ_=>False) w e v:=by
 cases c with
 |e x=>simp only[CV.ext,bJ,ca]at h;obtain⟨rfl,_⟩:=h;exact hv.rq (λ_ h=>h) (λ_ h=>h.elim)
 |box id=>
  simp only[CV.ext]at h;split at h
  .rename_i Tt l ki
   simp only[bJ,ca]at h;obtain⟨rfl,_⟩:=h;obtain⟨_,b,k2,rfl⟩:=hv;exact(r.hb id _ ki).kz k2 λx hx=>(r.hw id x hx).2
  .cases h
theorem Sd(r:jD w0 B σ a w L){l:List CV}{es:List E}{is:List Nat}(h:xx σ l=some (es,is)){vs:List Value}(hlen:vs.length=l.length)
 (hv:∀ (i:Nat) (c:CV) (x:Value),l[i]? = some c->vs[i]? = some x->yx (jE B L) (kr L) L w c x):ku (jE B L) (λ_=>False) w es vs:=by
 induction l generalizing es is vs with
 |nil=>simp only[xx,bJ,ca]at h;obtain⟨rfl,_⟩:=h;obtain rfl:=df hlen;exact .nil _ _ _
 |cons c l ih=>
  cases vs with
  |nil=>simp at hlen
  |cons v vs=>
   simp only[xx]at h;split at h
   .rename_i x i xs js h1 h2
    simp only[bJ,ca]at h;obtain⟨rfl,_⟩:=h;exact .cons (CV.Ij r h1 (hv 0 c v rfl rfl)) (ih h2 (by simpa using hlen) λi c x hc hx=>hv (i+1) c x (by simpa using hc) (by simpa using hx))
   .cases h
theorem PV.Ij(r:jD w0 B σ a w L){p:PV}{e:E}{is:List Nat}(h:p.ext σ=some (e,is))(lH:p.BR=false){v:Value}(hv:nT (jE B L) (kr L) L w p v):iH (jE B L) (λ_=>False) w e v:=by
 cases p with
 |e x=>simp only[PV.ext,bJ,ca]at h;obtain⟨rfl,_⟩:=h;exact iH.rq (λ_ h=>h) (λ_ h=>h.elim) hv
 |box id off=>
  cases off with
  |succ=>simp[PV.ext]at h
  |zero=>
   simp only[PV.ext]at h;split at h
   .rename_i Tt l ki
    simp only[bJ,ca]at h;obtain⟨rfl,_⟩:=h;obtain⟨_,b,k2,rfl⟩:=hv;exact(r.hb id _ ki).kz k2 λx hx=>(r.hw id x hx).2
   .cases h
 |tu f cap=>
  simp only[PV.ext]at h;split at h
  .rename_i xs js h1
   simp only[bJ,ca]at h;obtain⟨rfl,_⟩:=h;obtain⟨vs,rfl,k2,k3⟩:=hv;have:=Sd r h1 k2 k3;exact .fn f xs vs this.len this.lr
  .cases h
 |own id=>cases lH
 |_=>simp[PV.ext]at h
theorem PV.adH(r:jD w0 B σ a w L){p:PV}{e:E}{is:List Nat}(h:p.ext σ=some (e,is)){v:Value}(hv:nT (jE B L) (kr L) L w p v):iH (λ_=>False) (λ_=>False) w e v:=by
 by_cases lH:p.BR=false
 .exact (PV.Ij r h lH hv).rq (λ_ h=>h.elim) (λ_ h=>h)
 .cases p with
  |own id=>
   obtain⟨_,rfl⟩:=hv;simp only[PV.ext]at h;split at h
   .rename_i nl T n sz el ki
    simp only[bJ,ca]at h;obtain⟨rfl,_⟩:=h;obtain⟨f,h1,h2,h3⟩:=r.hb id _ ki;generalize hvv:L.val id=v at *
    rcases h1 with⟨rfl,rfl⟩|⟨b,c,cur,rfl,hg,pB,nN,nO,lq,ko⟩
    .exact .sl nl 0 sz el none 0 f (aV _) ag (λ_=>rfl) (λi j hi=>absurd hi (bk i)) (λi j hi=>absurd hi (bk i)) (λi j hi=>absurd hi (bk i)) (λi j hi=>absurd hi (bk i))
    .have rC:=(h2 b).2 rfl
     refine .sl nl n sz el _ c f pB (by unfold maxLen at nN;omega) (λh=>by cases h) (λi j hi hj=>⟨(lq i j hi hj).2,λhn=>ko hn _ (dh (lq i j hi hj).1)⟩) (λi j hi hj=>(h3 i j hi hj).2)
      (λi j hi hj=>⟨b,0,rfl,λh=>h,(r.hw id b rC).2,?_⟩) (λi j hi hj=>((h3 i j hi hj).1.rq (λ_ h=>h.elim) (λ_ h=>h)).nr 2 (h3 i j hi hj).2)
     rw[bX];simp only[World.cell?,hg];simpa using(lq i j hi hj).1
   .cases h
  |_=>exact absurd rfl lH
theorem P6(r:jD w0 B σ a w L){l:List Operand}{es:List E}{is:List Nat}(h:uZ σ l=some (es,is)):ku (λ_=>False) (λ_=>False) w es (l.map a.eval):=by
 induction l generalizing es is with
 |nil=>simp only[uZ,bJ,ca]at h;obtain⟨rfl,_⟩:=h;exact .nil _ _ _
 |cons x l ih=>
  simp only[uZ]at h;split at h
  .rename_i y i xs js h1 h2
   simp only[bJ,ca]at h;obtain⟨rfl,_⟩:=h;exact .cons (PV.adH r h1 (r.op x)) (ih h2)
  .cases h
theorem P5(r:jD w0 B σ a w L){l:List Operand}{es:List E}{is:List Nat}(h:uZ σ l=some (es,is))(lH:(l.map σ.op).any PV.BR=false):ku (jE B L) (λ_=>False) w es (l.map a.eval):=by
 induction l generalizing es is with
 |nil=>simp only[uZ,bJ,ca]at h;obtain⟨rfl,_⟩:=h;exact .nil _ _ _
 |cons x l ih=>
  simp only[uZ]at h;split at h
  .rename_i y i xs js h1 h2
   simp only[bJ,ca]at h;obtain⟨rfl,_⟩:=h;simp only[eW,gT,Bool.or_eq_false_iff]at lH;exact .cons (PV.Ij r h1 lH.1 (r.op x)) (ih h2 lH.2)
  .cases h
def GQ(P:Program)(K:World->Prop)(w0:World)(B:Nat->Prop)(σ:PS)(o:Oper)(a:Act)(w:World)(u:kQ):Prop:=
 ∀ (Kc:Act->World->Prop) (Q:Exit->Act->World->Prop),(∀ v w' L',jD w0 B (σ.qW u.f) a w' L'->nT (jE B L') (kr L') L' w' u.r v->Kc (a.put o.dst v) w')->o.wp P a w Kc Q
theorem kt.oV(h:kt P K w0 B σ o a w u):GQ P K w0 B σ o a w u:=by
 intro Kc Q hk;obtain⟨v,w',L',lN,hr,hp⟩:=h;unfold Oper.wp;rcases lN with lN|⟨lN,rfl⟩
 .rw [lN];exact hk v w' L' hr hp
 .rw [lN];exact hk _ w' L' hr hp
theorem Ry(g:Gd P K w0 B)(r:jD w0 B σ a w L){c:Call}{f:Operand}(iG:o.op = .call c)(hf:c.callee = .value f){gf:FuncId}{xs ys:List E}{is:List Nat}{us:List Value}
 {ow:Bool} (At:a.eval f = .func (.func gf) #[] us.toArray) (afJ:ku (λ_=>False) (λ_=>False) w xs (c.args.toList.map a.eval)) (qd:ow=false->ku (jE B L) (λ_=>False) w xs (c.args.toList.map a.eval)) (y5:ku (jE B L) (λ_=>False) w ys us)
 (h:Ak P K O σ o.dst gf (xs++ys) is ow=some u) (ho:∀ q,q ∈ u.jY->q):GQ P K w0 B σ o a w u:=by
 intro Kc Q hk;simp only[Ak]at h;split at h
 .rename_i jZ Fb
  split at h
  .rename_i hc
   cases h;have pc:PC P K gf (xs++ys) jZ:=ho _ aj;have ae9:=afJ.app (y5.mono λ_ _=>iH.rq (bs':=λ_=>False) (λ_ h=>h.elim) (λ_ h=>h));have lN:(execOp a.eval o).run P w = .ok (.enter gf ((c.args.toList.map a.eval)++us).toArray) w:=by
    have e1:c.args.map a.eval=(c.args.toList.map a.eval).toArray:=by apply di;simp
    have e2:#[]++(c.args.toList.map a.eval).toArray++us.toArray=((c.args.toList.map a.eval)++us).toArray:= aj ;simp only[execOp,iG,resolve,hf,At,Deferred.ofValue,Sem.run_bind,Sem.run_pure,Result.andThen_ok,invoke,e1,e2,pc.call]
   unfold Oper.wp;rw[lN];show Calls P gf _ w _;have hK:K w:=g.N7 _ _ g.k r.he;by_cases BI:jZ.plain 3=true
   .refine (pc.run w (λ_=>False) _ hK (λ_ h=>h.elim) ae9).mono ?_
    rintro e w' ⟨v,rfl,hb,hv⟩;exact hk v w' L (r.later hb) (iH.plain (w:=w') hv 3 BI)
   .have hn:σ.nl=true/\ow=false:=by simpa[BI]using hc
    refine(pc.run w (jE B L) _ hK (r.Qt g hn.1) ((qd hn.2).app y5)).mono ?_;rintro e w' ⟨v,rfl,hb,hv⟩;exact hk v w' L (r.later hb) (iH.rq (λ_ h=>h) (λ_ _=>trivial) hv)
  .split at h
   .rename_i hc
    cases h;have pc:Be P K gf (xs++ys) jZ:=ho _ aj;have lN:(execOp a.eval o).run P w = .ok (.enter gf ((c.args.toList.map a.eval)++us).toArray) w:=by
     have e1:c.args.map a.eval=(c.args.toList.map a.eval).toArray:=by apply di;simp
     have e2:#[]++(c.args.toList.map a.eval).toArray++us.toArray=((c.args.toList.map a.eval)++us).toArray:= aj ;simp only[execOp,iG,resolve,hf,At,Deferred.ofValue,Sem.run_bind,Sem.run_pure,Result.andThen_ok,invoke,e1,e2,pc.call]
    unfold Oper.wp;rw[lN];show Calls P gf _ w _;have hK:K w:=g.N7 _ _ g.k r.he;have hn:ow=false:=by simpa using hc
    refine(pc.run w (jE B L) _ hK (λb hb=>?_) ((qd hn).app y5)).mono ?_
    .rcases hb with hb|⟨id,hb⟩
     .exact bF (g.hB b hb).1 r.he.size
     .exact (r.hw id b hb).2
    .rintro e w' ⟨v,rfl,hb,hv⟩
     exact hk v w' L (r.later hb) (iH.rq (λ_ h=>h) (λ_ _=>trivial) hv)
   .cases h
 .split at h
  .rename_i d hd
   split at h
   .rename_i nl T n sz el hnw lH
    split at h
    .rename_i hc
     cases h;simp only[bu]at hc;have pc:tc P K gf (xs++ys) nl T n sz el:=ho _ aj;have lN:(execOp a.eval o).run P w = .ok (.enter gf ((c.args.toList.map a.eval)++us).toArray) w:=by
      have e1:c.args.map a.eval=(c.args.toList.map a.eval).toArray:=by apply di;simp
      have e2:#[]++(c.args.toList.map a.eval).toArray++us.toArray=((c.args.toList.map a.eval)++us).toArray:= aj ;simp only[execOp,iG,resolve,hf,At,Deferred.ofValue,Sem.run_bind,Sem.run_pure,Result.andThen_ok,invoke,e1,e2,pc.call]
     unfold Oper.wp;rw[lN];show Calls P gf _ w _;have hK:K w:=g.N7 _ _ g.k r.he;have hn:ow=false:=by simpa using hc.2
     refine(pc.run w (jE B L) _ hK (r.Qt g hc.1.1) ((qd hn).app y5)).mono ?_
     .rintro e w' ⟨v,rfl,hb,gg,oh,As,EV⟩
      have hl:=(r.later hb)
      have afs:=r.new d (.row nl T n sz el) (λx=>v.ownBlock=some x) v (λ_=>undef) w' lH As hb
       ⟨gg,by rw[Lk.pt];exact oh,λx=>by rw[Lk.sF,Lk.pt],λi j hi hj=>⟨?_,(EV i j hi hj).2⟩⟩ (by simp[Bx.nl,hc.1.2])
      .exact hk v w' _ afs ⟨Lk.A6,Lk.pt.symm⟩
      .refine (EV i j hi hj).1.rq (λb h=>?_) (λ_ _=>trivial)
       rcases h with h|⟨id,h⟩
       .exact .inl (.inl h)
       .by_cases e:id=d
        .subst e;exact .inr ((Lk.sF b).1 h)
        .exact .inl (.inr ⟨id,(Lk.A7 e b).1 h⟩)
    .cases h
   .cases h
  .cases h
theorem Ly(hT:mJ P T)(g:Gd P K w0 B)(r:jD w0 B σ a w L)(h:jN P K T O σ o=some u)(ho:∀ q,q ∈ u.jY->q):GQ P K w0 B σ o a w u:=by
 cases iG:o.op with
 |move x=>exact(aeJ (P:=P) (K:=K) iG r h).oV
 |assign x=>exact(aer (P:=P) (K:=K) iG r h).oV
 |pick c x y=>exact(aeL (P:=P) (K:=K) iG r h).oV
 |alloc t=>exact(aep hT iG r h).oV
 |box t x=>exact(aet (P:=P) (K:=K) iG r h).oV
 |build t ps=>exact(aeu hT iG r h).oV
 |buildSlice t n ps=>exact(aev hT (λb hb=>(g.hB b hb).1) iG r h).oV
 |load t x=>exact(aeD hT iG r h ho).oV
 |store t x y=>exact(aeN hT iG r h ho).oV
 |nilCheck x=>exact(aeK (P:=P) (K:=K) iG r h).oV
 |binOp op t x y yt=>exact(aes hT iG r h ho).oV
 |unOp op t x=>exact(aeO (P:=P) (K:=K) iG r h ho).oV
 |convert s d x=>exact(aew hT iG r h).oV
 |makeFunc fn first cap=>exact(aeE (P:=P) (K:=K) iG r h).oV
 |makeSlice t l c=>exact(aeF hT iG r h ho).oV
 |slice t x lo hi mx=>
  cases mx with
  |none=>exact(aeM hT iG r h ho).oV
  |some=>simp[jN,iG]at h
 |fieldAddr t x f=>exact(aez hT iG r h).oV
 |indexAddr t x i=>exact(aeB hT iG r h ho).oV
 |index t x i=>exact(aeA hT iG r h ho).oV
 |field t x f=>exact(aey hT iG r h).oV
 |extract x i=>exact(aex (P:=P) (K:=K) iG r h).oV
 |call c=>
  obtain⟨callee,args,ats⟩:=c;cases callee with
  |builtin b=>
   simp only[jN,iG]at h;cases b
   case len=>
    dsimp only at h;split at h
    .rename_i x t hx ht
     have ha:args = #[x]:=by apply di;simpa using hx
     have Dk:ats = #[t]:=by apply di;simpa using ht
     split at h
     .rename_i e hd
      obtain⟨rr,hr,rfl⟩:=cH.1 h;exact(aeC hT (by rw[ha,Dk]) iG hd r hr rfl).oV
     .cases h
    .cases h
   case append=>
    dsimp only at h;split at h
    .rename_i s x t t' hx ht
     have ha:args = #[s,x]:=by apply di;simpa using hx
     have Dk:ats = #[t,t']:=by apply di;simpa using ht
     split at h
     .rename_i rD
      have rD:=mU.1 rD;subst rD;split at h
      .exact (aeq hT (λb hb=>(g.hB b hb).1) (by rw[ha,Dk]) iG r h ho).oV
      .exact (SH hT (by rw[ha,Dk]) iG r h ho).oV
     .cases h
    .cases h
   case max=>
    dsimp only at h;split at h
    .rename_i k p k' q hx
     rcases args with⟨l⟩
     rcases l with _|⟨x,_|⟨y,_|⟨z,l⟩⟩⟩<;>simp at hx
     cases h;exact(aeG (P:=P) (K:=K) ⟨rfl,rfl⟩ iG r hx.1 hx.2 rfl).oV
    .rename_i k p k' q k'' s hx
     rcases args with⟨l⟩
     rcases l with _|⟨x,_|⟨y,_|⟨z,_|⟨z',l⟩⟩⟩⟩<;>simp at hx
     cases h;exact(aeH (P:=P) (K:=K) ⟨rfl,rfl⟩ iG r hx.1 hx.2.1 hx.2.2 rfl).oV
    .cases h
   case min=>
    dsimp only at h;split at h
    .rename_i k p k' q hx
     rcases args with⟨l⟩
     rcases l with _|⟨x,_|⟨y,_|⟨z,l⟩⟩⟩<;>simp at hx
     cases h;exact(aeI (P:=P) (K:=K) ⟨rfl,rfl⟩ iG r hx.1 hx.2 rfl).oV
    .cases h
   all_goals cases h
  |value f=>
   simp only[jN,iG]at h;have At:=r.op f;split at h
   .rename_i gf cap xs is BH qd
    rw[BH]at At;obtain⟨us,e1,y5⟩:=iH.Ss At;exact Ry g r iG rfl e1 (P6 r qd) (λlH=>P5 r qd lH) (y5.mono λ_ _=>iH.rq (λ_ h=>h) (λ_ h=>h.elim)) h ho
   .rename_i gf cap xs is BH qd
    rw[BH]at At;obtain⟨us,e1,k2,k3⟩:=At;split at h
    .rename_i ys js Dr
     exact Ry g r iG rfl e1 (P6 r qd) (λlH=>P5 r qd lH) (Sd r Dr k2 k3) h ho
    .cases h
   .cases h
  |invoke _ _=>simp[jN,iG]at h
 |_=>simp[jN,iG]at h
theorem adj(hT:mJ P T)(g:Gd P K w0 B)(r:jD w0 B σ a w L)(h:ud P K T O σ o=some u)(ho:∀ q,q ∈ u.jY->q):GQ P K w0 B σ o a w u:=by
 unfold ud at h;split at h
 .rename_i u0 h0
  split at h
  .split at h
   .rename_i p hp
    cases h;have he:PV.le u0.r p:=ho _ aj;have:=Ly hT g r h0 (λq hq=>ho q (by simp[hq]));intro Kc Q hk;exact this Kc Q λv w' L' hr hv=>hk v w' L' hr (he _ _ _ _ _ hv)
   .cases h
    exact Ly hT g r h0 ho
  .cases h
   exact Ly hT g r h0 ho
 .cases h
end
section
variable {P:Program} {K:World->Prop} {T:List TI} {O:qG} {σ τ:PS} {o:Oper} {u:kQ}
theorem ah0{x:Operand}(h:∀ t,x = .tmp t->σ.get t=τ.get t):τ.op x=σ.op x:=by
 cases x with
 |tmp t=>exact(h t rfl).symm
 |_=>rfl
theorem ajI{p:PV}{m:Nat}{l:List E}{is:List Nat}{jY:List Prop}(h:σ.read p m=some (l,is,jY))(hb:∀ id,id ∈ is->σ.bo id=τ.bo id):τ.read p m=some (l,is,jY):=by
 cases p with
 |box id off=>
  have h0:=h;simp only[PS.read]at h;split at h
  .split at h
   .simp only[bJ,ca]at h
    obtain⟨_,rfl,_⟩:=h;simp only[PS.read,<-hb id aj];exact h0
   .cases h
  .cases h
 |ql id sz i j=>
  have h0:=h;simp only[PS.read]at h;split at h
  .split at h
   .simp only[bJ,ca]at h
    obtain⟨_,rfl,_⟩:=h;simp only[PS.read,<-hb id aj];exact h0
   .cases h
  .cases h
 |e x=>cases x<;>exact h
 |_=>exact h
theorem abW{c:CV}{e:E}{is:List Nat}(h:c.ext σ=some (e,is))(hb:∀ id,id ∈ is->σ.bo id=τ.bo id):c.ext τ=some (e,is):=by
 cases c with
 |e x=>exact h
 |box id=>
  have h0:=h;simp only[CV.ext]at h;split at h
  .simp only[bJ,ca]at h
   obtain⟨_,rfl⟩:=h;simp only[CV.ext,<-hb id aj];exact h0
  .cases h
theorem Sc{l:List CV}{es:List E}{is:List Nat}(h:xx σ l=some (es,is))(hb:∀ id,id ∈ is->σ.bo id=τ.bo id):xx τ l=some (es,is):=by
 induction l generalizing es is with
 |nil=>exact h
 |cons c l ih=>
  simp only[xx]at h;split at h
  .rename_i x i xs js h1 h2
   simp only[bJ,ca]at h;obtain⟨rfl,rfl⟩:=h;simp only[xx,abW h1 λid hi=>hb id (by simp[hi]),ih h2 λid hi=>hb id (by simp[hi])]
  .cases h
theorem aik{p:PV}{e:E}{is:List Nat}(h:p.ext σ=some (e,is))(hb:∀ id,id ∈ is->σ.bo id=τ.bo id):p.ext τ=some (e,is):=by
 cases p with
 |e x=>exact h
 |box id off=>
  cases off with
  |succ=>exact h
  |zero=>
   have h0:=h;simp only[PV.ext]at h;split at h
   .simp only[bJ,ca]at h
    obtain⟨_,rfl⟩:=h;simp only[PV.ext,<-hb id aj];exact h0
   .cases h
 |tu f cap=>
  simp only[PV.ext]at h;split at h
  .rename_i xs js h1
   simp only[bJ,ca]at h;obtain⟨rfl,rfl⟩:=h;simp only[PV.ext,Sc h1 hb]
  .cases h
 |own id=>
  have h0:=h;simp only[PV.ext]at h;split at h
  .simp only[bJ,ca]at h
   obtain⟨_,rfl⟩:=h;simp only[PV.ext,<-hb id aj];exact h0
  .cases h
 |_=>exact h
theorem P4{l:List Operand}{es:List E}{is:List Nat}(h:uZ σ l=some (es,is))(hg:∀ x,x ∈ l->τ.op x=σ.op x)(hb:∀ id,id ∈ is->σ.bo id=τ.bo id):uZ τ l=some (es,is):=by
 induction l generalizing es is with
 |nil=>exact h
 |cons c l ih=>
  simp only[uZ]at h;split at h
  .rename_i x i xs js h1 h2
   simp only[bJ,ca]at h;obtain⟨rfl,rfl⟩:=h;simp only[uZ,hg c aj,aik h1 λid hi=>hb id (by simp[hi]),ih h2 (λx hx=>hg x (by simp[hx])) λid hi=>hb id (by simp[hi])]
  .cases h
theorem Sj{place:Nat->Option (Nat×Nat)}{ps:List (Nat×Operand)}(hg:∀ x,x ∈ ps.map (·.2)->τ.op x=σ.op x):∀ l,rO τ place l ps=rO σ place l ps:=by
 induction ps with
 |nil=>intro l;rfl
 |cons p ps ih=>
  intro l;obtain⟨i,x⟩:=p;simp only[rO,hg x aj,ih λx hx=>hg x (by simp only[eW,cV];exact .inr hx)]
theorem FH{d:Option Tmp}{b:Bx}{rr:Nat->PV}{jY:List Prop}(h:xg σ d b rr jY=some u)(ko:σ.nl=τ.nl)(hn:∀ id b,u.f = .new id b->τ.bo id=none):xg τ d b rr jY=some u:=by
 obtain⟨id,rfl,lH,hc,rfl⟩:=BY h;rw[ko]at hc;simp only[xg,hn id b rfl,hc,bn]
theorem R8{d:Option Tmp}{t:TypeId}{s x:PV}{u:kQ}(h:Aj T σ d t s x=some u)(hb:∀ id,id ∈ u.rb->σ.bo id=τ.bo id)(ko:σ.nl=τ.nl)(hn:∀ id b,u.f = .new id b->τ.bo id=none):Aj T τ d t s x=some u:=by
 simp only[Aj]at h ⊢;split at h
 .split at h
  .split at h
   .split at h
    .split at h
     .split at h
      .rename_i hc
       simp only[hc,bn];split at h
       .rename_i id
        split at h
        .rename_i ki
         split at h
         .rename_i rP
          cases h;simp only[<-hb id aj,<-ko,ki,rP,bn]
         .cases h
        .cases h
       .rename_i id k
        split at h
        .rename_i ki
         split at h
         .rename_i rP
          cases h;simp only[<-hb id aj,ki,rP,bn]
         .cases h
        .cases h
       .exact FH h ko hn
       .cases h
      .cases h
     .cases h
    .cases h
   .cases h
  .cases h
 .cases h
theorem ada{d:Option Tmp}{t:TypeId}{s x:PV}{u:kQ}(h:Bs T σ d t s x=some u)(hb:∀ id,id ∈ u.rb->σ.bo id=τ.bo id)(ko:σ.nl=τ.nl):Bs T τ d t s x=some u:=by
 unfold Bs at h ⊢;split at h
 .rename_i u0 h0
  split at h
  .rename_i id nl T1 n sz el id' hf hr
   split at h
   .rename_i hid
    cases h;have:=R8 (σ:={ σ with nl:=false }) (τ:={ τ with nl:=false }) h0 hb rfl λi b e=>by rw[hf]at e;cases e
    rw[this];simp only[hf,hr,hid,bn]
   .cases h
  .cases h
 .cases h
theorem ade(h:jN P K T O σ o=some u)(hg:∀ x,x ∈ o.op.operands->τ.op x=σ.op x)(hb:∀ id,id ∈ u.rb->σ.bo id=τ.bo id)(ko:σ.nl=τ.nl)(hn:∀ id b,u.f = .new id b->τ.bo id=none):
 jN P K T O τ o=some u:=by
 cases iG:o.op with
 |move x=>rw[iG]at hg;simp only[jN,iG]at h ⊢;rw[hg x ax];exact h
 |assign x=>rw[iG]at hg;simp only[jN,iG]at h ⊢;rw[hg x ax];exact h
 |pick c x y=>rw[iG]at hg;simp only[jN,iG]at h ⊢;rw[hg c ax,hg x ax,hg y ax];exact h
 |nilCheck x=>rw[iG]at hg;simp only[jN,iG]at h ⊢;rw[hg x ax];exact h
 |binOp op t x y yt=>rw[iG]at hg;simp only[jN,iG]at h ⊢;rw[hg x ax,hg y ax];exact h
 |unOp op t x=>rw[iG]at hg;simp only[jN,iG]at h ⊢;rw[hg x ax];exact h
 |convert s d x=>rw[iG]at hg;simp only[jN,iG]at h ⊢;rw[hg x ax];exact h
 |index t x i=>rw[iG]at hg;simp only[jN,iG]at h ⊢;rw[hg x ax,hg i ax];exact h
 |extract x i=>rw[iG]at hg;simp only[jN,iG]at h ⊢;rw[hg x ax];exact h
 |fieldAddr t x f=>rw[iG]at hg;simp only[jN,iG]at h ⊢;rw[hg x ax];exact h
 |field t x f=>rw[iG]at hg;simp only[jN,iG]at h ⊢;rw[hg x ax];exact h
 |makeFunc fn first cap=>
  rw[iG]at hg;cases fn with
  |func f=>
   simp only[jN,iG]at h ⊢;have:cap.toList.map τ.op=cap.toList.map σ.op:=fe λx hx=>hg x (by simp only[Op.operands,eZ];exact .inr (by simpa using hx))
   rw[this];exact h
  |_=>simp[jN,iG]at h
 |slice t x lo hi mx=>
  rw[iG]at hg;cases mx with
  |some=>simp[jN,iG]at h
  |none=>
   simp only[jN,iG]at h ⊢;have e1:lo.map τ.op=lo.map σ.op:=by cases lo with
    |none=>rfl
    |some y=>simp only[cK];rw[hg y ax]
   have e2:hi.map τ.op=hi.map σ.op:=by cases hi with
    |none=>rfl
    |some y=>simp only[cK];rw[hg y ax]
   rw[hg x ax,e1,e2];exact h
 |alloc t=>
  simp only[jN,iG]at h ⊢;split at h
  .split at h
   .exact FH h ko hn
   .cases h
  .cases h
 |box t x=>
  rw[iG]at hg;simp only[jN,iG]at h ⊢;rw[hg x ax];split at h
  .split at h
   .exact FH h ko hn
   .cases h
  .cases h
 |build t ps=>
  rw[iG]at hg;simp only[jN,iG]at h ⊢;have hf:∀ place l,rO τ place l ps.toList=rO σ place l ps.toList:=λplace=>Sj λx hx=>hg x (by simpa[Op.operands]using hx)
  simp only[hf];exact h
 |buildSlice t n ps=>
  rw[iG]at hg;simp only[jN,iG]at h ⊢;have hf:∀ place l,rO τ place l ps.toList=rO σ place l ps.toList:=λplace=>Sj λx hx=>hg x (by simpa[Op.operands]using hx)
  simp only[hf];split at h
  .split at h
   .split at h
    .split at h
     .split at h
      .rename_i hif
       rw[aS hif];obtain⟨l,hl,h⟩:=gh.1 h;refine gh.2 ⟨l,hl,?_⟩;split at h
       .cases h
       .rename_i h1
        rw[aR h1];split at h
        .rename_i h2
         rw[aS h2];exact FH h ko hn
        .rename_i h2
         rw[aR h2];exact h
      .cases h
     .cases h
    .cases h
   .cases h
  .cases h
 |load t x=>
  rw[iG]at hg;simp only[jN,iG,Ib]at h ⊢;rw[hg x ax];split at h
  .rename_i ti qX
   split at h
   .rename_i id i n pQ
    have afC:Cg τ (σ.op x)=some (id,i,n):=by
     have hid:σ.bo id=τ.bo id:=by
      split at h
      .cases h
      .cases h;exact hb id aj 
     cases hp:σ.op x with
     |ql id' sz i' j=>
      rw[hp]at pQ;have h0:=pQ;simp only[Cg]at pQ;split at pQ
      .split at pQ
       .simp only[bJ,ca]at pQ
        obtain⟨rfl,_,_⟩:=pQ;simp only[Cg,<-hid];exact h0
       .cases pQ
      .cases pQ
     |_=>rw[hp]at pQ;cases pQ
    simp only[afC];exact h
   .rename_i pQ
    have key:∀ is,(∃ l jY,σ.read (σ.op x) ti.i.size=some (l,is,jY))->(∀ id,id ∈ is->σ.bo id=τ.bo id)->Cg τ (σ.op x)=none:=by
     rintro is ⟨l,jY,hr⟩ mA;cases hp:σ.op x with
     |ql id sz i j=>
      rw[hp]at hr pQ;simp only[PS.read]at hr;split at hr
      .rename_i ki
       split at hr
       .simp only[bJ,ca]at hr
        obtain⟨_,rfl,_⟩:=hr;simp only[Cg,<-mA id aj,ki]
       .cases hr
      .cases hr
     |_=>rfl
    cases hr:σ.read (σ.op x) ti.i.size with
    |none=>rw[hr]at h;cases h
    |some y=>
     obtain⟨l,is,jY⟩:=y;have BJ:u.rb=is:=by
      rw[hr]at h;simp only[FC]at h;split at h
      .cases h;rfl
      .split at h
       .cases h;rfl
       .cases h
     have mA:∀ id,id ∈ is->σ.bo id=τ.bo id:=λid hi=>hb id (by rw[BJ];exact hi)
     rw[key is ⟨l,jY,hr⟩ mA];simp only;rw[ajI hr mA];rw[hr]at h;exact h
  .cases h
 |store t x y=>
  rw[iG]at hg;simp only[jN,iG,Ig]at h ⊢;rw[hg x ax,hg y ax];split at h
  .split at h
   .rename_i id off e _ _
    split at h
    .rename_i ki hm
     split at h
     .rename_i hc
      cases h;rw[ko]at hc;simp only[<-hb id aj,ki,hm,hc,bn]
     .cases h
    .cases h
   .rename_i id sz i j e _ _
    split at h
    .rename_i ki hm
     split at h
     .rename_i hc
      cases h;simp only[<-hb id aj,ki,hm,hc,bn]
     .cases h
    .cases h
   .rename_i id i id' k _ _
    split at h
    .rename_i ki
     split at h
     .rename_i hc
      cases h;simp only[<-hb id aj,ki,hc,bn]
     .cases h
    .cases h
   .cases h
  .cases h
 |makeSlice t l c=>
  rw[iG]at hg;simp only[jN,iG,Ic]at h ⊢;rw[hg l ax,hg c ax];split at h
  .exact FH h ko hn
  .cases h
 |indexAddr t x i=>
  rw[iG]at hg;simp only[jN,iG,Ia]at h ⊢;rw[hg x ax,hg i ax];split at h
  .split at h
   .split at h
    .split at h
     .split at h
      .exact h
      .rename_i id _
       split at h
       .rename_i ki
        split at h
        .rename_i hc
         cases h;simp only[<-hb id aj,ki,hc,bn]
        .cases h
       .rename_i ki
        split at h
        .rename_i hc
         cases h;simp only[<-hb id aj,ki,hc,bn]
        .cases h
       .cases h
      .cases h
     .cases h
    .exact h
    .cases h
   .cases h
  .cases h
 |call c=>
  rw[iG]at hg;obtain⟨callee,args,ats⟩:=c;have ha:∀ x,x ∈ args.toList->τ.op x=σ.op x:=λx hx=>hg x (by simp only[Op.operands,Call.operands,eZ];exact .inr (by simpa using hx))
  have MB:args.toList.map τ.op=args.toList.map σ.op:=fe ha;cases callee with
  |builtin b=>
   simp only[jN,iG]at h ⊢;cases b
   case len=>
    dsimp only at h ⊢;split at h
    .rename_i x t hx ht
     split at h
     .obtain ⟨rr,hr,rfl⟩:=cH.1 h
      rw[ha x (by rw[hx];simp)];have:vg (σ.op x) τ=some rr:=by
       cases hp:σ.op x with
       |own id=>
        rw[hp]at hr;have h0:=hr;simp only[vg]at hr;split at hr
        .simp only[bJ]at hr
         subst hr;simp only[vg,<-hb id aj];exact h0
        .simp only[bJ]at hr
         subst hr;simp only[vg,<-hb id aj];exact h0
        .cases hr
       |e y=>
        rw[hp]at hr;cases y with
        |v z=>cases z<;>exact hr
        |_=>exact hr
       |_=>rw[hp]at hr;exact hr
      rw[this];rfl
     .cases h
    .cases h
   case append=>
    dsimp only at h ⊢;split at h
    .rename_i s x t t' hx ht
     split at h
     .rename_i rD
      simp only[rD,bn];rw[ha x (by rw[hx];simp),ha s (by rw[hx];simp)];have oM:G3 O o.dst=G3 O o.dst:=rfl;split at h
      .rename_i Me
       simp only[Me,bn];exact ada h hb ko
      .rename_i Me
       simp only[Me,a7,bq];exact R8 h hb ko hn
     .cases h
    .cases h
   case max=>dsimp only at h ⊢;rw[MB];exact h
   case min=>dsimp only at h ⊢;rw[MB];exact h
   all_goals cases h
  |value f=>
   have hf:τ.op f=σ.op f:=hg f (by simp[Op.operands,Call.operands]);simp only[jN,iG]at h ⊢;have lk:(args.toList.map τ.op).any PV.BR=(args.toList.map σ.op).any PV.BR:=by rw[MB]
   rw[hf,lk];have ec:∀ {gf:FuncId} {zs:List E} {is:List Nat} {ow:Bool},Ak P K O σ o.dst gf zs is ow=some u->u.rb=is/\Ak P K O τ o.dst gf zs is ow=some u:=by
    intro gf zs is ow hh;simp only[Ak]at hh ⊢;rw[ko]at hh;split at hh
    .rename_i jZ Fb
     refine⟨?_,hh⟩;split at hh
     .cases hh;rfl
     .split at hh
      .cases hh;rfl
      .cases hh
    .split at hh
     .rename_i d hd
      split at hh
      .rename_i nl T n sz el h1 h2
       split at hh
       .rename_i hc
        cases hh;have h3:=hn _ _ rfl;rw[h1,h3];simp only[hc,bn];constructor<;>first|rfl|trivial
       .cases hh
      .cases hh
     .cases hh
   split at h
   .rename_i gf cap xs is BH qd
    obtain⟨e1,e2⟩:=ec h;rw[P4 qd ha λid hi=>hb id (by rw[e1];exact hi),BH];exact e2
   .rename_i gf cap xs is BH qd
    split at h
    .rename_i ys js Dr
     obtain⟨e1,e2⟩:=ec h;rw[P4 qd ha λid hi=>hb id (by rw[e1];simp[hi]),BH];simp only;rw[Sc Dr λid hi=>hb id (by rw[e1];simp[hi])];exact e2
    .cases h
   .cases h
  |invoke _ _=>simp[jN,iG]at h
 |_=>simp[jN,iG]at h
end
theorem ahh{l:List Operand}{t:Tmp}(h:Operand.tmp t ∈ l):t ∈ Ea l:=by
 induction l with
 |nil=>simp at h
 |cons x l ih=>
  rcases cV.1 h with h|h
  .subst h;simp[Ea]
  .have:=ih h
   cases x<;>simp[Ea,this]
theorem afb{l:List Nat}{n:Nat}:Mg l n=true↔n ∈ l:=by
 unfold Mg;rw[dk];constructor
 .rintro ⟨x,hx,hb⟩;have:=mU.1 hb;subst this;exact hx
 .intro h;exact⟨n,h,dw n⟩
theorem Jr{l:List Nat}{d:Option Nat}(h:DG l d=true){x:Nat}(hx:d=some x):x ∉ l:=by
 subst hx;simp only[DG,ew]at h;intro hm;rw[afb.2 hm]at h;cases h
theorem Kk{a b:Option Nat}(h:Kj a b=true){x y:Nat}(hx:a=some x)(hy:b=some y):x≠y:=by
 subst hx hy;simp only[Kj,ew]at h;intro e;rw[mU.2 e]at h;cases h
theorem GD(f:ru)(p:PV):p.pF f=if zf f p then p else .e .any:=by
 cases f<;>cases p<;>simp only[PV.pF,zf,bn]
 all_goals (split<;>rename_i h<;>simp[h])
theorem Nj{f:ru}{p:PV}(h:zf f p=true):p.pF f=p:=by rw[GD,aS h]
theorem agA(f:ru):zf f (.e .any)=true:=by cases f<;>rfl
theorem amY(p:PV)(f g:ru):(p.pF f).pF g=(p.pF g).pF f:=by
 rw[GD f p,GD g p];cases h1:zf f p<;>cases h2:zf g p<;>simp only[bn,bq,a7,GD,agA,h1,h2]
structure rK(σ τ:PS):Prop where
 n:σ.n=τ.n
 nl:σ.nl=τ.nl
 get:∀ t,σ.get t=τ.get t
 bo:∀ id,σ.bo id=τ.bo id
theorem rK.refl(σ:PS):rK σ σ:=⟨rfl,rfl,λ_=>rfl,λ_=>rfl⟩
theorem rK.symm{σ τ:PS}(h:rK σ τ):rK τ σ:=⟨h.n.symm,h.nl.symm,λt=>(h.get t).symm,λi=>(h.bo i).symm⟩
theorem rK.trans{σ τ υ:PS}(h:rK σ τ)(k:rK τ υ):rK σ υ:=⟨h.n.trans k.n,h.nl.trans k.nl,λt=>(h.get t).trans (k.get t),λi=>(h.bo i).trans (k.bo i)⟩
theorem jD.qn{w0:World}{B:Nat->Prop}{σ τ:PS}{a:Act}{w:World}{L:Lk}(r:jD w0 B σ a w L)(h:rK σ τ):jD w0 B τ a w L:=
 ⟨r.hd,r.hs.trans h.n,λt=>by rw[<-h.get];exact r.ht t,λid b hb=>r.hb id b (by rw[h.bo];exact hb),λid=>by rw[<-h.bo];exact r.hv id,r.hn,r.hw,r.hi,r.he,λhn id b hb=>r.hl (by rw[h.nl];exact hn) id b (by rw[h.bo];exact hb)⟩
theorem Bh(σ:PS)(f:ru)(id:Nat):(σ.qW f).bo id=match f with
 | .none=>σ.bo id
 | .new i b | .uT i b | .rB i b | .wG i b=>if i=id then some b else σ.bo id
 | .fin i=>if i=id then none else σ.bo id:=by
 cases f<;>first|rfl|exact Ji _ _ _ _|exact Nu _ _ _
theorem EK(σ:PS)(d:Option Tmp)(u:kQ)(t:Nat):(σ.app d u).get t=if d=some t then u.r else(σ.get t).pF u.f:=by
 unfold PS.app;cases d with
 |none=>
  rw[aR aj];exact PS.Ip σ u.f t
 |some d=>
  rw[PS.LS,PS.Ip];simp only[bJ]
theorem Bg(σ:PS)(d:Option Tmp)(u:kQ)(id:Nat):(σ.app d u).bo id=(σ.qW u.f).bo id:=PS.aaZ _ _ _ _
theorem FM(σ:PS)(d:Option Tmp)(u:kQ):(σ.app d u).n=σ.n:=by unfold PS.app;rw[PS.NA];rfl
theorem FR(σ:PS)(d:Option Tmp)(u:kQ):(σ.app d u).nl=σ.nl:=by unfold PS.app;rw[PS.ahR];rfl
theorem Ae(σ:PS)(d:Option Tmp)(u:kQ)(id:Nat)(h:u.f.id≠some id):(σ.app d u).bo id=σ.bo id:=by
 rw[Bg,Bh];cases hf:u.f<;>rw[hf]at h<;>simp only[ru.id,cW,bJ]at h<;>first|rfl|exact aR h
section
variable {P:Program} {K:World->Prop} {T:List TI} {O:qG} {gX:Array Oper} {σ τ:PS} {o:Oper} {u:kQ}
theorem adg(h:jN P K T O σ o=some u){x:Operand}(hx:x ∈ o.op.operands):x ∈ FX o.op:=by
 obtain⟨dst,op,ty,pos,after,guard⟩:=o;simp only at hx ⊢;cases op<;>first
  | (simp only[jN]at h;cases h;done)
  | (exfalso;simp[Op.operands]at hx;done)
  | (simpa[Op.operands,FX]using hx)
  | (simpa[Op.operands,FX,or_assoc]using hx)
  |skip
 case call c=>
  obtain⟨callee,args,ats⟩:=c;cases callee<;>simpa[Op.operands,FX,Call.operands]using hx
theorem FI{d:Option Tmp}{b:Bx}{rr:Nat->PV}{jY:List Prop}(h:xg σ d b rr jY=some u){id:Nat}{b':Bx}(hf:u.f = .new id b'):σ.bo id=none:=by
 obtain⟨i,_,lH,_,rfl⟩:=BY h;cases hf;exact lH
theorem adf(h:jN P K T O σ o=some u){id:Nat}{b:Bx}(hf:u.f = .new id b):σ.bo id=none:=by
 cases iG:o.op
 case alloc=>
  simp only[jN,iG]at h;split at h
  .split at h
   .exact FI h hf
   .cases h
  .cases h
 case box=>
  simp only[jN,iG]at h;split at h
  .split at h
   .exact FI h hf
   .cases h
  .cases h
 case makeSlice=>
  simp only[jN,iG,Ic]at h;split at h
  .exact FI h hf
  .cases h
 case makeFunc fn first cap=>
  cases fn with
  |func f=>
   simp only[jN,iG]at h
   repeat' split at h
   all_goals first
    | (cases h;done)
    | (cases h;cases hf;done)
  |_=>simp[jN,iG]at h
 case slice t x lo hi mx=>
  cases mx with
  |none=>
   simp only[jN,iG,Ie]at h
   repeat' split at h
   all_goals first
    | (cases h;done)
    | (cases h;cases hf;done)
  |some=>simp[jN,iG]at h
 case call c=>
  obtain⟨callee,args,ats⟩:=c;cases callee with
  |builtin b=>
   simp only[jN,iG]at h;cases b
   case append=>
    dsimp only at h;split at h
    .split at h
     .split at h
      .unfold Bs at h
       split at h
       .split at h
        .split at h
         .cases h;cases hf
         .cases h
        .cases h
       .cases h
      .simp only[Aj]at h
       repeat' split at h
       all_goals first
        | (cases h;done)
        |exact FI h hf
        | (cases h;cases hf;done)
     .cases h
    .cases h
   all_goals
    dsimp only at h
    repeat' split at h
    all_goals first
     | (cases h;done)
     | (cases h;cases hf;done)
     | (obtain⟨_,_,rfl⟩:=cH.1 h;cases hf)
  |value f=>
   simp only[jN,iG]at h
   repeat' split at h
   all_goals first
    | (cases h;done)
    | (simp only[Ak]at h;repeat' split at h)
   all_goals first
    | (cases h;done)
    | (cases h;cases hf;done)
    | (cases h;cases hf;assumption)
  |invoke _ _=>simp[jN,iG]at h
 all_goals
  simp only[jN,iG,Ig,Ia,Ie,Ib,FC]at h
  repeat' split at h
  all_goals first
   | (cases h;done)
   | (cases h;cases hf;done)
   | (obtain⟨_,_,rfl⟩:=cH.1 h;cases hf)
   |skip
 all_goals first
  | (obtain⟨_,_,h⟩:=gh.1 h;repeat' split at h)
  |skip
 all_goals first
  |exact FI h hf
  | (cases h;done)
  | (cases h;cases hf;done)
theorem LB(h:ud P K T O σ o=some u):∃ u0,jN P K T O σ o=some u0/\u0.rb=u.rb/\u0.f=u.f:=by
 unfold ud at h;split at h
 .rename_i u0 h0
  split at h
  .split at h
   .cases h;exact⟨u0,h0,rfl,rfl⟩
   .cases h;exact⟨_,h0,rfl,rfl⟩
  .cases h;exact⟨_,h0,rfl,rfl⟩
 .cases h
theorem adi(h:ud P K T O σ o=some u)(hg:∀ x,x ∈ o.op.operands->τ.op x=σ.op x)(hb:∀ id,id ∈ u.rb->σ.bo id=τ.bo id)(ko:σ.nl=τ.nl)(hn:∀ id b,u.f = .new id b->τ.bo id=none):
 ud P K T O τ o=some u:=by
 obtain⟨u0,h0,e1,e2⟩:=LB h;have:=ade (τ:=τ) h0 hg (by rw[e1];exact hb) ko (by rw[e2];exact hn);unfold ud at h ⊢;rw[h0]at h;rw[this];exact h
theorem ED(h:q9 P K T O gX σ o=some u):vG σ o.dst=true/\u.rd=(looks gX o).map σ.get/\((zV gX σ o=some true/\∃ u0,ud P K T O σ o=some u0/\u={ u0 with rd:=(looks gX o).map σ.get })\/(zV gX σ o=some false/\u={ r:=.e (.v (.tuple #[])),rd:=(looks gX o).map σ.get })):=by
 unfold q9 at h;split at h
 .rename_i hi
  split at h
  .rename_i hw
   split at h
   .rename_i u0 h0
    cases h;exact⟨hi,rfl,.inl ⟨hw,u0,h0,rfl⟩⟩
   .cases h
  .rename_i hw
   cases h;exact⟨hi,rfl,.inr ⟨hw,rfl⟩⟩
  .cases h
 .cases h
theorem Lz(h:q9 P K T O gX σ o=some u)(hg:∀ t,t ∈ looks gX o->σ.get t=τ.get t)(hb:∀ id,id ∈ u.rb->σ.bo id=τ.bo id)(ko:σ.nl=τ.nl)(lO:σ.n=τ.n)(hn:∀ id b,u.f = .new id b->τ.bo id=none):
 q9 P K T O gX τ o=some u:=by
 obtain⟨hi,_,hw⟩:=ED h;have mr:vG τ o.dst=vG σ o.dst:=by cases o.dst<;>simp[vG,lO]
 have MT:zV gX τ o=zV gX σ o:=by
  unfold zV;cases BA:o.guard with
  |none=>rfl
  |some jw=>
   obtain⟨j,want⟩:=jw;cases hd:(gX[j]?).bind (·.dst)with
   |none=>simp[hd]
   |some t=>
    simp only[hd];rw[hg t (by unfold looks;rw[BA];simp[hd])]
 have IY:(looks gX o).map τ.get=(looks gX o).map σ.get:=fe λt ht=>(hg t ht).symm
 unfold q9;rw[mr,hi,MT,IY];simp only[bn];rcases hw with⟨hw,u0,h0,rfl⟩|⟨hw,rfl⟩
 .rw [hw]
  have iG:∀ x,x ∈ o.op.operands->τ.op x=σ.op x:=by
   intro x hx;obtain⟨u1,h1,_,_⟩:=LB h0;have hm:=adg h1 hx;refine ah0 λt ht=>hg t ?_
   subst ht;unfold looks;exact List.mem_append_left _ (ahh hm)
  simp only[adi h0 iG hb ko hn]
 .rw [hw]
theorem LA(h:q9 P K T O gX σ o=some u){id:Nat}{b:Bx}(hf:u.f = .new id b):σ.bo id=none:=by
 obtain⟨_,_,⟨_,u0,h0,rfl⟩|⟨_,rfl⟩⟩:=ED h
 .obtain ⟨u1,h1,_,e2⟩:=LB h0
  exact adf h1 (by rw[e2];exact hf)
 .cases hf
theorem adh(h:q9 P K T O gX σ o=some u)(hs:rK σ τ):q9 P K T O gX τ o=some u:=
 Lz h (λt _=>hs.get t) (λid _=>hs.bo id) hs.nl hs.n λid b hf=>by rw[<-hs.bo];exact LA h hf
theorem ZW(hs:rK σ τ)(d:Option Tmp)(u:kQ):rK (σ.app d u) (τ.app d u):=
 ⟨by rw[FM,FM];exact hs.n,by rw[FR,FR];exact hs.nl,λt=>by rw[EK,EK,hs.get],λid=>by rw[Bg,Bg,Bh,Bh,hs.bo]⟩
theorem alH{O':qG}{x y:Oper×kQ}(hi:BO gX x y=true)(h1:q9 P K T O gX σ x.1=some x.2)(h2:q9 P K T O' gX (σ.app x.1.dst x.2) y.1=some y.2):
 q9 P K T O' gX σ y.1=some y.2/\q9 P K T O gX (σ.app y.1.dst y.2) x.1=some x.2/\rK ((σ.app x.1.dst x.2).app y.1.dst y.2) ((σ.app y.1.dst y.2).app x.1.dst x.2):=by
 simp only[BO,bu]at hi;obtain⟨⟨⟨⟨⟨⟨⟨⟨⟨i1,i2⟩,i3⟩,i4⟩,i5⟩,i6⟩,i7⟩,i8⟩,i9⟩,i10⟩:=hi;obtain⟨_,rx,_⟩:=ED h1;obtain⟨_,ry,_⟩:=ED h2;have r1:q9 P K T O' gX σ y.1=some y.2:=by
  refine Lz h2 (λt ht=>?_) (λid hid=>Ae _ _ _ _ λe=>Jr i4 e hid) (FR _ _ _) (FM _ _ _) λid b hf=>?_
  .have hg:(σ.app x.1.dst x.2).get t=(σ.get t).pF x.2.f:=by
    rw[EK,aR λe=>Jr i1 e ht]
   rw[hg];by_cases hv:x.2.f.Kp=true
   .have BD:NJ ((σ.get t).pF x.2.f)=true:=by
     have h9:y.2.rd.all NJ=true:=by simpa[hv]using i9
     rw[ry]at h9;exact bH.1 h9 _ (c9.2 ⟨t,ht,hg⟩)
    rw[GD]at BD ⊢;split at BD
    .rename_i hk;rw[aS hk]
    .cases BD
   .cases hf:x.2.f<;>rw[hf]at hv<;>first|exact absurd rfl hv|(cases σ.get t<;>rfl)
  .have:=LA h2 hf
   rwa[Ae _ _ _ _ λe=>Kk i6 e (by rw[hf];rfl) rfl]at this
 refine⟨r1,?_,?_⟩
 .refine Lz h1 (λt ht=>?_) (λid hid=>(Ae _ _ _ _ λe=>Jr i5 e hid).symm) (FR _ _ _).symm (FM _ _ _).symm λid b hf=>?_
  .rw [EK,aR λe=>Jr i3 e ht]
   rw[rx]at i10;exact(Nj (bH.1 i10 _ (c9.2 ⟨t,ht,rfl⟩))).symm
  .rw [Ae _ _ _ _ λe=>Kk i6 (by rw[hf];rfl) e rfl]
   exact LA h1 hf
 .refine ⟨by simp only[FM],by simp only[FR],λt=>?_,λid=>?_⟩
  .simp only[EK]
   by_cases hx:x.1.dst=some t
   .have hy:¬y.1.dst=some t:=λe=>Kk i2 hx e rfl
    rw[aR hy,aS hx,aS hx,Nj i8]
   .by_cases hy:y.1.dst=some t
    .rw [aS hy,aR hx,aS hy,Nj i7]
    .rw [aR hy,aR hx,aR hx,aR hy,amY]
  .by_cases hx:x.2.f.id=some id
   .have hy:y.2.f.id≠some id:=λe=>Kk i6 hx e rfl
    rw[Ae _ _ _ _ hy,Bg,Bg,Bh,Bh,Ae _ _ _ _ hy]
   .rw [Ae _ _ x.2 _ hx]
    rw[Bg,Bg,Bh,Bh,Ae _ _ _ _ hx]
end
section
variable {P:Program} {K:World->Prop} {T:List TI} {O:qG} {gX:Array Oper}
def wi(P:Program)(K:World->Prop)(T:List TI)(gX:Array Oper):List (Oper×kQ)->PS->PS->Prop
 | [],σ,τ=>rK σ τ
 |x::l,σ,τ=>(∃ O,q9 P K T O gX σ x.1=some x.2)/\wi P K T gX l (σ.app x.1.dst x.2) τ
theorem wi.qn{l:List (Oper×kQ)}{σ σ2 τ:PS}(h:wi P K T gX l σ τ)(hs:rK σ σ2):wi P K T gX l σ2 τ:=by
 induction l generalizing σ σ2 with
 |nil=>exact hs.symm.trans h
 |cons x l ih=>exact⟨h.1.imp λ_ h=>adh h hs,ih h.2 (ZW hs _ _)⟩
theorem wi.ad6{A C:List (Oper×kQ)}{y:Oper×kQ}{σ τ:PS}(h:wi P K T gX (A++y::C) σ τ)(hi:∀ x,x ∈ A->BO gX x y=true):
 (∃ O,q9 P K T O gX σ y.1=some y.2)/\wi P K T gX (A++C) (σ.app y.1.dst y.2) τ:=by
 induction A generalizing σ with
 |nil=>exact h
 |cons x A ih=>
  obtain⟨⟨O1,h1⟩,h2⟩:=h;obtain⟨⟨O2,k1⟩,k2⟩:=ih h2 λz hz=>hi z (by simp[hz])
  obtain⟨s1,s2,s3⟩:=alH (hi x aj) h1 k1;exact⟨⟨O2,s1⟩,⟨O1,s2⟩,k2.qn s3⟩
end
section
variable {P:Program} {K:World->Prop} {T:List TI} {O:qG} {w0:World} {B:Nat->Prop} {σ τ:PS} {o:Oper} {a:Act} {w:World} {L:Lk} {u:kQ} {gX:Array Oper}
theorem Ze(r:jD w0 B σ a w L){b:Bool}(h:zV gX σ o=some b):Region.wanted o (yielded gX a.tmps)=b:=by
 unfold zV at h;unfold Region.wanted;split at h
 .rename_i hg
  rw[hg];simpa using h
 .rename_i j want hg
  rw[hg];simp only;split at h
  .rename_i t ht
   have hv:=r.ht t;have key:∀ q:Bool,σ.get t = .e (.v (.bool q))->yielded gX a.tmps j=some q:=by
    intro q hq;rw[hq]at hv;have hv:=iH.kP hv;unfold yielded;rw[ht];simp only[Option.bind_some];have iE:a.tmps[t]? = some (.bool q):=by
     by_cases hs:t<a.tmps.size
     .simpa [hs]using hv
     .simp [hs,undef]at hv
    rw[iE]
   split at h
   .rename_i hq
    rw[key true hq];simp only[bJ]at h;subst h;cases want<;>rfl
   .rename_i hq
    rw[key false hq];simp only[bJ]at h;subst h;cases want<;>rfl
   .rename_i q hq
    rw[hq]at hv;have hv:=iH.kP hv;have hn:yielded gX a.tmps j=none:=by
     unfold yielded;rw[ht];simp only[Option.bind_some];by_cases hs:t<a.tmps.size
     .rw [show a.tmps[t]? = some (.tuple q)by simpa[hs]using hv]
     .simp [hs]
    rw[hn];simp only[bJ]at h;subst h;cases want<;>rfl
   .cases h
  .cases h
theorem Sa(hT:mJ P T)(g:Gd P K w0 B)(r:jD w0 B σ a w L)(h:q9 P K T O gX σ o=some u)(ho:∀ q,q ∈ u.jY->q)(Kc:Act->World->Prop)(Q:Exit->Act->World->Prop)
 (hk:∀ a' w' L',jD w0 B (σ.app o.dst u) a' w' L'->Kc a' w'):
 (Region.wanted o (yielded gX a.tmps)=true/\o.wp P a w Kc Q)\/(Region.wanted o (yielded gX a.tmps)=false/\Kc (a.put o.dst undef) w):=by
 obtain⟨hi,_,⟨hw,u0,h0,rfl⟩|⟨hw,rfl⟩⟩:=ED h
 .refine .inl ⟨Ze r hw,adj hT g r h0 ho Kc Q λv w' L' hr hp=>hk _ w' L' ?_⟩
  have oH:vG (σ.qW u0.f) o.dst=true:=by cases hd:o.dst<;>rw[hd]at hi<;>exact hi
  exact hr.put o.dst u0.r v oH hp
 .exact .inr ⟨Ze r hw,hk _ w L (r.put o.dst (.e (.v (.tuple #[]))) undef hi (.v _))⟩
structure Left(gX:Array Oper)(listed:Array Bool)(R:List (Nat×Oper×kQ)):Prop where
 lp:∀ x,x ∈ R->gX[x.1]? = some x.2.1/\listed.getD x.1 true=false
 all:∀ i,i<gX.size->listed.getD i true=false->∃ x,x ∈ R/\x.1=i
 pw:R.Pairwise λx y=>x.1<y.1/\(AY gX 3 y.2.1 x.1||BO gX x.2 y.2)=true
 ed:∀ x,x ∈ R->∀ e,e ∈ x.2.1.after->Region.binds .any e=true->e.on<x.1
 up:∀ x,x ∈ R->∀ j z,gX[j]? = some z->BQ z x.1=true->listed.getD j true=false
theorem Left.AY{listed:Array Bool}{R:List (Nat×Oper×kQ)}(h:Left gX listed R){x:Nat×Oper×kQ}(hx:x ∈ R):∀ (n:Nat) (j:Nat) (z:Oper),gX[j]? = some z->Pu.AY gX n z x.1=true ->
 listed.getD j true=false/\∃ e,e ∈ z.after/\Region.binds .any e=true/\listed.getD e.on true=false/\e.on<gX.size:=by
 have direct:∀ (j:Nat) (z:Oper),gX[j]? = some z->BQ z x.1=true->listed.getD j true=false/\∃ e,e ∈ z.after/\Region.binds .any e=true/\listed.getD e.on true=false/\e.on<gX.size:=by
  intro j z hz he;refine⟨h.up x hx j z hz he,?_⟩;unfold BQ at he;obtain⟨e,kT,kA⟩:=dk.1 he;simp only[bu]at kA;have o9:=h.lp x hx;refine⟨e,by simpa using kT,kA.1,?_,?_⟩
  .rw [mU.1 kA.2];exact o9.2
  .rw [mU.1 kA.2];exact(cQ.1 o9.1).1
 intro n
 induction n with
 |zero=>exact direct
 |succ n ih=>
  intro j z hz hr;simp only[Pu.AY,fH]at hr;rcases hr with hr|hr
  .exact direct j z hz hr
  .obtain ⟨e,kT,kA⟩:=dk.1 hr
   simp only[bu]at kA;obtain⟨kA,Mn⟩:=kA;split at Mn
   .rename_i z' xO
    obtain⟨k1,_⟩:=ih e.on z' xO Mn;have iE:=(cQ.1 xO).1;obtain⟨x',oX,I5⟩:=h.all e.on iE k1;refine⟨h.up x' oX j z hz ?_,e,by simpa using kT,kA,k1,iE⟩;unfold BQ;refine dk.2 ⟨e,kT,?_⟩;rw[kA,I5];simp
   .cases Mn
theorem Oy{md:Region.Mode}{listed:Array Bool}{i:Nat}:i ∈ Region.ready md gX listed↔i<gX.size/\listed.getD i true=false/\∃ o,gX[i]? = some o/\∀ e,e ∈ o.after->Region.binds md e=true->listed.getD e.on false=true:=by
 unfold Region.ready;rw[List.mem_filter];simp only[bI,bu,ew];constructor
 .rintro ⟨h1,h2,h3⟩
  refine⟨h1,h2,gX[i],by simp[h1],λe he hb=>?_⟩;rw[Array.getElem?_eq_getElem h1]at h3;simp only[cK,anN,aoc]at h3;have:=h3 e he;simpa[hb]using this
 .rintro ⟨h1,h2,o,h3,h4⟩
  refine⟨h1,h2,?_⟩;rw[h3];simp only[cK,anN,aoc];intro e he;cases hb:Region.binds md e with
  |false=>rfl
  |true=>simpa using h4 e he hb
theorem ZP(hT:mJ P T)(g:Gd P K w0 B){Q:Exit->Act->World->Prop}(hq:∀ a' w' L',jD w0 B τ a' w' L'->Q .normal a' w'):
 ∀ (fuel:Nat) (listed:Array Bool) (R:List (Nat×Oper×kQ)) (σ:PS) (a:Act) (w:World) (L:Lk),R.length=fuel->listed.size=gX.size->Left gX listed R->(∀ x,x ∈ R->∀ q,q ∈ x.2.2.jY->q) ->
  wi P K T gX (R.map (·.2)) σ τ->jD w0 B σ a w L->wpAny P .any gX Q fuel listed a w:=by
 intro fuel
 induction fuel with
 |zero=>
  intro listed R σ a w L hlen Dd hleft ho IZ r;have hR:=df hlen;subst hR;refine⟨?_,hq a w L (r.qn IZ)⟩;apply List.eq_nil_iff_forall_not_mem.2;intro i hi;obtain⟨h1,h2,_⟩:=Oy.1 hi;obtain⟨x,hx,_⟩:=hleft.all i h1 h2;simp at hx
 |succ fuel ih=>
  intro listed R σ a w L hlen Dd hleft ho IZ r;refine⟨λBE=>?_,λi hi=>?_⟩
  .
   exfalso;cases R with
   |nil=>simp at hlen
   |cons x R=>
    have hx:=hleft.lp x aj;have iE:x.1<gX.size:=(cQ.1 hx.1).1;have:x.1 ∈ Region.ready .any gX listed:=Oy.2 ⟨iE,hx.2,x.2.1,hx.1,λe he hb=>by
     have Dh:=hleft.ed x aj e he hb;cases hl:listed.getD e.on true with
     |true=>
      have:e.on<listed.size:= ae ;simp[this]at hl ⊢;exact hl
     |false=>
      exfalso;obtain⟨y,hy,I7⟩:=hleft.all e.on ae hl;rcases cV.1 hy with hy|hy
      .subst hy;omega
      .have:=(anO.1 hleft.pw).1 y hy;omega⟩
    rw[BE]at this;simp at this
  .obtain ⟨h1,h2,o,h3,h4⟩:=Oy.1 hi
   obtain⟨y,hy,hyi⟩:=hleft.all i h1 h2;subst hyi;obtain⟨A,C,rfl⟩:=List.append_of_mem hy;have I8:=hleft.lp y hy;have afn:∀ x,x ∈ A->BO gX x.2 y.2=true:=by
    intro x hx;have hp:=(anP.1 hleft.pw).2.2 x hx y aj;rcases Bool.or_eq_true_iff.1 hp.2 with he|he
    .exfalso
     obtain⟨_,e,kT,kA,lv,iE⟩:=hleft.AY (show x ∈ A++y::C by simp[hx]) 3 y.1 y.2.1 I8.1 he;have rC:o=y.2.1:=by rw[I8.1]at h3;exact(anQ h3).symm
     have hl:=h4 e (by rw[rC];exact kT) kA;have qd:e.on<listed.size:=by rw[Dd];exact iE
     simp[qd]at hl lv;rw[hl]at lv;cases lv
    .exact he
   rw[gR,eW]at IZ;obtain⟨⟨O,k1⟩,k2⟩:=IZ.ad6 (λx hx=>by
    obtain⟨z,hz,rfl⟩:=c9.1 hx;exact afn z hz)
   have afq:Left gX (listed.setIfInBounds y.1 true) (A++C):=by
    have jJ:∀ x,x ∈ A++C->x.1≠y.1:=by
     intro x hx;rcases dH.1 hx with hx|hx
     .have:=((anP.1 hleft.pw).2.2 x hx y aj).1;omega
     .have:=((anO.1 (anP.1 hleft.pw).2.1).1 x hx).1;omega
    have I2:∀ x,x ∈ A++C->x ∈ A++y::C:=λx hx=>by
     rcases dH.1 hx with hx|hx<;>simp[hx]
    refine⟨λx hx=>?_,λj hj hl=>?_,?_,λx hx=>hleft.ed x (I2 x hx),λx hx j z hz he=>?_⟩
    .obtain ⟨q1,q2⟩:=hleft.lp x (I2 x hx)
     refine⟨q1,?_⟩;have qd:x.1<listed.size:=by rw[Dd];exact(cQ.1 q1).1
     simp[qd]at q2 ⊢;rw[anR _ (λe=>jJ x hx e.symm)];exact q2
    .have IJ:j<listed.size:= ae 
     by_cases Db:j=y.1
     .subst Db
      simp[IJ]at hl
     .have:listed.getD j true=false:=by
       simp[IJ]at hl ⊢;rw[anR _ (λe=>Db e.symm)]at hl;exact hl
      obtain⟨x,hx,I6⟩:=hleft.all j hj this;refine⟨x,?_,I6⟩;rcases dH.1 hx with hx|hx
      .simp [hx]
      .rcases cV.1 hx with hx|hx
       .subst hx;exact absurd I6.symm Db
       .simp [hx]
    .exact hleft.pw.sublist (List.Sublist.append (List.Sublist.refl A) (List.sublist_cons_self y C))
    .have q:=hleft.up x (I2 x hx) j z hz he
     have IJ:j<listed.size:=by rw[Dd];exact(cQ.1 hz).1
     by_cases Db:j=y.1
     .exfalso
      subst Db;rw[I8.1]at hz h3;cases hz;cases h3;unfold BQ at he;obtain⟨e,kT,kA⟩:=dk.1 he;simp only[bu]at kA;have hl:=h4 e (by simpa using kT) kA.1;rw[mU.1 kA.2]at hl;have lv:=(hleft.lp x (I2 x hx))
      have qd:x.1<listed.size:=by rw[Dd];exact(cQ.1 lv.1).1
      have lv:=lv.2;simp[qd]at hl lv;rw[hl]at lv;cases lv
     .simp [IJ]at q ⊢
      rw[anR _ (λe=>Db e.symm)];exact q
   unfold wpOp;rw[I8.1];simp only;rcases Sa hT g r k1 (ho y aj) (wpAny P .any gX Q fuel (listed.setIfInBounds y.1 true)) Q (λa' w' L' hr=>ih _ (A++C) _ a' w' L' (by simp at hlen ⊢;omega) (by simpa using Dd) afq (λx hx=>ho x (by
    rcases dH.1 hx with hx|hx<;>simp[hx])) (by rw[gR];exact k2) hr)with⟨p1,p2⟩|⟨p1,p2⟩
   .rw [aS p1];exact .inl p2
   .rw [aR (by rw[p1];simp)];exact p2
theorem agJ{us:List (Oper×kQ)}(y5:us.map (·.1)=gX.toList)(hp:DK gX 0 us=true):
 ∃ R:List (Nat×Oper×kQ),R.map (·.2)=us/\R.length=gX.size/\Left gX (Array.replicate gX.size false) R:=by
 have key:∀ (us:List (Oper×kQ)) (k:Nat),DK gX k us=true->(∀ j x,us[j]? = some x->gX[k+j]? = some x.1) ->
  ∃ R:List (Nat×Oper×kQ),R.map (·.2)=us/\(∀ j x,R[j]? = some x->x.1=k+j)/\(∀ x,x ∈ R->gX[x.1]? = some x.2.1)/\(R.Pairwise λx y=>x.1<y.1/\(AY gX 3 y.2.1 x.1||BO gX x.2 y.2)=true) /\
   (∀ x,x ∈ R->∀ e,e ∈ x.2.1.after->Region.binds .any e=true->e.on<x.1):=by
  intro us
  induction us with
  |nil=>exact λk _ _=>⟨[],rfl,λj x h=>by simp at h,λx h=>by simp at h,List.Pairwise.nil,λx h=>by simp at h⟩
  |cons x us ih=>
   intro k hp o9;simp only[DK,bu]at hp;obtain⟨R,r1,r2,r3,r4,r5⟩:=ih (k+1) hp.2 (λj y hy=>by have:=o9 (j+1) y (by simpa using hy);rwa[show k+(j+1)=k+1+j by omega]at this);have pX:∀ y,y ∈ R->k<y.1/\y.2 ∈ us:=by
    intro y hy;obtain⟨j,hj⟩:=dg.1 hy;have:=r2 j y hj;exact⟨ae,by rw[<-r1];exact c9.2 ⟨y,hy,rfl⟩⟩
   refine⟨(k,x)::R,by simp[r1],λj y hy=>?_,λy hy=>?_,?_,λy hy=>?_⟩
   .cases j with
    |zero=>simp at hy;subst hy;rfl
    |succ j=>have:=r2 j y (by simpa using hy);omega
   .rcases cV.1 hy with hy|hy
    .subst hy;have:=o9 0 x rfl;simpa using this
    .exact r3 y hy
   .rw [anO]
    refine⟨λy hy=>⟨(pX y hy).1,?_⟩,r4⟩;exact bH.1 hp.1.2 y.2 (pX y hy).2
   .rcases cV.1 hy with hy|hy
    .subst hy
     intro e he hb;have:=bH.1 hp.1.1 e (by simpa using he);simpa[hb]using this
    .exact r5 y hy
 obtain⟨R,r1,r2,r3,r4,r5⟩:=key us 0 hp (λj x hx=>by
  rw[bX];have:=congrArg (·[j]?) y5;simp only[cj,hx,cK]at this;simpa using this.symm)
 have hlen:R.length=gX.size:=by
  have h1:=congrArg List.length r1;have h2:=congrArg List.length y5;simp at h1 h2;omega
 refine⟨R,r1,hlen,λx hx=>⟨r3 x hx,?_⟩,λi hi _=>?_,r4,r5,λx hx j z hz _=>by have:=(cQ.1 hz).1;simp[this]⟩
 .have:=(cQ.1 (r3 x hx)).1
  simp[this]
 .have oH:i<R.length:= ae 
  exact⟨R[i],cz oH,by have:=r2 i R[i] (bg oH);omega⟩
end
def PS.le(σ τ:PS):Prop:=∀ (w0:World) (B:Nat->Prop) (a:Act) (w:World) (L:Lk),(∀ b,B b->b<w0.heap.size)->jD w0 B σ a w L->∃ L',jD w0 B τ a w L'
theorem PS.le.refl(σ:PS):PS.le σ σ:=λ_ _ _ _ L _ r=>⟨L,r⟩
theorem PS.le.trans{σ τ υ:PS}(h:PS.le σ τ)(k:PS.le τ υ):PS.le σ υ:=λw0 B a w L g r=>let⟨L',r'⟩:=h w0 B a w L g r;k w0 B a w L' g r'
theorem PV.le.refl(p:PV):PV.le p p:=λ_ _ _ _ _ h=>h
def Bx.le(a b:Bx):Prop:=(a.nl=true->b.nl=true)/\∀ (bs br:Nat->Prop) (L:Lk) (w:World) (id:Nat),rJ bs br L w id a->rJ bs br L w id b
theorem Bx.le.refl(a:Bx):Bx.le a a:=⟨id,λ_ _ _ _ _ h=>h⟩
def xq(σ:PS):List (Nat×PV)->Prop
 | []=>True
 | (k,p)::l=>PV.le (σ.get k) p/\xq σ l
def we(σ:PS):List (Nat×Bx)->Prop
 | []=>True
 | (id,b)::l=>(∃ b',σ.bo id=some b'/\Bx.le b' b)/\we σ l
def Gj(τ:PS):Bool:=τ.t.all λx=>x.2.qQ.all λid=>(look τ.b id).isSome
theorem Nv{α:Type}{l:List (Nat×α)}{t:Nat}{x:α}(h:look l t=some x):(t,x) ∈ l:=by
 induction l with
 |nil=>cases h
 |cons y l ih=>
  obtain⟨k,z⟩:=y;rw[tR]at h;split at h
  .rename_i e;cases h;subst e;exact .head _
  .exact .tail _ (ih h)
theorem xq.get{σ:PS}{l:List (Nat×PV)}(h:xq σ l){t:Nat}{p:PV}(k:look l t=some p):PV.le (σ.get t) p:=by
 induction l with
 |nil=>cases k
 |cons y l ih=>
  obtain⟨q,z⟩:=y;rw[tR]at k;split at k
  .rename_i e;cases k;subst e;exact h.1
  .exact ih h.2 k
theorem we.get{σ:PS}{l:List (Nat×Bx)}(h:we σ l){t:Nat}{b:Bx}(k:look l t=some b):∃ b',σ.bo t=some b'/\Bx.le b' b:=by
 induction l with
 |nil=>cases k
 |cons y l ih=>
  obtain⟨q,z⟩:=y;rw[tR]at k;split at k
  .rename_i e;cases k;subst e;exact h.1
  .exact ih h.2 k
theorem PS.le.pT{σ τ:PS}(hn:σ.n=τ.n)(ko:τ.nl=σ.nl)(hr:Gj τ=true)(ht:xq σ τ.t)(hb:we σ τ.b):PS.le σ τ:=λw0 B a w L _ r=>by
 let L':Lk:=⟨λid=>L.oC id/\(τ.bo id).isSome=true,λid x=>L.own id x/\(τ.bo id).isSome=true,L.val,L.jz⟩
 have iE:s9 L w L' w:=⟨aV _,λx _ ⟨id,h,_⟩=>⟨id,h⟩,λ_ _ _=>rfl⟩
 refine⟨L',r.hd,by rw[<-hn];exact r.hs,λt=>?_,λid b h=>?_,λid=>?_,λid x h=>⟨r.hn id x h.1,h.2⟩,λid x h=>r.hw id x h.1,λid id' x h k=>r.hi id id' x h.1 k.1,r.he,λh id b k=>?_⟩
 .have hg:τ.get t=((look τ.t t)).getD (.e .any):=rfl
  cases hl:look τ.t t with
  |none=>rw[hg,hl];exact .any _
  |some p=>
   rw[hg,hl];have:=ht.get hl _ _ _ _ _ (r.ht t);refine nT.move iE this λid hid vz=>⟨⟨vz,?_⟩,rfl,λ_=>rfl⟩
   have q:=bH.1 hr _ (Nv hl);exact bH.1 q id hid
 .obtain ⟨b',h1,h2⟩:=hb.get h
  have hs:(τ.bo id).isSome=true:=by rw[h];rfl
  exact(h2.2 _ _ _ _ _ (r.hb id b' h1)).later iE rfl (λx=>⟨λq=>q.1,λq=>⟨q,hs⟩⟩) (λ_=>rfl) λ_ _=>rfl
 .show L.oC id/\(τ.bo id).isSome=true↔(τ.bo id).isSome=true
  refine⟨λh=>h.2,λh=>⟨(r.hv id).2 ?_,h⟩⟩;obtain⟨b,ki⟩:=gi.1 h;obtain⟨b',h1,_⟩:=hb.get ki;rw[h1];rfl
 .obtain ⟨b',h1,h2⟩:=hb.get k
  exact h2.1 (r.hl (by rw[<-ko];exact h) id b' h1)
def Er(σ:PS):List Nat->List (Nat×Bx)
 | []=>[]
 |i::l=>match σ.bo i with
  |some b=>(i,b)::Er σ l
  |none=>Er σ l
def PS.cut(ts bs:List Nat)(σ:PS):PS:={ n:=σ.n,nl:=σ.nl,t:=ts.map λt=>(t,σ.get t),b:=Er σ bs }
theorem xq.cut(σ:PS):∀ ts:List Nat,xq σ (ts.map λt=>(t,σ.get t))
 | []=>trivial
 |_::l=>⟨PV.le.refl _,xq.cut σ l⟩
theorem we.cut(σ:PS):∀ bs:List Nat,we σ (Er σ bs)
 | []=>trivial
 |i::l=>by
  unfold Er;split
  .rename_i b h
   exact⟨⟨b,h,Bx.le.refl b⟩,we.cut σ l⟩
  .exact we.cut σ l
theorem PS.le.cut{σ:PS}(ts bs:List Nat)(hr:Gj (σ.cut ts bs)=true):PS.le σ (σ.cut ts bs):=PS.le.pT rfl rfl hr (xq.cut σ ts) (we.cut σ bs)
def Ex.to:Ex->Exit
 | .normal=>.normal
 | .exit id=>.exit id
 | .ret=>.ret
def Sp(P:Program)(K:World->Prop)(c:Code)(σ:PS)(Q:Ex->PS->Prop):Prop:=
 ∀ (w0:World) (B:Nat->Prop) (a:Act) (w:World) (L:Lk),Gd P K w0 B->jD w0 B σ a w L->c.wp P (λe a' w'=>∃ ex τ L',e=ex.to/\Q ex τ/\jD w0 B τ a' w' L') a w
theorem Sp.mono{P:Program}{K:World->Prop}{c:Code}{σ:PS}{Q Q':Ex->PS->Prop}(h:Sp P K c σ Q)(hq:∀ e τ,Q e τ->Q' e τ):Sp P K c σ Q':=
 λw0 B a w L g r=>Code.wp_mono (λ_ _ _ ⟨ex,τ,L',h1,h2,h3⟩=>⟨ex,τ,L',h1,hq _ _ h2,h3⟩) (h w0 B a w L g r)
abbrev Lo:=List (Nat×(Ex×PS×List Nat×List Nat))
section
variable {P:Program} {K:World->Prop} {T:List TI} {O:qG} {lo:Lo}
theorem Sp.loop{b:Code}{Q:Ex->PS->Prop}(J:Nat->PS->Prop)(w9:∀ n σ,J n σ->Sp P K b σ (λe τ=>(e = .normal/\∃ m,m<n/\J m τ)\/(e ≠ .normal/\Q e τ))):
 ∀ n σ,J n σ->Sp P K (.loop b) σ Q:=by
 intro n0 σ0 hJ0 w0 B a0 w1 L0 g r0 bf k cs;have key:∀ n σ a w L,J n σ->jD w0 B σ a w L ->
  ∃ e a' w',(∃ ex τ L',e=ex.to/\Q ex τ/\jD w0 B τ a' w' L')/\Arrives P (lone (bf.at a (.code b :: .inLoop b::k)) cs w) bf k cs e a' w':=by
  intro n
  induction n using Nat.strongRecOn with
  |_ n ih=>
   intro σ a w L hJ r;obtain⟨e,a₁,w₁,⟨ex,υ,L2,rfl,hq,nE⟩,wK⟩:=w9 n σ hJ w0 B a w L g r bf (.inLoop b::k) cs;rcases hq with⟨rfl,m,hm,LY⟩|⟨jJ,hq⟩
   .obtain ⟨e₂,a₂,w₂,MJ,Mf⟩:=ih m hm υ a₁ w₁ L2 LY nE
    exact⟨e₂,a₂,w₂,MJ,.of_steps (Steps.trans wK (.one step_inLoop)) Mf⟩
   .cases ex with
    |normal=>exact absurd rfl jJ
    |exit i=>exact⟨_,a₁,w₁,⟨.exit i,υ,L2,rfl,hq,nE⟩,.pass (x:=.inLoop b) rfl (λ_ _=>.inl (by simp[Ex.to])) wK⟩
    |ret=>exact⟨_,a₁,w₁,⟨.ret,υ,L2,rfl,hq,nE⟩,.pass (x:=.inLoop b) rfl (λ_ _=>.inl (by simp[Ex.to])) wK⟩
 obtain⟨e,a',w',hq,wK⟩:=key n0 σ0 a0 w1 L0 hJ0 r0;exact⟨e,a',w',hq,.of_steps (.one step_loop) wK⟩
theorem amo{w0:World}{B:Nat->Prop}{σ:PS}{a:Act}{w:World}{L:Lk}(hB:∀ b,B b->b<w0.heap.size)(r:jD w0 B σ a w L){p:PV}{e:E}(h:Ke σ p=some e){v:Value}(hv:nT (jE B L) (kr L) L w p v):
 iH B (λ_=>True) w e v:=by
 have Tg:∀ id x,L.own id x->¬B x:=λid x hx hb=>by have:=hB x hb;have:=(r.hw id x hx).1;omega
 have own:∀ (v:Value) (T:TypeId) (n sz:Nat) (f:Nat->Nat->Value) (nl:Bool) (el:Nat->Nat->E) (id:Nat),qH w v T n sz f nl->(∀ x,v.ownBlock=some x->L.own id x) ->
  (∀ i j,i<n->j<sz->iH (jE B L) (kr L) w (el i j) (f i j)/\(el i j).nr 2=true)->iH B (λ_=>True) w (.sl nl n sz el) v:=by
  intro v T n sz f nl el id h1 h2 h3;rcases h1 with⟨rfl,rfl⟩|⟨b,c,cur,rfl,hg,pB,nN,nO,lq,ko⟩
  .exact .sl nl 0 sz el none 0 f (aV _) ag (λ_=>rfl) (λi j hi=>absurd hi (bk i)) (λi j hi=>absurd hi (bk i)) (λi j hi=>absurd hi (bk i)) (λi j hi=>absurd hi (bk i))
  .have rC:=h2 b rfl
   refine .sl nl n sz el _ c f pB (by unfold maxLen at nN;omega) (λh=>by cases h) (λi j hi hj=>⟨(lq i j hi hj).2,λhn=>ko hn _ (dh (lq i j hi hj).1)⟩) (λi j hi hj=>(h3 i j hi hj).2)
    (λi j hi hj=>⟨b,0,rfl,Tg id b rC,(r.hw id b rC).2,?_⟩) (λi j hi hj=>((h3 i j hi hj).1.rq (λ_ h=>.inl h) (λ_ h=>h)).nr 2 (h3 i j hi hj).2)
   rw[bX];simp only[World.cell?,hg];simpa using(lq i j hi hj).1
 cases p with
 |e x=>
  simp only[Ke]at h;split at h
  .rename_i hn
   cases h;exact(iH.rq (bs':=B) (br':=kr L) (λ_ h=>.inl h) (λ_ h=>h) hv).nr 3 hn
  .cases h
 |own id=>
  obtain⟨_,rfl⟩:=hv;simp only[Ke]at h;split at h
  .rename_i nl T n sz el ki
   cases h;obtain⟨f,h1,h2,h3⟩:=r.hb id _ ki;exact own _ T n sz f nl el id h1 (λx hx=>(h2 x).2 hx) h3
  .rename_i nl T1 T0 n sz len el ki
   cases h;obtain⟨b,c,cur,f,h1,h2,h3,h4,h5,h6,h7,h8,h9,wH,xC⟩:=r.hb id _ ki;have rC:L.own id b:=(h9 b).2 (.inl rfl);rw[h1];refine .sl true n 1 _ _ c (λk _=>L.jz id k) h3 (by unfold maxLen at h4;omega) (λh=>by cases h) (λk j hk hj=>?_) (λk j hk hj=>rfl)
    (λk j hk hj=>⟨b,0,rfl,Tg id b rC,(r.hw id b rC).2,?_⟩) (λk j hk hj=>own _ T0 (len k) sz (f k) nl (el k) id (h8 k hk).1 (λx hx=>(h9 x).2 (.inr ⟨k,hk,hx⟩)) (h8 k hk).2)
   .obtain ⟨q1,q2⟩:=h7 _ (dh (h6 k hk aj))
    exact⟨q1,λ_=>q2⟩
   .rw [bX,bQ]
    obtain rfl:j=0:= ae ;simp only[World.cell?,h2];simpa using h6 k hk aj 
  .cases h
 |_=>cases h
def Ce(tmps:Array Value):ResultVar->Sem Value
 | .tmp t=>Pure.pure (tmps.getD t undef)
 | .cell q t=>do loadVar t (<-asAddr (tmps.getD q undef))
theorem OD(fn:Func)(tmps:Array Value):results fn tmps=(do
 let vs <-fn.results.mapM (Ce tmps)
 Pure.pure (if h:vs.size=1 then vs[0]else .tuple vs)):=by
 unfold results;congr 1
theorem akh{w0:World}{B:Nat->Prop}{σ:PS}{a:Act}{w:World}{L:Lk}(hT:mJ P T)(hB:∀ b,B b->b<w0.heap.size)(r:jD w0 B σ a w L){x:ResultVar}{e:E}(h:OC T σ x=some e):
 ∃ v,(Ce a.tmps x).run P w = .ok v w/\iH B (λ_=>True) w e v:=by
 cases x with
 |tmp t=>exact⟨_,rfl,amo hB r h (r.ht t)⟩
 |cell q t=>
  simp only[OC]at h;split at h
  .rename_i ti qX
   split at h
   .rename_i l is IY
    obtain⟨b,of,vs,e1,h1,h2,h3⟩:=r.read (r.ht q) IY (λq hq=>by simp at hq);by_cases ha:ti.isAgg=true
    .rw [aS ha]at h
     split at h
     .rename_i hn
      cases h;refine⟨.agg vs.toArray,?_,(iH.rq (bs':=B) (br':=kr L) (λ_ h=>.inl h) (λ_ h=>h) h1.agg).nr 3 hn⟩;simp only[Ce,e1,asAddr,Sem.run_bind,Sem.run_pure,Result.andThen_ok,XM hT w qX ha b of vs h2 h3]
     .cases h
    .rw [aR ha]at h
     split at h
     .rename_i y
      split at h
      .rename_i hn
       cases h;obtain⟨z,zs,rfl,hz,_⟩:=h1.mg;refine⟨z,?_,(iH.rq (bs':=B) (br':=kr L) (λ_ h=>.inl h) (λ_ h=>h) hz).nr 3 hn⟩;simp only[Ce,e1,asAddr,Sem.run_bind,Sem.run_pure,Result.andThen_ok,OM hT w qX (by simpa using ha) b of z (by simpa using h3 0 z rfl)]
      .cases h
     .cases h
   .cases h
  .cases h
theorem akf{w0:World}{B:Nat->Prop}{σ:PS}{a:Act}{w:World}{L:Lk}(hT:mJ P T)(hB:∀ b,B b->b<w0.heap.size)(r:jD w0 B σ a w L){l:List ResultVar}{es:List E}(h:DW T σ l=some es):
 ∃ vs,(l.mapM (Ce a.tmps)).run P w = .ok vs w/\ku B (λ_=>True) w es vs:=by
 induction l generalizing es with
 |nil=>simp only[DW,bJ]at h;subst h;exact⟨[],rfl,.nil _ _ _⟩
 |cons x l ih=>
  simp only[DW]at h;split at h
  .rename_i e es' h1 h2
   cases h;obtain⟨v,q1,q2⟩:=akh hT hB r h1;obtain⟨vs,p1,p2⟩:=ih h2;refine⟨v::vs,?_,.cons q2 p2⟩;rw[fc];simp only[Sem.run_bind,q1,Result.andThen_ok,p1,Sem.run_pure]
  .cases h
theorem akg{w0:World}{B:Nat->Prop}{σ:PS}{a:Act}{w:World}{L:Lk}(hT:mJ P T)(hB:∀ b,B b->b<w0.heap.size)(r:jD w0 B σ a w L){fn:Func}{e:E}(h:JQ T fn σ=some e):
 ∃ v,(results fn a.tmps).run P w = .ok v w/\iH B (λ_=>True) w e v:=by
 unfold JQ at h;have main:∀ es,DW T σ fn.results.toList=some es->∃ vs:List Value,(fn.results.mapM (Ce a.tmps)).run P w = .ok vs.toArray w/\ku B (λ_=>True) w es vs:=by
  intro es hes;obtain⟨vs,h1,h2⟩:=akf hT hB r hes;refine⟨vs,?_,h2⟩;rw[aod];simp only[Sem.run_map,h1,Result.andThen_ok]
 split at h
 .rename_i y hy
  cases h;obtain⟨vs,h1,h2⟩:=main _ hy;obtain⟨v,vs',rfl,hv,BE⟩:=h2.mg;have:=BE.qk;subst this;refine⟨v,?_,hv⟩;rw[OD,Sem.run_bind,h1];simp
 .rename_i l jJ hl
  cases h;obtain⟨vs,h1,h2⟩:=main _ hl;refine⟨.tuple vs.toArray,?_,h2.ix⟩;rw[OD,Sem.run_bind,h1];have hlen:¬vs.length=1:=by
   rw[h2.len];intro e1
   match l,e1 with
   | [y],_=>exact jJ y rfl
  simp[hlen]
 .cases h
theorem af2(args:List E):∀ (k t:Nat),look (Ft k args) t=if k<=t then(args[t-k]?).map .e else none:=by
 induction args with
 |nil=>intro k t;simp[Ft,look]
 |cons x l ih=>
  intro k t;simp only[Ft];rw[tR,ih (k+1) t];by_cases h:k=t
  .subst h;simp
  .rw [aR h]
   by_cases h2:k<=t
   .rw [aS ae,aS h2,show t-k=(t-(k+1))+1 by omega]
    simp
   .rw [aR ae,aR h2]
theorem jD.init{B:Nat->Prop}{w:World}{fn:Func}{args:List E}{vs:List Value}(hr:ku B (λ_=>False) w args vs)(hn:args.length<=fn.ntmps)(nl:Bool)(_hB:∀ b,B b->b<w.heap.size/\oR w b):
 jD w B (AG fn nl args) { tmps:=vs.toArray++Array.replicate (fn.ntmps-vs.toArray.size) undef,defers:=[] } w ⟨λ_=>False,λ_ _=>False,λ_=>undef,λ_ _=>undef⟩:=by
 have hlen:=hr.len;refine⟨rfl,by simp[AG];omega,λt=>?_,λid b hb=>(by cases hb),λid=>⟨λh=>h.elim,λh=>(by cases h)⟩,λ_ _ h=>h.elim,λ_ _ h=>h.elim,λ_ _ _ h=>h.elim,Below.refl _ _,λ_ id b hb=>(by cases hb)⟩;have hg:(AG fn nl args).get t=((args[t]?).map PV.e).getD (.e .any):=by
  unfold PS.get AG;rw[af2];simp
 rw[hg];by_cases ht:t<args.length
 .have AB:t<vs.length:= ae 
  rw[bg ht];have hv:(vs.toArray++Array.replicate (fn.ntmps-vs.toArray.size) undef).getD t undef=vs[t]:=by
   simp[Array.getElem?_append,AB]
  show iH _ _ _ _ _;rw[hv];exact(hr.lr t _ _ (bg ht) (bg AB)).rq (λb h=>h.elim id λ⟨_,h⟩=>h.elim) (λ_ ⟨_,h⟩=>h.elim)
 .rw [bT ae]
  exact .any _
theorem PC.Ny(hT:mJ P T)(hm:P.follows .mixedOrders=true)(hp:∀ w w',K w->Below w.heap.size w w'->K w'){f:FuncId}{fn:Func}{c:Code}{args:List E}{jZ:E}(wM:∀ (vs:Array Value) (w:World),(callFunc f vs).run P w = .ok (.enter f vs) w)
 (hf:P.funcs[f]? = some fn) (hb:fn.body=some c) (hn:args.length<=fn.ntmps) (nl:Bool)
 (h:Sp P K c (AG fn nl args) (λe τ=>(e = .ret\/e = .normal)/\∃ r,JQ T fn τ=some r/\∀ (bs br:Nat->Prop) (w:World) (v:Value),iH bs br w r v->iH bs br w jZ v)):PC P K f args jZ:=by
 refine⟨wM,λw B vs hK hB hr=>calls_of_wp hf hb ?_⟩;have wX:=jD.init (fn:=fn) hr hn nl hB;refine Code.wp_mono ?_ (h w B _ w _ ⟨hK,hp,hB⟩ wX);rintro e a' w' ⟨ex,τ,L',rfl,⟨he,r,Fb,hle⟩,rU⟩;obtain⟨v,h1,h2⟩:=akg hT (λb hb=>(hB b hb).1) rU Fb;have E7:a'.defers=[]/\∃ v,(results fn a'.tmps).run P w' = .ok v w'/\∃ v',Ending.returned v = .returned v'/\Below w.heap.size w w'/\iH B (λ_=>True) w' jZ v':=⟨rU.hd,v,h1,v,rfl,rU.he,hle _ _ _ _ h2⟩
 rcases he with rfl|rfl
 .exact E7
 .exact E7
theorem tc.Ny(hT:mJ P T)(hm:P.follows .mixedOrders=true)(hp:∀ w w',K w->Below w.heap.size w w'->K w'){f:FuncId}{fn:Func}{c:Code}{args:List E}(wM:∀ (vs:Array Value) (w:World),(callFunc f vs).run P w = .ok (.enter f vs) w)
 (hf:P.funcs[f]? = some fn) (hb:fn.body=some c) (hn:args.length<=fn.ntmps) (nl:Bool) {nl':Bool} {T0:TypeId} {n sz:Nat} {el:Nat->Nat->E}
 (h:Sp P K c (AG fn nl args) (λe τ=>(e = .ret\/e = .normal)/\∃ t id b,fn.results.toList=[.tmp t]/\τ.get t = .own id/\τ.bo id=some b/\∀ (bs br:Nat->Prop) (L:Lk) (w:World),rJ bs br L w id b->rJ bs br L w id (.row nl' T0 n sz el))):tc P K f args nl' T0 n sz el:=by
 refine⟨wM,λw B vs hK hB hr=>calls_of_wp hf hb ?_⟩;have wX:=jD.init (fn:=fn) hr hn nl hB;refine Code.wp_mono ?_ (h w B _ w _ ⟨hK,hp,hB⟩ wX);rintro e a' w' ⟨ex,τ,L',rfl,⟨he,t,id,b,Fb,hg,ki,hle⟩,rU⟩;have ho:=rU.ht t;rw[hg]at ho;obtain⟨vz,hv⟩:=ho;obtain⟨f0,h1,h2,h3⟩:=hle _ _ _ _ (rU.hb id b ki);have lN:(results fn a'.tmps).run P w' = .ok (L'.val id) w':=by
  rw[OD,Sem.run_bind,aod,Fb,Sem.run_map,fc];simp only[Ce,Sem.run_bind,Sem.run_pure,Result.andThen_ok,List.mapM_nil,hv];simp
 have E7:a'.defers=[]/\∃ v,(results fn a'.tmps).run P w' = .ok v w'/\∃ v',Ending.returned v = .returned v'/\Below w.heap.size w w'/\∃ g,qH w' v' T0 n sz g nl'/\(∀ x,v'.ownBlock=some x->w.heap.size<=x/\x<w'.heap.size) /\
  ∀ i j,i<n->j<sz->iH (λb=>B b\/v'.ownBlock=some b) (λ_=>True) w' (el i j) (g i j)/\(el i j).nr 2=true:=by
  refine⟨rU.hd,_,lN,_,rfl,rU.he,f0,h1,λx hx=>rU.hw id x ((h2 x).2 hx),λi j hi hj=>⟨?_,(h3 i j hi hj).2⟩⟩;refine((h3 i j hi hj).1.rq (bs':=λb=>B b\/(L'.val id).ownBlock=some b) (br':=kr L') (λb hb=>?_) (λ_ h=>h)).nr 2 (h3 i j hi hj).2;rcases hb with hb|hb
  .exact .inl hb
  .exact .inr ⟨id,(h2 b).2 hb⟩
 rcases he with rfl|rfl
 .exact E7
 .exact E7
end
def GU(P:Program):List TI->Prop
 | []=>True
 |x::l=>(P.underlying x.id=some x.d/\P.info? x.id=some x.i)/\GU P l
theorem GU.ok{P:Program}{T:List TI}(h:GU P T):mJ P T:=by
 induction T with
 |nil=>intro x hx;simp at hx
 |cons y l ih=>
  intro x hx;rcases cV.1 hx with hx|hx
  .subst hx;exact h.1
  .exact ih h.2 x hx
def E.le(p q:E):Prop:=∀ (bs br:Nat->Prop) (w:World) (v:Value),iH bs br w p v->iH bs br w q v
theorem E.le.refl(p:E):E.le p p:=λ_ _ _ _ h=>h
theorem E.le.iS{p q:E}(h:p=q):E.le p q:=h▸E.le.refl p
theorem E.le.trans{p q r:E}(h:E.le p q)(k:E.le q r):E.le p r:=λ_ _ _ _ x=>k _ _ _ _ (h _ _ _ _ x)
theorem PV.le.e{p q:E}(h:E.le p q):PV.le (.e p) (.e q):=λbs br _ w v k=>h bs br w v k
theorem PV.le.bool{a b:Bool}(h:a=b):PV.le (.e (.v (.bool a))) (.e (.v (.bool b))):=PV.le.e (.iS (by rw[h]))
theorem PV.le.int{k:IntKind}{a b:Int}(h:a=b):PV.le (.e (.v (.int k a))) (.e (.v (.int k b))):=PV.le.e (.iS (by rw[h]))
inductive tZ:List E->List E->Prop
 |nil:tZ [] []
 |cons {p q:E} {l m:List E} (h:E.le p q) (k:tZ l m):tZ (p::l) (q::m)
theorem tZ.refl:∀ l:List E,tZ l l
 | []=>.nil
 |p::l=>.cons (.refl p) (tZ.refl l)
theorem tZ.JP{l m:List E}(h:tZ l m){bs br:Nat->Prop}{w:World}{vs:List Value}(k:ku bs br w l vs):ku bs br w m vs:=by
 induction h generalizing vs with
 |nil=>exact k
 |cons h _ ih=>
  obtain⟨x,ys,rfl,h1,h2⟩:=k.mg;exact .cons (h _ _ _ _ h1) (ih h2)
theorem E.le.agg{l m:List E}(h:tZ l m):E.le (.agg l) (.agg m):=λ_ _ _ _ k=>by
 obtain⟨vs,rfl,hr⟩:=iH.CA k;exact(h.JP hr).agg
theorem E.le.ix{l m:List E}(h:tZ l m):E.le (.ix l) (.ix m):=λ_ _ _ _ k=>by
 obtain⟨vs,rfl,hr⟩:=iH.YW k;exact(h.JP hr).ix
theorem E.le.nil(nl:Bool)(sz:Nat)(el:Nat->Nat->E):E.le (.v (.slice none 0 0)) (.sl nl 0 sz el):=λ_ _ _ _ k=>by
 obtain rfl:=iH.kP k;exact .sl nl 0 sz el none 0 (λ_ _=>undef) (aV _) ag (λ_=>rfl) (λi j h=>absurd h (bk i)) (λi j h=>absurd h (bk i)) (λi j h=>absurd h (bk i)) (λi j h=>absurd h (bk i))
theorem E.le.sl{nl:Bool}{n sz:Nat}{el el':Nat->Nat->E}(h:∀ i j,i<n->j<sz->E.le (el i j) (el' i j)/\(el' i j).nr 2=true):E.le (.sl nl n sz el) (.sl nl n sz el'):=λbs br w v k=>by
 cases k with
 |sl _ _ _ _ A c f hc hm h0 hl hr cell kk=>
  exact .sl nl n sz el' A c f hc hm h0 hl (λi j hi hj=>(h i j hi hj).2) cell λi j hi hj=>(h i j hi hj).1 _ _ _ _ (kk i j hi hj)
theorem PC.le{P:Program}{K:World->Prop}{f:FuncId}{args args':List E}{jZ res':E}(h:PC P K f args jZ)(ha:tZ args' args)(hr:E.le jZ res'):PC P K f args' res':=
 ⟨h.call,λw B vs hK hB rV=>(h.run w B vs hK hB (ha.JP rV)).mono λ_ _ ⟨v,h1,h2,h3⟩=>⟨v,h1,h2,hr _ _ _ _ h3⟩⟩
theorem PC.jZ{P:Program}{K:World->Prop}{f:FuncId}{args:List E}{jZ res':E}(h:PC P K f args jZ)(hr:E.le jZ res'):PC P K f args res':=h.le (tZ.refl _) hr
end Go.Proofs.YtkjkcjhacddojaaGreatDoor.Pu
namespace Go.Proofs.YtkjkcjhacddojaaGreatDoor
open Go.RowKit Fp
theorem uH(A:Option Addr)(c:Nat)(L:List Nat)(w:World)(hs:Sl w A c L):
 Calls prog 274 #[.slice A L.length c] w λe w'=>e = .returned (.slice A (il L).length c)/\w=w':=by
 have hc:=hs.cap;have hl:=hs.qf;go_enter func274,ntmps274;go_wp2;go_loop [3] (λi=>∃ k:Nat,k<=L.length/\i = .int .i64 k/\lZ L=lZ (L.take k)) (λi=>(intOf i).toNat)
 case atStart=>exact⟨L.length,aV _,rfl,aj⟩
 case round=>
  obtain⟨k,hk,rfl,ht⟩:=hrel;have HT:=aol ht;clear ht;by_cases h0:0<k
  .obtain ⟨ab,ao,rfl,hb,h1⟩:=hs.lp (i:=k-1) ae 
   have e1:((k:Int)-1).toNat=k-1:= ae ;have Z:=aol (Kd L (k-1) ae);have NZ:=aol (Kb L (k-1) ae);rw[eH h0]at Z NZ;generalize L[k-1]=x at *
   by_cases hx:x=0
   .have Hx:=aol hx;clear hx
    have hb:((x:Int)==0)=true:=by have:=Hx.out;simp;omega
    go_wp2;go_round
    case rel=>exact⟨k-1,ae,by go_num,by rw[HT.out,Z.out Hx.out]⟩
    case measure=>simp[intOf];omega
   .have hb:((x:Int)==0)=false:= av 
    go_wp2;go_ret;exact⟨JS (by show _=lZ L;rw[HT.out,NZ.out hx]),rfl⟩
  .go_wp2
   go_ret;have:k=0:= ae ;subst this;exact⟨JS (by show _=lZ L;rw[HT.out];rfl),rfl⟩
theorem acQ(A:Option Addr)(c:Nat)(L:List Nat)(w:World)(hs:Sl w A c L):
 Calls prog 299 #[.slice A L.length c] w λe w'=>e = .returned (.slice A (il L).length c)/\w=w':=by
 have hc:=hs.cap;have hl:=hs.qf;go_enter func299,ntmps299;go_wp2;go_loop [3] (λi=>∃ k:Nat,k<=L.length/\i = .int .i64 k/\lZ L=lZ (L.take k)) (λi=>(intOf i).toNat)
 case atStart=>exact⟨L.length,aV _,rfl,aj⟩
 case round=>
  obtain⟨k,hk,rfl,ht⟩:=hrel;have HT:=aol ht;clear ht;by_cases h0:0<k
  .obtain ⟨ab,ao,rfl,hb,h1⟩:=hs.lp (i:=k-1) ae 
   have e1:((k:Int)-1).toNat=k-1:= ae ;have Z:=aol (Kd L (k-1) ae);have NZ:=aol (Kb L (k-1) ae);rw[eH h0]at Z NZ;generalize L[k-1]=x at *
   by_cases hx:x=0
   .have Hx:=aol hx;clear hx
    have hb:((x:Int)==0)=true:=by have:=Hx.out;simp;omega
    go_wp2;go_round
    case rel=>exact⟨k-1,ae,by go_num,by rw[HT.out,Z.out Hx.out]⟩
    case measure=>simp[intOf];omega
   .have hb:((x:Int)==0)=false:= av 
    go_wp2;go_ret;exact⟨JS (by show _=lZ L;rw[HT.out,NZ.out hx]),rfl⟩
  .go_wp2
   go_ret;have:k=0:= ae ;subst this;exact⟨JS (by show _=lZ L;rw[HT.out];rfl),rfl⟩
theorem Sl.tW{w:World}{A:Option Addr}{c:Nat}{L:List Nat}(h:Sl w A c L):Sl w A c (il L):=(h.take (lZ L)).eqv (Gy L).symm
def aaV:Go.Shelf.Ren:=⟨λ|128=>345|n=>n,λ|51=>150|3=>3|4=>4|46=>166|5=>5|9=>9|n=>n,λ|n=>n⟩
theorem aaQ:Go.Proofs.Lays.n128 prog aaV:={
 mixed:= ah 
 f128:=func345.trans (congrArg some ah)
 t3:=underlying3
 a3:=Tryz.isAgg3
 z3:=Tryz.sizeOf3
 v3:=Tryz.zeroValue3
 t4:=underlying4
 a4:=Tryz.isAgg4
 z4:=Tryz.sizeOf4
 v4:=Tryz.zeroValue4
 t5:=underlying5
 a5:=Tryz.isAgg5
 z5:=Tryz.sizeOf5
 v5:=Tryz.zeroValue5
 t9:=underlying9
 a9:=Tryz.isAgg9
 z9:=Tryz.sizeOf9
 v9:=Tryz.zeroValue9
 t46:=underlying166
 a46:=Tryz.isAgg166
 z46:=Tryz.sizeOf166
 v46:=Tryz.zeroValue166
 t51:=underlying150
 a51:=Tryz.isAgg150
 z51:=Tryz.sizeOf150
 v51:=Tryz.zeroValue150 }
theorem UU(x:Nat)(hx:x<4294967296)(w:World):
 Calls prog 345 #[.int .u32 x] w λe w'=>e = .returned (.int .i64 (ie x))/\w=w':=by
 refine(Any.bits_Len32 aaQ x w ae ae).mono ?_;rintro e w' ⟨rfl,rfl⟩;rw[fC,aaJ x hx];exact⟨rfl,rfl⟩
theorem amz(x k idx:Nat)(w:World)(mw:((x:Int)==0)=false)
 (key:bits BinOp.and IntKind.u32 (x:Int) (-(x:Int)%4294967296)*125613361%4294967296/134217728=(idx:Int))
 (hi:idx<32) (hk:k<32) (lq:w.cell? ⟨0,idx,none⟩=some (.int .u8 k)):
 Calls prog 355 #[.int .u32 x] w λe w'=>e = .returned (.int .i64 k)/\w=w':=by
 go_enter func355,ntmps355;go_wp2_with (simp only[key])
 go_ret;exact⟨rfl,rfl⟩
theorem amy(x:Nat)(h0:x≠0)(hx:x<4294967296)(w:World)(hT:Tb w):
 Calls prog 355 #[.int .u32 x] w λe w'=>e = .returned (.int .i64 (jQ x))/\w=w':=by
 rw[<-aca x h0 hx];obtain⟨Av,hk⟩:=Lib.lowest_bit 32 x h0 hx;obtain⟨hi,afG⟩:=Lib.deBruijn32_at _ hk;have lq:=hT _ hi;rw[afG]at lq;exact amz x _ _ w av (tz32_key x _ hx h0 Av) hi hk lq
theorem i64_in(n:Int)(h0:-9223372036854775808<=n)(h1:n<=9223372036854775807):IntKind.i64.wrap n=n:=by rw[IntKind.wrap_i64];omega
theorem QF{L M:List Nat}{n:Nat}(hs:iD L)(hM:il L=M)(hn:M.length=n+1):
 ∃ x,M[n]? = some x/\x<4294967296/\(32*(n:Int)+(ie x:Int))=(ie (val L):Int)/\ie x<=32:=by
 have hk:iD M:=hM▸hs.il;have ht:nf M:=hM▸zP L;rcases gO M with rfl|⟨l,x,rfl⟩
 .simp at hn
 .simp only[gP,ch,fT,Nat.add_right_cancel_iff]at hn hk ht hM ⊢
  subst hn;have hx:x≠0:=by simpa using(Bb _).1 ht aj 
  have iE:x<4294967296:=hk x aj;refine⟨x,aj,iE,?_,kR.2 iE⟩;have:=aaU hk hx;rw[<-hM,oG]at this;omega
theorem VF(A:Option Addr)(c:Nat)(L:List Nat)(w:World)(hs:Sl w A c L)(hlen:L.length<=100000000):
 Calls prog 294 #[.slice A L.length c] w λe w'=>e = .returned (.int .i64 (ie (val L)))/\w=w':=by
 have hT:=aol (uH A c L w hs);have kB:=hs.tW;have nD:=oO L;unfold lZ at nD;generalize hM:il L=M at *
 obtain⟨n,hn⟩:∃ n,n=M.length:=⟨_,rfl⟩
 rw[<-hn]at hT nD;rcases n with _|n
 .have hv:ie (val L)=0:=by rw[<-oG,hM,df hn.symm];rfl
  have HV:=aol hv;clear hv hM hn;go_enter func294,ntmps294;go_wp2_with (go_at_call 274;refine hT.out.mono ?_;rintro e w' ⟨rfl,rfl⟩)
  go_ret;exact⟨by rw[HV.out];rfl,rfl⟩
 .obtain ⟨x,hx,iE,hb,Mj⟩:=QF hs.ok hM hn.symm
  obtain⟨ab,ao,rfl,_,lq⟩:=kB.cell _ _ hx;have HB:=aol hb;clear hb hM hn hx;go_enter func294,ntmps294;go_wp2_with (first|(go_at_call 274;refine hT.out.mono ?_;rintro e w' ⟨rfl,rfl⟩)|(go_at_call 345;refine(UU x iE _).mono ?_;rintro e w' ⟨rfl,rfl⟩))
  go_ret;exact⟨oE HB.out,rfl⟩
theorem aaS{x:Nat}(h:x≠0):ie x=ie (x/2)+1:=by
 by_cases h1:x/2=0
 .have:x=1:= ae 
  subst this;rfl
 .have e1:=rH h1
  have e2:=oY (x/2);have e3:=mY h1;generalize ie (x/2)=k at *
  obtain⟨j,rfl⟩:∃ j,k=j+1:=⟨k-1,ae⟩
  rw[dI]at e1;refine u4 ?_ ?_
  .rw [a6];omega
  .rw [a6];omega
theorem Xr(A:Option Addr)(c:Nat)(L:List Nat)(w:World)(hs:Sl w A c L)(ht:nf L)(hlen:L.length<=100000000):
 Calls prog 170 #[.slice A L.length c] w λe w'=>e = .returned (.int .i64 (ie (val L)))/\w=w':=by
 obtain⟨n,hn⟩:∃ n,n=L.length:=⟨_,rfl⟩
 rcases n with _|n
 .have hv:ie (val L)=0:=by rw[df hn.symm];rfl
  have HV:=aol hv;rw[<-hn];clear hv ht hn;go_enter func170,ntmps170;go_wp2;go_ret;exact⟨by rw[HV.out];rfl,rfl⟩
 .obtain ⟨x,hx,iE,hb,Mj⟩:=QF hs.ok ht hn.symm
  obtain⟨ab,ao,rfl,_,lq⟩:=hs.cell _ _ hx;have HB:=aol hb;rw[<-hn]at hlen ⊢;clear hb ht hn hx;go_enter func170,ntmps170;go_wp2;go_loop [3,4] (λm y=>∃ (k z:Nat),z<4294967296/\y = .int .u32 z/\m = .int .i64 k/\k<=10000000000/\k+ie z=ie (val L)) (λ_ y=>(intOf y).toNat)
  case atStart=>exact⟨32*n,x,iE,rfl,by go_num,ae,by have:=HB.out;omega⟩
  case round=>
   obtain⟨k,z,hz,rfl,rfl,hk,he⟩:=hrel;have HE:=aol he;clear he;by_cases h0:0<z
   .have hh:=aol (aaS (x:=z) ae)
    have sV:k<=3300000000:=by have:=HE.out;have:=HB.out;omega
    go_wp2;go_round
    case rel=>exact⟨k+1,z/2,ae,by go_num,by go_num,ae,by rw[<-HE.out,hh.out];omega⟩
    case measure=>simp[intOf];omega
   .obtain rfl:z=0:= ae 
    go_wp2;go_ret;exact⟨oE (by rw[<-HE.out];rfl),rfl⟩
theorem Ra{L M:List Nat}(hL:iD L)(h:(il L).length<(il M).length):kf (val L) (val M) = -1:=by
 have:=Km hL.il (zP M) h;rw[oG,oG]at this;unfold kf;rw[aS this]
theorem Q9{L M:List Nat}(hM:iD M)(h:(il M).length<(il L).length):kf (val L) (val M)=1:=by
 have:=Km hM.il (zP L) h;rw[oG,oG]at this;unfold kf;rw[aR ae,aS this]
theorem Hn{M N:List Nat}(hM:iD M){k x y:Nat}(hl:M.length=N.length)(hx:M[k]? = some x)(hy:N[k]? = some y)(hd:M.drop (k+1)=N.drop (k+1))(h:x<y):val M<val N:=by
 obtain⟨h1,rfl⟩:=bZ.1 hx;obtain⟨h2,rfl⟩:=bZ.1 hy;exact amR hM k h1 hl hd h
theorem RB{M N:List Nat}{k x:Nat}(hx:M[k]? = some x)(hy:N[k]? = some x)(hd:M.drop (k+1)=N.drop (k+1)):M.drop k=N.drop k:=by
 obtain⟨h1,e1⟩:=bZ.1 hx;obtain⟨h2,e2⟩:=bZ.1 hy;rw[eI h1,eI h2,e1,e2,hd]
theorem FN(A B:Option Addr)(c d:Nat)(L M:List Nat)(w:World)(hs:Sl w A c L)(hr:Sl w B d M)(h1:L.length<=100000000)(_h2:M.length<=100000000):
 Calls prog 220 #[.slice A L.length c,.slice B M.length d] w λe w'=>e = .returned (.int .i64 (kf (val L) (val M)))/\iz w w':=by
 have hT:=aol (uH A c L w hs);have hU:=aol (uH B d M w hr);have kB:=hs.tW;have nE:=hr.tW;have nD:=oO L;have vD:=oO M;unfold lZ at nD vD;by_cases iE:(il L).length<(il M).length
 .have HV:=aol (Ra hs.ok iE)
  have jJ:(((il L).length:Int) != ((il M).length:Nat))=true:= av ;generalize (il L).length=n at *
  generalize (il M).length=m at *
  clear kB nE;go_enter func220,ntmps220;go_wp2_with fail;refine hT.out.mono ?_;rintro e w' ⟨rfl,rfl⟩;go_wp2_with fail;refine hU.out.mono ?_;rintro e w' ⟨rfl,rfl⟩;go_wp2;go_ret;exact⟨oE (by rw[HV.out]),iz.refl _⟩
 .by_cases C9:(il M).length<(il L).length
  .have HV:=aol (Q9 hr.ok C9)
   have jJ:(((il L).length:Int) != ((il M).length:Nat))=true:= av ;generalize (il L).length=n at *
   generalize (il M).length=m at *
   clear kB nE;go_enter func220,ntmps220;go_wp2_with fail;refine hT.out.mono ?_;rintro e w' ⟨rfl,rfl⟩;go_wp2_with fail;refine hU.out.mono ?_;rintro e w' ⟨rfl,rfl⟩;go_wp2;go_ret;exact⟨oE (by rw[HV.out]),iz.refl _⟩
  .have hl:(il L).length=(il M).length:= ae 
   have HL:=aol hl;rw[<-hl]at hU vD;have e1:=oG L;have e2:=oG M;generalize il L=P at *
   generalize il M=Q at *
   have E1:=aol e1;have E2:=aol e2;clear e1 e2 hl C9 iE;obtain⟨n,hn⟩:∃ n,n=P.length:=⟨_,rfl⟩
   rw[<-hn]at hT hU vD nD;have HN:=aol hn;clear hn;have jJ:((n:Int) != (n:Int))=false:= aj ;have okP:=kB.ok;have B5:=nE.ok;go_enter func220,ntmps220;go_wp2_with fail;refine hT.out.mono ?_;rintro e w' ⟨rfl,rfl⟩;go_wp2_with fail;refine hU.out.mono ?_;rintro e w' ⟨rfl,rfl⟩;go_wp2;go_loopw [5] (λi wr=>∃ k:Nat,k<=n/\i = .int .i64 ((k:Int)-1)/\P.drop k=Q.drop k/\iz w wr) (λi _=>(intOf i+1).toNat)
   case atStart=>exact⟨n,aV _,rfl,by rw[dW (by rw[<-HN.out];exact aV _),dW (by rw[<-HL.out,<-HN.out];exact aV _)],iz.refl _⟩
   case round=>
    obtain⟨k,hk,rfl,hd,hb⟩:=hrel;have HD:=aol hd;clear hd;rcases k with _|k
    .go_wp2
     go_ret;have e:P=Q:=by simpa using HD.out
     exact⟨oE (by rw[<-E1.out,<-E2.out,e];unfold kf;simp),hb⟩
    .have BB:k<P.length:=by have:=HN.out;omega
     have yV:k<Q.length:=by have:=HN.out;have:=HL.out;omega
     have HP:=aol (bg BB);have HQ:=aol (bg yV);obtain⟨ab,ao,rfl,_,c1⟩:=(kB.below hb).lp BB;obtain⟨bb,bo,rfl,_,c2⟩:=(nE.below hb).lp yV;have IL:(k:Int)<n:= ae ;have rh:(0:Int)<=k:= ae ;have x0:(0:Int)<=P[k]:= ae ;have y0:(0:Int)<=Q[k]:= ae ;generalize P[k]=x at *
     generalize Q[k]=y at *
     clear BB yV;by_cases qv:x<y
     .have MU:(x:Int)<y:= ae 
      go_wp2;go_quiet (fail);go_wp2;go_ret;have h:=Hn okP HL.out HP.out HQ.out HD.out qv;rw[E1.out,E2.out]at h;exact⟨oE (by unfold kf;rw[aS h]),below_drewN hb _⟩
     .have MU:¬(x:Int)<y:= ae 
      by_cases MW:y<x
      .have MX:(y:Int)<x:= ae 
       go_wp2;go_quiet (fail);go_wp2;go_quiet (fail);go_wp2;go_ret;have h:=Hn B5 HL.out.symm HQ.out HP.out HD.out.symm MW;rw[E1.out,E2.out]at h;exact⟨oE (by unfold kf;rw[aR ae,aS h]),below_drewN (below_drewN hb _) _⟩
      .have MX:¬(y:Int)<x:= ae 
       have HX:=aol (show x=y by omega);go_wp2;go_quiet (fail);go_wp2;go_quiet (fail);go_wp2;go_roundw
       case rel=>exact⟨k,ae,by go_num,RB HP.out (by rw[HX.out];exact HQ.out) HD.out,by repeat (first|exact hb|refine below_drewN ?_ _)⟩
       case measure=>simp[intOf];try omega
theorem Xs(A B:Option Addr)(c d:Nat)(P Q:List Nat)(w:World)(kB:Sl w A c P)(nE:Sl w B d Q)(tP:nf P)(tQ:nf Q)(h1:P.length<=100000000)(_h2:Q.length<=100000000):
 Calls prog 156 #[.slice A P.length c,.slice B Q.length d] w λe w'=>e = .returned (.int .i64 (kf (val P) (val Q)))/\iz w w':=by
 have tP':il P=P:=tP;have tQ':il Q=Q:=tQ;by_cases iE:P.length<Q.length
 .have HV:=aol (Ra (M:=Q) kB.ok (by rw[tP',tQ'];exact iE))
  have jJ:((P.length:Int) != (Q.length:Nat))=true:= av ;generalize P.length=n at *
  generalize Q.length=m at *
  clear kB nE tP' tQ' tP tQ;go_enter func156,ntmps156;go_wp2;go_ret;exact⟨oE (by rw[HV.out]),iz.refl _⟩
 .by_cases C9:Q.length<P.length
  .have HV:=aol (Q9 (L:=P) nE.ok (by rw[tP',tQ'];exact C9))
   have jJ:((P.length:Int) != (Q.length:Nat))=true:= av ;generalize P.length=n at *
   generalize Q.length=m at *
   clear kB nE tP' tQ' tP tQ;go_enter func156,ntmps156;go_wp2;go_ret;exact⟨oE (by rw[HV.out]),iz.refl _⟩
  .have hl:P.length=Q.length:= ae 
   have HL:=aol hl;rw[<-hl];clear hl C9 iE tP' tQ' tP tQ _h2;obtain⟨n,hn⟩:∃ n,n=P.length:=⟨_,rfl⟩
   rw[<-hn]at h1 ⊢;have HN:=aol hn;clear hn;have jJ:((n:Int) != (n:Int))=false:= aj ;have okP:=kB.ok;have B5:=nE.ok;go_enter func156,ntmps156;go_wp2;go_loopw [5] (λi wr=>∃ k:Nat,k<=n/\i = .int .i64 ((k:Int)-1)/\P.drop k=Q.drop k/\iz w wr) (λi _=>(intOf i+1).toNat)
   case atStart=>exact⟨n,aV _,rfl,by rw[dW (by rw[<-HN.out];exact aV _),dW (by rw[<-HL.out,<-HN.out];exact aV _)],iz.refl _⟩
   case round=>
    obtain⟨k,hk,rfl,hd,hb⟩:=hrel;have HD:=aol hd;clear hd;rcases k with _|k
    .go_wp2
     go_ret;have e:P=Q:=by simpa using HD.out
     exact⟨oE (by rw[e];unfold kf;simp),hb⟩
    .have BB:k<P.length:=by have:=HN.out;omega
     have yV:k<Q.length:=by have:=HN.out;have:=HL.out;omega
     have HP:=aol (bg BB);have HQ:=aol (bg yV);obtain⟨ab,ao,rfl,_,c1⟩:=(kB.below hb).lp BB;obtain⟨bb,bo,rfl,_,c2⟩:=(nE.below hb).lp yV;have IL:(k:Int)<n:= ae ;have rh:(0:Int)<=k:= ae ;have x0:(0:Int)<=P[k]:= ae ;have y0:(0:Int)<=Q[k]:= ae ;generalize P[k]=x at *
     generalize Q[k]=y at *
     clear BB yV;by_cases qv:x<y
     .have MU:(x:Int)<y:= ae 
      go_wp2;go_quiet (fail);go_wp2;go_ret;have h:=Hn okP HL.out HP.out HQ.out HD.out qv;exact⟨oE (by unfold kf;rw[aS h]),below_drewN hb _⟩
     .have MU:¬(x:Int)<y:= ae 
      by_cases MW:y<x
      .have MX:(y:Int)<x:= ae 
       go_wp2;go_quiet (fail);go_wp2;go_quiet (fail);go_wp2;go_ret;have h:=Hn B5 HL.out.symm HQ.out HP.out HD.out.symm MW;exact⟨oE (by unfold kf;rw[aR ae,aS h]),below_drewN (below_drewN hb _) _⟩
      .have MX:¬(y:Int)<x:= ae 
       have HX:=aol (show x=y by omega);go_wp2;go_quiet (fail);go_wp2;go_quiet (fail);go_wp2;go_roundw
       case rel=>exact⟨k,ae,by go_num,RB HP.out (by rw[HX.out];exact HQ.out) HD.out,by repeat (first|exact hb|refine below_drewN ?_ _)⟩
       case measure=>simp[intOf];try omega
theorem K6(A:Option Addr)(c:Nat)(L:List Nat)(w:World)(hs:Sl w A c L):
 Calls prog 302 #[.slice A L.length c] w λe w'=>e = .returned (.slice A L.length L.length)/\w=w':=by
 have hc:=hs.cap;have hl:=hs.qf;go_enter func302,ntmps302;go_wp2;go_ret;exact⟨rfl,rfl⟩
theorem Sl.Q1{w:World}{A:Option Addr}{c:Nat}{L:List Nat}(h:Sl w A c L):Sl w A L.length L:=
 ⟨aV _,aY h.cap h.qf,h.ok,(λe=>by have:=h.xh e;have:=h.cap;omega),h.cell⟩
theorem K7(A:Option Addr)(c:Nat)(L:List Nat)(w:World)(hs:Sl w A c L)(hlen:L.length<=100000000):
 Calls prog 244 #[.slice A L.length c] w (tg w L):=by
 have hc:=hs.cap;have hl:=hs.qf;rcases A with _|ad
 .have h0:=hs.xh rfl
  subst h0;have:L=[]:=df ae;subst this;have q:=λ(w:World) (n' c':Nat)=>Lib.run_eql_slice_nil (P:=prog) w 37 _ none 0 0 n' c' underlying37
  simp only[Option.isNone_none]at q;go_enter func244,ntmps244;go_wp2;go_ret;exact⟨none,0,rfl,Sl.nil _,iz.refl _⟩
 .have q:=λ(w:World) (n' c':Nat)=>Lib.run_eql_slice_nil (P:=prog) w 37 _ (some ad) L.length c n' c' underlying37
  simp only[Option.isNone_some]at q;go_enter func244,ntmps244;have lO:([]:List Nat).length+L.length<=10000000000:= av ;have h1:=Ow.empty w w.heap.size (aV _);have h2:=hs.alloc (.cells #[] 150);have h3:=qe (w:=w) (aV _) (.cells #[] 150);go_wp2_with (at_builtin;go_must (refine q7 ai _ _ ai w.heap.size _ [] ai h1 _ _ _ L ai ai h2 lO h3 ?_);intro v' w' oh hg o9)
  obtain⟨A',c',rfl,mR⟩:=oh.sl;go_ret;exact⟨A',c',rfl,mR,(iz.alloc _ _).grown hg (qe (aV _) _) (λk hk=>by simp[Value.ownBlock]at hk;omega)⟩
theorem Cc(A:Option Addr)(c:Nat)(L:List Nat)(w:World)(hs:Sl w A c L)(hlen:L.length<=100000000):
 Calls prog 261 #[.slice A L.length c] w (tg w (il L)):=by
 have hc:=hs.cap;have hl:=hs.qf;have fin:∀ k:Nat,k=(il L).length->Hid (il L=L.take k):=λk hk=>by rw[hk];exact Gy L
 go_enter func261,ntmps261;go_wp2;go_loop [3] (λi=>∃ k:Nat,k<=L.length/\i = .int .i64 k/\lZ L=lZ (L.take k)) (λi=>(intOf i).toNat)
 case atStart=>exact⟨L.length,aV _,rfl,aj⟩
 case round=>
  obtain⟨k,hk,rfl,ht⟩:=hrel;have HT:=aol ht;clear ht;have lO:([]:List Nat).length+(L.take k).length<=10000000000:=by rw[b8];simp;omega
  have HK:=aol (show k=(L.take k).length by rw[b8];omega);have h1:=Ow.empty w w.heap.size (aV _);have h2:=(hs.take k).alloc (.cells #[] 150);have h3:=qe (w:=w) (aV _) (.cells #[] 150);by_cases h0:0<k
  .obtain ⟨ab,ao,rfl,hb,xd⟩:=hs.lp (i:=k-1) ae 
   have e1:((k:Int)-1).toNat=k-1:= ae ;have Z:=aol (Kd L (k-1) ae);have NZ:=aol (Kb L (k-1) ae);rw[eH h0]at Z NZ;generalize L[k-1]=x at *
   by_cases hx:x=0
   .have Hx:=aol hx;clear hx
    have hb:((x:Int)==0)=true:=by have:=Hx.out;simp;omega
    clear fin;go_wp2;go_round
    case rel=>exact⟨k-1,ae,by go_num,by rw[HT.out,Z.out Hx.out]⟩
    case measure=>simp[intOf];omega
   .have hb:((x:Int)==0)=false:= av 
    have F:=fin k (by show k=lZ L;rw[HT.out,NZ.out hx]);clear fin;go_wp2_with (at_builtin;go_must (refine q7 ai _ _ ai w.heap.size _ [] ai h1 _ _ _ (L.take k) ai HK.out h2 lO h3 ?_);intro v' w' oh hg o9)
    obtain⟨A',c',rfl,mR⟩:=oh.sl;go_ret;rw[F.out];exact⟨A',c',rfl,mR,(iz.alloc _ _).grown hg (qe (aV _) _) (λk hk=>by simp[Value.ownBlock]at hk;omega)⟩
  .have:k=0:= ae 
   subst this;have F:=fin 0 (by show 0=lZ L;rw[HT.out];rfl);clear fin;go_wp2_with (at_builtin;go_must (refine q7 ai _ _ ai w.heap.size _ [] ai h1 _ _ _ (L.take 0) ai HK.out h2 lO h3 ?_);intro v' w' oh hg o9)
   obtain⟨A',c',rfl,mR⟩:=oh.sl;go_ret;rw[F.out];exact⟨A',c',rfl,mR,(iz.alloc _ _).grown hg (qe (aV _) _) (λk hk=>by simp[Value.ownBlock]at hk;omega)⟩
theorem U9(A:Option Addr)(n c:Nat)(w:World):
 Calls prog 310 #[.slice A n c] w λe w'=>e = .returned (.bool (decide (256<n)))/\w=w':=by
 by_cases h:256<n
 .have h':(256:Int)<n:= ae 
  go_enter func310,ntmps310;go_wp2;go_ret;exact⟨by simp[h],rfl⟩
 .have h':¬(256:Int)<n:= ae 
  go_enter func310,ntmps310;go_wp2;go_ret;exact⟨aj,rfl⟩
def Ky(w:World)(g:Nat)(xs:List (Option Addr×Nat×Nat)):Prop:=∀ i x,xs[i]? = some x->w.cell? ⟨g,i,none⟩=some (.slice x.1 x.2.1 x.2.2)
def xn(xs:List (Option Addr×Nat×Nat)):Bool:=xs.any λx=>decide (256<x.2.1)
def Zx(xs:List (Option Addr×Nat×Nat))(w:World)(e:Ending)(w':World):Prop:=
 ∃ n:Int,e = .returned (.int .i64 n)/\(0<=n↔xn xs=true)/\w=w'
theorem af0(g:Nat)(xs:List (Option Addr×Nat×Nat))(w:World)(hs:Ky w g xs)(hn:xs.length<=1000):
 Calls prog 358 #[.slice (some ⟨g,0,none⟩) xs.length xs.length,.func (.func 310) #[] #[]] w (Zx xs w):=by
 go_enter func358,ntmps358;go_wp2;go_loop [8] (λi=>∃ k:Nat,k<=xs.length/\i = .int .i64 k/\xn (xs.take k)=false) (λi=>xs.length-(intOf i).toNat)
 case atStart=>exact⟨0,bN _,rfl,rfl⟩
 case round=>
  obtain⟨k,hk,rfl,ht⟩:=hrel;have HT:=aol ht;clear ht;by_cases h0:k<xs.length
  .have hc:=hs k _ (bg h0)
   have e1:((k:Int)).toNat=k:= ae ;have ec:=ZJ g k;have HX:=aol (show xn (xs.take (k+1))=(xn (xs.take k)||decide (256<xs[k].2.1))by
    unfold xn;rw[fA h0,List.any_append];simp)
   have HM:=aol (cz h0);generalize xs[k]=x at *
   obtain⟨A,n,c⟩:=x;simp only at hc HX;by_cases hx:256<n
   .have hb:decide (256<n)=true:=by simp[hx]
    go_wp2_with (go_at_call 310;refine(U9 A n c _).mono ?_;rw[hb];rintro e w' ⟨rfl,rfl⟩)
    go_ret;refine⟨_,rfl,⟨λ_=>?_,λ_=> ae⟩,rfl⟩;unfold xn;rw[dk];exact⟨_,HM.out,by simpa using hx⟩
   .have hb:decide (256<n)=false:= av 
    go_wp2_with (go_at_call 310;refine(U9 A n c _).mono ?_;rw[hb];rintro e w' ⟨rfl,rfl⟩)
    go_round
    case rel=>exact⟨k+1,ae,by go_num,by rw[HX.out,HT.out,hb];rfl⟩
    case measure=>simp[intOf];omega
  .go_wp2
   go_ret;have e:xs.take k=xs:=ct ae;have:=HT.out;rw[e]at this;exact⟨_,rfl,by rw[this];simp,rfl⟩
theorem ab6(g:Nat)(xs:List (Option Addr×Nat×Nat))(w:World)(hs:Ky w g xs)(hn:xs.length<=1000):
 Calls prog 309 #[.slice (some ⟨g,0,none⟩) xs.length xs.length,.func (.func 310) #[] #[]] w λe w'=>e = .returned (.bool (xn xs))/\w=w':=by
 have H:=aol (af0 g xs w hs hn);go_enter func309,ntmps309;go_wp2_with fail;refine H.out.mono ?_;rintro e w' ⟨n,rfl,hn,rfl⟩;have HN:=aol hn;clear hn;go_wp2;go_ret;refine⟨JR ?_,rfl⟩;have:=HN.out;cases h:xn xs<;>simp[h]at this ⊢ <;> omega
theorem Vb(g:Nat)(xs:List (Option Addr×Nat×Nat))(w:World)(hs:Ky w g xs)(hn:xs.length<=1000):
 Calls prog 271 #[.slice (some ⟨g,0,none⟩) xs.length xs.length] w λe w'=>e = .returned (.bool (xn xs))/\w=w':=by
 have H:=aol (ab6 g xs w hs hn);go_enter func271,ntmps271;go_wp2_with fail;refine H.out.mono ?_;rintro e w' ⟨rfl,rfl⟩;go_wp2;go_ret;exact⟨rfl,rfl⟩
theorem Nt(g:Nat)(A:Option Addr)(n c:Nat)(w:World)(b:Bool)(h:w.cell? ⟨g,0,none⟩=some (.slice A n c))(hb:b=decide (256<n)):
 Calls prog 271 #[.slice (some ⟨g,0,none⟩) 1 1] w λe w'=>e = .returned (.bool b)/\w=w':=by
 have:=Vb g [(A,n,c)] w (λi x hx=>by
  obtain⟨h1,h2⟩:=bZ.1 hx;obtain rfl:i=0:=by simp at h1;omega
  simp at h2;subst h2;exact h) aj 
 simpa[xn,hb]using this
theorem Va(g:Nat)(A B:Option Addr)(n c m d:Nat)(w:World)(b:Bool)(h:w.cell? ⟨g,0,none⟩=some (.slice A n c))(k:w.cell? ⟨g,1,none⟩=some (.slice B m d))(hb:b=(decide (256<n)||decide (256<m))):
 Calls prog 271 #[.slice (some ⟨g,0,none⟩) 2 2] w λe w'=>e = .returned (.bool b)/\w=w':=by
 have:=Vb g [(A,n,c),(B,m,d)] w (λi x hx=>by
  obtain⟨h1,h2⟩:=bZ.1 hx;simp at h1;rcases i with _|_|i
  .simp at h2;subst h2;exact h
  .simp at h2;subst h2;exact k
  .omega) aj 
 simpa[xn,hb]using this
theorem FO(A:Option Addr)(c:Nat)(L:List Nat)(w:World)(hs:Sl w A c L)(hl:(il L).length<=256):
 Calls prog 272 #[.slice A L.length c] w (Cv w (il L) 0):=by
 have hT:=aol (uH A c L w hs);have kB:=hs.tW;have hC:=hs.cap;have hL:=hs.qf;have H2:=aol (λw' (h:Sl w' A c (il L))=>K6 A c (il L) w' h);generalize il L=M at *
 obtain⟨n,hn⟩:∃ n,n=M.length:=⟨_,rfl⟩
 rw[<-hn]at hT hl H2;have HN:=aol hn;clear hn;go_enter func272,ntmps272;go_wp2_with fail;refine hT.out.mono ?_;rintro e w' ⟨rfl,rfl⟩;go_wp2_with fail;refine(Nt _ A n c _ false ?_ av).mono ?_
 .go_simp
 rintro e w' ⟨rfl,rfl⟩;go_wp2_with fail;refine(H2.out _ (kB.alloc _)).mono ?_;rintro e w' ⟨rfl,rfl⟩;go_wp2;go_ret2;exact⟨A,n,by rw[HN.out];rfl,by have:=kB.Q1.alloc (.cells #[.slice A n c] 37);rw[HN.out]at this ⊢;exact this,iz.alloc _ _⟩
theorem Ki(a b:Nat)(ha:a<18446744073709551616)(hb:b<18446744073709551616):bits .or .u64 (a:Int) (b:Int)=((a |||b:Nat):Int):=by
 have hx:a |||b<2^64:=anS ae ae 
 have h1:(BitVec.ofInt 64 (a:Int)).toNat=a:=by
  rw[gj,gl];exact bC ae 
 have h2:(BitVec.ofInt 64 (b:Int)).toNat=b:=by
  rw[gj,gl];exact bC ae 
 show IntKind.u64.wrap ((BitVec.ofInt 64 (a:Int) |||BitVec.ofInt 64 (b:Int)).toNat:Int)=_;rw[BitVec.toNat_or,h1,h2,IntKind.wrap_u64];omega
theorem AR(a b k:Nat)(h:a<2^k):a |||b*2^k=a+b*2^k:=by
 rw[bc,fI,<-Nat.two_pow_add_eq_or_of_lt h];omega
theorem Sl.drop{w:World}{A:Option Addr}{c:Nat}{L:List Nat}(h:Sl w A c L)(k:Nat):Sl w (A.map (·.add k)) (c-k) (L.drop k):=
 ⟨by have:=h.cap;rw[eu];omega,aY (dm _ _) h.qf,h.ok.drop k,(λe=>by
  rcases A with _|ad
  .rw [h.xh rfl];omega
  .cases e),λi x hx=>by
  rw[et]at hx;obtain⟨b,o,rfl,h1,h2⟩:=h.cell _ _ hx;exact⟨b,o+k,by rw[cK,Bf],h1,by rw[cF];exact h2⟩⟩
def part(T:List Nat)(k:Nat):List Nat:=T.take k++List.replicate (T.length-k) 0
theorem aii(T:List Nat):part T 0=List.replicate T.length 0:=by unfold part;simp
theorem aif(T:List Nat):part T T.length=T:=by unfold part;simp
theorem aih(T:List Nat)(k:Nat)(h:k<T.length):(part T k)[k]? = some 0:=by
 unfold part;rw[ej aE,b8,fJ,aS ae]
theorem Wf(T:List Nat)(k x:Nat)(h:T[k]? = some x):(part T k).set k x=part T (k+1):=by
 obtain⟨h1,rfl⟩:=bZ.1 h;unfold part;rw[List.set_append_right _ _ aE,b8,cT ae,cU,
  fA h1,show T.length-k=(T.length-(k+1))+1 by omega,List.replicate_succ,anM,List.append_assoc]
 rfl
theorem ak6(x y s:Nat)(hx:x<4294967296)(hy:y<4294967296):
 bits BinOp.or IntKind.u64 (x:Int) ((y:Int)*4294967296)/2^s%4294967296=(((x+4294967296*y)/2^s%4294967296:Nat):Int):=by
 have e:((y:Int)*4294967296)=((y*2^32:Nat):Int):= aj ;rw[e,Ki x (y*2^32) ae ae,AR x y 32 ae];simp[bc]
theorem ak7(x s:Nat):(x:Int)/2^s%4294967296=(((x+4294967296*0)/2^s%4294967296:Nat):Int):=by
 simp
theorem NH(A:Option Addr)(c:Nat)(L:List Nat)(n:Nat)(w:World)(hs:Sl w A c L)(hlen:L.length<=100000000)(hn:n<=65536):
 Calls prog 356 #[.slice A L.length c,.int .i64 n] w (tg w (qD (n%32) ((il L).drop (n/32)))):=by
 have hT:=aol (uH A c L w hs);have kB:=hs.tW;have nD:=oO L;have hC:=kB.cap;have hL:=hs.qf;unfold lZ at nD;generalize il L=M at *
 obtain⟨m,hm⟩:∃ m,m=M.length:=⟨_,rfl⟩
 rw[<-hm]at hT nD hC;have HM:=aol hm;clear hm;by_cases h0:m<=n/32
 .go_enter func356,ntmps356
  go_wp2_with fail;refine hT.out.mono ?_;rintro e w' ⟨rfl,rfl⟩;go_wp2;go_ret;have:M.drop (n/32)=[]:=dW (by rw[<-HM.out];exact h0);rw[this];exact⟨none,0,rfl,Sl.nil _,iz.refl _⟩
 .obtain ⟨ab,ao,rfl,_,_⟩:=kB.lp (i:=0) (by have:=HM.out;omega)
  have hK:=kB.drop (n/32);have uf:=aol (show m-n/32=(M.drop (n/32)).length by rw[eu,HM.out]);have rP:n/32<c:= ae ;have pf:=DB (m-n/32) ae;have mz:0<m-n/32:= ae ;have tA:m-n/32<=100000000:= ae ;generalize M.drop (n/32)=K at *
  simp only[cK,Bf]at hK;have wI:=aol (J2 (n%32) K);have L8:=aol (X4 (n%32) K);have ER:=aol (AO (n%32) K);generalize qD (n%32) K=T at *
  go_enter func356,ntmps356;go_wp2_with fail;refine hT.out.mono ?_;rintro e w' ⟨rfl,rfl⟩;go_wp2;go_loopw [25] (λi wr=>∃ k:Nat,k<=m-n/32/\i = .int .i64 k/\Rw wr w.heap.size (part T k)/\iz w wr) (λi _=>m-n/32-(intOf i).toNat)
  case atStart=>
   refine⟨0,bN _,rfl,?_,iz.alloc _ _⟩;rw[aii,wI.out,<-uf.out];exact Rw.xS _ _
  case round=>
   obtain⟨k,hk,rfl,hR,hb⟩:=hrel;by_cases iE:k<m-n/32
   .have uj:k<K.length:=by have:=uf.out;omega
    obtain⟨ab',ao',e',_,c1⟩:=(hK.below hb).lp uj;cases e';have hg:=L8.out k uj;have mG:K[k]<4294967296:=hK.ok.get uj;have HK:=aol (bg uj);have c3:=hR.cell (aih T k (by have:=wI.out;omega));have c4:=hR.frozen k;by_cases Aw:k+1<m-n/32
    .have yU:k+1<K.length:=by have:=uf.out;omega
     obtain⟨ab',ao',e',_,c2⟩:=(hK.below hb).lp yU;cases e';have hy:K.getD (k+1) 0=K[k+1]:=by rw[aW,bg yU];rfl
     rw[hy]at hg;have pC:K[k+1]<4294967296:=hK.ok.get yU;have HG:=aol hg;clear hg hy;generalize K[k]=x at *
     generalize K[k+1]=y at *
     clear uj yU;go_wp2;go_roundw
     case rel=>
      rw[ak6 x y (n%32) mG pC];exact⟨k+1,ae,by go_num,by rw[<-Wf T k _ HG.out];exact hR.set k _,hb.setCell (aV _) _⟩
     case measure=>simp[intOf];omega
    .have hy:K.getD (k+1) 0=0:=by rw[aW,bT (by have:=uf.out;omega)];rfl
     rw[hy]at hg;have HG:=aol hg;clear hg hy;generalize K[k]=x at *
     clear uj;go_wp2;go_roundw
     case rel=>
      rw[ak7 x (n%32)];exact⟨k+1,ae,by go_num,by rw[<-Wf T k _ HG.out];exact hR.set k _,hb.setCell (aV _) _⟩
     case measure=>simp[intOf];omega
   .go_wp2
    go_ret;obtain rfl:k=m-n/32:= ae ;rw[uf.out,<-wI.out,aif]at hR;have:=hR.sl ER.out (by have:=wI.out;have:=uf.out;omega);rw[wI.out,<-uf.out]at this;exact⟨_,_,by rw[wI.out,<-uf.out];rfl,this,hb⟩
theorem ak4{L:List Nat}(h:iD L)(n:Nat):il (qD (n%32) ((il L).drop (n/32)))=gV (val L/2^n):=by
 rw[qE (AO _ _),Ko h.il,oG]
theorem PD(w:World)(A:Option Addr)(n c:Nat):(w.alloc (.cells #[.slice A n c] 37)).cell? ⟨w.heap.size,0,none⟩=some (.slice A n c):=by
 rw[World.cell?_alloc_at _ _ _ _ rfl];rfl
theorem PE(w:World)(A B:Option Addr)(n c m d:Nat):(w.alloc (.cells #[.slice A n c,.slice B m d] 37)).cell? ⟨w.heap.size,0,none⟩=some (.slice A n c):=by
 rw[World.cell?_alloc_at _ _ _ _ rfl];rfl
theorem PF(w:World)(A B:Option Addr)(n c m d:Nat):(w.alloc (.cells #[.slice A n c,.slice B m d] 37)).cell? ⟨w.heap.size,1,none⟩=some (.slice B m d):=by
 rw[World.cell?_alloc_at _ _ _ _ rfl];rfl
theorem VM(A:Option Addr)(c:Nat)(L:List Nat)(n:Nat)(w:World)(hs:Sl w A c L)(hlen:L.length<=256)(hn:n<=65536):
 Calls prog 301 #[.slice A L.length c,.int .i64 n] w (Cv w (gV (val L/2^n)) 0):=by
 have hf:decide (256<L.length)=false:= av ;have h3:=aol (ak4 hs.ok n);have h4:(il (qD (n%32) ((il L).drop (n/32)))).length<=256:=by
  have h1:=oO (qD (n%32) ((il L).drop (n/32)));unfold lZ at h1;rw[J2,eu]at h1;have h2:=oO L;unfold lZ at h2;omega
 have H1:=aol (λw (h:Sl w A c L)=>NH A c L n w h ae hn);generalize qD (n%32) ((il L).drop (n/32))=T at *
 go_enter func301,ntmps301;go_wp2_with fail;refine(Nt _ A _ c _ false (PD _ _ _ _) av).mono ?_;rintro e w' ⟨rfl,rfl⟩;go_wp2_with fail;refine(H1.out _ (hs.alloc _)).mono ?_;rintro e w' ⟨A',c',rfl,mR,hb⟩;go_wp2_with fail;refine(FO A' c' T _ mR h4).mono ?_;rintro e w'' ⟨A'',c'',rfl,qM,mA⟩;go_wp2;go_ret2;rw[<-h3.out];exact⟨A'',c'',rfl,qM,(iz.alloc _ _).trans (hb.trans mA)⟩
end Go.Proofs.YtkjkcjhacddojaaGreatDoor
