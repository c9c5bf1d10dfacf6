/- Lemmas that the last file uses. -/
import Derived.Test.YtkjkcjhacddojaaGreatDoorProg
import Derived.WalkKit
import Derived.BigQuiet
import Derived.WalkSpells
import Derived.WalkLawsBesides
import Derived.Lib.Hide
import Derived.Deep.RegionHeld3
import Derived.Maps.AppendAt
import Derived.Deep.AppendLies
import Derived.Deep.Draws
import Derived.Deep.DeepFit
import Derived.Laws.AppendOwnNone
import Derived.Shelf.Small.Bits
import Derived.Shelf.Spec.TrailingZeros
import Derived.Test.YtkjkcjhacddojaaGreatDoorCards
import Derived.Test.YtkjkcjhacddojaaGreatDoorTie
import Derived.ProofKit
import Derived.OpenShut
import Derived.Deep.DeepHandedRow
import Derived.Lib.LaidTab
import Derived.Laws.AppendOwn
import Derived.Laws.MakeOwn
import Derived.Laws.Slices
import Derived.Orders
import Derived.Laws.Build
set_option linter.unusedSimpArgs false
set_option linter.unusedVariables false
set_option linter.defProp false
set_option maxHeartbeats 4000000
open Go.Proofs.Tryz
namespace Go.Proofs.YtkjkcjhacddojaaGreatDoor
theorem aE{p:Prop}(h:p:=by omega):p:=h
theorem aF{p:Prop}(h:p:=by assumption):p:=h
theorem aG{p:Prop}(h:p:=by decide):p:=h
theorem aI{p:Prop}(h:p:=by kernel_rfl):p:=h
theorem aJ{p:Prop}(h:p:=by rfl):p:=h
theorem aK{p:Prop}(h:p:=by simp):p:=h
theorem aM{p:Prop}(h:p:=by nofun):p:=h
theorem aO{p:Prop}(h:p:=by simp<;>omega):p:=h
theorem aP{p:Prop}(h:p:=by grind):p:=h
theorem aQ{p:Prop}(h:p:=by decide +kernel):p:=h
theorem aR{p:Prop}(h:p:=by split<;>omega):p:=h
theorem aS{p:Prop}(h:p:=by simp;omega):p:=h
theorem aT{p:Prop}(h:p:=by first|rfl|omega|(simp only[Nat.add_mul,Nat.one_mul];omega)):p:=h
theorem aU{p:Prop}(h:p:=by simp[Op.operands]):p:=h
theorem aV{p:Prop}(h:p:=by first|omega|(simp only[nf];omega)):p:=h
theorem aW{p:Prop}(h:p:=by unfold ku;omega):p:=h
theorem aX{p:Prop}(h:p:=by rw[List.length_append,List.length_singleton];omega):p:=h
theorem aY{p:Prop}(h:p:=by unfold oe;omega):p:=h
theorem aZ{p:Prop}(h:p:=by rw[List.length_take];omega):p:=h
theorem bc{p:Prop}(h:p:=by rw[IntKind.wrap_u32];omega):p:=h
theorem bd{p:Prop}(h:p:=by rw[List.length_map];omega):p:=h
theorem bg{p:Prop}(h:p:=by rw[uY];omega):p:=h
theorem bh{p:Prop}(h:p:=by simp_all):p:=h
theorem bj{α:Type _}[BEq α][LawfulBEq α]{a b:α}(h:a≠b):(a==b)=false:=beq_eq_false_iff_ne.2 h
theorem bk{α:Type _}[BEq α][LawfulBEq α]{a b:α}(h:a=b):(a==b)=true:=beq_iff_eq.2 h
theorem bn{b:Bool}(h:¬b=true):b=false:=Bool.eq_false_iff.2 h
theorem bq{α:Type _}[BEq α][LawfulBEq α]{a b:α}(h:a=b):(a != b)=false:=bne_eq_false_iff_eq.2 h
theorem bt{α:Type _}[BEq α][LawfulBEq α]{a b:α}(h:a≠b):(a != b)=true:=bne_iff_ne.2 h
def bu:=@if_neg
def bw:=@if_pos
def bA:=@decide_eq_true
def bB:=@decide_eq_false
def bC:=@Nat.le_refl
def bD:=@List.getD_eq_getElem?_getD
def bE:=@Nat.pow_add
def bF:=@Nat.pow_pos
def bG:=@Nat.le_trans
def bH:=@Nat.pow_succ
def bI:=@List.getElem?_eq_getElem
def bJ:=@if_false
def bK:=@Nat.mul_comm
def bL:=@Nat.mul_assoc
def bM:=@Nat.mod_lt
def bN:=@Nat.pow_le_pow_right
def bO:=@Nat.not_lt_zero
def bQ:=@if_true
def bR:=@Nat.mul_add
def bS:=@Bool.false_eq_true
def bT:=@Nat.add_zero
def bU:=@Nat.mod_eq_of_lt
def bV:=@Nat.div_le_self
def bW:=@Nat.lt_of_lt_of_le
def bX:=@Nat.mul_le_mul_right
def bY:=@List.mem_range
def bZ:=@Rat.le_of_lt
def b9:=@Rat.le_trans
def ca:=@Classical.byContradiction
def cg:=@Option.some.injEq
def ch:=@Bool.and_eq_true
def cj:=@Nat.zero_le
def ck:=@Nat.one_mul
def cr:=@List.all_eq_true
def ct:=@Nat.add_mul
def cv:=@Rat.mul_nonneg
def cw:=@Nat.pow_zero
def cz:=@Nat.mul_one
def cA:=@Nat.div_lt_iff_lt_mul
def cB:=@Nat.lt_of_le_of_lt
def cC:=@List.getElem?_eq_none
def cD:=@Nat.zero_add
def cE:=@List.length_append
def cF:=@Nat.div_eq_of_lt
def cG:=@Nat.div_add_mod
def cH:=@List.getElem?_eq_some_iff
def cI:=@Int.le_refl
def cJ:=@List.length_take
def cK:=@Prod.mk.injEq
def cL:=@Rat.mul_le_mul_of_nonneg_right
def cM:=@Rat.le_refl
def cN:=@List.getElem_mem
def cO:=@Nat.mul_le_mul_left
def cP:=@Nat.zero_mul
def cQ:=@List.getElem?_map
def cR:=@of_decide_eq_true
def cS:=@decide_eq_true_eq
def cT:=@List.take_of_length_le
def cU:=@Nat.mul_zero
def cV:=@List.length_set
def cW:=@Nat.div_div_eq_div_mul
def cX:=@Rat.div_def
def cY:=@Rat.mul_le_mul_of_nonneg_left
def c9:=@Nat.mul_lt_mul_of_pos_right
def dc:=@Nat.sub_self
def de:=@Nat.mul_left_comm
def df:=@Nat.add_assoc
def dg:=@Option.map_eq_some_iff
def dh:=@List.length_map
def di:=@Rat.natCast_nonneg
def dj:=@Nat.mod_one
def dk:=@Nat.le_of_ble_eq_true
def dm:=@Option.map_some
def dp:=@Nat.mul_le_mul
def dq:=@Nat.le_div_iff_mul_le
def dr:=@Classical.choose_spec
def dt:=@Rat.natCast_mul
def du:=@Nat.div_mul_le_self
def dv:=@Array.getElem?_eq_some_iff
def dw:=@Array.getElem?_modify
def dx:=@List.any_eq_false
def dz:=@ne_eq
def dA:=@List.length_cons
def dB:=@Nat.min_eq_left
def dC:=@List.mem_map
def dD:=@List.mem_cons
def dE:=@Nat.le_of_lt
def dF:=@Rat.natCast_le_natCast
def dG:=@Nat.mul_add_div
def dH:=@List.any_eq_true
def dI:=@List.eq_nil_of_length_eq_zero
def dJ:=@List.mem_iff_getElem?
def dK:=@List.getElem?_append_left
def dL:=@Array.ext'
def dM:=@Nat.sub_zero
def dN:=@Rat.div_mul_cancel
def dO:=@Nat.mod_le
def dP:=@Rat.not_lt
def dQ:=@Array.size_push
def dR:=@Array.getElem?_push
def dU:=@Nat.mod_add_div
def dV:=@Nat.mul_ne_zero
def dW:=@Nat.mul_div_cancel
def dX:=@Nat.beq_refl
def dY:=@beq_false
def dZ:=@Nat.mul_add_mod
def ef:=@Array.length_toList
def eh:=@Array.mem_of_getElem?
def ej:=@Int.natAbs_natCast
def ek:=@Int.eq_ofNat_of_zero_le
def en:=@Nat.pos_of_ne_zero
def eo:=@Nat.div_one
def ep:=@Bool.eq_iff_iff
def er:=@List.mem_append
def eu:=@Nat.add_sub_cancel
def ev:=@Nat.ne_of_gt
def ew:=@Nat.lt_or_ge
def ey:=@Nat.sub_le
def ez:=@Int.natCast_mul
def eA:=@Bool.true_and
def eB:=@Rat.intCast_natCast
def eC:=@Rat.mul_pos
def eD:=@Rat.natCast_add
def eE:=@Rat.le_antisymm
def eF:=@Rat.mul_lt_mul_of_pos_right
def eG:=@Array.size_modify
def eH:=@Nat.add_mul_mod_self_left
def eI:=@List.drop_eq_nil_of_le
def eJ:=@List.getElem_cons_succ
def eK:=@List.getElem?_take
def eN:=@Nat.add_comm
def eO:=@Bool.not_false
def eP:=@Nat.eq_zero_or_pos
def eR:=@List.length_pos_iff
def eU:=@Bool.false_or
def eV:=@Rat.mul_assoc
def eW:=@List.mem_of_mem_take
def eX:=@List.take_succ_cons
def eZ:=@List.mem_of_getElem?
def e9:=@List.getElem?_drop
def fc:=@List.getElem?_append_right
def fe:=@List.length_drop
def ff:=@not_false_eq_true
def fg:=@Bool.or_eq_false_iff
def fh:=@List.map_congr_left
def fi:=@Bool.not_eq_true'
def fj:=@Int.natCast_add
def fk:=@Nat.pow_lt_pow_right
def fl:=@Nat.xor_lt_two_pow
def fm:=@Rat.le_of_mul_le_mul_right
def fo:=@Rat.one_mul
def fp:=@Nat.lt_irrefl
def fu:=@of_decide_eq_false
def fv:=@Int.toNat_of_nonneg
def fw:=@List.mem_of_mem_drop
def fz:=@Nat.add_mul_div_left
def fA:=@Nat.mul_pos
def fB:=@Nat.sub_add_cancel
def fC:=@List.drop_eq_getElem_cons
def fD:=@List.getElem_toArray
def fE:=@List.getElem_cons_zero
def fF:=@List.drop_zero
def fG:=@List.drop_succ_cons
def fH:=@List.take_zero
def fI:=@List.mem_flatMap
def fJ:=@Bool.not_true
def fK:=@List.map_cons
def fL:=@Array.mem_append
def fM:=@getElem!_pos
def fN:=@List.mapM_cons
def fO:=@Bool.or_eq_true
def fP:=@Nat.and_lt_two_pow
def fQ:=@Int.natAbs_neg
def fR:=@List.take_length
def fS:=@BitVec.toNat_ofInt
def fT:=@Rat.natCast_pos
def fU:=@Rat.neg_neg
def fV:=@Rat.mul_comm
def fW:=@Nat.le_of_not_lt
def fX:=@Nat.lt_trans
def fY:=@Rat.inv_pos
def fZ:=@List.take_succ_eq_append_getElem
def gh:=@List.length_singleton
def gi:=@Nat.mul_right_comm
def gj:=@Nat.mul_mod_left
def gl:=@Int.toNat_natCast
def gn:=@List.getElem?_append
def gp:=@List.ext_getElem?
def gq:=@List.size_toArray
def gv:=@Array.mem_map
def gw:=@Array.mem_range
def gy:=@Nat.or_comm
def gz:=@List.getElem?_replicate
def gE:=@decide_true
def gF:=@Nat.le_of_eq
def gG:=@Nat.mod_mul
def gH:=@Nat.zero_div
def gI:=@Rat.intCast_le_intCast
def gJ:=@Rat.intCast_neg
def gK:=@Rat.neg_mul
def gL:=@Nat.div_pos
def gM:=@Nat.div_lt_self
def gN:=@Nat.le_mul_of_pos_left
def gO:=@Nat.le_mul_of_pos_right
def gP:=@Array.getElem_mem
def gQ:=@List.getElem?_toArray
def gR:=@List.mem_toArray
def gS:=@Option.bind_eq_some_iff
def gT:=@Option.isSome_iff_exists
def gU:=@BitVec.ofInt_natCast
def gV:=@BitVec.toNat_ofNat
def gW:=@Nat.and_one_is_mod
def gX:=@Nat.mul_lt_mul''
def gY:=@decide_eq_true_iff
def ado:=@List.getElem?_set_ne
def apD:=@Nat.mul_mod_mul_left
def apE:=@Bool.or_self
def apF:=@Rat.zero_mul
def apG:=@Rat.inv_mul_cancel
def apH:=@Nat.succ_mul
def apI:=@Nat.div_le_div_left
def apJ:=@Nat.lt_of_not_le
def apK:=@List.ext_getElem
def apL:=@List.getElem_map
def apM:=@Bool.not_eq_true
def apN:=@Nat.one_ne_zero
def apO:=@Int.tmod_eq_emod_of_nonneg
def apP:=@List.length_nil
def apQ:=@beq_self_eq_true
def apR:=@List.cons_append
def apS:=@List.take_append_drop
def apT:=@List.eq_nil_or_concat
def apU:=@List.concat_eq_append
def apV:=@List.getElem_of_mem
def apW:=@List.map_append
def apX:=@Array.getElem?_setIfInBounds_ne
def apY:=@Array.size_append
def apZ:=@List.any_cons
def ap0:=@Bool.or_false
def ap1:=@not_true_eq_false
def ap2:=@List.set_cons_zero
def ap3:=@Option.getD_some
def ap4:=@List.pairwise_cons
def ap5:=@List.pairwise_append
def ap6:=@Option.some.inj
def ap7:=@Array.getElem_setIfInBounds_ne
def ap8:=@Nat.or_lt_two_pow
def ap9:=@Nat.and_two_pow_sub_one_eq_mod
def aqa:=@List.take_add_one
def aqb:=@decide_eq_decide
def aqc:=@Nat.zero_lt_succ
def aqd:=@Nat.testBit_xor
def aqe:=@Nat.mul_eq_zero
def aqf:=@List.length_eq_zero_iff
def aqg:=@List.getElem?_range
def aqh:=@Rat.mul_div_cancel
def aqi:=@List.getElem_set
def aqj:=@List.getElem_range
def aqk:=@Nat.lt_succ_self
def aql:=@not_not_intro
def aqm:=@Bool.not_eq_false'
def aqn:=@Nat.mul_div_cancel_left
def aqo:=@List.length_range
def aqp:=@Nat.lt_one_iff
def aqq:=@List.getElem?_cons_succ
def aqr:=@Nat.pow_lt_pow_iff_right
def aqs:=@Array.getElem?_setIfInBounds
def aqt:=@Array.getElem?_append_left
def aqu:=@Int.tdiv_eq_ediv_of_nonneg
def aqv:=@Array.toList_setIfInBounds
def aqw:=@List.drop_length_add_append
def aqx:=@Array.all_eq_true_iff_forall_mem
def aqy:=@Array.mapM_eq_mapM_toList
def aqz:=@Nat.eq_of_mul_eq_mul_right
def aqA:=@Nat.lt_of_mul_lt_mul_right
def aqB:=@Rat.lt_of_mul_lt_mul_right
def aqC:=@Nat.mul_lt_mul_of_lt_of_le
def aqD:=@Int.mul_tdiv_cancel_left
def aqE:=@Nat.mod_two_eq_zero_or_one
def aqF:=@Nat.mul_lt_mul_of_lt_of_lt
def aqG:=@Lib.hid
end Go.Proofs.YtkjkcjhacddojaaGreatDoor
namespace Go.Proofs.YtkjkcjhacddojaaGreatDoor.Fp
def val:List Nat->Nat
 | []=>0
 |x::l=>x+4294967296*val l
def iK(L:List Nat):Prop:=∀ x,x ∈ L->x<4294967296
def iK.nil:iK []:=by intro x h;cases h
def iK.cons{x:Nat}{l:List Nat}(hx:x<4294967296)(h:iK l):iK (x::l):=by
 intro y hy;rcases dD.1 hy with rfl|hy;exact hx;exact h _ hy
def iK.head{x:Nat}{l:List Nat}(h:iK (x::l)):x<4294967296:=h x aK 
def iK.tail{x:Nat}{l:List Nat}(h:iK (x::l)):iK l:=λy hy=>h y (by simp[hy])
def iK.append{l m:List Nat}(h:iK l)(k:iK m):iK (l++m):=by
 intro x hx;rcases er.1 hx with hx|hx;exact h _ hx;exact k _ hx
def iK.take{l:List Nat}(h:iK l)(n:Nat):iK (l.take n):=λx hx=>h x (eW hx)
def iK.drop{l:List Nat}(h:iK l)(n:Nat):iK (l.drop n):=λx hx=>h x (fw hx)
def iK.get{l:List Nat}(h:iK l){i:Nat}(hi:i<l.length):l[i]<4294967296:=h _ (cN hi)
def iK.getD{l:List Nat}(h:iK l)(i:Nat):l.getD i 0<4294967296:=by
 rw[bD];by_cases hi:i<l.length
 .rw [bI hi];exact h.get hi
 .rw [cC aE];decide
def iK.CT(n:Nat):iK (List.replicate n 0):=by
 intro x hx;rw[List.mem_replicate]at hx;rw[hx.2];decide
@[simp] theorem Az:val []=0:=rfl
@[simp] theorem qO (x:Nat) (l:List Nat):val (x::l)=x+4294967296*val l:=rfl
def vk(l m:List Nat):val (l++m)=val l+4294967296^l.length*val m:=by
 induction l with
 |nil=>simp
 |cons x l ih=>
  simp only[apR,qO,ih,dA,bH];rw[bR,bK (4294967296^l.length) 4294967296,bL];omega
def mJ{l:List Nat}(h:iK l):val l<4294967296^l.length:=by
 induction l with
 |nil=>simp
 |cons x l ih=>
  have h1:=h.head;have h2:=ih h.tail;simp only[qO,dA,bH];have:val l+1<=4294967296^l.length:=h2;have:=cO 4294967296 this;rw[bK (4294967296^l.length)];omega
def AB(n:Nat):val (List.replicate n 0)=0:=by
 induction n with
 |zero=>rfl
 |succ n ih=>simp[List.replicate_succ,ih]
def EU(l:List Nat)(n:Nat)(hn:n<=l.length):val l=val (l.take n)+4294967296^n*val (l.drop n):=by
 conv=>lhs;rw[<-apS n l,vk]
 rw[cJ,dB hn]
def yR(l:List Nat)(n:Nat)(hn:n<l.length):val (l.take (n+1))=val (l.take n)+4294967296^n*l[n]:=by
 rw[fZ hn,vk,cJ,dB aE];simp
def aoI{l:List Nat}(h:iK l)(n:Nat):val (l.take n)=val l%4294967296^n:=by
 by_cases hn:n<=l.length
 .rw [EU l n hn,eH,bU];have:=mJ (h.take n);rwa[cJ,dB hn]at this
 .rw [cT aE,bU];refine bW (mJ h) (bN aG aE)
def Hk{l:List Nat}(h:iK l)(n:Nat):val (l.drop n)=val l/4294967296^n:=by
 by_cases hn:n<=l.length
 .rw [EU l n hn];have:=mJ (h.take n);rw[cJ,dB hn]at this;rw[fz _ _ (bF aG),cF this,cD]
 .rw [eI aE,cF];rfl;exact bW (mJ h) (bN aG aE)
def ix:List Nat->List Nat
 | []=>[]
 |x::l=>match ix l with
  | []=>if x=0 then[]else[x]
  |y::m=>x::y::m
def mC(L:List Nat):Nat:=(ix L).length
def ZG(l:List Nat):ix (l++[0])=ix l:=by
 induction l with
 |nil=>rfl
 |cons x l ih=>simp only[apR,ix,ih]
def ZF(l:List Nat)(x:Nat)(hx:x≠0):ix (l++[x])=l++[x]:=by
 induction l with
 |nil=>simp[ix,hx]
 |cons y l ih=>
  simp only[apR,ix,ih];cases l<;>rfl
def Hh(L:List Nat):ix L=L.take (mC L):=by
 unfold mC
 induction L with
 |nil=>rfl
 |cons x l ih=>
  simp only[ix];cases h:ix l with
  |nil=>by_cases hx:x=0<;>simp[hx]
  |cons y m=>
   rw[h]at ih;simp only[dA,eX];rw[dA]at ih;rw[<-ih]
def pq(L:List Nat):mC L<=L.length:=by
 have h:=congrArg List.length (Hh L);rw[cJ]at h;unfold mC at h ⊢;omega
def oZ(L:List Nat):val (ix L)=val L:=by
 induction L with
 |nil=>rfl
 |cons x l ih=>
  simp only[ix];cases h:ix l with
  |nil=>rw[h]at ih;by_cases hx:x=0<;>simp[hx,<-ih]
  |cons y m=>rw[h]at ih;simp only[qO]at ih ⊢;rw[ih]
def iK.ix{L:List Nat}(h:iK L):iK (Fp.ix L):=by rw[Hh];exact h.take _
def nY(L:List Nat):Prop:=ix L=L
def Av(L:List Nat):nY (ix L):=by
 unfold nY
 induction L with
 |nil=>rfl
 |cons x l ih=>
  simp only[ix];cases h:ix l with
  |nil=>by_cases hx:x=0<;>simp[hx,ix]
  |cons y m=>rw[h]at ih;simp only[ix]at ih ⊢;rw[ih]
def nY.nil:nY []:=rfl
def BJ(L:List Nat):nY L↔∀ h:0<L.length,L[L.length-1]≠0:=by
 rcases apT L with rfl|⟨l,x,rfl⟩
 .simp [nY,ix]
 .simp only[apU,cE,gh,eu,List.getElem_concat_length];constructor
  .intro h _ hx;subst hx;have:=congrArg List.length h;rw[ZG]at this;have h2:=pq l;unfold mC at h2;rw[cE]at this;simp at this;omega
  .intro h;exact ZF l x (h aE)
def KL(L:List Nat)(n:Nat)(hn:n<L.length)(h0:L[n]=0):mC (L.take (n+1))=mC (L.take n):=by
 unfold mC;rw[fZ hn,h0,ZG]
def KK(L:List Nat)(n:Nat)(hn:n<L.length)(h0:L[n]≠0):mC (L.take (n+1))=n+1:=by
 unfold mC;rw[fZ hn,ZF _ _ h0];simp;omega
def nY.LO{x:Nat}{l:List Nat}(h:nY (x::l)):nY l:=by
 rw[BJ]at h ⊢;intro hl;have:=h aK;simp only[dA,eu]at this;have e:(x::l)[l.length]'(aK)=l[l.length-1]:=by
  rw[List.getElem_cons];rw[dif_neg aE]
 rwa[e]at this
def nY.AA{L:List Nat}(h:nY L)(hl:L≠[]):0<val L:=by
 induction L with
 |nil=>exact absurd rfl hl
 |cons x l ih=>
  simp only[qO];by_cases qg:l=[]
  .subst qg;have:=(BJ _).1 h aK;simp at this;simp;omega
  .have:=ih h.LO qg;omega
def nY.ext{L M:List Nat}(hL:nY L)(hM:nY M)(kL:iK L)(kM:iK M)(h:val L=val M):L=M:=by
 induction L generalizing M with
 |nil=>
  by_cases hm:M=[]
  .exact hm.symm
  .have:=hM.AA hm;rw[<-h]at this;simp at this
 |cons x l ih=>
  cases M with
  |nil=>have:=hL.AA aK;rw[h]at this;simp at this
  |cons y m=>
   simp only[qO]at h;have h1:=kL.head;have h2:=kM.head;have e:x=y:= aE ;subst e;rw[ih hL.LO hM.LO kL.tail kM.tail aE]
def ia(n:Nat):List Nat:=if n=0 then[]else n%4294967296::ia (n/4294967296)
termination_by n
decreasing_by exact gM aE aG 
def nT:ia 0=[]:=by rw[ia];rfl
def Ab{n:Nat}(h:n≠0):ia n=n%4294967296::ia (n/4294967296):=by rw[ia,bu h]
def kf(n:Nat):val (ia n)=n:=by
 induction n using Nat.strongRecOn with
 |_ n ih=>
  by_cases h:n=0
  .subst h;rw[nT];rfl
  .rw [Ab h,qO,ih _ (gM aE aG)];exact dU n 4294967296
def kR(n:Nat):iK (ia n):=by
 induction n using Nat.strongRecOn with
 |_ n ih=>
  by_cases h:n=0
  .subst h;rw[nT];exact iK.nil
  .rw [Ab h];exact iK.cons (bM _ aG) (ih _ (gM aE aG))
def wJ(n:Nat):nY (ia n):=by
 induction n using Nat.strongRecOn with
 |_ n ih=>
  by_cases h:n=0
  .subst h;rw[nT];exact nY.nil
  .rw [Ab h];have h1:=ih _ (gM aE (aG:1<4294967296));unfold nY at h1 ⊢;simp only[ix,h1];by_cases h2:n/4294967296=0
   .rw [h2,nT];have:n%4294967296≠0:= aE ;simp[this]
   .rw [Ab h2]
def qN{L:List Nat}(h:iK L):ix L=ia (val L):=
 nY.ext (Av L) (wJ _) h.ix (kR _) (by rw[oZ,kf])
def nY.Fu{L:List Nat}(h:nY L)(k:iK L):L=ia (val L):=by
 rw[<-qN k];exact h.symm
def VD{n:Nat}:ia n=[]↔n=0:=by
 constructor
 .intro h;have:=kf n;rw[h]at this;exact this.symm
 .rintro rfl;exact nT
def rE{n k:Nat}(h:n<4294967296^k):(ia n).length<=k:=by
 induction k generalizing n with
 |zero=>simp at h;subst h;rw[nT];simp
 |succ k ih=>
  by_cases h0:n=0
  .subst h0;rw[nT];simp
  .rw [Ab h0,dA];have:n/4294967296<4294967296^k:=by
    rw[cA aG];rwa[bH]at h
   have:=ih this;omega
def wm{n k:Nat}(h:(ia n).length<=k):n<4294967296^k:=by
 have h1:=mJ (kR n);rw[kf]at h1;exact bW h1 (bN aG h)
def iq(n:Nat):Nat:=if n=0 then 0 else n.log2+1
def rq:iq 0=0:=rfl
def ln{n k:Nat}:iq n<=k↔n<2^k:=by
 unfold iq;by_cases h:n=0
 .subst h;simp[bF]
 .rw [bu h,<-Nat.log2_lt h];omega
def tD{n k:Nat}:k<iq n↔2^k<=n:=by
 have:=@ln n k;omega
def vz{n k:Nat}(h1:2^k<=n)(h2:n<2^(k+1)):iq n=k+1:=by
 have a:=tD.2 h1;have b:=ln.2 h2;omega
def pK(n:Nat):n<2^iq n:=ln.1 (bC _)
def sF{n:Nat}(h:n≠0):2^(iq n-1)<=n:=by
 have:iq n-1<iq n:=by
  have:iq n≠0:=by unfold iq;simp[h]
  omega
 exact tD.1 this
def nv{n:Nat}(h:n≠0):0<iq n:=by unfold iq;simp[h]
def tR{m n:Nat}(h:m<=n):iq m<=iq n:=ln.2 (cB h (pK n))
def re{n:Nat}(h:n≠0)(k:Nat):iq (n*2^k)=iq n+k:=by
 have h1:=pK n;have h2:=sF h;have h3:=nv h;have e:iq n+k=(iq n-1+k)+1:= aE ;rw[e];apply vz
 .rw [bE];exact bX _ h2
 .rw [<-e,bE];exact c9 h1 (bF aG)
def oE(k:Nat):(4294967296:Nat)^k=2^(32*k):=by
 rw[Nat.pow_mul]
def abB{l:List Nat}{x:Nat}(h:iK (l++[x]))(hx:x≠0):iq (val (l++[x]))=32*l.length+iq x:=by
 rw[vk];simp only[qO,Az,cU,bT];have hl:val l<4294967296^l.length:=mJ (λy hy=>h y (by simp[hy]));rw[oE]at hl ⊢;have h1:=pK x;have h2:=sF hx;have h3:=nv hx;have e:32*l.length+iq x=(32*l.length+(iq x-1))+1:= aE ;rw[e];apply vz
 .rw [bE];have:=cO (2^(32*l.length)) h2;omega
 .rw [<-e,bE];have:=cO (2^(32*l.length)) (show x+1<=2^iq x from h1);rw[bR]at this;omega
def kE(a b:Nat):Int:=if a<b then -1 else if b<a then 1 else 0
def KX{L M:List Nat}(kL:iK L)(hM:nY M)(h:L.length<M.length):val L<val M:=by
 rcases apT M with rfl|⟨m,x,rfl⟩
 .simp at h
 .simp only[apU,cE,gh]at h hM ⊢;have hx:x≠0:=by
   have:=(BJ _).1 hM aK;simpa using this
  have h1:=mJ kL;rw[vk];have h2:(4294967296:Nat)^L.length<=4294967296^m.length:=bN aG aE;have h3:(4294967296:Nat)^m.length*1<=4294967296^m.length*val [x]:=cO _ aS;omega
def aoE{L M:List Nat}(kL:iK L)(i:Nat)(hi:i<L.length)(hlen:L.length=M.length)(agK:L.drop (i+1)=M.drop (i+1))(iL:L[i]<M[i]'(aE)):val L<val M:=by
 rw[EU L (i+1) aE,EU M (i+1) aE,agK,yR L i hi,yR M i aE];have h1:=mJ (kL.take i);rw[cJ,dB aE]at h1;have h2:=cO (4294967296^i) (show L[i]+1<=M[i]'(aE)from iL);rw[bR]at h2;omega
def aoG(L:List Nat)(k:Nat)(h:iK L):val (L.drop k)=val L/2^(32*k):=by
 rw[Hk h,oE]
def qM(s:Nat):List Nat->List Nat
 | []=>[]
 |x::l=>((x+4294967296*l.getD 0 0)/2^s)%4294967296::qM s l
def KA(s:Nat)(L:List Nat):(qM s L).length=L.length:=by
 induction L with
 |nil=>rfl
 |cons x l ih=>simp[qM,ih]
def YP(s:Nat)(L:List Nat)(i:Nat)(h:i<L.length):(qM s L)[i]? = some (((L[i]+4294967296*L.getD (i+1) 0)/2^s)%4294967296):=by
 induction L generalizing i with
 |nil=>simp at h
 |cons x l ih=>
  cases i with
  |zero=>simp[qM]
  |succ i=>
   simp only[dA]at h;simp only[qM,aqq,ih i aE,eJ];congr 1
def Bp(s:Nat)(L:List Nat):iK (qM s L):=by
 induction L with
 |nil=>exact iK.nil
 |cons x l ih=>exact iK.cons (bM _ aG) ih
def aoH{L:List Nat}(h:iK L)(s:Nat)(hs:s<32):val (qM s L)=val L/2^s:=by
 induction L with
 |nil=>simp[qM]
 |cons x l ih=>
  have e:32=s+(32-s):= aE ;have e2:(4294967296:Nat)=2^s*2^(32-s):=by rw[<-bE,<-e]
  have hp:0<2^s:=bF aG;have hx:=h.head;simp only[qM,qO,ih h.tail];generalize hv:val l=v;have hh:l.getD 0 0=v%4294967296:=by
   rw[<-hv];cases l with
   |nil=>simp
   |cons y m=>
    have:=h.tail.head;simp[qO];omega
  rw[hh];have f1:(x+4294967296*(v%4294967296))/2^s=x/2^s+2^(32-s)*(v%4294967296):=by
   rw[show x+4294967296*(v%4294967296)=x+2^s*(2^(32-s)*(v%4294967296))by rw[<-bL,<-e2],fz _ _ hp]
  have f2:(x+4294967296*v)/2^s=x/2^s+2^(32-s)*v:=by
   rw[show x+4294967296*v=x+2^s*(2^(32-s)*v)by rw[<-bL,<-e2],fz _ _ hp]
  rw[f1,f2];have qv:x/2^s<2^(32-s):=by
   rw[cA hp,bK,<-e2];exact hx
  generalize x/2^s=q at qv ⊢;have g1:(4294967296:Nat)=2^(32-s)*2^s:=by rw[bK];exact e2
  have g2:v=2^s*(v/2^s)+v%2^s:=(cG v (2^s)).symm;have g3:(q+2^(32-s)*(v%4294967296))%4294967296=q+2^(32-s)*(v%2^s):=by
   have k1:v%4294967296%2^s=v%2^s:=by
    rw[e2,Nat.mod_mul_right_mod]
   have k2:(v%4294967296)=2^s*(v%4294967296/2^s)+v%2^s:=by
    rw[<-k1];exact(cG _ _).symm
   conv=>lhs;rw[k2]
   rw[bR,<-bL,<-g1];rw[(aE:q+(4294967296*(v%4294967296/2^s)+2^(32-s)*(v%2^s))=(q+2^(32-s)*(v%2^s))+4294967296*(v%4294967296/2^s)),eH];apply bU;have:v%2^s+1<=2^s:=bM _ hp;have:=cO (2^(32-s)) this;rw[<-g1,bR]at this;omega
  rw[g3]
  conv=>rhs;rw[g2,bR,<-bL,<-g1]
  omega
def KZ{L:List Nat}(h:iK L)(n:Nat):val (qM (n%32) (L.drop (n/32)))=val L/2^n:=by
 rw[aoH (h.drop _) _ (bM _ aG),aoG _ _ h,cW,<-bE];congr 2;omega
def PN{out a:List Nat}{i c s n0:Nat}(hi:i<a.length)(hlen:out.length=n0+i)
 (h:val out+4294967296^(n0+i)*c=val (a.take i)*2^s*4294967296^n0):
 val (out++[(a[i]*2^s+c)%4294967296])+4294967296^(n0+(i+1))*((a[i]*2^s+c)/4294967296)=val (a.take (i+1))*2^s*4294967296^n0:=by
 rw[vk,yR a i hi,hlen];simp only[qO,Az,cU,bT];generalize hx:a[i]*2^s+c=x;have e:=dU x 4294967296;have p:4294967296^(n0+(i+1))=4294967296^(n0+i)*4294967296:=by rw[<-df,bH]
 rw[p,df,bL (4294967296^(n0+i)),<-bR,e,<-hx,bR,<-df,Nat.add_right_comm,h,ct,ct];congr 1;rw[bE]
 ac_rfl
def vq(b:List Nat)(i:Nat):val (b.take (i+1))=val (b.take i)+4294967296^i*b.getD i 0:=by
 by_cases hi:i<b.length
 .rw [yR b i hi,bD,bI hi];rfl
 .rw [cT aE,cT aE,bD,cC aE];simp
def apw{out a b:List Nat}{i c y d c':Nat}(hi:i<a.length)(hlen:out.length=i)
 (hb:val (b.take (i+1))=val (b.take i)+4294967296^i*y)
 (hd:d+y+c=a[i]+4294967296*c')
 (h:val out+val (b.take i)=val (a.take i)+4294967296^i*c):
 val (out++[d])+val (b.take (i+1))=val (a.take (i+1))+4294967296^(i+1)*c':=by
 rw[vk,yR a i hi,hb,hlen];simp only[qO,Az,cU,bT];have e:=congrArg (4294967296^i * ·) hd;simp only[bR,<-bL]at e;rw[bH];omega
def jZ(n:Nat):Nat:=if n=0 then 0 else(Nat.gcd n (2^(Nat.log2 n+1))).log2
def LP{m:Nat}(hm:m%2=1)(k:Nat):jZ (m*2^k)=k:=by
 have h0:m*2^k≠0:=dV aE (ev (bF aG));unfold jZ;rw[bu h0];have hk:k<=Nat.log2 (m*2^k):=by
  apply ca;intro h;have h1:m*2^k<2^k:=(Nat.log2_lt h0).1 aE;have:1*2^k<=m*2^k:=bX _ aE;omega
 obtain⟨j,hj⟩:∃ j,Nat.log2 (m*2^k)+1=j+k:=⟨Nat.log2 (m*2^k)+1-k,aE⟩
 rw[hj,bE,Nat.gcd_mul_right];have hg:Nat.gcd m (2^j)=1:=by
  have hc:Nat.Coprime m 2:=by
   unfold Nat.Coprime;rw[Nat.gcd_comm,Nat.gcd_rec,hm];rfl
  exact Nat.Coprime.pow_right j hc
 rw[hg,ck,Nat.log2_two_pow]
def LR{n:Nat}(h:n%2=1):jZ n=0:=by have:=LP h 0;simpa using this
def aob{n:Nat}(h:n≠0):∃ m k,m%2=1/\n=m*2^k:=by
 induction n using Nat.strongRecOn with
 |_ n ih=>
  by_cases h2:n%2=1
  .exact ⟨n,0,h2,aK⟩
  .obtain ⟨m,k,hm,he⟩:=ih (n/2) aE aE ;exact⟨m,k+1,hm,by rw[bH,<-bL,<-he];omega⟩
def RP{n:Nat}(h:n≠0)(h2:n%2=0):jZ n=jZ (n/2)+1:=by
 obtain⟨m,k,hm,he⟩:=aob (n:=n/2) aE;have e:n=m*2^(k+1):=by rw[bH,<-bL,<-he];omega
 rw[he,LP hm]
 conv=>lhs;rw[e]
 exact LP hm _
def BX{n:Nat}(h:n≠0):∃ m,m%2=1/\n=m*2^jZ n:=by
 induction n using Nat.strongRecOn with
 |_ n ih=>
  by_cases h2:n%2=1
  .exact ⟨n,h2,by rw[LR h2];omega⟩
  .obtain ⟨m,hm,he⟩:=ih (n/2) aE aE ;refine⟨m,hm,?_⟩;rw[RP h aE,bH,<-bL,<-he];omega
def y7{m:Nat}(hm:m%2=1)(k:Nat):jZ (m*2^k)=k:=by
 induction k with
 |zero=>rw[cw,cz,LR hm]
 |succ k ih=>
  have hp:0<m*2^k:=fA aE (bF aG);have e:m*2^(k+1)=m*2^k*2:=by rw[bH,bL]
  rw[e,RP aE aE,dW _ aG,ih]
def Em{n:Nat}(h:n≠0):(n/2^jZ n)%2=1:=by
 obtain⟨m,hm,he⟩:=BX h;have:n/2^jZ n=m:=by conv=>lhs;rw[he,y7 hm];rw[dW _ (bF aG)]
 rw[this];exact hm
def Fm{n:Nat}(h:n≠0):(n/2^jZ n)*2^jZ n=n:=by
 obtain⟨m,hm,he⟩:=BX h;have:n/2^jZ n=m:=by conv=>lhs;rw[he,y7 hm];rw[dW _ (bF aG)]
 rw[this];exact he.symm
def GL{n:Nat}(h:n≠0):2^jZ n<=n:=by
 obtain⟨m,hm,he⟩:=BX h
 conv=>rhs;rw[he]
 exact gN _ aE 
def acS{x v:Nat}(hx:x≠0)(iL:x<4294967296):jZ (x+4294967296*v)=jZ x:=by
 obtain⟨m,hm,he⟩:=BX hx;have hk:jZ x<32:=by
  have h1:=GL hx;rcases ew (jZ x) 32 with h|h
  .exact h
  .have:=bN (n:=2) aG h;have e:(2:Nat)^32=4294967296:= aG ;omega
 have e:x+4294967296*v=(m+2^(32-jZ x)*v)*2^jZ x:=by
  rw[ct,<-he,gi,<-bE,fB aE]
 conv=>lhs;rw[e]
 apply y7;have:2^(32-jZ x)=2*2^(31-jZ x):=by rw[(aE:32-jZ x=(31-jZ x)+1),bH,bK]
 rw[this,bL,eH];exact hm
def acT{v:Nat}(hv:v≠0)(k:Nat):jZ (2^k*v)=k+jZ v:=by
 obtain⟨m,hm,he⟩:=BX hv
 conv=>lhs;rw[he,<-bL,bK (2^k),bL,<-bE]
 exact y7 hm _
def Hl{L:List Nat}:val L=0↔∀ x,x ∈ L->x=0:=by
 induction L with
 |nil=>simp
 |cons x l ih=>
  simp only[qO,dD];constructor
  .intro h y hy;rcases hy with rfl|hy
   .omega
   .exact ih.1 aE y hy
  .intro h;have h1:=h x (.inl rfl);have h2:=ih.2 (λy hy=>h y (.inr hy));omega
def acU{L:List Nat}(h:iK L)(i:Nat)(hi:i<L.length)(h0:∀ j,(hj:j<i)->L[j]=0)(hx:L[i]≠0):jZ (val L)=32*i+jZ L[i]:=by
 rw[EU L i aE];have:val (L.take i)=0:=by
  rw[Hl];intro y hy;obtain⟨j,hj,rfl⟩:=apV hy;rw[cJ]at hj;rw[List.getElem_take];exact h0 j aE 
 rw[this,cD,oE,fC hi,qO];rw[acT aE,acS hx (h.get hi)]
def Qa{L:List Nat}{k x:Nat}(hk:k<L.length):val (L.set k x)+4294967296^k*L[k]=val L+4294967296^k*x:=by
 induction L generalizing k with
 |nil=>simp at hk
 |cons y l ih=>
  cases k with
  |zero=>simp;omega
  |succ k=>
   simp only[dA]at hk;have:=ih (k:=k) aE;simp only[List.set_cons_succ,qO,eJ,bH];have e1:(4294967296^k*4294967296*l[k])=4294967296*(4294967296^k*l[k]):=by ac_rfl
   have e2:(4294967296^k*4294967296*x)=4294967296*(4294967296^k*x):=by ac_rfl
   rw[e1,e2];omega
def iK.set{L:List Nat}(h:iK L)(k:Nat){x:Nat}(hx:x<4294967296):iK (L.set k x):=by
 intro y hy;rcases List.mem_or_eq_of_mem_set hy with hy|rfl
 .exact h _ hy
 .exact hx
structure Dy where
 neg:Bool
 m:Nat
 e:Int
def Dy.mF(d:Dy):Prop:=(d.m=0/\d.neg=false/\d.e=0)\/d.m%2=1
def canon(neg:Bool)(m:Nat)(e:Int):Dy:=if m=0 then⟨false,0,0⟩else⟨neg,m/2^jZ m,e+jZ m⟩
def ru(neg:Bool)(m:Nat)(e:Int):(canon neg m e).mF:=by
 unfold canon;split
 .exact .inl ⟨rfl,rfl,rfl⟩
 .rename_i h;exact .inr (Em h)
def Dy.mF.Is{d:Dy}(h:d.mF):canon d.neg d.m d.e=d:=by
 obtain⟨s,m,e⟩:=d;rcases h with⟨h1,h2,h3⟩|h
 .simp only at h1 h2 h3;subst h1 h2 h3;rfl
 .simp only at h ⊢;unfold canon;rw[bu aE,LR h];simp
def oB(d:Dy):Prop:=d.m=0\/iq d.m<=4096 /\ -16384<=d.e/\d.e<=16384/\(iq d.m:Int)+d.e<=16384
instance (d:Dy):Decidable (oB d):=by unfold oB;infer_instance
structure Dy.ik(d:Dy):Prop where
 canon:d.mF
 range:oB d
def jD:Dy:=⟨false,0,0⟩
def q6:jD.ik:=⟨.inl ⟨rfl,rfl,rfl⟩,.inl rfl⟩
def Dy.jb(d:Dy):Int:=if d.m=0 then 0 else if d.neg then -1 else 1
def Dy.iE(d:Dy):Int:=if d.m=0 then 0 else iq d.m+d.e
def Dy.kr(d:Dy)(e:Int):Nat:=d.m*2^(d.e-e).toNat
def Dy.num(d:Dy)(e:Int):Int:=if d.neg then -(d.kr e:Int)else d.kr e
def jK(a b:Dy):Int:=
 if a.num (min a.e b.e)<b.num (min a.e b.e)then -1 else if b.num (min a.e b.e)<a.num (min a.e b.e)then 1 else 0
def xr{d:Dy}(h:d.m≠0)(e:Int):0<d.kr e:=fA aE (bF aG)
def V0{d:Dy}(h:d.m=0)(e:Int):d.kr e=0:=by unfold Dy.kr;rw[h,cP]
def Rb{d:Dy}(h:d.m≠0){e:Int}(he:e<=d.e):(iq (d.kr e):Int)=iq d.m+d.e-e:=by
 unfold Dy.kr;rw[re h];omega
def VZ{a b:Dy}(ha:a.m≠0)(hb:b.m≠0){e:Int}(h1:e<=a.e)(h2:e<=b.e)(h:a.iE<b.iE):a.kr e<b.kr e:=by
 have k1:=Rb ha h1;have k2:=Rb hb h2;unfold Dy.iE at h;rw[bu ha,bu hb]at h;rcases ew (a.kr e) (b.kr e)with h'|h'
 .exact h'
 .have:=tR h';omega
def s9(a b:Dy):Int:=kE (a.kr (min a.e b.e)) (b.kr (min a.e b.e))
def RG{a b:Dy}(ha:a.m≠0)(hb:b.m≠0)(h:a.iE<b.iE):s9 a b = -1:=by
 unfold s9 kE;rw[bw (VZ ha hb (Int.min_le_left _ _) (Int.min_le_right _ _) h)]
def RF{a b:Dy}(ha:a.m≠0)(hb:b.m≠0)(h:b.iE<a.iE):s9 a b=1:=by
 have:=VZ hb ha (Int.min_le_right a.e b.e) (Int.min_le_left _ _) h;unfold s9 kE;rw[bu aE,bw this]
def C6(d:Dy):(d.m=0/\d.jb=0)\/(d.m≠0/\d.neg=true/\d.jb = -1)\/(d.m≠0/\d.neg=false/\d.jb=1):=by
 unfold Dy.jb;by_cases h:d.m=0
 .exact .inl ⟨h,bw h⟩
 .cases hn:d.neg
  .exact .inr (.inr ⟨h,rfl,by simp[h]⟩)
  .exact .inr (.inl ⟨h,rfl,by simp[h]⟩)
def OE{d:Dy}(e:Int):(d.jb=0->d.num e=0)/\(d.jb = -1->d.num e<0/\d.num e = -(d.kr e))/\(d.jb=1->0<d.num e/\d.num e=d.kr e):=by
 unfold Dy.num;rcases C6 d with⟨h1,h2⟩|⟨h1,h2,h3⟩|⟨h1,h2,h3⟩
 .rw [h2,V0 h1];simp
 .have:=xr h1 e;rw[h3,h2];simp;omega
 .have:=xr h1 e;rw[h3,h2];simp;omega
def Dp(a b:Dy):jK a b=if a.jb<b.jb then -1 else if b.jb<a.jb then 1 else if a.jb=0 then 0 else a.jb*s9 a b:=by
 unfold jK s9 kE;generalize min a.e b.e=e;obtain⟨p1,p2,p3⟩:=OE (d:=a) e;obtain⟨q1,q2,q3⟩:=OE (d:=b) e;generalize a.num e=x at *
 generalize b.num e=y at *
 generalize a.kr e=x' at *
 generalize b.kr e=y' at *
 have ha:a.jb=0\/a.jb = -1\/a.jb=1:=by rcases C6 a with⟨_,h⟩|⟨_,_,h⟩|⟨_,_,h⟩<;>simp[h]
 have hb:b.jb=0\/b.jb = -1\/b.jb=1:=by rcases C6 b with⟨_,h⟩|⟨_,_,h⟩|⟨_,_,h⟩<;>simp[h]
 generalize a.jb=s at *
 generalize b.jb=t at *
 rcases ha with rfl|rfl|rfl<;>rcases hb with rfl|rfl|rfl<;>simp at p1 p2 p3 q1 q2 q3<;>(repeat' split)<;>omega
def pB(z:Int)(e:Int):Dy:=canon (decide (z<0)) z.natAbs e
def jc(a b:Dy):Dy:=
 if a.m=0 then b else if b.m=0 then a else pB (a.num (min a.e b.e)+b.num (min a.e b.e)) (min a.e b.e)
def iU(d:Dy):Dy:=⟨!d.neg&&decide (d.m≠0),d.m,d.e⟩
def Ek{d:Dy}(h:d.mF):(iU d).mF:=by
 rcases h with⟨h1,h2,h3⟩|h
 .exact .inl ⟨h1,by simp[iU,h1],h3⟩
 .exact .inr h
def qA{d:Dy}(h:d.ik):(iU d).ik:=⟨Ek h.canon,h.range⟩
def amK(n:Bool)(m:Nat)(e:Int):(canon n m e).jb=if m=0 then 0 else if n then -1 else 1:=by
 unfold canon;by_cases h:m=0
 .simp [h,Dy.jb]
 .have:(canon n m e).m≠0:=by unfold canon;rw[bu h];have:=Em h;simp only;omega
  unfold canon at this;rw[bu h]at this ⊢;unfold Dy.jb;rw[bu this,bu h]
def amL(z e:Int):(pB z e).jb=if z<0 then -1 else if 0<z then 1 else 0:=by
 unfold pB;rw[amK];by_cases h:z<0
 .rw [bu aE,bw h];simp[h]
 .rw [bu h];by_cases h0:0<z
  .rw [bu aE,bw h0];simp[h]
  .rw [bu h0,bw aE]
def WK(d:Dy)(e:Int)(hd:d.m≠0):(iU d).num e = -(d.num e):=by
 unfold Dy.num iU Dy.kr;cases d.neg<;>simp[hd]
def acI{a b:Dy}(ha:a.m≠0)(hb:b.m≠0):(jc a (iU b)).jb=jK a b:=by
 unfold jc;rw[bu ha,bu (by simpa[iU]using hb),amL];have e1:(iU b).e=b.e:=rfl;rw[e1,WK _ _ hb];unfold jK;generalize a.num _=x;generalize b.num _=y
 repeat' split
 all_goals omega
def acK{a b:Dy}(ha:a.m≠0)(hb:b.m≠0)(hs:a.jb=b.jb)(h:a.iE<b.iE):jK a b = -a.jb:=by
 rw[Dp,bu aE,bu aE,RG ha hb h];split<;>omega
def acJ{a b:Dy}(ha:a.m≠0)(hb:b.m≠0)(hs:a.jb=b.jb)(h:b.iE<a.iE):jK a b=a.jb:=by
 rw[Dp,bu aE,bu aE,RF ha hb h];split<;>omega
def Dq(a b:Dy):jK a b=if a.jb≠b.jb then(if a.jb<b.jb then -1 else 1)else if a.jb=0 then 0 else
 if a.iE≠b.iE then(if(a.iE<b.iE)=(0<a.jb)then -1 else 1)else(jc a (iU b)).jb:=by
 by_cases hs:a.jb=b.jb
 .rw [bu (by simpa using hs)];by_cases h0:a.jb=0
  .rw [bw h0,Dp,bu aE,bu aE,bw h0]
  .rw [bu h0];have ha:a.m≠0:=by intro h;exact h0 (by unfold Dy.jb;rw[bw h])
   have hb:b.m≠0:=by intro h;exact h0 (by rw[hs];unfold Dy.jb;rw[bw h])
   have hc:a.jb = -1\/a.jb=1:=by rcases C6 a with⟨_,h⟩|⟨_,_,h⟩|⟨_,_,h⟩<;>simp_all
   by_cases ht:a.iE=b.iE
   .rw [bu (by simpa using ht),acI ha hb]
   .rw [bw (by simpa using ht)];rcases Int.lt_or_gt_of_ne ht with h|h
    .rw [acK ha hb hs h];rcases hc with h'|h'<;>rw[h']<;>simp[h]
    .rw [acJ ha hb hs h];rcases hc with h'|h'<;>rw[h']<;>simp[(aE:¬a.iE<b.iE)]
 .rw [bw (by simpa using hs),Dp];by_cases h:a.jb<b.jb
  .rw [bw h,bw h]
  .rw [bu h,bu h,bw aE]
def aaz{out:List Nat}{k c x y P Q P' Q':Nat}(hlen:out.length=k)(h:val out+4294967296^k*c=P+Q)
 (hP:P'=P+4294967296^k*x) (hQ:Q'=Q+4294967296^k*y):
 val (out++[(c+x+y)%4294967296])+4294967296^(k+1)*((c+x+y)/4294967296)=P'+Q':=by
 rw[vk,hlen,hP,hQ];simp only[qO,Az,cU,bT];generalize hx:c+x+y=z;have e:=dU z 4294967296;rw[bH,df,bL,<-bR,e,<-hx,bR,bR];omega
def anq{out:List Nat}{k c x y d c' P Q P' Q':Nat}(hlen:out.length=k)(h:val out+Q=P+4294967296^k*c)
 (hP:P'=P+4294967296^k*x) (hQ:Q'=Q+4294967296^k*y) (hd:d+y+c=x+4294967296*c'):
 val (out++[d])+Q'=P'+4294967296^(k+1)*c':=by
 rw[vk,hlen,hP,hQ];simp only[qO,Az,cU,bT];have e:=congrArg (4294967296^k * ·) hd;simp only[bR,<-bL]at e;rw[bH];omega
def Zg{out:List Nat}{n c P Q:Nat}(ho:iK out)(hlen:out.length=n)(h:val out+Q=P+4294967296^n*c)(hle:Q<=P):c=0/\val out=P-Q:=by
 have h1:=mJ ho;rw[hlen]at h1;rcases c with _|c
 .exact ⟨rfl,aE⟩
 .exfalso;have:4294967296^n*1<=4294967296^n*(c+1):=cO _ aE;omega
def Lu{L:List Nat}(h:iK L)(k:Nat)(hk:k/32<L.length):val L/2^k%2=L[k/32]/2^(k%32)%2:=by
 have e:k=32*(k/32)+k%32:= aE 
 conv=>lhs;rw[e,bE,<-cW,<-oE,<-Hk h,fC hk,qO]
 have hs:k%32<32:=bM _ aG;have e2:(4294967296:Nat)=2^(k%32)*(2*2^(31-k%32)):=by
  rw[<-Nat.pow_succ',<-bE,(aE:k%32+(31-k%32).succ=32)]
 conv=>lhs;rw[e2,bL,fz _ _ (bF aG),bL,eH]
def Q6{n k:Nat}(h:n≠0)(hk:k<jZ n):n/2^k%2=0:=by
 obtain⟨m,hm,he⟩:=BX h;generalize jZ n=c at *
 rw[he,(aE:c=k+(c-k)),bE,<-bL,gi,dW _ (bF aG),(aE:c-k=(c-k-1)+1),bH,<-bL,gj]
def Q5{n:Nat}(h:n≠0):n/2^jZ n%2=1:=Em h
def Fe{L:List Nat}(h:iK L)(h0:val L≠0):jZ (val L)/32<L.length:=by
 have h1:=GL h0;have h2:=mJ h;rw[oE]at h2;have h3:2^jZ (val L)<2^(32*L.length):=cB h1 h2;have:=(aqr (aG:1<2)).1 h3;omega
end Go.Proofs.YtkjkcjhacddojaaGreatDoor.Fp
namespace Go.Proofs.YtkjkcjhacddojaaGreatDoor
open Go.RowKit Fp
structure Sl(w:World)(A:Option Addr)(c:Nat)(L:List Nat):Prop where
 cap:L.length<=c
 qx:c<=9223372036854775807
 ok:iK L
 xw:A=none->c=0
 cell:∀ (i x:Nat),L[i]? = some x->∃ b o,A=some ⟨b,o,none⟩/\b<w.heap.size/\w.cell? ⟨b,o+i,none⟩=some (.int .u32 (x:Int))
def abF(a:Addr)(n:Nat):(a.add n).block=a.block:=by unfold Addr.add;split<;>rfl
section
variable {w w':World} {A:Option Addr} {c:Nat} {L:List Nat}
def Sl.lR(h:Sl w A c L){i:Nat}(hi:i<L.length):∃ b o,A=some ⟨b,o,none⟩/\b<w.heap.size/\w.cell? ⟨b,o+i,none⟩=some (.int .u32 (L[i]:Int)):=
 h.cell i _ (bI hi)
def Sl.nil(w:World):Sl w none 0 []:=⟨bC _,aG,iK.nil,λ_=>rfl,λi x h=>by simp at h⟩
def Sl.below(h:Sl w A c L)(hb:Below w.heap.size w w'):Sl w' A c L:=
 ⟨h.cap,h.qx,h.ok,h.xw,λi x hx=>by
  obtain⟨b,o,e,h1,h2⟩:=h.cell i x hx;exact⟨b,o,e,bW h1 hb.size,(hb.cell h1).trans h2⟩⟩
def Sl.alloc(h:Sl w A c L)(o:Obj):Sl (w.alloc o) A c L:=h.below ((Below.refl _ _).alloc (bC _) _)
def Sl.drew(h:Sl w A c L):Sl w.drew A c L:=h.below ((Below.refl _ _).drew)
def Sl.take(h:Sl w A c L)(n:Nat):Sl w A c (L.take n):=
 ⟨by have:=h.cap;rw[cJ];omega,h.qx,h.ok.take n,h.xw,λi x hx=>h.cell i x (by
  rw[eK]at hx;split at hx
  .exact hx
  .cases hx)⟩
def Sl.len(h:Sl w A c L):L.length<=9223372036854775807:=bG h.cap h.qx
def Sl.eqv{L':List Nat}(h:Sl w A c L)(e:L=L'):Sl w A c L':=e▸h
end
def BP(b o i:Nat):(⟨b,o,none⟩:Addr).add i=⟨b,o+i,none⟩:=by
 unfold Addr.add;split
 .rename_i h0;rw[h0];rfl
 .simp
abbrev iJ(w w':World):Prop:=Below w.heap.size w w'
def iJ.trans{a b c:World}(h:iJ a b)(k:iJ b c):iJ a c:=Below.trans h (k.mono h.size)
def iJ.alloc(w:World)(o:Obj):iJ w (w.alloc o):=(Below.refl _ _).alloc (bC _) _
def iJ.drew(w:World):iJ w w.drew:=(Below.refl _ _).drew
def iJ.refl(w:World):iJ w w:=Below.refl _ _
def Kr{A:Option Addr}{n m c:Nat}(h:n=m):Ending.returned (.slice A n c) = .returned (.slice A m c):=by rw[h]
def oX{k:IntKind}{a b:Int}(h:a=b):Ending.returned (.int k a) = .returned (.int k b):=by rw[h]
def Yg{a b:Bool}(h:a=b):Ending.returned (.bool a) = .returned (.bool b):=by rw[h]
def tN(w:World)(L:List Nat)(e:Ending)(w':World):Prop:=∃ A c,e = .returned (.slice A L.length c)/\Sl w' A c L/\iJ w w'
def Dd(w:World)(L:List Nat)(n:Int)(e:Ending)(w':World):Prop:=∃ A c,e = .returned (.tuple #[.slice A L.length c,.int .i64 n])/\Sl w' A c L/\iJ w w'
def Tb(w:World):Prop:=TabAt 0 Lib.deBruijn32tab w
def Tb.below{w w':World}(h:Tb w)(hb:iJ w w'):Tb w':=λj hj=>by
 have h1:=h j hj;rw[hb.cell (block_lt_of_cell h1)];exact h1
def Tb.alloc{w:World}(h:Tb w)(o:Obj):Tb (w.alloc o):=h.below (iJ.alloc _ _)
def abq(x:Nat)(h:x<4294967296):Lib.bitLen x=iq x:=by
 induction x using Nat.strongRecOn with
 |_ x ih=>
  by_cases h0:x=0
  .subst h0;rfl
  .rw [Lib.bitLen_half x h0 aE,ih (x/2) aE aE];by_cases h1:x/2=0
   .have:x=1:= aE ;subst this;rfl
   .have e1:=sF h1;have e2:=pK (x/2);have e3:=nv h1;generalize iq (x/2)=k at *
    obtain⟨j,rfl⟩:∃ j,k=j+1:=⟨k-1,aE⟩
    rw[eu]at e1;rw[eN];refine(vz ?_ ?_).symm
    .rw [bH];omega
    .rw [bH];omega
def acV(x:Nat)(h0:x≠0)(h:x<4294967296):Lib.ctz 32 x=jZ x:=by
 unfold Lib.ctz;rw[bu h0];obtain⟨m,hm,_⟩:=Lib.ctzFrom_spec 32 x aE h
 conv=>rhs;rw[hm,bK]
 exact(y7 aE _).symm
def oO(L:List Nat):List Value:=L.map λ(n:Nat)=>Value.int .u32 (n:Int)
def aoh{L:List Nat}{j:Nat}{u:Value}(h:(oO L)[j]? = some u):∃ n,L[j]? = some n/\u = .int .u32 (n:Int):=by
 unfold oO at h;rw[cQ]at h;obtain⟨n,hn,rfl⟩:=dg.1 h;exact⟨n,hn,rfl⟩
def aog(L M:List Nat):oO (L++M)=oO L++oO M:=apW
def aoi(L:List Nat):∀ u ∈ oO L,u.oneCell'=true:=by
 intro u hu;obtain⟨n,_,rfl⟩:=dC.1 hu;rfl
structure Ow(w:World)(base:Nat)(v:Value)(L:List Nat):Prop where
 row:w.ownsRow base 150 1 v L.length (oO L)
 ok:iK L
def Ow.sl{w:World}{base:Nat}{v:Value}{L:List Nat}(h:Ow w base v L):∃ A c,v = .slice A L.length c/\Sl w A c L:=by
 have hr:=h.row;rcases hr.2 with⟨rfl,h0⟩|⟨g,cap,cur,rfl,hb,hg,qs,oI,oz,FY⟩
 .have:L=[]:=dI h0;subst this;exact⟨none,0,rfl,Sl.nil w⟩
 .refine ⟨_,_,rfl,qs,(by simpa[maxLen]using oI),h.ok,(λh=>by cases h),λi x hx=>⟨_,_,rfl,(dv.1 hg).1,?_⟩⟩;have h:=hr.cells (g:=g) rfl i (.int .u32 (x:Int)) (by unfold oO;rw[cQ,hx];rfl);rw[BP]at h;exact h
def Ow.nil(w:World)(base:Nat):Ow w base (.slice none 0 0) []:=⟨World.ownsRow_nil w base _ _,iK.nil⟩
def Ow.alloc{w:World}{base:Nat}{v:Value}{L:List Nat}(h:Ow w base v L)(o:Obj):Ow (w.alloc o) base v L:=⟨h.row.alloc o,h.ok⟩
def Ow.empty(w:World)(base:Nat)(hb:base<=w.heap.size):Ow (w.alloc (.cells #[] 150)) base (.slice (some ⟨w.heap.size,0,none⟩) 0 0) []:=
 ⟨World.ownsRow_made w #[] 0 hb aG rfl,iK.nil⟩
def qw{w:World}{n:Nat}(h:n<=w.heap.size)(o:Obj):n<=(w.alloc o).heap.size:= aS 
def Sl.one(w:World)(x:Nat)(hx:x<4294967296):Sl (w.alloc (.cells #[.int .u32 x] 150)) (some ⟨w.heap.size,0,none⟩) 1 [x]:=
 ⟨bC _,aG,iK.cons hx iK.nil,(λh=>by cases h),λi y hy=>by
  obtain⟨h1,h2⟩:=cH.1 hy;obtain rfl:i=0:=by simp at h1;omega
  simp at h2;subst h2;refine⟨_,_,rfl,aK,?_⟩;exact World.cell?_alloc_at _ _ _ _ rfl⟩
def Sl.tG(w:World)(y:Int)(x:Nat)(e:y=(x:Int))(hx:x<4294967296):Sl (w.alloc (.cells #[.int .u32 y] 150)) (some ⟨w.heap.size,0,none⟩) 1 [x]:=by
 subst e;exact Sl.one w x hx
def NI:(prog.info? 150).map (λi=>(i.zero,i.size,i.bytes))=some (some (.int .u32 0),1,4):= aI 
def rp{ib:Array Oper}{rest:List Oper}{o:Oper}{a:Act}{Q:Exit->Act->World->Prop}{w:World}(Cb:o.guard=none)(s x:Operand)
 (ho:o.op = .call { callee:=.builtin .append,args:=#[s,x],argTypes:=#[37,37] })
 (base:Nat) (v:Value) (L:List Nat) (hs:a.eval s=v) (pd:Ow w base v L)
 (A:Option Addr) (m c:Nat) (M:List Nat) (hx:a.eval x = .slice A m c) (hm:m=M.length) (hr:Sl w A c M)
 (lW:L.length+M.length<=10000000000) (I8:base<=w.heap.size)
 (h:∀ v' w',Ow w' base v' (L++M)->w.grownBy w' v.ownBlock->(v'.ownBlock=v.ownBlock\/v'.ownBlock=some w.heap.size)->wpList prog ib Q rest (a.put o.dst v') w'):
 wpList prog ib Q (o::rest) a w:=by
 obtain⟨i,hi,hz,h1,h2⟩:=info_parts NI;subst hm;rcases A with _|ad
 .have hc:=hr.xw rfl;subst hc;have hM:M=[]:=dI (by have:=hr.cap;omega);subst hM;refine wpList_append_own_none Cb s x _ ho base _ i 1 underlying37 hi v _ _ hs pd.row hx ?_;have:=h v w (by rw[List.append_nil];exact pd) ⟨rfl,rfl,rfl,bC _,λ_ _ _=>rfl⟩ (.inl rfl);exact this
 .refine wpList_append_own_at w Cb s x _ ho base _ i _ 1 4 underlying37 hi hz h1 h2 rfl aG v L.length (oO L) hs pd.row ad M.length c (oO M) hx (by simp[oO]) ?_ (aoi M)
   (by simp only[maxLen];omega) aE I8 ?_
  .intro j u hu;obtain⟨n,hn,rfl⟩:=aoh hu;obtain⟨b,o,e,_,hc⟩:=hr.cell j n hn;cases e;rw[BP];exact hc
  .intro v' w' agD hg _ pD;exact h v' w' ⟨by rw[cE,aog];exact agD,pd.ok.append hr.ok⟩ hg pD
def Rw(w:World)(b:Nat)(L:List Nat):Prop:=w.heap[b]? = some (.cells (oO L).toArray 150 (0,0))
section
variable {w w':World} {b:Nat} {L:List Nat}
def Rw.lt(h:Rw w b L):b<w.heap.size:=(dv.1 h).1
def Rw.cell(h:Rw w b L){i x:Nat}(hx:L[i]? = some x):w.cell? ⟨b,i,none⟩=some (.int .u32 (x:Int)):=by
 unfold Rw at h;simp only[World.cell?,h];simp[oO,hx]
def Rw.frozen(h:Rw w b L)(i:Nat):w.frozen? ⟨b,i,none⟩=false:=by
 unfold Rw at h;simp[World.frozen?,h]
def Rw.set(h:Rw w b L)(i x:Nat):Rw (w.setCell ⟨b,i,none⟩ (.int .u32 (x:Int))) b (L.set i x):=by
 unfold Rw at h ⊢;simp only[World.setCell,dw,h];simp[oO,List.map_set]
def Rw.sl(h:Rw w b L)(hk:iK L)(hl:L.length<=10000000000):Sl w (some ⟨b,0,none⟩) L.length L:=
 ⟨bC _,aE,hk,(λh=>by cases h),λi x hx=>⟨_,_,rfl,h.lt,by
  rw[cD];exact h.cell hx⟩⟩
def Rw.yD(w:World)(n:Nat):Rw (w.alloc (.cells (oO (List.replicate n 0)).toArray 150)) w.heap.size (List.replicate n 0):=heap_alloc_new w _
end
def aay(b i:Nat):(⟨b,0,none⟩:Addr).add i=⟨b,i,none⟩:=by
 unfold Addr.add;split
 .rename_i h0;rw[h0]
 .simp
def Ei(n:Nat)(hn:n<=10000000000)(w:World):
 (Instr.makeSlice 37 (.int .i64 (n:Int)) (.int .i64 (n:Int))).run prog w = .ok (.slice (some ⟨w.heap.size,0,none⟩) n n) (w.alloc (.cells (oO (List.replicate n 0)).toArray 150)):=by
 obtain⟨i,hi,hz,h1,h2⟩:=info_parts NI;have hr:=run_make (P:=prog) w 37 150 i _ underlying37 hi hz .i64 .i64 n n aE aE (by rw[h2];omega) aE;rw[hr,gl,h1,cz];refine congrArg (λcs=>Result.ok (Value.slice (some ⟨w.heap.size,0,none⟩) n n) (w.alloc (.cells cs 150))) ?_;apply Array.ext
 .simp [madeCells,oO]
 .intro i h1 h2;simp[madeCells,oO,Value.cells,dj]
def uz(w:World)(d:Dy)(e:Ending)(w':World):Prop:=
 ∃ A c,e = .returned (.agg #[.bool d.neg,.slice A (ia d.m).length c,.int .i64 d.e])/\Sl w' A c (ia d.m)/\iJ w w'
def yY(w:World)(d:Dy)(n:Int)(e:Ending)(w':World):Prop:=
 ∃ A c,e = .returned (.tuple #[.agg #[.bool d.neg,.slice A (ia d.m).length c,.int .i64 d.e],.int .i64 n])/\Sl w' A c (ia d.m)/\iJ w w'
def yW(w:World)(g:Nat):Prop:=∀ o x,w.cell? ⟨g,o,none⟩≠some (.int .u32 x)
def Sl.zg{w:World}{A:Option Addr}{c:Nat}{L:List Nat}(h:Sl w A c L){g i:Nat}(hg:yW w g)(u:Value):Sl (w.setCell ⟨g,i,none⟩ u) A c L:=
 ⟨h.cap,h.qx,h.ok,h.xw,λj x hx=>by
  obtain⟨b,o,e,h1,h2⟩:=h.cell j x hx;refine⟨b,o,e,by simpa[World.setCell]using h1,?_⟩;rw[World.cell?_setCell_other w _ _ u]
  .exact h2
  .intro e';simp only[Addr.mk.injEq]at e';exact hg (o+j) x (by rw[e'.1];exact h2)⟩
def yW.En{w:World}{g:Nat}{cs:Array Value}{t:TypeId}{fr:Nat×Nat}(h:w.heap[g]? = some (.cells cs t fr))(hc:∀ (i:Nat) (x:Int),cs[i]? ≠ some (.int .u32 x)):yW w g:=λo x e=>by
 simp only[World.cell?,h]at e;simp at e;exact hc o x (by simpa using e)
def jL(w:World)(g:Nat)(s:Bool)(A:Option Addr)(n c:Nat)(e:Int):Prop:=w.heap[g]? = some (.cells #[.bool s,.slice A n c,.int .i64 e] 39 (0,0))
section
variable {w w':World} {g n c:Nat} {s:Bool} {A:Option Addr} {e:Int}
def jL.new(W:World)(s:Bool)(A:Option Addr)(n c:Nat)(e:Int):jL (W.alloc (.cells #[.bool s,.slice A n c,.int .i64 e] 39)) W.heap.size s A n c e:=heap_alloc_new W _
def jL.sW{W:World}{g:Nat}(hg:W.heap.size=g)(s:Bool)(A:Option Addr)(n c:Nat)(e:Int):jL (W.alloc (.cells #[.bool s,.slice A n c,.int .i64 e] 39)) g s A n c e:=hg▸heap_alloc_new W _
def jL.lt(h:jL w g s A n c e):g<w.heap.size:=(dv.1 h).1
def jL.ext(h:jL w g s A n c e)(hb:iJ w w'):jL w' g s A n c e:=(hb.block g h.lt).trans h
def jL.alloc(h:jL w g s A n c e)(o:Obj):jL (w.alloc o) g s A n c e:=h.ext (iJ.alloc _ _)
def jL.drew(h:jL w g s A n c e):jL w.drew g s A n c e:=h
def jL.nL(h:jL w g s A n c e):yW w g:=yW.En h (λi x=>by rcases i with _|_|_|i<;>simp)
def jL.c0(h:jL w g s A n c e):w.cell? ⟨g,0,none⟩=some (.bool s):=by unfold jL at h;simp[World.cell?,h]
def jL.c1(h:jL w g s A n c e):w.cell? ⟨g,1,none⟩=some (.slice A n c):=by unfold jL at h;simp[World.cell?,h]
def jL.c2(h:jL w g s A n c e):w.cell? ⟨g,2,none⟩=some (.int .i64 e):=by unfold jL at h;simp[World.cell?,h]
def jL.fr(h:jL w g s A n c e)(i:Nat):w.frozen? ⟨g,i,none⟩=false:=by unfold jL at h;simp[World.frozen?,h]
def jL.set(h:jL w g s A n c e)(s':Bool)(A':Option Addr)(n' c':Nat)(e':Int):
 jL (((w.setCell ⟨g,0,none⟩ (.bool s')).setCell ⟨g,1,none⟩ (.slice A' n' c')).setCell ⟨g,2,none⟩ (.int .i64 e')) g s' A' n' c' e':=by
 have h1:=heap_setCell_same w g 0 _ _ (.bool s') h;have h2:=heap_setCell_same _ g 1 _ _ (.slice A' n' c') h1;have h3:=heap_setCell_same _ g 2 _ _ (.int .i64 e') h2;exact h3
def jL.tK{L:List Nat}{A':Option Addr}{c':Nat}(h:jL w g s A n c e)(hs:Sl w A' c' L)(s':Bool)(e':Int)(n' c2:Nat)(A2:Option Addr):
 Sl (((w.setCell ⟨g,0,none⟩ (.bool s')).setCell ⟨g,1,none⟩ (.slice A2 n' c2)).setCell ⟨g,2,none⟩ (.int .i64 e')) A' c' L:=by
 have h1:=heap_setCell_same w g 0 _ _ (.bool s') h;have h2:=heap_setCell_same _ g 1 _ _ (.slice A2 n' c2) h1;have k1:yW (w.setCell ⟨g,0,none⟩ (.bool s')) g:=yW.En h1 (λi x=>by rcases i with _|_|_|i<;>simp);have k2:yW ((w.setCell ⟨g,0,none⟩ (.bool s')).setCell ⟨g,1,none⟩ (.slice A2 n' c2)) g:=yW.En h2 (λi x=>by rcases i with _|_|_|i<;>simp);exact((hs.zg h.nL _).zg k1 _).zg k2 _
def jL.sY{w0:World}(hb:iJ w0 w)(hg:w0.heap.size<=g)(s':Bool)(A':Option Addr)(n' c':Nat)(e':Int):
 iJ w0 (((w.setCell ⟨g,0,none⟩ (.bool s')).setCell ⟨g,1,none⟩ (.slice A' n' c')).setCell ⟨g,2,none⟩ (.int .i64 e')):=
 ((hb.setCell hg _).setCell hg _).setCell hg _
end
def Sw:(prog.info? 39).map (·.size)=some 3:= aI 
def alC{fn:Func}{p:Tmp}(h:fn.results = #[.cell p 39])(tmps:Array Value){w:World}{g n c:Nat}{s:Bool}{A:Option Addr}{e:Int}
 (hp:tmps.getD p undef = .pointer (some ⟨g,0,none⟩)) (hb:jL w g s A n c e):
 (results fn tmps).run prog w = .ok (.agg #[.bool s,.slice A n c,.int .i64 e]) w:=
 results_cell_row h tmps w g _ _ _ _ hp hb underlying39 rfl Sw
def alD{fn:Func}{p t:Tmp}(h:fn.results = #[.cell p 39,.tmp t])(tmps:Array Value){w:World}{g n c:Nat}{s:Bool}{A:Option Addr}{e:Int}
 (hp:tmps.getD p undef = .pointer (some ⟨g,0,none⟩)) (hb:jL w g s A n c e):
 (results fn tmps).run prog w = .ok (.tuple #[.agg #[.bool s,.slice A n c,.int .i64 e],tmps.getD t undef]) w:=by
 have UC:tmps[p]?.getD undef = .pointer (some ⟨g,0,none⟩):=by simpa using hp
 simp[results,h,UC,asAddr,run_loadVar_row w g _ _ _ _ _ hb underlying39 rfl Sw]
def tg{fn:Func}{p:Tmp}(h:fn.results = #[.cell p 39]){a:Act}{w W:World}{d:Dy}{g:Nat}{A:Option Addr}{c n:Nat}
 (hp:a.tmps.getD p undef = .pointer (some ⟨g,0,none⟩)) (hd:a.defers=[]) (hb:jL W g d.neg A n c d.e) (hn:n=(ia d.m).length) (hs:Sl W A c (ia d.m)) (he:iJ w W):
 bodyPost prog fn (uz w d) .ret a W:=by
 subst hn;exact bodyPost_ret (alC h _ hp hb) hd ⟨A,c,rfl,hs,he⟩
def Dw{fn:Func}{p t:Tmp}(h:fn.results = #[.cell p 39,.tmp t]){a:Act}{w W:World}{d:Dy}{k:Int}{g:Nat}{A:Option Addr}{c n:Nat}
 (hp:a.tmps.getD p undef = .pointer (some ⟨g,0,none⟩)) (ht:a.tmps.getD t undef = .int .i64 k) (hd:a.defers=[]) (hb:jL W g d.neg A n c d.e) (hn:n=(ia d.m).length) (hs:Sl W A c (ia d.m)) (he:iJ w W):
 bodyPost prog fn (yY w d k) .ret a W:=by
 subst hn;exact bodyPost_ret ((alD h _ hp hb).trans (by rw[ht])) hd ⟨A,c,rfl,hs,he⟩
open Go.ChangeShapes Go.WideShapes Go.ChangeAt
def own:ownKnob prog.godebug=none:= aI 
def NY:laidOutB prog=true:= aI 
def To:prog.globalNamed "math/bits.deBruijn32tab" = some 0:= aI 
def afq:(prog.globals[0]?).map (·.type)=some 248:= aI 
def acA:prog.cellsOf 248=32:= aI 
def acz:prog.cellsOf 5=1:= aI 
def acy:prog.cellsOf 150=1:= aI 
def anZ {l:List (String×DataW Unit)} (hl:l=[("math/bits.deBruijn32tab", Rows.laid_math_bits_deBruijn32tab)]) {W:World} (h:laidMet prog l W):Tb W:=by
 subst hl;have ht:Lib.TabIs prog W "math/bits.deBruijn32tab" .u8 (Lib.deBruijn32tab.map λ(n:Nat)=>(n:Int)):=
  Lib.tabIs_of_head (rest:=[]) To afq underlying248 underlying5 acz acA h
 intro j hj;have:=ht.cell To j (by simpa using hj);rw[this];simp[bD];rw[bI hj];simp
def agO{n:Int}(h:(Lit.int .i64 n).wf=true):-9223372036854775808<=n/\n<=9223372036854775807:=by
 have h1:IntKind.i64.min = -9223372036854775808:=rfl;have h2:IntKind.i64.max=9223372036854775807:=rfl;simp[Lit.wf,h1,h2]at h;omega
def ajh{H:Type}{enc:TypeId×Value->H}{W:World}{fuel:Nat}{c:Value}{x:DataW H×List MemPlace}
 (h:DataW.trod enc prog W 0 (λ_=>true) true fuel 37 [c]=some x) (_hlt:∀ p ∈ x.2,p.block<W.heap.size):
 ∃ A L cap,c = .slice A L.length cap/\Sl W A cap L:=by
 rcases open_ints underlying37 underlying150 acy h with⟨oz,hx⟩|⟨a,len,cap,zs,oz,_,hl,hm,hz,hx,mf,hwz⟩
 .simp at oz;exact⟨none,[],0,oz,Sl.nil W⟩
 .simp at oz;simp only[bQ]at hz;refine⟨some a,(zs.take len).map Int.toNat,cap,?_,?_⟩
  .rw [oz,dh,cJ,dB aE]
  .have UQ:∀ n ∈ zs,0<=n/\n<4294967296:=λn hn=>by
    have:=hwz n hn;have h1:IntKind.u32.min=0:=rfl;have h2:IntKind.u32.max=4294967295:=rfl;simp[Lit.wf,h1,h2]at this;omega
   refine⟨by rw[dh,cJ];omega,by simpa[maxLen]using hm,?_,(λh=>by cases h),?_⟩
   .intro y hy;obtain⟨z,yr,rfl⟩:=dC.1 hy;have:=UQ z (eW yr);omega
   .intro i y hy;rw[cQ]at hy;obtain⟨z,yr,rfl⟩:=dg.1 hy;rw[eK]at yr;split at yr
    .rename_i hi;have hc:=mf i aE;rw[bD,yr]at hc;obtain⟨b,off,spot⟩:=a;have Nw:spot=none:=by
      rcases spot with _|q
      .rfl
      .exfalso;have pk:=mf 0 aE;rw[show(⟨b,off,some q⟩:Addr).add 0=⟨b,off,some q⟩from rfl]at pk;unfold World.cell? at pk;split at pk<;>simp at pk
     subst Nw;refine⟨b,off,rfl,?_,?_⟩
     .have:=block_lt_of_cell hc;rwa[abF]at this
     .rw [BP]at hc;rw[hc];have:=UQ z (eZ yr);simp;omega
    .cases yr
def VJ{α:Type}{l:List α}(h:l.length=3):∃ a b c,l=[a,b,c]:=by
 match l,h with
 | [a,b,c],_=>exact⟨a,b,c,rfl⟩
def ahS{α:Type}{l:List α}(h:l.length=7):∃ a b c d e f g,l=[a,b,c,d,e,f,g]:=by
 match l,h with
 | [a,b,c,d,e,f,g],_=>exact⟨a,b,c,d,e,f,g,rfl⟩
def ajf{H:Type}{enc:TypeId×Value->H}{W:World}{fuel:Nat}{cs:List Value}{x:DataW H×List MemPlace}
 (h:DataW.trod enc prog W 0 (λ_=>true) true fuel 39 cs=some x) (iL:∀ p ∈ x.2,p.block<W.heap.size):
 ∃ s A L cap e,cs=[.bool s,.slice A L.length cap,.int .i64 e]/\Sl W A cap L/\(-9223372036854775808<=e/\e<=9223372036854775807):=by
 obtain⟨xs,n,rfl,rfl,hl,mg,hf⟩:=DataW.trod_struct underlying39 h;have hC:prog.cellsOf 39=3:= aI ;have hB:prog.cellsOf 4=1:= aI ;have hS:prog.cellsOf 37=1:= aI ;have hI:prog.cellsOf 3=1:= aI ;rw[hC]at hl;obtain⟨a,b,c,rfl⟩:=VJ hl;have h0:=hf 0 _ rfl;have h1:=hf 1 _ rfl;have h2:=hf 2 _ rfl;simp only[fD,fE,eJ]at h0 h1 h2;simp only[hB,hS,hI,fF,fG,eX,fH]at h0 h1 h2;rw[bI (by rw[mg];decide)]at h0 h1 h2;obtain⟨s,hs,_⟩:=DataW.trod_bool underlying4 h0;obtain⟨A,L,cap,hc,ue⟩:=ajh h1 (λp hp=>iL p (fI.2 ⟨_,cN _,hp⟩));obtain⟨e,he,_,hw⟩:=DataW.trod_int underlying3 h2;simp at hs he;subst hs he hc;exact⟨s,A,L,cap,e,rfl,ue,agO hw⟩
noncomputable def N4(os:Os)(args:Array Value):World:=
 {World.holding prog os ⟨#[],args,[]⟩with heap:=(World.holding prog os ⟨#[],args,[]⟩).heap.modify 0 fun
   | .cells _ t frozen=>.cells (Lib.deBruijn32tab.map λ(n:Nat)=>Value.int .u8 (n:Int)).toArray t frozen
   |o=>o }
end Go.Proofs.YtkjkcjhacddojaaGreatDoor
namespace Go.Proofs.YtkjkcjhacddojaaGreatDoor.Pu
open Go.RowKit
inductive E where
 |any
 |v (x:Value)
 |agg (l:List E)
 |iC (l:List E)
 |sl (nl:Bool) (n sz:Nat) (el:Nat->Nat->E)
 |kn (m:Nat) (el:Nat->E)
 |fn (f:FuncId) (cap:List E)
 |mp (l:List (Int×FuncId×List FuncId))
def sR:Value->Bool
 | .int .u32 _=>true
 |_=>false
def E.nr:Nat->E->Bool
 |_,.any=>true
 |_,.v _=>true
 |_,.sl ..=>true
 |_,.mp _=>true
 |d+1,.agg l=>l.all (E.nr d)
 |d+1,.iC l=>l.all (E.nr d)
 |d+1,.fn _ l=>l.all (E.nr d)
 |_,_=>false
def BM(bs:Nat->Prop)(w:World):List (Int×FuncId×List FuncId)->List MapEntry->Prop
 | [],[]=>True
 |x::l,e::es=>(e.key = .int .i64 x.1/\∃ vs:List Value,e.val = .func (.func x.2.1) #[] vs.toArray/\vs.length=x.2.2.length /\
  ∀ (i:Nat) (g:FuncId) (v:Value),x.2.2[i]? = some g->vs[i]? = some v->∃ b,v = .pointer (some ⟨b,0,none⟩)/\¬bs b/\b<w.heap.size/\w.cell? ⟨b,0,none⟩=some (.func (.func g) #[] #[]))/\BM bs w l es
 |_,_=>False
def BM.mono{bs bs':Nat->Prop}{w w':World}(lW:w.heap.size<=w'.heap.size)(h1:∀ b,b<w.heap.size->bs' b->bs b)(hc:∀ b,b<w.heap.size->¬bs b->w'.heap[b]? = w.heap[b]?):
 ∀ {l:List (Int×FuncId×List FuncId)} {es:List MapEntry},BM bs w l es->BM bs' w' l es
 | [],[],_=>trivial
 | [],_::_,h=>h
 |_::_,[],h=>h
 |_::_,_::_,⟨⟨k1,vs,k2,k3,k4⟩,h⟩=>⟨⟨k1,vs,k2,k3,λi g v hg hv=>by
  obtain⟨b,q1,q2,q3,q4⟩:=k4 i g v hg hv;exact⟨b,q1,λx=>q2 (h1 b q3 x),bW q3 lW,by rw[World.cell?_of_block (w:=w) (hc b q3 q2)];exact q4⟩⟩,BM.mono lW h1 hc h⟩
inductive iN(bs br:Nat->Prop)(w:World):E->Value->Prop
 |any (x:Value):iN bs br w .any x
 |v (x:Value):iN bs br w (.v x) x
 |agg (l:List E) (vs:List Value) (h:vs.length=l.length) (k:∀ (i:Nat) (p:E) (x:Value),l[i]? = some p->vs[i]? = some x->iN bs br w p x):iN bs br w (.agg l) (.agg vs.toArray)
 |iC (l:List E) (vs:List Value) (h:vs.length=l.length) (k:∀ (i:Nat) (p:E) (x:Value),l[i]? = some p->vs[i]? = some x->iN bs br w p x):iN bs br w (.iC l) (.tuple vs.toArray)
 |sl (nl:Bool) (n sz:Nat) (el:Nat->Nat->E) (A:Option Addr) (c:Nat) (f:Nat->Nat->Value) (hc:n<=c) (hm:c<=9223372036854775807) (h0:A=none->c=0)
  (hl:∀ i j,i<n->j<sz->(f i j).oneCell'=true/\(nl=true->sR (f i j)=false))
  (hr:∀ i j,i<n->j<sz->(el i j).nr 2=true)
  (cell:∀ i j,i<n->j<sz->∃ b o,A=some ⟨b,o,none⟩/\¬bs b/\b<w.heap.size/\w.cell? ⟨b,o+(i*sz+j),none⟩=some (f i j))
  (k:∀ i j,i<n->j<sz->iN bs br w (el i j) (f i j)):iN bs br w (.sl nl n sz el) (.slice A n c)
 |kn (m:Nat) (el:Nat->E) (b o:Nat) (f:Nat->Value) (hb:¬br b) (iL:b<w.heap.size) (hl:∀ j,j<m->(f j).oneCell'=true)
  (cell:∀ j,j<m->w.cell? ⟨b,o+j,none⟩=some (f j))
  (k:∀ j,j<m->iN bs br w (el j) (f j)):iN bs br w (.kn m el) (.pointer (some ⟨b,o,none⟩))
 |fn (f:FuncId) (l:List E) (vs:List Value) (h:vs.length=l.length) (k:∀ (i:Nat) (p:E) (x:Value),l[i]? = some p->vs[i]? = some x->iN bs br w p x):iN bs br w (.fn f l) (.func (.func f) #[] vs.toArray)
 |mp (l:List (Int×FuncId×List FuncId)) (b clk:Nat) (es:Array MapEntry) (hb:¬bs b) (iL:b<w.heap.size) (hh:w.heap[b]? = some (.map es clk)) (ho:BM bs w l es.toList):iN bs br w (.mp l) (.map (some b))
def iN.mono{bs br bs' br':Nat->Prop}{w w':World}(lW:w.heap.size<=w'.heap.size)
 (h1:∀ b,b<w.heap.size->bs' b->bs b) (h2:∀ b,b<w.heap.size->br' b->br b)
 (hc:∀ b,b<w.heap.size->(¬bs b\/¬br b)->w'.heap[b]? = w.heap[b]?)
 {e:E} {v:Value} (h:iN bs br w e v):iN bs' br' w' e v:=by
 induction h with
 |any x=>exact .any x
 |v x=>exact .v x
 |agg l vs h k ih=>exact .agg l vs h ih
 |iC l vs h k ih=>exact .iC l vs h ih
 |sl nl n sz el A c f hn hm h0 hl hr cell k ih=>
  refine .sl nl n sz el A c f hn hm h0 hl hr (λi j hi hj=>?_) ih;obtain⟨b,o,e,hb,iL,mf⟩:=cell i j hi hj;exact⟨b,o,e,λhx=>hb (h1 b iL hx),bW iL lW,by rw[World.cell?_of_block (w:=w) (hc b iL (.inl hb))];exact mf⟩
 |kn m el b o f hb iL hl cell k ih=>
  exact .kn m el b o f (λhx=>hb (h2 b iL hx)) (bW iL lW) hl (λj hj=>by rw[World.cell?_of_block (w:=w) (hc b iL (.inr hb))];exact cell j hj) ih
 |fn f l vs h k ih=>exact .fn f l vs h ih
 |mp l b clk es hb iL hh ho=>exact .mp l b clk es (λx=>hb (h1 b iL x)) (bW iL lW) (by rw[hc b iL (.inl hb)];exact hh) (ho.mono lW h1 λb iL hb=>hc b iL (.inl hb))
def iN.sd{bs br bs' br':Nat->Prop}{w:World}(h1:∀ b,bs' b->bs b)(h2:∀ b,br' b->br b){e:E}{v:Value}(h:iN bs br w e v):iN bs' br' w e v:=
 h.mono (bC _) (λb _=>h1 b) (λb _=>h2 b) (λ_ _ _=>rfl)
def E.plain:Nat->E->Bool
 |_,.any=>true
 |_,.v _=>true
 |d+1,.agg l=>l.all (E.plain d)
 |d+1,.iC l=>l.all (E.plain d)
 |_,_=>false
def iN.plain{bs br bs' br':Nat->Prop}{w w':World}{e:E}{v:Value}(h:iN bs br w e v):∀ d,e.plain d=true->iN bs' br' w' e v:=by
 induction h with
 |any x=>exact λ_ _=>.any x
 |v x=>exact λ_ _=>.v x
 |agg l vs h k ih=>
  intro d hd;cases d with
  |zero=>simp[E.plain]at hd
  |succ d=>
   simp only[E.plain,cr]at hd;exact .agg l vs h λi p x hp hx=>ih i p x hp hx d (hd p (eZ hp))
 |iC l vs h k ih=>
  intro d hd;cases d with
  |zero=>simp[E.plain]at hd
  |succ d=>
   simp only[E.plain,cr]at hd;exact .iC l vs h λi p x hp hx=>ih i p x hp hx d (hd p (eZ hp))
 |sl=>intro d hd;cases d<;>simp[E.plain]at hd
 |kn=>intro d hd;cases d<;>simp[E.plain]at hd
 |fn=>intro d hd;cases d<;>simp[E.plain]at hd
 |mp=>intro d hd;cases d<;>simp[E.plain]at hd
def iN.nr{bs br br':Nat->Prop}{w:World}{e:E}{v:Value}(h:iN bs br w e v):∀ d,e.nr d=true->iN bs br' w e v:=by
 induction h with
 |any x=>exact λ_ _=>.any x
 |v x=>exact λ_ _=>.v x
 |agg l vs h k ih=>
  intro d hd;cases d with
  |zero=>simp[E.nr]at hd
  |succ d=>
   simp only[E.nr,cr]at hd;exact .agg l vs h λi p x hp hx=>ih i p x hp hx d (hd p (eZ hp))
 |iC l vs h k ih=>
  intro d hd;cases d with
  |zero=>simp[E.nr]at hd
  |succ d=>
   simp only[E.nr,cr]at hd;exact .iC l vs h λi p x hp hx=>ih i p x hp hx d (hd p (eZ hp))
 |fn f l vs h k ih=>
  intro d hd;cases d with
  |zero=>simp[E.nr]at hd
  |succ d=>
   simp only[E.nr,cr]at hd;exact .fn f l vs h λi p x hp hx=>ih i p x hp hx d (hd p (eZ hp))
 |kn=>intro d hd;cases d<;>simp[E.nr]at hd
 |mp l b clk es hb iL hh ho=>exact λ_ _=>.mp l b clk es hb iL hh ho
 |sl nl n sz el A c f hn hm h0 hl hr cell k ih=>
  exact λ_ _=>.sl nl n sz el A c f hn hm h0 hl hr cell λi j hi hj=>ih i j hi hj 2 (hr i j hi hj)
def E.one:E->Bool
 | .v x=>x.oneCell'
 | .sl ..=>true
 | .kn ..=>true
 | .fn ..=>true
 |_=>false
def E.nL:E->Bool
 | .v x=>!sR x
 | .sl ..=>true
 | .kn ..=>true
 | .fn ..=>true
 |_=>false
def iN.one{bs br:Nat->Prop}{w:World}{e:E}{v:Value}(h:iN bs br w e v)(h1:e.one=true):v.oneCell'=true:=by
 cases h<;>first|exact h1|rfl|(simp[E.one]at h1)
def iN.nL{bs br:Nat->Prop}{w:World}{e:E}{v:Value}(h:iN bs br w e v)(h1:e.nL=true):sR v=false:=by
 cases h with
 |v=>unfold E.nL at h1;cases hb:sR v<;>simp_all
 |any=>cases h1
 |agg=>cases h1
 |iC=>cases h1
 |sl=>rfl
 |kn=>rfl
 |fn=>rfl
 |mp=>cases h1
structure kD(bs br:Nat->Prop)(w:World)(l:List E)(vs:List Value):Prop where
 len:vs.length=l.length
 lQ:∀ (i:Nat) (p:E) (x:Value),l[i]? = some p->vs[i]? = some x->iN bs br w p x
def kD.nil(bs br:Nat->Prop)(w:World):kD bs br w [] []:=⟨rfl,λi p x h=>by simp at h⟩
def kD.cons{bs br:Nat->Prop}{w:World}{p:E}{x:Value}{l:List E}{vs:List Value}(h:iN bs br w p x)(k:kD bs br w l vs):kD bs br w (p::l) (x::vs):=
 ⟨by simp[k.len],λi q y hq hy=>by
  cases i with
  |zero=>simp at hq hy;subst hq hy;exact h
  |succ i=>simp at hq hy;exact k.lQ i q y hq hy⟩
def kD.head{bs br:Nat->Prop}{w:World}{p:E}{x:Value}{l:List E}{vs:List Value}(h:kD bs br w (p::l) (x::vs)):iN bs br w p x:=h.lQ 0 p x rfl rfl
def kD.tail{bs br:Nat->Prop}{w:World}{p:E}{x:Value}{l:List E}{vs:List Value}(h:kD bs br w (p::l) (x::vs)):kD bs br w l vs:=
 ⟨by have:=h.len;simpa using this,λi q y hq hy=>h.lQ (i+1) q y (by simpa using hq) (by simpa using hy)⟩
def kD.mI{bs br:Nat->Prop}{w:World}{p:E}{l:List E}{vs:List Value}(h:kD bs br w (p::l) vs):∃ x ys,vs=x::ys/\iN bs br w p x/\kD bs br w l ys:=by
 cases vs with
 |nil=>have:=h.len;simp at this
 |cons x ys=>exact⟨x,ys,rfl,h.head,h.tail⟩
def kD.qm{bs br:Nat->Prop}{w:World}{vs:List Value}(h:kD bs br w [] vs):vs=[]:=dI h.len
def kD.mono{bs br bs' br':Nat->Prop}{w w':World}{l:List E}{vs:List Value}(h:kD bs br w l vs)(k:∀ e v,iN bs br w e v->iN bs' br' w' e v):kD bs' br' w' l vs:=
 ⟨h.len,λi p x hp hx=>k _ _ (h.lQ i p x hp hx)⟩
def kD.take{bs br:Nat->Prop}{w:World}{l:List E}{vs:List Value}(h:kD bs br w l vs)(n:Nat):kD bs br w (l.take n) (vs.take n):=
 ⟨by simp[h.len],λi p x hp hx=>by
  rw[eK]at hp hx;split at hp
  .rename_i hi;rw[bw hi]at hx;exact h.lQ i p x hp hx
  .cases hp⟩
def kD.drop{bs br:Nat->Prop}{w:World}{l:List E}{vs:List Value}(h:kD bs br w l vs)(n:Nat):kD bs br w (l.drop n) (vs.drop n):=
 ⟨by simp[h.len],λi p x hp hx=>by
  rw[e9]at hp hx;exact h.lQ _ p x hp hx⟩
def kD.app{bs br:Nat->Prop}{w:World}{l m:List E}{vs us:List Value}(h:kD bs br w l vs)(k:kD bs br w m us):kD bs br w (l++m) (vs++us):=
 ⟨by simp[h.len,k.len],λi p x hp hx=>by
  rw[gn]at hp hx;rw[h.len]at hx;split at hp
  .rename_i hi;rw[bw hi]at hx;exact h.lQ i p x hp hx
  .rename_i hi;rw[bu hi]at hx;exact k.lQ _ p x hp hx⟩
def kD.acQ(bs br:Nat->Prop)(w:World)(vs:List Value):kD bs br w (vs.map .v) vs:=
 ⟨aK,λi p x hp hx=>by
  rw[cQ,hx]at hp;simp at hp;subst hp;exact .v x⟩
def iN.Dg{bs br:Nat->Prop}{w:World}{l:List E}{v:Value}(h:iN bs br w (.agg l) v):∃ vs:List Value,v = .agg vs.toArray/\kD bs br w l vs:=by
 cases h with
 |agg _ vs h k=>exact⟨vs,rfl,h,k⟩
def iN.ZK{bs br:Nat->Prop}{w:World}{l:List E}{v:Value}(h:iN bs br w (.iC l) v):∃ vs:List Value,v = .tuple vs.toArray/\kD bs br w l vs:=by
 cases h with
 |iC _ vs h k=>exact⟨vs,rfl,h,k⟩
def iN.kW{bs br:Nat->Prop}{w:World}{x v:Value}(h:iN bs br w (.v x) v):v=x:=by cases h;rfl
def iN.Te{bs br:Nat->Prop}{w:World}{f:FuncId}{l:List E}{v:Value}(h:iN bs br w (.fn f l) v):∃ vs:List Value,v = .func (.func f) #[] vs.toArray/\kD bs br w l vs:=by
 cases h with
 |fn _ _ vs h k=>exact⟨vs,rfl,h,k⟩
def kD.agg{bs br:Nat->Prop}{w:World}{l:List E}{vs:List Value}(h:kD bs br w l vs):iN bs br w (.agg l) (.agg vs.toArray):=.agg l vs h.len h.lQ
def kD.iC{bs br:Nat->Prop}{w:World}{l:List E}{vs:List Value}(h:kD bs br w l vs):iN bs br w (.iC l) (.tuple vs.toArray):=.iC l vs h.len h.lQ
def E.cells?:E->Option (List E)
 | .agg l=>if l.all E.one then some l else none
 | .v (.agg cs)=>if cs.toList.all Value.oneCell' then some (cs.toList.map .v)else none
 | .v x=>if x.oneCell' then some [.v x]else none
 | .sl nl n sz el=>some [.sl nl n sz el]
 | .kn m el=>some [.kn m el]
 | .fn f c=>some [.fn f c]
 |_=>none
def iN.cells{bs br:Nat->Prop}{w:World}{e:E}{v:Value}(h:iN bs br w e v){l:List E}(hl:e.cells? = some l):
 kD bs br w l v.cells.toList/\∀ u ∈ v.cells.toList,u.oneCell'=true:=by
 have single:∀ {e:E} {v:Value},iN bs br w e v->v.oneCell'=true->v.cells = #[v]->kD bs br w [e] v.cells.toList/\∀ u ∈ v.cells.toList,u.oneCell'=true:=by
  intro e v h h1 hc;rw[hc];exact⟨.cons h (.nil _ _ _),by simpa using h1⟩
 cases h with
 |any x=>simp[E.cells?]at hl
 |v=>
  by_cases ha:∃ cs,v = .agg cs
  .obtain ⟨cs,rfl⟩:=ha;simp only[E.cells?]at hl;split at hl
   .rename_i h1;cases hl;exact⟨kD.acQ _ _ _ _,λu hu=>cr.1 h1 u hu⟩
   .cases hl
  .have hx:(E.v v).cells? = if v.oneCell' then some [.v v]else none:=by
    cases v<;>first|rfl|exact absurd ⟨_,rfl⟩ ha
   rw[hx]at hl;split at hl
   .rename_i h1;cases hl;exact single (.v v) h1 (by cases v<;>first|rfl|exact absurd ⟨_,rfl⟩ ha)
   .cases hl
 |agg l vs h k=>
  simp only[E.cells?]at hl;split at hl
  .rename_i h1;cases hl;refine⟨⟨h,k⟩,?_⟩;intro u hu;obtain⟨i,hi⟩:=dJ.1 hu;have FK:i<l.length:=by
    obtain⟨hi,_⟩:=cH.1 hi;simp[Value.cells]at hi;omega
   exact(k i _ u (bI FK) (by simpa[Value.cells]using hi)).one (cr.1 h1 _ (cN FK))
  .cases hl
 |iC=>simp[E.cells?]at hl
 |mp=>simp[E.cells?]at hl
 |sl nl n sz el A c f hc hm h0 qg hr cell k=>simp only[E.cells?]at hl;cases hl;exact single (.sl nl n sz el A c f hc hm h0 qg hr cell k) rfl rfl
 |kn m el b o f hb iL qg cell k=>simp only[E.cells?]at hl;cases hl;exact single (.kn m el b o f hb iL qg cell k) rfl rfl
 |fn f l' vs h k=>simp only[E.cells?]at hl;cases hl;exact single (.fn f l' vs h k) rfl rfl
structure TI where
 id:TypeId
 d:TypeDesc
 i:TypeInfo
def na(P:Program)(T:List TI):Prop:=∀ x,x ∈ T->P.underlying x.id=some x.d/\P.info? x.id=some x.i
def mY:List TI->TypeId->Option TI
 | [],_=>none
 |x::l,t=>if Nat.beq x.id t then some x else mY l t
def wU(T:List TI)(t:TypeId):Option TypeDesc:=match mY T t with
 |some x=>some x.d
 |none=>none
def TI.isAgg(x:TI):Bool:=match x.d with
 | .struct _ | .array _ _=>true
 |_=>false
inductive CV where
 |e (x:E)
 |box (id:Nat)
inductive PV where
 |e (x:E)
 |box (id off:Nat)
 |own (id:Nat)
 |qB (id sz i j:Nat)
 |jE (id k:Nat)
 |uD (f:FuncId) (cap:List CV)
def CV.qY:CV->List Nat
 | .e _=>[]
 | .box id=>[id]
def PV.qY:PV->List Nat
 | .e _=>[]
 | .box id _ | .own id | .qB id _ _ _ | .jE id _=>[id]
 | .uD _ cap=>cap.flatMap CV.qY
inductive Bx where
 |cells (T:TypeId) (l:List E)
 |row (nl:Bool) (T:TypeId) (n sz:Nat) (el:Nat->Nat->E)
 |lq (nl:Bool) (T1 T0:TypeId) (n sz:Nat) (len:Nat->Nat) (el:Nat->Nat->Nat->E) (pend:Option Nat)
def Bx.nl:Bx->Bool
 | .cells _ l=>l.all E.nL
 | .row nl ..=>nl
 | .lq nl ..=>nl
structure PS where
 n:Nat
 nl:Bool
 t:List (Nat×PV)
 b:List (Nat×Bx)
def look{α:Type}:List (Nat×α)->Nat->Option α
 | [],_=>none
 | (k,x)::l,t=>if Nat.beq k t then some x else look l t
def PS.get(σ:PS)(t:Nat):PV:=(look σ.t t).getD (.e .any)
def PS.bo(σ:PS)(id:Nat):Option Bx:=look σ.b id
def PS.op(σ:PS):Operand->PV
 | .tmp t=>σ.get t
 | .const v=>.e (.v v)
 | .global g=>.e (.v (.pointer (some ⟨g,0,none⟩)))
 | .func f=>.e (.fn f [])
inductive rL where
 |none
 |new (id:Nat) (b:Bx)
 |vj (id:Nat) (b:Bx)
 |rS (id:Nat) (b:Bx)
 |wX (id:Nat) (b:Bx)
 |fin (id:Nat)
structure lh where
 r:PV
 f:rL:=.none
 rb:List Nat:=[]
 ke:List Prop:=[]
 rd:List PV:=[]
def PV.qa:rL->PV->PV
 | .rS id _,.own i=>if Nat.beq i id then .e .any else .own i
 | .rS id _,.qB i s x j=>if Nat.beq i id then .e .any else .qB i s x j
 | .wX id _,.jE i k=>if Nat.beq i id then .e .any else .jE i k
 | .fin id,p=>if p.qY.any (Nat.beq id)then .e .any else p
 |_,p=>p
def EJ(l:List (Nat×Bx))(id:Nat)(b:Bx):List (Nat×Bx):=(id,b)::l.filter λx=>!Nat.beq x.1 id
def rL.Lx:rL->List (Nat×Bx)->List (Nat×Bx)
 | .none,l=>l
 | .new id b,l | .vj id b,l | .rS id b,l | .wX id b,l=>EJ l id b
 | .fin id,l=>l.filter λx=>!Nat.beq x.1 id
def rL.K0:rL->Bool
 | .rS .. | .wX .. | .fin ..=>true
 |_=>false
def PS.rf(σ:PS)(f:rL):PS:={ σ with t:=if f.K0 then σ.t.map λx=>(x.1,x.2.qa f)else σ.t,b:=f.Lx σ.b }
def PS.put(σ:PS)(d:Option Tmp)(p:PV):PS:=match d with
 |some d=>{ σ with t:=(d,p)::σ.t.filter λx=>!Nat.beq x.1 d }
 |none=>σ
def ku:IntKind->Int->Prop
 | .i8,z=>-128<=z/\z<=127
 | .i16,z=>-32768<=z/\z<=32767
 | .i32,z=>-2147483648<=z/\z<=2147483647
 | .i64,z=>-9223372036854775808<=z/\z<=9223372036854775807
 | .u8,z=>0<=z/\z<=255
 | .u16,z=>0<=z/\z<=65535
 | .u32,z=>0<=z/\z<=4294967295
 | .u64,z=>0<=z/\z<=18446744073709551615
def Yz(op:BinOp)(k k':IntKind):Bool:=match op with
 | .shl=>true
 | .shr=>true
 |_=>decide (k=k')
def Lm(k:IntKind)(x y:Int):Int:=match k with
 | .u32=>IntKind.u32.wrap (x+y)
 |_=>x+y
def qH(k:IntKind)(x y:Int):List Prop:=match k with
 | .u32=>[]
 |_=>[ku k (x+y)]
def Mg(op:BinOp)(k:IntKind)(x:Int)(y:Int):Option (Value×List Prop):=match op with
 | .add=>some (.int k (Lm k x y),qH k x y)
 | .sub=>some (.int k (x-y),[ku k (x-y)])
 | .mul=>some (.int k (x*y),[ku k (x*y)])
 | .quo=>some (.int k (x.tdiv y),[0<y,ku k x])
 | .rem=>some (.int k (x.tmod y),[0<y])
 | .and=>some (.int k (bits .and k x y),[])
 | .or=>some (.int k (bits .or k x y),[])
 | .shl=>some (.int k (k.wrap (x*2^y.toNat)),[0<=y/\y<=k.bits])
 | .shr=>some (.int k (x/2^y.toNat),[0<=y/\y<=k.bits])
 | .eql=>some (.bool (x==y),[])
 | .neq=>some (.bool (x != y),[])
 | .lss=>some (.bool (decide (x<y)),[])
 | .leq=>some (.bool (decide (x<=y)),[])
 | .gtr=>some (.bool (decide (y<x)),[])
 | .geq=>some (.bool (decide (y<=x)),[])
 |_=>none
def PS.read(σ:PS)(p:PV)(m:Nat):Option (List E×List Nat×List Prop):=match p with
 | .box id off=>match σ.bo id with
  |some (.cells _ l)=>if Nat.ble (off+m) l.length then some ((l.drop off).take m,[id],[])else none
  |_=>none
 | .qB id sz i j=>match σ.bo id with
  |some (.row _ _ n s el)=>if Nat.beq s sz&&Nat.ble (j+m) sz then some ((List.range m).map λq=>el i (j+q),[id],[i<n])else none
  |_=>none
 | .e (.kn k el)=>if Nat.ble m k then some ((List.range m).map el,[],[])else none
 |_=>none
def CV.ext(σ:PS):CV->Option (E×List Nat)
 | .e x=>some (x,[])
 | .box id=>match σ.bo id with
  |some (.cells _ l)=>some (.kn l.length λj=>l.getD j .any,[id])
  |_=>none
def xV(σ:PS):List CV->Option (List E×List Nat)
 | []=>some ([],[])
 |c::l=>match c.ext σ,xV σ l with
  |some (x,i),some (xs,is)=>some (x::xs,i++is)
  |_,_=>none
def PV.Ct:PV->Bool
 | .own _=>true
 |_=>false
def PV.ext(σ:PS):PV->Option (E×List Nat)
 | .e x=>some (x,[])
 | .own id=>match σ.bo id with
  |some (.row nl _ n sz el)=>some (.sl nl n sz el,[id])
  |_=>none
 | .box id 0=>match σ.bo id with
  |some (.cells _ l)=>some (.kn l.length λj=>l.getD j .any,[id])
  |_=>none
 | .uD f cap=>match xV σ cap with
  |some (xs,is)=>some (.fn f xs,is)
  |none=>none
 |_=>none
def vy(σ:PS):List Operand->Option (List E×List Nat)
 | []=>some ([],[])
 |o::l=>match(σ.op o).ext σ,vy σ l with
  |some (x,i),some (xs,is)=>some (x::xs,i++is)
  |_,_=>none
def y6:List PV->Option (List CV)
 | []=>some []
 | .e x::l=>(y6 l).map (.e x :: ·)
 | .box id 0::l=>(y6 l).map (.box id :: ·)
 |_::_=>none
def pt(w:World)(b:Nat):Prop:=∀ o x,w.cell? ⟨b,o,none⟩≠some (.int .u32 x)
structure PC(P:Program)(K:World->Prop)(f:FuncId)(args:List E)(ko:E):Prop where
 call:∀ (vs:Array Value) (w:World),(callFunc f vs).run P w = .ok (.enter f vs) w
 run:∀ (w:World) (B:Nat->Prop) (vs:List Value),K w->(∀ b,B b->b<w.heap.size/\pt w b)->kD B (λ_=>False) w args vs ->
  Calls P f vs.toArray w (λe w'=>∃ v,e = .returned v/\Below w.heap.size w w'/\iN B (λ_=>True) w' ko v)
structure BN(P:Program)(K:World->Prop)(f:FuncId)(args:List E)(ko:E):Prop where
 call:∀ (vs:Array Value) (w:World),(callFunc f vs).run P w = .ok (.enter f vs) w
 run:∀ (w:World) (B:Nat->Prop) (vs:List Value),K w->(∀ b,B b->b<w.heap.size)->kD B (λ_=>False) w args vs ->
  Calls P f vs.toArray w (λe w'=>∃ v,e = .returned v/\Below w.heap.size w w'/\iN B (λ_=>True) w' ko v)
def BN.pc{P:Program}{K:World->Prop}{f:FuncId}{args:List E}{ko:E}(h:BN P K f args ko):PC P K f args ko:=
 ⟨h.call,λw B vs hK hB hr=>h.run w B vs hK (λb hb=>(hB b hb).1) hr⟩
def qP(w:World)(v:Value)(T:TypeId)(n sz:Nat)(f:Nat->Nat->Value)(nl:Bool):Prop:=
 (v = .slice none 0 0/\n=0) \/
 ∃ (b c:Nat) (cur:Array Value),v = .slice (some ⟨b,0,none⟩) n c/\w.heap[b]? = some (.cells cur T (0,0))/\n<=c/\c<=maxLen/\cur.size=c*sz /\
  (∀ i j,i<n->j<sz->cur[i*sz+j]? = some (f i j)/\(f i j).oneCell'=true)/\(nl=true->∀ u,u ∈ cur->sR u=false)
structure vw(P:Program)(K:World->Prop)(f:FuncId)(args:List E)(nl:Bool)(T:TypeId)(n sz:Nat)(el:Nat->Nat->E):Prop where
 call:∀ (vs:Array Value) (w:World),(callFunc f vs).run P w = .ok (.enter f vs) w
 run:∀ (w:World) (B:Nat->Prop) (vs:List Value),K w->(∀ b,B b->b<w.heap.size/\pt w b)->kD B (λ_=>False) w args vs ->
  Calls P f vs.toArray w (λe w'=>∃ v,e = .returned v/\Below w.heap.size w w'/\∃ g,qP w' v T n sz g nl/\(∀ x,v.ownBlock=some x->w.heap.size<=x/\x<w'.heap.size) /\
   ∀ i j,i<n->j<sz->iN (λb=>B b\/v.ownBlock=some b) (λ_=>True) w' (el i j) (g i j)/\(el i j).nr 2=true)
structure qE where
 cl:List (Nat×E):=[]
 ov:List (Nat×PV):=[]
 nw:List (Nat×Bx):=[]
def GK(T:List TI):List Field->Option (List (Nat×Nat))
 | []=>some []
 |f::fs=>match mY T f.type,GK T fs with
  |some ti,some l=>some ((f.offset,ti.i.size)::l)
  |_,_=>none
def Bt(l:List E)(off:Nat)(m:List E):List E:=l.take off++m++l.drop (off+m.length)
def sn(σ:PS)(place:Nat->Option (Nat×Nat)):List E->List (Nat×Operand)->Option (List E)
 |l,[]=>some l
 |l,(i,x)::ps=>match place i,σ.op x with
  |some (off,size),.e e=>match e.cells? with
   |some m=>if Nat.beq m.length size&&Nat.ble (off+m.length) l.length then sn σ place (Bt l off m) ps else none
   |none=>none
  |_,_=>none
def AE(ti:TI):Option (List E):=match ti.i.zero with
 |some z=>(E.v z).cells?
 |none=>none
def lQ{α:Type}:Nat->List α->List α
 | 0,_=>[]
 |n+1,l=>l++lQ n l
def nn(P:Program)(op:BinOp)(t:TypeId)(x y:E)(v:Value):Prop:=∀ (bs br:Nat->Prop) (w:World) (a b:Value) (ox oy:Operand),iN bs br w x a->iN bs br w y b->(eqGuard op t ox oy a b).run P w = .ok () w/\(binOp op t a b).run P w = .ok v w
def afw(O:qE)(d:Option Tmp):Option Value:=match d with
 |some d=>match look O.cl d with
  |some (.v v)=>some v
  |_=>none
 |none=>none
def AU(P:Program)(K:World->Prop)(O:qE)(σ:PS)(d:Option Tmp)(f:FuncId)(xs:List E)(is:List Nat)(ow:Bool):Option lh:=
 match(match d with
  |some d=>look O.cl d
  |none=>some .any)with
 |some ko=>if ko.plain 3||(σ.nl && !ow)then some { r:=.e ko,rb:=is,ke:=[PC P K f xs ko] }else if !ow then some { r:=.e ko,rb:=is,ke:=[BN P K f xs ko] }else none
 |none=>match d with
  |some d=>match look O.nw d,σ.bo d with
   |some (.row nl T n sz el),none=>if(σ.nl&&nl) && !ow then some { r:=.own d,f:=.new d (.row nl T n sz el),rb:=is,ke:=[vw P K f xs nl T n sz el] }else none
   |_,_=>none
  |none=>none
def xv(σ:PS)(d:Option Tmp)(b:Bx)(r:Nat->PV)(ke:List Prop):Option lh:=match d with
 |some d=>match σ.bo d with
  |none=>if !σ.nl||b.nl then some { r:=r d,f:=.new d b,ke:=ke }else none
  |some _=>none
 |none=>none
def AT(T:List TI)(σ:PS)(d:Option Tmp)(t:TypeId)(s x:PV):Option lh:=match x with
 | .e (.sl nl2 m sz2 el2)=>match mY T t with
  |some tt=>match tt.d with
   | .slice e=>match mY T e with
    |some te=>match AE te with
     |some z=>if Nat.beq te.i.size sz2&&Nat.ble 1 sz2&&Nat.ble 1 te.i.bytes&&Nat.beq z.length sz2 then match s with
      | .own id=>match σ.bo id with
       |some (.row nl T1 n sz el)=>if Nat.beq T1 e&&Nat.beq sz sz2&&(!σ.nl||(nl&&(nl2&&z.all E.nL)))then
        some { r:=.own id,f:=.rS id (.row (nl&&(nl2&&z.all E.nL)) T1 (n+m) sz λi j=>if i<n then el i j else el2 (i-n) j),rb:=[id],ke:=[(n+m)*te.i.bytes<=140737488355328] }
        else none
       |_=>none
      | .jE id k=>match σ.bo id with
       |some (.lq nl T1 T0 n sz len el none)=>if Nat.beq T0 e&&Nat.beq sz sz2&&(!nl||(nl2&&z.all E.nL))then
        some { r:=.jE id k,f:=.wX id (.lq nl T1 T0 n sz (λq=>if q=k then len q+m else len q) (λq i j=>if q=k then(if i<len q then el q i j else el2 (i-len q) j)else el q i j) (some k)),rb:=[id],ke:=[k<n,(len k+m)*te.i.bytes<=140737488355328] }
        else none
       |_=>none
      | .e (.v (.slice none 0 0))=>xv σ d (.row (nl2&&z.all E.nL) e m sz2 el2) .own [m*te.i.bytes<=140737488355328]
      |_=>none
     else none
     |none=>none
    |none=>none
   |_=>none
  |none=>none
 |_=>none
def B2(T:List TI)(σ:PS)(d:Option Tmp)(t:TypeId)(s x:PV):Option lh:=match AT T { σ with nl:=false } d t s x with
 |some u=>match u.f,u.r with
  | .rS id (.row nl _ n sz el),.own id'=>if Nat.beq id' id then some { r:=.e (.sl nl n sz el),f:=.fin id,rb:=u.rb,ke:=True::u.ke }else none
  |_,_=>none
 |none=>none
def SS(T:List TI)(t:TypeId)(l c:PV):Option (Bx×List Prop):=match l,c with
 | .e (.v (.int _ l)),.e (.v (.int _ c))=>match mY T t with
  |some tt=>match tt.d with
   | .slice e=>match mY T e with
    |some te=>match AE te with
     |some z=>if Nat.beq te.i.size z.length&&Nat.ble 1 te.i.size then
      let ke:=[0<=l/\l<=c,(te.i.bytes:Int)*c<=281474976710656/\c<=9223372036854775807]
      match te.d with
      | .slice e0=>match mY T e0,z with
       |some t0,[.v (.slice none 0 0)]=>some (.lq true e e0 l.toNat t0.i.size (λ_=>0) (λ_ _ _=>.any) none,ke)
       |_,_=>none
      |_=>some (.row (z.all E.nL) e l.toNat te.i.size (λ_ j=>z.getD j .any),ke)
      else none
     |none=>none
    |none=>none
   |_=>none
  |none=>none
 |_,_=>none
def IP(T:List TI)(σ:PS)(d:Option Tmp)(t:TypeId)(l c:PV):Option lh:=match SS T t l c with
 |some (b,ke)=>xv σ d b .own ke
 |none=>none
def IQ(T:List TI)(t:TypeId)(x:PV)(lo hi:Option PV):Option lh:=match x with
 | .e (.sl nl n sz el)=>match mY T t with
  |some tt=>match tt.d with
   | .slice e=>match mY T e with
    |some te=>if Nat.beq te.i.size sz then match lo,hi with
     |none,some (.e (.v (.int _ h)))=>some { r:=.e (.sl nl h.toNat sz el),ke:=[0<=h/\h<=n] }
     |some (.e (.v (.int _ l))),none=>some { r:=.e (.sl nl (n-l.toNat) sz λi j=>el (l.toNat+i) j),ke:=[0<=l/\l<=n] }
     |some (.e (.v (.int _ l))),some (.e (.v (.int _ h)))=>some { r:=.e (.sl nl (h.toNat-l.toNat) sz λi j=>el (l.toNat+i) j),ke:=[0<=l/\l<=h/\h<=n] }
     |_,_=>none
     else none
    |none=>none
   |_=>none
  |none=>none
 |_=>none
def IM(T:List TI)(σ:PS)(t:TypeId)(x i:PV):Option lh:=match i with
 | .e (.v (.int _ z))=>match mY T t with
  |some tt=>match tt.d with
   | .slice e=>match mY T e with
    |some te=>match x with
     | .e (.sl _ n sz el)=>if Nat.beq te.i.size sz&&Nat.ble 1 sz then some { r:=.e (.kn sz (el z.toNat)),ke:=[0<=z/\z<n] }else none
     | .own id=>match σ.bo id with
      |some (.row _ _ n sz _)=>if Nat.beq te.i.size sz then some { r:=.qB id sz z.toNat 0,rb:=[id],ke:=[0<=z/\z<n] }else none
      |some (.lq _ _ _ n _ _ _ _)=>if Nat.beq te.i.size 1 then some { r:=.qB id 1 z.toNat 0,rb:=[id],ke:=[0<=z/\z<n] }else none
      |_=>none
     |_=>none
    |none=>none
   | .array n e=>match mY T e with
    |some te=>match x with
     | .box id off=>some { r:=.box id (off+z.toNat*te.i.size),ke:=[0<=z/\z<n] }
     | .e (.kn m el)=>if Nat.beq (n*te.i.size) m then some { r:=.e (.kn te.i.size λj=>el (z.toNat*te.i.size+j)),ke:=[0<=z/\z<n] }else none
     |_=>none
    |none=>none
   |_=>none
  |none=>none
 |_=>none
def IS(T:List TI)(σ:PS)(t:TypeId)(a x:PV):Option lh:=match mY T t with
 |some ti=>match a,x with
  | .box id off,.e e=>match σ.bo id,e.cells? with
   |some (.cells T1 l),some m=>if Nat.beq m.length ti.i.size&&Nat.ble (off+m.length) l.length&&(!σ.nl||m.all E.nL)then
    some { r:=.e .any,f:=.vj id (.cells T1 (Bt l off m)),rb:=[id] }else none
   |_,_=>none
  | .qB id sz i j,.e e=>match σ.bo id,e.cells? with
   |some (.row nl T1 n s el),some m=>if Nat.beq m.length ti.i.size&&Nat.beq s sz&&Nat.ble (j+m.length) sz&&(!nl||m.all E.nL)&&m.all (E.nr 2)then
    some { r:=.e .any,f:=.vj id (.row nl T1 n s λi' j'=>if i'=i/\j<=j'/\j'<j+m.length then m.getD (j'-j) .any else el i' j'),rb:=[id],ke:=[i<n] }else none
   |_,_=>none
  | .qB id 1 i 0,.jE id' k=>match σ.bo id with
   |some (.lq nl T1 T0 n sz len el (some k'))=>if Nat.beq id id'&&Nat.beq ti.i.size 1 then
    some { r:=.e .any,f:=.vj id (.lq nl T1 T0 n sz len el none),rb:=[id],ke:=[i=k',k=k',k'<n] }else none
   |_=>none
  |_,_=>none
 |none=>none
def vK:PV->PS->Option (Value×List Nat)
 | .e (.sl _ n _ _),_=>some (.int .i64 (n:Int),[])
 | .e (.v (.slice _ n _)),_=>some (.int .i64 (n:Int),[])
 | .own id,σ=>match σ.bo id with
  |some (.row _ _ n _ _)=>some (.int .i64 (n:Int),[id])
  |some (.lq _ _ _ n _ _ _ _)=>some (.int .i64 (n:Int),[id])
  |_=>none
 |_,_=>none
def Gg(ti:TI):Option (List E×List Nat×List Prop)->Option lh
 |some (l,is,ke)=>if ti.isAgg then some { r:=.e (.agg l),rb:=is,ke:=ke }else match l with
  | [e]=>some { r:=.e e,rb:=is,ke:=ke }
  |_=>none
 |none=>none
def CY(σ:PS):PV->Option (Nat×Nat×Nat)
 | .qB id sz i j=>match σ.bo id with
  |some (.lq _ _ _ n _ _ _ none)=>if Nat.beq sz 1&&Nat.beq j 0 then some (id,i,n)else none
  |_=>none
 |_=>none
def IN(T:List TI)(σ:PS)(t:TypeId)(p:PV):Option lh:=match mY T t with
 |some ti=>match CY σ p with
  |some (id,i,n)=>if ti.isAgg then none else some { r:=.jE id i,rb:=[id],ke:=[i<n] }
  |none=>Gg ti (σ.read p ti.i.size)
 |none=>none
def Ie(O:qE):Option Tmp->Bool
 |some d=>(look O.nw d).isSome
 |none=>false
def yE:List (Int×FuncId×List FuncId)->Int->Option E
 | [],_=>none
 |x::l,z=>if x.1=z then some (.fn x.2.1 (x.2.2.map λg=>.kn 1 λ_=>.fn g []))else yE l z
def afv(O:qE):Option Tmp->Option E
 |some d=>look O.cl d
 |none=>none
def jN(P:Program)(K:World->Prop)(T:List TI)(O:qE)(σ:PS)(o:Oper):Option lh:=match o.op with
 | .move x=>some { r:=σ.op x }
 | .assign x=>some { r:=σ.op x }
 | .pick c a b=>match σ.op c with
  | .e (.v (.bool true))=>some { r:=σ.op a }
  | .e (.v (.bool false))=>some { r:=σ.op b }
  |_=>none
 | .alloc t=>match mY T t with
  |some ti=>match AE ti with
   |some z=>xv σ o.dst (.cells t z) (.box · 0) []
   |none=>none
  |none=>none
 | .box t x=>match σ.op x with
  | .e e=>match e.cells? with
   |some l=>xv σ o.dst (.cells t l) (.box · 0) []
   |none=>none
  |_=>none
 | .build t ps=>match mY T t with
  |some ti=>match AE ti with
   |some z=>match ti.d with
    | .struct fs=>match GK T fs.toList with
     |some pl=>(sn σ (λi=>pl[i]?) z ps.toList).map λl=>{ r:=.e (.agg l) }
     |none=>none
    | .array _ e=>match mY T e with
     |some te=>(sn σ (λi=>some (i*te.i.size,te.i.size)) z ps.toList).map λl=>{ r:=.e (.agg l) }
     |none=>none
    |_=>none
   |none=>none
  |none=>none
 | .buildSlice t n ps=>match mY T t with
  |some tt=>match tt.d with
   | .slice e=>match mY T e with
    |some te=>match AE te with
     |some z=>if Nat.beq z.length te.i.size&&Nat.ble 1 te.i.size&&Nat.ble (n*te.i.size) 16777216 then
      (sn σ (λi=>some (i*te.i.size,te.i.size)) (lQ n z) ps.toList).bind λl=>
       if !(l.all (E.nr 2))then none else if Ie O o.dst then xv σ o.dst (.row (l.all E.nL) e n te.i.size λi j=>l.getD (i*te.i.size+j) (.v (.bool false))) .own [True]
       else if l.all E.nL then some { r:=.e (.sl true n te.i.size λi j=>l.getD (i*te.i.size+j) (.v (.bool false))) }
       else some { r:=.e (.sl false n te.i.size λi j=>l.getD (i*te.i.size+j) (.v (.bool false))) }
      else none
     |none=>none
    |none=>none
   |_=>none
  |none=>none
 | .load t a=>IN T σ t (σ.op a)
 | .store t a x=>IS T σ t (σ.op a) (σ.op x)
 | .nilCheck x=>match σ.op x with
  | .box id off=>some { r:=.box id off }
  | .e (.kn m el)=>some { r:=.e (.kn m el) }
  | .e (.fn f c)=>some { r:=.e (.fn f c) }
  | .uD f c=>some { r:=.uD f c }
  |_=>none
 | .binOp op t x y _=>match σ.op x,σ.op y with
  | .e (.v (.int k a)),.e (.v (.int k' b))=>
   if Yz op k k' then(Mg op k a b).map λr=>{ r:=.e (.v r.1),ke:=r.2 }else none
  | .e (.v (.bool a)),.e (.v (.bool b))=>match wU T t with
   |some .bool=>match op with
    | .eql=>some { r:=.e (.v (.bool (a==b))) }
    | .neq=>some { r:=.e (.v (.bool (!(a==b)))) }
    |_=>none
   |_=>none
  | .e (.sl _ n _ _),.e (.v (.slice none 0 0))=>match wU T t with
   |some (.slice _)=>match op with
    | .eql=>some { r:=.e (.v (.bool false)),ke:=[0<n] }
    | .neq=>some { r:=.e (.v (.bool true)),ke:=[0<n] }
    |_=>none
   |_=>none
  | .e a,.e b=>match afw O o.dst with
   |some v=>some { r:=.e (.v v),ke:=[nn P op t a b v] }
   |none=>none
  |_,_=>none
 | .unOp op _ x=>match op,σ.op x with
  | .not,.e (.v (.bool b))=>some { r:=.e (.v (.bool (!b))) }
  | .neg,.e (.v (.int k z))=>some { r:=.e (.v (.int k (0-z))),ke:=[ku k (0-z)] }
  |_,_=>none
 | .convert src dst x=>match wU T dst,mY T src,σ.op x with
  |some (.int k),some _,.e (.v (.int _ z))=>some { r:=.e (.v (.int k (k.wrap z))) }
  |_,_,_=>none
 | .makeFunc (.func f) first cap=>if first.isEmpty then match y6 (cap.toList.map σ.op)with
  |some l=>some { r:=.uD f l }
  |none=>none
  else none
 | .makeSlice t l c=>IP T σ o.dst t (σ.op l) (σ.op c)
 | .slice t x lo hi none=>IQ T t (σ.op x) (lo.map σ.op) (hi.map σ.op)
 | .fieldAddr t x f=>match wU T t with
  |some (.struct fs)=>match fs[f]? with
   |some fd=>match mY T fd.type with
    |some ft=>if Nat.beq ft.i.size 0 then none else match σ.op x with
     | .box id off=>some { r:=.box id (off+fd.offset) }
     | .qB id sz i j=>some { r:=.qB id sz i (j+fd.offset) }
     | .e (.kn m el)=>if Nat.ble fd.offset m then some { r:=.e (.kn (m-fd.offset) λj=>el (fd.offset+j)) }else none
     |_=>none
    |none=>none
   |none=>none
  |_=>none
 | .indexAddr t x i=>IM T σ t (σ.op x) (σ.op i)
 | .index t x i=>match σ.op x,σ.op i with
  | .e (.agg l),.e (.v (.int _ z))=>match mY T t with
   |some tt=>match tt.d with
    | .array n e=>match mY T e with
     |some te=>if te.isAgg&&Nat.beq (n*te.i.size) l.length then some { r:=.e (.agg ((l.drop (z.toNat*te.i.size)).take te.i.size)),ke:=[0<=z/\z<n] }else none
     |none=>none
    |_=>none
   |none=>none
  |_,_=>none
 | .field t x f=>match σ.op x,wU T t with
  | .e (.agg l),some (.struct fs)=>match fs[f]? with
   |some fd=>match mY T fd.type with
    |some ft=>if ft.isAgg then none else match l[fd.offset]? with
     |some e=>some { r:=.e e }
     |none=>none
    |none=>none
   |none=>none
  |_,_=>none
 | .lookup t x i false=>match σ.op x,σ.op i,wU T t with
  | .e (.mp l),.e (.v (.int .i64 z)),some (.map k _)=>match wU T k,afv O o.dst with
   |some (.int .i64),some e=>some { r:=.e e,ke:=[yE l z=some e] }
   |_,_=>none
  |_,_,_=>none
 | .extract x i=>match σ.op x with
  | .e (.iC l)=>match l[i]? with
   |some e=>some { r:=.e e }
   |none=>none
  |_=>none
 | .call c=>match c.callee with
  | .builtin .len=>match c.args.toList,c.argTypes.toList with
   | [x],[t]=>match wU T t with
    |some (.slice _)=>(vK (σ.op x) σ).map λr=>{ r:=.e (.v r.1),rb:=r.2 }
    |_=>none
   |_,_=>none
  | .builtin .append=>match c.args.toList,c.argTypes.toList with
   | [s,x],[t,t']=>if Nat.beq t t' then(if Ie O o.dst then B2 T σ o.dst t (σ.op s) (σ.op x)else AT T σ o.dst t (σ.op s) (σ.op x))else none
   |_,_=>none
  | .builtin .max=>match c.args.toList.map σ.op with
   | [.e (.v (.int k a)),.e (.v (.int _ b))]=>some { r:=.e (.v (.int k (if b>a then b else a))) }
   | [.e (.v (.int k a)),.e (.v (.int _ b)),.e (.v (.int _ z))]=>some { r:=.e (.v (.int k (if z>(if b>a then b else a)then z else(if b>a then b else a)))) }
   |_=>none
  | .builtin .min=>match c.args.toList.map σ.op with
   | [.e (.v (.int k a)),.e (.v (.int _ b))]=>some { r:=.e (.v (.int k (if b<a then b else a))) }
   |_=>none
  | .value f=>match σ.op f,vy σ c.args.toList with
   | .e (.fn g cap),some (xs,is)=>AU P K O σ o.dst g (xs++cap) is ((c.args.toList.map σ.op).any PV.Ct)
   | .uD g cap,some (xs,is)=>match xV σ cap with
    |some (ys,js)=>AU P K O σ o.dst g (xs++ys) (is++js) ((c.args.toList.map σ.op).any PV.Ct)
    |none=>none
   |_,_=>none
  |_=>none
 |_=>none
structure Lk where
 oW:Nat->Prop
 own:Nat->Nat->Prop
 val:Nat->Value
 jE:Nat->Nat->Value
def ky(L:Lk)(x:Nat):Prop:=∃ id,L.own id x
def jM(B:Nat->Prop)(L:Lk)(x:Nat):Prop:=B x\/ky L x
def yX(bs br:Nat->Prop)(L:Lk)(w:World):CV->Value->Prop
 | .e x,v=>iN bs br w x v
 | .box id,v=>L.oW id/\∃ b,L.val id = .pointer (some ⟨b,0,none⟩)/\v = .pointer (some ⟨b,0,none⟩)
def ot(bs br:Nat->Prop)(L:Lk)(w:World):PV->Value->Prop
 | .e x,v=>iN bs br w x v
 | .box id off,v=>L.oW id/\∃ b,L.val id = .pointer (some ⟨b,0,none⟩)/\v = .pointer (some ⟨b,off,none⟩)
 | .own id,v=>L.oW id/\v=L.val id
 | .qB id sz i j,v=>L.oW id/\∃ b n c,L.val id = .slice (some ⟨b,0,none⟩) n c/\v = .pointer (some ⟨b,i*sz+j,none⟩)
 | .jE id k,v=>L.oW id/\v=L.jE id k
 | .uD f cap,v=>∃ vs:List Value,v = .func (.func f) #[] vs.toArray/\vs.length=cap.length/\∀ (i:Nat) (c:CV) (x:Value),cap[i]? = some c->vs[i]? = some x->yX bs br L w c x
def PV.le(p q:PV):Prop:=∀ (bs br:Nat->Prop) (L:Lk) (w:World) (v:Value),ot bs br L w p v->ot bs br L w q v
abbrev aj(a b:E):Prop:=PV.le (.e a) (.e b)
def uG(P:Program)(K:World->Prop)(T:List TI)(O:qE)(σ:PS)(o:Oper):Option lh:=match jN P K T O σ o with
 |some u=>match o.dst with
  |some d=>match look O.ov d with
   |some p=>some { u with r:=p,ke:=PV.le u.r p::u.ke }
   |none=>some u
  |none=>some u
 |none=>none
def AD(ib:Array Oper)(σ:PS)(o:Oper):Option Bool:=match o.guard with
 |none=>some true
 |some (j,want)=>match(ib[j]?).bind (·.dst)with
  |some t=>match σ.get t with
   | .e (.v (.bool true))=>some want
   | .e (.v (.bool false))=>some (!want)
   | .e (.v (.tuple _))=>some false
   |_=>none
  |none=>none
def PS.app(σ:PS)(d:Option Tmp)(u:lh):PS:=(σ.rf u.f).put d u.r
def wh(σ:PS):Option Tmp->Bool
 |some d=>Nat.blt d σ.n
 |none=>true
def GF:Op->List Operand
 | .move x | .assign x | .box _ x | .load _ x | .nilCheck x | .unOp _ _ x | .convert _ _ x | .fieldAddr _ x _ | .field _ x _ | .extract x _=>[x]
 | .pick c a b=>[c,a,b]
 | .build _ ps | .buildSlice _ _ ps=>ps.toList.map (·.2)
 | .store _ a v | .binOp _ _ a v _ | .makeSlice _ a v | .indexAddr _ a v | .index _ a v | .lookup _ a v _=>[a,v]
 | .makeFunc _ first captured=>first.toList++captured.toList
 | .slice _ x l h m=>x::(l.toList++h.toList++m.toList)
 | .call c=>(match c.callee with | .value f=>[f] | .invoke r _=>[r] | .builtin _=>[])++c.args.toList
 |_=>[]
def ES:List Operand->List Tmp
 | []=>[]
 | .tmp t::l=>t::ES l
 |_::l=>ES l
def looks(ib:Array Oper)(o:Oper):List Tmp:=ES (GF o.op)++(match o.guard with
 |some (g,_)=>((ib[g]?).bind (·.dst)).toList
 |none=>[])
def rz(P:Program)(K:World->Prop)(T:List TI)(O:qE)(ib:Array Oper)(σ:PS)(o:Oper):Option lh:=
 if wh σ o.dst then match AD ib σ o with
  |some true=>match uG P K T O σ o with
   |some u=>some { u with rd:=(looks ib o).map σ.get }
   |none=>none
  |some false=>some { r:=.e (.v (.tuple #[])),rd:=(looks ib o).map σ.get }
  |none=>none
 else none
def MY(l:List Nat)(n:Nat):Bool:=l.any (Nat.beq n)
def rL.id:rL->Option Nat
 | .none=>Option.none
 | .new i _ | .vj i _ | .rS i _ | .wX i _ | .fin i=>some i
def zZ:rL->PV->Bool
 | .rS id _,.own i=>!Nat.beq i id
 | .rS id _,.qB i _ _ _=>!Nat.beq i id
 | .wX id _,.jE i _=>!Nat.beq i id
 | .fin id,p=>!p.qY.any (Nat.beq id)
 |_,_=>true
def El(l:List Nat):Option Nat->Bool
 |some d=>!MY l d
 |none=>true
def KT:Option Nat->Option Nat->Bool
 |some a,some b=>!Nat.beq a b
 |_,_=>true
def Oz:PV->Bool
 | .e .any=>false
 |_=>true
def Cr(ib:Array Oper)(x y:Oper×lh):Bool:=
 El (looks ib y.1) x.1.dst&&KT x.1.dst y.1.dst&&El (looks ib x.1) y.1.dst &&
 El y.2.rb x.2.f.id&&El x.2.rb y.2.f.id&&KT x.2.f.id y.2.f.id&&zZ x.2.f y.2.r&&zZ y.2.f x.2.r &&
 (!x.2.f.K0||y.2.rd.all Oz)&&x.2.rd.all (zZ y.2.f)
def Cs(o:Oper)(i:Nat):Bool:=o.after.toList.any λe=>Region.binds .any e&&Nat.beq e.on i
def BA(ib:Array Oper):Nat->Oper->Nat->Bool
 | 0,o,i=>Cs o i
 |n+1,o,i=>Cs o i||o.after.toList.any λe=>Region.binds .any e&&(match ib[e.on]? with
  |some z=>BA ib n z i
  |none=>false)
def Eo(ib:Array Oper):Nat->List (Oper×lh)->Bool
 |_,[]=>true
 |i,x::l=>x.1.after.toList.all (λe=>!Region.binds .any e||Nat.blt e.on i)&&l.all (λy=>BA ib 3 y.1 i||Cr ib x y)&&Eo ib (i+1) l
def KM(σ:PS):PV->Option E
 | .e x=>if x.nr 3 then some x else none
 | .own id=>match σ.bo id with
  |some (.row nl _ n sz el)=>some (.sl nl n sz el)
  |some (.lq nl _ _ n sz len el none)=>some (.sl true n 1 λk _=>.sl nl (len k) sz (el k))
  |_=>none
 |_=>none
def Ps(T:List TI)(σ:PS):ResultVar->Option E
 | .tmp t=>KM σ (σ.get t)
 | .cell a t=>match mY T t with
  |some ti=>match σ.read (σ.get a) ti.i.size with
   |some (l,_,[])=>if ti.isAgg then(if(E.agg l).nr 3 then some (.agg l)else none)else match l with
    | [e]=>if e.nr 3 then some e else none
    |_=>none
   |_=>none
  |none=>none
def EB(T:List TI)(σ:PS):List ResultVar->Option (List E)
 | []=>some []
 |x::l=>match Ps T σ x,EB T σ l with
  |some e,some es=>some (e::es)
  |_,_=>none
def Kq(T:List TI)(fn:Func)(σ:PS):Option E:=match EB T σ fn.results.toList with
 |some [e]=>some e
 |some l=>some (.iC l)
 |none=>none
inductive Ex where
 |normal
 |exit (id:Nat)
 |ret
def Fy:Code->Nat
 | .region id _ _=>id
 | .seq a _=>Fy a
 | .cond _ a _=>Fy a
 | .block _ b=>Fy b
 | .loop b=>Fy b
 |_=>0
def F6:Nat->List E->List (Nat×PV)
 |_,[]=>[]
 |i,x::l=>(i,.e x)::F6 (i+1) l
def Bi(fn:Func)(nl:Bool)(args:List E):PS:={ n:=fn.ntmps,nl:=nl,t:=F6 0 args,b:=[] }
def ns{a b:Nat}:Nat.beq a b=true↔a=b:=⟨Nat.eq_of_beq_eq_true,λh=>by subst h;exact dX a⟩
def dY{a b:Nat}(h:a≠b):Nat.beq a b=false:=by
 cases hb:Nat.beq a b with
 |false=>rfl
 |true=>exact absurd (ns.1 hb) h
def ui{α:Type}(k:Nat)(x:α)(l:List (Nat×α))(t:Nat):look ((k,x)::l) t=if k=t then some x else look l t:=by
 by_cases h:k=t
 .subst h;simp[look]
 .simp [look,h,dY h]
def Gh{α:Type}(l:List (Nat×α))(d t:Nat)(h:d≠t):look (l.filter λx=>!Nat.beq x.1 d) t=look l t:=by
 induction l with
 |nil=>rfl
 |cons y l ih=>
  obtain⟨k,x⟩:=y;rw[List.filter_cons];by_cases hk:k=d
  .subst hk;simp only[dX,fJ,bS,bJ];rw[ih,ui,bu h]
  .simp only[dY hk,eO,bQ];rw[ui,ui,ih]
def VO{α:Type}(l:List (Nat×α))(f:α->α)(t:Nat):look (l.map λx=>(x.1,f x.2)) t=(look l t).map f:=by
 induction l with
 |nil=>rfl
 |cons y l ih=>
  obtain⟨k,x⟩:=y;rw[fK,ui,ui,ih];split<;>rfl
def PS.MC(σ:PS)(d:Nat)(p:PV)(t:Nat):(σ.put (some d) p).get t=if d=t then p else σ.get t:=by
 unfold PS.get PS.put;simp only[ui];by_cases h:d=t
 .rw [bw h,bw h];rfl
 .rw [bu h,bu h,Gh _ _ _ h]
def PS.abG(σ:PS)(d:Option Tmp)(p:PV)(id:Nat):(σ.put d p).bo id=σ.bo id:=by cases d<;>rfl
def PS.On(σ:PS)(d:Option Tmp)(p:PV):(σ.put d p).n=σ.n:=by cases d<;>rfl
def PS.aiU(σ:PS)(d:Option Tmp)(p:PV):(σ.put d p).nl=σ.nl:=by cases d<;>rfl
def JQ(l:List (Nat×Bx))(id:Nat)(b:Bx)(t:Nat):look (EJ l id b) t=if id=t then some b else look l t:=by
 unfold EJ;rw[ui];by_cases h:id=t
 .rw [bw h,bw h]
 .rw [bu h,bu h,Gh _ _ _ h]
def VN{α:Type}(l:List (Nat×α))(d:Nat):look (l.filter λx=>!Nat.beq x.1 d) d=none:=by
 induction l with
 |nil=>rfl
 |cons y l ih=>
  obtain⟨k,x⟩:=y;rw[List.filter_cons];by_cases hk:k=d
  .subst hk;simpa only[dX,fJ,bS,bJ]using ih
  .simp only[dY hk,eO,bQ];rw[ui,bu hk,ih]
def Ob{α:Type}(l:List (Nat×α))(i id:Nat):look (l.filter λx=>!Nat.beq x.1 i) id=if i=id then none else look l id:=by
 by_cases h:i=id
 .subst h;rw[bw rfl];exact VN _ _
 .rw [bu h];exact Gh _ _ _ h
def PS.IZ(σ:PS)(f:rL)(t:Nat):(σ.rf f).get t=(σ.get t).qa f:=by
 unfold PS.get PS.rf;by_cases h:f.K0=true
 .simp only[h,bQ];rw[VO];cases look σ.t t with
  |none=>cases f<;>rfl
  |some p=>rfl
 .have hv:∀ p:PV,p.qa f=p:=by
   intro p;cases f<;>first|exact absurd rfl h|(cases p<;>rfl)
  simp only[h,hv];rfl
def se(bs br:Nat->Prop)(L:Lk)(w:World)(id:Nat):Bx->Prop
 | .cells T l=>∃ b vs,L.val id = .pointer (some ⟨b,0,none⟩)/\(∀ x,L.own id x↔x=b)/\w.heap[b]? = some (.cells vs.toArray T (0,0))/\kD bs br w l vs/\∀ u,u ∈ vs->u.oneCell'=true
 | .row nl T n sz el=>∃ f:Nat->Nat->Value,qP w (L.val id) T n sz f nl/\(∀ x,L.own id x↔(L.val id).ownBlock=some x)/\∀ i j,i<n->j<sz->iN bs br w (el i j) (f i j)/\(el i j).nr 2=true
 | .lq nl T1 T0 n sz len el pend=>∃ (b c:Nat) (cur:Array Value) (f:Nat->Nat->Nat->Value),L.val id = .slice (some ⟨b,0,none⟩) n c/\w.heap[b]? = some (.cells cur T1 (0,0))/\n<=c/\c<=maxLen/\cur.size=c /\
  (∀ k,k<n->pend≠some k->cur[k]? = some (L.jE id k))/\(∀ u,u ∈ cur->u.oneCell'=true/\sR u=false) /\
  (∀ k,k<n->qP w (L.jE id k) T0 (len k) sz (f k) nl/\∀ i j,i<len k->j<sz->iN bs br w (el k i j) (f k i j)/\(el k i j).nr 2=true) /\
  (∀ x,L.own id x↔x=b\/∃ k,k<n/\(L.jE id k).ownBlock=some x) /\
  (∀ k k' x,k<n->k'<n->(L.jE id k).ownBlock=some x->(L.jE id k').ownBlock=some x->k=k')/\(∀ k,k<n->(L.jE id k).ownBlock≠some b)
structure jI(w0:World)(B:Nat->Prop)(σ:PS)(a:Act)(w:World)(L:Lk):Prop where
 hd:a.defers=[]
 hs:a.tmps.size=σ.n
 ht:∀ t,ot (jM B L) (ky L) L w (σ.get t) (a.tmps.getD t undef)
 hb:∀ id b,σ.bo id=some b->se (jM B L) (ky L) L w id b
 hv:∀ id,L.oW id↔(σ.bo id).isSome=true
 hn:∀ id x,L.own id x->L.oW id
 hw:∀ id x,L.own id x->w0.heap.size<=x/\x<w.heap.size
 hi:∀ id id' x,L.own id x->L.own id' x->id=id'
 he:Below w0.heap.size w0 w
 hl:σ.nl=true->∀ id b,σ.bo id=some b->b.nl=true
structure tM(L:Lk)(w:World)(L':Lk)(w':World):Prop where
 size:w.heap.size<=w'.heap.size
 ky:∀ x,x<w.heap.size->Pu.ky L' x->Pu.ky L x
 qk:∀ x,x<w.heap.size->¬Pu.ky L x->w'.heap[x]? = w.heap[x]?
def tM.lQ{B:Nat->Prop}{L L':Lk}{w w':World}(h:tM L w L' w'){e:E}{v:Value}(k:iN (jM B L) (Pu.ky L) w e v):iN (jM B L') (Pu.ky L') w' e v:=by
 refine k.mono h.size (λb hb hx=>?_) (λb hb hx=>h.ky b hb hx) (λb hb ub=>h.qk b hb ?_)
 .rcases hx with hx|hx
  .exact .inl hx
  .exact .inr (h.ky b hb hx)
 .rcases ub with ub|ub
  .exact λhm=>ub (.inr hm)
  .exact ub
def qP.block{w w':World}{v:Value}{T:TypeId}{n sz:Nat}{f:Nat->Nat->Value}{nl:Bool}(h:qP w v T n sz f nl)
 (hk:∀ x,v.ownBlock=some x->w'.heap[x]? = w.heap[x]?):qP w' v T n sz f nl:=by
 rcases h with h|⟨b,c,cur,rfl,hg,r⟩
 .exact .inl h
 .exact .inr ⟨b,c,cur,rfl,by rw[hk b rfl];exact hg,r⟩
def se.later{B:Nat->Prop}{L L':Lk}{w w':World}(h:tM L w L' w'){id:Nat}{b:Bx}(k:se (jM B L) (ky L) L w id b)
 (hv:L'.val id=L.val id) (ho:∀ x,L'.own id x↔L.own id x) (mN:∀ j,L'.jE id j=L.jE id j) (hk:∀ x,L.own id x->w'.heap[x]? = w.heap[x]?):se (jM B L') (ky L') L' w' id b:=by
 cases b with
 |cells T l=>
  obtain⟨b,vs,h1,h2,h3,h4,h5⟩:=k;exact⟨b,vs,by rw[hv];exact h1,λx=>(ho x).trans (h2 x),by rw[hk b ((h2 b).2 rfl)];exact h3,h4.mono λ_ _=>h.lQ,h5⟩
 |row nl T n sz el=>
  obtain⟨f,h1,h2,h3⟩:=k;exact⟨f,by rw[hv];exact h1.block λx hx=>hk x ((h2 x).2 hx),λx=>by rw[ho,hv];exact h2 x,λi j hi hj=>⟨h.lQ (h3 i j hi hj).1,(h3 i j hi hj).2⟩⟩
 |lq nl T1 T0 n sz len el pend=>
  obtain⟨b,c,cur,f,h1,h2,h3,h4,h5,h6,h7,h8,h9,uH,vQ⟩:=k;have e:L'.jE id=L.jE id:=funext mN;refine⟨b,c,cur,f,by rw[hv];exact h1,by rw[hk b ((h9 b).2 (.inl rfl))];exact h2,h3,h4,h5,by rw[e];exact h6,h7,?_,?_,by rw[e];exact uH,by rw[e];exact vQ⟩
  .intro k Jh;obtain⟨q1,q2⟩:=h8 k Jh;rw[e];exact⟨q1.block λx hx=>hk x ((h9 x).2 (.inr ⟨k,Jh,hx⟩)),λi j hi hj=>⟨h.lQ (q2 i j hi hj).1,(q2 i j hi hj).2⟩⟩
  .intro x;rw[ho,e];exact h9 x
def yX.later{B:Nat->Prop}{L L':Lk}{w w':World}(h:tM L w L' w'){c:CV}{v:Value}(k:yX (jM B L) (ky L) L w c v)
 (hv:∀ id,L.oW id->L'.oW id/\L'.val id=L.val id):yX (jM B L') (ky L') L' w' c v:=by
 cases c with
 |e x=>exact h.lQ k
 |box id=>obtain⟨k1,b,k2,k3⟩:=k;exact⟨(hv id k1).1,b,by rw[(hv id k1).2];exact k2,k3⟩
def ot.later{B:Nat->Prop}{L L':Lk}{w w':World}(h:tM L w L' w'){p:PV}{v:Value}(k:ot (jM B L) (ky L) L w p v)
 (hv:∀ id,L.oW id->L'.oW id/\L'.val id=L.val id/\∀ j,L'.jE id j=L.jE id j):ot (jM B L') (ky L') L' w' p v:=by
 cases p with
 |e x=>exact h.lQ k
 |box id off=>obtain⟨k1,b,k2,k3⟩:=k;exact⟨(hv id k1).1,b,by rw[(hv id k1).2.1];exact k2,k3⟩
 |own id=>obtain⟨k1,k2⟩:=k;exact⟨(hv id k1).1,by rw[(hv id k1).2.1];exact k2⟩
 |qB id sz i j=>obtain⟨k1,b,n,c,k2,k3⟩:=k;exact⟨(hv id k1).1,b,n,c,by rw[(hv id k1).2.1];exact k2,k3⟩
 |jE id q=>obtain⟨k1,k2⟩:=k;exact⟨(hv id k1).1,by rw[(hv id k1).2.2];exact k2⟩
 |uD f cap=>
  obtain⟨vs,k1,k2,k3⟩:=k;exact⟨vs,k1,k2,λi c x hc hx=>(k3 i c x hc hx).later h λid hl=>⟨(hv id hl).1,(hv id hl).2.1⟩⟩
def jI.later{w0:World}{B:Nat->Prop}{σ:PS}{a:Act}{w w':World}{L:Lk}(r:jI w0 B σ a w L)(h:Below w.heap.size w w'):jI w0 B σ a w' L:=by
 have hl:tM L w L w':=⟨h.size,λ_ _ h=>h,λx hx _=>h.block x hx⟩
 refine⟨r.hd,r.hs,λt=>(r.ht t).later hl λid k=>⟨k,rfl,λ_=>rfl⟩,λid b hb=>(r.hb id b hb).later hl rfl (λ_=>Iff.rfl) (λ_=>rfl) λx hx=>h.block x (r.hw id x hx).2,r.hv,r.hn,
  λid x hx=>⟨(r.hw id x hx).1,bW (r.hw id x hx).2 h.size⟩,r.hi,r.he.trans (h.mono r.he.size),r.hl⟩
def jI.drew{w0:World}{B:Nat->Prop}{σ:PS}{a:Act}{w:World}{L:Lk}(r:jI w0 B σ a w L):jI w0 B σ a w.drew L:=r.later (Below.refl _ _).drew
def jI.put{w0:World}{B:Nat->Prop}{σ:PS}{a:Act}{w:World}{L:Lk}(r:jI w0 B σ a w L)(d:Option Tmp)(p:PV)(v:Value)(hd:wh σ d=true)(hp:ot (jM B L) (ky L) L w p v):jI w0 B (σ.put d p) (a.put d v) w L:=by
 cases d with
 |none=>exact r
 |some d=>
  have B8:d<σ.n:=by simpa[wh,Nat.blt_eq]using hd
  refine⟨r.hd,by simp[Act.put,r.hs,PS.On],λt=>?_,λid b hb=>r.hb id b hb,r.hv,r.hn,r.hw,r.hi,r.he,r.hl⟩;rw[PS.MC];by_cases h:d=t
  .subst h;rw[bw rfl];have:(a.put (some d) v).tmps.getD d undef=v:=by
    simp[Act.put,aqs,r.hs,B8]
   rw[this];exact hp
  .rw [bu h];have:(a.put (some d) v).tmps.getD t undef=a.tmps.getD t undef:=by
    simp[Act.put,apX h]
   rw[this];exact r.ht t
def jI.op{w0:World}{B:Nat->Prop}{σ:PS}{a:Act}{w:World}{L:Lk}(r:jI w0 B σ a w L)(x:Operand):ot (jM B L) (ky L) L w (σ.op x) (a.eval x):=by
 cases x with
 |tmp t=>exact r.ht t
 |const v=>exact .v v
 |global g=>exact .v _
 |func f=>exact .fn f [] [] rfl (λi p x h=>by simp at h)
def Lk.set(L:Lk)(id:Nat)(O:Nat->Prop)(v:Value)(jE:Nat->Value):Lk:=
 {oW:=λi=>i=id\/L.oW i
  own:=λi x=>if i=id then O x else L.own i x
  val:=λi=>if i=id then v else L.val i
  jE:=λi=>if i=id then jE else L.jE i }
section
variable {L:Lk} {id:Nat} {O:Nat->Prop} {v:Value} {jE:Nat->Value}
def Lk.sZ(x:Nat):(L.set id O v jE).own id x↔O x:=by simp[Lk.set]
def Lk.pQ:(L.set id O v jE).val id=v:=by simp[Lk.set]
def Lk.sc(k:Nat):(L.set id O v jE).jE id k=jE k:=by simp[Lk.set]
def Lk.BE:(L.set id O v jE).oW id:=.inl rfl
def Lk.BF{i:Nat}(h:i≠id)(x:Nat):(L.set id O v jE).own i x↔L.own i x:=by simp[Lk.set,h]
def Lk.BG{i:Nat}(h:i≠id):(L.set id O v jE).val i=L.val i:=by simp[Lk.set,h]
def Lk.G9{i:Nat}(h:i≠id)(k:Nat):(L.set id O v jE).jE i k=L.jE i k:=by simp[Lk.set,h]
end
structure si(L:Lk)(w:World)(id:Nat)(O:Nat->Prop)(w':World):Prop where
 own:∀ x,O x->(L.own id x\/w.heap.size<=x)/\x<w'.heap.size
 size:w.heap.size<=w'.heap.size
 qk:∀ x,x<w.heap.size->¬L.own id x->w'.heap[x]? = w.heap[x]?
 os:w'.os=w.os
 tape:w'.tape=w.tape
 output:w'.output=w.output
def si.later{L:Lk}{w:World}{id:Nat}{O:Nat->Prop}{w':World}(h:si L w id O w')(v:Value)(jE:Nat->Value):tM L w (L.set id O v jE) w':=by
 refine⟨h.size,λx hx hm=>?_,λx hx hm=>h.qk x hx λho=>hm ⟨id,ho⟩⟩;obtain⟨i,hi⟩:=hm;by_cases e:i=id
 .subst e;rcases(h.own x ((Lk.sZ x).1 hi)).1 with k|k
  .exact ⟨i,k⟩
  .omega
 .exact ⟨i,(Lk.BF e x).1 hi⟩
def jI.set{w0:World}{B:Nat->Prop}{σ:PS}{a:Act}{w:World}{L:Lk}(r:jI w0 B σ a w L)(id:Nat)(b':Bx)(O:Nat->Prop)(v:Value)(jE:Nat->Value)(w':World)(f:rL)
 (hf:f.Lx σ.b=EJ σ.b id b') (ht:si L w id O w')
 (hB:se (jM B (L.set id O v jE)) (ky (L.set id O v jE)) (L.set id O v jE) w' id b')
 (hT:∀ p v0,ot (jM B L) (ky L) L w p v0->ot (jM B (L.set id O v jE)) (ky (L.set id O v jE)) (L.set id O v jE) w' (p.qa f) v0)
 (kx:σ.nl=true->b'.nl=true):jI w0 B (σ.rf f) a w' (L.set id O v jE):=by
 have hl:=ht.later v jE;have kq:∀ i,(σ.rf f).bo i=if id=i then some b' else σ.bo i:=by
  intro i;show look (f.Lx σ.b) i=_;rw[hf,JQ];rfl
 have rV:Below w0.heap.size w w':=⟨ht.os,ht.tape,ht.output,ht.size,λx hx=>ht.qk x (bW hx r.he.size) λho=>by have:=(r.hw id x ho).1;omega⟩
 refine⟨r.hd,r.hs,λt=>?_,λi b hb=>?_,λi=>?_,λi x hx=>?_,λi x hx=>?_,λi j x hi hj=>?_,r.he.trans rV,λJm i b hb=>?_⟩
 .rw [PS.IZ];exact hT _ _ (r.ht t)
 .rw [kq]at hb;by_cases e:id=i
  .subst e;rw[bw rfl]at hb;cases hb;exact hB
  .rw [bu e]at hb;have e':i≠id:=λh=>e h.symm
   exact(r.hb i b hb).later hl (Lk.BG e') (Lk.BF e') (Lk.G9 e') λx hx=>ht.qk x (r.hw i x hx).2 λho=>e (r.hi id i x ho hx)
 .rw [kq];by_cases e:id=i
  .subst e;rw[bw rfl];simp[Lk.set]
  .rw [bu e];have e':i≠id:=λh=>e h.symm
   simp only[Lk.set,e',false_or];exact r.hv i
 .by_cases e:i=id
  .exact .inl e
  .exact .inr (r.hn i x ((Lk.BF e x).1 hx))
 .by_cases e:i=id
  .subst e;obtain⟨k1,k2⟩:=ht.own x ((Lk.sZ x).1 hx);refine⟨?_,k2⟩;rcases k1 with k1|k1
   .exact (r.hw i x k1).1
   .exact bG r.he.size k1
  .have:=r.hw i x ((Lk.BF e x).1 hx);exact⟨this.1,bW this.2 ht.size⟩
 .by_cases e1:i=id
  .by_cases e2:j=id
   .rw [e1,e2]
   .have k2:=(Lk.BF e2 x).1 hj;subst e1;rcases(ht.own x ((Lk.sZ x).1 hi)).1 with k|k
    .exact r.hi _ _ x k k2
    .have:=(r.hw j x k2).2;omega
  .have k1:=(Lk.BF e1 x).1 hi;by_cases e2:j=id
   .subst e2;rcases(ht.own x ((Lk.sZ x).1 hj)).1 with k|k
    .exact r.hi _ _ x k1 k
    .have:=(r.hw i x k1).2;omega
   .exact r.hi _ _ x k1 ((Lk.BF e2 x).1 hj)
 .rw [kq]at hb;by_cases e:id=i
  .rw [bw e]at hb;cases hb;exact kx Jm
  .rw [bu e]at hb;exact r.hl Jm i b hb
def jI.new{w0:World}{B:Nat->Prop}{σ:PS}{a:Act}{w:World}{L:Lk}(r:jI w0 B σ a w L)(id:Nat)(b':Bx)(O:Nat->Prop)(v:Value)(jE:Nat->Value)(w':World)
 (nm:σ.bo id=none) (hO:∀ x,O x->w.heap.size<=x/\x<w'.heap.size) (hb:Below w.heap.size w w')
 (hB:se (jM B (L.set id O v jE)) (ky (L.set id O v jE)) (L.set id O v jE) w' id b')
 (kx:(!σ.nl||b'.nl)=true):jI w0 B (σ.rf (.new id b')) a w' (L.set id O v jE):=by
 have Uf:¬L.oW id:=λh=>by have:=(r.hv id).1 h;rw[nm]at this;simp at this
 have ht:si L w id O w':=⟨λx hx=>⟨.inr (hO x hx).1,(hO x hx).2⟩,hb.size,λx hx _=>hb.block x hx,hb.os,hb.tape,hb.output⟩
 refine r.set id b' O v jE w' (.new id b') rfl ht hB (λp v0 hp=>?_) (λh=>by simpa[h]using kx);have lL:∀ {i},L.oW i->i≠id:=λh e=>Uf (e▸h)
 have:p.qa (.new id b')=p:=by cases p<;>rfl
 rw[this];exact hp.later (ht.later v jE) λi hi=>⟨.inr hi,Lk.BG (lL hi),λj=>Lk.G9 (lL hi) j⟩
def jI.vj{w0:World}{B:Nat->Prop}{σ:PS}{a:Act}{w:World}{L:Lk}(r:jI w0 B σ a w L)(id:Nat)(b':Bx)(w':World)
 (vX:L.oW id) (ht:si L w id (L.own id) w')
 (hB:se (jM B (L.set id (L.own id) (L.val id) (L.jE id))) (ky (L.set id (L.own id) (L.val id) (L.jE id))) (L.set id (L.own id) (L.val id) (L.jE id)) w' id b')
 (kx:σ.nl=true->b'.nl=true):jI w0 B (σ.rf (.vj id b')) a w' (L.set id (L.own id) (L.val id) (L.jE id)):=by
 refine r.set id b' _ _ _ w' (.vj id b') rfl ht hB (λp v0 hp=>?_) kx;have:p.qa (.vj id b')=p:=by cases p<;>rfl
 rw[this];refine hp.later (ht.later _ _) λi hi=>⟨.inr hi,?_,λj=>?_⟩
 .by_cases e:i=id
  .subst e;exact Lk.pQ
  .exact Lk.BG e
 .by_cases e:i=id
  .subst e;exact Lk.sc j
  .exact Lk.G9 e j
def jI.rS{w0:World}{B:Nat->Prop}{σ:PS}{a:Act}{w:World}{L:Lk}(r:jI w0 B σ a w L)(id:Nat)(b':Bx)(O:Nat->Prop)(v:Value)(w':World)
 (hp:∀ b,L.val id ≠ .pointer (some b)) (ht:si L w id O w')
 (hB:se (jM B (L.set id O v (L.jE id))) (ky (L.set id O v (L.jE id))) (L.set id O v (L.jE id)) w' id b')
 (kx:σ.nl=true->b'.nl=true):jI w0 B (σ.rf (.rS id b')) a w' (L.set id O v (L.jE id)):=by
 have hl:=ht.later v (L.jE id);refine r.set id b' O v (L.jE id) w' (.rS id b') rfl ht hB (λp v0 qt=>?_) kx;have agw:∀ i j,(L.set id O v (L.jE id)).jE i j=L.jE i j:=λi j=>by
  by_cases e:i=id
  .subst e;exact Lk.sc j
  .exact Lk.G9 e j
 cases p with
 |e x=>exact hl.lQ qt
 |box i off=>
  obtain⟨k1,b,k2,k3⟩:=qt;have e:i≠id:=λe=>by subst e;exact hp _ k2
  exact⟨.inr k1,b,by rw[Lk.BG e];exact k2,k3⟩
 |own i=>
  by_cases e:i=id
  .subst e;simp only[PV.qa,dX,bQ];exact .any _
  .simp only[PV.qa,dY e,bS,bJ];exact⟨.inr qt.1,by rw[Lk.BG e];exact qt.2⟩
 |qB i s x j=>
  by_cases e:i=id
  .subst e;simp only[PV.qa,dX,bQ];exact .any _
  .simp only[PV.qa,dY e,bS,bJ];obtain⟨k1,b,n,c,k2,k3⟩:=qt;exact⟨.inr k1,b,n,c,by rw[Lk.BG e];exact k2,k3⟩
 |jE i k=>exact⟨.inr qt.1,by rw[agw];exact qt.2⟩
 |uD f cap=>
  obtain⟨vs,k1,k2,k3⟩:=qt;refine⟨vs,k1,k2,λi c x hc hx=>?_⟩;have hk:=k3 i c x hc hx;cases c with
  |e y=>exact hl.lQ hk
  |box q=>
   obtain⟨q1,b,q2,q3⟩:=hk;have e:q≠id:=λe=>by subst e;exact hp _ q2
   exact⟨.inr q1,b,by rw[Lk.BG e];exact q2,q3⟩
def jI.wX{w0:World}{B:Nat->Prop}{σ:PS}{a:Act}{w:World}{L:Lk}(r:jI w0 B σ a w L)(id:Nat)(b':Bx)(O:Nat->Prop)(jE:Nat->Value)(w':World)
 (ht:si L w id O w')
 (hB:se (jM B (L.set id O (L.val id) jE)) (ky (L.set id O (L.val id) jE)) (L.set id O (L.val id) jE) w' id b')
 (kx:σ.nl=true->b'.nl=true):jI w0 B (σ.rf (.wX id b')) a w' (L.set id O (L.val id) jE):=by
 have hl:=ht.later (L.val id) jE;refine r.set id b' O (L.val id) jE w' (.wX id b') rfl ht hB (λp v0 qt=>?_) kx;have lP:∀ i,(L.set id O (L.val id) jE).val i=L.val i:=λi=>by
  by_cases e:i=id
  .subst e;exact Lk.pQ
  .exact Lk.BG e
 cases p with
 |e x=>exact hl.lQ qt
 |box i off=>obtain⟨k1,b,k2,k3⟩:=qt;exact⟨.inr k1,b,by rw[lP];exact k2,k3⟩
 |own i=>exact⟨.inr qt.1,by rw[lP];exact qt.2⟩
 |qB i s x j=>obtain⟨k1,b,n,c,k2,k3⟩:=qt;exact⟨.inr k1,b,n,c,by rw[lP];exact k2,k3⟩
 |jE i k=>
  by_cases e:i=id
  .subst e;simp only[PV.qa,dX,bQ];exact .any _
  .simp only[PV.qa,dY e,bS,bJ];exact⟨.inr qt.1,by rw[Lk.G9 e];exact qt.2⟩
 |uD f cap=>
  obtain⟨vs,k1,k2,k3⟩:=qt;refine⟨vs,k1,k2,λi c x hc hx=>(k3 i c x hc hx).later hl λj hj=>⟨.inr hj,lP j⟩⟩
structure Qk(w:World)(v:Value)(T:TypeId)(n sz m:Nat)(f g:Nat->Nat->Value)(nl:Bool)(v':Value)(w':World):Prop where
 own:qP w' v' T (n+m) sz (λi j=>if i<n then f i j else g (i-n) j) nl
 Lw:∀ x,v'.ownBlock=some x->v.ownBlock=some x\/(w.heap.size<=x/\x<w'.heap.size)
 size:w.heap.size<=w'.heap.size
 qk:∀ x,x<w.heap.size->v.ownBlock≠some x->w'.heap[x]? = w.heap[x]?
 os:w'.os=w.os
 tape:w'.tape=w.tape
 output:w'.output=w.output
def oP(n sz:Nat)(f:Nat->Nat->Value):List Value:=(List.range (n*sz)).map λq=>f (q/sz) (q%sz)
def vO(n sz:Nat)(f:Nat->Nat->Value):(oP n sz f).length=n*sz:=by simp[oP]
def Mw{n sz:Nat}{f:Nat->Nat->Value}{i j:Nat}(hi:i<n)(hj:j<sz):(oP n sz f)[i*sz+j]? = some (f i j):=by
 have h1:i*sz+j<n*sz:=by
  have:=bX sz (show i+1<=n from hi);rw[ct,ck]at this;omega
 have h2:(i*sz+j)/sz=i:=by rw[bK,dG aE,cF hj,bT]
 have h3:(i*sz+j)%sz=j:=by rw[bK,dZ,bU hj]
 simp[oP,h1,h2,h3]
def IV{n sz:Nat}{f:Nat->Nat->Value}{q:Nat}{u:Value}(h:(oP n sz f)[q]? = some u):q/sz<n/\q%sz<sz/\u=f (q/sz) (q%sz)/\q/sz*sz+q%sz=q:=by
 unfold oP at h;rw[cQ]at h;obtain⟨x,hx,rfl⟩:=dg.1 h;obtain⟨h1,h2⟩:=cH.1 hx;simp at h1 h2;subst h2;have hz:0<sz:=by
  rcases eP sz with h0|h0
  .subst h0;simp at h1
  .exact h0
 exact⟨(cA hz).2 h1,bM _ hz,rfl,by rw[bK];exact cG q sz⟩
def qP.row{w:World}{v:Value}{T:TypeId}{n sz:Nat}{f:Nat->Nat->Value}{nl:Bool}(h:qP w v T n sz f nl):w.ownsRow 0 T sz v n (oP n sz f):=by
 rcases h with⟨rfl,rfl⟩|⟨b,c,cur,rfl,hg,qs,oI,oz,mf,_⟩
 .exact ⟨vO _ _ _,.inl ⟨rfl,rfl⟩⟩
 .refine ⟨vO _ _ _,.inr ⟨b,c,cur,rfl,cj _,hg,qs,oI,oz,?_⟩⟩;apply gp;intro q;by_cases hq:q<n*sz
  .have hz:0<sz:=by
    rcases eP sz with h0|h0
    .subst h0;simp at hq
    .exact h0
   have h1:q/sz<n:=(cA hz).2 hq;have h2:=bM q hz;have h3:q/sz*sz+q%sz=q:=by rw[bK];exact cG q sz
   have h4:=(mf _ _ h1 h2).1;have h5:=Mw (f:=f) h1 h2;rw[h3]at h4 h5;rw[eK,bw hq,h5];simpa using h4
  .rw [eK,bu hq,cC (by rw[vO];omega)]
def amj(P:Program)(w:World)(t ty e:TypeId)(i:TypeInfo)(z:Value)(sz:Nat)(ht:P.underlying t=some (.slice e))(hi:P.info? e=some i)(hz:i.zero=some z)
 (yp:i.size=sz) (U3:z.cells.size=sz) (lW:0<sz) (jQ:1<=i.bytes) (apu:∀ u,u ∈ z.cells->u.oneCell'=true)
 (v:Value) (n:Nat) (f:Nat->Nat->Value) (nl:Bool) (pd:qP w v e n sz f nl)
 (A:Option Addr) (m c:Nat) (g:Nat->Nat->Value) (hA:∀ k j,k<m->j<sz->∃ b o,A=some ⟨b,o,none⟩/\w.cell? ⟨b,o+(k*sz+j),none⟩=some (g k j)) (uI:A=none->m=0)
 (h1:∀ k j,k<m->j<sz->(g k j).oneCell'=true/\(nl=true->sR (g k j)=false)) (U2:nl=true->∀ u,u ∈ z.cells->sR u=false)
 (Ub:(n+m)*i.bytes<=140737488355328):
 ∃ v' w',(Builtin.append_ #[t,t] ty #[v,.slice A m c]).run P w = .ok v' w'/\Qk w v e n sz m f g nl v' w':=by
 have hle:n+m<=(n+m)*i.bytes:=gO _ jQ;have MD:n+m<=maxLen:=by unfold maxLen;omega
 have yh:∀ i j,i<n+m->j<sz->(oP n sz f++oP m sz g)[i*sz+j]? = some (if i<n then f i j else g (i-n) j):=by
  intro i j hi hj;by_cases mN:i<n
  .rw [bw mN,dK,Mw mN hj];rw[vO];have:=bX sz (show i+1<=n from mN);rw[ct,ck]at this;omega
  .rw [bu mN,fc,vO]
   .have:i*sz+j-n*sz=(i-n)*sz+j:=by
     have:=Nat.sub_mul i n sz;have:=bX sz (aE:n<=i);omega
    rw[this,Mw aE hj]
   .rw [vO];have:=bX sz (aE:n<=i);omega
 have zK:∀ i j,i<n+m->j<sz->(if i<n then f i j else g (i-n) j).oneCell'=true:=by
  intro i j hi hj;split
  .rename_i mN;rcases pd with⟨_,h0⟩|⟨b,c,cur,_,_,_,_,_,hc,_⟩
   .omega
   .exact (hc i j mN hj).2
  .rename_i mN;exact(h1 (i-n) j aE hj).1
 have h1':∀ u ∈ oP m sz g,u.oneCell'=true:=by
  intro u hu;obtain⟨q,hq⟩:=dJ.1 hu;obtain⟨q1,q2,rfl,_⟩:=IV hq;exact(h1 _ _ q1 q2).1
 have gnl:nl=true->∀ u,u ∈ oP m sz g->sR u=false:=by
  intro hn u hu;obtain⟨q,hq⟩:=dJ.1 hu;obtain⟨q1,q2,rfl,_⟩:=IV hq;exact(h1 _ _ q1 q2).2 hn
 rcases A with _|ad
 .have hm:=uI rfl;subst hm;rcases pd with⟨rfl,rfl⟩|⟨b,cc,cur,rfl,hg,qs,oI,oz,mf,kx⟩
  .refine ⟨.slice none 0 0,w,?_,.inl ⟨rfl,rfl⟩,λx hx=>.inl hx,bC _,λ_ _ _=>rfl,rfl,rfl,rfl⟩;simp[Builtin.append_,run_underlying ht,sizeOf,typeInfo,hi,Builtin.lenOf,Builtin.firstCells,loadCells,loadCellsFrom]
  .refine ⟨.slice (some ⟨b,0,none⟩) n cc,w,?_,.inr ⟨b,cc,cur,rfl,hg,qs,oI,oz,?_,kx⟩,λx hx=>.inl hx,bC _,λ_ _ _=>rfl,rfl,rfl,rfl⟩
   .simp [Builtin.append_,run_underlying ht,sizeOf,typeInfo,hi,Builtin.lenOf,Builtin.firstCells,qs,storeCells]
   .intro i j hi hj;have mN:i<n:= aE ;simp only[mN,bQ];exact mf i j mN hj
 .have No:∀ j u,(oP m sz g)[j]? = some u->w.cell? (ad.add j)=some u:=by
   intro q u hq;obtain⟨q1,q2,rfl,q4⟩:=IV hq;obtain⟨b,o,e,hc⟩:=hA _ _ q1 q2;cases e;rw[q4]at hc;rw[show(⟨b,o,none⟩:Addr).add q=⟨b,o+q,none⟩from Addr.add_lit _ _ _];exact hc
  rcases pd with⟨rfl,rfl⟩|⟨b,cc,cur,rfl,hg,qs,oI,oz,mf,kx⟩
  .by_cases hm:m=0
   .subst hm;refine⟨.slice none 0 0,w,?_,.inl ⟨rfl,rfl⟩,λx hx=>.inl hx,bC _,λ_ _ _=>rfl,rfl,rfl,rfl⟩;simp[Builtin.append_,run_underlying ht,sizeOf,typeInfo,hi,Builtin.lenOf,Builtin.firstCells,loadCells,loadCellsFrom]
   .have hr:=run_append_nil (P:=P) w t ty e i z ht hi hz ad m c (oP m sz g) (by rw[vO,yp]) No aE (by unfold maxLen at MD;omega) (by have hb:=Ub;simp only[cD]at hb;omega);have rB:=grownCap_ge w m 0 e;have oI:grownCap w m 0 e<=maxLen:=grownCap_le_maxLen w m 0 e aE;refine⟨_,_,hr,.inr ⟨w.heap.size,_,_,aK,heap_alloc_new w.drew _,aE,oI,?_,?_,?_⟩,λx hx=>.inr ?_,aK,λx hx _=>Below.heap_alloc w.drew _ x hx,rfl,rfl,rfl⟩
    .simp only[apY,gq,size_zeroCells,U3,vO,<-ct];congr 1;omega
    .intro i j hi hj;have:=yh i j hi hj;refine⟨?_,zK i j hi hj⟩;simp only[oP,cP,List.range_zero,List.map_nil,List.nil_append]at this;rw[<-this,aqt]
     .simp [oP]
     .obtain ⟨q,_⟩:=cH.1 this;simpa[oP]using q
    .intro hn u hu;rcases fL.1 hu with hu|hu
     .exact gnl hn u (by simpa using hu)
     .simp only[Builtin.zeroCells,gv,gw]at hu;obtain⟨q,hq,rfl⟩:=hu;have iL:q%z.cells.size<z.cells.size:=bM _ aE;rw[fM z.cells _ iL];exact U2 hn _ (gP iL)
    .simp [Value.ownBlock]at hx;subst hx;simp
  .by_cases Nu:n+m<=cc
   .have A6:(oP m sz g).length=m*i.size:=by rw[vO,yp]
    have oQ:n*i.size+(oP m sz g).length<=cur.size:=by rw[A6,oz,yp,<-ct];exact bX _ Nu
    have hr:=run_append_room (P:=P) w t ty e i ht hi b n cc cur hg ad m c (oP m sz g) A6 No h1' Nu oQ;have FY:cur.toList.take (n*i.size)=oP n sz f:=by
     have xn:w.ownsRow 0 e sz (.slice (some ⟨b,0,none⟩) n cc) n (oP n sz f):=qP.row (nl:=nl) (.inr ⟨b,cc,cur,rfl,hg,qs,oI,oz,mf,kx⟩);rcases xn.2 with⟨hh,_⟩|⟨b',c',cur',hh,_,Uk,_,_,_,Bc⟩
     .cases hh
     .cases hh;rw[hg]at Uk;cases Uk;rw[yp];exact Bc
    refine⟨_,_,hr,.inr ⟨b,cc,_,rfl,setRow_heap w b cur _ e _ hg,Nu,oI,?_,?_,?_⟩,λx hx=>.inl hx,aK,λx hx lL=>setRow_other w b x _ (λq=>lL (by simp[Value.ownBlock,q])),rfl,rfl,rfl⟩
    .simp only[gq,cE,cJ,fe,ef];omega
    .intro k j hk hj;refine⟨?_,zK k j hk hj⟩;rw[FY,<-yh k j hk hj];have hq:k*sz+j<(oP n sz f++oP m sz g).length:=by
      obtain⟨q,_⟩:=cH.1 (yh k j hk hj);exact q
     rw[gQ,dK hq]
    .intro hn u hu;simp only[gR,er]at hu;rcases hu with(hu|hu)|hu
     .exact kx hn u (by have:=eW hu;simpa using this)
     .exact gnl hn u hu
     .exact kx hn u (by have:=fw hu;simpa using this)
   .have xn:w.ownsRow 0 e sz (.slice (some ⟨b,0,none⟩) n cc) n (oP n sz f):=qP.row (nl:=nl) (.inr ⟨b,cc,cur,rfl,hg,qs,oI,oz,mf,kx⟩);have holds:∀ j u,(oP n sz f)[j]? = some u->w.cell? ((⟨b,0,none⟩:Addr).add j)=some u:=xn.cells (g:=b) rfl;have hr:=run_append_grow (P:=P) w t ty e i z ht hi hz ⟨b,0,none⟩ n cc (oP n sz f) (by rw[vO,yp]) holds ad m c (oP m sz g) (by rw[vO,yp]) No aE (by unfold maxLen at MD;omega) (growslice_fits aE Ub);have rB:=grownCap_ge w (n+m) cc e;have agp:grownCap w (n+m) cc e<=maxLen:=grownCap_le_maxLen w (n+m) cc e MD;refine⟨_,_,hr,.inr ⟨w.heap.size,_,_,aK,heap_alloc_new w.drew _,aE,agp,?_,?_,?_⟩,λx hx=>.inr ?_,aK,λx hx _=>Below.heap_alloc w.drew _ x hx,rfl,rfl,rfl⟩
    .simp only[apY,gq,size_zeroCells,U3,vO,<-ct];congr 1;omega
    .intro k j hk hj;refine⟨?_,zK k j hk hj⟩;rw[<-yh k j hk hj];have hq:k*sz+j<(oP n sz f++oP m sz g).length:=by
      obtain⟨q,_⟩:=cH.1 (yh k j hk hj);exact q
     rw[aqt (by simpa using hq)];simp
    .intro hn u hu;rcases fL.1 hu with hu|hu
     .rcases fL.1 hu with hu|hu
      .obtain ⟨q,hq⟩:=dJ.1 (show u ∈ oP n sz f by simpa using hu);obtain⟨q1,q2,rfl,_⟩:=IV hq;exact kx hn _ (eh (mf _ _ q1 q2).1)
      .exact gnl hn u (by simpa using hu)
     .simp only[Builtin.zeroCells,gv,gw]at hu;obtain⟨q,hq,rfl⟩:=hu;have iL:q%z.cells.size<z.cells.size:=bM _ aE;rw[fM z.cells _ iL];exact U2 hn _ (gP iL)
    .simp [Value.ownBlock]at hx;subst hx;simp
def ot.move{B:Nat->Prop}{L L':Lk}{w:World}(h:tM L w L' w){p:PV}{v:Value}(k:ot (jM B L) (ky L) L w p v)
 (hv:∀ id,id ∈ p.qY->L.oW id->L'.oW id/\L'.val id=L.val id/\∀ j,L'.jE id j=L.jE id j):ot (jM B L') (ky L') L' w p v:=by
 cases p with
 |e x=>exact h.lQ k
 |box id off=>obtain⟨k1,b,k2,k3⟩:=k;have q:=hv id (by simp[PV.qY]) k1;exact⟨q.1,b,by rw[q.2.1];exact k2,k3⟩
 |own id=>obtain⟨k1,k2⟩:=k;have q:=hv id (by simp[PV.qY]) k1;exact⟨q.1,by rw[q.2.1];exact k2⟩
 |qB id sz i j=>obtain⟨k1,b,n,c,k2,k3⟩:=k;have q:=hv id (by simp[PV.qY]) k1;exact⟨q.1,b,n,c,by rw[q.2.1];exact k2,k3⟩
 |jE id r=>obtain⟨k1,k2⟩:=k;have q:=hv id (by simp[PV.qY]) k1;exact⟨q.1,by rw[q.2.2];exact k2⟩
 |uD f cap=>
  obtain⟨vs,k1,k2,k3⟩:=k;refine⟨vs,k1,k2,λi c x hc hx=>?_⟩;have q:=k3 i c x hc hx;cases c with
  |e y=>exact h.lQ q
  |box id=>
   obtain⟨q1,b,q2,q3⟩:=q;have r:=hv id (by simp only[PV.qY,fI];exact⟨.box id,eZ hc,by simp[CV.qY]⟩) q1;exact⟨r.1,b,by rw[r.2.1];exact q2,q3⟩
def aoL{id:Nat}{b:Bx}{p:PV}(h:p.qY.any (Nat.beq id)=false):p.qa (.rS id b)=p:=by
 cases p with
 |own i=>
  have:Nat.beq i id=false:=by
   simp only[PV.qY,apZ,List.any_nil,ap0]at h;exact dY λe=>by rw[e,dX]at h;cases h
  simp[PV.qa,this]
 |qB i s x j=>
  have:Nat.beq i id=false:=by
   simp only[PV.qY,apZ,List.any_nil,ap0]at h;exact dY λe=>by rw[e,dX]at h;cases h
  simp[PV.qa,this]
 |_=>rfl
def jI.fin{w0:World}{B:Nat->Prop}{σ:PS}{a:Act}{w:World}{L:Lk}{id:Nat}{nl:Bool}{T n sz:Nat}{el:Nat->Nat->E}(hB:∀ b,B b->b<w0.heap.size)
 (r:jI w0 B (σ.rf (.rS id (.row nl T n sz el))) a w L):∃ L',jI w0 B (σ.rf (.fin id)) a w L'/\iN (jM B L') (ky L') w (.sl nl n sz el) (L.val id):=by
 let L':Lk:=⟨λi=>L.oW i/\i≠id,λi x=>L.own i x/\i≠id,L.val,L.jE⟩
 have iL:tM L w L' w:=⟨bC _,λx _ ⟨i,h,_⟩=>⟨i,h⟩,λ_ _ _=>rfl⟩
 have w9:∀ i,(σ.rf (.fin id)).bo i=if i=id then none else(σ.rf (.rS id (.row nl T n sz el))).bo i:=by
  intro i;show look (σ.b.filter λx=>!Nat.beq x.1 id) i=if i=id then none else look (EJ σ.b id (.row nl T n sz el)) i
  rw[Ob,JQ];by_cases h:i=id
  .subst h;simp
  .rw [bu h,bu (λe=>h e.symm),bu (λe=>h e.symm)]
 have agm:(σ.rf (.rS id (.row nl T n sz el))).bo id=some (.row nl T n sz el):=by
  show look (EJ σ.b id (.row nl T n sz el)) id=_;rw[JQ,bw rfl]
 have yg:∀ x,L.own id x->¬jM B L' x:=by
  rintro x hx (h|⟨i,h1,h2⟩)
  .have:=hB x h;have:=(r.hw id x hx).1;omega
  .exact h2 (r.hi i id x h1 hx)
 have hold:iN (jM B L') (ky L') w (.sl nl n sz el) (L.val id):=by
  obtain⟨f,h1,h2,h3⟩:=r.hb id _ agm;rcases h1 with⟨h0,rfl⟩|⟨b,c,cur,h0,hg,qs,oI,oz,mf,kx⟩
  .rw [h0];exact .sl nl 0 sz el none 0 f (bC _) aG (λ_=>rfl) (λi j hi=>absurd hi (bO i)) (λi j hi=>absurd hi (bO i)) (λi j hi=>absurd hi (bO i)) (λi j hi=>absurd hi (bO i))
  .have rY:=(h2 b).2 (by rw[h0];rfl);rw[h0];refine .sl nl n sz el _ c f qs (by unfold maxLen at oI;omega) (λh=>by cases h) (λi j hi hj=>⟨(mf i j hi hj).2,λhn=>kx hn _ (eh (mf i j hi hj).1)⟩) (λi j hi hj=>(h3 i j hi hj).2)
    (λi j hi hj=>⟨b,0,rfl,yg b rY,(r.hw id b rY).2,?_⟩) (λi j hi hj=>iL.lQ (h3 i j hi hj).1)
   rw[cD];simp only[World.cell?,hg];simpa using(mf i j hi hj).1
 refine⟨L',⟨r.hd,r.hs,λt=>?_,λi b' h=>?_,λi=>?_,λi x h=>⟨r.hn i x h.1,h.2⟩,λi x h=>r.hw i x h.1,λi i' x h k=>r.hi i i' x h.1 k.1,r.he,λh i b' k=>?_⟩,hold⟩
 .have k:=r.ht t;rw[PS.IZ]at k ⊢;generalize σ.get t=p at k ⊢;show ot _ _ _ _ (if p.qY.any (Nat.beq id)then .e .any else p) _;cases hp:p.qY.any (Nat.beq id)with
  |true=>exact .any _
  |false=>
   rw[aoL hp]at k;refine ot.move iL k λi hi vX=>⟨⟨vX,?_⟩,rfl,λ_=>rfl⟩
   rintro rfl;have:=dx.1 hp i hi;simp at this
 .rw [w9]at h;split at h
  .cases h
  .rename_i hi;exact(r.hb i b' h).later iL rfl (λx=>⟨λq=>q.1,λq=>⟨q,hi⟩⟩) (λ_=>rfl) λ_ _=>rfl
 .rw [w9];show L.oW i/\i≠id↔_;by_cases hi:i=id
  .subst hi;simp
  .simp only[hi,dz,ff,and_true,bJ];exact r.hv i
 .rw [w9]at k;split at k
  .cases k
  .exact r.hl h i b' k
def ZL{T:List TI}{t:TypeId}{x:TI}(h:mY T t=some x):x ∈ T/\x.id=t:=by
 induction T with
 |nil=>cases h
 |cons y l ih=>
  unfold mY at h;split at h
  .rename_i hb;cases h;exact⟨aK,ns.1 hb⟩
  .obtain ⟨h1,h2⟩:=ih h;exact⟨by simp[h1],h2⟩
def na.qZ{P:Program}{T:List TI}(hT:na P T){t:TypeId}{x:TI}(h:mY T t=some x):P.underlying t=some x.d:=by
 obtain⟨h1,h2⟩:=ZL h;rw[<-h2];exact(hT x h1).1
def na.Bh{P:Program}{T:List TI}(hT:na P T){t:TypeId}{x:TI}(h:mY T t=some x):P.info? t=some x.i:=by
 obtain⟨h1,h2⟩:=ZL h;rw[<-h2];exact(hT x h1).2
def AS{T:List TI}{t:TypeId}{d:TypeDesc}(h:wU T t=some d):∃ x,mY T t=some x/\x.d=d:=by
 unfold wU at h;split at h
 .rename_i x hx;exact⟨x,hx,by simpa using h⟩
 .cases h
section
variable {P:Program} {T:List TI} (hT:na P T) (w:World)
include hT
def xE{t:TypeId}{x:TI}(h:mY T t=some x):(sizeOf t).run P w = .ok x.i.size w:=by
 simp[sizeOf,typeInfo,hT.Bh h]
def PH{t:TypeId}{x:TI}(h:mY T t=some x){z:Value}(hz:x.i.zero=some z):(zeroValue t).run P w = .ok z w:=by
 simp[zeroValue,typeInfo,hT.Bh h,hz]
def Ku{t:TypeId}{x:TI}(h:mY T t=some x):(isAgg t).run P w = .ok x.isAgg w:=by
 unfold isAgg TI.isAgg;rw[Sem.run_bind,run_underlying (hT.qZ h) w];cases x.d<;>simp
def Yx{t:TypeId}{x:TI}(h:mY T t=some x)(ha:x.isAgg=true)(b o:Nat)(vs:List Value)(hl:vs.length=x.i.size)
 (hc:∀ (j:Nat) (u:Value),vs[j]? = some u->w.cell? ⟨b,o+j,none⟩=some u):(loadVar t ⟨b,o,none⟩).run P w = .ok (.agg vs.toArray) w:=by
 have hr:=run_loadCells_list (P:=P) w ⟨b,o,none⟩ vs (λj v hv=>by rw[Addr.add_lit];exact hc j v hv);rw[hl]at hr;simp[loadVar,Ku hT w h,ha,xE hT w h,hr]
def PG{t:TypeId}{x:TI}(h:mY T t=some x)(ha:x.isAgg=false)(b o:Nat)(u:Value)(hc:w.cell? ⟨b,o,none⟩=some u):(loadVar t ⟨b,o,none⟩).run P w = .ok u w:=by
 simp[loadVar,Ku hT w h,ha,hc]
def Kv{t:TypeId}{x:TI}(h:mY T t=some x)(b o:Nat)(E:TypeId)(cur:Array Value)(hg:w.heap[b]? = some (.cells cur E (0,0)))(v:Value)(hl:v.cells.toList.length=x.i.size)
 (oQ:o+v.cells.toList.length<=cur.size) (h1:∀ u ∈ v.cells.toList,u.oneCell'=true):
 (storeVar t ⟨b,o,none⟩ v).run P w = .ok () (w.setRow b (cur.toList.take o++v.cells.toList++cur.toList.drop (o+v.cells.toList.length)).toArray):=by
 have hr:=run_storeCells_at P b o E v.cells.toList 0 cur w hg (by simpa using oQ) h1;simp only[bT]at hr;have qg:v.cells.size=x.i.size:=by simpa using hl
 simp only[storeVar,Sem.run_bind,xE hT w h,Result.andThen,qg,dz,ap1,bJ,hr,Sem.run_ite,Sem.run_pure]
end
def si.setRow{L:Lk}{w:World}{id b:Nat}(hb:L.own id b)(iL:∀ x,L.own id x->x<w.heap.size)(cs:Array Value):si L w id (L.own id) (w.setRow b cs):=
 ⟨λx hx=>⟨.inl hx,by simpa using iL x hx⟩,aK,λx _ lL=>setRow_other w b x cs (λe=>lL (e▸hb)),rfl,rfl,rfl⟩
def kA(P:Program)(K:World->Prop)(w0:World)(B:Nat->Prop)(σ:PS)(o:Oper)(a:Act)(w:World)(u:lh):Prop:=
 ∃ v w' L',((execOp a.eval o).run P w = .ok (.value v) w'\/((execOp a.eval o).run P w = .ok .skip w'/\v=undef))/\jI w0 B (σ.rf u.f) a w' L'/\ot (jM B L') (ky L') L' w' u.r v
section
variable {P:Program} {K:World->Prop} {w0:World} {B:Nat->Prop} {σ:PS} {o:Oper} {a:Act} {w:World} {L:Lk} {u:lh}
def kA.pure(r:jI w0 B σ a w L){v:Value}(mq:(execOp a.eval o).run P w = .ok (.value v) w)(hf:u.f = .none)(hp:ot (jM B L) (ky L) L w u.r v):kA P K w0 B σ o a w u:=
 ⟨v,w,L,.inl mq,by rw[hf];exact r,hp⟩
def jI.read(r:jI w0 B σ a w L){p:PV}{v:Value}(hp:ot (jM B L) (ky L) L w p v){m:Nat}{l:List E}{is:List Nat}{ke:List Prop}(h:σ.read p m=some (l,is,ke))(ho:∀ q,q ∈ ke->q):
 ∃ b q vs,v = .pointer (some ⟨b,q,none⟩)/\kD (jM B L) (ky L) w l vs/\vs.length=m/\∀ (j:Nat) (u:Value),vs[j]? = some u->w.cell? ⟨b,q+j,none⟩=some u:=by
 have tab:∀ (b q:Nat) (g:Nat->E) (f:Nat->Value),(∀ j,j<m->w.cell? ⟨b,q+j,none⟩=some (f j)/\iN (jM B L) (ky L) w (g j) (f j)) ->
  ∃ vs:List Value,kD (jM B L) (ky L) w ((List.range m).map g) vs/\vs.length=m/\∀ (j:Nat) (u:Value),vs[j]? = some u->w.cell? ⟨b,q+j,none⟩=some u:=by
  intro b q g f hc;refine⟨(List.range m).map f,⟨aK,λi p x hp hx=>?_⟩,aK,λj u hu=>?_⟩
  .rw [cQ]at hp hx;obtain⟨i1,yl,rfl⟩:=dg.1 hp;obtain⟨i2,xg,rfl⟩:=dg.1 hx;rw[yl]at xg;cases xg;obtain⟨iL,rfl⟩:=cH.1 yl;simp at iL;simpa using(hc i iL).2
  .rw [cQ]at hu;obtain⟨i1,yl,rfl⟩:=dg.1 hu;obtain⟨iL,rfl⟩:=cH.1 yl;simp at iL;simpa using(hc j iL).1
 cases p with
 |box id off=>
  simp only[PS.read]at h;split at h
  .rename_i T l0 kq;split at h
   .rename_i hle;simp only[cg,cK]at h;obtain⟨rfl,rfl,rfl⟩:=h;obtain⟨b,vs,h1,h2,h3,h4,h5⟩:=r.hb id _ kq;obtain⟨_,b',k2,rfl⟩:=hp;rw[h1]at k2;cases k2;have DU:=dk hle;refine⟨b,off,(vs.drop off).take m,rfl,(h4.drop off).take m,by simp[h4.len];omega,λj u hu=>?_⟩;rw[eK]at hu;split at hu
    .rw [e9]at hu;simp only[World.cell?,h3];simpa using hu
    .cases hu
   .cases h
  .cases h
 |qB id sz i j=>
  simp only[PS.read]at h;split at h
  .rename_i nl T n s el kq;split at h
   .rename_i hle;simp only[cg,cK]at h;obtain⟨rfl,rfl,rfl⟩:=h;simp only[ch]at hle;have e1:=ns.1 hle.1;have e2:=dk hle.2;subst e1;have hi:i<n:=ho _ aK;obtain⟨f,h1,h2,h3⟩:=r.hb id _ kq;obtain⟨_,b,n',c',k2,rfl⟩:=hp;rcases h1 with⟨h1,_⟩|⟨b',c,cur,h1,hg,qs,oI,oz,mf,kx⟩
    .rw [k2]at h1;cases h1
    .rw [k2]at h1;cases h1;obtain⟨vs,q1,q2,q3⟩:=tab b (i*s+j) (λq=>el i (j+q)) (λq=>f i (j+q)) (λq hq=>⟨by
      simp only[World.cell?,hg];have:=(mf i (j+q) hi aE).1;rw[<-df]at this;simpa using this,(h3 i (j+q) hi aE).1⟩)
     exact⟨b,i*s+j,vs,rfl,q1,q2,q3⟩
   .cases h
  .cases h
 |e x=>
  cases x with
  |kn k el=>
   simp only[PS.read]at h;split at h
   .rename_i hle;simp only[cg,cK]at h;obtain⟨rfl,rfl,rfl⟩:=h;have DU:=dk hle;cases hp with
    |kn _ _ b q f hb iL hl cell kk=>
     obtain⟨vs,q1,q2,q3⟩:=tab b q el f (λj hj=>⟨cell j aE,kk j aE⟩);exact⟨b,q,vs,rfl,q1,q2,q3⟩
   .cases h
  |_=>cases h
 |_=>cases h
def Ht{ti:TI}{l:List E}(h:AE ti=some l):∃ z,ti.i.zero=some z/\∀ (bs br:Nat->Prop) (w:World),kD bs br w l z.cells.toList/\∀ u ∈ z.cells.toList,u.oneCell'=true:=by
 unfold AE at h;split at h
 .rename_i z hz;exact⟨z,hz,λbs br w=>(iN.v (bs:=bs) (br:=br) (w:=w) z).cells h⟩
 .cases h
def jI.Ww(r:jI w0 B σ a w L)(id:Nat)(T:TypeId)(l:List E)(v:Value)(nm:σ.bo id=none)(hv:kD (jM B L) (ky L) w l v.cells.toList)(h1:∀ u ∈ v.cells.toList,u.oneCell'=true)
 (kx:(!σ.nl||l.all E.nL)=true):
 ∃ L',jI w0 B (σ.rf (.new id (.cells T l))) a (w.alloc (.cells v.cells T)) L'/\ot (jM B L') (ky L') L' (w.alloc (.cells v.cells T)) (.box id 0) (.pointer (some ⟨w.heap.size,0,none⟩)):=by
 have hb:Below w.heap.size w (w.alloc (.cells v.cells T)):=(Below.refl _ _).alloc (bC _) _;have Uf:∀ x,¬L.own id x:=λx hx=>by have:=(r.hv id).1 (r.hn id x hx);rw[nm]at this;simp at this
 have ht:si L w id (λx=>x=w.heap.size) (w.alloc (.cells v.cells T)):=⟨λx hx=>⟨.inr aE,aS⟩,hb.size,λx hx _=>hb.block x hx,rfl,rfl,rfl⟩
 have hl:=ht.later (.pointer (some ⟨w.heap.size,0,none⟩)) (λ_=>undef);refine⟨_,r.new id (.cells T l) (λx=>x=w.heap.size) (.pointer (some ⟨w.heap.size,0,none⟩)) (λ_=>undef) _ nm (λx hx=>by subst hx;simp) hb
  ⟨w.heap.size,v.cells.toList,Lk.pQ,λx=>Lk.sZ x,by rw[Array.toArray_toList];exact heap_alloc_new w _,hv.mono λ_ _=>hl.lQ,h1⟩ kx,Lk.BE,w.heap.size,Lk.pQ,rfl⟩
def CD{d:Option Tmp}{b:Bx}{rr:Nat->PV}{ke:List Prop}(h:xv σ d b rr ke=some u):∃ id,d=some id/\σ.bo id=none/\(!σ.nl||b.nl)=true/\u={ r:=rr id,f:=.new id b,ke:=ke }:=by
 unfold xv at h;split at h
 .rename_i id;split at h
  .rename_i nm;split at h
   .rename_i hc;cases h;exact⟨id,rfl,nm,hc,rfl⟩
   .cases h
  .cases h
 .cases h
end
def Hq{k:IntKind}{z:Int}(h:ku k z):k.wrap z=z:=by
 cases k<;>simp only[ku]at h<;>simp only[IntKind.wrap,IntKind.bits,IntKind.signed]<;>simp<;>(try split)<;>omega
def alF{k:IntKind}{x y:Int}(h:ku k x)(hy:0<y):ku k (x.tdiv y):=by
 by_cases h0:0<=x
 .have h1:0<=x/y:=Int.ediv_nonneg h0 aE ;have h2:x/y<=x:=Int.ediv_le_self y h0;rw[aqu h0];cases k<;>simp only[ku]at h ⊢ <;> omega
 .obtain ⟨z,rfl⟩:∃ z,x = -z:=⟨-x,aE⟩
  have h0:0<=z:= aE ;have h1:0<=z/y:=Int.ediv_nonneg h0 aE;have h2:z/y<=z:=Int.ediv_le_self y h0;rw[Int.neg_tdiv,aqu h0];cases k<;>simp only[ku]at h ⊢ <;> omega
def aea{P:Program}{op:BinOp}{k k':IntKind}{x y:Int}{v:Value}{ke:List Prop}(h:Mg op k x y=some (v,ke))(ho:∀ q,q ∈ ke->q)
 (hk:Yz op k k'=true) (t:TypeId) (w:World):(binOp op t (.int k x) (.int k' y)).run P w = .ok v w:=by
 cases op<;>simp only[Mg,cg,cK,reduceCtorEq]at h<;>(obtain⟨rfl,rfl⟩:=h)<;>(try (have Uu:=cR hk;subst Uu))
 case add=>
  rw[binOp_add];by_cases I1:k = .u32
  .subst I1;simp[Op.intArith,Lm]
  .have e:Lm k x y=x+y:=by cases k<;>first|rfl|exact absurd rfl I1
   have e2:qH k x y=[ku k (x+y)]:=by cases k<;>first|rfl|exact absurd rfl I1
   rw[e];simp[Op.intArith,Hq (ho (ku k (x+y)) (by rw[e2];simp))]
 case sub=>rw[binOp_sub];simp[Op.intArith,Hq (ho (ku k (x-y)) aK)]
 case mul=>rw[binOp_mul];simp[Op.intArith,Hq (ho (ku k (x*y)) aK)]
 case quo=>
  have h1:=ho (0<y) aK;have h2:=ho (ku k x) aK;rw[binOp_quo];have hy:¬y=0:= aE ;simp[Op.intDiv,hy,Hq (alF h2 h1)]
 case rem=>
  have h1:=ho (0<y) aK;rw[binOp_rem];have hy:¬y=0:= aE ;simp[Op.intDiv,hy]
 case and=>rw[binOp_and,intBits_and];rfl
 case or=>rw[binOp_or,intBits_or];rfl
 case shl=>
  have h1:=ho (0<=y/\y<=k.bits) aK;rw[binOp_shl,shift_shl k k' x y h1.1 h1.2];rfl
 case shr=>
  have h1:=ho (0<=y/\y<=k.bits) aK;rw[binOp_shr,shift_shr k k' x y h1.1 h1.2];rfl
 case eql=>rw[binOp_eql];rfl
 case neq=>rw[binOp_neq];rfl
 case lss=>rw[binOp_lss];rfl
 case leq=>rw[binOp_leq];rfl
 case gtr=>rw[binOp_gtr];rfl
 case geq=>rw[binOp_geq];rfl
section
variable {P:Program} {K:World->Prop} {T:List TI} {O:qE} {w0:World} {B:Nat->Prop} {σ:PS} {o:Oper} {a:Act} {w:World} {L:Lk} {u:lh}
def afS{x:Operand}(iH:o.op = .move x)(r:jI w0 B σ a w L)(h:jN P K T O σ o=some u):kA P K w0 B σ o a w u:=by
 simp only[jN,iH]at h;cases h;exact kA.pure r (by simp only[execOp,iH];rfl) rfl (r.op x)
def afz{x:Operand}(iH:o.op = .assign x)(r:jI w0 B σ a w L)(h:jN P K T O σ o=some u):kA P K w0 B σ o a w u:=by
 simp only[jN,iH]at h;cases h;exact kA.pure r (by simp only[execOp,iH];rfl) rfl (r.op x)
def afU{c x y:Operand}(iH:o.op = .pick c x y)(r:jI w0 B σ a w L)(h:jN P K T O σ o=some u):kA P K w0 B σ o a w u:=by
 simp only[jN,iH]at h;have hc:=r.op c;split at h
 .rename_i hv;rw[hv]at hc;have hc:=iN.kW hc;cases h;exact kA.pure r (by simp[execOp,iH,hc,asBool]) rfl (r.op x)
 .rename_i hv;rw[hv]at hc;have hc:=iN.kW hc;cases h;exact kA.pure r (by simp[execOp,iH,hc,asBool]) rfl (r.op y)
 .cases h
def afT{x:Operand}(iH:o.op = .nilCheck x)(r:jI w0 B σ a w L)(h:jN P K T O σ o=some u):kA P K w0 B σ o a w u:=by
 simp only[jN,iH]at h;have hc:=r.op x;split at h
 .rename_i hv;rw[hv]at hc;cases h;obtain⟨k1,b,k2,k3⟩:=hc;exact kA.pure r (v:=a.eval x) (by simp[execOp,iH,k3]) rfl ⟨k1,b,k2,k3⟩
 .rename_i hv;rw[hv]at hc;cases h;generalize hq:a.eval x=q at hc;refine kA.pure r (v:=q) ?_ rfl hc;cases hc;simp only[execOp,iH,hq];rfl
 .rename_i hv;rw[hv]at hc;cases h;refine kA.pure r (v:=a.eval x) ?_ rfl hc;obtain⟨vs,e,_⟩:=iN.Te hc;simp only[execOp,iH,e];rfl
 .rename_i hv;rw[hv]at hc;cases h;refine kA.pure r (v:=a.eval x) ?_ rfl hc;obtain⟨vs,e,_⟩:=hc;simp only[execOp,iH,e];rfl
 .cases h
def afA(hT:na P T){op:BinOp}{t yt:TypeId}{x y:Operand}(iH:o.op = .binOp op t x y yt)(r:jI w0 B σ a w L)(h:jN P K T O σ o=some u)(ho:∀ q,q ∈ u.ke->q):kA P K w0 B σ o a w u:=by
 simp only[jN,iH]at h;have hx:=r.op x;have hy:=r.op y;split at h
 .rename_i k z k' z' uT Co;rw[uT]at hx;rw[Co]at hy;have hx:=iN.kW hx;have hy:=iN.kW hy;split at h
  .rename_i hk;obtain⟨rr,hr,rfl⟩:=dg.1 h;have mq:=aea (P:=P) (k':=k') hr ho hk t w;refine kA.pure r (v:=rr.1) ?_ rfl (.v _);simp only[execOp,iH,hx,hy,Sem.run_bind,eqGuard_at_int,Sem.run_pure,Result.andThen_ok,mq]
  .cases h
 .rename_i z z' uT Co;rw[uT]at hx;rw[Co]at hy;have hx:=iN.kW hx;have hy:=iN.kW hy;split at h
  .rename_i hd;obtain⟨ti,h1,h2⟩:=AS hd;have hu:P.underlying t=some .bool:=by rw[hT.qZ h1,h2]
   split at h
   .cases h;refine kA.pure r (v:=.bool (z==z')) ?_ rfl (.v _);simp only[execOp,iH,hx,hy,Sem.run_bind,eqGuard_at_bool,Sem.run_pure,Result.andThen_ok,run_eql_bool w t z z' hu]
   .cases h;refine kA.pure r (v:=.bool (!(z==z'))) ?_ rfl (.v _);simp only[execOp,iH,hx,hy,Sem.run_bind,eqGuard_at_bool,Sem.run_pure,Result.andThen_ok];have:(binOp .neq t (.bool z) (.bool z')).run P w = .ok (.bool (!(z==z'))) w:=by
     simp only[binOp,Sem.run_bind,run_equal_bool w t z z' hu,Result.andThen_ok,Sem.run_pure]
    rw[this];rfl
   .cases h
  .cases h
 .rename_i nl n sz el uT Co;rw[uT]at hx;rw[Co]at hy;have hy:=iN.kW hy;have hx:iN (jM B L) (ky L) w (.sl nl n sz el) (a.eval x):=hx;split at h
  .rename_i e hd;obtain⟨ti,h1,h2⟩:=AS hd;have hu:P.underlying t=some (.slice e):=by rw[hT.qZ h1,h2]
   have key:∀ A c,0<n->a.eval x = .slice A n c->iN (jM B L) (ky L) w (.sl nl n sz el) (.slice A n c)->A.isNone=false:=by
    intro A c hn e1 hr;cases A with
    |some ad=>rfl
    |none=>
     cases hr with
     |sl _ _ _ _ _ _ f hc hm h0=>have:=h0 rfl;omega
   generalize hv:a.eval x=vx at hx;cases hx with
   |sl _ _ _ _ A c f hc hm h0 hl hr cell k=>
    have wa:iN (jM B L) (ky L) w (.sl nl n sz el) (.slice A n c):=.sl nl n sz el A c f hc hm h0 hl hr cell k;split at h
    .cases h;have hn:0<n:=ho _ aK;refine kA.pure r (v:=.bool false) ?_ rfl (.v _);simp only[execOp,iH,hv,hy,Sem.run_bind,eqGuard_at_slice,Sem.run_pure,Result.andThen_ok,Lib.run_eql_slice_nil w t e A n c 0 0 hu,key A c hn hv wa]
    .cases h;have hn:0<n:=ho _ aK;refine kA.pure r (v:=.bool true) ?_ rfl (.v _);simp only[execOp,iH,hv,hy,Sem.run_bind,eqGuard_at_slice,Sem.run_pure,Result.andThen_ok,run_neq_slice_nil_any w t e A n c 0 0 hu,key A c hn hv wa,eO]
    .cases h
  .cases h
 .rename_i xe ye uT Co;rw[uT]at hx;rw[Co]at hy;split at h
  .rename_i v hv;cases h;obtain⟨h1,h2⟩:=ho _ (List.mem_singleton.2 rfl) _ _ w _ _ x y hx hy;refine kA.pure r (v:=v) ?_ rfl (.v _);simp only[execOp,iH,Sem.run_bind,h1,Result.andThen_ok,h2,Sem.run_pure]
  .cases h
 .cases h
def afX{op:UnOp}{t:TypeId}{x:Operand}(iH:o.op = .unOp op t x)(r:jI w0 B σ a w L)(h:jN P K T O σ o=some u)(ho:∀ q,q ∈ u.ke->q):kA P K w0 B σ o a w u:=by
 simp only[jN,iH]at h;have hx:=r.op x;split at h
 .rename_i z hv;rw[hv]at hx;have hx:=iN.kW hx;cases h;exact kA.pure r (v:=.bool (!z)) (by simp[execOp,iH,hx,Op.unary]) rfl (.v _)
 .rename_i k z hv;rw[hv]at hx;have hx:=iN.kW hx;cases h;have:=Hq (ho (ku k (0-z)) aK);refine kA.pure r (v:=.int k (0-z)) ?_ rfl (.v _);simp only[execOp,iH,hx,Op.unary,Op.intArith,this];rfl
 .cases h
def afE(hT:na P T){src dst:TypeId}{x:Operand}(iH:o.op = .convert src dst x)(r:jI w0 B σ a w L)(h:jN P K T O σ o=some u):kA P K w0 B σ o a w u:=by
 simp only[jN,iH]at h;have hx:=r.op x;split at h
 .rename_i k ts k' z hd hs hv;rw[hv]at hx;have hx:=iN.kW hx;obtain⟨td,h1,h2⟩:=AS hd;have hu:P.underlying dst=some (.int k):=by rw[hT.qZ h1,h2]
  have hk:P.intKind dst=k:=by simp[Program.intKind,hu]
  have mq:=run_convert_int (P:=P) w src dst k' z (by rw[hT.qZ hs];rfl) (by rw[hk];exact hu);rw[hk]at mq;cases h;exact kA.pure r (v:=.int k (k.wrap z)) (by simp only[execOp,iH,hx,Sem.run_bind,mq];rfl) rfl (.v _)
 .cases h
def afF{x:Operand}{i:Nat}(iH:o.op = .extract x i)(r:jI w0 B σ a w L)(h:jN P K T O σ o=some u):kA P K w0 B σ o a w u:=by
 simp only[jN,iH]at h;have hx:=r.op x;split at h
 .rename_i l hv;rw[hv]at hx;obtain⟨vs,e,hr⟩:=iN.ZK hx;split at h
  .rename_i y hy;cases h;have iL:i<vs.length:=by rw[hr.len];exact(cH.1 hy).1
   have r6:=bI iL;refine kA.pure r (v:=vs[i]) ?_ rfl (hr.lQ i y _ hy r6);simp only[execOp,iH,e,Instr.extract,gQ,r6];rfl
  .cases h
 .cases h
def Wa{bs:Nat->Prop}{z:Int}{e:E}:∀ {l:List (Int×FuncId×List FuncId)} {es:List MapEntry} (i:Nat),BM bs w l es->yE l z=some e->(∀ b,ky L b->bs b) ->
 ∃ j v,Instr.findNow (.int .i64) (.int .i64 z) es i=some (some (j,v))/\iN bs (ky L) w e v
 | [],_,_,_,h,_=>by cases h
 |_::_,[],_,k,_,_=>k.elim
 |x::l,y::es,i,⟨⟨k1,vs,k2,k3,k4⟩,k⟩,h,hm=>by
  unfold yE at h;have e0:Instr.sameNow (.int .i64) (.int .i64 z) y.key=some (z==x.1):=by rw[k1];rfl
  by_cases hz:x.1=z
  .rw [bw hz]at h;cases h;have e1:(z==x.1)=true:=by simp[hz]
   refine⟨i,y.val,?_,?_⟩
   .rw [Instr.findNow,e0,e1]
   .rw [k2];refine .fn _ _ vs (by simpa using k3) λj p v hp hv=>?_
    rw[cQ]at hp;obtain⟨g,hg,rfl⟩:=dg.1 hp;obtain⟨b,rfl,q2,q3,q4⟩:=k4 j g v hg hv;have hc:∀ q,q<1->w.cell? ⟨b,0+q,none⟩=some (.func (.func g) #[] #[]):=λq hq=>by
     obtain rfl:q=0:= aE ;exact q4
    exact .kn 1 _ b 0 (λ_=>.func (.func g) #[] #[]) (λh=>q2 (hm b h)) q3 (λ_ _=>rfl) hc λ_ _=>.fn g [] [] rfl (λi p x h=>by simp at h)
  .rw [bu hz]at h;have e1:(z==x.1)=false:=by simp;exact λe=>hz e.symm
   obtain⟨j,v,q1,q2⟩:=Wa (i+1) k h hm;exact⟨j,v,by rw[Instr.findNow,e0,e1];exact q1,q2⟩
def acD{k:TypeId}(hk:P.underlying k=some (.int .i64))(e:Bool)(n:Nat)(z:Int):(Instr.checkKey e (n+1) k (.int .i64 z)).run P w = .ok () w:=by
 unfold Instr.checkKey;simp only[Sem.run_bind,run_underlying hk,Result.andThen];rfl
def afM(hT:na P T){t:TypeId}{x i:Operand}{ok:Bool}(iH:o.op = .lookup t x i ok)(r:jI w0 B σ a w L)(h:jN P K T O σ o=some u)(ho:∀ q,q ∈ u.ke->q):kA P K w0 B σ o a w u:=by
 cases ok with
 |true=>simp[jN,iH]at h
 |false=>
 simp only[jN,iH]at h;have hx:=r.op x;have hi:=r.op i;split at h
 .rename_i l z k e0 hv hw hd;obtain⟨ti,h1,h2⟩:=AS hd;have hu:P.underlying t=some (.map k e0):=by rw[hT.qZ h1,h2]
  rw[hv]at hx;rw[hw]at hi;have hi:=iN.kW hi;split at h
  .rename_i e sM hg;obtain⟨tk,h3,h4⟩:=AS sM;have hk:P.underlying k=some (.int .i64):=by rw[hT.qZ h3,h4]
   cases h;have Cc:yE l z=some e:=ho _ aK;generalize hq:a.eval x=q at hx;cases hx with
   |mp _ b clk es hb iL hh lE=>
    obtain⟨j,v,q1,q2⟩:=Wa (w:=w) (L:=L) 0 lE Cc λb h=>.inr h
    refine kA.pure r (v:=v) ?_ rfl q2;have ny:(getObj b).run P w = .ok (.map es clk) w:=by simp[getObj,Sem.run,hh]
    have hck:=acD (P:=P) (w:=w) hk es.isEmpty 9999 z;have hfk:(Instr.findKey k (.int .i64 z) es.toList).run P w = .ok (some (j,v)) w:=by unfold Instr.findKey;simp[run_underlying hk,Result.andThen,q1]
    have hl:(Instr.lookup t (.map (some b)) (.int .i64 z) false).run P w = .ok v w:=by
     unfold Instr.lookup;simp[run_underlying hu,ny,hck,hfk,Result.andThen]
    simp only[execOp,iH,hq,hi,Sem.run_bind,hl,Result.andThen_ok,Sem.run_pure]
  .cases h
 .cases h
def afG(hT:na P T){t:TypeId}{x:Operand}{f:Nat}(iH:o.op = .field t x f)(r:jI w0 B σ a w L)(h:jN P K T O σ o=some u):kA P K w0 B σ o a w u:=by
 simp only[jN,iH]at h;have hx:=r.op x;split at h
 .rename_i l fs hv hd;obtain⟨ti,h1,h2⟩:=AS hd;have hu:P.underlying t=some (.struct fs):=by rw[hT.qZ h1,h2]
  rw[hv]at hx;obtain⟨vs,e,hr⟩:=iN.Dg hx;split at h
  .rename_i fd M9;split at h
   .rename_i ft Nb;split at h
    .cases h
    .rename_i hag;split at h
     .rename_i y hy;cases h;have iL:fd.offset<vs.length:=by rw[hr.len];exact(cH.1 hy).1
      have r6:=bI iL;refine kA.pure r (v:=vs[fd.offset]) ?_ rfl (hr.lQ fd.offset y _ hy r6);simp only[execOp,iH,e,Instr.field,asAgg,Sem.run_bind,Sem.run_pure,Result.andThen_ok,run_underlying hu,M9,part,Ku hT w Nb,hag,gQ,r6];rfl
     .cases h
   .cases h
  .cases h
 .cases h
def acr{ps:List PV}{l:List CV}{vs:List Value}(h:y6 ps=some l)(hlen:vs.length=ps.length)(hr:∀ (i:Nat) (p:PV) (x:Value),ps[i]? = some p->vs[i]? = some x->ot (jM B L) (ky L) L w p x):
 vs.length=l.length/\∀ (i:Nat) (c:CV) (x:Value),l[i]? = some c->vs[i]? = some x->yX (jM B L) (ky L) L w c x:=by
 induction ps generalizing l vs with
 |nil=>cases h;exact⟨hlen,λi c x hc=>by simp at hc⟩
 |cons p ps ih=>
  cases vs with
  |nil=>simp at hlen
  |cons y vs=>
   have step:∀ (c0:CV) (l':List CV),y6 ps=some l'->yX (jM B L) (ky L) L w c0 y->l=c0::l' ->
    (y::vs).length=l.length/\∀ (i:Nat) (c:CV) (x:Value),l[i]? = some c->(y::vs)[i]? = some x->yX (jM B L) (ky L) L w c x:=by
    intro c0 l' qg pk hl;obtain⟨i1,i2⟩:=ih qg (by simpa using hlen) (λi p x hp hx=>hr (i+1) p x (by simpa using hp) (by simpa using hx));subst hl;refine⟨by simp[i1],λi c x hc hx=>?_⟩;cases i with
    |zero=>simp at hc hx;subst hc hx;exact pk
    |succ i=>simp at hc hx;exact i2 i c x hc hx
   have h0:=hr 0 p y rfl rfl;cases p with
   |e x=>
    simp only[y6]at h;obtain⟨l',qg,rfl⟩:=dg.1 h;exact step (.e x) l' qg h0 rfl
   |box id off=>
    cases off with
    |zero=>
     simp only[y6]at h;obtain⟨l',qg,rfl⟩:=dg.1 h;exact step (.box id) l' qg h0 rfl
    |succ=>simp[y6]at h
   |_=>simp[y6]at h
def afN{fn:Fn}{first cap:Array Operand}(iH:o.op = .makeFunc fn first cap)(r:jI w0 B σ a w L)(h:jN P K T O σ o=some u):kA P K w0 B σ o a w u:=by
 cases fn with
 |func f=>
  simp only[jN,iH]at h;split at h
  .rename_i agr;have hf:first = #[]:=by simpa using agr
   subst hf;split at h
   .rename_i l hl;cases h;have hc:=acr (B:=B) (L:=L) (w:=w) (vs:=cap.toList.map a.eval) hl aK (λi p x hp hx=>by
     rw[cQ]at hp hx;obtain⟨q,hq,rfl⟩:=dg.1 hp;rw[hq]at hx;simp at hx;subst hx;exact r.op q)
    refine kA.pure r (v:=.func (.func f) #[] (cap.toList.map a.eval).toArray) ?_ rfl ⟨cap.toList.map a.eval,rfl,hc.1,hc.2⟩;have e1:cap.map a.eval=(cap.toList.map a.eval).toArray:=by apply dL;simp
    have e2:(#[]:Array Operand).map a.eval = #[]:= aK ;simp only[execOp,iH,Instr.makeFunc,e1,e2,Sem.run_bind,Sem.run_pure,Result.andThen_ok]
   .cases h
  .cases h
 |_=>simp[jN,iH]at h
def afI(hT:na P T){t:TypeId}{x i:Operand}(iH:o.op = .index t x i)(r:jI w0 B σ a w L)(h:jN P K T O σ o=some u)(ho:∀ q,q ∈ u.ke->q):kA P K w0 B σ o a w u:=by
 simp only[jN,iH]at h;have hx:=r.op x;have hi:=r.op i;split at h
 .rename_i l k z hv hw;rw[hv]at hx;rw[hw]at hi;have ei:=iN.kW hi;obtain⟨vs,e,hr⟩:=iN.Dg hx;split at h
  .rename_i tt rZ;split at h
   .rename_i n e' hd;have hu:P.underlying t=some (.array n e'):=by rw[hT.qZ rZ,hd]
    split at h
    .rename_i te qi;split at h
     .rename_i hc;simp only[ch,ns]at hc;cases h;obtain⟨zU,ug⟩:=ho (0<=z/\z<n) aK;refine kA.pure r (v:=.agg ((vs.drop (z.toNat*te.i.size)).take te.i.size).toArray) ?_ rfl ((hr.drop _).take _).agg;simp only[execOp,iH,e,ei,Instr.index,asIntOf,Sem.run_bind,Sem.run_pure,Result.andThen_ok,run_underlying hu,zU,ug,and_self,bQ,xE hT w qi,part,Ku hT w qi,hc.1];simp
     .cases h
    .cases h
   .cases h
  .cases h
 .cases h
def afH(hT:na P T){t:TypeId}{x:Operand}{f:Nat}(iH:o.op = .fieldAddr t x f)(r:jI w0 B σ a w L)(h:jN P K T O σ o=some u):kA P K w0 B σ o a w u:=by
 simp only[jN,iH]at h;have hx:=r.op x;split at h
 .rename_i fs hd;obtain⟨ti,h1,h2⟩:=AS hd;have hu:P.underlying t=some (.struct fs):=by rw[hT.qZ h1,h2]
  split at h
  .rename_i fd M9;split at h
   .rename_i ft Nb;split at h
    .cases h
    .rename_i lL;have agz:¬ft.i.size=0:=λe=>lL (ns.2 e)
     have mq:∀ b off,a.eval x = .pointer (some ⟨b,off,none⟩)->(execOp a.eval o).run P w = .ok (.value (.pointer (some ⟨b,off+fd.offset,none⟩))) w:=by
      intro b off e;simp only[execOp,iH,e,Instr.fieldAt,Instr.sureAddr,fieldPlace,Sem.run_bind,run_underlying hu,Result.andThen_ok,M9,Sem.run_pure,xE hT w Nb,agz,bJ,Addr.add_lit]
     split at h
     .rename_i id off hv;rw[hv]at hx;obtain⟨k1,b,k2,k3⟩:=hx;cases h;exact kA.pure r (mq b off k3) rfl ⟨k1,b,k2,rfl⟩
     .rename_i id sz i j hv;rw[hv]at hx;obtain⟨k1,b,n,c,k2,k3⟩:=hx;cases h;exact kA.pure r (mq b _ k3) rfl ⟨k1,b,n,c,k2,by rw[df]⟩
     .rename_i m el hv;rw[hv]at hx;split at h
      .rename_i hle;have DU:=dk hle;cases h;generalize hq:a.eval x=q at hx;cases hx with
       |kn _ _ b off g hb iL hl cell kk=>
        refine kA.pure r (mq b off hq) rfl (.kn _ _ b _ (λj=>g (fd.offset+j)) hb iL (λj hj=>hl _ aE) (λj hj=>?_) (λj hj=>kk _ aE));have:=cell (fd.offset+j) aE;rwa[<-df]at this
      .cases h
     .cases h
   .cases h
  .cases h
 .cases h
end
section
variable {P:Program} {K:World->Prop} {T:List TI} {O:qE} {w0:World} {B:Nat->Prop} {σ:PS} {o:Oper} {a:Act} {w:World} {L:Lk} {u:lh}
def ahT(hT:na P T){t:TypeId}{x:Operand}{ti:TI}(pI:mY T t=some ti)(iH:o.op = .load t x)(r:jI w0 B σ a w L)(h:Gg ti (σ.read (σ.op x) ti.i.size)=some u)(ho:∀ q,q ∈ u.ke->q):kA P K w0 B σ o a w u:=by
 cases hr:σ.read (σ.op x) ti.i.size with
 |none=>rw[hr]at h;cases h
 |some y=>
  obtain⟨l,is,ke⟩:=y;rw[hr]at h;simp only[Gg]at h;by_cases ha:ti.isAgg=true
  .rw [bw ha]at h;cases h;obtain⟨b,q,vs,e,h1,h2,h3⟩:=r.read (r.op x) hr ho;refine kA.pure r (v:=.agg vs.toArray) ?_ rfl h1.agg;simp only[execOp,iH,e,Instr.loadAt,Instr.sureAddr,Sem.run_bind,Sem.run_pure,Result.andThen_ok,Yx hT w pI ha b q vs h2 h3]
  .rw [bu ha]at h;have DN:ti.isAgg=false:=by simpa using ha
   split at h
   .rename_i p;cases h;obtain⟨b,q,vs,e,h1,h2,h3⟩:=r.read (r.op x) hr ho;obtain⟨y,ys,rfl,hy,D9⟩:=h1.mI;refine kA.pure r (v:=y) ?_ rfl hy;have hc:=h3 0 y rfl;simp only[execOp,iH,e,Instr.loadAt,Instr.sureAddr,Sem.run_bind,Sem.run_pure,Result.andThen_ok,PG hT w pI DN b q y (by simpa using hc)]
   .cases h
def afL(hT:na P T){t:TypeId}{x:Operand}(iH:o.op = .load t x)(r:jI w0 B σ a w L)(h:jN P K T O σ o=some u)(ho:∀ q,q ∈ u.ke->q):kA P K w0 B σ o a w u:=by
 simp only[jN,iH,IN]at h;split at h
 .rename_i ti pI;split at h
  .rename_i id i n qh;by_cases ha:ti.isAgg=true
   .rw [bw ha]at h;cases h
   .rw [bu ha]at h;have DN:ti.isAgg=false:=by simpa using ha
    cases h;have hx:=r.op x;cases hp:σ.op x with
    |qB id' sz i' j=>
     rw[hp]at qh hx;simp only[CY]at qh;split at qh
     .rename_i nl T1 T0 n' sz' len el kq;split at qh
      .rename_i hc;simp only[cg,cK]at qh;obtain⟨rfl,rfl,rfl⟩:=qh;simp only[ch]at hc;have e1:=ns.1 hc.1;have e2:=ns.1 hc.2;subst e1 e2;have hi:i'<n':=ho _ aK;obtain⟨b,c,cur,f,h1,h2,h3,h4,h5,h6,h7,h8,h9,uH,vQ⟩:=r.hb id' _ kq;obtain⟨k1,b',n2,c2,k2,k3⟩:=hx;rw[h1]at k2;cases k2;refine kA.pure r (v:=L.jE id' i') ?_ rfl ⟨k1,rfl⟩;have mf:w.cell? ⟨b,i'*1+0,none⟩=some (L.jE id' i'):=by
        simp only[World.cell?,h2];simpa using h6 i' hi aK 
       simp only[execOp,iH,k3,Instr.loadAt,Instr.sureAddr,Sem.run_bind,Sem.run_pure,Result.andThen_ok,PG hT w pI DN b _ _ mf]
      .cases qh
     .cases qh
    |_=>rw[hp]at qh;cases qh
  .exact ahT hT pI iH r h ho
 .cases h
def W4{bs br:Nat->Prop}{l m:List E}{vs us:List Value}(h:kD bs br w l vs)(k:kD bs br w m us)(off:Nat):kD bs br w (Bt l off m) (vs.take off++us++vs.drop (off+us.length)):=by
 unfold Bt;rw[k.len];exact((h.take off).app k).app (h.drop _)
def ajS{q:E->Bool}{l m:List E}(h:l.all q=true)(k:m.all q=true)(off:Nat):(Bt l off m).all q=true:=by
 unfold Bt;rw[List.all_append,List.all_append,k];have h1:(l.take off).all q=true:=cr.2 λx hx=>cr.1 h x (eW hx)
 have h2:(l.drop (off+m.length)).all q=true:=cr.2 λx hx=>cr.1 h x (fw hx)
 rw[h1,h2];rfl
def afW(hT:na P T){t:TypeId}{x y:Operand}(iH:o.op = .store t x y)(r:jI w0 B σ a w L)(h:jN P K T O σ o=some u)(ho:∀ q,q ∈ u.ke->q):kA P K w0 B σ o a w u:=by
 simp only[jN,iH,IS]at h;have hx:=r.op x;have hy:=r.op y;split at h
 .rename_i ti pI;split at h
  .
   rename_i id off e ss FR;rw[ss]at hx;rw[FR]at hy;split at h
   .rename_i T1 l m kq hm;split at h
    .rename_i hc;cases h;simp only[ch]at hc;have c1:=ns.1 hc.1.1;have c2:=dk hc.1.2;obtain⟨b,vs,h1,h2,h3,h4,h5⟩:=r.hb id _ kq;obtain⟨k1,b',k2,k3⟩:=hx;rw[h1]at k2;cases k2;obtain⟨q1,q2⟩:=hy.cells hm;have ht:=si.setRow (L:=L) ((h2 b).2 rfl) (λx hx=>(r.hw id x hx).2) (vs.take off++(a.eval y).cells.toList++vs.drop (off+(a.eval y).cells.toList.length)).toArray;have hl:=ht.later (L.val id) (L.jE id);refine⟨undef,_,_,.inr ⟨?_,rfl⟩,r.vj id (.cells T1 (Bt l off m)) _ k1 ht ⟨b,_,by rw[Lk.pQ];exact h1,λx=>(Lk.sZ x).trans (h2 x),setRow_heap w b _ _ T1 _ h3,(W4 h4 q1 off).mono λ_ _=>hl.lQ,?_⟩ ?_,.any _⟩
     .have hr:=Kv hT w pI b off T1 vs.toArray h3 (a.eval y) (by rw[q1.len,c1]) (by rw[q1.len,gq,h4.len];exact c2) q2;simp only[execOp,iH,k3,Instr.storeAt,Instr.sureAddr,Sem.run_bind,Sem.run_pure,Result.andThen_ok,hr]
     .intro v hv;simp only[er]at hv;rcases hv with(hv|hv)|hv
      .exact h5 v (eW hv)
      .exact q2 v hv
      .exact h5 v (fw hv)
     .intro hn;have:=hc.2;rw[hn]at this;exact ajS (r.hl hn id _ kq) (by simpa using this) off
    .cases h
   .cases h
  .
   rename_i id sz i j e ss FR;rw[ss]at hx;rw[FR]at hy;split at h
   .rename_i nl T1 n s el m kq hm;split at h
    .rename_i hc;cases h;simp only[ch]at hc;have c1:=ns.1 hc.1.1.1.1;have c2:=ns.1 hc.1.1.1.2;have c3:=dk hc.1.1.2;subst c2;have hi:i<n:=ho _ aK;obtain⟨f,h1,h2,h3⟩:=r.hb id _ kq;obtain⟨k1,b',n',c',k2,k3⟩:=hx;rcases h1 with⟨h1,_⟩|⟨b,c,cur,h1,hg,qs,oI,oz,mf,kx⟩
     .rw [k2]at h1;cases h1
     .rw [k2]at h1;cases h1;obtain⟨q1,q2⟩:=hy.cells hm;have pd:L.own id b':=(h2 b').2 (by rw[k2];rfl);have apn:i*s+s<=cur.size:=by
       rw[oz];have:=bX s (aE:i+1<=c');rwa[ct,ck]at this
      have oQ:i*s+j+(a.eval y).cells.toList.length<=cur.size:=by rw[q1.len];omega
      have ht:=si.setRow (L:=L) pd (λx hx=>(r.hw id x hx).2) (cur.toList.take (i*s+j)++(a.eval y).cells.toList++cur.toList.drop (i*s+j+(a.eval y).cells.toList.length)).toArray;have hl:=ht.later (L.val id) (L.jE id);refine⟨undef,_,_,.inr ⟨?_,rfl⟩,r.vj id _ _ k1 ht ⟨λi' j'=>if i'=i/\j<=j'/\j'<j+m.length then(a.eval y).cells.toList.getD (j'-j) undef else f i' j',?_,λx=>?_,?_⟩ ?_,.any _⟩
      .have hr:=Kv hT w pI b' (i*s+j) T1 cur hg (a.eval y) (by rw[q1.len,c1]) oQ q2;simp only[execOp,iH,k3,Instr.storeAt,Instr.sureAddr,Sem.run_bind,Sem.run_pure,Result.andThen_ok,hr]
      .rw [Lk.pQ];refine .inr ⟨b',c',_,k2,setRow_heap w b' _ _ T1 _ hg,qs,oI,?_,?_,?_⟩
       .simp only[gq,cE,cJ,fe,ef];have ags:=oQ;simp only[ef]at ags;rw[dB aE];omega
       .intro i' j' nh rC;obtain⟨o1,o2⟩:=mf i' j' nh rC;have hlen:i'*s+j'<cur.size:=by
         rw[oz];have:=bX s (aE:i'+1<=c');rw[ct,ck]at this;omega
        have qC:i'≠i->i'*s+j'<i*s\/i*s+s<=i'*s+j':=by
         intro lL;rcases Nat.lt_or_gt_of_ne lL with iL|iL
         .left;have:=bX s (show i'+1<=i from iL);rw[ct,ck]at this;omega
         .right;have:=bX s (show i+1<=i' from iL);rw[ct,ck]at this;omega
        simp only[gQ];rw[List.append_assoc,gn,cJ,ef,dB aE];by_cases mN:i'=i/\j<=j'/\j'<j+m.length
        .obtain ⟨rfl,p1,p2⟩:=mN;rw[bu aE,dK (by rw[q1.len];omega)];have e1:i'*s+j'-(i'*s+j)=j'-j:= aE ;have iL:j'-j<(a.eval y).cells.toList.length:=by rw[q1.len];omega
         rw[bw ⟨rfl,p1,p2⟩,e1,bD,bI iL];exact⟨rfl,q2 _ (cN iL)⟩
        .rw [bu mN];refine⟨?_,o2⟩;by_cases kP:i'*s+j'<i*s+j
         .rw [bw kP,eK,bw kP];simpa using o1
         .rw [bu kP,fc,e9]
          .have:i*s+j+(a.eval y).cells.toList.length+(i'*s+j'-(i*s+j)-(a.eval y).cells.toList.length)=i'*s+j':=by
            rw[q1.len];by_cases FJ:i'=i
            .subst FJ;omega
            .have:=qC FJ;omega
           rw[this];simpa using o1
          .rw [q1.len];by_cases FJ:i'=i
           .subst FJ;omega
           .have:=qC FJ;omega
       .intro hn v hv;simp only[gR,er]at hv;rcases hv with(hv|hv)|hv
        .exact kx hn v (by have:=eW hv;simpa using this)
        .obtain ⟨q,hq⟩:=dJ.1 hv;have vZ:q<m.length:=by rw[<-q1.len];exact(cH.1 hq).1
         have hmn:m.all E.nL=true:=by have:=hc.1.2;rw[hn]at this;simpa using this
         exact(q1.lQ q _ v (bI vZ) hq).nL (cr.1 hmn _ (cN vZ))
        .exact kx hn v (by have:=fw hv;simpa using this)
      .rw [Lk.pQ];exact(Lk.sZ x).trans (h2 x)
      .intro i' j' nh rC;refine(λ(q:iN _ _ _ _ _/\_)=>⟨hl.lQ q.1,q.2⟩) (?_:_/\_);dsimp only;by_cases mN:i'=i/\j<=j'/\j'<j+m.length
       .rw [bw mN,bw mN];have Jk:j'-j<m.length:= aE ;have zS:j'-j<(a.eval y).cells.toList.length:=by rw[q1.len];omega
        rw[bD,bI Jk,bD,bI zS];exact⟨q1.lQ _ _ _ (bI Jk) (bI zS),cr.1 hc.2 _ (cN Jk)⟩
       .rw [bu mN,bu mN];exact h3 i' j' nh rC
      .intro hn;have:=r.hl hn id _ kq;exact this
    .cases h
   .cases h
  .
   rename_i id i id' k ss FR;rw[ss]at hx;rw[FR]at hy;split at h
   .rename_i nl T1 T0 n sz len el k' kq;split at h
    .rename_i hc;cases h;simp only[ch]at hc;have c1:=ns.1 hc.1;have c2:=ns.1 hc.2;subst c1;have e1:i=k':=ho _ aK;have e2:k=k':=ho _ aK;have hk:k'<n:=ho _ aK;subst e1 e2;obtain⟨b,c,cur,f,h1,h2,h3,h4,h5,h6,h7,h8,h9,uH,vQ⟩:=r.hb id _ kq;obtain⟨k1,b',n',c',k2,k3⟩:=hx;obtain⟨_,UX⟩:=hy;rw[h1]at k2;cases k2;have zK:(L.jE id k).oneCell'=true/\sR (L.jE id k)=false/\(L.jE id k).cells = #[L.jE id k]:=by
      rcases(h8 k hk).1 with⟨e,_⟩|⟨_,_,_,e,_⟩<;>rw[e]<;>exact⟨rfl,rfl,rfl⟩
     have pd:L.own id b:=(h9 b).2 (.inl rfl);have ht:=si.setRow (L:=L) pd (λx hx=>(r.hw id x hx).2) (cur.toList.take (k*1+0)++(a.eval y).cells.toList++cur.toList.drop (k*1+0+(a.eval y).cells.toList.length)).toArray;have hl:=ht.later (L.val id) (L.jE id);have yh:(a.eval y).cells.toList=[L.jE id k]:=by rw[UX,zK.2.2]
     have Uc:(cur.toList.take (k*1+0)++(a.eval y).cells.toList++cur.toList.drop (k*1+0+(a.eval y).cells.toList.length)).toArray=cur.setIfInBounds k (L.jE id k):=by
      rw[yh];apply dL;simp only[cz,bT,gh,aqv];rw[List.set_eq_take_append_cons_drop,bw (by simpa using(aE:k<cur.size))];simp
     rw[Uc]at ht hl;have Jg:∀ x,x≠b->(w.setRow b (cur.setIfInBounds k (L.jE id k))).heap[x]? = w.heap[x]?:=λx hx=>setRow_other w b x _ hx
     refine⟨undef,_,_,.inr ⟨?_,rfl⟩,r.vj id _ _ k1 ht ⟨b,c,cur.setIfInBounds k (L.jE id k),f,by rw[Lk.pQ];exact h1,setRow_heap w b _ _ T1 _ h2,h3,h4,by simpa using h5,?_,?_,?_,?_,?_,?_⟩ ?_,.any _⟩
     .have hr:=Kv hT w pI b (k*1+0) T1 cur h2 (a.eval y) (by rw[yh];simpa using c2.symm) (by rw[yh];simp;omega) (by rw[yh];simpa using zK.1);rw[Uc]at hr;simp only[execOp,iH,k3,Instr.storeAt,Instr.sureAddr,Sem.run_bind,Sem.run_pure,Result.andThen_ok,hr]
     .intro q hq _;rw[Lk.sc];by_cases ud:q=k
      .subst ud;have:q<cur.size:= aE ;simp[this]
      .rw [apX (λe=>ud e.symm)];exact h6 q hq (by simpa using λe=>ud e.symm)
     .intro v hv;rcases Array.mem_or_eq_of_mem_setIfInBounds hv with hv|hv
      .exact h7 v hv
      .subst hv;exact⟨zK.1,zK.2.1⟩
     .intro q hq;obtain⟨p1,p2⟩:=h8 q hq;rw[Lk.sc];exact⟨p1.block λx hx=>Jg x λe=>vQ q hq (e▸hx),λi j hi hj=>⟨hl.lQ (p2 i j hi hj).1,(p2 i j hi hj).2⟩⟩
     .intro x;rw[Lk.sZ];refine(h9 x).trans ?_;simp only[Lk.sc]
     .simp only[Lk.sc];exact uH
     .simp only[Lk.sc];exact vQ
     .intro hn;have:=r.hl hn id _ kq;exact this
    .cases h
   .cases h
  .cases h
 .cases h
def afx(hT:na P T){t:TypeId}(iH:o.op = .alloc t)(r:jI w0 B σ a w L)(h:jN P K T O σ o=some u):kA P K w0 B σ o a w u:=by
 simp only[jN,iH]at h;split at h
 .rename_i ti pI;split at h
  .rename_i z hz;obtain⟨id,hd,nm,kx,rfl⟩:=CD h;obtain⟨zv,yx,su⟩:=Ht hz;obtain⟨q1,q2⟩:=su (jM B L) (ky L) w;obtain⟨L',r',hp⟩:=r.Ww id t z zv nm q1 q2 (by simpa[Bx.nl]using kx);refine⟨_,_,L',.inl ?_,r',hp⟩;simp only[execOp,iH,Instr.alloc,Sem.run_bind,PH hT w pI yx,Result.andThen_ok,newVar,newRow,run_newObj_alloc,Sem.run_pure]
  .cases h
 .cases h
def afB{t:TypeId}{x:Operand}(iH:o.op = .box t x)(r:jI w0 B σ a w L)(h:jN P K T O σ o=some u):kA P K w0 B σ o a w u:=by
 simp only[jN,iH]at h;have hx:=r.op x;split at h
 .rename_i e hv;rw[hv]at hx;split at h
  .rename_i l hl;obtain⟨id,hd,nm,kx,rfl⟩:=CD h;obtain⟨q1,q2⟩:=hx.cells hl;obtain⟨L',r',hp⟩:=r.Ww id t l (a.eval x) nm q1 q2 (by simpa[Bx.nl]using kx);refine⟨_,_,L',.inl ?_,r',hp⟩;simp only[execOp,iH,Instr.box,Sem.run_bind,Result.andThen_ok,newVar,newRow,run_newObj_alloc,Sem.run_pure]
  .cases h
 .cases h
end
def ae9(us:List Value):∀ (off k:Nat) (cs:Array Value),off+k+us.length<=cs.size ->
 (us.zipIdx k).foldl (λcs (c:Value×Nat)=>cs.setIfInBounds (off+c.2) c.1) cs=(cs.toList.take (off+k)++us++cs.toList.drop (off+k+us.length)).toArray:=by
 induction us with
 |nil=>intro off k cs h;simp
 |cons x us ih=>
  intro off k cs h;simp only[List.zipIdx_cons,List.foldl_cons];rw[ih off (k+1) _ (by simp at h ⊢;omega)];apply dL;simp only[dA]at h;obtain⟨A,y,D,oz,hA⟩:∃ A y D,cs.toList=A++y::D/\A.length=off+k:=by
   have iL:off+k<cs.toList.length:= aS ;refine⟨cs.toList.take (off+k),cs.toList[off+k],cs.toList.drop (off+k+1),?_,by rw[cJ];omega⟩;rw[<-fC iL,apS]
  simp only[aqv,dA,oz,<-hA];rw[List.set_append_right _ _ (bC _),dc,ap2,
   show off+(k+1)+us.length=A.length+(us.length+1)by omega,(aE:off+(k+1)=A.length+1),
   List.take_length_add_append,aqw,List.take_left,aqw]
  simp
def ae7(place:Nat->Option (Nat×Nat))(cs:Array Value)(i:Nat)(v:Value)(rest:List (Nat×Value))(off:Nat)(hp:place i=some (off,v.cells.toList.length))(oQ:off+v.cells.toList.length<=cs.size):
 Instr.fill place cs ((i,v)::rest)=Instr.fill place (cs.toList.take off++v.cells.toList++cs.toList.drop (off+v.cells.toList.length)).toArray rest:=by
 have h1:¬(v.cells.size≠v.cells.toList.length\/off+v.cells.size>cs.size):=by simp at oQ ⊢;omega
 have hf:=ae9 v.cells.toList off 0 cs (by simpa using oQ);simp only[bT]at hf;have h2:(v.cells.zipIdx.foldl (λcs (c,j)=>cs.setIfInBounds (off+j) c) cs)=(cs.toList.take off++v.cells.toList++cs.toList.drop (off+v.cells.toList.length)).toArray:=by
  rw[<-hf,<-Array.foldl_toList,Array.toList_zipIdx]
 rw[Instr.fill,hp];simp only;rw[bu (by simpa using h1),h2]
section
variable {P:Program} {K:World->Prop} {T:List TI} {O:qE} {w0:World} {B:Nat->Prop} {σ:PS} {o:Oper} {a:Act} {w:World} {L:Lk} {u:lh}
def Mt(r:jI w0 B σ a w L){place:Nat->Option (Nat×Nat)}{ps:List (Nat×Operand)}{l m:List E}{cs:Array Value}(h:sn σ place l ps=some m)
 (hr:kD (jM B L) (ky L) w l cs.toList) (h1:∀ u ∈ cs,u.oneCell'=true):
 ∃ cs',Instr.fill place cs (ps.map λx=>(x.1,a.eval x.2))=some cs'/\kD (jM B L) (ky L) w m cs'.toList/\(∀ u ∈ cs',u.oneCell'=true):=by
 induction ps generalizing l cs with
 |nil=>
  simp only[sn]at h;cases h;exact⟨cs,rfl,hr,h1⟩
 |cons p ps ih=>
  obtain⟨i,x⟩:=p;simp only[sn]at h;have hx:=r.op x;split at h
  .rename_i off size e hp hv;rw[hv]at hx;split at h
   .rename_i q hq;split at h
    .rename_i hc;simp only[ch]at hc;have c1:=ns.1 hc.1;have c2:=dk hc.2;obtain⟨q1,q2⟩:=hx.cells hq;have hlen:(a.eval x).cells.toList.length=size:=by rw[q1.len,c1]
     have M4:=hr.len;rw[fK,ae7 place cs i (a.eval x) _ off (by rw[hlen];exact hp) (by rw[q1.len];simp at M4;omega)];refine ih h (W4 hr q1 off) λv hv=>?_
     simp only[gR,er]at hv;rcases hv with(hv|hv)|hv
     .exact h1 v (by have:=eW hv;simpa using this)
     .exact q2 v hv
     .exact h1 v (by have:=fw hv;simpa using this)
    .cases h
   .cases h
  .cases h
def WY(ps:Array (Nat×Operand))(a:Act):(ps.map λ(x:Nat×Operand)=>(x.1,a.eval x.2)).toList=ps.toList.map λx=>(x.1,a.eval x.2):= aK 
def ajJ{P:Program}(hT:na P T){fs:List Field}{pl:List (Nat×Nat)}(h:GK T fs=some pl):fs.mapM (λf=>(P.info? f.type).map λi=>(f.offset,i.size))=some pl:=by
 induction fs generalizing pl with
 |nil=>simp only[GK]at h;cases h;rfl
 |cons f fs ih=>
  simp only[GK]at h;split at h
  .rename_i ti l h1 h2;cases h;simp[fN,hT.Bh h1,ih h2]
  .cases h
def afC(hT:na P T){t:TypeId}{ps:Array (Nat×Operand)}(iH:o.op = .build t ps)(r:jI w0 B σ a w L)(h:jN P K T O σ o=some u):kA P K w0 B σ o a w u:=by
 simp only[jN,iH]at h;have main:∀ (l:List E) (cs:Array Value),P.built t (ps.toList.map λx=>(x.1,a.eval x.2))=some cs->kD (jM B L) (ky L) w l cs.toList->u={ r:=.e (.agg l) }->kA P K w0 B σ o a w u:=by
  intro l cs hb hr hu;subst hu;have mq:=run_build (P:=P) w t (ps.map λ(x:Nat×Operand)=>(x.1,a.eval x.2)) cs (by rw[WY];exact hb);refine kA.pure r (v:=.agg cs) ?_ rfl (by have:=hr.agg;rwa[Array.toArray_toList]at this);simp only[execOp,iH,Sem.run_bind,mq,Result.andThen_ok,Sem.run_pure]
 split at h
 .rename_i ti pI;split at h
  .rename_i z hz;obtain⟨zv,yx,su⟩:=Ht hz;obtain⟨q1,q2⟩:=su (jM B L) (ky L) w;split at h
   .rename_i fs hd;split at h
    .rename_i pl Ci;obtain⟨l,hl,rfl⟩:=dg.1 h;obtain⟨cs,p1,p2,_⟩:=Mt r hl q1 (λu hu=>q2 u (by simpa using hu));refine main l cs ?_ p2 rfl;unfold Program.built;rw[hT.Bh pI,hT.qZ pI,hd];simp only[yx,ajJ hT Ci];have:(λx:Nat=>pl.toArray[x]?)=λx=>pl[x]?:=by funext x;simp
     rw[this];exact p1
    .cases h
   .rename_i n e hd;split at h
    .rename_i te qi;obtain⟨l,hl,rfl⟩:=dg.1 h;obtain⟨cs,p1,p2,_⟩:=Mt r hl q1 (λu hu=>q2 u (by simpa using hu));refine main l cs ?_ p2 rfl;unfold Program.built;rw[hT.Bh pI,hT.qZ pI,hd];simp only[yx,hT.Bh qi];exact p1
    .cases h
   .cases h
  .cases h
 .cases h
def Ye{α:Type}(n:Nat)(l:List α):(lQ n l).length=n*l.length:=by
 induction n with
 |zero=>simp[lQ]
 |succ n ih=>simp only[lQ,cE,ih,ct,ck];omega
def alx{α:Type}(n:Nat)(l:List α)(q:Nat)(h:q<n*l.length):(lQ n l)[q]? = l[q%l.length]?:=by
 induction n generalizing q with
 |zero=>simp at h
 |succ n ih=>
  simp only[lQ];rw[ct,ck]at h;by_cases hq:q<l.length
  .rw [dK hq,bU hq]
  .rw [fc aE,ih _ aE];congr 1;exact(Nat.mod_eq_sub_mod aE).symm
def aly{bs br:Nat->Prop}{z:List E}{zs:Array Value}(h:kD bs br w z zs.toList)(n:Nat):kD bs br w (lQ n z) ((Array.range (n*zs.size)).map (zs[· % zs.size]!)).toList:=by
 have hl:=h.len;simp only[ef]at hl;refine⟨by simp[Ye,hl],λi p x hp hx=>?_⟩;have hi:i<n*zs.size:=by
  have:=(cH.1 hx).1;simpa using this
 have hz:0<zs.size:=by
  rcases eP zs.size with h0|h0
  .rw [h0]at hi;simp at hi
  .exact h0
 rw[alx _ _ _ (by rw[<-hl];exact hi),<-hl]at hp;have iL:=bM i hz;simp[hi]at hx;subst hx;rw[fM zs _ iL];exact h.lQ _ p _ hp (by simp[iL])
def YX(hB:∀ b,B b->b<w0.heap.size)(r:jI w0 B σ a w L)(e:TypeId)(n sz:Nat)(l:List E)(cs:Array Value)(nl:Bool)(hr:kD (jM B L) (ky L) w l cs.toList)(h1:∀ u ∈ cs,u.oneCell'=true)(hlen:cs.size=n*sz)
 (tu:n<=9223372036854775807) (kx:nl=true->l.all E.nL=true) (xj:l.all (E.nr 2)=true):
 jI w0 B σ a (w.alloc (.cells cs e)) L/\iN (jM B L) (ky L) (w.alloc (.cells cs e)) (.sl nl n sz λi j=>l.getD (i*sz+j) (.v (.bool false))) (.slice (some ⟨w.heap.size,0,none⟩) n n):=by
 have hb:Below w.heap.size w (w.alloc (.cells cs e)):=(Below.refl _ _).alloc (bC _) _;have hl:tM L w L (w.alloc (.cells cs e)):=⟨hb.size,λ_ _ h=>h,λx hx _=>hb.block x hx⟩
 refine⟨r.later hb,?_⟩;have mN:∀ i j,i<n->j<sz->i*sz+j<cs.size:=by
  intro i j hi hj;rw[hlen];have:=bX sz (show i+1<=n from hi);rw[ct,ck]at this;omega
 have hll:=hr.len;simp only[ef]at hll;refine .sl nl n sz _ _ n (λi j=>cs.getD (i*sz+j) undef) (bC _) tu (λh=>by cases h) (λi j hi hj=>?_) (λi j hi hj=>?_) (λi j hi hj=>?_) (λi j hi hj=>?_)
 .have hq:=mN i j hi hj;have e1:cs.getD (i*sz+j) undef=cs[i*sz+j]:=by simp[hq]
  rw[e1];refine⟨h1 _ (gP hq),λqR=>?_⟩;have uP:i*sz+j<l.length:= aE ;exact(hr.lQ (i*sz+j) _ _ (bI uP) (by simp[hq])).nL (cr.1 (kx qR) _ (cN uP))
 .have hq:=mN i j hi hj;have uP:i*sz+j<l.length:= aE ;rw[bD,bI uP];exact cr.1 xj _ (cN uP)
 .have hq:=mN i j hi hj;refine⟨w.heap.size,0,rfl,λyg=>?_,aK,?_⟩
  .rcases yg with hx|⟨id,hx⟩
   .have:=hB _ hx;have:=r.he.size;omega
   .have:=(r.hw id _ hx).2;omega
  .rw [cD,World.cell?_alloc_new];simp[hq]
 .have hq:=mN i j hi hj;have uP:i*sz+j<l.length:= aE ;have e1:cs.getD (i*sz+j) undef=cs[i*sz+j]:=by simp[hq]
  rw[e1,bD,bI uP];exact hl.lQ (hr.lQ (i*sz+j) _ _ (bI uP) (by simp[hq]))
def ahH{l:List E}{vs:List Value}{bs br:Nat->Prop}{w:World}(h:kD bs br w l vs)(hl:l.all E.nL=true):∀ v ∈ vs,sR v=false:=by
 intro v hv;obtain⟨i,hi⟩:=dJ.1 hv;obtain⟨yl,_⟩:=cH.1 hi;have FK:i<l.length:=by have:=h.len;omega
 exact(h.lQ i _ v (bI FK) hi).nL (cr.1 hl _ (cN FK))
def afD(hT:na P T)(hB:∀ b,B b->b<w0.heap.size){t:TypeId}{n:Nat}{ps:Array (Nat×Operand)}(iH:o.op = .buildSlice t n ps)(r:jI w0 B σ a w L)(h:jN P K T O σ o=some u):kA P K w0 B σ o a w u:=by
 simp only[jN,iH]at h;split at h
 .rename_i tt rZ;split at h
  .rename_i e hd;split at h
   .rename_i te qi;split at h
    .rename_i z hz;split at h
     .rename_i hc;simp only[ch]at hc;have c1:=ns.1 hc.1.1;have c2:=dk hc.2;obtain⟨zv,yx,su⟩:=Ht hz;obtain⟨q1,q2⟩:=su (jM B L) (ky L) w;have hu:P.underlying t=some (.slice e):=by rw[hT.qZ rZ,hd]
      have Bg:zv.cells.size=te.i.size:=by have:=q1.len;simp only[ef]at this;omega
      obtain⟨l,hl,h⟩:=gS.1 h;obtain⟨cs,p1,p2,p3⟩:=Mt r hl (aly q1 n) (λv hv=>by
       simp only[gv,gw]at hv;obtain⟨q,hq,rfl⟩:=hv;have Cq:0<zv.cells.size:=by
        rcases eP zv.cells.size with h0|h0
        .rw [h0]at hq;simp at hq
        .exact h0
       rw[fM zv.cells _ (bM q Cq)];exact q2 _ aK)
      have hlen:l.length=n*te.i.size:=by
       have:∀ (ps:List (Nat×Operand)) (l m:List E),sn σ (λi=>some (i*te.i.size,te.i.size)) l ps=some m->m.length=l.length:=by
        intro ps
        induction ps with
        |nil=>intro l m h;simp only[sn]at h;cases h;rfl
        |cons p ps ih=>
         intro l m h;obtain⟨i,x⟩:=p;simp only[sn]at h;split at h
         .split at h
          .split at h
           .rename_i hc;simp only[ch]at hc;have:=dk hc.2;rw[ih _ _ h];simp[Bt];omega
           .cases h
          .cases h
         .cases h
       rw[this _ _ _ hl,Ye,c1]
      have oz:cs.size=n*te.i.size:=by have:=p2.len;simp only[ef]at this;omega
      have Ui:Instr.fill (λi=>some (i*te.i.size,te.i.size)) ((Array.range (n*te.i.size)).map (zv.cells[· % zv.cells.size]!)) (ps.map λ(x:Nat×Operand)=>(x.1,a.eval x.2)).toList=some cs:=by
       rw[WY,<-Bg];rw[<-Bg]at p1;exact p1
      have mq:(execOp a.eval o).run P w = .ok (.value (.slice (some ⟨w.heap.size,0,none⟩) n n)) (w.alloc (.cells cs e)):=by
       have A8:¬(n*te.i.size>16777216):= aE ;by_cases h0:n*te.i.size=0
       .have e0:∀ g:Nat->Value,(Array.range 0).map g = #[]:=λg=>by simp[Array.range]
        have Uj:=Ui;rw[h0,e0]at Uj;have z24:¬(0>2^24):= aG ;simp only[execOp,iH,Instr.buildSlice,Sem.run_bind,run_underlying hu,Result.andThen_ok,xE hT w qi,A8,bJ,h0,z24,bQ,Sem.run_pure,e0,Uj,newRow,run_newObj_alloc]
       .simp only[execOp,iH,Instr.buildSlice,Sem.run_bind,run_underlying hu,Result.andThen_ok,xE hT w qi,A8,bJ,h0,Sem.run_pure,PH hT w qi yx,Ui,newRow,run_newObj_alloc]
      have kg:n<=9223372036854775807:=by
       have:=gO n (dk hc.1.2);omega
      by_cases xj:l.all (E.nr 2)=true
      .simp only[xj,fJ,bS,bJ]at h;split at h
       .
        obtain⟨id,Ug,nm,kx,rfl⟩:=CD h;have hb:Below w.heap.size w (w.alloc (.cells cs e)):=(Below.refl _ _).alloc (bC _) _;have ht:si L w id (λx=>x=w.heap.size) (w.alloc (.cells cs e)):=⟨λx hx=>⟨.inr aE,aS⟩,hb.size,λx hx _=>hb.block x hx,rfl,rfl,rfl⟩
        have iL:=ht.later (.slice (some ⟨w.heap.size,0,none⟩) n n) (λ_=>undef);have DY:∀ i j,i<n->j<te.i.size->i*te.i.size+j<n*te.i.size:=by
         intro i j hi hj;have:=bX te.i.size (show i+1<=n from hi);rw[ct,ck]at this;omega
        refine⟨_,_,_,.inl mq,r.new id _ (λx=>x=w.heap.size) (.slice (some ⟨w.heap.size,0,none⟩) n n) (λ_=>undef) _ nm (λx hx=>by subst hx;simp) hb
         ⟨λi j=>cs.getD (i*te.i.size+j) undef,.inr ⟨w.heap.size,n,cs,Lk.pQ,heap_alloc_new w _,bC _,by unfold maxLen;omega,oz,λi j hi hj=>?_,λhn u hu=>?_⟩,λx=>?_,λi j hi hj=>?_⟩ kx,Lk.BE,Lk.pQ.symm⟩
        .have hq:i*te.i.size+j<cs.size:=by rw[oz];exact DY i j hi hj
         have e1:cs.getD (i*te.i.size+j) undef=cs[i*te.i.size+j]:=by simp[hq]
         show cs[i*te.i.size+j]? = some (cs.getD (i*te.i.size+j) undef)/\(cs.getD (i*te.i.size+j) undef).oneCell'=true;rw[e1];exact⟨by simp[hq],p3 _ aK⟩
        .exact ahH p2 hn u (by simpa using hu)
        .rw [Lk.sZ,Lk.pQ];simp only[Value.ownBlock,cg];exact eq_comm
        .have hq:i*te.i.size+j<cs.size:=by rw[oz];exact DY i j hi hj
         have vZ:i*te.i.size+j<l.length:=by rw[hlen];exact DY i j hi hj
         have e1:cs.getD (i*te.i.size+j) undef=cs[i*te.i.size+j]:=by simp[hq]
         simp only[bD,bI vZ,ap3,e1];exact⟨iL.lQ (p2.lQ _ _ _ (bI vZ) (by simp[hq])),cr.1 xj _ (cN vZ)⟩
       split at h
       .rename_i A0;cases h;obtain⟨r',hp⟩:=YX hB r e n te.i.size l cs true p2 p3 oz kg (λ_=>A0) xj;exact⟨_,_,L,.inl mq,r',hp⟩
       .cases h;obtain⟨r',hp⟩:=YX hB r e n te.i.size l cs false p2 p3 oz kg (λh=>by cases h) xj;exact⟨_,_,L,.inl mq,r',hp⟩
      .simp [xj]at h
     .cases h
    .cases h
   .cases h
  .cases h
 .cases h
end
def Md{P:Program}{t e:TypeId}(h:P.underlying t=some (.slice e)):P.elem t=e:=by simp[Program.elem,h]
def ad1{P:Program}{t e:TypeId}{n:Nat}(h:P.underlying t=some (.array n e)):P.elem t=e/\P.arrayLen t=n:=by simp[Program.elem,Program.arrayLen,h]
section
variable {P:Program} {K:World->Prop} {T:List TI} {O:qE} {w0:World} {B:Nat->Prop} {σ:PS} {o:Oper} {a:Act} {w:World} {L:Lk} {u:lh}
def afJ(hT:na P T){t:TypeId}{x i:Operand}(iH:o.op = .indexAddr t x i)(r:jI w0 B σ a w L)(h:jN P K T O σ o=some u)(ho:∀ q,q ∈ u.ke->q):kA P K w0 B σ o a w u:=by
 simp only[jN,iH,IM]at h;have hx:=r.op x;have hi:=r.op i;split at h
 .rename_i k z hpi;rw[hpi]at hi;have hi:=iN.kW hi;split at h
  .rename_i tt rZ;split at h
   .
    rename_i e hd;have hu:P.underlying t=some (.slice e):=by rw[hT.qZ rZ,hd]
    have he:=Md hu;split at h
    .rename_i te qi;have mq:∀ (ad:Addr) (n c:Nat),a.eval x = .slice (some ad) n c->0<=z->z<n->(execOp a.eval o).run P w = .ok (.value (.pointer (some (ad.add (z.toNat*te.i.size))))) w:=by
      intro ad n c e1 h0 h1;have hr:=run_indexAt_slice (P:=P) w t ad n c k z (by rw[he];exact hu);rw[bw ⟨h0,h1⟩,he,xE hT w qi]at hr;simp only[execOp,iH,e1,hi,Sem.run_bind,hr,Result.andThen_ok,Sem.run_pure]
     split at h
     .rename_i nl n sz el ss;rw[ss]at hx;split at h
      .rename_i hs;simp only[ch]at hs;have wb:=dk hs.2;have hs:=ns.1 hs.1;cases h;have hz:0<=z/\z<n:=ho _ aK;have JD:z.toNat<n:= aE ;generalize hq:a.eval x=q at hx;cases hx with
       |sl _ _ _ _ A c f hc hm h0 hl xj cell kk=>
        obtain⟨b,of,e1,hb,iL,_⟩:=cell z.toNat 0 JD wb;subst e1;refine kA.pure r (mq ⟨b,of,none⟩ n c hq hz.1 hz.2) rfl ?_;rw[Addr.add_lit,hs];refine .kn sz _ b _ (λj=>f z.toNat j) (λhm=>hb (.inr hm)) iL (λj hj=>(hl _ _ JD hj).1) (λj hj=>?_) (λj hj=>kk _ _ JD hj);obtain⟨b',of',e2,_,_,zw⟩:=cell z.toNat j JD hj;cases e2;rwa[<-df]at zw
      .cases h
     .rename_i id ss;rw[ss]at hx;split at h
      .rename_i nl T1 n sz el kq;split at h
       .rename_i hs;have hs:=ns.1 hs;cases h;have hz:0<=z/\z<n:=ho _ aK;obtain⟨f,h1,h2,h3⟩:=r.hb id _ kq;obtain⟨k1,k2⟩:=hx;rcases h1 with⟨h1,qR⟩|⟨b,c,cur,h1,hg,qs,oI,oz,mf,kx⟩
        .omega
        .rw [h1]at k2;refine kA.pure r (mq ⟨b,0,none⟩ n c k2 hz.1 hz.2) rfl ⟨k1,b,n,c,h1,?_⟩;rw[Addr.add_lit,hs,cD,bT]
       .cases h
      .rename_i nl T1 T0 n sz len el pend kq;split at h
       .rename_i hs;have hs:=ns.1 hs;cases h;have hz:0<=z/\z<n:=ho _ aK;obtain⟨b,c,cur,f,h1,h2,h3,h4,h5,h6,h7,h8,h9,uH,vQ⟩:=r.hb id _ kq;obtain⟨k1,k2⟩:=hx;rw[h1]at k2;refine kA.pure r (mq ⟨b,0,none⟩ n c k2 hz.1 hz.2) rfl ⟨k1,b,n,c,h1,?_⟩;rw[Addr.add_lit,hs,cD,bT]
       .cases h
      .cases h
     .cases h
    .cases h
   .
    rename_i n e hd;have hu:P.underlying t=some (.array n e):=by rw[hT.qZ rZ,hd]
    obtain⟨he,hn⟩:=ad1 hu;split at h
    .rename_i te qi;have mq:∀ (ad:Addr),a.eval x = .pointer (some ad)->0<=z->z<n->(execOp a.eval o).run P w = .ok (.value (.pointer (some (ad.add (z.toNat*te.i.size))))) w:=by
      intro ad e1 h0 h1;have hr:=run_indexAt_array (P:=P) w t ad k z (by rw[he,hn];exact hu);rw[hn,bw ⟨h0,h1⟩,he,xE hT w qi]at hr;simp only[execOp,iH,e1,hi,Sem.run_bind,hr,Result.andThen_ok,Sem.run_pure]
     split at h
     .rename_i id off ss;rw[ss]at hx;cases h;have hz:0<=z/\z<n:=ho _ aK;obtain⟨k1,b,k2,k3⟩:=hx;refine kA.pure r (mq _ k3 hz.1 hz.2) rfl ⟨k1,b,k2,?_⟩;rw[Addr.add_lit]
     .rename_i m el ss;rw[ss]at hx;split at h
      .rename_i hs;have hs:=ns.1 hs;cases h;have hz:0<=z/\z<n:=ho _ aK;have mN:∀ j,j<te.i.size->z.toNat*te.i.size+j<m:=by
        intro j hj;rw[<-hs];have:=bX te.i.size (aE:z.toNat+1<=n);rw[ct,ck]at this;omega
       generalize hq:a.eval x=q at hx;cases hx with
       |kn _ _ b of f hb iL hl cell kk=>
        refine kA.pure r (mq _ hq hz.1 hz.2) rfl ?_;rw[Addr.add_lit];refine .kn te.i.size _ b _ (λj=>f (z.toNat*te.i.size+j)) hb iL (λj hj=>hl _ (mN j hj)) (λj hj=>?_) (λj hj=>kk _ (mN j hj));have:=cell _ (mN j hj);rwa[<-df]at this
      .cases h
     .cases h
    .cases h
   .cases h
  .cases h
 .cases h
def afV(hT:na P T){t:TypeId}{x:Operand}{lo hi:Option Operand}(iH:o.op = .slice t x lo hi none)(r:jI w0 B σ a w L)(h:jN P K T O σ o=some u)(ho:∀ q,q ∈ u.ke->q):kA P K w0 B σ o a w u:=by
 simp only[jN,iH,IQ]at h;have hx:=r.op x;split at h
 .rename_i nl n sz el ss;rw[ss]at hx;split at h
  .rename_i tt rZ;split at h
   .rename_i e hd;have hu:P.underlying t=some (.slice e):=by rw[hT.qZ rZ,hd]
    have he:=Md hu;have D7:P.underlying t=some (.slice (P.elem t)):=by rw[he];exact hu
    split at h
    .rename_i te qi;split at h
     .rename_i hs;have hs:=ns.1 hs;generalize hq:a.eval x=q at hx;cases hx with
      |sl _ _ _ _ A c f hc hm h0 hl xj cell kk=>
       have fin:∀ l h':Nat,l<=h'->h'<=n->iN (jM B L) (ky L) w (.sl nl (h'-l) sz λi j=>el (l+i) j) (sliced A l h' c te.i.size):=by
        intro l h' hlh hhn;unfold sliced;refine .sl nl (h'-l) sz _ _ (c-l) (λi j=>f (l+i) j) aE aE (λhA=>?_) (λi j hi hj=>hl _ _ aE hj) (λi j hi hj=>xj _ _ aE hj) (λi j hi hj=>?_) (λi j hi hj=>kk _ _ aE hj)
        .split at hA
         .have:=h0 hA;omega
         .have:=h0 (by simpa using hA);omega
        .obtain ⟨b,of,e1,hb,iL,mf⟩:=cell (l+i) j aE hj;subst e1;rw[bu aE];refine⟨b,of+l*te.i.size,by rw[dm,Addr.add_lit],hb,iL,?_⟩;rw[hs];rw[ct]at mf;rw[<-mf];congr 2;omega
       have run:∀ (l h':Nat) (lo' nh:Option Value),lo.map a.eval=lo'->hi.map a.eval=nh->(Instr.slice t (.slice A n c) lo' nh none).run P w = .ok (sliced A l h' c te.i.size) w ->
        (execOp a.eval o).run P w = .ok (.value (sliced A l h' c te.i.size)) w:=by
        intro l h' lo' nh e1 e2 hr;simp only[execOp,iH,Sem.run_bind,hq,e1,e2,Option.map_none,run_sliceAt_slice (P:=P) w t _ _ _ _ D7,hr,Result.andThen_ok,Sem.run_pure]
       split at h
       .rename_i kh hh vW zE;cases h;have hb:0<=hh/\hh<=n:=ho _ aK;cases lo with
        |some _=>simp at vW
        |none=>
         cases hi with
         |none=>simp at zE
         |some hi=>
          simp only[dm,cg]at zE;have hv:=r.op hi;rw[zE]at hv;have hv:=iN.kW hv;have hr:=run_slice_h (P:=P) w t A n c D7 kh hh hb.1 aE;rw[he,xE hT w qi]at hr;have hf:=fin 0 hh.toNat (cj _) aE ;simp only[dM,cD]at hf;exact kA.pure r (run 0 hh.toNat none (some (.int kh hh)) rfl (by rw[dm,hv]) hr) rfl hf
       .rename_i kl ll vW zE;cases h;have hb:0<=ll/\ll<=n:=ho _ aK;cases hi with
        |some _=>simp at zE
        |none=>
         cases lo with
         |none=>simp at vW
         |some lo=>
          simp only[dm,cg]at vW;have hv:=r.op lo;rw[vW]at hv;have hv:=iN.kW hv;have hr:=run_slice_l (P:=P) w t A n c D7 kl ll hb.1 hb.2;rw[he,xE hT w qi]at hr;exact kA.pure r (run ll.toNat n (some (.int kl ll)) none (by rw[dm,hv]) rfl hr) rfl (fin ll.toNat n aE (bC _))
       .rename_i kl ll kh hh vW zE;cases h;have hb:0<=ll/\ll<=hh/\hh<=n:=ho _ aK;cases hi with
        |none=>simp at zE
        |some hi=>
         cases lo with
         |none=>simp at vW
         |some lo=>
          simp only[dm,cg]at vW zE;have hv:=r.op lo;rw[vW]at hv;have hv:=iN.kW hv;have rD:=r.op hi;rw[zE]at rD;have rD:=iN.kW rD;have hr:=run_slice_lh (P:=P) w t A n c D7 kl kh ll hh hb.1 hb.2.1 aE;rw[he,xE hT w qi]at hr;exact kA.pure r (run ll.toNat hh.toNat (some (.int kl ll)) (some (.int kh hh)) (by rw[dm,hv]) (by rw[dm,rD]) hr) rfl (fin ll.toNat hh.toNat aE aE)
       .cases h
     .cases h
    .cases h
   .cases h
  .cases h
 .cases h
end
section
variable {P:Program} {K:World->Prop} {T:List TI} {O:qE} {w0:World} {B:Nat->Prop} {σ:PS} {o:Oper} {a:Act} {w:World} {L:Lk} {u:lh}
def acB{x:Value}{l:List E}(h:(E.v x).cells? = some l):∀ e,e ∈ l->e.nr 2=true:=by
 intro e he;cases x<;>simp only[E.cells?]at h
 case agg cs=>
  split at h
  .cases h;obtain⟨q,_,rfl⟩:=dC.1 he;rfl
  .cases h
 all_goals
  split at h
  .cases h;simp only[List.mem_singleton]at he;subst he;rfl
  .cases h
def apc{ti:TI}{l:List E}(h:AE ti=some l):∀ e,e ∈ l->e.nr 2=true:=by
 unfold AE at h;split at h
 .exact acB h
 .cases h
def N7{l:List E}{vs:List Value}{bs br:Nat->Prop}(h:kD bs br w l vs)(hl:l.all E.nL=true):∀ v ∈ vs,sR v=false:=by
 intro v hv;obtain⟨q,hq⟩:=dJ.1 hv;have vZ:q<l.length:=by rw[<-h.len];exact(cH.1 hq).1
 exact(h.lQ q _ v (bI vZ) hq).nL (cr.1 hl _ (cN vZ))
def VV{z:Array Value}{n q:Nat}(hz:0<z.size)(hq:q<n):(madeCells z n)[q]? = some (z[q%z.size]'(bM _ hz)):=by
 unfold madeCells;simp[hq];rw[fM z _ (bM _ hz)]
def VW{z:Array Value}{n:Nat}(hz:0<z.size){v:Value}(hv:v ∈ madeCells z n):v ∈ z:=by
 unfold madeCells at hv;simp only[gv,gw]at hv;obtain⟨q,hq,rfl⟩:=hv;rw[fM z _ (bM _ hz)];exact gP _
def afO(hT:na P T){t:TypeId}{l c:Operand}(iH:o.op = .makeSlice t l c)(r:jI w0 B σ a w L)(h:jN P K T O σ o=some u)(ho:∀ q,q ∈ u.ke->q):kA P K w0 B σ o a w u:=by
 simp only[jN,iH,IP]at h;have hl:=r.op l;have hc:=r.op c;split at h
 .rename_i bx ke iV;obtain⟨id,Ug,nm,kx,rfl⟩:=CD h;clear h;simp only[SS]at iV;split at iV
  rotate_left
  .cases iV
  rename_i kl zl kc zc Ci hpc;rw[Ci]at hl;rw[hpc]at hc;have hl:=iN.kW hl;have hc:=iN.kW hc;split at iV
  .rename_i tt rZ;split at iV
   .rename_i e hd;have hu:P.underlying t=some (.slice e):=by rw[hT.qZ rZ,hd]
    split at iV
    .rename_i te qi;split at iV
     .rename_i z hz;split at iV
      .rename_i zz;simp only[ch]at zz;have c1:=ns.1 zz.1;have c2:=dk zz.2;obtain⟨zv,yx,su⟩:=Ht hz;obtain⟨q1,q2⟩:=su (jM B L) (ky L) w;have Bg:zv.cells.size=te.i.size:=by have:=q1.len;simp only[ef]at this;omega
       have Cq:0<zv.cells.size:= aE ;have key:∀ (h1:0<=zl/\zl<=zc) (h2:(te.i.bytes:Int)*zc<=281474976710656/\zc<=9223372036854775807),
        (execOp a.eval o).run P w = .ok (.value (.slice (some ⟨w.heap.size,0,none⟩) zl.toNat zc.toNat)) (w.alloc (.cells (madeCells zv.cells (zc.toNat*te.i.size)) e)):=by
        intro h1 h2;have hr:=run_make (P:=P) w t e te.i zv hu (hT.Bh qi) yx kl kc zl zc h1.1 h1.2 h2.1 h2.2;simp only[execOp,iH,hl,hc,Sem.run_bind,hr,Result.andThen_ok,Sem.run_pure]
       have hb:∀ o':Obj,Below w.heap.size w (w.alloc o'):=λo'=>(Below.refl _ _).alloc (bC _) _
       have lens:zl<=zc->zc<=9223372036854775807->zl.toNat<=zc.toNat/\zc.toNat<=maxLen:=by intro h1 h2;unfold maxLen;omega
       split at iV
       .
        rename_i e0 hd0;split at iV
        .rename_i t0 Nx;obtain⟨y,ys,D9,hy,Cf⟩:=q1.mI;have hy:=iN.kW hy;have Cf:=Cf.qm;subst hy Cf;have U1:zv.cells = #[.slice none 0 0]:=by apply dL;rw[D9]
         have lW:te.i.size=1:=by rw[<-Bg,U1];rfl
         cases iV;have h1:0<=zl/\zl<=zc:=ho _ aK;have h2:(te.i.bytes:Int)*zc<=281474976710656/\zc<=9223372036854775807:=ho _ aK;have hlen:=lens h1.2 h2.2;have A0:∀ v,v ∈ madeCells zv.cells (zc.toNat*te.i.size)->v = .slice none 0 0:=λv hv=>by
          have:=VW Cq hv;rw[U1]at this;simpa using this
         refine⟨_,_,_,.inl (key h1 h2),r.new id _ (λx=>x=w.heap.size) (.slice (some ⟨w.heap.size,0,none⟩) zl.toNat zc.toNat) (λ_=>.slice none 0 0) _ nm (λx hx=>by subst hx;simp) (hb _)
          ⟨w.heap.size,zc.toNat,_,λ_ _ _=>undef,Lk.pQ,heap_alloc_new w _,hlen.1,hlen.2,by rw[size_madeCells,lW,cz],λk hk _=>?_,λv hv=>?_,λk hk=>?_,λx=>?_,λk k' x hk Uu h1=>?_,λk hk=>?_⟩ kx,Lk.BE,Lk.pQ.symm⟩
         .rw [Lk.sc];have hq:k<zc.toNat*te.i.size:=by rw[lW];omega
          have hg:=VV Cq hq;rw[hg];exact congrArg some (A0 _ (eh hg))
         .rw [A0 v hv];exact⟨rfl,rfl⟩
         .rw [Lk.sc];exact⟨.inl ⟨rfl,rfl⟩,λi j hi=>absurd hi (bO i)⟩
         .rw [Lk.sZ];simp only[Lk.sc,Value.ownBlock];simp
         .rw [Lk.sc]at h1;simp[Value.ownBlock]at h1
         .rw [Lk.sc];simp[Value.ownBlock]
        .cases iV
       .cases iV;have h1:0<=zl/\zl<=zc:=ho _ aK;have h2:(te.i.bytes:Int)*zc<=281474976710656/\zc<=9223372036854775807:=ho _ aK;have hlen:=lens h1.2 h2.2;refine⟨_,_,_,.inl (key h1 h2),r.new id _ (λx=>x=w.heap.size) (.slice (some ⟨w.heap.size,0,none⟩) zl.toNat zc.toNat) (λ_=>undef) _ nm (λx hx=>by subst hx;simp) (hb _)
         ⟨λ_ j=>zv.cells.getD j undef,.inr ⟨w.heap.size,zc.toNat,_,Lk.pQ,heap_alloc_new w _,hlen.1,hlen.2,size_madeCells _ _,λi j hi hj=>?_,λhn v hv=>?_⟩,λx=>?_,λi j hi hj=>?_⟩ kx,Lk.BE,Lk.pQ.symm⟩
        .have hq:i*te.i.size+j<zc.toNat*te.i.size:=by
          have:=bX te.i.size (aE:i+1<=zc.toNat);rw[ct,ck]at this;omega
         have Nl:(i*te.i.size+j)%zv.cells.size=j:=by rw[Bg,bK,dZ,bU hj]
         have rC:j<zv.cells.size:= aE ;rw[VV Cq hq];simp only[Nl];have e1:zv.cells.getD j undef=zv.cells[j]:=by simp[rC]
         rw[e1];exact⟨rfl,q2 _ aK⟩
        .exact N7 q1 hn v (by have:=VW Cq hv;simpa using this)
        .rw [Lk.sZ,Lk.pQ];simp only[Value.ownBlock,cg];exact eq_comm
        .have rC:j<zv.cells.size:= aE ;have Nh:j<z.length:= aE ;have e1:zv.cells.getD j undef=zv.cells[j]:=by simp[rC]
         simp only[e1];rw[bD,bI Nh];obtain⟨p1,_⟩:=su (jM B (L.set id (λx=>x=w.heap.size) (.slice (some ⟨w.heap.size,0,none⟩) zl.toNat zc.toNat) (λ_=>undef))) (ky (L.set id (λx=>x=w.heap.size) (.slice (some ⟨w.heap.size,0,none⟩) zl.toNat zc.toNat) (λ_=>undef))) (w.alloc (.cells (madeCells zv.cells (zc.toNat*te.i.size)) e));exact⟨p1.lQ j _ _ (bI Nh) (by simp[rC]),apc hz _ (cN Nh)⟩
      .cases iV
     .cases iV
    .cases iV
   .cases iV
  .cases iV
 .cases h
def afK(hT:na P T){x:Operand}{t:TypeId}{c:Call}(hc:c={ callee:=.builtin .len,args:=#[x],argTypes:=#[t] })(iH:o.op = .call c){e:TypeId}(hd:wU T t=some (.slice e))(r:jI w0 B σ a w L){rr:Value×List Nat}(h:vK (σ.op x) σ=some rr)(hu:u={ r:=.e (.v rr.1),rb:=rr.2 }):kA P K w0 B σ o a w u:=by
 obtain⟨ti,h1,h2⟩:=AS hd;have UM:P.underlying t=some (.slice e):=by rw[hT.qZ h1,h2]
 have he:=Md UM;have hx:=r.op x;have key:∀ (A:Option Addr) (n cp:Nat),a.eval x = .slice A n cp->rr.1 = .int .i64 (n:Int)->kA P K w0 B σ o a w u:=by
  intro A n cp e1 e2;have hr:=run_len_slice (P:=P) w t o.type A n cp (by rw[he];exact UM);subst hu;refine kA.pure r (v:=.int .i64 (n:Int)) ?_ rfl (by rw[e2];exact .v _);subst hc;have em:(#[x]:Array Operand).map a.eval = #[a.eval x]:= aK ;simp only[execOp,iH,resolve,em,e1,Sem.run_bind,Sem.run_pure,Result.andThen_ok,invoke,builtin,hr];rfl
 cases hp:σ.op x with
 |e y=>
  rw[hp]at h hx;cases y with
  |sl nl n sz el=>
   simp only[vK,cg]at h;generalize hq:a.eval x=q at hx;cases hx with
   |sl _ _ _ _ A c f hc hm h0 hl xj cell kk=>exact key A n c hq (by rw[<-h])
  |v y=>
   have hx:=iN.kW hx;cases y with
   |slice A n cp=>
    simp only[vK,cg]at h;exact key A n cp hx (by rw[<-h])
   |_=>simp[vK]at h
  |_=>simp[vK]at h
 |own id=>
  rw[hp]at h hx;obtain⟨_,k2⟩:=hx;simp only[vK]at h;split at h
  .rename_i nl T1 n sz el kq;simp only[cg]at h;obtain⟨f,q1,_,_⟩:=r.hb id _ kq;rcases q1 with⟨q1,q0⟩|⟨b,c,cur,q1,_⟩
   .rw [q1]at k2;exact key none 0 0 k2 (by rw[<-h,q0])
   .rw [q1]at k2;exact key _ n c k2 (by rw[<-h])
  .rename_i nl T1 T0 n sz len el pend kq;simp only[cg]at h;obtain⟨b,c,cur,f,q1,_⟩:=r.hb id _ kq;rw[q1]at k2;exact key _ n c k2 (by rw[<-h])
  .cases h
 |_=>rw[hp]at h;simp[vK]at h
end
section
variable {P:Program} {K:World->Prop} {T:List TI} {O:qE} {w0:World} {B:Nat->Prop} {σ:PS} {o:Oper} {a:Act} {w:World} {L:Lk} {u:lh}
def qP.sd{v:Value}{T:TypeId}{n sz:Nat}{f:Nat->Nat->Value}{nl nl':Bool}(h:qP w v T n sz f nl)(k:nl'=true->nl=true):qP w v T n sz f nl':=by
 rcases h with h|⟨b,c,cur,h1,h2,h3,h4,h5,h6,h7⟩
 .exact .inl h
 .exact .inr ⟨b,c,cur,h1,h2,h3,h4,h5,h6,λq=>h7 (k q)⟩
def Ty(hT:na P T){s x:Operand}{t:TypeId}{c:Call}(hc:c={ callee:=.builtin .append,args:=#[s,x],argTypes:=#[t,t] })(iH:o.op = .call c)(r:jI w0 B σ a w L)
 (h:AT T σ o.dst t (σ.op s) (σ.op x)=some u) (ho:∀ q,q ∈ u.ke->q):kA P K w0 B σ o a w u:=by
 have hs:=r.op s;have hx:=r.op x;simp only[AT]at h;split at h
 .rename_i nl2 m sz2 el2 ss;rw[ss]at hx;split at h
  .rename_i tt rZ;split at h
   .rename_i e hd;have hu:P.underlying t=some (.slice e):=by rw[hT.qZ rZ,hd]
    split at h
    .rename_i te qi;split at h
     .rename_i z hz;split at h
      .rename_i zz;simp only[ch]at zz;have c1:=ns.1 zz.1.1.1;have c2:=dk zz.1.1.2;have c3:=dk zz.1.2;have c4:=ns.1 zz.2;obtain⟨zv,yx,su⟩:=Ht hz;obtain⟨q1,q2⟩:=su (jM B L) (ky L) w;have Bg:zv.cells.size=sz2:=by have:=q1.len;simp only[ef]at this;omega
       generalize hqx:a.eval x=vx at hx;cases hx with
       |sl _ _ _ _ A cx g hgc hgm FI Ur gnr gcell gk0=>
       have gk:=λi j hi hj=>And.intro (gk0 i j hi hj) (gnr i j hi hj)
       have key:∀ (v:Value) (n:Nat) (f:Nat->Nat->Value) (nl:Bool),a.eval s=v->qP w v e n sz2 f nl->(nl=true->nl2=true/\z.all E.nL=true)->(n+m)*te.i.bytes<=140737488355328 ->
        ∃ v' w',(execOp a.eval o).run P w = .ok (.value v') w'/\Qk w v e n sz2 m f g nl v' w':=by
        intro v n f nl hv pd kx jQ;obtain⟨v',w',hr,oh⟩:=amj P w t o.type e te.i zv sz2 hu (hT.Bh qi) yx c1 Bg aE c3 (λu hu=>q2 u (by simpa using hu)) v n f nl pd A m cx g
         (λk j hk hj=>by obtain⟨b,of,e1,_,_,sr⟩:=gcell k j hk hj;exact⟨b,of,e1,sr⟩) (λhA=>by have:=FI hA;omega)
         (λk j hk hj=>⟨(Ur k j hk hj).1,λhn=>(Ur k j hk hj).2 (kx hn).1⟩) (λhn u hu=>N7 q1 (kx hn).2 u (by simpa using hu)) jQ
        refine⟨v',w',?_,oh⟩;subst hc;have em:(#[s,x]:Array Operand).map a.eval = #[a.eval s,a.eval x]:= aK ;simp only[execOp,iH,resolve,em,hv,hqx,Sem.run_bind,Sem.run_pure,Result.andThen_ok,invoke,builtin,hr]
       split at h
       .
        rename_i id FQ;rw[FQ]at hs;split at h
        .rename_i nl T1 n sz el kq;split at h
         .rename_i sr;simp only[ch]at sr;have d1:=ns.1 sr.1.1;have d2:=ns.1 sr.1.2;subst d1 d2;cases h;have jQ:(n+m)*te.i.bytes<=140737488355328:=ho _ aK;obtain⟨f,p1,p2,p3⟩:=r.hb id _ kq;obtain⟨k1,k2⟩:=hs;have kx:(nl&&(nl2&&z.all E.nL))=true->nl2=true/\z.all E.nL=true:=λhn=>by simp only[ch]at hn;exact hn.2
          obtain⟨v',w',mq,oh⟩:=key (L.val id) n f _ k2 (p1.sd λhn=>by simp only[ch]at hn;exact hn.1) kx jQ;have ht:si L w id (λy=>v'.ownBlock=some y) w':=by
           refine⟨λy hy=>?_,oh.size,λy hy nm=>oh.qk y hy λe1=>nm ((p2 y).2 e1),oh.os,oh.tape,oh.output⟩;rcases oh.Lw y hy with e1|⟨e1,e2⟩
           .have:=(p2 y).2 e1;exact⟨.inl this,bW (r.hw id y this).2 oh.size⟩
           .exact ⟨.inr e1,e2⟩
          have hl:=ht.later v' (L.jE id);have hpt:∀ b,L.val id ≠ .pointer (some b):=λb e1=>by
           rcases p1 with⟨e2,_⟩|⟨_,_,_,e2,_⟩<;>rw[e1]at e2<;>cases e2
          refine⟨v',w',_,.inl mq,r.rS id _ _ v' w' hpt ht ⟨λi j=>if i<n then f i j else g (i-n) j,by rw[Lk.pQ];exact oh.own,λy=>by rw[Lk.sZ,Lk.pQ],λi j hi hj=>(λ(q:iN _ _ _ _ _/\_)=>⟨hl.lQ q.1,q.2⟩) (?_:_/\_)⟩ (λhn=>?_),Lk.BE,Lk.pQ.symm⟩
          .by_cases mN:i<n
           .simp only[mN,bQ];exact p3 i j mN hj
           .simp only[mN,bJ];exact gk _ _ aE hj
          .have:=sr.2;rw[hn]at this;simpa[Bx.nl]using this
         .cases h
        .cases h
       .
        rename_i id k FQ;rw[FQ]at hs;split at h
        .rename_i nl T1 T0 n sz len el kq;split at h
         .rename_i sr;simp only[ch]at sr;have d1:=ns.1 sr.1.1;have d2:=ns.1 sr.1.2;subst d1 d2;cases h;have hk:k<n:=ho _ aK;have jQ:(len k+m)*te.i.bytes<=140737488355328:=ho _ aK;obtain⟨b,cp,cur,f,p1,p2,p3,p4,p5,p6,p7,p8,p9,p10,p11⟩:=r.hb id _ kq;obtain⟨k1,k2⟩:=hs;have kx:nl=true->nl2=true/\z.all E.nL=true:=λhn=>by have:=sr.2;rw[hn]at this;simpa using this
          obtain⟨v',w',mq,oh⟩:=key (L.jE id k) (len k) (f k) nl k2 (p8 k hk).1 kx jQ;have DO:∀ y,v'.ownBlock=some y->(L.jE id k).ownBlock=some y\/(w.heap.size<=y/\y<w'.heap.size):=oh.Lw;have T9:b<w.heap.size:=(r.hw id b ((p9 b).2 (.inl rfl))).2;have Nf:∀ q y,q<n->(L.jE id q).ownBlock=some y->y<w.heap.size:=λq y hq hy=>(r.hw id y ((p9 y).2 (.inr ⟨q,hq,hy⟩))).2
          have ht:si L w id (λy=>y=b\/∃ q,q<n/\(if q=k then v' else L.jE id q).ownBlock=some y) w':=by
           refine⟨λy hy=>?_,oh.size,λy hy nm=>oh.qk y hy λe1=>nm ((p9 y).2 (.inr ⟨k,hk,e1⟩)),oh.os,oh.tape,oh.output⟩;rcases hy with rfl|⟨q,hq,hy⟩
           .exact ⟨.inl ((p9 y).2 (.inl rfl)),bW T9 oh.size⟩
           .by_cases ud:q=k
            .subst ud;rw[bw rfl]at hy;rcases DO y hy with e1|⟨e1,e2⟩
             .have:=(p9 y).2 (.inr ⟨q,hq,e1⟩);exact⟨.inl this,bW (r.hw id y this).2 oh.size⟩
             .exact ⟨.inr e1,e2⟩
            .rw [bu ud]at hy;have:=(p9 y).2 (.inr ⟨q,hq,hy⟩);exact⟨.inl this,bW (r.hw id y this).2 oh.size⟩
          have hl:=ht.later (L.val id) (λq=>if q=k then v' else L.jE id q);have Jg:∀ y,y<w.heap.size->(L.jE id k).ownBlock≠some y->w'.heap[y]? = w.heap[y]?:=oh.qk;refine⟨v',w',_,.inl mq,r.wX id _ _ (λq=>if q=k then v' else L.jE id q) w' ht
           ⟨b,cp,cur,λq i j=>if q=k then(if i<len q then f q i j else g (i-len q) j)else f q i j,by rw[Lk.pQ];exact p1,by rw[Jg b T9 (p11 k hk)];exact p2,p3,p4,p5,λq hq ud=>?_,p7,λq hq=>?_,λy=>?_,λq q' y hq uP hy Be=>?_,λq hq hy=>?_⟩ (λhn=>?_),Lk.BE,?_⟩
          .have lL:q≠k:=λe1=>ud (by rw[e1])
           rw[Lk.sc,bu lL];exact p6 q hq aK 
          .rw [Lk.sc];by_cases ud:q=k
           .subst ud;simp only[bQ];refine⟨oh.own,λi j hi hj=>(λ(q:iN _ _ _ _ _/\_)=>⟨hl.lQ q.1,q.2⟩) (?_:_/\_)⟩;by_cases mN:i<len q
            .simp only[mN,bQ];exact(p8 q hq).2 i j mN hj
            .simp only[mN,bJ];exact gk _ _ aE hj
           .simp only[ud,bJ];obtain⟨s1,s2⟩:=p8 q hq;exact⟨s1.block λy hy=>Jg y (Nf q y hq hy) λe1=>ud (p10 q k y hq hk hy e1),λi j hi hj=>⟨hl.lQ (s2 i j hi hj).1,(s2 i j hi hj).2⟩⟩
          .rw [Lk.sZ];simp only[Lk.sc]
          .simp only[Lk.sc]at hy Be;by_cases h1:q=k
           .subst h1;by_cases h2:q'=q
            .exact h2.symm
            .rw [bw rfl]at hy;rw[bu h2]at Be;rcases DO y hy with e1|⟨e1,_⟩
             .exact p10 q q' y hq uP e1 Be
             .have:=Nf q' y uP Be;omega
           .rw [bu h1]at hy;by_cases h2:q'=k
            .subst h2;rw[bw rfl]at Be;rcases DO y Be with e1|⟨e1,_⟩
             .exact p10 q q' y hq uP hy e1
             .have:=Nf q y hq hy;omega
            .rw [bu h2]at Be;exact p10 q q' y hq uP hy Be
          .simp only[Lk.sc]at hy;by_cases h1:q=k
           .subst h1;rw[bw rfl]at hy;rcases DO b hy with e1|⟨e1,_⟩
            .exact p11 q hq e1
            .omega
           .rw [bu h1]at hy;exact p11 q hq hy
          .have:=r.hl hn id _ kq;exact this
          .rw [Lk.sc,bw rfl]
         .cases h
        .cases h
       .
        rename_i FQ;rw[FQ]at hs;have hs:=iN.kW hs;obtain⟨id,Ug,nm,Jm,rfl⟩:=CD h;have jQ:m*te.i.bytes<=140737488355328:=ho _ aK;obtain⟨v',w',mq,oh⟩:=key _ 0 g (nl2&&z.all E.nL) hs (.inl ⟨rfl,rfl⟩) (λhn=>by simpa using hn) (by simpa using jQ);have hb:Below w.heap.size w w':=⟨oh.os,oh.tape,oh.output,oh.size,λy hy=>oh.qk y hy (by simp[Value.ownBlock])⟩
        have hO:∀ y,v'.ownBlock=some y->w.heap.size<=y/\y<w'.heap.size:=λy hy=>by
         rcases oh.Lw y hy with e1|e1
         .simp [Value.ownBlock]at e1
         .exact e1
        have ht:si L w id (λy=>v'.ownBlock=some y) w':=⟨λy hy=>⟨.inr (hO y hy).1,(hO y hy).2⟩,hb.size,λy hy _=>hb.block y hy,hb.os,hb.tape,hb.output⟩
        have hl:=ht.later v' (λ_=>undef);have pd:=oh.own;rw[cD]at pd;refine⟨v',w',_,.inl mq,r.new id _ (λy=>v'.ownBlock=some y) v' (λ_=>undef) w' nm hO hb ⟨λi j=>if i<0 then g i j else g (i-0) j,by rw[Lk.pQ];exact pd,λy=>by rw[Lk.sZ,Lk.pQ],λi j hi hj=>(λ(q:iN _ _ _ _ _/\_)=>⟨hl.lQ q.1,q.2⟩) (?_:_/\_)⟩ Jm,Lk.BE,Lk.pQ.symm⟩;simp only[bO,bJ,dM];exact gk i j hi hj
       .cases h
      .cases h
     .cases h
    .cases h
   .cases h
  .cases h
 .cases h
def afy(hT:na P T)(hB:∀ b,B b->b<w0.heap.size){s x:Operand}{t:TypeId}{c:Call}(hc:c={ callee:=.builtin .append,args:=#[s,x],argTypes:=#[t,t] })(iH:o.op = .call c)(r:jI w0 B σ a w L)
 (h:B2 T σ o.dst t (σ.op s) (σ.op x)=some u) (ho:∀ q,q ∈ u.ke->q):kA P K w0 B σ o a w u:=by
 unfold B2 at h;split at h
 .rename_i u0 h0;split at h
  .rename_i id nl T1 n sz el id' hf hr;split at h
   .rename_i hid;have hid:=ns.1 hid;subst hid;cases h;have r2:jI w0 B { σ with nl:=false } a w L:=⟨r.hd,r.hs,r.ht,r.hb,r.hv,r.hn,r.hw,r.hi,r.he,λh=>by cases h⟩
    obtain⟨v,w',L1,mq,hrel,su⟩:=Ty (K:=K) hT hc iH r2 h0 λq hq=>ho q (List.mem_cons_of_mem _ hq)
    rw[hf]at hrel;rw[hr]at su;obtain⟨L',k1,k2⟩:=jI.fin hB hrel;refine⟨v,w',L',mq,⟨k1.hd,k1.hs,k1.ht,k1.hb,k1.hv,k1.hn,k1.hw,k1.hi,k1.he,λhn i b hb=>r.hl hn i b ?_⟩,?_⟩
    .have hb:look (σ.b.filter λx=>!Nat.beq x.1 id') i=some b:=hb;rw[Ob]at hb;split at hb
     .cases hb
     .exact hb
    rw[su.2];exact k2
   .cases h
  .cases h
 .cases h
def afP{x y:Operand}{c:Call}(hc:c.callee = .builtin .max/\c.args = #[x,y])(iH:o.op = .call c)(r:jI w0 B σ a w L){k k':IntKind}{p q:Int}(hx:σ.op x = .e (.v (.int k p)))(hy:σ.op y = .e (.v (.int k' q)))
 (hu:u={ r:=.e (.v (.int k (if q>p then q else p))) }):kA P K w0 B σ o a w u:=by
 have h1:=r.op x;have h2:=r.op y;rw[hx]at h1;rw[hy]at h2;have h1:=iN.kW h1;have h2:=iN.kW h2;subst hu;refine kA.pure r (v:=.int k (if q>p then q else p)) ?_ rfl (.v _);have em:(#[x,y]:Array Operand).map a.eval = #[.int k p,.int k' q]:=by simp[h1,h2]
 simp only[execOp,iH,resolve,hc.1,hc.2,em,Sem.run_bind,Sem.run_pure,Result.andThen_ok,invoke,builtin,run_max_int2]
def afQ{x y z:Operand}{c:Call}(hc:c.callee = .builtin .max/\c.args = #[x,y,z])(iH:o.op = .call c)(r:jI w0 B σ a w L){k k' k'':IntKind}{p q s:Int}(hx:σ.op x = .e (.v (.int k p)))(hy:σ.op y = .e (.v (.int k' q)))(hz:σ.op z = .e (.v (.int k'' s)))
 (hu:u={ r:=.e (.v (.int k (if s>(if q>p then q else p)then s else(if q>p then q else p)))) }):kA P K w0 B σ o a w u:=by
 have h1:=r.op x;have h2:=r.op y;have h3:=r.op z;rw[hx]at h1;rw[hy]at h2;rw[hz]at h3;have h1:=iN.kW h1;have h2:=iN.kW h2;have h3:=iN.kW h3;subst hu;refine kA.pure r (v:=.int k (if s>(if q>p then q else p)then s else(if q>p then q else p))) ?_ rfl (.v _);have em:(#[x,y,z]:Array Operand).map a.eval = #[.int k p,.int k' q,.int k'' s]:=by simp[h1,h2,h3]
 simp only[execOp,iH,resolve,hc.1,hc.2,em,Sem.run_bind,Sem.run_pure,Result.andThen_ok,invoke,builtin,run_max_int3]
def afR{x y:Operand}{c:Call}(hc:c.callee = .builtin .min/\c.args = #[x,y])(iH:o.op = .call c)(r:jI w0 B σ a w L){k k':IntKind}{p q:Int}(hx:σ.op x = .e (.v (.int k p)))(hy:σ.op y = .e (.v (.int k' q)))
 (hu:u={ r:=.e (.v (.int k (if q<p then q else p))) }):kA P K w0 B σ o a w u:=by
 have h1:=r.op x;have h2:=r.op y;rw[hx]at h1;rw[hy]at h2;have h1:=iN.kW h1;have h2:=iN.kW h2;subst hu;refine kA.pure r (v:=.int k (if q<p then q else p)) ?_ rfl (.v _);have em:(#[x,y]:Array Operand).map a.eval = #[.int k p,.int k' q]:=by simp[h1,h2]
 simp only[execOp,iH,resolve,hc.1,hc.2,em,Sem.run_bind,Sem.run_pure,Result.andThen_ok,invoke,builtin,run_min_int2]
end
structure Gd(P:Program)(K:World->Prop)(w0:World)(B:Nat->Prop):Prop where
 k:K w0
 OV:∀ w w',K w->Below w.heap.size w w'->K w'
 hB:∀ b,B b->b<w0.heap.size/\pt w0 b
def pt.En{w w':World}{b:Nat}(h:pt w b)(hb:w'.heap[b]? = w.heap[b]?):pt w' b:=by
 intro o x e;exact h o x (by rw[<-e];exact(World.cell?_of_block (w:=w) (w':=w') hb).symm)
def pt.OH{w:World}{b:Nat}{cs:Array Value}{T:TypeId}{fr:Nat×Nat}(hg:w.heap[b]? = some (.cells cs T fr))(h:∀ v,v ∈ cs->sR v=false):pt w b:=by
 intro o x e;simp only[World.cell?,hg]at e;simp only[Option.isSome_none,bS,bJ]at e;have:=h _ (eh e);cases this
section
variable {P:Program} {K:World->Prop} {T:List TI} {O:qE} {w0:World} {B:Nat->Prop} {σ:PS} {o:Oper} {a:Act} {w:World} {L:Lk} {u:lh}
def qP.JZ{v:Value}{T:TypeId}{n sz:Nat}{f:Nat->Nat->Value}(h:qP w v T n sz f true){x:Nat}(hx:v.ownBlock=some x):pt w x:=by
 rcases h with⟨rfl,_⟩|⟨b,c,cur,rfl,hg,_,_,_,_,kx⟩
 .simp [Value.ownBlock]at hx
 .simp [Value.ownBlock]at hx;subst hx;exact pt.OH hg (kx rfl)
def se.JZ{id:Nat}{b:Bx}(h:se (jM B L) (ky L) L w id b)(hn:b.nl=true){x:Nat}(hx:L.own id x):pt w x:=by
 cases b with
 |cells T l=>
  obtain⟨b,vs,h1,h2,h3,h4,h5⟩:=h;obtain rfl:=(h2 x).1 hx;exact pt.OH h3 λv hv=>N7 h4 hn v (by simpa using hv)
 |row nl T n sz el=>
  obtain⟨f,h1,h2,h3⟩:=h;have hn:nl=true:=hn;subst hn;exact h1.JZ ((h2 x).1 hx)
 |lq nl T1 T0 n sz len el pend=>
  obtain⟨b,c,cur,f,h1,h2,h3,h4,h5,h6,h7,h8,h9,uH,vQ⟩:=h;have hn:nl=true:=hn;subst hn;rcases(h9 x).1 hx with rfl|⟨k,hk,hkx⟩
  .exact pt.OH h2 λv hv=>(h7 v hv).2
  .exact (h8 k hk).1.JZ hkx
def jI.Q2(g:Gd P K w0 B)(r:jI w0 B σ a w L)(hn:σ.nl=true):∀ b,jM B L b->b<w.heap.size/\pt w b:=by
 intro b hb;rcases hb with hb|⟨id,hb⟩
 .obtain ⟨h1,h2⟩:=g.hB b hb;exact⟨bW h1 r.he.size,h2.En (r.he.block b h1)⟩
 .refine ⟨(r.hw id b hb).2,?_⟩;have hl:=(r.hv id).1 (r.hn id b hb);obtain⟨bx,iV⟩:=gT.1 hl;exact(r.hb id bx iV).JZ (r.hl hn id bx iV) hb
def se.kn{id:Nat}{Tt:TypeId}{l:List E}(h:se (jM B L) (ky L) L w id (.cells Tt l)){b:Nat}(hv:L.val id = .pointer (some ⟨b,0,none⟩))(iL:∀ x,L.own id x->x<w.heap.size):
 iN (jM B L) (λ_=>False) w (.kn l.length λj=>l.getD j .any) (.pointer (some ⟨b,0,none⟩)):=by
 obtain⟨b',vs,h1,h2,h3,h4,h5⟩:=h;rw[hv]at h1;cases h1;refine .kn _ _ b 0 (λj=>vs.getD j undef) (λh=>h) (iL b ((h2 b).2 rfl)) (λj hj=>?_) (λj hj=>?_) (λj hj=>?_)
 .have rC:j<vs.length:=by rw[h4.len];exact hj
  rw[bD,bI rC];exact h5 _ (cN rC)
 .have rC:j<vs.length:=by rw[h4.len];exact hj
  simp only[World.cell?,h3];simp[rC]
 .have rC:j<vs.length:=by rw[h4.len];exact hj
  rw[bD,bI hj,bD,bI rC];exact(h4.lQ j _ _ (bI hj) (bI rC)).sd (λ_ h=>h) (λ_ h=>h.elim)
def CV.IU(r:jI w0 B σ a w L){c:CV}{e:E}{is:List Nat}(h:c.ext σ=some (e,is)){v:Value}(hv:yX (jM B L) (ky L) L w c v):iN (jM B L) (λ_=>False) w e v:=by
 cases c with
 |e x=>simp only[CV.ext,cg,cK]at h;obtain⟨rfl,_⟩:=h;exact hv.sd (λ_ h=>h) (λ_ h=>h.elim)
 |box id=>
  simp only[CV.ext]at h;split at h
  .rename_i Tt l kq;simp only[cg,cK]at h;obtain⟨rfl,_⟩:=h;obtain⟨_,b,k2,rfl⟩:=hv;exact(r.hb id _ kq).kn k2 λx hx=>(r.hw id x hx).2
  .cases h
def SY(r:jI w0 B σ a w L){l:List CV}{es:List E}{is:List Nat}(h:xV σ l=some (es,is)){vs:List Value}(hlen:vs.length=l.length)
 (hv:∀ (i:Nat) (c:CV) (x:Value),l[i]? = some c->vs[i]? = some x->yX (jM B L) (ky L) L w c x):kD (jM B L) (λ_=>False) w es vs:=by
 induction l generalizing es is vs with
 |nil=>simp only[xV,cg,cK]at h;obtain⟨rfl,_⟩:=h;obtain rfl:=dI hlen;exact .nil _ _ _
 |cons c l ih=>
  cases vs with
  |nil=>simp at hlen
  |cons v vs=>
   simp only[xV]at h;split at h
   .rename_i x i xs js h1 h2;simp only[cg,cK]at h;obtain⟨rfl,_⟩:=h;exact .cons (CV.IU r h1 (hv 0 c v rfl rfl)) (ih h2 (by simpa using hlen) λi c x hc hx=>hv (i+1) c x (by simpa using hc) (by simpa using hx))
   .cases h
def PV.IU(r:jI w0 B σ a w L){p:PV}{e:E}{is:List Nat}(h:p.ext σ=some (e,is))(nm:p.Ct=false){v:Value}(hv:ot (jM B L) (ky L) L w p v):iN (jM B L) (λ_=>False) w e v:=by
 cases p with
 |e x=>simp only[PV.ext,cg,cK]at h;obtain⟨rfl,_⟩:=h;exact iN.sd (λ_ h=>h) (λ_ h=>h.elim) hv
 |box id off=>
  cases off with
  |succ=>simp[PV.ext]at h
  |zero=>
   simp only[PV.ext]at h;split at h
   .rename_i Tt l kq;simp only[cg,cK]at h;obtain⟨rfl,_⟩:=h;obtain⟨_,b,k2,rfl⟩:=hv;exact(r.hb id _ kq).kn k2 λx hx=>(r.hw id x hx).2
   .cases h
 |uD f cap=>
  simp only[PV.ext]at h;split at h
  .rename_i xs js h1;simp only[cg,cK]at h;obtain⟨rfl,_⟩:=h;obtain⟨vs,rfl,k2,k3⟩:=hv;have:=SY r h1 k2 k3;exact .fn f xs vs this.len this.lQ
  .cases h
 |own id=>cases nm
 |_=>simp[PV.ext]at h
def PV.aeR(r:jI w0 B σ a w L){p:PV}{e:E}{is:List Nat}(h:p.ext σ=some (e,is)){v:Value}(hv:ot (jM B L) (ky L) L w p v):iN (λ_=>False) (λ_=>False) w e v:=by
 by_cases nm:p.Ct=false
 .exact (PV.IU r h nm hv).sd (λ_ h=>h.elim) (λ_ h=>h)
 .cases p with
  |own id=>
   obtain⟨_,rfl⟩:=hv;simp only[PV.ext]at h;split at h
   .rename_i nl T n sz el kq;simp only[cg,cK]at h;obtain⟨rfl,_⟩:=h;obtain⟨f,h1,h2,h3⟩:=r.hb id _ kq;generalize Jx:L.val id=v at *
    rcases h1 with⟨rfl,rfl⟩|⟨b,c,cur,rfl,hg,qs,oI,oz,mf,kx⟩
    .exact .sl nl 0 sz el none 0 f (bC _) aG (λ_=>rfl) (λi j hi=>absurd hi (bO i)) (λi j hi=>absurd hi (bO i)) (λi j hi=>absurd hi (bO i)) (λi j hi=>absurd hi (bO i))
    .have rY:=(h2 b).2 rfl;refine .sl nl n sz el _ c f qs (by unfold maxLen at oI;omega) (λh=>by cases h) (λi j hi hj=>⟨(mf i j hi hj).2,λhn=>kx hn _ (eh (mf i j hi hj).1)⟩) (λi j hi hj=>(h3 i j hi hj).2)
      (λi j hi hj=>⟨b,0,rfl,λh=>h,(r.hw id b rY).2,?_⟩) (λi j hi hj=>((h3 i j hi hj).1.sd (λ_ h=>h.elim) (λ_ h=>h)).nr 2 (h3 i j hi hj).2)
     rw[cD];simp only[World.cell?,hg];simpa using(mf i j hi hj).1
   .cases h
  |_=>exact absurd rfl nm
def QL(r:jI w0 B σ a w L){l:List Operand}{es:List E}{is:List Nat}(h:vy σ l=some (es,is)):kD (λ_=>False) (λ_=>False) w es (l.map a.eval):=by
 induction l generalizing es is with
 |nil=>simp only[vy,cg,cK]at h;obtain⟨rfl,_⟩:=h;exact .nil _ _ _
 |cons x l ih=>
  simp only[vy]at h;split at h
  .rename_i y i xs js h1 h2;simp only[cg,cK]at h;obtain⟨rfl,_⟩:=h;exact .cons (PV.aeR r h1 (r.op x)) (ih h2)
  .cases h
def QK(r:jI w0 B σ a w L){l:List Operand}{es:List E}{is:List Nat}(h:vy σ l=some (es,is))(nm:(l.map σ.op).any PV.Ct=false):kD (jM B L) (λ_=>False) w es (l.map a.eval):=by
 induction l generalizing es is with
 |nil=>simp only[vy,cg,cK]at h;obtain⟨rfl,_⟩:=h;exact .nil _ _ _
 |cons x l ih=>
  simp only[vy]at h;split at h
  .rename_i y i xs js h1 h2;simp only[cg,cK]at h;obtain⟨rfl,_⟩:=h;simp only[fK,apZ,fg]at nm;exact .cons (PV.IU r h1 nm.1 (r.op x)) (ih h2 nm.2)
  .cases h
def Hv(P:Program)(K:World->Prop)(w0:World)(B:Nat->Prop)(σ:PS)(o:Oper)(a:Act)(w:World)(u:lh):Prop:=
 ∀ (Kc:Act->World->Prop) (Q:Exit->Act->World->Prop),(∀ v w' L',jI w0 B (σ.rf u.f) a w' L'->ot (jM B L') (ky L') L' w' u.r v->Kc (a.put o.dst v) w')->o.wp P a w Kc Q
def kA.ph(h:kA P K w0 B σ o a w u):Hv P K w0 B σ o a w u:=by
 intro Kc Q hk;obtain⟨v,w',L',mq,hr,hp⟩:=h;unfold Oper.wp;rcases mq with mq|⟨mq,rfl⟩
 .rw [mq];exact hk v w' L' hr hp
 .rw [mq];exact hk _ w' L' hr hp
def Sj(g:Gd P K w0 B)(r:jI w0 B σ a w L){c:Call}{f:Operand}(iH:o.op = .call c)(hf:c.callee = .value f){gf:FuncId}{xs ys:List E}{is:List Nat}{us:List Value}
 {ow:Bool} (A7:a.eval f = .func (.func gf) #[] us.toArray) (agM:kD (λ_=>False) (λ_=>False) w xs (c.args.toList.map a.eval)) (qv:ow=false->kD (jM B L) (λ_=>False) w xs (c.args.toList.map a.eval)) (zQ:kD (jM B L) (λ_=>False) w ys us)
 (h:AU P K O σ o.dst gf (xs++ys) is ow=some u) (ho:∀ q,q ∈ u.ke->q):Hv P K w0 B σ o a w u:=by
 intro Kc Q hk;simp only[AU]at h;split at h
 .rename_i ko FT;split at h
  .rename_i hc;cases h;have pc:PC P K gf (xs++ys) ko:=ho _ aK;have agf:=agM.app (zQ.mono λ_ _=>iN.sd (bs':=λ_=>False) (λ_ h=>h.elim) (λ_ h=>h));have mq:(execOp a.eval o).run P w = .ok (.enter gf ((c.args.toList.map a.eval)++us).toArray) w:=by
    have e1:c.args.map a.eval=(c.args.toList.map a.eval).toArray:=by apply dL;simp
    have e2:#[]++(c.args.toList.map a.eval).toArray++us.toArray=((c.args.toList.map a.eval)++us).toArray:= aK ;simp only[execOp,iH,resolve,hf,A7,Deferred.ofValue,Sem.run_bind,Sem.run_pure,Result.andThen_ok,invoke,e1,e2,pc.call]
   unfold Oper.wp;rw[mq];show Calls P gf _ w _;have hK:K w:=g.OV _ _ g.k r.he;by_cases Ci:ko.plain 3=true
   .refine (pc.run w (λ_=>False) _ hK (λ_ h=>h.elim) agf).mono ?_;rintro e w' ⟨v,rfl,hb,hv⟩;exact hk v w' L (r.later hb) (iN.plain (w:=w') hv 3 Ci)
   .have hn:σ.nl=true/\ow=false:=by simpa[Ci]using hc
    refine(pc.run w (jM B L) _ hK (r.Q2 g hn.1) ((qv hn.2).app zQ)).mono ?_;rintro e w' ⟨v,rfl,hb,hv⟩;exact hk v w' L (r.later hb) (iN.sd (λ_ h=>h) (λ_ _=>trivial) hv)
  .split at h
   .rename_i hc;cases h;have pc:BN P K gf (xs++ys) ko:=ho _ aK;have mq:(execOp a.eval o).run P w = .ok (.enter gf ((c.args.toList.map a.eval)++us).toArray) w:=by
     have e1:c.args.map a.eval=(c.args.toList.map a.eval).toArray:=by apply dL;simp
     have e2:#[]++(c.args.toList.map a.eval).toArray++us.toArray=((c.args.toList.map a.eval)++us).toArray:= aK ;simp only[execOp,iH,resolve,hf,A7,Deferred.ofValue,Sem.run_bind,Sem.run_pure,Result.andThen_ok,invoke,e1,e2,pc.call]
    unfold Oper.wp;rw[mq];show Calls P gf _ w _;have hK:K w:=g.OV _ _ g.k r.he;have hn:ow=false:=by simpa using hc
    refine(pc.run w (jM B L) _ hK (λb hb=>?_) ((qv hn).app zQ)).mono ?_
    .rcases hb with hb|⟨id,hb⟩
     .exact bW (g.hB b hb).1 r.he.size
     .exact (r.hw id b hb).2
    .rintro e w' ⟨v,rfl,hb,hv⟩;exact hk v w' L (r.later hb) (iN.sd (λ_ h=>h) (λ_ _=>trivial) hv)
   .cases h
 .split at h
  .rename_i d hd;split at h
   .rename_i nl T n sz el hnw nm;split at h
    .rename_i hc;cases h;simp only[ch]at hc;have pc:vw P K gf (xs++ys) nl T n sz el:=ho _ aK;have mq:(execOp a.eval o).run P w = .ok (.enter gf ((c.args.toList.map a.eval)++us).toArray) w:=by
      have e1:c.args.map a.eval=(c.args.toList.map a.eval).toArray:=by apply dL;simp
      have e2:#[]++(c.args.toList.map a.eval).toArray++us.toArray=((c.args.toList.map a.eval)++us).toArray:= aK ;simp only[execOp,iH,resolve,hf,A7,Deferred.ofValue,Sem.run_bind,Sem.run_pure,Result.andThen_ok,invoke,e1,e2,pc.call]
     unfold Oper.wp;rw[mq];show Calls P gf _ w _;have hK:K w:=g.OV _ _ g.k r.he;have hn:ow=false:=by simpa using hc.2
     refine(pc.run w (jM B L) _ hK (r.Q2 g hc.1.1) ((qv hn).app zQ)).mono ?_
     .rintro e w' ⟨v,rfl,hb,gg,pd,DO,Uh⟩;have hl:=(r.later hb)
      have agA:=r.new d (.row nl T n sz el) (λx=>v.ownBlock=some x) v (λ_=>undef) w' nm DO hb
       ⟨gg,by rw[Lk.pQ];exact pd,λx=>by rw[Lk.sZ,Lk.pQ],λi j hi hj=>⟨?_,(Uh i j hi hj).2⟩⟩ (by simp[Bx.nl,hc.1.2])
      .exact hk v w' _ agA ⟨Lk.BE,Lk.pQ.symm⟩
      .refine (Uh i j hi hj).1.sd (λb h=>?_) (λ_ _=>trivial);rcases h with h|⟨id,h⟩
       .exact .inl (.inl h)
       .by_cases e:id=d
        .subst e;exact .inr ((Lk.sZ b).1 h)
        .exact .inl (.inr ⟨id,(Lk.BF e b).1 h⟩)
    .cases h
   .cases h
  .cases h
def Mi(hT:na P T)(g:Gd P K w0 B)(r:jI w0 B σ a w L)(h:jN P K T O σ o=some u)(ho:∀ q,q ∈ u.ke->q):Hv P K w0 B σ o a w u:=by
 cases iH:o.op with
 |move x=>exact(afS (P:=P) (K:=K) iH r h).ph
 |assign x=>exact(afz (P:=P) (K:=K) iH r h).ph
 |pick c x y=>exact(afU (P:=P) (K:=K) iH r h).ph
 |alloc t=>exact(afx hT iH r h).ph
 |box t x=>exact(afB (P:=P) (K:=K) iH r h).ph
 |build t ps=>exact(afC hT iH r h).ph
 |buildSlice t n ps=>exact(afD hT (λb hb=>(g.hB b hb).1) iH r h).ph
 |load t x=>exact(afL hT iH r h ho).ph
 |store t x y=>exact(afW hT iH r h ho).ph
 |nilCheck x=>exact(afT (P:=P) (K:=K) iH r h).ph
 |binOp op t x y yt=>exact(afA hT iH r h ho).ph
 |unOp op t x=>exact(afX (P:=P) (K:=K) iH r h ho).ph
 |convert s d x=>exact(afE hT iH r h).ph
 |makeFunc fn first cap=>exact(afN (P:=P) (K:=K) iH r h).ph
 |makeSlice t l c=>exact(afO hT iH r h ho).ph
 |slice t x lo hi mx=>
  cases mx with
  |none=>exact(afV hT iH r h ho).ph
  |some=>simp[jN,iH]at h
 |fieldAddr t x f=>exact(afH hT iH r h).ph
 |indexAddr t x i=>exact(afJ hT iH r h ho).ph
 |index t x i=>exact(afI hT iH r h ho).ph
 |field t x f=>exact(afG hT iH r h).ph
 |lookup t x i ok=>exact(afM hT iH r h ho).ph
 |extract x i=>exact(afF (P:=P) (K:=K) iH r h).ph
 |call c=>
  obtain⟨callee,args,ats⟩:=c;cases callee with
  |builtin b=>
   simp only[jN,iH]at h;cases b
   case len=>
    dsimp only at h;split at h
    .rename_i x t hx ht;have ha:args = #[x]:=by apply dL;simpa using hx
     have Jv:ats = #[t]:=by apply dL;simpa using ht
     split at h
     .rename_i e hd;obtain⟨rr,hr,rfl⟩:=dg.1 h;exact(afK hT (by rw[ha,Jv]) iH hd r hr rfl).ph
     .cases h
    .cases h
   case append=>
    dsimp only at h;split at h
    .rename_i s x t t' hx ht;have ha:args = #[s,x]:=by apply dL;simpa using hx
     have Jv:ats = #[t,t']:=by apply dL;simpa using ht
     split at h
     .rename_i rZ;have rZ:=ns.1 rZ;subst rZ;split at h
      .exact (afy hT (λb hb=>(g.hB b hb).1) (by rw[ha,Jv]) iH r h ho).ph
      .exact (Ty hT (by rw[ha,Jv]) iH r h ho).ph
     .cases h
    .cases h
   case max=>
    dsimp only at h;split at h
    .rename_i k p k' q hx;rcases args with⟨l⟩
     rcases l with _|⟨x,_|⟨y,_|⟨z,l⟩⟩⟩<;>simp at hx
     cases h;exact(afP (P:=P) (K:=K) ⟨rfl,rfl⟩ iH r hx.1 hx.2 rfl).ph
    .rename_i k p k' q k'' s hx;rcases args with⟨l⟩
     rcases l with _|⟨x,_|⟨y,_|⟨z,_|⟨z',l⟩⟩⟩⟩<;>simp at hx
     cases h;exact(afQ (P:=P) (K:=K) ⟨rfl,rfl⟩ iH r hx.1 hx.2.1 hx.2.2 rfl).ph
    .cases h
   case min=>
    dsimp only at h;split at h
    .rename_i k p k' q hx;rcases args with⟨l⟩
     rcases l with _|⟨x,_|⟨y,_|⟨z,l⟩⟩⟩<;>simp at hx
     cases h;exact(afR (P:=P) (K:=K) ⟨rfl,rfl⟩ iH r hx.1 hx.2 rfl).ph
    .cases h
   all_goals cases h
  |value f=>
   simp only[jN,iH]at h;have A7:=r.op f;split at h
   .rename_i gf cap xs is Ch qv;rw[Ch]at A7;obtain⟨us,e1,zQ⟩:=iN.Te A7;exact Sj g r iH rfl e1 (QL r qv) (λnm=>QK r qv nm) (zQ.mono λ_ _=>iN.sd (λ_ h=>h) (λ_ h=>h.elim)) h ho
   .rename_i gf cap xs is Ch qv;rw[Ch]at A7;obtain⟨us,e1,k2,k3⟩:=A7;split at h
    .rename_i ys js D9;exact Sj g r iH rfl e1 (QL r qv) (λnm=>QK r qv nm) (SY r D9 k2 k3) h ho
    .cases h
   .cases h
  |invoke _ _=>simp[jN,iH]at h
 |_=>simp[jN,iH]at h
def aeg(hT:na P T)(g:Gd P K w0 B)(r:jI w0 B σ a w L)(h:uG P K T O σ o=some u)(ho:∀ q,q ∈ u.ke->q):Hv P K w0 B σ o a w u:=by
 unfold uG at h;split at h
 .rename_i u0 h0;split at h
  .split at h
   .rename_i p hp;cases h;have he:PV.le u0.r p:=ho _ aK;have:=Mi hT g r h0 (λq hq=>ho q (by simp[hq]));intro Kc Q hk;exact this Kc Q λv w' L' hr hv=>hk v w' L' hr (he _ _ _ _ _ hv)
   .cases h;exact Mi hT g r h0 ho
  .cases h;exact Mi hT g r h0 ho
 .cases h
end
section
variable {P:Program} {K:World->Prop} {T:List TI} {O:qE} {σ τ:PS} {o:Oper} {u:lh}
def aje{x:Operand}(h:∀ t,x = .tmp t->σ.get t=τ.get t):τ.op x=σ.op x:=by
 cases x with
 |tmp t=>exact(h t rfl).symm
 |_=>rfl
def ak2{p:PV}{m:Nat}{l:List E}{is:List Nat}{ke:List Prop}(h:σ.read p m=some (l,is,ke))(hb:∀ id,id ∈ is->σ.bo id=τ.bo id):τ.read p m=some (l,is,ke):=by
 cases p with
 |box id off=>
  have h0:=h;simp only[PS.read]at h;split at h
  .split at h
   .simp only[cg,cK]at h;obtain⟨_,rfl,_⟩:=h;simp only[PS.read,<-hb id aK];exact h0
   .cases h
  .cases h
 |qB id sz i j=>
  have h0:=h;simp only[PS.read]at h;split at h
  .split at h
   .simp only[cg,cK]at h;obtain⟨_,rfl,_⟩:=h;simp only[PS.read,<-hb id aK];exact h0
   .cases h
  .cases h
 |e x=>cases x<;>exact h
 |_=>exact h
def acC{c:CV}{e:E}{is:List Nat}(h:c.ext σ=some (e,is))(hb:∀ id,id ∈ is->σ.bo id=τ.bo id):c.ext τ=some (e,is):=by
 cases c with
 |e x=>exact h
 |box id=>
  have h0:=h;simp only[CV.ext]at h;split at h
  .simp only[cg,cK]at h;obtain⟨_,rfl⟩:=h;simp only[CV.ext,<-hb id aK];exact h0
  .cases h
def SX{l:List CV}{es:List E}{is:List Nat}(h:xV σ l=some (es,is))(hb:∀ id,id ∈ is->σ.bo id=τ.bo id):xV τ l=some (es,is):=by
 induction l generalizing es is with
 |nil=>exact h
 |cons c l ih=>
  simp only[xV]at h;split at h
  .rename_i x i xs js h1 h2;simp only[cg,cK]at h;obtain⟨rfl,rfl⟩:=h;simp only[xV,acC h1 λid hi=>hb id (by simp[hi]),ih h2 λid hi=>hb id (by simp[hi])]
  .cases h
def ajF{p:PV}{e:E}{is:List Nat}(h:p.ext σ=some (e,is))(hb:∀ id,id ∈ is->σ.bo id=τ.bo id):p.ext τ=some (e,is):=by
 cases p with
 |e x=>exact h
 |box id off=>
  cases off with
  |succ=>exact h
  |zero=>
   have h0:=h;simp only[PV.ext]at h;split at h
   .simp only[cg,cK]at h;obtain⟨_,rfl⟩:=h;simp only[PV.ext,<-hb id aK];exact h0
   .cases h
 |uD f cap=>
  simp only[PV.ext]at h;split at h
  .rename_i xs js h1;simp only[cg,cK]at h;obtain⟨rfl,rfl⟩:=h;simp only[PV.ext,SX h1 hb]
  .cases h
 |own id=>
  have h0:=h;simp only[PV.ext]at h;split at h
  .simp only[cg,cK]at h;obtain⟨_,rfl⟩:=h;simp only[PV.ext,<-hb id aK];exact h0
  .cases h
 |_=>exact h
def QJ{l:List Operand}{es:List E}{is:List Nat}(h:vy σ l=some (es,is))(hg:∀ x,x ∈ l->τ.op x=σ.op x)(hb:∀ id,id ∈ is->σ.bo id=τ.bo id):vy τ l=some (es,is):=by
 induction l generalizing es is with
 |nil=>exact h
 |cons c l ih=>
  simp only[vy]at h;split at h
  .rename_i x i xs js h1 h2;simp only[cg,cK]at h;obtain⟨rfl,rfl⟩:=h;simp only[vy,hg c aK,ajF h1 λid hi=>hb id (by simp[hi]),ih h2 (λx hx=>hg x (by simp[hx])) λid hi=>hb id (by simp[hi])]
  .cases h
def S9{place:Nat->Option (Nat×Nat)}{ps:List (Nat×Operand)}(hg:∀ x,x ∈ ps.map (·.2)->τ.op x=σ.op x):∀ l,sn τ place l ps=sn σ place l ps:=by
 induction ps with
 |nil=>intro l;rfl
 |cons p ps ih=>
  intro l;obtain⟨i,x⟩:=p;simp only[sn,hg x aK,ih λx hx=>hg x (by simp only[fK,dD];exact .inr hx)]
def Gm{d:Option Tmp}{b:Bx}{rr:Nat->PV}{ke:List Prop}(h:xv σ d b rr ke=some u)(kx:σ.nl=τ.nl)(hn:∀ id b,u.f = .new id b->τ.bo id=none):xv τ d b rr ke=some u:=by
 obtain⟨id,rfl,nm,hc,rfl⟩:=CD h;rw[kx]at hc;simp only[xv,hn id b rfl,hc,bQ]
def SR{d:Option Tmp}{t:TypeId}{s x:PV}{u:lh}(h:AT T σ d t s x=some u)(hb:∀ id,id ∈ u.rb->σ.bo id=τ.bo id)(kx:σ.nl=τ.nl)(hn:∀ id b,u.f = .new id b->τ.bo id=none):AT T τ d t s x=some u:=by
 simp only[AT]at h ⊢;split at h
 .split at h
  .split at h
   .split at h
    .split at h
     .split at h
      .rename_i hc;simp only[hc,bQ];split at h
       .rename_i id;split at h
        .rename_i kq;split at h
         .rename_i sr;cases h;simp only[<-hb id aK,<-kx,kq,sr,bQ]
         .cases h
        .cases h
       .rename_i id k;split at h
        .rename_i kq;split at h
         .rename_i sr;cases h;simp only[<-hb id aK,kq,sr,bQ]
         .cases h
        .cases h
       .exact Gm h kx hn
       .cases h
      .cases h
     .cases h
    .cases h
   .cases h
  .cases h
 .cases h
def ad9{d:Option Tmp}{t:TypeId}{s x:PV}{u:lh}(h:B2 T σ d t s x=some u)(hb:∀ id,id ∈ u.rb->σ.bo id=τ.bo id)(kx:σ.nl=τ.nl):B2 T τ d t s x=some u:=by
 unfold B2 at h ⊢;split at h
 .rename_i u0 h0;split at h
  .rename_i id nl T1 n sz el id' hf hr;split at h
   .rename_i hid;cases h;have:=SR (σ:={ σ with nl:=false }) (τ:={ τ with nl:=false }) h0 hb rfl λi b e=>by rw[hf]at e;cases e
    rw[this];simp only[hf,hr,hid,bQ]
   .cases h
  .cases h
 .cases h
def aeb(h:jN P K T O σ o=some u)(hg:∀ x,x ∈ o.op.operands->τ.op x=σ.op x)(hb:∀ id,id ∈ u.rb->σ.bo id=τ.bo id)(kx:σ.nl=τ.nl)(hn:∀ id b,u.f = .new id b->τ.bo id=none):
 jN P K T O τ o=some u:=by
 cases iH:o.op with
 |move x=>rw[iH]at hg;simp only[jN,iH]at h ⊢;rw[hg x aU];exact h
 |assign x=>rw[iH]at hg;simp only[jN,iH]at h ⊢;rw[hg x aU];exact h
 |pick c x y=>rw[iH]at hg;simp only[jN,iH]at h ⊢;rw[hg c aU,hg x aU,hg y aU];exact h
 |nilCheck x=>rw[iH]at hg;simp only[jN,iH]at h ⊢;rw[hg x aU];exact h
 |binOp op t x y yt=>rw[iH]at hg;simp only[jN,iH]at h ⊢;rw[hg x aU,hg y aU];exact h
 |unOp op t x=>rw[iH]at hg;simp only[jN,iH]at h ⊢;rw[hg x aU];exact h
 |convert s d x=>rw[iH]at hg;simp only[jN,iH]at h ⊢;rw[hg x aU];exact h
 |index t x i=>rw[iH]at hg;simp only[jN,iH]at h ⊢;rw[hg x aU,hg i aU];exact h
 |extract x i=>rw[iH]at hg;simp only[jN,iH]at h ⊢;rw[hg x aU];exact h
 |fieldAddr t x f=>rw[iH]at hg;simp only[jN,iH]at h ⊢;rw[hg x aU];exact h
 |field t x f=>rw[iH]at hg;simp only[jN,iH]at h ⊢;rw[hg x aU];exact h
 |lookup t x i ok=>
  rw[iH]at hg;cases ok with
  |true=>simp[jN,iH]at h
  |false=>simp only[jN,iH]at h ⊢;rw[hg x aU,hg i aU];exact h
 |makeFunc fn first cap=>
  rw[iH]at hg;cases fn with
  |func f=>
   simp only[jN,iH]at h ⊢;have:cap.toList.map τ.op=cap.toList.map σ.op:=fh λx hx=>hg x (by simp only[Op.operands,fL];exact .inr (by simpa using hx))
   rw[this];exact h
  |_=>simp[jN,iH]at h
 |slice t x lo hi mx=>
  rw[iH]at hg;cases mx with
  |some=>simp[jN,iH]at h
  |none=>
   simp only[jN,iH]at h ⊢;have e1:lo.map τ.op=lo.map σ.op:=by cases lo with
    |none=>rfl
    |some y=>simp only[dm];rw[hg y aU]
   have e2:hi.map τ.op=hi.map σ.op:=by cases hi with
    |none=>rfl
    |some y=>simp only[dm];rw[hg y aU]
   rw[hg x aU,e1,e2];exact h
 |alloc t=>
  simp only[jN,iH]at h ⊢;split at h
  .split at h
   .exact Gm h kx hn
   .cases h
  .cases h
 |box t x=>
  rw[iH]at hg;simp only[jN,iH]at h ⊢;rw[hg x aU];split at h
  .split at h
   .exact Gm h kx hn
   .cases h
  .cases h
 |build t ps=>
  rw[iH]at hg;simp only[jN,iH]at h ⊢;have hf:∀ place l,sn τ place l ps.toList=sn σ place l ps.toList:=λplace=>S9 λx hx=>hg x (by simpa[Op.operands]using hx)
  simp only[hf];exact h
 |buildSlice t n ps=>
  rw[iH]at hg;simp only[jN,iH]at h ⊢;have hf:∀ place l,sn τ place l ps.toList=sn σ place l ps.toList:=λplace=>S9 λx hx=>hg x (by simpa[Op.operands]using hx)
  simp only[hf];split at h
  .split at h
   .split at h
    .split at h
     .split at h
      .rename_i hif;rw[bw hif];obtain⟨l,hl,h⟩:=gS.1 h;refine gS.2 ⟨l,hl,?_⟩;split at h
       .cases h
       .rename_i h1;rw[bu h1];split at h
        .rename_i h2;rw[bw h2];exact Gm h kx hn
        .rename_i h2;rw[bu h2];exact h
      .cases h
     .cases h
    .cases h
   .cases h
  .cases h
 |load t x=>
  rw[iH]at hg;simp only[jN,iH,IN]at h ⊢;rw[hg x aU];split at h
  .rename_i ti pI;split at h
   .rename_i id i n qh;have agE:CY τ (σ.op x)=some (id,i,n):=by
     have hid:σ.bo id=τ.bo id:=by
      split at h
      .cases h
      .cases h;exact hb id aK 
     cases hp:σ.op x with
     |qB id' sz i' j=>
      rw[hp]at qh;have h0:=qh;simp only[CY]at qh;split at qh
      .split at qh
       .simp only[cg,cK]at qh;obtain⟨rfl,_,_⟩:=qh;simp only[CY,<-hid];exact h0
       .cases qh
      .cases qh
     |_=>rw[hp]at qh;cases qh
    simp only[agE];exact h
   .rename_i qh;have key:∀ is,(∃ l ke,σ.read (σ.op x) ti.i.size=some (l,is,ke))->(∀ id,id ∈ is->σ.bo id=τ.bo id)->CY τ (σ.op x)=none:=by
     rintro is ⟨l,ke,hr⟩ nu;cases hp:σ.op x with
     |qB id sz i j=>
      rw[hp]at hr qh;simp only[PS.read]at hr;split at hr
      .rename_i kq;split at hr
       .simp only[cg,cK]at hr;obtain⟨_,rfl,_⟩:=hr;simp only[CY,<-nu id aK,kq]
       .cases hr
      .cases hr
     |_=>rfl
    cases hr:σ.read (σ.op x) ti.i.size with
    |none=>rw[hr]at h;cases h
    |some y=>
     obtain⟨l,is,ke⟩:=y;have Cj:u.rb=is:=by
      rw[hr]at h;simp only[Gg]at h;split at h
      .cases h;rfl
      .split at h
       .cases h;rfl
       .cases h
     have nu:∀ id,id ∈ is->σ.bo id=τ.bo id:=λid hi=>hb id (by rw[Cj];exact hi)
     rw[key is ⟨l,ke,hr⟩ nu];simp only;rw[ak2 hr nu];rw[hr]at h;exact h
  .cases h
 |store t x y=>
  rw[iH]at hg;simp only[jN,iH,IS]at h ⊢;rw[hg x aU,hg y aU];split at h
  .split at h
   .rename_i id off e _ _;split at h
    .rename_i kq hm;split at h
     .rename_i hc;cases h;rw[kx]at hc;simp only[<-hb id aK,kq,hm,hc,bQ]
     .cases h
    .cases h
   .rename_i id sz i j e _ _;split at h
    .rename_i kq hm;split at h
     .rename_i hc;cases h;simp only[<-hb id aK,kq,hm,hc,bQ]
     .cases h
    .cases h
   .rename_i id i id' k _ _;split at h
    .rename_i kq;split at h
     .rename_i hc;cases h;simp only[<-hb id aK,kq,hc,bQ]
     .cases h
    .cases h
   .cases h
  .cases h
 |makeSlice t l c=>
  rw[iH]at hg;simp only[jN,iH,IP]at h ⊢;rw[hg l aU,hg c aU];split at h
  .exact Gm h kx hn
  .cases h
 |indexAddr t x i=>
  rw[iH]at hg;simp only[jN,iH,IM]at h ⊢;rw[hg x aU,hg i aU];split at h
  .split at h
   .split at h
    .split at h
     .split at h
      .exact h
      .rename_i id _;split at h
       .rename_i kq;split at h
        .rename_i hc;cases h;simp only[<-hb id aK,kq,hc,bQ]
        .cases h
       .rename_i kq;split at h
        .rename_i hc;cases h;simp only[<-hb id aK,kq,hc,bQ]
        .cases h
       .cases h
      .cases h
     .cases h
    .exact h
    .cases h
   .cases h
  .cases h
 |call c=>
  rw[iH]at hg;obtain⟨callee,args,ats⟩:=c;have ha:∀ x,x ∈ args.toList->τ.op x=σ.op x:=λx hx=>hg x (by simp only[Op.operands,Call.operands,fL];exact .inr (by simpa using hx))
  have Nk:args.toList.map τ.op=args.toList.map σ.op:=fh ha;cases callee with
  |builtin b=>
   simp only[jN,iH]at h ⊢;cases b
   case len=>
    dsimp only at h ⊢;split at h
    .rename_i x t hx ht;split at h
     .obtain ⟨rr,hr,rfl⟩:=dg.1 h;rw[ha x (by rw[hx];simp)];have:vK (σ.op x) τ=some rr:=by
       cases hp:σ.op x with
       |own id=>
        rw[hp]at hr;have h0:=hr;simp only[vK]at hr;split at hr
        .simp only[cg]at hr;subst hr;simp only[vK,<-hb id aK];exact h0
        .simp only[cg]at hr;subst hr;simp only[vK,<-hb id aK];exact h0
        .cases hr
       |e y=>
        rw[hp]at hr;cases y with
        |v z=>cases z<;>exact hr
        |_=>exact hr
       |_=>rw[hp]at hr;exact hr
      rw[this];rfl
     .cases h
    .cases h
   case append=>
    dsimp only at h ⊢;split at h
    .rename_i s x t t' hx ht;split at h
     .rename_i rZ;simp only[rZ,bQ];rw[ha x (by rw[hx];simp),ha s (by rw[hx];simp)];have pk:Ie O o.dst=Ie O o.dst:=rfl;split at h
      .rename_i MW;simp only[MW,bQ];exact ad9 h hb kx
      .rename_i MW;simp only[MW,bJ,bS];exact SR h hb kx hn
     .cases h
    .cases h
   case max=>dsimp only at h ⊢;rw[Nk];exact h
   case min=>dsimp only at h ⊢;rw[Nk];exact h
   all_goals cases h
  |value f=>
   have hf:τ.op f=σ.op f:=hg f (by simp[Op.operands,Call.operands]);simp only[jN,iH]at h ⊢;have lM:(args.toList.map τ.op).any PV.Ct=(args.toList.map σ.op).any PV.Ct:=by rw[Nk]
   rw[hf,lM];have ec:∀ {gf:FuncId} {zs:List E} {is:List Nat} {ow:Bool},AU P K O σ o.dst gf zs is ow=some u->u.rb=is/\AU P K O τ o.dst gf zs is ow=some u:=by
    intro gf zs is ow hh;simp only[AU]at hh ⊢;rw[kx]at hh;split at hh
    .rename_i ko FT;refine⟨?_,hh⟩;split at hh
     .cases hh;rfl
     .split at hh
      .cases hh;rfl
      .cases hh
    .split at hh
     .rename_i d hd;split at hh
      .rename_i nl T n sz el h1 h2;split at hh
       .rename_i hc;cases hh;have h3:=hn _ _ rfl;rw[h1,h3];simp only[hc,bQ];constructor<;>first|rfl|trivial
       .cases hh
      .cases hh
     .cases hh
   split at h
   .rename_i gf cap xs is Ch qv;obtain⟨e1,e2⟩:=ec h;rw[QJ qv ha λid hi=>hb id (by rw[e1];exact hi),Ch];exact e2
   .rename_i gf cap xs is Ch qv;split at h
    .rename_i ys js D9;obtain⟨e1,e2⟩:=ec h;rw[QJ qv ha λid hi=>hb id (by rw[e1];simp[hi]),Ch];simp only;rw[SX D9 λid hi=>hb id (by rw[e1];simp[hi])];exact e2
    .cases h
   .cases h
  |invoke _ _=>simp[jN,iH]at h
 |_=>simp[jN,iH]at h
end
def aih{l:List Operand}{t:Tmp}(h:Operand.tmp t ∈ l):t ∈ ES l:=by
 induction l with
 |nil=>simp at h
 |cons x l ih=>
  rcases dD.1 h with h|h
  .subst h;simp[ES]
  .have:=ih h;cases x<;>simp[ES,this]
def agi{l:List Nat}{n:Nat}:MY l n=true↔n ∈ l:=by
 unfold MY;rw[dH];constructor
 .rintro ⟨x,hx,hb⟩;have:=ns.1 hb;subst this;exact hx
 .intro h;exact⟨n,h,dX n⟩
def J0{l:List Nat}{d:Option Nat}(h:El l d=true){x:Nat}(hx:d=some x):x ∉ l:=by
 subst hx;simp only[El,fi]at h;intro hm;rw[agi.2 hm]at h;cases h
def KU{a b:Option Nat}(h:KT a b=true){x y:Nat}(hx:a=some x)(hy:b=some y):x≠y:=by
 subst hx hy;simp only[KT,fi]at h;intro e;rw[ns.2 e]at h;cases h
def Hn(f:rL)(p:PV):p.qa f=if zZ f p then p else .e .any:=by
 cases f<;>cases p<;>simp only[PV.qa,zZ,bQ]
 all_goals (split<;>rename_i h<;>simp[h])
def NW{f:rL}{p:PV}(h:zZ f p=true):p.qa f=p:=by rw[Hn,bw h]
def aho(f:rL):zZ f (.e .any)=true:=by cases f<;>rfl
def aoM(p:PV)(f g:rL):(p.qa f).qa g=(p.qa g).qa f:=by
 rw[Hn f p,Hn g p];cases h1:zZ f p<;>cases h2:zZ g p<;>simp only[bQ,bS,bJ,Hn,aho,h1,h2]
structure sf(σ τ:PS):Prop where
 n:σ.n=τ.n
 nl:σ.nl=τ.nl
 get:∀ t,σ.get t=τ.get t
 bo:∀ id,σ.bo id=τ.bo id
def sf.refl(σ:PS):sf σ σ:=⟨rfl,rfl,λ_=>rfl,λ_=>rfl⟩
def sf.symm{σ τ:PS}(h:sf σ τ):sf τ σ:=⟨h.n.symm,h.nl.symm,λt=>(h.get t).symm,λi=>(h.bo i).symm⟩
def sf.trans{σ τ υ:PS}(h:sf σ τ)(k:sf τ υ):sf σ υ:=⟨h.n.trans k.n,h.nl.trans k.nl,λt=>(h.get t).trans (k.get t),λi=>(h.bo i).trans (k.bo i)⟩
def jI.qC{w0:World}{B:Nat->Prop}{σ τ:PS}{a:Act}{w:World}{L:Lk}(r:jI w0 B σ a w L)(h:sf σ τ):jI w0 B τ a w L:=
 ⟨r.hd,r.hs.trans h.n,λt=>by rw[<-h.get];exact r.ht t,λid b hb=>r.hb id b (by rw[h.bo];exact hb),λid=>by rw[<-h.bo];exact r.hv id,r.hn,r.hw,r.hi,r.he,λhn id b hb=>r.hl (by rw[h.nl];exact hn) id b (by rw[h.bo];exact hb)⟩
def BS(σ:PS)(f:rL)(id:Nat):(σ.rf f).bo id=match f with
 | .none=>σ.bo id
 | .new i b | .vj i b | .rS i b | .wX i b=>if i=id then some b else σ.bo id
 | .fin i=>if i=id then none else σ.bo id:=by
 cases f<;>first|rfl|exact JQ _ _ _ _|exact Ob _ _ _
def FC(σ:PS)(d:Option Tmp)(u:lh)(t:Nat):(σ.app d u).get t=if d=some t then u.r else(σ.get t).qa u.f:=by
 unfold PS.app;cases d with
 |none=>
  rw[bu aK];exact PS.IZ σ u.f t
 |some d=>
  rw[PS.MC,PS.IZ];simp only[cg]
def BR(σ:PS)(d:Option Tmp)(u:lh)(id:Nat):(σ.app d u).bo id=(σ.rf u.f).bo id:=PS.abG _ _ _ _
def Gr(σ:PS)(d:Option Tmp)(u:lh):(σ.app d u).n=σ.n:=by unfold PS.app;rw[PS.On];rfl
def Gv(σ:PS)(d:Option Tmp)(u:lh):(σ.app d u).nl=σ.nl:=by unfold PS.app;rw[PS.aiU];rfl
def AL(σ:PS)(d:Option Tmp)(u:lh)(id:Nat)(h:u.f.id≠some id):(σ.app d u).bo id=σ.bo id:=by
 rw[BR,BS];cases hf:u.f<;>rw[hf]at h<;>simp only[rL.id,dz,cg]at h<;>first|rfl|exact bu h
section
variable {P:Program} {K:World->Prop} {T:List TI} {O:qE} {ib:Array Oper} {σ τ:PS} {o:Oper} {u:lh}
def aed(h:jN P K T O σ o=some u){x:Operand}(hx:x ∈ o.op.operands):x ∈ GF o.op:=by
 obtain⟨dst,op,ty,pos,after,guard⟩:=o;simp only at hx ⊢;cases op<;>first
  | (simp only[jN]at h;cases h;done)
  | (exfalso;simp[Op.operands]at hx;done)
  | (simpa[Op.operands,GF]using hx)
  | (simpa[Op.operands,GF,or_assoc]using hx)
  |skip
 case call c=>
  obtain⟨callee,args,ats⟩:=c;cases callee<;>simpa[Op.operands,GF,Call.operands]using hx
def Gn{d:Option Tmp}{b:Bx}{rr:Nat->PV}{ke:List Prop}(h:xv σ d b rr ke=some u){id:Nat}{b':Bx}(hf:u.f = .new id b'):σ.bo id=none:=by
 obtain⟨i,_,nm,_,rfl⟩:=CD h;cases hf;exact nm
def aec(h:jN P K T O σ o=some u){id:Nat}{b:Bx}(hf:u.f = .new id b):σ.bo id=none:=by
 cases iH:o.op
 case alloc=>
  simp only[jN,iH]at h;split at h
  .split at h
   .exact Gn h hf
   .cases h
  .cases h
 case box=>
  simp only[jN,iH]at h;split at h
  .split at h
   .exact Gn h hf
   .cases h
  .cases h
 case makeSlice=>
  simp only[jN,iH,IP]at h;split at h
  .exact Gn h hf
  .cases h
 case makeFunc fn first cap=>
  cases fn with
  |func f=>
   simp only[jN,iH]at h
   repeat' split at h
   all_goals first
    | (cases h;done)
    | (cases h;cases hf;done)
  |_=>simp[jN,iH]at h
 case lookup t x i ok=>
  cases ok with
  |true=>simp[jN,iH]at h
  |false=>
   simp only[jN,iH]at h
   repeat' split at h
   all_goals first
    | (cases h;done)
    | (cases h;cases hf;done)
 case slice t x lo hi mx=>
  cases mx with
  |none=>
   simp only[jN,iH,IQ]at h
   repeat' split at h
   all_goals first
    | (cases h;done)
    | (cases h;cases hf;done)
  |some=>simp[jN,iH]at h
 case call c=>
  obtain⟨callee,args,ats⟩:=c;cases callee with
  |builtin b=>
   simp only[jN,iH]at h;cases b
   case append=>
    dsimp only at h;split at h
    .split at h
     .split at h
      .unfold B2 at h;split at h
       .split at h
        .split at h
         .cases h;cases hf
         .cases h
        .cases h
       .cases h
      .simp only[AT]at h
       repeat' split at h
       all_goals first
        | (cases h;done)
        |exact Gn h hf
        | (cases h;cases hf;done)
     .cases h
    .cases h
   all_goals
    dsimp only at h
    repeat' split at h
    all_goals first
     | (cases h;done)
     | (cases h;cases hf;done)
     | (obtain⟨_,_,rfl⟩:=dg.1 h;cases hf)
  |value f=>
   simp only[jN,iH]at h
   repeat' split at h
   all_goals first
    | (cases h;done)
    | (simp only[AU]at h;repeat' split at h)
   all_goals first
    | (cases h;done)
    | (cases h;cases hf;done)
    | (cases h;cases hf;assumption)
  |invoke _ _=>simp[jN,iH]at h
 all_goals
  simp only[jN,iH,IS,IM,IQ,IN,Gg]at h
  repeat' split at h
  all_goals first
   | (cases h;done)
   | (cases h;cases hf;done)
   | (obtain⟨_,_,rfl⟩:=dg.1 h;cases hf)
   |skip
 all_goals first
  | (obtain⟨_,_,h⟩:=gS.1 h;repeat' split at h)
  |skip
 all_goals first
  |exact Gn h hf
  | (cases h;done)
  | (cases h;cases hf;done)
def Ml(h:uG P K T O σ o=some u):∃ u0,jN P K T O σ o=some u0/\u0.rb=u.rb/\u0.f=u.f:=by
 unfold uG at h;split at h
 .rename_i u0 h0;split at h
  .split at h
   .cases h;exact⟨u0,h0,rfl,rfl⟩
   .cases h;exact⟨_,h0,rfl,rfl⟩
  .cases h;exact⟨_,h0,rfl,rfl⟩
 .cases h
def aef(h:uG P K T O σ o=some u)(hg:∀ x,x ∈ o.op.operands->τ.op x=σ.op x)(hb:∀ id,id ∈ u.rb->σ.bo id=τ.bo id)(kx:σ.nl=τ.nl)(hn:∀ id b,u.f = .new id b->τ.bo id=none):
 uG P K T O τ o=some u:=by
 obtain⟨u0,h0,e1,e2⟩:=Ml h;have:=aeb (τ:=τ) h0 hg (by rw[e1];exact hb) kx (by rw[e2];exact hn);unfold uG at h ⊢;rw[h0]at h;rw[this];exact h
def Fv(h:rz P K T O ib σ o=some u):wh σ o.dst=true/\u.rd=(looks ib o).map σ.get/\((AD ib σ o=some true/\∃ u0,uG P K T O σ o=some u0/\u={ u0 with rd:=(looks ib o).map σ.get })\/(AD ib σ o=some false/\u={ r:=.e (.v (.tuple #[])),rd:=(looks ib o).map σ.get })):=by
 unfold rz at h;split at h
 .rename_i hi;split at h
  .rename_i hw;split at h
   .rename_i u0 h0;cases h;exact⟨hi,rfl,.inl ⟨hw,u0,h0,rfl⟩⟩
   .cases h
  .rename_i hw;cases h;exact⟨hi,rfl,.inr ⟨hw,rfl⟩⟩
  .cases h
 .cases h
def Mj(h:rz P K T O ib σ o=some u)(hg:∀ t,t ∈ looks ib o->σ.get t=τ.get t)(hb:∀ id,id ∈ u.rb->σ.bo id=τ.bo id)(kx:σ.nl=τ.nl)(lW:σ.n=τ.n)(hn:∀ id b,u.f = .new id b->τ.bo id=none):
 rz P K T O ib τ o=some u:=by
 obtain⟨hi,_,hw⟩:=Fv h;have mN:wh τ o.dst=wh σ o.dst:=by cases o.dst<;>simp[wh,lW]
 have US:AD ib τ o=AD ib σ o:=by
  unfold AD;cases Cb:o.guard with
  |none=>rfl
  |some jw=>
   obtain⟨j,want⟩:=jw;cases hd:(ib[j]?).bind (·.dst)with
   |none=>simp[hd]
   |some t=>
    simp only[hd];rw[hg t (by unfold looks;rw[Cb];simp[hd])]
 have Jq:(looks ib o).map τ.get=(looks ib o).map σ.get:=fh λt ht=>(hg t ht).symm
 unfold rz;rw[mN,hi,US,Jq];simp only[bQ];rcases hw with⟨hw,u0,h0,rfl⟩|⟨hw,rfl⟩
 .rw [hw];have iH:∀ x,x ∈ o.op.operands->τ.op x=σ.op x:=by
   intro x hx;obtain⟨u1,h1,_,_⟩:=Ml h0;have hm:=aed h1 hx;refine aje λt ht=>hg t ?_
   subst ht;unfold looks;exact List.mem_append_left _ (aih hm)
  simp only[aef h0 iH hb kx hn]
 .rw [hw]
def Mk(h:rz P K T O ib σ o=some u){id:Nat}{b:Bx}(hf:u.f = .new id b):σ.bo id=none:=by
 obtain⟨_,_,⟨_,u0,h0,rfl⟩|⟨_,rfl⟩⟩:=Fv h
 .obtain ⟨u1,h1,_,e2⟩:=Ml h0;exact aec h1 (by rw[e2];exact hf)
 .cases hf
def aee(h:rz P K T O ib σ o=some u)(hs:sf σ τ):rz P K T O ib τ o=some u:=
 Mj h (λt _=>hs.get t) (λid _=>hs.bo id) hs.nl hs.n λid b hf=>by rw[<-hs.bo];exact Mk h hf
def aaK(hs:sf σ τ)(d:Option Tmp)(u:lh):sf (σ.app d u) (τ.app d u):=
 ⟨by rw[Gr,Gr];exact hs.n,by rw[Gv,Gv];exact hs.nl,λt=>by rw[FC,FC,hs.get],λid=>by rw[BR,BR,BS,BS,hs.bo]⟩
def anx{O':qE}{x y:Oper×lh}(hi:Cr ib x y=true)(h1:rz P K T O ib σ x.1=some x.2)(h2:rz P K T O' ib (σ.app x.1.dst x.2) y.1=some y.2):
 rz P K T O' ib σ y.1=some y.2/\rz P K T O ib (σ.app y.1.dst y.2) x.1=some x.2/\sf ((σ.app x.1.dst x.2).app y.1.dst y.2) ((σ.app y.1.dst y.2).app x.1.dst x.2):=by
 simp only[Cr,ch]at hi;obtain⟨⟨⟨⟨⟨⟨⟨⟨⟨i1,i2⟩,i3⟩,i4⟩,i5⟩,i6⟩,i7⟩,i8⟩,i9⟩,i10⟩:=hi;obtain⟨_,rx,_⟩:=Fv h1;obtain⟨_,ry,_⟩:=Fv h2;have r1:rz P K T O' ib σ y.1=some y.2:=by
  refine Mj h2 (λt ht=>?_) (λid hid=>AL _ _ _ _ λe=>J0 i4 e hid) (Gv _ _ _) (Gr _ _ _) λid b hf=>?_
  .have hg:(σ.app x.1.dst x.2).get t=(σ.get t).qa x.2.f:=by
    rw[FC,bu λe=>J0 i1 e ht]
   rw[hg];by_cases hv:x.2.f.K0=true
   .have tv:Oz ((σ.get t).qa x.2.f)=true:=by
     have h9:y.2.rd.all Oz=true:=by simpa[hv]using i9
     rw[ry]at h9;exact cr.1 h9 _ (dC.2 ⟨t,ht,hg⟩)
    rw[Hn]at tv ⊢;split at tv
    .rename_i hk;rw[bw hk]
    .cases tv
   .cases hf:x.2.f<;>rw[hf]at hv<;>first|exact absurd rfl hv|(cases σ.get t<;>rfl)
  .have:=Mk h2 hf;rwa[AL _ _ _ _ λe=>KU i6 e (by rw[hf];rfl) rfl]at this
 refine⟨r1,?_,?_⟩
 .refine Mj h1 (λt ht=>?_) (λid hid=>(AL _ _ _ _ λe=>J0 i5 e hid).symm) (Gv _ _ _).symm (Gr _ _ _).symm λid b hf=>?_
  .rw [FC,bu λe=>J0 i3 e ht];rw[rx]at i10;exact(NW (cr.1 i10 _ (dC.2 ⟨t,ht,rfl⟩))).symm
  .rw [AL _ _ _ _ λe=>KU i6 (by rw[hf];rfl) e rfl];exact Mk h1 hf
 .refine ⟨by simp only[Gr],by simp only[Gv],λt=>?_,λid=>?_⟩
  .simp only[FC];by_cases hx:x.1.dst=some t
   .have hy:¬y.1.dst=some t:=λe=>KU i2 hx e rfl
    rw[bu hy,bw hx,bw hx,NW i8]
   .by_cases hy:y.1.dst=some t
    .rw [bw hy,bu hx,bw hy,NW i7]
    .rw [bu hy,bu hx,bu hx,bu hy,aoM]
  .by_cases hx:x.2.f.id=some id
   .have hy:y.2.f.id≠some id:=λe=>KU i6 hx e rfl
    rw[AL _ _ _ _ hy,BR,BR,BS,BS,AL _ _ _ _ hy]
   .rw [AL _ _ x.2 _ hx];rw[BR,BR,BS,BS,AL _ _ _ _ hx]
end
section
variable {P:Program} {K:World->Prop} {T:List TI} {O:qE} {ib:Array Oper}
def wN(P:Program)(K:World->Prop)(T:List TI)(ib:Array Oper):List (Oper×lh)->PS->PS->Prop
 | [],σ,τ=>sf σ τ
 |x::l,σ,τ=>(∃ O,rz P K T O ib σ x.1=some x.2)/\wN P K T ib l (σ.app x.1.dst x.2) τ
def wN.qC{l:List (Oper×lh)}{σ σ2 τ:PS}(h:wN P K T ib l σ τ)(hs:sf σ σ2):wN P K T ib l σ2 τ:=by
 induction l generalizing σ σ2 with
 |nil=>exact hs.symm.trans h
 |cons x l ih=>exact⟨h.1.imp λ_ h=>aee h hs,ih h.2 (aaK hs _ _)⟩
def wN.afa{A C:List (Oper×lh)}{y:Oper×lh}{σ τ:PS}(h:wN P K T ib (A++y::C) σ τ)(hi:∀ x,x ∈ A->Cr ib x y=true):
 (∃ O,rz P K T O ib σ y.1=some y.2)/\wN P K T ib (A++C) (σ.app y.1.dst y.2) τ:=by
 induction A generalizing σ with
 |nil=>exact h
 |cons x A ih=>
  obtain⟨⟨O1,h1⟩,h2⟩:=h;obtain⟨⟨O2,k1⟩,k2⟩:=ih h2 λz hz=>hi z (by simp[hz])
  obtain⟨s1,s2,s3⟩:=anx (hi x aK) h1 k1;exact⟨⟨O2,s1⟩,⟨O1,s2⟩,k2.qC s3⟩
end
section
variable {P:Program} {K:World->Prop} {T:List TI} {O:qE} {w0:World} {B:Nat->Prop} {σ τ:PS} {o:Oper} {a:Act} {w:World} {L:Lk} {u:lh} {ib:Array Oper}
def Z6(r:jI w0 B σ a w L){b:Bool}(h:AD ib σ o=some b):Region.wanted o (yielded ib a.tmps)=b:=by
 unfold AD at h;unfold Region.wanted;split at h
 .rename_i hg;rw[hg];simpa using h
 .rename_i j want hg;rw[hg];simp only;split at h
  .rename_i t ht;have hv:=r.ht t;have key:∀ q:Bool,σ.get t = .e (.v (.bool q))->yielded ib a.tmps j=some q:=by
    intro q hq;rw[hq]at hv;have hv:=iN.kW hv;unfold yielded;rw[ht];simp only[Option.bind_some];have iL:a.tmps[t]? = some (.bool q):=by
     by_cases hs:t<a.tmps.size
     .simpa [hs]using hv
     .simp [hs,undef]at hv
    rw[iL]
   split at h
   .rename_i hq;rw[key true hq];simp only[cg]at h;subst h;cases want<;>rfl
   .rename_i hq;rw[key false hq];simp only[cg]at h;subst h;cases want<;>rfl
   .rename_i q hq;rw[hq]at hv;have hv:=iN.kW hv;have hn:yielded ib a.tmps j=none:=by
     unfold yielded;rw[ht];simp only[Option.bind_some];by_cases hs:t<a.tmps.size
     .rw [show a.tmps[t]? = some (.tuple q)by simpa[hs]using hv]
     .simp [hs]
    rw[hn];simp only[cg]at h;subst h;cases want<;>rfl
   .cases h
  .cases h
def SU(hT:na P T)(g:Gd P K w0 B)(r:jI w0 B σ a w L)(h:rz P K T O ib σ o=some u)(ho:∀ q,q ∈ u.ke->q)(Kc:Act->World->Prop)(Q:Exit->Act->World->Prop)
 (hk:∀ a' w' L',jI w0 B (σ.app o.dst u) a' w' L'->Kc a' w'):
 (Region.wanted o (yielded ib a.tmps)=true/\o.wp P a w Kc Q)\/(Region.wanted o (yielded ib a.tmps)=false/\Kc (a.put o.dst undef) w):=by
 obtain⟨hi,_,⟨hw,u0,h0,rfl⟩|⟨hw,rfl⟩⟩:=Fv h
 .refine .inl ⟨Z6 r hw,aeg hT g r h0 ho Kc Q λv w' L' hr hp=>hk _ w' L' ?_⟩;have nh:wh (σ.rf u0.f) o.dst=true:=by cases hd:o.dst<;>rw[hd]at hi<;>exact hi
  exact hr.put o.dst u0.r v nh hp
 .exact .inr ⟨Z6 r hw,hk _ w L (r.put o.dst (.e (.v (.tuple #[]))) undef hi (.v _))⟩
structure Left(ib:Array Oper)(listed:Array Bool)(R:List (Nat×Oper×lh)):Prop where
 lR:∀ x,x ∈ R->ib[x.1]? = some x.2.1/\listed.getD x.1 true=false
 all:∀ i,i<ib.size->listed.getD i true=false->∃ x,x ∈ R/\x.1=i
 pw:R.Pairwise λx y=>x.1<y.1/\(BA ib 3 y.2.1 x.1||Cr ib x.2 y.2)=true
 ed:∀ x,x ∈ R->∀ e,e ∈ x.2.1.after->Region.binds .any e=true->e.on<x.1
 up:∀ x,x ∈ R->∀ j z,ib[j]? = some z->Cs z x.1=true->listed.getD j true=false
def Left.BA{listed:Array Bool}{R:List (Nat×Oper×lh)}(h:Left ib listed R){x:Nat×Oper×lh}(hx:x ∈ R):∀ (n:Nat) (j:Nat) (z:Oper),ib[j]? = some z->Pu.BA ib n z x.1=true ->
 listed.getD j true=false/\∃ e,e ∈ z.after/\Region.binds .any e=true/\listed.getD e.on true=false/\e.on<ib.size:=by
 have direct:∀ (j:Nat) (z:Oper),ib[j]? = some z->Cs z x.1=true->listed.getD j true=false/\∃ e,e ∈ z.after/\Region.binds .any e=true/\listed.getD e.on true=false/\e.on<ib.size:=by
  intro j z hz he;refine⟨h.up x hx j z hz he,?_⟩;unfold Cs at he;obtain⟨e,lv,kQ⟩:=dH.1 he;simp only[ch]at kQ;have pD:=h.lR x hx;refine⟨e,by simpa using lv,kQ.1,?_,?_⟩
  .rw [ns.1 kQ.2];exact pD.2
  .rw [ns.1 kQ.2];exact(dv.1 pD.1).1
 intro n
 induction n with
 |zero=>exact direct
 |succ n ih=>
  intro j z hz hr;simp only[Pu.BA,fO]at hr;rcases hr with hr|hr
  .exact direct j z hz hr
  .obtain ⟨e,lv,kQ⟩:=dH.1 hr;simp only[ch]at kQ;obtain⟨kQ,M6⟩:=kQ;split at M6
   .rename_i z' yr;obtain⟨k1,_⟩:=ih e.on z' yr M6;have iL:=(dv.1 yr).1;obtain⟨x',Bd,JA⟩:=h.all e.on iL k1;refine⟨h.up x' Bd j z hz ?_,e,by simpa using lv,kQ,k1,iL⟩;unfold Cs;refine dH.2 ⟨e,lv,?_⟩;rw[kQ,JA];simp
   .cases M6
def Po{md:Region.Mode}{listed:Array Bool}{i:Nat}:i ∈ Region.ready md ib listed↔i<ib.size/\listed.getD i true=false/\∃ o,ib[i]? = some o/\∀ e,e ∈ o.after->Region.binds md e=true->listed.getD e.on false=true:=by
 unfold Region.ready;rw[List.mem_filter];simp only[bY,ch,fi];constructor
 .rintro ⟨h1,h2,h3⟩;refine⟨h1,h2,ib[i],by simp[h1],λe he hb=>?_⟩;rw[Array.getElem?_eq_getElem h1]at h3;simp only[dm,ap3,aqx]at h3;have:=h3 e he;simpa[hb]using this
 .rintro ⟨h1,h2,o,h3,h4⟩;refine⟨h1,h2,?_⟩;rw[h3];simp only[dm,ap3,aqx];intro e he;cases hb:Region.binds md e with
  |false=>rfl
  |true=>simpa using h4 e he hb
def aaE(hT:na P T)(g:Gd P K w0 B){Q:Exit->Act->World->Prop}(hq:∀ a' w' L',jI w0 B τ a' w' L'->Q .normal a' w'):
 ∀ (fuel:Nat) (listed:Array Bool) (R:List (Nat×Oper×lh)) (σ:PS) (a:Act) (w:World) (L:Lk),R.length=fuel->listed.size=ib.size->Left ib listed R->(∀ x,x ∈ R->∀ q,q ∈ x.2.2.ke->q) ->
  wN P K T ib (R.map (·.2)) σ τ->jI w0 B σ a w L->wpAny P .any ib Q fuel listed a w:=by
 intro fuel
 induction fuel with
 |zero=>
  intro listed R σ a w L hlen DW hleft ho Jr r;have hR:=dI hlen;subst hR;refine⟨?_,hq a w L (r.qC Jr)⟩;apply List.eq_nil_iff_forall_not_mem.2;intro i hi;obtain⟨h1,h2,_⟩:=Po.1 hi;obtain⟨x,hx,_⟩:=hleft.all i h1 h2;simp at hx
 |succ fuel ih=>
  intro listed R σ a w L hlen DW hleft ho Jr r;refine⟨λCf=>?_,λi hi=>?_⟩
  .
   exfalso;cases R with
   |nil=>simp at hlen
   |cons x R=>
    have hx:=hleft.lR x aK;have iL:x.1<ib.size:=(dv.1 hx.1).1;have:x.1 ∈ Region.ready .any ib listed:=Po.2 ⟨iL,hx.2,x.2.1,hx.1,λe he hb=>by
     have D3:=hleft.ed x aK e he hb;cases hl:listed.getD e.on true with
     |true=>
      have:e.on<listed.size:= aE ;simp[this]at hl ⊢;exact hl
     |false=>
      exfalso;obtain⟨y,hy,UX⟩:=hleft.all e.on aE hl;rcases dD.1 hy with hy|hy
      .subst hy;omega
      .have:=(ap4.1 hleft.pw).1 y hy;omega⟩
    rw[Cf]at this;simp at this
  .obtain ⟨h1,h2,o,h3,h4⟩:=Po.1 hi;obtain⟨y,hy,hyi⟩:=hleft.all i h1 h2;subst hyi;obtain⟨A,C,rfl⟩:=List.append_of_mem hy;have JC:=hleft.lR y hy;have agv:∀ x,x ∈ A->Cr ib x.2 y.2=true:=by
    intro x hx;have hp:=(ap5.1 hleft.pw).2.2 x hx y aK;rcases Bool.or_eq_true_iff.1 hp.2 with he|he
    .exfalso;obtain⟨_,e,lv,kQ,mg,iL⟩:=hleft.BA (show x ∈ A++y::C by simp[hx]) 3 y.1 y.2.1 JC.1 he;have rY:o=y.2.1:=by rw[JC.1]at h3;exact(ap6 h3).symm
     have hl:=h4 e (by rw[rY];exact lv) kQ;have qv:e.on<listed.size:=by rw[DW];exact iL
     simp[qv]at hl mg;rw[hl]at mg;cases mg
    .exact he
   rw[apW,fK]at Jr;obtain⟨⟨O,k1⟩,k2⟩:=Jr.afa (λx hx=>by
    obtain⟨z,hz,rfl⟩:=dC.1 hx;exact agv z hz)
   have agy:Left ib (listed.setIfInBounds y.1 true) (A++C):=by
    have lL:∀ x,x ∈ A++C->x.1≠y.1:=by
     intro x hx;rcases er.1 hx with hx|hx
     .have:=((ap5.1 hleft.pw).2.2 x hx y aK).1;omega
     .have:=((ap4.1 (ap5.1 hleft.pw).2.1).1 x hx).1;omega
    have Ju:∀ x,x ∈ A++C->x ∈ A++y::C:=λx hx=>by
     rcases er.1 hx with hx|hx<;>simp[hx]
    refine⟨λx hx=>?_,λj hj hl=>?_,?_,λx hx=>hleft.ed x (Ju x hx),λx hx j z hz he=>?_⟩
    .obtain ⟨q1,q2⟩:=hleft.lR x (Ju x hx);refine⟨q1,?_⟩;have qv:x.1<listed.size:=by rw[DW];exact(dv.1 q1).1
     simp[qv]at q2 ⊢;rw[ap7 _ (λe=>lL x hx e.symm)];exact q2
    .have Jf:j<listed.size:= aE ;by_cases DS:j=y.1
     .subst DS;simp[Jf]at hl
     .have:listed.getD j true=false:=by
       simp[Jf]at hl ⊢;rw[ap7 _ (λe=>DS e.symm)]at hl;exact hl
      obtain⟨x,hx,JB⟩:=hleft.all j hj this;refine⟨x,?_,JB⟩;rcases er.1 hx with hx|hx
      .simp [hx]
      .rcases dD.1 hx with hx|hx
       .subst hx;exact absurd JB.symm DS
       .simp [hx]
    .exact hleft.pw.sublist (List.Sublist.append (List.Sublist.refl A) (List.sublist_cons_self y C))
    .have q:=hleft.up x (Ju x hx) j z hz he;have Jf:j<listed.size:=by rw[DW];exact(dv.1 hz).1
     by_cases DS:j=y.1
     .exfalso;subst DS;rw[JC.1]at hz h3;cases hz;cases h3;unfold Cs at he;obtain⟨e,lv,kQ⟩:=dH.1 he;simp only[ch]at kQ;have hl:=h4 e (by simpa using lv) kQ.1;rw[ns.1 kQ.2]at hl;have mg:=(hleft.lR x (Ju x hx))
      have qv:x.1<listed.size:=by rw[DW];exact(dv.1 mg.1).1
      have mg:=mg.2;simp[qv]at hl mg;rw[hl]at mg;cases mg
     .simp [Jf]at q ⊢;rw[ap7 _ (λe=>DS e.symm)];exact q
   unfold wpOp;rw[JC.1];simp only;rcases SU hT g r k1 (ho y aK) (wpAny P .any ib Q fuel (listed.setIfInBounds y.1 true)) Q (λa' w' L' hr=>ih _ (A++C) _ a' w' L' (by simp at hlen ⊢;omega) (by simpa using DW) agy (λx hx=>ho x (by
    rcases er.1 hx with hx|hx<;>simp[hx])) (by rw[apW];exact k2) hr)with⟨p1,p2⟩|⟨p1,p2⟩
   .rw [bw p1];exact .inl p2
   .rw [bu (by rw[p1];simp)];exact p2
def ahv{us:List (Oper×lh)}(zQ:us.map (·.1)=ib.toList)(hp:Eo ib 0 us=true):
 ∃ R:List (Nat×Oper×lh),R.map (·.2)=us/\R.length=ib.size/\Left ib (Array.replicate ib.size false) R:=by
 have key:∀ (us:List (Oper×lh)) (k:Nat),Eo ib k us=true->(∀ j x,us[j]? = some x->ib[k+j]? = some x.1) ->
  ∃ R:List (Nat×Oper×lh),R.map (·.2)=us/\(∀ j x,R[j]? = some x->x.1=k+j)/\(∀ x,x ∈ R->ib[x.1]? = some x.2.1)/\(R.Pairwise λx y=>x.1<y.1/\(BA ib 3 y.2.1 x.1||Cr ib x.2 y.2)=true) /\
   (∀ x,x ∈ R->∀ e,e ∈ x.2.1.after->Region.binds .any e=true->e.on<x.1):=by
  intro us
  induction us with
  |nil=>exact λk _ _=>⟨[],rfl,λj x h=>by simp at h,λx h=>by simp at h,List.Pairwise.nil,λx h=>by simp at h⟩
  |cons x us ih=>
   intro k hp pD;simp only[Eo,ch]at hp;obtain⟨R,r1,r2,r3,r4,r5⟩:=ih (k+1) hp.2 (λj y hy=>by have:=pD (j+1) y (by simpa using hy);rwa[(aE:k+(j+1)=k+1+j)]at this);have rB:∀ y,y ∈ R->k<y.1/\y.2 ∈ us:=by
    intro y hy;obtain⟨j,hj⟩:=dJ.1 hy;have:=r2 j y hj;exact⟨aE,by rw[<-r1];exact dC.2 ⟨y,hy,rfl⟩⟩
   refine⟨(k,x)::R,by simp[r1],λj y hy=>?_,λy hy=>?_,?_,λy hy=>?_⟩
   .cases j with
    |zero=>simp at hy;subst hy;rfl
    |succ j=>have:=r2 j y (by simpa using hy);omega
   .rcases dD.1 hy with hy|hy
    .subst hy;have:=pD 0 x rfl;simpa using this
    .exact r3 y hy
   .rw [ap4];refine⟨λy hy=>⟨(rB y hy).1,?_⟩,r4⟩;exact cr.1 hp.1.2 y.2 (rB y hy).2
   .rcases dD.1 hy with hy|hy
    .subst hy;intro e he hb;have:=cr.1 hp.1.1 e (by simpa using he);simpa[hb]using this
    .exact r5 y hy
 obtain⟨R,r1,r2,r3,r4,r5⟩:=key us 0 hp (λj x hx=>by
  rw[cD];have:=congrArg (·[j]?) zQ;simp only[cQ,hx,dm]at this;simpa using this.symm)
 have hlen:R.length=ib.size:=by
  have h1:=congrArg List.length r1;have h2:=congrArg List.length zQ;simp at h1 h2;omega
 refine⟨R,r1,hlen,λx hx=>⟨r3 x hx,?_⟩,λi hi _=>?_,r4,r5,λx hx j z hz _=>by have:=(dv.1 hz).1;simp[this]⟩
 .have:=(dv.1 (r3 x hx)).1;simp[this]
 .have nh:i<R.length:= aE ;exact⟨R[i],cN nh,by have:=r2 i R[i] (bI nh);omega⟩
end
def PS.le(σ τ:PS):Prop:=∀ (w0:World) (B:Nat->Prop) (a:Act) (w:World) (L:Lk),(∀ b,B b->b<w0.heap.size)->jI w0 B σ a w L->∃ L',jI w0 B τ a w L'
def PS.le.refl(σ:PS):PS.le σ σ:=λ_ _ _ _ L _ r=>⟨L,r⟩
def PS.le.trans{σ τ υ:PS}(h:PS.le σ τ)(k:PS.le τ υ):PS.le σ υ:=λw0 B a w L g r=>let⟨L',r'⟩:=h w0 B a w L g r;k w0 B a w L' g r'
def PV.le.refl(p:PV):PV.le p p:=λ_ _ _ _ _ h=>h
def Bx.le(a b:Bx):Prop:=(a.nl=true->b.nl=true)/\∀ (bs br:Nat->Prop) (L:Lk) (w:World) (id:Nat),se bs br L w id a->se bs br L w id b
def Bx.le.refl(a:Bx):Bx.le a a:=⟨id,λ_ _ _ _ _ h=>h⟩
def xL(σ:PS):List (Nat×PV)->Prop
 | []=>True
 | (k,p)::l=>PV.le (σ.get k) p/\xL σ l
def wL(σ:PS):List (Nat×Bx)->Prop
 | []=>True
 | (id,b)::l=>(∃ b',σ.bo id=some b'/\Bx.le b' b)/\wL σ l
def GY(τ:PS):Bool:=τ.t.all λx=>x.2.qY.all λid=>(look τ.b id).isSome
def Od{α:Type}{l:List (Nat×α)}{t:Nat}{x:α}(h:look l t=some x):(t,x) ∈ l:=by
 induction l with
 |nil=>cases h
 |cons y l ih=>
  obtain⟨k,z⟩:=y;rw[ui]at h;split at h
  .rename_i e;cases h;subst e;exact .head _
  .exact .tail _ (ih h)
def xL.get{σ:PS}{l:List (Nat×PV)}(h:xL σ l){t:Nat}{p:PV}(k:look l t=some p):PV.le (σ.get t) p:=by
 induction l with
 |nil=>cases k
 |cons y l ih=>
  obtain⟨q,z⟩:=y;rw[ui]at k;split at k
  .rename_i e;cases k;subst e;exact h.1
  .exact ih h.2 k
def wL.get{σ:PS}{l:List (Nat×Bx)}(h:wL σ l){t:Nat}{b:Bx}(k:look l t=some b):∃ b',σ.bo t=some b'/\Bx.le b' b:=by
 induction l with
 |nil=>cases k
 |cons y l ih=>
  obtain⟨q,z⟩:=y;rw[ui]at k;split at k
  .rename_i e;cases k;subst e;exact h.1
  .exact ih h.2 k
def PS.le.qk{σ τ:PS}(hn:σ.n=τ.n)(kx:τ.nl=σ.nl)(hr:GY τ=true)(ht:xL σ τ.t)(hb:wL σ τ.b):PS.le σ τ:=λw0 B a w L _ r=>by
 let L':Lk:=⟨λid=>L.oW id/\(τ.bo id).isSome=true,λid x=>L.own id x/\(τ.bo id).isSome=true,L.val,L.jE⟩
 have iL:tM L w L' w:=⟨bC _,λx _ ⟨id,h,_⟩=>⟨id,h⟩,λ_ _ _=>rfl⟩
 refine⟨L',r.hd,by rw[<-hn];exact r.hs,λt=>?_,λid b h=>?_,λid=>?_,λid x h=>⟨r.hn id x h.1,h.2⟩,λid x h=>r.hw id x h.1,λid id' x h k=>r.hi id id' x h.1 k.1,r.he,λh id b k=>?_⟩
 .have hg:τ.get t=((look τ.t t)).getD (.e .any):=rfl;cases hl:look τ.t t with
  |none=>rw[hg,hl];exact .any _
  |some p=>
   rw[hg,hl];have:=ht.get hl _ _ _ _ _ (r.ht t);refine ot.move iL this λid hid vX=>⟨⟨vX,?_⟩,rfl,λ_=>rfl⟩
   have q:=cr.1 hr _ (Od hl);exact cr.1 q id hid
 .obtain ⟨b',h1,h2⟩:=hb.get h;have hs:(τ.bo id).isSome=true:=by rw[h];rfl
  exact(h2.2 _ _ _ _ _ (r.hb id b' h1)).later iL rfl (λx=>⟨λq=>q.1,λq=>⟨q,hs⟩⟩) (λ_=>rfl) λ_ _=>rfl
 .show L.oW id/\(τ.bo id).isSome=true↔(τ.bo id).isSome=true;refine⟨λh=>h.2,λh=>⟨(r.hv id).2 ?_,h⟩⟩;obtain⟨b,kq⟩:=gT.1 h;obtain⟨b',h1,_⟩:=hb.get kq;rw[h1];rfl
 .obtain ⟨b',h1,h2⟩:=hb.get k;exact h2.1 (r.hl (by rw[<-kx];exact h) id b' h1)
def Ff(σ:PS):List Nat->List (Nat×Bx)
 | []=>[]
 |i::l=>match σ.bo i with
  |some b=>(i,b)::Ff σ l
  |none=>Ff σ l
def PS.cut(ts bs:List Nat)(σ:PS):PS:={ n:=σ.n,nl:=σ.nl,t:=ts.map λt=>(t,σ.get t),b:=Ff σ bs }
def xL.cut(σ:PS):∀ ts:List Nat,xL σ (ts.map λt=>(t,σ.get t))
 | []=>trivial
 |_::l=>⟨PV.le.refl _,xL.cut σ l⟩
def wL.cut(σ:PS):∀ bs:List Nat,wL σ (Ff σ bs)
 | []=>trivial
 |i::l=>by
  unfold Ff;split
  .rename_i b h;exact⟨⟨b,h,Bx.le.refl b⟩,wL.cut σ l⟩
  .exact wL.cut σ l
def PS.le.cut{σ:PS}(ts bs:List Nat)(hr:GY (σ.cut ts bs)=true):PS.le σ (σ.cut ts bs):=PS.le.qk rfl rfl hr (xL.cut σ ts) (wL.cut σ bs)
def Ex.to:Ex->Exit
 | .normal=>.normal
 | .exit id=>.exit id
 | .ret=>.ret
def Sp(P:Program)(K:World->Prop)(c:Code)(σ:PS)(Q:Ex->PS->Prop):Prop:=
 ∀ (w0:World) (B:Nat->Prop) (a:Act) (w:World) (L:Lk),Gd P K w0 B->jI w0 B σ a w L->c.wp P (λe a' w'=>∃ ex τ L',e=ex.to/\Q ex τ/\jI w0 B τ a' w' L') a w
def Sp.mono{P:Program}{K:World->Prop}{c:Code}{σ:PS}{Q Q':Ex->PS->Prop}(h:Sp P K c σ Q)(hq:∀ e τ,Q e τ->Q' e τ):Sp P K c σ Q':=
 λw0 B a w L g r=>Code.wp_mono (λ_ _ _ ⟨ex,τ,L',h1,h2,h3⟩=>⟨ex,τ,L',h1,hq _ _ h2,h3⟩) (h w0 B a w L g r)
abbrev Lo:=List (Nat×(Ex×PS×List Nat×List Nat))
section
variable {P:Program} {K:World->Prop} {T:List TI} {O:qE} {lo:Lo}
def Sp.loop{b:Code}{Q:Ex->PS->Prop}(J:Nat->PS->Prop)(oL:∀ n σ,J n σ->Sp P K b σ (λe τ=>(e = .normal/\∃ m,m<n/\J m τ)\/(e ≠ .normal/\Q e τ))):
 ∀ n σ,J n σ->Sp P K (.loop b) σ Q:=by
 intro n0 σ0 hJ0 w0 B a0 w1 L0 g r0 bf k cs;have key:∀ n σ a w L,J n σ->jI w0 B σ a w L ->
  ∃ e a' w',(∃ ex τ L',e=ex.to/\Q ex τ/\jI w0 B τ a' w' L')/\Arrives P (lone (bf.at a (.code b :: .inLoop b::k)) cs w) bf k cs e a' w':=by
  intro n
  induction n using Nat.strongRecOn with
  |_ n ih=>
   intro σ a w L hJ r;obtain⟨e,a₁,w₁,⟨ex,υ,L2,rfl,hq,oA⟩,w8⟩:=oL n σ hJ w0 B a w L g r bf (.inLoop b::k) cs;rcases hq with⟨rfl,m,hm,MG⟩|⟨lL,hq⟩
   .obtain ⟨e₂,a₂,w₂,Nt,MX⟩:=ih m hm υ a₁ w₁ L2 MG oA;exact⟨e₂,a₂,w₂,Nt,.of_steps (Steps.trans w8 (.one step_inLoop)) MX⟩
   .cases ex with
    |normal=>exact absurd rfl lL
    |exit i=>exact⟨_,a₁,w₁,⟨.exit i,υ,L2,rfl,hq,oA⟩,.pass (x:=.inLoop b) rfl (λ_ _=>.inl (by simp[Ex.to])) w8⟩
    |ret=>exact⟨_,a₁,w₁,⟨.ret,υ,L2,rfl,hq,oA⟩,.pass (x:=.inLoop b) rfl (λ_ _=>.inl (by simp[Ex.to])) w8⟩
 obtain⟨e,a',w',hq,w8⟩:=key n0 σ0 a0 w1 L0 hJ0 r0;exact⟨e,a',w',hq,.of_steps (.one step_loop) w8⟩
def an1{w0:World}{B:Nat->Prop}{σ:PS}{a:Act}{w:World}{L:Lk}(hB:∀ b,B b->b<w0.heap.size)(r:jI w0 B σ a w L){p:PV}{e:E}(h:KM σ p=some e){v:Value}(hv:ot (jM B L) (ky L) L w p v):
 iN B (λ_=>True) w e v:=by
 have T5:∀ id x,L.own id x->¬B x:=λid x hx hb=>by have:=hB x hb;have:=(r.hw id x hx).1;omega
 have own:∀ (v:Value) (T:TypeId) (n sz:Nat) (f:Nat->Nat->Value) (nl:Bool) (el:Nat->Nat->E) (id:Nat),qP w v T n sz f nl->(∀ x,v.ownBlock=some x->L.own id x) ->
  (∀ i j,i<n->j<sz->iN (jM B L) (ky L) w (el i j) (f i j)/\(el i j).nr 2=true)->iN B (λ_=>True) w (.sl nl n sz el) v:=by
  intro v T n sz f nl el id h1 h2 h3;rcases h1 with⟨rfl,rfl⟩|⟨b,c,cur,rfl,hg,qs,oI,oz,mf,kx⟩
  .exact .sl nl 0 sz el none 0 f (bC _) aG (λ_=>rfl) (λi j hi=>absurd hi (bO i)) (λi j hi=>absurd hi (bO i)) (λi j hi=>absurd hi (bO i)) (λi j hi=>absurd hi (bO i))
  .have rY:=h2 b rfl;refine .sl nl n sz el _ c f qs (by unfold maxLen at oI;omega) (λh=>by cases h) (λi j hi hj=>⟨(mf i j hi hj).2,λhn=>kx hn _ (eh (mf i j hi hj).1)⟩) (λi j hi hj=>(h3 i j hi hj).2)
    (λi j hi hj=>⟨b,0,rfl,T5 id b rY,(r.hw id b rY).2,?_⟩) (λi j hi hj=>((h3 i j hi hj).1.sd (λ_ h=>.inl h) (λ_ h=>h)).nr 2 (h3 i j hi hj).2)
   rw[cD];simp only[World.cell?,hg];simpa using(mf i j hi hj).1
 cases p with
 |e x=>
  simp only[KM]at h;split at h
  .rename_i hn;cases h;exact(iN.sd (bs':=B) (br':=ky L) (λ_ h=>.inl h) (λ_ h=>h) hv).nr 3 hn
  .cases h
 |own id=>
  obtain⟨_,rfl⟩:=hv;simp only[KM]at h;split at h
  .rename_i nl T n sz el kq;cases h;obtain⟨f,h1,h2,h3⟩:=r.hb id _ kq;exact own _ T n sz f nl el id h1 (λx hx=>(h2 x).2 hx) h3
  .rename_i nl T1 T0 n sz len el kq;cases h;obtain⟨b,c,cur,f,h1,h2,h3,h4,h5,h6,h7,h8,h9,uH,vQ⟩:=r.hb id _ kq;have rY:L.own id b:=(h9 b).2 (.inl rfl);rw[h1];refine .sl true n 1 _ _ c (λk _=>L.jE id k) h3 (by unfold maxLen at h4;omega) (λh=>by cases h) (λk j hk hj=>?_) (λk j hk hj=>rfl)
    (λk j hk hj=>⟨b,0,rfl,T5 id b rY,(r.hw id b rY).2,?_⟩) (λk j hk hj=>own _ T0 (len k) sz (f k) nl (el k) id (h8 k hk).1 (λx hx=>(h9 x).2 (.inr ⟨k,hk,hx⟩)) (h8 k hk).2)
   .obtain ⟨q1,q2⟩:=h7 _ (eh (h6 k hk aK));exact⟨q1,λ_=>q2⟩
   .rw [cD,cz];obtain rfl:j=0:= aE ;simp only[World.cell?,h2];simpa using h6 k hk aK 
  .cases h
 |_=>cases h
def CU(tmps:Array Value):ResultVar->Sem Value
 | .tmp t=>Pure.pure (tmps.getD t undef)
 | .cell q t=>do loadVar t (<-asAddr (tmps.getD q undef))
def Pt(fn:Func)(tmps:Array Value):results fn tmps=(do
 let vs <-fn.results.mapM (CU tmps)
 Pure.pure (if h:vs.size=1 then vs[0]else .tuple vs)):=by
 unfold results;congr 1
def alB{w0:World}{B:Nat->Prop}{σ:PS}{a:Act}{w:World}{L:Lk}(hT:na P T)(hB:∀ b,B b->b<w0.heap.size)(r:jI w0 B σ a w L){x:ResultVar}{e:E}(h:Ps T σ x=some e):
 ∃ v,(CU a.tmps x).run P w = .ok v w/\iN B (λ_=>True) w e v:=by
 cases x with
 |tmp t=>exact⟨_,rfl,an1 hB r h (r.ht t)⟩
 |cell q t=>
  simp only[Ps]at h;split at h
  .rename_i ti pI;split at h
   .rename_i l is Jq;obtain⟨b,of,vs,e1,h1,h2,h3⟩:=r.read (r.ht q) Jq (λq hq=>by simp at hq);by_cases ha:ti.isAgg=true
    .rw [bw ha]at h;split at h
     .rename_i hn;cases h;refine⟨.agg vs.toArray,?_,(iN.sd (bs':=B) (br':=ky L) (λ_ h=>.inl h) (λ_ h=>h) h1.agg).nr 3 hn⟩;simp only[CU,e1,asAddr,Sem.run_bind,Sem.run_pure,Result.andThen_ok,Yx hT w pI ha b of vs h2 h3]
     .cases h
    .rw [bu ha]at h;split at h
     .rename_i y;split at h
      .rename_i hn;cases h;obtain⟨z,zs,rfl,hz,_⟩:=h1.mI;refine⟨z,?_,(iN.sd (bs':=B) (br':=ky L) (λ_ h=>.inl h) (λ_ h=>h) hz).nr 3 hn⟩;simp only[CU,e1,asAddr,Sem.run_bind,Sem.run_pure,Result.andThen_ok,PG hT w pI (by simpa using ha) b of z (by simpa using h3 0 z rfl)]
      .cases h
     .cases h
   .cases h
  .cases h
def alz{w0:World}{B:Nat->Prop}{σ:PS}{a:Act}{w:World}{L:Lk}(hT:na P T)(hB:∀ b,B b->b<w0.heap.size)(r:jI w0 B σ a w L){l:List ResultVar}{es:List E}(h:EB T σ l=some es):
 ∃ vs,(l.mapM (CU a.tmps)).run P w = .ok vs w/\kD B (λ_=>True) w es vs:=by
 induction l generalizing es with
 |nil=>simp only[EB,cg]at h;subst h;exact⟨[],rfl,.nil _ _ _⟩
 |cons x l ih=>
  simp only[EB]at h;split at h
  .rename_i e es' h1 h2;cases h;obtain⟨v,q1,q2⟩:=alB hT hB r h1;obtain⟨vs,p1,p2⟩:=ih h2;refine⟨v::vs,?_,.cons q2 p2⟩;rw[fN];simp only[Sem.run_bind,q1,Result.andThen_ok,p1,Sem.run_pure]
  .cases h
def alA{w0:World}{B:Nat->Prop}{σ:PS}{a:Act}{w:World}{L:Lk}(hT:na P T)(hB:∀ b,B b->b<w0.heap.size)(r:jI w0 B σ a w L){fn:Func}{e:E}(h:Kq T fn σ=some e):
 ∃ v,(results fn a.tmps).run P w = .ok v w/\iN B (λ_=>True) w e v:=by
 unfold Kq at h;have main:∀ es,EB T σ fn.results.toList=some es->∃ vs:List Value,(fn.results.mapM (CU a.tmps)).run P w = .ok vs.toArray w/\kD B (λ_=>True) w es vs:=by
  intro es hes;obtain⟨vs,h1,h2⟩:=alz hT hB r hes;refine⟨vs,?_,h2⟩;rw[aqy];simp only[Sem.run_map,h1,Result.andThen_ok]
 split at h
 .rename_i y hy;cases h;obtain⟨vs,h1,h2⟩:=main _ hy;obtain⟨v,vs',rfl,hv,Cf⟩:=h2.mI;have:=Cf.qm;subst this;refine⟨v,?_,hv⟩;rw[Pt,Sem.run_bind,h1];simp
 .rename_i l lL hl;cases h;obtain⟨vs,h1,h2⟩:=main _ hl;refine⟨.tuple vs.toArray,?_,h2.iC⟩;rw[Pt,Sem.run_bind,h1];have hlen:¬vs.length=1:=by
   rw[h2.len];intro e1
   match l,e1 with
   | [y],_=>exact lL y rfl
  simp[hlen]
 .cases h
def agT(args:List E):∀ (k t:Nat),look (F6 k args) t=if k<=t then(args[t-k]?).map .e else none:=by
 induction args with
 |nil=>intro k t;simp[F6,look]
 |cons x l ih=>
  intro k t;simp only[F6];rw[ui,ih (k+1) t];by_cases h:k=t
  .subst h;simp
  .rw [bu h];by_cases h2:k<=t
   .rw [bw aE,bw h2,(aE:t-k=(t-(k+1))+1)];simp
   .rw [bu aE,bu h2]
def jI.init{B:Nat->Prop}{w:World}{fn:Func}{args:List E}{vs:List Value}(hr:kD B (λ_=>False) w args vs)(hn:args.length<=fn.ntmps)(nl:Bool)(_hB:∀ b,B b->b<w.heap.size/\pt w b):
 jI w B (Bi fn nl args) { tmps:=vs.toArray++Array.replicate (fn.ntmps-vs.toArray.size) undef,defers:=[] } w ⟨λ_=>False,λ_ _=>False,λ_=>undef,λ_ _=>undef⟩:=by
 have hlen:=hr.len;refine⟨rfl,by simp[Bi];omega,λt=>?_,λid b hb=>(by cases hb),λid=>⟨λh=>h.elim,λh=>(by cases h)⟩,λ_ _ h=>h.elim,λ_ _ h=>h.elim,λ_ _ _ h=>h.elim,Below.refl _ _,λ_ id b hb=>(by cases hb)⟩;have hg:(Bi fn nl args).get t=((args[t]?).map PV.e).getD (.e .any):=by
  unfold PS.get Bi;rw[agT];simp
 rw[hg];by_cases ht:t<args.length
 .have Bc:t<vs.length:= aE ;rw[bI ht];have hv:(vs.toArray++Array.replicate (fn.ntmps-vs.toArray.size) undef).getD t undef=vs[t]:=by
   simp[Array.getElem?_append,Bc]
  show iN _ _ _ _ _;rw[hv];exact(hr.lQ t _ _ (bI ht) (bI Bc)).sd (λb h=>h.elim id λ⟨_,h⟩=>h.elim) (λ_ ⟨_,h⟩=>h.elim)
 .rw [cC aE];exact .any _
def PC.Oi(hT:na P T)(hm:P.follows .mixedOrders=true)(hp:∀ w w',K w->Below w.heap.size w w'->K w'){f:FuncId}{fn:Func}{c:Code}{args:List E}{ko:E}(xd:∀ (vs:Array Value) (w:World),(callFunc f vs).run P w = .ok (.enter f vs) w)
 (hf:P.funcs[f]? = some fn) (hb:fn.body=some c) (hn:args.length<=fn.ntmps) (nl:Bool)
 (h:Sp P K c (Bi fn nl args) (λe τ=>(e = .ret\/e = .normal)/\∃ r,Kq T fn τ=some r/\∀ (bs br:Nat->Prop) (w:World) (v:Value),iN bs br w r v->iN bs br w ko v)):PC P K f args ko:=by
 refine⟨xd,λw B vs hK hB hr=>calls_of_wp hf hb ?_⟩;have wa:=jI.init (fn:=fn) hr hn nl hB;refine Code.wp_mono ?_ (h w B _ w _ ⟨hK,hp,hB⟩ wa);rintro e a' w' ⟨ex,τ,L',rfl,⟨he,r,FT,hle⟩,xm⟩;obtain⟨v,h1,h2⟩:=alA hT (λb hb=>(hB b hb).1) xm FT;have FP:a'.defers=[]/\∃ v,(results fn a'.tmps).run P w' = .ok v w'/\∃ v',Ending.returned v = .returned v'/\Below w.heap.size w w'/\iN B (λ_=>True) w' ko v':=⟨xm.hd,v,h1,v,rfl,xm.he,hle _ _ _ _ h2⟩
 rcases he with rfl|rfl
 .exact FP
 .exact FP
def vw.Oi(hT:na P T)(hm:P.follows .mixedOrders=true)(hp:∀ w w',K w->Below w.heap.size w w'->K w'){f:FuncId}{fn:Func}{c:Code}{args:List E}(xd:∀ (vs:Array Value) (w:World),(callFunc f vs).run P w = .ok (.enter f vs) w)
 (hf:P.funcs[f]? = some fn) (hb:fn.body=some c) (hn:args.length<=fn.ntmps) (nl:Bool) {nl':Bool} {T0:TypeId} {n sz:Nat} {el:Nat->Nat->E}
 (h:Sp P K c (Bi fn nl args) (λe τ=>(e = .ret\/e = .normal)/\∃ t id b,fn.results.toList=[.tmp t]/\τ.get t = .own id/\τ.bo id=some b/\∀ (bs br:Nat->Prop) (L:Lk) (w:World),se bs br L w id b->se bs br L w id (.row nl' T0 n sz el))):vw P K f args nl' T0 n sz el:=by
 refine⟨xd,λw B vs hK hB hr=>calls_of_wp hf hb ?_⟩;have wa:=jI.init (fn:=fn) hr hn nl hB;refine Code.wp_mono ?_ (h w B _ w _ ⟨hK,hp,hB⟩ wa);rintro e a' w' ⟨ex,τ,L',rfl,⟨he,t,id,b,FT,hg,kq,hle⟩,xm⟩;have ho:=xm.ht t;rw[hg]at ho;obtain⟨vX,hv⟩:=ho;obtain⟨f0,h1,h2,h3⟩:=hle _ _ _ _ (xm.hb id b kq);have mq:(results fn a'.tmps).run P w' = .ok (L'.val id) w':=by
  rw[Pt,Sem.run_bind,aqy,FT,Sem.run_map,fN];simp only[CU,Sem.run_bind,Sem.run_pure,Result.andThen_ok,List.mapM_nil,hv];simp
 have FP:a'.defers=[]/\∃ v,(results fn a'.tmps).run P w' = .ok v w'/\∃ v',Ending.returned v = .returned v'/\Below w.heap.size w w'/\∃ g,qP w' v' T0 n sz g nl'/\(∀ x,v'.ownBlock=some x->w.heap.size<=x/\x<w'.heap.size) /\
  ∀ i j,i<n->j<sz->iN (λb=>B b\/v'.ownBlock=some b) (λ_=>True) w' (el i j) (g i j)/\(el i j).nr 2=true:=by
  refine⟨xm.hd,_,mq,_,rfl,xm.he,f0,h1,λx hx=>xm.hw id x ((h2 x).2 hx),λi j hi hj=>⟨?_,(h3 i j hi hj).2⟩⟩;refine((h3 i j hi hj).1.sd (bs':=λb=>B b\/(L'.val id).ownBlock=some b) (br':=ky L') (λb hb=>?_) (λ_ h=>h)).nr 2 (h3 i j hi hj).2;rcases hb with hb|hb
  .exact .inl hb
  .exact .inr ⟨id,(h2 b).2 hb⟩
 rcases he with rfl|rfl
 .exact FP
 .exact FP
end
def Hz(P:Program):List TI->Prop
 | []=>True
 |x::l=>(P.underlying x.id=some x.d/\P.info? x.id=some x.i)/\Hz P l
def Hz.ok{P:Program}{T:List TI}(h:Hz P T):na P T:=by
 induction T with
 |nil=>intro x hx;simp at hx
 |cons y l ih=>
  intro x hx;rcases dD.1 hx with hx|hx
  .subst hx;exact h.1
  .exact ih h.2 x hx
def E.le(p q:E):Prop:=∀ (bs br:Nat->Prop) (w:World) (v:Value),iN bs br w p v->iN bs br w q v
def E.le.refl(p:E):E.le p p:=λ_ _ _ _ h=>h
def E.le.iM{p q:E}(h:p=q):E.le p q:=h▸E.le.refl p
def E.le.trans{p q r:E}(h:E.le p q)(k:E.le q r):E.le p r:=λ_ _ _ _ x=>k _ _ _ _ (h _ _ _ _ x)
def PV.le.e{p q:E}(h:E.le p q):aj p q:=λbs br _ w v k=>h bs br w v k
def PV.le.bool{a b:Bool}(h:a=b):aj (.v (.bool a)) (.v (.bool b)):=PV.le.e (.iM (by rw[h]))
def PV.le.int{k:IntKind}{a b:Int}(h:a=b):aj (.v (.int k a)) (.v (.int k b)):=PV.le.e (.iM (by rw[h]))
def aq(a b:Int)(h:a=b):aj (.v (.int .i64 a)) (.v (.int .i64 b)):=.int h
inductive uy:List E->List E->Prop
 |nil:uy [] []
 |cons {p q:E} {l m:List E} (h:E.le p q) (k:uy l m):uy (p::l) (q::m)
def uy.refl:∀ l:List E,uy l l
 | []=>.nil
 |p::l=>.cons (.refl p) (uy.refl l)
def uy.Kp{l m:List E}(h:uy l m){bs br:Nat->Prop}{w:World}{vs:List Value}(k:kD bs br w l vs):kD bs br w m vs:=by
 induction h generalizing vs with
 |nil=>exact k
 |cons h _ ih=>
  obtain⟨x,ys,rfl,h1,h2⟩:=k.mI;exact .cons (h _ _ _ _ h1) (ih h2)
def E.le.agg{l m:List E}(h:uy l m):E.le (.agg l) (.agg m):=λ_ _ _ _ k=>by
 obtain⟨vs,rfl,hr⟩:=iN.Dg k;exact(h.Kp hr).agg
def E.le.iC{l m:List E}(h:uy l m):E.le (.iC l) (.iC m):=λ_ _ _ _ k=>by
 obtain⟨vs,rfl,hr⟩:=iN.ZK k;exact(h.Kp hr).iC
def E.le.nil(nl:Bool)(sz:Nat)(el:Nat->Nat->E):E.le (.v (.slice none 0 0)) (.sl nl 0 sz el):=λ_ _ _ _ k=>by
 obtain rfl:=iN.kW k;exact .sl nl 0 sz el none 0 (λ_ _=>undef) (bC _) aG (λ_=>rfl) (λi j h=>absurd h (bO i)) (λi j h=>absurd h (bO i)) (λi j h=>absurd h (bO i)) (λi j h=>absurd h (bO i))
def E.le.sl{nl:Bool}{n sz:Nat}{el el':Nat->Nat->E}(h:∀ i j,i<n->j<sz->E.le (el i j) (el' i j)/\(el' i j).nr 2=true):E.le (.sl nl n sz el) (.sl nl n sz el'):=λbs br w v k=>by
 cases k with
 |sl _ _ _ _ A c f hc hm h0 hl hr cell kk=>
  exact .sl nl n sz el' A c f hc hm h0 hl (λi j hi hj=>(h i j hi hj).2) cell λi j hi hj=>(h i j hi hj).1 _ _ _ _ (kk i j hi hj)
def PC.le{P:Program}{K:World->Prop}{f:FuncId}{args args':List E}{ko res':E}(h:PC P K f args ko)(ha:uy args' args)(hr:E.le ko res'):PC P K f args' res':=
 ⟨h.call,λw B vs hK hB su=>(h.run w B vs hK hB (ha.Kp su)).mono λ_ _ ⟨v,h1,h2,h3⟩=>⟨v,h1,h2,hr _ _ _ _ h3⟩⟩
def PC.ko{P:Program}{K:World->Prop}{f:FuncId}{args:List E}{ko res':E}(h:PC P K f args ko)(hr:E.le ko res'):PC P K f args res':=h.le (uy.refl _) hr
end Go.Proofs.YtkjkcjhacddojaaGreatDoor.Pu
namespace Go.Proofs.YtkjkcjhacddojaaGreatDoor
open Go.RowKit Fp
def uZ(A:Option Addr)(c:Nat)(L:List Nat)(w:World)(hs:Sl w A c L):
 Calls prog 274 #[.slice A L.length c] w λe w'=>e = .returned (.slice A (ix L).length c)/\w=w':=by
 have hc:=hs.cap;have hl:=hs.qx;go_enter func274,ntmps274;go_wp2;go_loop [3] (λi=>∃ k:Nat,k<=L.length/\i = .int .i64 k/\mC L=mC (L.take k)) (λi=>(intOf i).toNat)
 case atStart=>exact⟨L.length,bC _,rfl,aK⟩
 case round=>
  obtain⟨k,hk,rfl,ht⟩:=hrel;have HT:=aqG ht;clear ht;by_cases h0:0<k
  .obtain ⟨ab,ao,rfl,hb,h1⟩:=hs.lR (i:=k-1) aE ;have e1:((k:Int)-1).toNat=k-1:= aE ;have Z:=aqG (KL L (k-1) aE);have NZ:=aqG (KK L (k-1) aE);rw[fB h0]at Z NZ;generalize L[k-1]=x at *
   by_cases hx:x=0
   .have Hx:=aqG hx;clear hx;have hb:((x:Int)==0)=true:=by have:=Hx.out;simp;omega
    go_wp2;go_round
    case rel=>exact⟨k-1,aE,by go_num,by rw[HT.out,Z.out Hx.out]⟩
    case measure=>simp[intOf];omega
   .have hb:((x:Int)==0)=false:= aS ;go_wp2;go_ret;exact⟨Kr (by show _=mC L;rw[HT.out,NZ.out hx]),rfl⟩
  .go_wp2;go_ret;have:k=0:= aE ;subst this;exact⟨Kr (by show _=mC L;rw[HT.out];rfl),rfl⟩
def adQ(A:Option Addr)(c:Nat)(L:List Nat)(w:World)(hs:Sl w A c L):
 Calls prog 299 #[.slice A L.length c] w λe w'=>e = .returned (.slice A (ix L).length c)/\w=w':=by
 have hc:=hs.cap;have hl:=hs.qx;go_enter func299,ntmps299;go_wp2;go_loop [3] (λi=>∃ k:Nat,k<=L.length/\i = .int .i64 k/\mC L=mC (L.take k)) (λi=>(intOf i).toNat)
 case atStart=>exact⟨L.length,bC _,rfl,aK⟩
 case round=>
  obtain⟨k,hk,rfl,ht⟩:=hrel;have HT:=aqG ht;clear ht;by_cases h0:0<k
  .obtain ⟨ab,ao,rfl,hb,h1⟩:=hs.lR (i:=k-1) aE ;have e1:((k:Int)-1).toNat=k-1:= aE ;have Z:=aqG (KL L (k-1) aE);have NZ:=aqG (KK L (k-1) aE);rw[fB h0]at Z NZ;generalize L[k-1]=x at *
   by_cases hx:x=0
   .have Hx:=aqG hx;clear hx;have hb:((x:Int)==0)=true:=by have:=Hx.out;simp;omega
    go_wp2;go_round
    case rel=>exact⟨k-1,aE,by go_num,by rw[HT.out,Z.out Hx.out]⟩
    case measure=>simp[intOf];omega
   .have hb:((x:Int)==0)=false:= aS ;go_wp2;go_ret;exact⟨Kr (by show _=mC L;rw[HT.out,NZ.out hx]),rfl⟩
  .go_wp2;go_ret;have:k=0:= aE ;subst this;exact⟨Kr (by show _=mC L;rw[HT.out];rfl),rfl⟩
def Sl.ur{w:World}{A:Option Addr}{c:Nat}{L:List Nat}(h:Sl w A c L):Sl w A c (ix L):=(h.take (mC L)).eqv (Hh L).symm
def abC:Go.Shelf.Ren:=⟨λ|128=>345|n=>n,λ|51=>150|3=>3|4=>4|46=>166|5=>5|9=>9|n=>n,λ|n=>n⟩
def aby:Go.Proofs.Lays.n128 prog abC:={
 mixed:= aI 
 f128:=func345.trans (congrArg some aI)
 t3:=underlying3
 a3:=Tryz.isAgg3
 z3:=Tryz.sizeOf3
 v3:=Tryz.zeroValue3
 t4:=underlying4
 a4:=Tryz.isAgg4
 z4:=Tryz.sizeOf4
 v4:=Tryz.zeroValue4
 t5:=underlying5
 a5:=Tryz.isAgg5
 z5:=Tryz.sizeOf5
 v5:=Tryz.zeroValue5
 t9:=underlying9
 a9:=Tryz.isAgg9
 z9:=Tryz.sizeOf9
 v9:=Tryz.zeroValue9
 t46:=underlying166
 a46:=Tryz.isAgg166
 z46:=Tryz.sizeOf166
 v46:=Tryz.zeroValue166
 t51:=underlying150
 a51:=Tryz.isAgg150
 z51:=Tryz.sizeOf150
 v51:=Tryz.zeroValue150 }
def Vx(x:Nat)(hx:x<4294967296)(w:World):
 Calls prog 345 #[.int .u32 x] w λe w'=>e = .returned (.int .i64 (iq x))/\w=w':=by
 refine(Any.bits_Len32 aby x w aE aE).mono ?_;rintro e w' ⟨rfl,rfl⟩;rw[gl,abq x hx];exact⟨rfl,rfl⟩
def aod(x k idx:Nat)(w:World)(mT:((x:Int)==0)=false)
 (key:bits BinOp.and IntKind.u32 (x:Int) (-(x:Int)%4294967296)*125613361%4294967296/134217728=(idx:Int))
 (hi:idx<32) (hk:k<32) (mf:w.cell? ⟨0,idx,none⟩=some (.int .u8 k)):
 Calls prog 355 #[.int .u32 x] w λe w'=>e = .returned (.int .i64 k)/\w=w':=by
 go_enter func355,ntmps355;go_wp2_with (simp only[key])
 go_ret;exact⟨rfl,rfl⟩
def aoc(x:Nat)(h0:x≠0)(hx:x<4294967296)(w:World)(hT:Tb w):
 Calls prog 355 #[.int .u32 x] w λe w'=>e = .returned (.int .i64 (jZ x))/\w=w':=by
 rw[<-acV x h0 hx];obtain⟨A9,hk⟩:=Lib.lowest_bit 32 x h0 hx;obtain⟨hi,agJ⟩:=Lib.deBruijn32_at _ hk;have mf:=hT _ hi;rw[agJ]at mf;exact aod x _ _ w aS (tz32_key x _ hx h0 A9) hi hk mf
def i64_in(n:Int)(h0:-9223372036854775808<=n)(h1:n<=9223372036854775807):IntKind.i64.wrap n=n:=by rw[IntKind.wrap_i64];omega
def Re{L M:List Nat}{n:Nat}(hs:iK L)(hM:ix L=M)(hn:M.length=n+1):
 ∃ x,M[n]? = some x/\x<4294967296/\(32*(n:Int)+(iq x:Int))=(iq (val L):Int)/\iq x<=32:=by
 have hk:iK M:=hM▸hs.ix;have ht:nY M:=hM▸Av L;rcases apT M with rfl|⟨l,x,rfl⟩
 .simp at hn
 .simp only[apU,cE,gh,Nat.add_right_cancel_iff]at hn hk ht hM ⊢;subst hn;have hx:x≠0:=by simpa using(BJ _).1 ht aK 
  have iL:x<4294967296:=hk x aK;refine⟨x,aK,iL,?_,ln.2 iL⟩;have:=abB hk hx;rw[<-hM,oZ]at this;omega
def Wg(A:Option Addr)(c:Nat)(L:List Nat)(w:World)(hs:Sl w A c L)(hlen:L.length<=100000000):
 Calls prog 294 #[.slice A L.length c] w λe w'=>e = .returned (.int .i64 (iq (val L)))/\w=w':=by
 have hT:=aqG (uZ A c L w hs);have kV:=hs.ur;have nR:=pq L;unfold mC at nR;generalize hM:ix L=M at *
 obtain⟨n,hn⟩:∃ n,n=M.length:=⟨_,rfl⟩
 rw[<-hn]at hT nR;rcases n with _|n
 .have hv:iq (val L)=0:=by rw[<-oZ,hM,dI hn.symm];rfl
  have HV:=aqG hv;clear hv hM hn;go_enter func294,ntmps294;go_wp2_with (go_at_call 274;refine hT.out.mono ?_;rintro e w' ⟨rfl,rfl⟩)
  go_ret;exact⟨by rw[HV.out];rfl,rfl⟩
 .obtain ⟨x,hx,iL,hb,M1⟩:=Re hs.ok hM hn.symm;obtain⟨ab,ao,rfl,_,mf⟩:=kV.cell _ _ hx;have HB:=aqG hb;clear hb hM hn hx;go_enter func294,ntmps294;go_wp2_with (first|(go_at_call 274;refine hT.out.mono ?_;rintro e w' ⟨rfl,rfl⟩)|(go_at_call 345;refine(Vx x iL _).mono ?_;rintro e w' ⟨rfl,rfl⟩))
  go_ret;exact⟨oX HB.out,rfl⟩
def abz{x:Nat}(h:x≠0):iq x=iq (x/2)+1:=by
 by_cases h1:x/2=0
 .have:x=1:= aE ;subst this;rfl
 .have e1:=sF h1;have e2:=pK (x/2);have e3:=nv h1;generalize iq (x/2)=k at *
  obtain⟨j,rfl⟩:∃ j,k=j+1:=⟨k-1,aE⟩
  rw[eu]at e1;refine vz ?_ ?_
  .rw [bH];omega
  .rw [bH];omega
def Yc(A:Option Addr)(c:Nat)(L:List Nat)(w:World)(hs:Sl w A c L)(ht:nY L)(hlen:L.length<=100000000):
 Calls prog 170 #[.slice A L.length c] w λe w'=>e = .returned (.int .i64 (iq (val L)))/\w=w':=by
 obtain⟨n,hn⟩:∃ n,n=L.length:=⟨_,rfl⟩
 rcases n with _|n
 .have hv:iq (val L)=0:=by rw[dI hn.symm];rfl
  have HV:=aqG hv;rw[<-hn];clear hv ht hn;go_enter func170,ntmps170;go_wp2;go_ret;exact⟨by rw[HV.out];rfl,rfl⟩
 .obtain ⟨x,hx,iL,hb,M1⟩:=Re hs.ok ht hn.symm;obtain⟨ab,ao,rfl,_,mf⟩:=hs.cell _ _ hx;have HB:=aqG hb;rw[<-hn]at hlen ⊢;clear hb ht hn hx;go_enter func170,ntmps170;go_wp2;go_loop [3,4] (λm y=>∃ (k z:Nat),z<4294967296/\y = .int .u32 z/\m = .int .i64 k/\k<=10000000000/\k+iq z=iq (val L)) (λ_ y=>(intOf y).toNat)
  case atStart=>exact⟨32*n,x,iL,rfl,by go_num,aE,by have:=HB.out;omega⟩
  case round=>
   obtain⟨k,z,hz,rfl,rfl,hk,he⟩:=hrel;have HE:=aqG he;clear he;by_cases h0:0<z
   .have hh:=aqG (abz (x:=z) aE);have tZ:k<=3300000000:=by have:=HE.out;have:=HB.out;omega
    go_wp2;go_round
    case rel=>exact⟨k+1,z/2,aE,by go_num,by go_num,aE,by rw[<-HE.out,hh.out];omega⟩
    case measure=>simp[intOf];omega
   .obtain rfl:z=0:= aE ;go_wp2;go_ret;exact⟨oX (by rw[<-HE.out];rfl),rfl⟩
def RK{L M:List Nat}(hL:iK L)(h:(ix L).length<(ix M).length):kE (val L) (val M) = -1:=by
 have:=KX hL.ix (Av M) h;rw[oZ,oZ]at this;unfold kE;rw[bw this]
def RJ{L M:List Nat}(hM:iK M)(h:(ix M).length<(ix L).length):kE (val L) (val M)=1:=by
 have:=KX hM.ix (Av L) h;rw[oZ,oZ]at this;unfold kE;rw[bu aE,bw this]
def Iu{M N:List Nat}(hM:iK M){k x y:Nat}(hl:M.length=N.length)(hx:M[k]? = some x)(hy:N[k]? = some y)(hd:M.drop (k+1)=N.drop (k+1))(h:x<y):val M<val N:=by
 obtain⟨h1,rfl⟩:=cH.1 hx;obtain⟨h2,rfl⟩:=cH.1 hy;exact aoE hM k h1 hl hd h
def Sn{M N:List Nat}{k x:Nat}(hx:M[k]? = some x)(hy:N[k]? = some x)(hd:M.drop (k+1)=N.drop (k+1)):M.drop k=N.drop k:=by
 obtain⟨h1,e1⟩:=cH.1 hx;obtain⟨h2,e2⟩:=cH.1 hy;rw[fC h1,fC h2,e1,e2,hd]
def JX(A B:Option Addr)(c d:Nat)(L M:List Nat)(w:World)(hs:Sl w A c L)(hr:Sl w B d M)(h1:L.length<=100000000)(_h2:M.length<=100000000):
 Calls prog 220 #[.slice A L.length c,.slice B M.length d] w λe w'=>e = .returned (.int .i64 (kE (val L) (val M)))/\iJ w w':=by
 have hT:=aqG (uZ A c L w hs);have hU:=aqG (uZ B d M w hr);have kV:=hs.ur;have oA:=hr.ur;have nR:=pq L;have xi:=pq M;unfold mC at nR xi;by_cases iL:(ix L).length<(ix M).length
 .have HV:=aqG (RK hs.ok iL);have lL:(((ix L).length:Int) != ((ix M).length:Nat))=true:= aS ;generalize (ix L).length=n at *
  generalize (ix M).length=m at *
  clear kV oA;go_enter func220,ntmps220;go_wp2_with fail;refine hT.out.mono ?_;rintro e w' ⟨rfl,rfl⟩;go_wp2_with fail;refine hU.out.mono ?_;rintro e w' ⟨rfl,rfl⟩;go_wp2;go_ret;exact⟨oX (by rw[HV.out]),iJ.refl _⟩
 .by_cases DR:(ix M).length<(ix L).length
  .have HV:=aqG (RJ hr.ok DR);have lL:(((ix L).length:Int) != ((ix M).length:Nat))=true:= aS ;generalize (ix L).length=n at *
   generalize (ix M).length=m at *
   clear kV oA;go_enter func220,ntmps220;go_wp2_with fail;refine hT.out.mono ?_;rintro e w' ⟨rfl,rfl⟩;go_wp2_with fail;refine hU.out.mono ?_;rintro e w' ⟨rfl,rfl⟩;go_wp2;go_ret;exact⟨oX (by rw[HV.out]),iJ.refl _⟩
  .have hl:(ix L).length=(ix M).length:= aE ;have HL:=aqG hl;rw[<-hl]at hU xi;have e1:=oZ L;have e2:=oZ M;generalize ix L=P at *
   generalize ix M=Q at *
   have E1:=aqG e1;have E2:=aqG e2;clear e1 e2 hl DR iL;obtain⟨n,hn⟩:∃ n,n=P.length:=⟨_,rfl⟩
   rw[<-hn]at hT hU xi nR;have HN:=aqG hn;clear hn;have lL:((n:Int) != (n:Int))=false:= aK ;have okP:=kV.ok;have CI:=oA.ok;go_enter func220,ntmps220;go_wp2_with fail;refine hT.out.mono ?_;rintro e w' ⟨rfl,rfl⟩;go_wp2_with fail;refine hU.out.mono ?_;rintro e w' ⟨rfl,rfl⟩;go_wp2;go_loopw [5] (λi wr=>∃ k:Nat,k<=n/\i = .int .i64 ((k:Int)-1)/\P.drop k=Q.drop k/\iJ w wr) (λi _=>(intOf i+1).toNat)
   case atStart=>exact⟨n,bC _,rfl,by rw[eI (by rw[<-HN.out];exact bC _),eI (by rw[<-HL.out,<-HN.out];exact bC _)],iJ.refl _⟩
   case round=>
    obtain⟨k,hk,rfl,hd,hb⟩:=hrel;have HD:=aqG hd;clear hd;rcases k with _|k
    .go_wp2;go_ret;have e:P=Q:=by simpa using HD.out
     exact⟨oX (by rw[<-E1.out,<-E2.out,e];unfold kE;simp),hb⟩
    .have Cd:k<P.length:=by have:=HN.out;omega
     have zI:k<Q.length:=by have:=HN.out;have:=HL.out;omega
     have HP:=aqG (bI Cd);have HQ:=aqG (bI zI);obtain⟨ab,ao,rfl,_,c1⟩:=(kV.below hb).lR Cd;obtain⟨bb,bo,rfl,_,c2⟩:=(oA.below hb).lR zI;have Jh:(k:Int)<n:= aE ;have qp:(0:Int)<=k:= aE ;have x0:(0:Int)<=P[k]:= aE ;have y0:(0:Int)<=Q[k]:= aE ;generalize P[k]=x at *
     generalize Q[k]=y at *
     clear Cd zI;by_cases qI:x<y
     .have Nz:(x:Int)<y:= aE ;go_wp2;go_quiet (fail);go_wp2;go_ret;have h:=Iu okP HL.out HP.out HQ.out HD.out qI;rw[E1.out,E2.out]at h;exact⟨oX (by unfold kE;rw[bw h]),below_drewN hb _⟩
     .have Nz:¬(x:Int)<y:= aE ;by_cases NA:y<x
      .have NB:(y:Int)<x:= aE ;go_wp2;go_quiet (fail);go_wp2;go_quiet (fail);go_wp2;go_ret;have h:=Iu CI HL.out.symm HQ.out HP.out HD.out.symm NA;rw[E1.out,E2.out]at h;exact⟨oX (by unfold kE;rw[bu aE,bw h]),below_drewN (below_drewN hb _) _⟩
      .have NB:¬(y:Int)<x:= aE ;have HX:=aqG (aE:x=y);go_wp2;go_quiet (fail);go_wp2;go_quiet (fail);go_wp2;go_roundw
       case rel=>exact⟨k,aE,by go_num,Sn HP.out (by rw[HX.out];exact HQ.out) HD.out,by repeat (first|exact hb|refine below_drewN ?_ _)⟩
       case measure=>simp[intOf];try omega
def ak8(A B:Option Addr)(c d:Nat)(P Q:List Nat)(w:World)(kV:Sl w A c P)(oA:Sl w B d Q)(tP:nY P)(tQ:nY Q)(h1:P.length<=100000000)(_h2:Q.length<=100000000):
 Calls prog 156 #[.slice A P.length c,.slice B Q.length d] w λe w'=>e = .returned (.int .i64 (kE (val P) (val Q)))/\iJ w w':=by
 have tP':ix P=P:=tP;have tQ':ix Q=Q:=tQ;by_cases iL:P.length<Q.length
 .have HV:=aqG (RK (M:=Q) kV.ok (by rw[tP',tQ'];exact iL));have lL:((P.length:Int) != (Q.length:Nat))=true:= aS ;generalize P.length=n at *
  generalize Q.length=m at *
  clear kV oA tP' tQ' tP tQ;go_enter func156,ntmps156;go_wp2;go_ret;exact⟨oX (by rw[HV.out]),iJ.refl _⟩
 .by_cases DR:Q.length<P.length
  .have HV:=aqG (RJ (L:=P) oA.ok (by rw[tP',tQ'];exact DR));have lL:((P.length:Int) != (Q.length:Nat))=true:= aS ;generalize P.length=n at *
   generalize Q.length=m at *
   clear kV oA tP' tQ' tP tQ;go_enter func156,ntmps156;go_wp2;go_ret;exact⟨oX (by rw[HV.out]),iJ.refl _⟩
  .have hl:P.length=Q.length:= aE ;have HL:=aqG hl;rw[<-hl];clear hl DR iL tP' tQ' tP tQ _h2;obtain⟨n,hn⟩:∃ n,n=P.length:=⟨_,rfl⟩
   rw[<-hn]at h1 ⊢;have HN:=aqG hn;clear hn;have lL:((n:Int) != (n:Int))=false:= aK ;have okP:=kV.ok;have CI:=oA.ok;go_enter func156,ntmps156;go_wp2;go_loopw [5] (λi wr=>∃ k:Nat,k<=n/\i = .int .i64 ((k:Int)-1)/\P.drop k=Q.drop k/\iJ w wr) (λi _=>(intOf i+1).toNat)
   case atStart=>exact⟨n,bC _,rfl,by rw[eI (by rw[<-HN.out];exact bC _),eI (by rw[<-HL.out,<-HN.out];exact bC _)],iJ.refl _⟩
   case round=>
    obtain⟨k,hk,rfl,hd,hb⟩:=hrel;have HD:=aqG hd;clear hd;rcases k with _|k
    .go_wp2;go_ret;have e:P=Q:=by simpa using HD.out
     exact⟨oX (by rw[e];unfold kE;simp),hb⟩
    .have Cd:k<P.length:=by have:=HN.out;omega
     have zI:k<Q.length:=by have:=HN.out;have:=HL.out;omega
     have HP:=aqG (bI Cd);have HQ:=aqG (bI zI);obtain⟨ab,ao,rfl,_,c1⟩:=(kV.below hb).lR Cd;obtain⟨bb,bo,rfl,_,c2⟩:=(oA.below hb).lR zI;have Jh:(k:Int)<n:= aE ;have qp:(0:Int)<=k:= aE ;have x0:(0:Int)<=P[k]:= aE ;have y0:(0:Int)<=Q[k]:= aE ;generalize P[k]=x at *
     generalize Q[k]=y at *
     clear Cd zI;by_cases qI:x<y
     .have Nz:(x:Int)<y:= aE ;go_wp2;go_quiet (fail);go_wp2;go_ret;have h:=Iu okP HL.out HP.out HQ.out HD.out qI;exact⟨oX (by unfold kE;rw[bw h]),below_drewN hb _⟩
     .have Nz:¬(x:Int)<y:= aE ;by_cases NA:y<x
      .have NB:(y:Int)<x:= aE ;go_wp2;go_quiet (fail);go_wp2;go_quiet (fail);go_wp2;go_ret;have h:=Iu CI HL.out.symm HQ.out HP.out HD.out.symm NA;exact⟨oX (by unfold kE;rw[bu aE,bw h]),below_drewN (below_drewN hb _) _⟩
      .have NB:¬(y:Int)<x:= aE ;have HX:=aqG (aE:x=y);go_wp2;go_quiet (fail);go_wp2;go_quiet (fail);go_wp2;go_roundw
       case rel=>exact⟨k,aE,by go_num,Sn HP.out (by rw[HX.out];exact HQ.out) HD.out,by repeat (first|exact hb|refine below_drewN ?_ _)⟩
       case measure=>simp[intOf];try omega
def LL(A:Option Addr)(c:Nat)(L:List Nat)(w:World)(hs:Sl w A c L):
 Calls prog 302 #[.slice A L.length c] w λe w'=>e = .returned (.slice A L.length L.length)/\w=w':=by
 have hc:=hs.cap;have hl:=hs.qx;go_enter func302,ntmps302;go_wp2;go_ret;exact⟨rfl,rfl⟩
def Sl.RA{w:World}{A:Option Addr}{c:Nat}{L:List Nat}(h:Sl w A c L):Sl w A L.length L:=
 ⟨bC _,bG h.cap h.qx,h.ok,(λe=>by have:=h.xw e;have:=h.cap;omega),h.cell⟩
def LM(A:Option Addr)(c:Nat)(L:List Nat)(w:World)(hs:Sl w A c L)(hlen:L.length<=100000000):
 Calls prog 244 #[.slice A L.length c] w (tN w L):=by
 have hc:=hs.cap;have hl:=hs.qx;rcases A with _|ad
 .have h0:=hs.xw rfl;subst h0;have:L=[]:=dI aE;subst this;have q:=λ(w:World) (n' c':Nat)=>Lib.run_eql_slice_nil (P:=prog) w 37 _ none 0 0 n' c' underlying37
  simp only[Option.isNone_none]at q;go_enter func244,ntmps244;go_wp2;go_ret;exact⟨none,0,rfl,Sl.nil _,iJ.refl _⟩
 .have q:=λ(w:World) (n' c':Nat)=>Lib.run_eql_slice_nil (P:=prog) w 37 _ (some ad) L.length c n' c' underlying37
  simp only[Option.isNone_some]at q;go_enter func244,ntmps244;have lW:([]:List Nat).length+L.length<=10000000000:= aS ;have h1:=Ow.empty w w.heap.size (bC _);have h2:=hs.alloc (.cells #[] 150);have h3:=qw (w:=w) (bC _) (.cells #[] 150);go_wp2_with (at_builtin;go_must (refine rp aJ _ _ aJ w.heap.size _ [] aJ h1 _ _ _ L aJ aJ h2 lW h3 ?_);intro v' w' pd hg pD)
  obtain⟨A',c',rfl,oi⟩:=pd.sl;go_ret;exact⟨A',c',rfl,oi,(iJ.alloc _ _).grown hg (qw (bC _) _) (λk hk=>by simp[Value.ownBlock]at hk;omega)⟩
def CS(A:Option Addr)(c:Nat)(L:List Nat)(w:World)(hs:Sl w A c L)(hlen:L.length<=100000000):
 Calls prog 261 #[.slice A L.length c] w (tN w (ix L)):=by
 have hc:=hs.cap;have hl:=hs.qx;have fin:∀ k:Nat,k=(ix L).length->Hid (ix L=L.take k):=λk hk=>by rw[hk];exact Hh L
 go_enter func261,ntmps261;go_wp2;go_loop [3] (λi=>∃ k:Nat,k<=L.length/\i = .int .i64 k/\mC L=mC (L.take k)) (λi=>(intOf i).toNat)
 case atStart=>exact⟨L.length,bC _,rfl,aK⟩
 case round=>
  obtain⟨k,hk,rfl,ht⟩:=hrel;have HT:=aqG ht;clear ht;have lW:([]:List Nat).length+(L.take k).length<=10000000000:=by rw[cJ];simp;omega
  have HK:=aqG (show k=(L.take k).length by rw[cJ];omega);have h1:=Ow.empty w w.heap.size (bC _);have h2:=(hs.take k).alloc (.cells #[] 150);have h3:=qw (w:=w) (bC _) (.cells #[] 150);by_cases h0:0<k
  .obtain ⟨ab,ao,rfl,hb,Cp⟩:=hs.lR (i:=k-1) aE ;have e1:((k:Int)-1).toNat=k-1:= aE ;have Z:=aqG (KL L (k-1) aE);have NZ:=aqG (KK L (k-1) aE);rw[fB h0]at Z NZ;generalize L[k-1]=x at *
   by_cases hx:x=0
   .have Hx:=aqG hx;clear hx;have hb:((x:Int)==0)=true:=by have:=Hx.out;simp;omega
    clear fin;go_wp2;go_round
    case rel=>exact⟨k-1,aE,by go_num,by rw[HT.out,Z.out Hx.out]⟩
    case measure=>simp[intOf];omega
   .have hb:((x:Int)==0)=false:= aS ;have F:=fin k (by show k=mC L;rw[HT.out,NZ.out hx]);clear fin;go_wp2_with (at_builtin;go_must (refine rp aJ _ _ aJ w.heap.size _ [] aJ h1 _ _ _ (L.take k) aJ HK.out h2 lW h3 ?_);intro v' w' pd hg pD)
    obtain⟨A',c',rfl,oi⟩:=pd.sl;go_ret;rw[F.out];exact⟨A',c',rfl,oi,(iJ.alloc _ _).grown hg (qw (bC _) _) (λk hk=>by simp[Value.ownBlock]at hk;omega)⟩
  .have:k=0:= aE ;subst this;have F:=fin 0 (by show 0=mC L;rw[HT.out];rfl);clear fin;go_wp2_with (at_builtin;go_must (refine rp aJ _ _ aJ w.heap.size _ [] aJ h1 _ _ _ (L.take 0) aJ HK.out h2 lW h3 ?_);intro v' w' pd hg pD)
   obtain⟨A',c',rfl,oi⟩:=pd.sl;go_ret;rw[F.out];exact⟨A',c',rfl,oi,(iJ.alloc _ _).grown hg (qw (bC _) _) (λk hk=>by simp[Value.ownBlock]at hk;omega)⟩
def VK(A:Option Addr)(n c:Nat)(w:World):
 Calls prog 310 #[.slice A n c] w λe w'=>e = .returned (.bool (decide (256<n)))/\w=w':=by
 by_cases h:256<n
 .have h':(256:Int)<n:= aE ;go_enter func310,ntmps310;go_wp2;go_ret;exact⟨by simp[h],rfl⟩
 .have h':¬(256:Int)<n:= aE ;go_enter func310,ntmps310;go_wp2;go_ret;exact⟨aK,rfl⟩
def Lg(w:World)(g:Nat)(xs:List (Option Addr×Nat×Nat)):Prop:=∀ i x,xs[i]? = some x->w.cell? ⟨g,i,none⟩=some (.slice x.1 x.2.1 x.2.2)
def xH(xs:List (Option Addr×Nat×Nat)):Bool:=xs.any λx=>decide (256<x.2.1)
def aam(xs:List (Option Addr×Nat×Nat))(w:World)(e:Ending)(w':World):Prop:=
 ∃ n:Int,e = .returned (.int .i64 n)/\(0<=n↔xH xs=true)/\w=w'
def agR(g:Nat)(xs:List (Option Addr×Nat×Nat))(w:World)(hs:Lg w g xs)(hn:xs.length<=1000):
 Calls prog 358 #[.slice (some ⟨g,0,none⟩) xs.length xs.length,.func (.func 310) #[] #[]] w (aam xs w):=by
 go_enter func358,ntmps358;go_wp2;go_loop [8] (λi=>∃ k:Nat,k<=xs.length/\i = .int .i64 k/\xH (xs.take k)=false) (λi=>xs.length-(intOf i).toNat)
 case atStart=>exact⟨0,cj _,rfl,rfl⟩
 case round=>
  obtain⟨k,hk,rfl,ht⟩:=hrel;have HT:=aqG ht;clear ht;by_cases h0:k<xs.length
  .have hc:=hs k _ (bI h0);have e1:((k:Int)).toNat=k:= aE ;have ec:=aay g k;have HX:=aqG (show xH (xs.take (k+1))=(xH (xs.take k)||decide (256<xs[k].2.1))by
    unfold xH;rw[fZ h0,List.any_append];simp)
   have HM:=aqG (cN h0);generalize xs[k]=x at *
   obtain⟨A,n,c⟩:=x;simp only at hc HX;by_cases hx:256<n
   .have hb:decide (256<n)=true:=by simp[hx]
    go_wp2_with (go_at_call 310;refine(VK A n c _).mono ?_;rw[hb];rintro e w' ⟨rfl,rfl⟩)
    go_ret;refine⟨_,rfl,⟨λ_=>?_,λ_=> aE⟩,rfl⟩;unfold xH;rw[dH];exact⟨_,HM.out,by simpa using hx⟩
   .have hb:decide (256<n)=false:= aS ;go_wp2_with (go_at_call 310;refine(VK A n c _).mono ?_;rw[hb];rintro e w' ⟨rfl,rfl⟩)
    go_round
    case rel=>exact⟨k+1,aE,by go_num,by rw[HX.out,HT.out,hb];rfl⟩
    case measure=>simp[intOf];omega
  .go_wp2;go_ret;have e:xs.take k=xs:=cT aE;have:=HT.out;rw[e]at this;exact⟨_,rfl,by rw[this];simp,rfl⟩
def acR(g:Nat)(xs:List (Option Addr×Nat×Nat))(w:World)(hs:Lg w g xs)(hn:xs.length<=1000):
 Calls prog 309 #[.slice (some ⟨g,0,none⟩) xs.length xs.length,.func (.func 310) #[] #[]] w λe w'=>e = .returned (.bool (xH xs))/\w=w':=by
 have H:=aqG (agR g xs w hs hn);go_enter func309,ntmps309;go_wp2_with fail;refine H.out.mono ?_;rintro e w' ⟨n,rfl,hn,rfl⟩;have HN:=aqG hn;clear hn;go_wp2;go_ret;refine⟨Yg ?_,rfl⟩;have:=HN.out;cases h:xH xs<;>simp[h]at this ⊢ <;> omega
def VM(g:Nat)(xs:List (Option Addr×Nat×Nat))(w:World)(hs:Lg w g xs)(hn:xs.length<=1000):
 Calls prog 271 #[.slice (some ⟨g,0,none⟩) xs.length xs.length] w λe w'=>e = .returned (.bool (xH xs))/\w=w':=by
 have H:=aqG (acR g xs w hs hn);go_enter func271,ntmps271;go_wp2_with fail;refine H.out.mono ?_;rintro e w' ⟨rfl,rfl⟩;go_wp2;go_ret;exact⟨rfl,rfl⟩
def Oa(g:Nat)(A:Option Addr)(n c:Nat)(w:World)(b:Bool)(h:w.cell? ⟨g,0,none⟩=some (.slice A n c))(hb:b=decide (256<n)):
 Calls prog 271 #[.slice (some ⟨g,0,none⟩) 1 1] w λe w'=>e = .returned (.bool b)/\w=w':=by
 have:=VM g [(A,n,c)] w (λi x hx=>by
  obtain⟨h1,h2⟩:=cH.1 hx;obtain rfl:i=0:=by simp at h1;omega
  simp at h2;subst h2;exact h) aK 
 simpa[xH,hb]using this
def VL(g:Nat)(A B:Option Addr)(n c m d:Nat)(w:World)(b:Bool)(h:w.cell? ⟨g,0,none⟩=some (.slice A n c))(k:w.cell? ⟨g,1,none⟩=some (.slice B m d))(hb:b=(decide (256<n)||decide (256<m))):
 Calls prog 271 #[.slice (some ⟨g,0,none⟩) 2 2] w λe w'=>e = .returned (.bool b)/\w=w':=by
 have:=VM g [(A,n,c),(B,m,d)] w (λi x hx=>by
  obtain⟨h1,h2⟩:=cH.1 hx;simp at h1;rcases i with _|_|i
  .simp at h2;subst h2;exact h
  .simp at h2;subst h2;exact k
  .omega) aK 
 simpa[xH,hb]using this
def Gs(A:Option Addr)(c:Nat)(L:List Nat)(w:World)(hs:Sl w A c L)(hl:(ix L).length<=256):
 Calls prog 272 #[.slice A L.length c] w (Dd w (ix L) 0):=by
 have hT:=aqG (uZ A c L w hs);have kV:=hs.ur;have hC:=hs.cap;have hL:=hs.qx;have H2:=aqG (λw' (h:Sl w' A c (ix L))=>LL A c (ix L) w' h);generalize ix L=M at *
 obtain⟨n,hn⟩:∃ n,n=M.length:=⟨_,rfl⟩
 rw[<-hn]at hT hl H2;have HN:=aqG hn;clear hn;go_enter func272,ntmps272;go_wp2_with fail;refine hT.out.mono ?_;rintro e w' ⟨rfl,rfl⟩;go_wp2_with fail;refine(Oa _ A n c _ false ?_ aS).mono ?_
 .go_simp
 rintro e w' ⟨rfl,rfl⟩;go_wp2_with fail;refine(H2.out _ (kV.alloc _)).mono ?_;rintro e w' ⟨rfl,rfl⟩;go_wp2;go_ret2;exact⟨A,n,by rw[HN.out];rfl,by have:=kV.RA.alloc (.cells #[.slice A n c] 37);rw[HN.out]at this ⊢;exact this,iJ.alloc _ _⟩
def KQ(a b:Nat)(ha:a<18446744073709551616)(hb:b<18446744073709551616):bits .or .u64 (a:Int) (b:Int)=((a |||b:Nat):Int):=by
 have hx:a |||b<2^64:=ap8 aE aE 
 have h1:(BitVec.ofInt 64 (a:Int)).toNat=a:=by
  rw[gU,gV];exact bU aE 
 have h2:(BitVec.ofInt 64 (b:Int)).toNat=b:=by
  rw[gU,gV];exact bU aE 
 show IntKind.u64.wrap ((BitVec.ofInt 64 (a:Int) |||BitVec.ofInt 64 (b:Int)).toNat:Int)=_;rw[BitVec.toNat_or,h1,h2,IntKind.wrap_u64];omega
def Br(a b k:Nat)(h:a<2^k):a |||b*2^k=a+b*2^k:=by
 rw[bK,gy,<-Nat.two_pow_add_eq_or_of_lt h];omega
def Sl.drop{w:World}{A:Option Addr}{c:Nat}{L:List Nat}(h:Sl w A c L)(k:Nat):Sl w (A.map (·.add k)) (c-k) (L.drop k):=
 ⟨by have:=h.cap;rw[fe];omega,bG (ey _ _) h.qx,h.ok.drop k,(λe=>by
  rcases A with _|ad
  .rw [h.xw rfl];omega
  .cases e),λi x hx=>by
  rw[e9]at hx;obtain⟨b,o,rfl,h1,h2⟩:=h.cell _ _ hx;exact⟨b,o+k,by rw[dm,BP],h1,by rw[df];exact h2⟩⟩
def part(T:List Nat)(k:Nat):List Nat:=T.take k++List.replicate (T.length-k) 0
def ajD(T:List Nat):part T 0=List.replicate T.length 0:=by unfold part;simp
def ajB(T:List Nat):part T T.length=T:=by unfold part;simp
def ajC(T:List Nat)(k:Nat)(h:k<T.length):(part T k)[k]? = some 0:=by
 unfold part;rw[fc aZ,cJ,gz,bw aE]
def WX(T:List Nat)(k x:Nat)(h:T[k]? = some x):(part T k).set k x=part T (k+1):=by
 obtain⟨h1,rfl⟩:=cH.1 h;unfold part;rw[List.set_append_right _ _ aZ,cJ,dB aE,dc,
  fZ h1,(aE:T.length-k=(T.length-(k+1))+1),List.replicate_succ,ap2,List.append_assoc]
 rfl
def amG(x y s:Nat)(hx:x<4294967296)(hy:y<4294967296):
 bits BinOp.or IntKind.u64 (x:Int) ((y:Int)*4294967296)/2^s%4294967296=(((x+4294967296*y)/2^s%4294967296:Nat):Int):=by
 have e:((y:Int)*4294967296)=((y*2^32:Nat):Int):= aK ;rw[e,KQ x (y*2^32) aE aE,Br x y 32 aE];simp[bK]
def amH(x s:Nat):(x:Int)/2^s%4294967296=(((x+4294967296*0)/2^s%4294967296:Nat):Int):=by
 simp
def Ox(A:Option Addr)(c:Nat)(L:List Nat)(n:Nat)(w:World)(hs:Sl w A c L)(hlen:L.length<=100000000)(hn:n<=65536):
 Calls prog 356 #[.slice A L.length c,.int .i64 n] w (tN w (qM (n%32) ((ix L).drop (n/32)))):=by
 have hT:=aqG (uZ A c L w hs);have kV:=hs.ur;have nR:=pq L;have hC:=kV.cap;have hL:=hs.qx;unfold mC at nR;generalize ix L=M at *
 obtain⟨m,hm⟩:∃ m,m=M.length:=⟨_,rfl⟩
 rw[<-hm]at hT nR hC;have HM:=aqG hm;clear hm;by_cases h0:m<=n/32
 .go_enter func356,ntmps356;go_wp2_with fail;refine hT.out.mono ?_;rintro e w' ⟨rfl,rfl⟩;go_wp2;go_ret;have:M.drop (n/32)=[]:=eI (by rw[<-HM.out];exact h0);rw[this];exact⟨none,0,rfl,Sl.nil _,iJ.refl _⟩
 .obtain ⟨ab,ao,rfl,_,_⟩:=kV.lR (i:=0) (by have:=HM.out;omega);have hK:=kV.drop (n/32);have uJ:=aqG (show m-n/32=(M.drop (n/32)).length by rw[fe,HM.out]);have sr:n/32<c:= aE ;have pH:=Ei (m-n/32) aE;have mS:0<m-n/32:= aE ;have tX:m-n/32<=100000000:= aE ;generalize M.drop (n/32)=K at *
  simp only[dm,BP]at hK;have wY:=aqG (KA (n%32) K);have MO:=aqG (YP (n%32) K);have FG:=aqG (Bp (n%32) K);generalize qM (n%32) K=T at *
  go_enter func356,ntmps356;go_wp2_with fail;refine hT.out.mono ?_;rintro e w' ⟨rfl,rfl⟩;go_wp2;go_loopw [25] (λi wr=>∃ k:Nat,k<=m-n/32/\i = .int .i64 k/\Rw wr w.heap.size (part T k)/\iJ w wr) (λi _=>m-n/32-(intOf i).toNat)
  case atStart=>
   refine⟨0,cj _,rfl,?_,iJ.alloc _ _⟩;rw[ajD,wY.out,<-uJ.out];exact Rw.yD _ _
  case round=>
   obtain⟨k,hk,rfl,hR,hb⟩:=hrel;by_cases iL:k<m-n/32
   .have uM:k<K.length:=by have:=uJ.out;omega
    obtain⟨ab',ao',e',_,c1⟩:=(hK.below hb).lR uM;cases e';have hg:=MO.out k uM;have nd:K[k]<4294967296:=hK.ok.get uM;have HK:=aqG (bI uM);have c3:=hR.cell (ajC T k (by have:=wY.out;omega));have c4:=hR.frozen k;by_cases FM:k+1<m-n/32
    .have zG:k+1<K.length:=by have:=uJ.out;omega
     obtain⟨ab',ao',e',_,c2⟩:=(hK.below hb).lR zG;cases e';have hy:K.getD (k+1) 0=K[k+1]:=by rw[bD,bI zG];rfl
     rw[hy]at hg;have pY:K[k+1]<4294967296:=hK.ok.get zG;have HG:=aqG hg;clear hg hy;generalize K[k]=x at *
     generalize K[k+1]=y at *
     clear uM zG;go_wp2;go_roundw
     case rel=>
      rw[amG x y (n%32) nd pY];exact⟨k+1,aE,by go_num,by rw[<-WX T k _ HG.out];exact hR.set k _,hb.setCell (bC _) _⟩
     case measure=>simp[intOf];omega
    .have hy:K.getD (k+1) 0=0:=by rw[bD,cC (by have:=uJ.out;omega)];rfl
     rw[hy]at hg;have HG:=aqG hg;clear hg hy;generalize K[k]=x at *
     clear uM;go_wp2;go_roundw
     case rel=>
      rw[amH x (n%32)];exact⟨k+1,aE,by go_num,by rw[<-WX T k _ HG.out];exact hR.set k _,hb.setCell (bC _) _⟩
     case measure=>simp[intOf];omega
   .go_wp2;go_ret;obtain rfl:k=m-n/32:= aE ;rw[uJ.out,<-wY.out,ajB]at hR;have:=hR.sl FG.out (by have:=wY.out;have:=uJ.out;omega);rw[wY.out,<-uJ.out]at this;exact⟨_,_,by rw[wY.out,<-uJ.out];rfl,this,hb⟩
def amE{L:List Nat}(h:iK L)(n:Nat):ix (qM (n%32) ((ix L).drop (n/32)))=ia (val L/2^n):=by
 rw[qN (Bp _ _),KZ h.ix,oZ]
def Qr(w:World)(A:Option Addr)(n c:Nat):(w.alloc (.cells #[.slice A n c] 37)).cell? ⟨w.heap.size,0,none⟩=some (.slice A n c):=by
 rw[World.cell?_alloc_at _ _ _ _ rfl];rfl
def Qs(w:World)(A B:Option Addr)(n c m d:Nat):(w.alloc (.cells #[.slice A n c,.slice B m d] 37)).cell? ⟨w.heap.size,0,none⟩=some (.slice A n c):=by
 rw[World.cell?_alloc_at _ _ _ _ rfl];rfl
def Qt(w:World)(A B:Option Addr)(n c m d:Nat):(w.alloc (.cells #[.slice A n c,.slice B m d] 37)).cell? ⟨w.heap.size,1,none⟩=some (.slice B m d):=by
 rw[World.cell?_alloc_at _ _ _ _ rfl];rfl
def Wn(A:Option Addr)(c:Nat)(L:List Nat)(n:Nat)(w:World)(hs:Sl w A c L)(hlen:L.length<=256)(hn:n<=65536):
 Calls prog 301 #[.slice A L.length c,.int .i64 n] w (Dd w (ia (val L/2^n)) 0):=by
 have hf:decide (256<L.length)=false:= aS ;have h3:=aqG (amE hs.ok n);have h4:(ix (qM (n%32) ((ix L).drop (n/32)))).length<=256:=by
  have h1:=pq (qM (n%32) ((ix L).drop (n/32)));unfold mC at h1;rw[KA,fe]at h1;have h2:=pq L;unfold mC at h2;omega
 have H1:=aqG (λw (h:Sl w A c L)=>Ox A c L n w h aE hn);generalize qM (n%32) ((ix L).drop (n/32))=T at *
 go_enter func301,ntmps301;go_wp2_with fail;refine(Oa _ A _ c _ false (Qr _ _ _ _) aS).mono ?_;rintro e w' ⟨rfl,rfl⟩;go_wp2_with fail;refine(H1.out _ (hs.alloc _)).mono ?_;rintro e w' ⟨A',c',rfl,oi,hb⟩;go_wp2_with fail;refine(Gs A' c' T _ oi h4).mono ?_;rintro e w'' ⟨A'',c'',rfl,qT,nu⟩;go_wp2;go_ret2;rw[<-h3.out];exact⟨A'',c'',rfl,qT,(iJ.alloc _ _).trans (hb.trans nu)⟩
end Go.Proofs.YtkjkcjhacddojaaGreatDoor
