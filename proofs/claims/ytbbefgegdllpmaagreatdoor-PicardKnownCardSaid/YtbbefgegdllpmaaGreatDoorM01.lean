/- Lemmas that the last file uses. -/
import Derived.Test.YtbbefgegdllpmaaGreatDoorProg
import Derived.WalkKit
import Derived.BigQuiet
import Derived.WalkSpells
import Derived.WalkLawsBesides
import Derived.Lib.Hide
import Derived.Deep.RegionHeld3
import Derived.Maps.AppendAt
import Derived.Deep.AppendLies
import Derived.Deep.Draws
import Derived.Deep.DeepFit
import Derived.Laws.AppendOwnNone
import Derived.Shelf.Small.Bits
import Derived.Shelf.Spec.TrailingZeros
import Derived.Test.YtbbefgegdllpmaaGreatDoorCards
import Derived.Test.YtbbefgegdllpmaaGreatDoorTie
import Derived.ProofKit
import Derived.OpenShut
import Derived.Deep.DeepHandedRow
import Derived.Lib.LaidTab
import Derived.Laws.AppendOwn
import Derived.Laws.MakeOwn
import Derived.Laws.Slices
import Derived.Orders
import Derived.Laws.Build
set_option linter.unusedSimpArgs false
set_option linter.unusedVariables false
set_option linter.defProp false
set_option maxHeartbeats 4000000
open Go.Proofs.Tryz
namespace Go.Proofs.YtbbefgegdllpmaaGreatDoor
theorem aI{p:Prop}(h:p:=by omega):p:=h
theorem aJ{p:Prop}(h:p:=by assumption):p:=h
theorem aK{p:Prop}(h:p:=by decide):p:=h
theorem aM{p:Prop}(h:p:=by kernel_rfl):p:=h
theorem aO{p:Prop}(h:p:=by rfl):p:=h
theorem aP{p:Prop}(h:p:=by simp):p:=h
theorem aQ{p:Prop}(h:p:=by nofun):p:=h
theorem aR{p:Prop}(h:p:=by simp<;>omega):p:=h
theorem aS{p:Prop}(h:p:=by grind):p:=h
theorem aT{p:Prop}(h:p:=by decide +kernel):p:=h
theorem aU{p:Prop}(h:p:=by split<;>omega):p:=h
theorem aV{p:Prop}(h:p:=by simp;omega):p:=h
theorem aZ{p:Prop}(h:p:=by first|rfl|omega|(simp only[Nat.add_mul,Nat.one_mul];omega)):p:=h
theorem a6{p:Prop}(h:p:=by simp[Op.operands]):p:=h
theorem a7{p:Prop}(h:p:=by first|omega|(simp only[nH];omega)):p:=h
theorem bc{p:Prop}(h:p:=by unfold oK;omega):p:=h
theorem bg{p:Prop}(h:p:=by rw[List.length_take];omega):p:=h
theorem bh{p:Prop}(h:p:=by rw[xt];omega):p:=h
theorem bj{p:Prop}(h:p:=by unfold ny;omega):p:=h
theorem bk{α:Type _}[BEq α][LawfulBEq α]{a b:α}(h:a≠b):(a==b)=false:=beq_eq_false_iff_ne.2 h
theorem bl{α:Type _}[BEq α][LawfulBEq α]{a b:α}(h:a=b):(a==b)=true:=beq_iff_eq.2 h
theorem bn{b:Bool}(h:¬b=true):b=false:=Bool.eq_false_iff.2 h
theorem bt{α:Type _}[BEq α][LawfulBEq α]{a b:α}(h:a=b):(a != b)=false:=bne_eq_false_iff_eq.2 h
theorem bu{α:Type _}[BEq α][LawfulBEq α]{a b:α}(h:a≠b):(a != b)=true:=bne_iff_ne.2 h
def bw:=@if_neg
def bA:=@if_pos
def bB:=@Nat.le_refl
def bC:=@decide_eq_true
def bD:=@Rat.mul_nonneg
def bE:=@decide_eq_false
def bF:=@Rat.le_of_lt
def bG:=@Nat.pow_add
def bH:=@Rat.le_refl
def bI:=@Rat.le_trans
def bJ:=@List.getD_eq_getElem?_getD
def bK:=@Rat.mul_le_mul_of_nonneg_right
def bL:=@Nat.pow_pos
def bM:=@Nat.not_lt_zero
def bN:=@if_false
def bO:=@Nat.mul_assoc
def bQ:=@Nat.mod_lt
def bR:=@Nat.mul_comm
def bS:=@List.getElem?_eq_getElem
def bT:=@Option.some.injEq
def bV:=@Nat.pow_succ
def bW:=@if_true
def bY:=@Rat.mul_le_mul_of_nonneg_left
def bZ:=@Nat.pow_le_pow_right
def b9:=@Nat.le_trans
def ca:=@Nat.add_mul
def cg:=@Nat.lt_of_lt_of_le
def ch:=@Nat.add_zero
def cj:=@Nat.one_mul
def cr:=@Bool.and_eq_true
def ct:=@Nat.mul_add
def cw:=@Nat.mod_eq_of_lt
def cz:=@Bool.false_eq_true
def cA:=@Nat.zero_le
def cB:=@Rat.div_def
def cC:=@Nat.mul_le_mul_right
def cD:=@Prod.mk.injEq
def cE:=@Rat.natCast_nonneg
def cF:=@Classical.byContradiction
def cG:=@Nat.mul_one
def cH:=@Nat.pow_zero
def cI:=@Nat.div_eq_of_lt
def cJ:=@Nat.zero_add
def cK:=@Nat.div_lt_iff_lt_mul
def cL:=@List.all_eq_true
def cM:=@Nat.div_le_self
def cN:=@Nat.div_add_mod
def cO:=@Int.le_refl
def cP:=@List.getElem?_eq_some_iff
def cQ:=@Rat.natCast_mul
def cR:=@Rat.mul_pos
def cS:=@List.length_take
def cT:=@Nat.mul_le_mul_left
def cU:=@Nat.beq_refl
def cV:=@Rat.div_mul_cancel
def cW:=@Nat.mul_zero
def cX:=@Rat.natCast_le_natCast
def cY:=@Rat.intCast_le_intCast
def c9:=@List.length_append
def dc:=@Nat.div_div_eq_div_mul
def de:=@Nat.zero_mul
def df:=@Option.map_some
def dg:=@List.take_of_length_le
def dh:=@Nat.lt_of_le_of_lt
def di:=@List.length_set
def dj:=@Rat.intCast_natCast
def dm:=@Nat.add_assoc
def dn:=@decide_eq_true_eq
def dp:=@List.getElem?_eq_none
def dr:=@List.mem_range
def dt:=@Rat.not_lt
def dw:=@Rat.inv_pos
def dx:=@Nat.le_of_ble_eq_true
def dz:=@Nat.mod_one
def dA:=@List.getElem?_map
def dB:=@Option.map_eq_some_iff
def dC:=@beq_false
def dD:=@Nat.sub_self
def dE:=@Nat.mul_le_mul
def dF:=@Nat.mul_left_comm
def dG:=@Rat.le_of_mul_le_mul_right
def dH:=@Rat.natCast_add
def dI:=@List.getElem_mem
def dJ:=@Nat.mul_lt_mul_of_pos_right
def dK:=@of_decide_eq_true
def dL:=@Rat.mul_one
def dM:=@List.mem_cons
def dN:=@Array.getElem?_eq_some_iff
def dO:=@Nat.le_div_iff_mul_le
def dP:=@Rat.mul_assoc
def dQ:=@Rat.natCast_pos
def dR:=@List.length_cons
def dS:=@ne_eq
def dT:=@Nat.sub_zero
def dU:=@Nat.le_of_lt
def dV:=@Nat.min_eq_left
def dW:=@List.any_eq_false
def dX:=@Classical.choose_spec
def dY:=@Rat.intCast_neg
def dZ:=@List.eq_nil_of_length_eq_zero
def ef:=@Nat.mul_add_div
def eg:=@Array.ext'
def eh:=@Int.eq_ofNat_of_zero_le
def ej:=@List.mem_iff_getElem?
def ek:=@Array.length_toList
def en:=@Nat.sub_le
def eo:=@Int.natAbs_natCast
def ep:=@Nat.pos_of_ne_zero
def ew:=@Nat.div_one
def ez:=@Rat.mul_inv_cancel
def eA:=@Nat.mod_add_div
def eB:=@Nat.mul_div_cancel
def eD:=@Nat.mul_add_mod
def eE:=@List.any_eq_true
def eF:=@Int.natCast_mul
def eG:=@List.length_eq_zero_iff
def eH:=@Nat.div_mul_le_self
def eI:=@Rat.one_mul
def eJ:=@List.mem_append
def eK:=@Nat.add_sub_cancel
def eN:=@Nat.mul_ne_zero
def eO:=@Nat.ne_of_gt
def eP:=@Nat.lt_or_ge
def eR:=@Array.mem_of_getElem?
def eU:=@Bool.not_eq_true'
def eV:=@beq_self_eq_true
def eW:=@Nat.add_mul_mod_self_left
def eX:=@List.drop_eq_nil_of_le
def eZ:=@Nat.add_comm
def e9:=@List.mem_map
def fc:=@List.mem_of_getElem?
def fe:=@Bool.not_false
def ff:=@List.map_cons
def fg:=@Nat.eq_zero_or_pos
def fh:=@List.any_cons
def fi:=@not_false_eq_true
def fj:=@Bool.or_eq_true
def fk:=@Bool.true_and
def fm:=@List.length_pos_iff
def fo:=@List.take_length
def fp:=@BitVec.toNat_ofInt
def fu:=@Rat.zero_mul
def fw:=@Rat.le_antisymm
def fz:=@Nat.le_of_not_lt
def fA:=@Rat.mul_lt_mul_of_pos_right
def fB:=@Nat.mul_pos
def fC:=@List.getElem?_take
def fD:=@List.getElem?_drop
def fE:=@List.length_drop
def fF:=@Nat.lt_trans
def fG:=@List.getElem?_replicate
def fH:=@Nat.and_lt_two_pow
def fI:=@Int.natCast_add
def fJ:=@Nat.pow_lt_pow_right
def fK:=@Nat.xor_lt_two_pow
def fL:=@Nat.zero_div
def fM:=@Bool.eq_iff_iff
def fN:=@Nat.lt_irrefl
def fO:=@Rat.intCast_add
def fP:=@Int.tmod_eq_emod_of_nonneg
def fQ:=@List.mem_of_mem_take
def fR:=@List.mem_of_mem_drop
def fS:=@Nat.add_mul_div_left
def fT:=@Nat.sub_add_cancel
def fU:=@List.drop_eq_getElem_cons
def fV:=@Nat.mul_mod_left
def fW:=@Array.getElem?_modify
def fX:=@Bool.not_true
def fY:=@List.getElem?_append_left
def fZ:=@Array.mem_append
def gh:=@getElem!_pos
def gj:=@Bool.or_false
def gl:=@and_true
def gn:=@List.map_congr_left
def gp:=@Int.natAbs_neg
def gq:=@Prod.mk.inj
def gr:=@Rat.neg_neg
def gv:=@Rat.mul_div_cancel
def gw:=@Rat.mul_comm
def gx:=@List.take_succ_eq_append_getElem
def gy:=@Nat.mul_right_comm
def gz:=@List.getElem?_append
def gE:=@Nat.blt_eq
def gF:=@List.getElem?_append_right
def gG:=@List.size_toArray
def gH:=@Array.mem_map
def gI:=@Array.mem_range
def gJ:=@List.any_nil
def gK:=@Bool.or_eq_false_iff
def gL:=@Option.isSome_iff_exists
def gM:=@Nat.lt_succ_self
def gN:=@Nat.or_comm
def gO:=@decide_true
def gP:=@Nat.mod_mul
def gQ:=@Rat.intCast_mul
def gR:=@Rat.not_le
def gS:=@Nat.mod_le
def gT:=@Nat.div_pos
def gU:=@of_decide_eq_false
def gV:=@Rat.mul_eq_zero
def gW:=@Classical.axiomOfChoice
def gX:=@List.length_singleton
def gY:=@Nat.div_lt_self
def gZ:=@Int.toNat_natCast
def ia:=@List.ext_getElem?
def ib:=@Nat.le_mul_of_pos_right
def ic:=@Array.getElem_mem
def ie:=@List.getElem?_toArray
def ig:=@List.mem_toArray
def ij:=@List.mem_singleton
def il:=@List.mapM_cons
def im:=@Option.bind_eq_some_iff
def iq:=@BitVec.ofInt_natCast
def iu:=@BitVec.toNat_ofNat
def iw:=@List.take_add_one
def ix:=@Nat.and_one_is_mod
def iy:=@Nat.mul_lt_mul''
def iz:=@decide_eq_decide
def ado:=@List.getElem?_set_ne
def apI:=@Nat.le_of_eq
def apV:=@Nat.mul_mod_mul_left
def asb:=@Bool.false_or
def ato:=@Bool.or_self
def atp:=@beq_iff_eq
def atq:=@List.ext_getElem
def atr:=@List.getElem_map
def att:=@Nat.lt_of_not_le
def atu:=@Rat.neg_mul
def atv:=@Rat.natCast_lt_natCast
def atw:=@Rat.inv_mul_cancel
def atx:=@Nat.one_ne_zero
def aty:=@List.cons_append
def atz:=@List.take_append_drop
def atA:=@List.eq_nil_or_concat
def atB:=@List.concat_eq_append
def atC:=@List.getElem_cons_succ
def atD:=@Nat.le_mul_of_pos_left
def atE:=@Nat.pow_lt_pow_iff_right
def atF:=@List.map_append
def atG:=@Array.size_append
def atH:=@List.mem_flatMap
def atI:=@not_true_eq_false
def atJ:=@List.set_cons_zero
def atK:=@Option.getD_some
def atL:=@List.pairwise_cons
def atM:=@List.pairwise_append
def atN:=@Option.some.inj
def atO:=@Array.getElem_setIfInBounds_ne
def atP:=@Nat.or_lt_two_pow
def atQ:=@BitVec.toNat_and
def atS:=@decide_eq_true_iff
def atT:=@Nat.zero_lt_succ
def atU:=@Nat.testBit_eq_decide_div_mod_eq
def atV:=@Nat.testBit_and
def atW:=@Nat.testBit_xor
def atX:=@Nat.mul_eq_zero
def atY:=@List.getElem_set
def atZ:=@List.getElem_range
def at0:=@Nat.le_antisymm
def at1:=@Nat.div_mul_cancel
def at2:=@List.all_eq_false
def at3:=@Nat.gcd_pos_of_pos_right
def at4:=@Rat.intCast_sub
def at5:=@List.getElem?_range
def at6:=@List.getElem?_cons_succ
def at7:=@Array.getElem?_setIfInBounds_ne
def aua:=@Array.getElem?_append_left
def aub:=@Int.tdiv_eq_ediv_of_nonneg
def auc:=@Array.toList_setIfInBounds
def aud:=@List.drop_length_add_append
def aue:=@Array.all_eq_true_iff_forall_mem
def auf:=@Array.mapM_eq_mapM_toList
def aug:=@Nat.and_two_pow_sub_one_eq_mod
def auh:=@Nat.eq_of_mul_eq_mul_right
def aui:=@Nat.lt_of_mul_lt_mul_right
def auj:=@Rat.lt_of_mul_lt_mul_right
def auk:=@Nat.testBit_of_two_pow_le_and_two_pow_add_one_gt
def aul:=@Int.mul_tdiv_cancel_left
def aum:=@Lib.hid
end Go.Proofs.YtbbefgegdllpmaaGreatDoor
namespace Go.Proofs.YtbbefgegdllpmaaGreatDoor.Fp
def val:List Nat->Nat
 | []=>0
 |x::l=>x+4294967296*val l
def jc(L:List Nat):Prop:=∀ x,x ∈ L->x<4294967296
def jc.nil:jc []:=by intro x h;cases h
section
variable{x:Nat}{l:List Nat}
def jc.cons(hx:x<4294967296)(h:jc l):jc<|x::l:=by
 intro y hy;rcases dM.1 hy with rfl|hy;exact hx;exact h _ hy
def jc.head(h:jc<|x::l):x<4294967296:=h x aP 
def jc.tail(h:jc<|x::l):jc l:=λy hy=>h y<|by simp[hy]
end
def jc.append{l m:List Nat}(h:jc l)(k:jc m):jc<|l++m:=by
 intro x hx;rcases eJ.1 hx with hx|hx;exact h _ hx;exact k _ hx
def jc.take{l:List Nat}(h:jc l)(n:Nat):jc<|l.take n:=λx hx=>h x<|fQ hx
def jc.drop{l:List Nat}(h:jc l)(n:Nat):jc<|l.drop n:=λx hx=>h x<|fR hx
def jc.get{l:List Nat}(h:jc l){i:Nat}(hi:i<l.length):l[i]<4294967296:=h _<|dI hi
def jc.getD{l:List Nat}(h:jc l)(i:Nat):l.getD i 0<4294967296:=by
 rw[bJ];by_cases hi:i<l.length
 .rw [bS hi];exact h.get hi
 .rw [dp aI];decide
def jc.CH(n:Nat):jc<|List.replicate n 0:=by
 intro x hx;rw[List.mem_replicate]at hx;rw[hx.2];decide
@[simp] theorem Bz:val []=0:=rfl
@[simp] theorem rE (x:Nat) (l:List Nat):val (x::l)=x+4294967296*val l:=rfl
def xB(l m:List Nat):val (l++m)=val l+4294967296^l.length*val m:=by
 induction l with
 |nil=>simp
 |cons x l ih=>
  simp only[aty,rE,ih,dR,bV];rw[ct,bR (4294967296^l.length) 4294967296,bO];omega
def nd{l:List Nat}(h:jc l):val l<4294967296^l.length:=by
 induction l with
 |nil=>simp
 |cons x l ih=>
  have h1:=h.head;have h2:=ih h.tail;simp only[rE,dR,bV];have:val l+1<=4294967296^l.length:=h2;have:=cT 4294967296 this;rw[bR<|4294967296^l.length];omega
def Az(n:Nat):val (List.replicate n 0)=0:=by
 induction n with
 |zero=>rfl
 |succ n ih=>simp[List.replicate_succ,ih]
def Gn(l:List Nat)(n:Nat)(hn:n<=l.length:=by omega):val l=val (l.take n)+4294967296^n*val (l.drop n):=by
 conv=>lhs;rw[<-atz n l,xB]
 rw[cS,dV hn]
def AA(l:List Nat)(n:Nat)(hn:n<l.length):val (l.take<|n+1)=val (l.take n)+4294967296^n*l[n]:=by
 rw[gx hn,xB,cS,dV aI];simp
section
variable{l:List Nat}(h:jc l)(n:Nat)
def asI:val (l.take n)=val l%4294967296^n:=by
 by_cases hn:n<=l.length
 .rw [Gn l n hn,eW,cw];have:=nd<|h.take n;rwa[cS,dV hn]at this
 .rw [dg aI,cw];refine cg (nd h)<|bZ aK aI
def JY:val (l.drop n)=val l/4294967296^n:=by
 by_cases hn:n<=l.length
 .rw [Gn l n hn];have:=nd<|h.take n;rw[cS,dV hn]at this;rw[fS _ _<|bL aK,cI this,cJ]
 .rw [eX aI,cI];rfl;exact cg (nd h)<|bZ aK aI
end
def iI:List Nat->List Nat
 | []=>[]
 |x::l=>match iI l with
  | []=>if x=0 then[]else[x]
  |y::m=>x::y::m
def mV(L:List Nat):Nat:=(iI L).length
def adE(l:List Nat):iI (l++[0])=iI l:=by
 induction l with
 |nil=>rfl
 |cons x l ih=>simp only[aty,iI,ih]
def adD(l:List Nat)(x:Nat)(hx:x≠0):iI (l++[x])=l++[x]:=by
 induction l with
 |nil=>simp[iI,hx]
 |cons y l ih=>
  simp only[aty,iI,ih];cases l<;>rfl
section
variable(L:List Nat)
def JU:iI L=L.take (mV L):=by
 unfold mV
 induction L with
 |nil=>rfl
 |cons x l ih=>
  simp only[iI];cases h:iI l with
  |nil=>by_cases hx:x=0<;>simp[hx]
  |cons y m=>
   rw[h]at ih;simp only[dR,List.take_succ_cons];rw[dR]at ih;rw[<-ih]
def pV:mV L<=L.length:=by
 have h:=congrArg List.length<|JU L;rw[cS]at h;unfold mV at h ⊢;omega
def pW:val (iI L)=val L:=by
 induction L with
 |nil=>rfl
 |cons x l ih=>
  simp only[iI];cases h:iI l with
  |nil=>rw[h]at ih;by_cases hx:x=0<;>simp[hx,<-ih]
  |cons y m=>rw[h]at ih;simp only[rE]at ih ⊢;rw[ih]
end
def jc.iI{L:List Nat}(h:jc L):jc<|Fp.iI L:=by rw[JU];exact h.take _
def oI(L:List Nat):Prop:=iI L=L
def By(L:List Nat):oI<|iI L:=by
 unfold oI
 induction L with
 |nil=>rfl
 |cons x l ih=>
  simp only[iI];cases h:iI l with
  |nil=>by_cases hx:x=0<;>simp[hx,iI]
  |cons y m=>rw[h]at ih;simp only[iI]at ih ⊢;rw[ih]
def oI.nil:oI []:=rfl
def CO(L:List Nat):oI L↔∀ h:0<L.length,L[L.length-1]≠0:=by
 rcases atA L with rfl|⟨l,x,rfl⟩
 .simp [oI,iI]
 .simp only[atB,c9,gX,eK,List.getElem_concat_length];constructor
  .intro h _ hx;subst hx;have:=congrArg List.length h;rw[adE]at this;have h2:=pV l;unfold mV at h2;rw[c9]at this;simp at this;omega
  .intro h;exact adD l x<|h aI
section
variable(L:List Nat)(n:Nat)(hn:n<L.length)
def Nu(h0:L[n]=0):mV (L.take<|n+1)=mV (L.take n):=by
 unfold mV;rw[gx hn,h0,adE]
def Nt(h0:L[n]≠0):mV (L.take<|n+1)=n+1:=by
 unfold mV;rw[gx hn,adD _ _ h0];simp;omega
end
def oI.O6{x:Nat}{l:List Nat}(h:oI<|x::l):oI l:=by
 rw[CO]at h ⊢;intro hl;have:=h aP;simp only[dR,eK]at this;have e:(x::l)[l.length]'(aP)=l[l.length-1]:=by
  rw[List.getElem_cons];rw[dif_neg aI]
 rwa[e]at this
def oI.BA{L:List Nat}(h:oI L)(hl:L≠[]):0<val L:=by
 induction L with
 |nil=>exact absurd rfl hl
 |cons x l ih=>
  simp only[rE];by_cases qm:l=[]
  .subst qm;have:=(CO _).1 h aP;simp at this;simp;omega
  .have:=ih h.O6 qm;omega
def oI.ext{L M:List Nat}(hL:oI L)(hM:oI M)(kL:jc L)(kM:jc M)(h:val L=val M):L=M:=by
 induction L generalizing M with
 |nil=>
  by_cases hm:M=[]
  .exact hm.symm
  .have:=hM.BA hm;rw[<-h]at this;simp at this
 |cons x l ih=>
  cases M with
  |nil=>have:=hL.BA aP;rw[h]at this;simp at this
  |cons y m=>
   simp only[rE]at h;have h1:=kL.head;have h2:=kM.head;have e:x=y:= aI ;subst e;rw[ih hL.O6 hM.O6 kL.tail kM.tail aI]
def iB(n:Nat):List Nat:=if n=0 then[]else n%4294967296::iB (n/4294967296)
termination_by n
decreasing_by exact gY aI aK 
def oP:iB 0=[]:=by rw[iB];rfl
def Bh{n:Nat}(h:n≠0):iB n=n%4294967296::iB (n/4294967296):=by rw[iB,bw h]
def kE(n:Nat):val (iB n)=n:=by
 induction n using Nat.strongRecOn with
 |_ n ih=>
  by_cases h:n=0
  .subst h;rw[oP];rfl
  .rw [Bh h,rE,ih _<|gY aI aK];exact eA n 4294967296
def lO(n:Nat):jc<|iB n:=by
 induction n using Nat.strongRecOn with
 |_ n ih=>
  by_cases h:n=0
  .subst h;rw[oP];exact jc.nil
  .rw [Bh h];exact jc.cons (bQ _ aK)<|ih _<|gY aI aK
def Av(n:Nat):oI<|iB n:=by
 induction n using Nat.strongRecOn with
 |_ n ih=>
  by_cases h:n=0
  .subst h;rw[oP];exact oI.nil
  .rw [Bh h];have h1:=ih _<|gY aI (aK:1<4294967296);unfold oI at h1 ⊢;simp only[iI,h1];by_cases h2:n/4294967296=0
   .rw [h2,oP];have:n%4294967296≠0:= aI ;simp[this]
   .rw [Bh h2]
def sY{L:List Nat}(h:jc L):iI L=iB (val L):=
 oI.ext (By L) (Av _) h.iI (lO _) (by rw[pW,kE])
def oI.E3{L:List Nat}(h:oI L)(k:jc L):L=iB (val L):=by
 rw[<-sY k];exact h.symm
def Z5{n:Nat}:iB n=[]↔n=0:=by
 constructor
 .intro h;have:=kE n;rw[h]at this;exact this.symm
 .rintro rfl;exact oP
def sR{n k:Nat}(h:n<4294967296^k):(iB n).length<=k:=by
 induction k generalizing n with
 |zero=>simp at h;subst h;rw[oP];simp
 |succ k ih=>
  by_cases h0:n=0
  .subst h0;rw[oP];simp
  .rw [Bh h0,dR];have:n/4294967296<4294967296^k:=by
    rw[cK aK];rwa[bV]at h
   have:=ih this;omega
def wF{n k:Nat}(h:(iB n).length<=k):n<4294967296^k:=by
 have h1:=nd<|lO n;rw[kE]at h1;exact cg h1<|bZ aK h
def iE(n:Nat):Nat:=if n=0 then 0 else n.log2+1
def tE:iE 0=0:=rfl
def lE{n k:Nat}:iE n<=k↔n<2^k:=by
 unfold iE;by_cases h:n=0
 .subst h;simp[bL]
 .rw [bw h,<-Nat.log2_lt h];omega
def xr{n k:Nat}:k<iE n↔2^k<=n:=by
 have:=@lE n k;omega
def xM{n k:Nat}(h1:2^k<=n)(h2:n<2^(k+1)):iE n=k+1:=by
 have a:=xr.2 h1;have b:=lE.2 h2;omega
def qL(n:Nat):n<2^iE n:=lE.1<|bB _
def tu{n:Nat}(h:n≠0):2^(iE n-1)<=n:=by
 have:iE n-1<iE n:=by
  have:iE n≠0:=by unfold iE;simp[h]
  omega
 exact xr.1 this
def og{n:Nat}(h:n≠0):0<iE n:=by unfold iE;simp[h]
def ub{m n:Nat}(h:m<=n):iE m<=iE n:=lE.2<|dh h<|qL n
def rJ{n:Nat}(h:n≠0)(k:Nat):iE (n*2^k)=iE n+k:=by
 have h1:=qL n;have h2:=tu h;have h3:=og h;have e:iE n+k=(iE n-1+k)+1:= aI ;rw[e];apply xM
 .rw [bG];exact cC _ h2
 .rw [<-e,bG];exact dJ h1<|bL aK
def oz(k:Nat):(4294967296:Nat)^k=2^(32*k):=by
 rw[Nat.pow_mul]
def afD{l:List Nat}{x:Nat}(h:jc<|l++[x])(hx:x≠0):iE (val<|l++[x])=32*l.length+iE x:=by
 rw[xB];simp only[rE,Bz,cW,ch];have hl:val l<4294967296^l.length:=nd (λy hy=>h y<|by simp[hy]);rw[oz]at hl ⊢;have h1:=qL x;have h2:=tu hx;have h3:=og hx;have e:32*l.length+iE x=(32*l.length+(iE x-1))+1:= aI ;rw[e];apply xM
 .rw [bG];have:=cT (2^(32*l.length)) h2;omega
 .rw [<-e,bG];have:=cT (2^(32*l.length))<|show x+1<=2^iE x from h1;rw[ct]at this;omega
def kP(a b:Nat):Int:=if a<b then -1 else if b<a then 1 else 0
section
variable{L M:List Nat}(kL:jc L)
def Nz(hM:oI M)(h:L.length<M.length):val L<val M:=by
 rcases atA M with rfl|⟨m,x,rfl⟩
 .simp at h
 .simp only[atB,c9,gX]at h hM ⊢;have hx:x≠0:=by
   have:=(CO _).1 hM aP;simpa using this
  have h1:=nd kL;rw[xB];have h2:(4294967296:Nat)^L.length<=4294967296^m.length:=bZ aK aI;have h3:(4294967296:Nat)^m.length*1<=4294967296^m.length*val [x]:=cT _ aV;omega
def asD(i:Nat)(hi:i<L.length)(hlen:L.length=M.length)(L4:L.drop (i+1)=M.drop (i+1))(je:L[i]<M[i]'(aI)):val L<val M:=by
 rw[Gn L<|i+1,Gn M<|i+1,L4,AA L i hi,AA M i aI];have h1:=nd<|kL.take i;rw[cS,dV aI]at h1;have h2:=cT (4294967296^i)<|show L[i]+1<=M[i]'(aI)from je;rw[ct]at h2;omega
end
def asG(L:List Nat)(k:Nat)(h:jc L):val (L.drop k)=val L/2^(32*k):=by
 rw[JY h,oz]
def se(s:Nat):List Nat->List Nat
 | []=>[]
 |x::l=>((x+4294967296*l.getD 0 0)/2^s)%4294967296::se s l
section
variable(s:Nat)(L:List Nat)
def Nd:(se s L).length=L.length:=by
 induction L with
 |nil=>rfl
 |cons x l ih=>simp[se,ih]
def acY(i:Nat)(h:i<L.length):(se s L)[i]? = some (((L[i]+4294967296*L.getD (i+1) 0)/2^s)%4294967296):=by
 induction L generalizing i with
 |nil=>simp at h
 |cons x l ih=>
  cases i with
  |zero=>simp[se]
  |succ i=>
   simp only[dR]at h;simp only[se,at6,ih i aI,atC];congr 1
def Jo:jc<|se s L:=by
 induction L with
 |nil=>exact jc.nil
 |cons x l ih=>exact jc.cons (bQ _ aK) ih
end
def asH{L:List Nat}(h:jc L)(s:Nat)(hs:s<32):val (se s L)=val L/2^s:=by
 induction L with
 |nil=>simp[se]
 |cons x l ih=>
  have e:32=s+(32-s):= aI ;have e2:(4294967296:Nat)=2^s*2^(32-s):=by rw[<-bG,<-e]
  have hp:0<2^s:=bL aK;have hx:=h.head;simp only[se,rE,ih h.tail];generalize hv:val l=v;have hh:l.getD 0 0=v%4294967296:=by
   rw[<-hv];cases l with
   |nil=>simp
   |cons y m=>
    have:=h.tail.head;simp[rE];omega
  rw[hh];have f1:(x+4294967296*(v%4294967296))/2^s=x/2^s+2^(32-s)*(v%4294967296):=by
   rw[show x+4294967296*(v%4294967296)=x+2^s*(2^(32-s)*(v%4294967296))by rw[<-bO,<-e2],fS _ _ hp]
  have f2:(x+4294967296*v)/2^s=x/2^s+2^(32-s)*v:=by
   rw[show x+4294967296*v=x+2^s*(2^(32-s)*v)by rw[<-bO,<-e2],fS _ _ hp]
  rw[f1,f2];have q8:x/2^s<2^(32-s):=by
   rw[cK hp,bR,<-e2];exact hx
  generalize x/2^s=q at q8 ⊢;have g1:(4294967296:Nat)=2^(32-s)*2^s:=by rw[bR];exact e2
  have g2:v=2^s*(v/2^s)+v%2^s:=(cN v<|2^s).symm;have g3:(q+2^(32-s)*(v%4294967296))%4294967296=q+2^(32-s)*(v%2^s):=by
   have k1:v%4294967296%2^s=v%2^s:=by
    rw[e2,Nat.mod_mul_right_mod]
   have k2:(v%4294967296)=2^s*(v%4294967296/2^s)+v%2^s:=by
    rw[<-k1];exact(cN _ _).symm
   conv=>lhs;rw[k2]
   rw[ct,<-bO,<-g1];rw[(aI:q+(4294967296*(v%4294967296/2^s)+2^(32-s)*(v%2^s))=(q+2^(32-s)*(v%2^s))+4294967296*(v%4294967296/2^s)),eW];apply cw;have:v%2^s+1<=2^s:=bQ _ hp;have:=cT (2^(32-s)) this;rw[<-g1,ct]at this;omega
  rw[g3]
  conv=>rhs;rw[g2,ct,<-bO,<-g1]
  omega
def Tp{L:List Nat}(h:jc L)(n:Nat):val (se (n%32)<|L.drop<|n/32)=val L/2^n:=by
 rw[asH (h.drop _) _<|bQ _ aK,asG _ _ h,dc,<-bG];congr 2;omega
def S2{out a:List Nat}{i c s n0:Nat}(hi:i<a.length)(hlen:out.length=n0+i)
 (h:val out+4294967296^(n0+i)*c=val (a.take i)*2^s*4294967296^n0):
 val (out++[(a[i]*2^s+c)%4294967296])+4294967296^(n0+(i+1))*((a[i]*2^s+c)/4294967296)=val (a.take<|i+1)*2^s*4294967296^n0:=by
 rw[xB,AA a i hi,hlen];simp only[rE,Bz,cW,ch];generalize hx:a[i]*2^s+c=x;have e:=eA x 4294967296;have p:4294967296^(n0+(i+1))=4294967296^(n0+i)*4294967296:=by rw[<-dm,bV]
 rw[p,dm,bO<|4294967296^(n0+i),<-ct,e,<-hx,ct,<-dm,Nat.add_right_comm,h,ca,ca];congr 1;rw[bG]
 ac_rfl
def wP(b:List Nat)(i:Nat):val (b.take<|i+1)=val (b.take i)+4294967296^i*b.getD i 0:=by
 by_cases hi:i<b.length
 .rw [AA b i hi,bJ,bS hi];rfl
 .rw [dg aI,dg aI,bJ,dp aI];simp
def atg{out a b:List Nat}{i c y d c':Nat}(hi:i<a.length)(hlen:out.length=i)
 (hb:val (b.take<|i+1)=val (b.take i)+4294967296^i*y)
 (hd:d+y+c=a[i]+4294967296*c')
 (h:val out+val (b.take i)=val (a.take i)+4294967296^i*c):
 val (out++[d])+val (b.take<|i+1)=val (a.take<|i+1)+4294967296^(i+1)*c':=by
 rw[xB,AA a i hi,hb,hlen];simp only[rE,Bz,cW,ch];have e:=congrArg (4294967296^i * ·) hd;simp only[ct,<-bO]at e;rw[bV];omega
def kq(n:Nat):Nat:=if n=0 then 0 else(Nat.gcd n<|2^(Nat.log2 n+1)).log2
def O9{m:Nat}(hm:m%2=1)(k:Nat):kq (m*2^k)=k:=by
 have h0:m*2^k≠0:=eN aI<|eO<|bL aK;unfold kq;rw[bw h0];have hk:k<=Nat.log2 (m*2^k):=by
  apply cF;intro h;have h1:m*2^k<2^k:=(Nat.log2_lt h0).1 aI;have:1*2^k<=m*2^k:=cC _ aI;omega
 obtain⟨j,hj⟩:∃ j,Nat.log2 (m*2^k)+1=j+k:=⟨Nat.log2 (m*2^k)+1-k,aI⟩
 rw[hj,bG,Nat.gcd_mul_right];have hg:Nat.gcd m (2^j)=1:=by
  have hc:Nat.Coprime m 2:=by
   unfold Nat.Coprime;rw[Nat.gcd_comm,Nat.gcd_rec,hm];rfl
  exact Nat.Coprime.pow_right j hc
 rw[hg,cj,Nat.log2_two_pow]
def Pa{n:Nat}(h:n%2=1):kq n=0:=by have:=O9 h 0;simpa using this
section
variable{n:Nat}(h:n≠0)
def aso:∃ m k,m%2=1/\n=m*2^k:=by
 induction n using Nat.strongRecOn with
 |_ n ih=>
  by_cases h2:n%2=1
  .exact ⟨n,0,h2,aP⟩
  .obtain ⟨m,k,hm,he⟩:=ih (n/2) aI aI ;exact⟨m,k+1,hm,by rw[bV,<-bO,<-he];omega⟩
def Wp(h2:n%2=0):kq n=kq (n/2)+1:=by
 obtain⟨m,k,hm,he⟩:=aso (n:=n/2) aI;have e:n=m*2^(k+1):=by rw[bV,<-bO,<-he];omega
 rw[he,O9 hm]
 conv=>lhs;rw[e]
 exact O9 hm _
def De:∃ m,m%2=1/\n=m*2^kq n:=by
 induction n using Nat.strongRecOn with
 |_ n ih=>
  by_cases h2:n%2=1
  .exact ⟨n,h2,by rw[Pa h2];omega⟩
  .obtain ⟨m,hm,he⟩:=ih (n/2) aI aI ;refine⟨m,hm,?_⟩;rw[Wp h aI,bV,<-bO,<-he];omega
end
def AO{m:Nat}(hm:m%2=1)(k:Nat):kq (m*2^k)=k:=by
 induction k with
 |zero=>rw[cH,cG,Pa hm]
 |succ k ih=>
  have hp:0<m*2^k:=fB aI<|bL aK;have e:m*2^(k+1)=m*2^k*2:=by rw[bV,bO]
  rw[e,Wp aI aI,eB _ aK,ih]
section
variable{n:Nat}(h:n≠0)
def FQ:(n/2^kq n)%2=1:=by
 obtain⟨m,hm,he⟩:=De h;have:n/2^kq n=m:=by conv=>lhs;rw[he,AO hm];rw[eB _<|bL aK]
 rw[this];exact hm
def KY:(n/2^kq n)*2^kq n=n:=by
 obtain⟨m,hm,he⟩:=De h;have:n/2^kq n=m:=by conv=>lhs;rw[he,AO hm];rw[eB _<|bL aK]
 rw[this];exact he.symm
def Jv:2^kq n<=n:=by
 obtain⟨m,hm,he⟩:=De h
 conv=>rhs;rw[he]
 exact atD _ aI 
end
def ahO{x v:Nat}(hx:x≠0)(je:x<4294967296):kq (x+4294967296*v)=kq x:=by
 obtain⟨m,hm,he⟩:=De hx;have hk:kq x<32:=by
  have h1:=Jv hx;rcases eP (kq x) 32 with h|h
  .exact h
  .have:=bZ (n:=2) aK h;have e:(2:Nat)^32=4294967296:= aK ;omega
 have e:x+4294967296*v=(m+2^(32-kq x)*v)*2^kq x:=by
  rw[ca,<-he,gy,<-bG,fT aI]
 conv=>lhs;rw[e]
 apply AO;have:2^(32-kq x)=2*2^(31-kq x):=by rw[(aI:32-kq x=(31-kq x)+1),bV,bR]
 rw[this,bO,eW];exact hm
def ahP{v:Nat}(hv:v≠0)(k:Nat):kq (2^k*v)=k+kq v:=by
 obtain⟨m,hm,he⟩:=De hv
 conv=>lhs;rw[he,<-bO,bR<|2^k,bO,<-bG]
 exact AO hm _
section
variable{L:List Nat}
def JZ:val L=0↔∀ x,x ∈ L->x=0:=by
 induction L with
 |nil=>simp
 |cons x l ih=>
  simp only[rE,dM];constructor
  .intro h y hy;rcases hy with rfl|hy
   .omega
   .exact ih.1 aI y hy
  .intro h;have h1:=h x<|.inl rfl;have h2:=ih.2 λy hy=>h y<|.inr hy;omega
def ahQ(h:jc L)(i:Nat)(hi:i<L.length)(h0:∀ j,(hj:j<i)->L[j]=0)(hx:L[i]≠0):kq (val L)=32*i+kq L[i]:=by
 rw[Gn L i];have:val (L.take i)=0:=by
  rw[JZ];intro y hy;obtain⟨j,hj,rfl⟩:=List.getElem_of_mem hy;rw[cS]at hj;rw[List.getElem_take];exact h0 j aI 
 rw[this,cJ,oz,fU hi,rE];rw[ahP aI,ahO hx<|h.get hi]
def To{k x:Nat}(hk:k<L.length):val (L.set k x)+4294967296^k*L[k]=val L+4294967296^k*x:=by
 induction L generalizing k with
 |nil=>simp at hk
 |cons y l ih=>
  cases k with
  |zero=>simp;omega
  |succ k=>
   simp only[dR]at hk;have:=ih (k:=k) aI;simp only[List.set_cons_succ,rE,atC,bV];have e1:(4294967296^k*4294967296*l[k])=4294967296*(4294967296^k*l[k]):=by ac_rfl
   have e2:(4294967296^k*4294967296*x)=4294967296*(4294967296^k*x):=by ac_rfl
   rw[e1,e2];omega
end
def jc.set{L:List Nat}(h:jc L)(k:Nat){x:Nat}(hx:x<4294967296):jc<|L.set k x:=by
 intro y hy;rcases List.mem_or_eq_of_mem_set hy with hy|rfl
 .exact h _ hy
 .exact hx
structure Dy where
 neg:Bool
 m:Nat
 e:Int
def Dy.mX(d:Dy):Prop:=(d.m=0/\d.neg=false/\d.e=0)\/d.m%2=1
section
variable(neg:Bool)(m:Nat)(e:Int)
def canon:Dy:=if m=0 then⟨false,0,0⟩else⟨neg,m/2^kq m,e+kq m⟩
def sG:(canon neg m e).mX:=by
 unfold canon;split
 .exact .inl ⟨rfl,rfl,rfl⟩
 .rename_i h;exact .inr<|FQ h
end
def Dy.mX.BK{d:Dy}(h:d.mX):canon d.neg d.m d.e=d:=by
 obtain⟨s,m,e⟩:=d;rcases h with⟨h1,h2,h3⟩|h
 .simp only at h1 h2 h3;subst h1 h2 h3;rfl
 .simp only at h ⊢;unfold canon;rw[bw aI,Pa h];simp
def oC(d:Dy):Prop:=d.m=0\/iE d.m<=4096 /\ -16384<=d.e/\d.e<=16384/\(iE d.m:Int)+d.e<=16384
instance (d:Dy):Decidable<|oC d:=by unfold oC;infer_instance
structure Dy.iD(d:Dy):Prop where
 canon:d.mX
 range:oC d
def jK:Dy:=⟨false,0,0⟩
def ri:jK.iD:=⟨.inl ⟨rfl,rfl,rfl⟩,.inl rfl⟩
def Dy.jB(d:Dy):Int:=if d.m=0 then 0 else if d.neg then -1 else 1
def Dy.jb(d:Dy):Int:=if d.m=0 then 0 else iE d.m+d.e
def Dy.kg(d:Dy)(e:Int):Nat:=d.m*2^(d.e-e).toNat
def Dy.num(d:Dy)(e:Int):Int:=if d.neg then -(d.kg e:Int)else d.kg e
def jI(a b:Dy):Int:=
 if a.num (min a.e b.e)<b.num (min a.e b.e)then -1 else if b.num (min a.e b.e)<a.num (min a.e b.e)then 1 else 0
def yg{d:Dy}(h:d.m≠0)(e:Int):0<d.kg e:=fB aI<|bL aK
def aal{d:Dy}(h:d.m=0)(e:Int):d.kg e=0:=by unfold Dy.kg;rw[h,de]
def KJ{d:Dy}(h:d.m≠0){e:Int}(he:e<=d.e):(iE<|d.kg e:Int)=iE d.m+d.e-e:=by
 unfold Dy.kg;rw[rJ h];omega
def aak{a b:Dy}(ha:a.m≠0)(hb:b.m≠0){e:Int}(h1:e<=a.e)(h2:e<=b.e)(h:a.jb<b.jb):a.kg e<b.kg e:=by
 have k1:=KJ ha h1;have k2:=KJ hb h2;unfold Dy.jb at h;rw[bw ha,bw hb]at h;rcases eP (a.kg e) (b.kg e)with h'|h'
 .exact h'
 .have:=ub h';omega
def uN(a b:Dy):Int:=kP (a.kg<|min a.e b.e)<|b.kg<|min a.e b.e
section
variable{a b:Dy}(ha:a.m≠0)(hb:b.m≠0)
def Wf(h:a.jb<b.jb):uN a b = -1:=by
 unfold uN kP;rw[bA<|aak ha hb (Int.min_le_left _ _) (Int.min_le_right _ _) h]
def We(h:b.jb<a.jb):uN a b=1:=by
 have:=aak hb ha (Int.min_le_right a.e b.e) (Int.min_le_left _ _) h;unfold uN kP;rw[bw aI,bA this]
end
def Ep(d:Dy):(d.m=0/\d.jB=0)\/(d.m≠0/\d.neg=true/\d.jB = -1)\/(d.m≠0/\d.neg=false/\d.jB=1):=by
 unfold Dy.jB;by_cases h:d.m=0
 .exact .inl ⟨h,bA h⟩
 .cases hn:d.neg
  .exact .inr<|.inr ⟨h,rfl,by simp[h]⟩
  .exact .inr<|.inl ⟨h,rfl,by simp[h]⟩
def RY{d:Dy}(e:Int):(d.jB=0->d.num e=0)/\(d.jB = -1->d.num e<0/\d.num e = -(d.kg e))/\(d.jB=1->0<d.num e/\d.num e=d.kg e):=by
 unfold Dy.num;rcases Ep d with⟨h1,h2⟩|⟨h1,h2,h3⟩|⟨h1,h2,h3⟩
 .rw [h2,aal h1];simp
 .have:=yg h1 e;rw[h3,h2];simp;omega
 .have:=yg h1 e;rw[h3,h2];simp;omega
def ES(a b:Dy):jI a b=if a.jB<b.jB then -1 else if b.jB<a.jB then 1 else if a.jB=0 then 0 else a.jB*uN a b:=by
 unfold jI uN kP;generalize min a.e b.e=e;obtain⟨p1,p2,p3⟩:=RY (d:=a) e;obtain⟨q1,q2,q3⟩:=RY (d:=b) e;generalize a.num e=x at *
 generalize b.num e=y at *
 generalize a.kg e=x' at *
 generalize b.kg e=y' at *
 have ha:a.jB=0\/a.jB = -1\/a.jB=1:=by rcases Ep a with⟨_,h⟩|⟨_,_,h⟩|⟨_,_,h⟩<;>simp[h]
 have hb:b.jB=0\/b.jB = -1\/b.jB=1:=by rcases Ep b with⟨_,h⟩|⟨_,_,h⟩|⟨_,_,h⟩<;>simp[h]
 generalize a.jB=s at *
 generalize b.jB=t at *
 rcases ha with rfl|rfl|rfl<;>rcases hb with rfl|rfl|rfl<;>simp at p1 p2 p3 q1 q2 q3<;>(repeat' split)<;>omega
def mz(z:Int)(e:Int):Dy:=canon (decide (z<0)) z.natAbs e
def jh(a b:Dy):Dy:=
 if a.m=0 then b else if b.m=0 then a else mz (a.num (min a.e b.e)+b.num (min a.e b.e)) (min a.e b.e)
def jl(d:Dy):Dy:=⟨!d.neg&&decide (d.m≠0),d.m,d.e⟩
def FN{d:Dy}(h:d.mX):(jl d).mX:=by
 rcases h with⟨h1,h2,h3⟩|h
 .exact .inl ⟨h1,by simp[jl,h1],h3⟩
 .exact .inr h
def ru{d:Dy}(h:d.iD):(jl d).iD:=⟨FN h.canon,h.range⟩
def aru(n:Bool)(m:Nat)(e:Int):(canon n m e).jB=if m=0 then 0 else if n then -1 else 1:=by
 unfold canon;by_cases h:m=0
 .simp [h,Dy.jB]
 .have:(canon n m e).m≠0:=by unfold canon;rw[bw h];have:=FQ h;simp only;omega
  unfold canon at this;rw[bw h]at this ⊢;unfold Dy.jB;rw[bw this,bw h]
def arv(z e:Int):(mz z e).jB=if z<0 then -1 else if 0<z then 1 else 0:=by
 unfold mz;rw[aru];by_cases h:z<0
 .rw [bw aI,bA h];simp[h]
 .rw [bw h];by_cases h0:0<z
  .rw [bw aI,bA h0];simp[h]
  .rw [bw h0,bA aI]
def aa0(d:Dy)(e:Int)(hd:d.m≠0):(jl d).num e = -(d.num e):=by
 unfold Dy.num jl Dy.kg;cases d.neg<;>simp[hd]
section
variable{a b:Dy}(ha:a.m≠0)(hb:b.m≠0)
def aht:(jh a<|jl b).jB=jI a b:=by
 unfold jh;rw[bw ha,bw<|by simpa[jl]using hb,arv];have e1:(jl b).e=b.e:=rfl;rw[e1,aa0 _ _ hb];unfold jI;generalize a.num _=x;generalize b.num _=y
 repeat' split
 all_goals omega
def ahv(hs:a.jB=b.jB)(h:a.jb<b.jb):jI a b = -a.jB:=by
 rw[ES,bw aI,bw aI,Wf ha hb h];split<;>omega
def ahu(hs:a.jB=b.jB)(h:b.jb<a.jb):jI a b=a.jB:=by
 rw[ES,bw aI,bw aI,We ha hb h];split<;>omega
end
def ET(a b:Dy):jI a b=if a.jB≠b.jB then(if a.jB<b.jB then -1 else 1)else if a.jB=0 then 0 else
 if a.jb≠b.jb then(if(a.jb<b.jb)=(0<a.jB)then -1 else 1)else(jh a<|jl b).jB:=by
 by_cases hs:a.jB=b.jB
 .rw [bw<|by simpa using hs];by_cases h0:a.jB=0
  .rw [bA h0,ES,bw aI,bw aI,bA h0]
  .rw [bw h0];have ha:a.m≠0:=by intro h;exact h0 (by unfold Dy.jB;rw[bA h])
   have hb:b.m≠0:=by intro h;exact h0<|by rw[hs];unfold Dy.jB;rw[bA h]
   have hc:a.jB = -1\/a.jB=1:=by rcases Ep a with⟨_,h⟩|⟨_,_,h⟩|⟨_,_,h⟩<;>simp_all
   by_cases ht:a.jb=b.jb
   .rw [bw<|by simpa using ht,aht ha hb]
   .rw [bA<|by simpa using ht];rcases Int.lt_or_gt_of_ne ht with h|h
    .rw [ahv ha hb hs h];rcases hc with h'|h'<;>rw[h']<;>simp[h]
    .rw [ahu ha hb hs h];rcases hc with h'|h'<;>rw[h']<;>simp[(aI:¬a.jb<b.jb)]
 .rw [bA<|by simpa using hs,ES];by_cases h:a.jB<b.jB
  .rw [bA h,bA h]
  .rw [bw h,bw h,bA aI]
section
variable{out:List Nat}
def aex{k c x y P Q P' Q':Nat}(hlen:out.length=k)(h:val out+4294967296^k*c=P+Q)
 (hP:P'=P+4294967296^k*x) (hQ:Q'=Q+4294967296^k*y):
 val (out++[(c+x+y)%4294967296])+4294967296^(k+1)*((c+x+y)/4294967296)=P'+Q':=by
 rw[xB,hlen,hP,hQ];simp only[rE,Bz,cW,ch];generalize hx:c+x+y=z;have e:=eA z 4294967296;rw[bV,dm,bO,<-ct,e,<-hx,ct,ct];omega
def arM{k c x y d c' P Q P' Q':Nat}(hlen:out.length=k)(h:val out+Q=P+4294967296^k*c)
 (hP:P'=P+4294967296^k*x) (hQ:Q'=Q+4294967296^k*y) (hd:d+y+c=x+4294967296*c'):
 val (out++[d])+Q'=P'+4294967296^(k+1)*c':=by
 rw[xB,hlen,hP,hQ];simp only[rE,Bz,cW,ch];have e:=congrArg (4294967296^k * ·) hd;simp only[ct,<-bO]at e;rw[bV];omega
def adj{n c P Q:Nat}(ho:jc out)(hlen:out.length=n)(h:val out+Q=P+4294967296^n*c)(hle:Q<=P):c=0/\val out=P-Q:=by
 have h1:=nd ho;rw[hlen]at h1;rcases c with _|c
 .exact ⟨rfl,aI⟩
 .exfalso;have:4294967296^n*1<=4294967296^n*(c+1):=cT _ aI;omega
end
def OJ{L:List Nat}(h:jc L)(k:Nat)(hk:k/32<L.length):val L/2^k%2=L[k/32]/2^(k%32)%2:=by
 have e:k=32*(k/32)+k%32:= aI 
 conv=>lhs;rw[e,bG,<-dc,<-oz,<-JY h,fU hk,rE]
 have hs:k%32<32:=bQ _ aK;have e2:(4294967296:Nat)=2^(k%32)*(2*2^(31-k%32)):=by
  rw[<-Nat.pow_succ',<-bG,(aI:k%32+(31-k%32).succ=32)]
 conv=>lhs;rw[e2,bO,fS _ _<|bL aK,bO,eW]
def OH{n k:Nat}(h:n≠0)(hk:k<kq n):n/2^k%2=0:=by
 obtain⟨m,hm,he⟩:=De h;generalize kq n=c at *
 rw[he,(aI:c=k+(c-k)),bG,<-bO,gy,eB _<|bL aK,(aI:c-k=(c-k-1)+1),bV,<-bO,fV]
def OG{n:Nat}(h:n≠0):n/2^kq n%2=1:=FQ h
def Hd{L:List Nat}(h:jc L)(h0:val L≠0):kq (val L)/32<L.length:=by
 have h1:=Jv h0;have h2:=nd h;rw[oz]at h2;have h3:2^kq (val L)<2^(32*L.length):=dh h1 h2;have:=(atE (aK:1<2)).1 h3;omega
end Go.Proofs.YtbbefgegdllpmaaGreatDoor.Fp
namespace Go.Proofs.YtbbefgegdllpmaaGreatDoor
open Go.RowKit Fp
structure Sl(w:World)(A:Option Addr)(c:Nat)(L:List Nat):Prop where
 cap:L.length<=c
 nU:c<=9223372036854775807
 ok:jc L
 y4:A=none->c=0
 cell:∀ (i x:Nat),L[i]? = some x->∃ b o,A=some ⟨b,o,none⟩/\b<w.heap.size/\w.cell? ⟨b,o+i,none⟩=some (.int .u32 (x:Int))
section
variable {w w':World} {A:Option Addr} {c:Nat} {L:List Nat}
def Sl.mM(h:Sl w A c L){i:Nat}(hi:i<L.length):∃ b o,A=some ⟨b,o,none⟩/\b<w.heap.size/\w.cell? ⟨b,o+i,none⟩=some (.int .u32 (L[i]:Int)):=
 h.cell i _ (bS hi)
def Sl.nil(w:World):Sl w none 0 []:=⟨bB _,aK,jc.nil,λ_=>rfl,λi x h=>by simp at h⟩
def Sl.below(h:Sl w A c L)(hb:Below w.heap.size w w'):Sl w' A c L:=
 ⟨h.cap,h.nU,h.ok,h.y4,λi x hx=>by
  obtain⟨b,o,e,h1,h2⟩:=h.cell i x hx;exact⟨b,o,e,cg h1 hb.size,(hb.cell h1).trans h2⟩⟩
def Sl.alloc(h:Sl w A c L)(o:Obj):Sl (w.alloc o) A c L:=h.below<|(Below.refl _ _).alloc (bB _) _
def Sl.drew(h:Sl w A c L):Sl w.drew A c L:=h.below<|(Below.refl _ _).drew
def Sl.take(h:Sl w A c L)(n:Nat):Sl w A c<|L.take n:=
 ⟨by have:=h.cap;rw[cS];omega,h.nU,h.ok.take n,h.y4,λi x hx=>h.cell i x (by
  rw[fC]at hx;split at hx
  .exact hx
  .cases hx)⟩
def Sl.len(h:Sl w A c L):L.length<=9223372036854775807:=b9 h.cap h.nU
def Sl.eqv{L':List Nat}(h:Sl w A c L)(e:L=L'):Sl w A c L':=e▸h
end
def EI(b o i:Nat):(⟨b,o,none⟩:Addr).add i=⟨b,o+i,none⟩:=by
 unfold Addr.add;split
 .rename_i h0;rw[h0];rfl
 .simp
abbrev iY(w w':World):Prop:=Below w.heap.size w w'
def iY.trans{a b c:World}(h:iY a b)(k:iY b c):iY a c:=Below.trans h<|k.mono h.size
def iY.alloc(w:World)(o:Obj):iY w<|w.alloc o:=(Below.refl _ _).alloc (bB _) _
def iY.drew(w:World):iY w w.drew:=(Below.refl _ _).drew
def iY.refl(w:World):iY w w:=Below.refl _ _
def MZ{A:Option Addr}{n m c:Nat}(h:n=m):Ending.returned (.slice A n c) = .returned (.slice A m c):=by rw[h]
def pG{k:IntKind}{a b:Int}(h:a=b):Ending.returned (.int k a) = .returned (.int k b):=by rw[h]
def acj{a b:Bool}(h:a=b):Ending.returned (.bool a) = .returned (.bool b):=by rw[h]
def uI(w:World)(L:List Nat)(e:Ending)(w':World):Prop:=∃ A c,e = .returned (.slice A L.length c)/\Sl w' A c L/\iY w w'
def EG(w:World)(L:List Nat)(n:Int)(e:Ending)(w':World):Prop:=∃ A c,e = .returned (.tuple #[.slice A L.length c,.int .i64 n])/\Sl w' A c L/\iY w w'
def Tb(w:World):Prop:=TabAt 0 Lib.deBruijn32tab w
def Tb.below{w w':World}(h:Tb w)(hb:iY w w'):Tb w':=λj hj=>by
 have h1:=h j hj;rw[hb.cell<|block_lt_of_cell h1];exact h1
def Tb.alloc{w:World}(h:Tb w)(o:Obj):Tb<|w.alloc o:=h.below<|iY.alloc _ _
def aft(x:Nat)(h:x<4294967296):Lib.bitLen x=iE x:=by
 induction x using Nat.strongRecOn with
 |_ x ih=>
  by_cases h0:x=0
  .subst h0;rfl
  .rw [Lib.bitLen_half x h0 aI,ih (x/2) aI aI];by_cases h1:x/2=0
   .have:x=1:= aI ;subst this;rfl
   .have e1:=tu h1;have e2:=qL<|x/2;have e3:=og h1;generalize iE (x/2)=k at *
    obtain⟨j,rfl⟩:∃ j,k=j+1:=⟨k-1,aI⟩
    rw[eK]at e1;rw[eZ];refine(xM ?_ ?_).symm
    .rw [bV];omega
    .rw [bV];omega
def ahR(x:Nat)(h0:x≠0)(h:x<4294967296):Lib.ctz 32 x=kq x:=by
 unfold Lib.ctz;rw[bw h0];obtain⟨m,hm,_⟩:=Lib.ctzFrom_spec 32 x aI h
 conv=>rhs;rw[hm,bR]
 exact(AO aI _).symm
def pv(L:List Nat):List Value:=L.map λ(n:Nat)=>Value.int .u32 (n:Int)
def asw{L:List Nat}{j:Nat}{u:Value}(h:(pv L)[j]? = some u):∃ n,L[j]? = some n/\u = .int .u32 (n:Int):=by
 unfold pv at h;rw[dA]at h;obtain⟨n,hn,rfl⟩:=dB.1 h;exact⟨n,hn,rfl⟩
def asv(L M:List Nat):pv (L++M)=pv L++pv M:=atF
def asx(L:List Nat):∀ u ∈ pv L,u.oneCell'=true:=by
 intro u hu;obtain⟨n,_,rfl⟩:=e9.1 hu;rfl
structure Ow(w:World)(base:Nat)(v:Value)(L:List Nat):Prop where
 row:w.ownsRow base 99 1 v L.length<|pv L
 ok:jc L
def Ow.sl{w:World}{base:Nat}{v:Value}{L:List Nat}(h:Ow w base v L):∃ A c,v = .slice A L.length c/\Sl w A c L:=by
 have hr:=h.row;rcases hr.2 with⟨rfl,h0⟩|⟨g,cap,cur,rfl,hb,hg,qd,oq,pk,IG⟩
 .have:L=[]:=dZ h0;subst this;exact⟨none,0,rfl,Sl.nil w⟩
 .refine ⟨_,_,rfl,qd,(by simpa[maxLen]using oq),h.ok,(λh=>by cases h),λi x hx=>⟨_,_,rfl,(dN.1 hg).1,?_⟩⟩;have h:=hr.cells (g:=g) rfl i (.int .u32 (x:Int)) (by unfold pv;rw[dA,hx];rfl);rw[EI]at h;exact h
def Ow.nil(w:World)(base:Nat):Ow w base (.slice none 0 0) []:=⟨World.ownsRow_nil w base _ _,jc.nil⟩
def Ow.alloc{w:World}{base:Nat}{v:Value}{L:List Nat}(h:Ow w base v L)(o:Obj):Ow (w.alloc o) base v L:=⟨h.row.alloc o,h.ok⟩
def Ow.empty(w:World)(base:Nat)(hb:base<=w.heap.size):Ow (w.alloc<|.cells #[] 99) base (.slice (some ⟨w.heap.size,0,none⟩) 0 0) []:=
 ⟨World.ownsRow_made w #[] 0 hb aK rfl,jc.nil⟩
def qW{w:World}{n:Nat}(h:n<=w.heap.size)(o:Obj):n<=(w.alloc o).heap.size:= aV 
def Sl.one(w:World)(x:Nat)(hx:x<4294967296):Sl (w.alloc<|.cells #[.int .u32 x] 99) (some ⟨w.heap.size,0,none⟩) 1 [x]:=
 ⟨bB _,aK,jc.cons hx jc.nil,(λh=>by cases h),λi y hy=>by
  obtain⟨h1,h2⟩:=cP.1 hy;obtain rfl:i=0:=by simp at h1;omega
  simp at h2;subst h2;refine⟨_,_,rfl,aP,?_⟩;exact World.cell?_alloc_at _ _ _ _ rfl⟩
def Sl.uy(w:World)(y:Int)(x:Nat)(e:y=(x:Int))(hx:x<4294967296):Sl (w.alloc<|.cells #[.int .u32 y] 99) (some ⟨w.heap.size,0,none⟩) 1 [x]:=by
 subst e;exact Sl.one w x hx
def Rm:(prog.info? 99).map (λi=>(i.zero,i.size,i.bytes))=some (some<|.int .u32 0,1,4):= aM 
def si{iN:Array Oper}{rest:List Oper}{o:Oper}{a:Act}{Q:Exit->Act->World->Prop}{w:World}(Dx:o.guard=none)(s x:Operand)
 (ho:o.op = .call { callee:=.builtin .append,args:=#[s,x],argTypes:=#[29,29] })
 (base:Nat) (v:Value) (L:List Nat) (hs:a.eval s=v) (mF:Ow w base v L)
 (A:Option Addr) (m c:Nat) (M:List Nat) (hx:a.eval x = .slice A m c) (hm:m=M.length) (hr:Sl w A c M)
 (lJ:L.length+M.length<=10000000000) (Dt:base<=w.heap.size)
 (h:∀ v' w',Ow w' base v' (L++M)->w.grownBy w' v.ownBlock->(v'.ownBlock=v.ownBlock\/v'.ownBlock=some w.heap.size)->wpList prog iN Q rest (a.put o.dst v') w'):
 wpList prog iN Q (o::rest) a w:=by
 obtain⟨i,hi,hz,h1,h2⟩:=info_parts Rm;subst hm;rcases A with _|ad
 .have hc:=hr.y4 rfl;subst hc;have hM:M=[]:=dZ (by have:=hr.cap;omega);subst hM;refine wpList_append_own_none Dx s x _ ho base _ i 1 underlying29 hi v _ _ hs mF.row hx ?_;have:=h v w (by rw[List.append_nil];exact mF) ⟨rfl,rfl,rfl,bB _,λ_ _ _=>rfl⟩<|.inl rfl;exact this
 .refine wpList_append_own_at w Dx s x _ ho base _ i _ 1 4 underlying29 hi hz h1 h2 rfl aK v L.length (pv L) hs mF.row ad M.length c (pv M) hx (by simp[pv]) ?_ (asx M)
   (by simp only[maxLen];omega) aI Dt ?_
  .intro j u hu;obtain⟨n,hn,rfl⟩:=asw hu;obtain⟨b,o,e,_,hc⟩:=hr.cell j n hn;cases e;rw[EI];exact hc
  .intro v' w' alx hg _ qh;exact h v' w' ⟨by rw[c9,asv];exact alx,mF.ok.append hr.ok⟩ hg qh
def Rw(w:World)(b:Nat)(L:List Nat):Prop:=w.heap[b]? = some (.cells (pv L).toArray 99 (0,0))
section
variable {w w':World} {b:Nat} {L:List Nat}
def Rw.lt(h:Rw w b L):b<w.heap.size:=(dN.1 h).1
def Rw.cell(h:Rw w b L){i x:Nat}(hx:L[i]? = some x):w.cell? ⟨b,i,none⟩=some (.int .u32 (x:Int)):=by
 unfold Rw at h;simp only[World.cell?,h];simp[pv,hx]
def Rw.frozen(h:Rw w b L)(i:Nat):w.frozen? ⟨b,i,none⟩=false:=by
 unfold Rw at h;simp[World.frozen?,h]
def Rw.set(h:Rw w b L)(i x:Nat):Rw (w.setCell ⟨b,i,none⟩<|.int .u32 (x:Int)) b<|L.set i x:=by
 unfold Rw at h ⊢;simp only[World.setCell,fW,h];simp[pv,List.map_set]
def Rw.sl(h:Rw w b L)(hk:jc L)(hl:L.length<=10000000000):Sl w (some ⟨b,0,none⟩) L.length L:=
 ⟨bB _,aI,hk,(λh=>by cases h),λi x hx=>⟨_,_,rfl,h.lt,by
  rw[cJ];exact h.cell hx⟩⟩
def Rw.Ac(w:World)(n:Nat):Rw (w.alloc<|.cells (pv<|List.replicate n 0).toArray 99) w.heap.size<|List.replicate n 0:=heap_alloc_new w _
end
def aew(b i:Nat):(⟨b,0,none⟩:Addr).add i=⟨b,i,none⟩:=by
 unfold Addr.add;split
 .rename_i h0;rw[h0]
 .simp
def FL(n:Nat)(hn:n<=10000000000)(w:World):
 (Instr.makeSlice 29 (.int .i64 (n:Int))<|.int .i64 (n:Int)).run prog w = .ok (.slice (some ⟨w.heap.size,0,none⟩) n n) (w.alloc<|.cells (pv<|List.replicate n 0).toArray 99):=by
 obtain⟨i,hi,hz,h1,h2⟩:=info_parts Rm;have hr:=run_make (P:=prog) w 29 99 i _ underlying29 hi hz .i64 .i64 n n aI aI (by rw[h2];omega) aI;rw[hr,gZ,h1,cG];refine congrArg (λcs=>Result.ok (Value.slice (some ⟨w.heap.size,0,none⟩) n n)<|w.alloc<|.cells cs 99) ?_;apply Array.ext
 .simp [madeCells,pv]
 .intro i h1 h2;simp[madeCells,pv,Value.cells,dz]
def vv(w:World)(d:Dy)(e:Ending)(w':World):Prop:=
 ∃ A c,e = .returned (.agg #[.bool d.neg,.slice A (iB d.m).length c,.int .i64 d.e])/\Sl w' A c (iB d.m)/\iY w w'
def AG(w:World)(d:Dy)(n:Int)(e:Ending)(w':World):Prop:=
 ∃ A c,e = .returned (.tuple #[.agg #[.bool d.neg,.slice A (iB d.m).length c,.int .i64 d.e],.int .i64 n])/\Sl w' A c (iB d.m)/\iY w w'
def AF(w:World)(g:Nat):Prop:=∀ o x,w.cell? ⟨g,o,none⟩≠some (.int .u32 x)
def Sl.zO{w:World}{A:Option Addr}{c:Nat}{L:List Nat}(h:Sl w A c L){g i:Nat}(hg:AF w g)(u:Value):Sl (w.setCell ⟨g,i,none⟩ u) A c L:=
 ⟨h.cap,h.nU,h.ok,h.y4,λj x hx=>by
  obtain⟨b,o,e,h1,h2⟩:=h.cell j x hx;refine⟨b,o,e,by simpa[World.setCell]using h1,?_⟩;rw[World.cell?_setCell_other w _ _ u]
  .exact h2
  .intro e';simp only[Addr.mk.injEq]at e';exact hg (o+j) x<|by rw[e'.1];exact h2⟩
def AF.FR{w:World}{g:Nat}{cs:Array Value}{t:TypeId}{fr:Nat×Nat}(h:w.heap[g]? = some (.cells cs t fr))(hc:∀ (i:Nat) (x:Int),cs[i]? ≠ some (.int .u32 x)):AF w g:=λo x e=>by
 simp only[World.cell?,h]at e;simp at e;exact hc o x<|by simpa using e
def jO(w:World)(g:Nat)(s:Bool)(A:Option Addr)(n c:Nat)(e:Int):Prop:=w.heap[g]? = some (.cells #[.bool s,.slice A n c,.int .i64 e] 31 (0,0))
section
variable {w w':World} {g n c:Nat} {s:Bool} {A:Option Addr} {e:Int}
def jO.new(W:World)(s:Bool)(A:Option Addr)(n c:Nat)(e:Int):jO (W.alloc<|.cells #[.bool s,.slice A n c,.int .i64 e] 31) W.heap.size s A n c e:=heap_alloc_new W _
def jO.ux{W:World}{g:Nat}(hg:W.heap.size=g)(s:Bool)(A:Option Addr)(n c:Nat)(e:Int):jO (W.alloc<|.cells #[.bool s,.slice A n c,.int .i64 e] 31) g s A n c e:=hg▸heap_alloc_new W _
def jO.lt(h:jO w g s A n c e):g<w.heap.size:=(dN.1 h).1
def jO.ext(h:jO w g s A n c e)(hb:iY w w'):jO w' g s A n c e:=(hb.block g h.lt).trans h
def jO.alloc(h:jO w g s A n c e)(o:Obj):jO (w.alloc o) g s A n c e:=h.ext<|iY.alloc _ _
def jO.drew(h:jO w g s A n c e):jO w.drew g s A n c e:=h
section
variable(h:jO w g s A n c e)
def jO.oe:AF w g:=AF.FR h (λi x=>by rcases i with _|_|_|i<;>simp)
def jO.c0:w.cell? ⟨g,0,none⟩=some (.bool s):=by unfold jO at h;simp[World.cell?,h]
def jO.c1:w.cell? ⟨g,1,none⟩=some (.slice A n c):=by unfold jO at h;simp[World.cell?,h]
def jO.c2:w.cell? ⟨g,2,none⟩=some (.int .i64 e):=by unfold jO at h;simp[World.cell?,h]
def jO.fr(i:Nat):w.frozen? ⟨g,i,none⟩=false:=by unfold jO at h;simp[World.frozen?,h]
def jO.set(s':Bool)(A':Option Addr)(n' c':Nat)(e':Int):
 jO (((w.setCell ⟨g,0,none⟩<|.bool s').setCell ⟨g,1,none⟩<|.slice A' n' c').setCell ⟨g,2,none⟩<|.int .i64 e') g s' A' n' c' e':=by
 have h1:=heap_setCell_same w g 0 _ _ (.bool s') h;have h2:=heap_setCell_same _ g 1 _ _ (.slice A' n' c') h1;have h3:=heap_setCell_same _ g 2 _ _ (.int .i64 e') h2;exact h3
end
def jO.uE{L:List Nat}{A':Option Addr}{c':Nat}(h:jO w g s A n c e)(hs:Sl w A' c' L)(s':Bool)(e':Int)(n' c2:Nat)(A2:Option Addr):
 Sl (((w.setCell ⟨g,0,none⟩<|.bool s').setCell ⟨g,1,none⟩<|.slice A2 n' c2).setCell ⟨g,2,none⟩<|.int .i64 e') A' c' L:=by
 have h1:=heap_setCell_same w g 0 _ _ (.bool s') h;have h2:=heap_setCell_same _ g 1 _ _ (.slice A2 n' c2) h1;have k1:AF (w.setCell ⟨g,0,none⟩<|.bool s') g:=AF.FR h1 (λi x=>by rcases i with _|_|_|i<;>simp);have k2:AF ((w.setCell ⟨g,0,none⟩<|.bool s').setCell ⟨g,1,none⟩<|.slice A2 n' c2) g:=AF.FR h2 (λi x=>by rcases i with _|_|_|i<;>simp);exact((hs.zO h.oe _).zO k1 _).zO k2 _
def jO.tV{w0:World}(hb:iY w0 w)(hg:w0.heap.size<=g)(s':Bool)(A':Option Addr)(n' c':Nat)(e':Int):
 iY w0 (((w.setCell ⟨g,0,none⟩<|.bool s').setCell ⟨g,1,none⟩<|.slice A' n' c').setCell ⟨g,2,none⟩<|.int .i64 e'):=
 ((hb.setCell hg _).setCell hg _).setCell hg _
end
def WV:(prog.info? 31).map (·.size)=some 3:= aM 
section
variable{fn:Func}
def aqA{p:Tmp}(h:fn.results = #[.cell p 31])(tmps:Array Value){w:World}{g n c:Nat}{s:Bool}{A:Option Addr}{e:Int}
 (hp:tmps.getD p undef = .pointer (some ⟨g,0,none⟩)) (hb:jO w g s A n c e):
 (results fn tmps).run prog w = .ok (.agg #[.bool s,.slice A n c,.int .i64 e]) w:=
 results_cell_row h tmps w g _ _ _ _ hp hb underlying31 rfl WV
def aqB{p t:Tmp}(h:fn.results = #[.cell p 31,.tmp t])(tmps:Array Value){w:World}{g n c:Nat}{s:Bool}{A:Option Addr}{e:Int}
 (hp:tmps.getD p undef = .pointer (some ⟨g,0,none⟩)) (hb:jO w g s A n c e):
 (results fn tmps).run prog w = .ok (.tuple #[.agg #[.bool s,.slice A n c,.int .i64 e],tmps.getD t undef]) w:=by
 have YS:tmps[p]?.getD undef = .pointer (some ⟨g,0,none⟩):=by simpa using hp
 simp[results,h,YS,asAddr,run_loadVar_row w g _ _ _ _ _ hb underlying31 rfl WV]
def uc{p:Tmp}(h:fn.results = #[.cell p 31]){a:Act}{w W:World}{d:Dy}{g:Nat}{A:Option Addr}{c n:Nat}
 (hp:a.tmps.getD p undef = .pointer (some ⟨g,0,none⟩)) (hd:a.defers=[]) (hb:jO W g d.neg A n c d.e) (hn:n=(iB d.m).length) (hs:Sl W A c<|iB d.m) (he:iY w W):
 bodyPost prog fn (vv w d) .ret a W:=by
 subst hn;exact bodyPost_ret (aqA h _ hp hb) hd ⟨A,c,rfl,hs,he⟩
def EX{p t:Tmp}(h:fn.results = #[.cell p 31,.tmp t]){a:Act}{w W:World}{d:Dy}{k:Int}{g:Nat}{A:Option Addr}{c n:Nat}
 (hp:a.tmps.getD p undef = .pointer (some ⟨g,0,none⟩)) (ht:a.tmps.getD t undef = .int .i64 k) (hd:a.defers=[]) (hb:jO W g d.neg A n c d.e) (hn:n=(iB d.m).length) (hs:Sl W A c<|iB d.m) (he:iY w W):
 bodyPost prog fn (AG w d k) .ret a W:=by
 subst hn;exact bodyPost_ret ((aqB h _ hp hb).trans<|by rw[ht]) hd ⟨A,c,rfl,hs,he⟩
end
open Go.ChangeShapes Go.WideShapes Go.ChangeAt
def own:ownKnob prog.godebug=none:= aM 
def I2:laidOutB prog=true:= aM 
def XU:prog.globalNamed "math/bits.deBruijn32tab" = some 0:= aM 
def ajO:(prog.globals[0]?).map (·.type)=some 196:= aM 
def ahm:prog.cellsOf 196=32:= aM 
def ahl:prog.cellsOf 5=1:= aM 
def asa {l:List<|String×DataW Unit} (hl:l=[("math/bits.deBruijn32tab", Rows.laid_math_bits_deBruijn32tab)]) {W:World} (h:laidMet prog l W):Tb W:=by
 subst hl;have ht:Lib.TabIs prog W "math/bits.deBruijn32tab" .u8<|Lib.deBruijn32tab.map λ(n:Nat)=>(n:Int):=
  Lib.tabIs_of_head (rest:=[]) XU ajO underlying196 underlying5 ahl ahm h
 intro j hj;have:=ht.cell XU j (by simpa using hj);rw[this];simp[bJ];rw[bS hj];simp
noncomputable def RB(os:Os)(args:Array Value):World:=
 {World.holding prog os ⟨#[],args,[]⟩with heap:=(World.holding prog os ⟨#[],args,[]⟩).heap.modify 0 fun
   | .cells _ t frozen=>.cells (Lib.deBruijn32tab.map λ(n:Nat)=>Value.int .u8 (n:Int)).toArray t frozen
   |o=>o }
end Go.Proofs.YtbbefgegdllpmaaGreatDoor
namespace Go.Proofs.YtbbefgegdllpmaaGreatDoor.Pu
open Go.RowKit
inductive E where
 |any
 |v (x:Value)
 |agg (l:List E)
 |iK (l:List E)
 |sl (nl:Bool) (n sz:Nat) (el:Nat->Nat->E)
 |ky (m:Nat) (el:Nat->E)
 |fn (f:FuncId) (cap:List E)
 |mp (l:List<|Int×FuncId×List FuncId)
 |py (fl nl:Bool) (n sz:Nat) (el:Nat->Nat->E)
def sw:Value->Bool
 | .int .u32 _=>true
 |_=>false
def E.nr:Nat->E->Bool
 |_,.any=>true
 |_,.v _=>true
 |_,.sl ..=>true
 |_,.mp _=>true
 |d+1,.agg l=>l.all<|E.nr d
 |d+1,.iK l=>l.all<|E.nr d
 |d+1,.fn _ l=>l.all<|E.nr d
 |_,_=>false
def CW(bs:Nat->Prop)(w:World):List (Int×FuncId×List FuncId)->List MapEntry->Prop
 | [],[]=>True
 |x::l,e::es=>(e.key = .int .i64 x.1/\∃ vs:List Value,e.val = .func (.func x.2.1) #[] vs.toArray/\vs.length=x.2.2.length /\
  ∀ (i:Nat) (g:FuncId) (v:Value),x.2.2[i]? = some g->vs[i]? = some v->∃ b,v = .pointer (some ⟨b,0,none⟩)/\¬bs b/\b<w.heap.size/\w.cell? ⟨b,0,none⟩=some (.func (.func g) #[] #[]))/\CW bs w l es
 |_,_=>False
def CW.mono{bs bs':Nat->Prop}{w w':World}(lJ:w.heap.size<=w'.heap.size)(h1:∀ b,b<w.heap.size->bs' b->bs b)(hc:∀ b,b<w.heap.size->¬bs b->w'.heap[b]? = w.heap[b]?):
 ∀ {l:List<|Int×FuncId×List FuncId} {es:List MapEntry},CW bs w l es->CW bs' w' l es
 | [],[],_=>trivial
 | [],_::_,h=>h
 |_::_,[],h=>h
 |_::_,_::_,⟨⟨k1,vs,k2,k3,k4⟩,h⟩=>⟨⟨k1,vs,k2,k3,λi g v hg hv=>by
  obtain⟨b,q1,q2,q3,q4⟩:=k4 i g v hg hv;exact⟨b,q1,λx=>q2<|h1 b q3 x,cg q3 lJ,by rw[World.cell?_of_block (w:=w)<|hc b q3 q2];exact q4⟩⟩,CW.mono lJ h1 hc h⟩
inductive jd(bs br:Nat->Prop)(w:World):E->Value->Prop
 |any (x:Value):jd bs br w .any x
 |v (x:Value):jd bs br w (.v x) x
 |agg (l:List E) (vs:List Value) (h:vs.length=l.length) (k:∀ (i:Nat) (p:E) (x:Value),l[i]? = some p->vs[i]? = some x->jd bs br w p x):jd bs br w (.agg l)<|.agg vs.toArray
 |iK (l:List E) (vs:List Value) (h:vs.length=l.length) (k:∀ (i:Nat) (p:E) (x:Value),l[i]? = some p->vs[i]? = some x->jd bs br w p x):jd bs br w (.iK l)<|.tuple vs.toArray
 |sl (nl:Bool) (n sz:Nat) (el:Nat->Nat->E) (A:Option Addr) (c:Nat) (f:Nat->Nat->Value) (hc:n<=c) (hm:c<=9223372036854775807) (h0:A=none->c=0)
  (hl:∀ i j,i<n->j<sz->(f i j).oneCell'=true/\(nl=true->sw (f i j)=false))
  (hr:∀ i j,i<n->j<sz->(el i j).nr 2=true)
  (cell:∀ i j,i<n->j<sz->∃ b o,A=some ⟨b,o,none⟩/\¬bs b/\b<w.heap.size/\w.cell? ⟨b,o+(i*sz+j),none⟩=some (f i j))
  (k:∀ i j,i<n->j<sz->jd bs br w (el i j) (f i j)):jd bs br w (.sl nl n sz el)<|.slice A n c
 |ky (m:Nat) (el:Nat->E) (b o:Nat) (f:Nat->Value) (hb:¬br b) (je:b<w.heap.size) (hl:∀ j,j<m->(f j).oneCell'=true)
  (cell:∀ j,j<m->w.cell? ⟨b,o+j,none⟩=some (f j))
  (k:∀ j,j<m->jd bs br w (el j) (f j)):jd bs br w (.ky m el)<|.pointer<|some ⟨b,o,none⟩
 |fn (f:FuncId) (l:List E) (vs:List Value) (h:vs.length=l.length) (k:∀ (i:Nat) (p:E) (x:Value),l[i]? = some p->vs[i]? = some x->jd bs br w p x):jd bs br w (.fn f l)<|.func (.func f) #[] vs.toArray
 |mp (l:List<|Int×FuncId×List FuncId) (b clk:Nat) (es:Array MapEntry) (hb:¬bs b) (je:b<w.heap.size) (hh:w.heap[b]? = some (.map es clk)) (ho:CW bs w l es.toList):jd bs br w (.mp l)<|.map<|some b
 |py (fl nl:Bool) (n sz:Nat) (el:Nat->Nat->E) (A:Option Addr) (c:Nat) (f:Nat->Nat->Value) (hc:n<=c) (hm:c<=9223372036854775807) (h0:A=none->c=0)
  (hl:∀ i j,i<n->j<sz->(f i j).oneCell'=true/\(nl=true->sw (f i j)=false))
  (hr:fl=true->∀ i j,i<n->j<sz->(el i j).nr 2=true)
  (cell:∀ i j,i<n->j<sz->∃ b o,A=some ⟨b,o,none⟩/\¬br b/\b<w.heap.size/\w.cell? ⟨b,o+(i*sz+j),none⟩=some (f i j))
  (k:∀ i j,i<n->j<sz->jd bs br w (el i j) (f i j)):jd bs br w (.py fl nl n sz el)<|.slice A n c
def jd.mono{bs br bs' br':Nat->Prop}{w w':World}(lJ:w.heap.size<=w'.heap.size)
 (h1:∀ b,b<w.heap.size->bs' b->bs b) (h2:∀ b,b<w.heap.size->br' b->br b)
 (hc:∀ b,b<w.heap.size->(¬bs b\/¬br b)->w'.heap[b]? = w.heap[b]?)
 {e:E} {v:Value} (h:jd bs br w e v):jd bs' br' w' e v:=by
 induction h with
 |any x=>exact .any x
 |v x=>exact .v x
 |agg l vs h k ih=>exact .agg l vs h ih
 |iK l vs h k ih=>exact .iK l vs h ih
 |sl nl n sz el A c f hn hm h0 hl hr cell k ih=>
  refine .sl nl n sz el A c f hn hm h0 hl hr (λi j hi hj=>?_) ih;obtain⟨b,o,e,hb,je,ln⟩:=cell i j hi hj;exact⟨b,o,e,λhx=>hb<|h1 b je hx,cg je lJ,by rw[World.cell?_of_block (w:=w)<|hc b je<|.inl hb];exact ln⟩
 |ky m el b o f hb je hl cell k ih=>
  exact .ky m el b o f (λhx=>hb<|h2 b je hx) (cg je lJ) hl (λj hj=>by rw[World.cell?_of_block (w:=w)<|hc b je<|.inr hb];exact cell j hj) ih
 |fn f l vs h k ih=>exact .fn f l vs h ih
 |mp l b clk es hb je hh ho=>exact .mp l b clk es (λx=>hb<|h1 b je x) (cg je lJ) (by rw[hc b je<|.inl hb];exact hh)<|ho.mono lJ h1 λb je hb=>hc b je<|.inl hb
 |py fl nl n sz el A c f hn hm h0 hl hr cell k ih=>
  refine .py fl nl n sz el A c f hn hm h0 hl hr (λi j hi hj=>?_) ih;obtain⟨b,o,e,hb,je,ln⟩:=cell i j hi hj;exact⟨b,o,e,λhx=>hb<|h2 b je hx,cg je lJ,by rw[World.cell?_of_block (w:=w)<|hc b je<|.inr hb];exact ln⟩
def jd.rf{bs br bs' br':Nat->Prop}{w:World}(h1:∀ b,bs' b->bs b)(h2:∀ b,br' b->br b){e:E}{v:Value}(h:jd bs br w e v):jd bs' br' w e v:=
 h.mono (bB _) (λb _=>h1 b) (λb _=>h2 b) (λ_ _ _=>rfl)
def E.plain:Nat->E->Bool
 |_,.any=>true
 |_,.v _=>true
 |d+1,.agg l=>l.all<|E.plain d
 |d+1,.iK l=>l.all<|E.plain d
 |_,_=>false
def jd.plain{bs br bs' br':Nat->Prop}{w w':World}{e:E}{v:Value}(h:jd bs br w e v):∀ d,e.plain d=true->jd bs' br' w' e v:=by
 induction h with
 |any x=>exact λ_ _=>.any x
 |v x=>exact λ_ _=>.v x
 |agg l vs h k ih=>
  intro d hd;cases d with
  |zero=>simp[E.plain]at hd
  |succ d=>
   simp only[E.plain,cL]at hd;exact .agg l vs h λi p x hp hx=>ih i p x hp hx d<|hd p<|fc hp
 |iK l vs h k ih=>
  intro d hd;cases d with
  |zero=>simp[E.plain]at hd
  |succ d=>
   simp only[E.plain,cL]at hd;exact .iK l vs h λi p x hp hx=>ih i p x hp hx d<|hd p<|fc hp
 |sl=>intro d hd;cases d<;>simp[E.plain]at hd
 |ky=>intro d hd;cases d<;>simp[E.plain]at hd
 |fn=>intro d hd;cases d<;>simp[E.plain]at hd
 |mp=>intro d hd;cases d<;>simp[E.plain]at hd
 |py=>intro d hd;cases d<;>simp[E.plain]at hd
def jd.nr{bs br br':Nat->Prop}{w:World}{e:E}{v:Value}(h:jd bs br w e v):∀ d,e.nr d=true->jd bs br' w e v:=by
 induction h with
 |any x=>exact λ_ _=>.any x
 |v x=>exact λ_ _=>.v x
 |agg l vs h k ih=>
  intro d hd;cases d with
  |zero=>simp[E.nr]at hd
  |succ d=>
   simp only[E.nr,cL]at hd;exact .agg l vs h λi p x hp hx=>ih i p x hp hx d<|hd p<|fc hp
 |iK l vs h k ih=>
  intro d hd;cases d with
  |zero=>simp[E.nr]at hd
  |succ d=>
   simp only[E.nr,cL]at hd;exact .iK l vs h λi p x hp hx=>ih i p x hp hx d<|hd p<|fc hp
 |fn f l vs h k ih=>
  intro d hd;cases d with
  |zero=>simp[E.nr]at hd
  |succ d=>
   simp only[E.nr,cL]at hd;exact .fn f l vs h λi p x hp hx=>ih i p x hp hx d<|hd p<|fc hp
 |ky=>intro d hd;cases d<;>simp[E.nr]at hd
 |py=>intro d hd;cases d<;>simp[E.nr]at hd
 |mp l b clk es hb je hh ho=>exact λ_ _=>.mp l b clk es hb je hh ho
 |sl nl n sz el A c f hn hm h0 hl hr cell k ih=>
  exact λ_ _=>.sl nl n sz el A c f hn hm h0 hl hr cell λi j hi hj=>ih i j hi hj 2<|hr i j hi hj
def E.one:E->Bool
 | .v x=>x.oneCell'
 | .sl ..=>true
 | .ky ..=>true
 | .fn ..=>true
 |_=>false
def E.oe:E->Bool
 | .v x=>!sw x
 | .sl ..=>true
 | .ky ..=>true
 | .fn ..=>true
 |_=>false
def jd.one{bs br:Nat->Prop}{w:World}{e:E}{v:Value}(h:jd bs br w e v)(h1:e.one=true):v.oneCell'=true:=by
 cases h<;>first|exact h1|rfl|(simp[E.one]at h1)
def jd.oe{bs br:Nat->Prop}{w:World}{e:E}{v:Value}(h:jd bs br w e v)(h1:e.oe=true):sw v=false:=by
 cases h with
 |v=>unfold E.oe at h1;cases hb:sw v<;>simp_all
 |any=>cases h1
 |agg=>cases h1
 |iK=>cases h1
 |sl=>rfl
 |ky=>rfl
 |fn=>rfl
 |mp=>cases h1
 |py=>cases h1
structure kR(bs br:Nat->Prop)(w:World)(l:List E)(vs:List Value):Prop where
 len:vs.length=l.length
 mc:∀ (i:Nat) (p:E) (x:Value),l[i]? = some p->vs[i]? = some x->jd bs br w p x
def kR.nil(bs br:Nat->Prop)(w:World):kR bs br w [] []:=⟨rfl,λi p x h=>by simp at h⟩
section
variable{bs br:Nat->Prop}{w:World}
section
variable{p:E}{x:Value}{l:List E}{vs:List Value}
def kR.cons(h:jd bs br w p x)(k:kR bs br w l vs):kR bs br w (p::l)<|x::vs:=
 ⟨by simp[k.len],λi q y hq hy=>by
  cases i with
  |zero=>simp at hq hy;subst hq hy;exact h
  |succ i=>simp at hq hy;exact k.mc i q y hq hy⟩
section
variable(h:kR bs br w (p::l)<|x::vs)
def kR.head:jd bs br w p x:=h.mc 0 p x rfl rfl
def kR.tail:kR bs br w l vs:=
 ⟨by have:=h.len;simpa using this,λi q y hq hy=>h.mc (i+1) q y (by simpa using hq)<|by simpa using hy⟩
end
end
def kR.nc{p:E}{l:List E}{vs:List Value}(h:kR bs br w (p::l) vs):∃ x ys,vs=x::ys/\jd bs br w p x/\kR bs br w l ys:=by
 cases vs with
 |nil=>have:=h.len;simp at this
 |cons x ys=>exact⟨x,ys,rfl,h.head,h.tail⟩
def kR.rz{vs:List Value}(h:kR bs br w [] vs):vs=[]:=dZ h.len
end
def kR.mono{bs br bs' br':Nat->Prop}{w w':World}{l:List E}{vs:List Value}(h:kR bs br w l vs)(k:∀ e v,jd bs br w e v->jd bs' br' w' e v):kR bs' br' w' l vs:=
 ⟨h.len,λi p x hp hx=>k _ _<|h.mc i p x hp hx⟩
def kR.take{bs br:Nat->Prop}{w:World}{l:List E}{vs:List Value}(h:kR bs br w l vs)(n:Nat):kR bs br w (l.take n)<|vs.take n:=
 ⟨by simp[h.len],λi p x hp hx=>by
  rw[fC]at hp hx;split at hp
  .rename_i hi;rw[bA hi]at hx;exact h.mc i p x hp hx
  .cases hp⟩
def kR.drop{bs br:Nat->Prop}{w:World}{l:List E}{vs:List Value}(h:kR bs br w l vs)(n:Nat):kR bs br w (l.drop n)<|vs.drop n:=
 ⟨by simp[h.len],λi p x hp hx=>by
  rw[fD]at hp hx;exact h.mc _ p x hp hx⟩
def kR.app{bs br:Nat->Prop}{w:World}{l m:List E}{vs us:List Value}(h:kR bs br w l vs)(k:kR bs br w m us):kR bs br w (l++m)<|vs++us:=
 ⟨by simp[h.len,k.len],λi p x hp hx=>by
  rw[gz]at hp hx;rw[h.len]at hx;split at hp
  .rename_i hi;rw[bA hi]at hx;exact h.mc i p x hp hx
  .rename_i hi;rw[bw hi]at hx;exact k.mc _ p x hp hx⟩
def kR.ahz(bs br:Nat->Prop)(w:World)(vs:List Value):kR bs br w (vs.map .v) vs:=
 ⟨aP,λi p x hp hx=>by
  rw[dA,hx]at hp;simp at hp;subst hp;exact .v x⟩
section
variable{bs br:Nat->Prop}{w:World}
def jd.GK{l:List E}{v:Value}(h:jd bs br w (.agg l) v):∃ vs:List Value,v = .agg vs.toArray/\kR bs br w l vs:=by
 cases h with
 |agg _ vs h k=>exact⟨vs,rfl,h,k⟩
def jd.adI{l:List E}{v:Value}(h:jd bs br w (.iK l) v):∃ vs:List Value,v = .tuple vs.toArray/\kR bs br w l vs:=by
 cases h with
 |iK _ vs h k=>exact⟨vs,rfl,h,k⟩
def jd.lh{x v:Value}(h:jd bs br w (.v x) v):v=x:=by cases h;rfl
def jd.XO{f:FuncId}{l:List E}{v:Value}(h:jd bs br w (.fn f l) v):∃ vs:List Value,v = .func (.func f) #[] vs.toArray/\kR bs br w l vs:=by
 cases h with
 |fn _ _ vs h k=>exact⟨vs,rfl,h,k⟩
end
def kR.agg{bs br:Nat->Prop}{w:World}{l:List E}{vs:List Value}(h:kR bs br w l vs):jd bs br w (.agg l)<|.agg vs.toArray:=.agg l vs h.len h.mc
def kR.iK{bs br:Nat->Prop}{w:World}{l:List E}{vs:List Value}(h:kR bs br w l vs):jd bs br w (.iK l)<|.tuple vs.toArray:=.iK l vs h.len h.mc
def E.cells?:E->Option (List E)
 | .agg l=>if l.all E.one then some l else none
 | .v (.agg cs)=>if cs.toList.all Value.oneCell' then some (cs.toList.map .v)else none
 | .v x=>if x.oneCell' then some [.v x]else none
 | .sl nl n sz el=>some [.sl nl n sz el]
 | .ky m el=>some [.ky m el]
 | .fn f c=>some [.fn f c]
 |_=>none
def jd.cells{bs br:Nat->Prop}{w:World}{e:E}{v:Value}(h:jd bs br w e v){l:List E}(hl:e.cells? = some l):
 kR bs br w l v.cells.toList/\∀ u ∈ v.cells.toList,u.oneCell'=true:=by
 have single:∀ {e:E} {v:Value},jd bs br w e v->v.oneCell'=true->v.cells = #[v]->kR bs br w [e] v.cells.toList/\∀ u ∈ v.cells.toList,u.oneCell'=true:=by
  intro e v h h1 hc;rw[hc];exact⟨.cons h<|.nil _ _ _,by simpa using h1⟩
 cases h with
 |any x=>simp[E.cells?]at hl
 |v=>
  by_cases ha:∃ cs,v = .agg cs
  .obtain ⟨cs,rfl⟩:=ha;simp only[E.cells?]at hl;split at hl
   .rename_i h1;cases hl;exact⟨kR.ahz _ _ _ _,λu hu=>cL.1 h1 u hu⟩
   .cases hl
  .have hx:(E.v v).cells? = if v.oneCell' then some [.v v]else none:=by
    cases v<;>first|rfl|exact absurd ⟨_,rfl⟩ ha
   rw[hx]at hl;split at hl
   .rename_i h1;cases hl;exact single (.v v) h1<|by cases v<;>first|rfl|exact absurd ⟨_,rfl⟩ ha
   .cases hl
 |agg l vs h k=>
  simp only[E.cells?]at hl;split at hl
  .rename_i h1;cases hl;refine⟨⟨h,k⟩,?_⟩;intro u hu;obtain⟨i,hi⟩:=ej.1 hu;have Iq:i<l.length:=by
    obtain⟨hi,_⟩:=cP.1 hi;simp[Value.cells]at hi;omega
   exact(k i _ u (bS Iq)<|by simpa[Value.cells]using hi).one<|cL.1 h1 _<|dI Iq
  .cases hl
 |iK=>simp[E.cells?]at hl
 |mp=>simp[E.cells?]at hl
 |py=>simp[E.cells?]at hl
 |sl nl n sz el A c f hc hm h0 qm hr cell k=>simp only[E.cells?]at hl;cases hl;exact single (.sl nl n sz el A c f hc hm h0 qm hr cell k) rfl rfl
 |ky m el b o f hb je qm cell k=>simp only[E.cells?]at hl;cases hl;exact single (.ky m el b o f hb je qm cell k) rfl rfl
 |fn f l' vs h k=>simp only[E.cells?]at hl;cases hl;exact single (.fn f l' vs h k) rfl rfl
structure TI where
 id:TypeId
 d:TypeDesc
 i:TypeInfo
def ni(P:Program)(T:List TI):Prop:=∀ x,x ∈ T->P.underlying x.id=some x.d/\P.info? x.id=some x.i
def nB:List TI->TypeId->Option TI
 | [],_=>none
 |x::l,t=>if Nat.beq x.id t then some x else nB l t
def yF(T:List TI)(t:TypeId):Option TypeDesc:=match nB T t with
 |some x=>some x.d
 |none=>none
def TI.isAgg(x:TI):Bool:=match x.d with
 | .struct _ | .array _ _=>true
 |_=>false
inductive CV where
 |e (x:E)
 |box (id:Nat)
 |row (id:Nat)
inductive PV where
 |e (x:E)
 |box (id off:Nat)
 |own (id:Nat)
 |oW (id sz i j:Nat)
 |ji (id k:Nat)
 |rV (id sz k i j:Nat)
 |qb (f:FuncId) (cap:List CV)
def CV.mN:CV->List Nat
 | .e _=>[]
 | .box id=>[id]
 | .row id=>[id]
def PV.mN:PV->List Nat
 | .e _=>[]
 | .box id _ | .own id | .oW id _ _ _ | .ji id _ | .rV id _ _ _ _=>[id]
 | .qb _ cap=>cap.flatMap CV.mN
inductive Bx where
 |cells (T:TypeId) (l:List E)
 |row (nl:Bool) (T:TypeId) (n sz:Nat) (el:Nat->Nat->E)
 |nL (nl:Bool) (T1 T0:TypeId) (n sz:Nat) (len:Nat->Nat) (el:Nat->Nat->Nat->E) (pend:Option Nat)
def Bx.nl:Bx->Bool
 | .cells _ l=>l.all E.oe
 | .row nl ..=>nl
 | .nL nl ..=>nl
structure PS where
 n:Nat
 nl:Bool
 t:List<|Nat×PV
 b:List<|Nat×Bx
def look{α:Type}:List (Nat×α)->Nat->Option α
 | [],_=>none
 | (k,x)::l,t=>if Nat.beq k t then some x else look l t
def PS.get(σ:PS)(t:Nat):PV:=(look σ.t t).getD<|.e .any
def PS.bo(σ:PS)(id:Nat):Option Bx:=look σ.b id
def PS.op(σ:PS):Operand->PV
 | .tmp t=>σ.get t
 | .const v=>.e<|.v v
 | .global g=>.e<|.v<|.pointer<|some ⟨g,0,none⟩
 | .func f=>.e<|.fn f []
inductive rH where
 |none
 |new (id:Nat) (b:Bx)
 |xA (id:Nat) (b:Bx)
 |su (id:Nat) (b:Bx)
 |w8 (id:Nat) (b:Bx)
 |fin (id:Nat)
 |sy (id r:Nat) (b:Bx)
 |CG (id:Nat) (b:Bx)
structure lq where
 r:PV
 f:rH:=.none
 rb:List Nat:=[]
 jX:List Prop:=[]
 rd:List PV:=[]
def CV.IV(id:Nat):CV->Bool
 | .row i=>Nat.beq i id
 |_=>false
def PV.nX:rH->PV->PV
 | .su id _,.own i=>if Nat.beq i id then .e .any else .own i
 | .su id _,.oW i s x j=>if Nat.beq i id then .e .any else .oW i s x j
 | .su id _,.qb f cap=>if cap.any (CV.IV id)then .e .any else .qb f cap
 | .w8 id _,.ji i k=>if Nat.beq i id then .e .any else .ji i k
 | .w8 id _,.rV i s k x j=>if Nat.beq i id then .e .any else .rV i s k x j
 | .fin id,p=>if p.mN.any (Nat.beq id)then .e .any else p
 | .CG id _,p=>if p.mN.any (Nat.beq id)then .e .any else p
 | .sy id r _,.box i off=>if Nat.beq i id then(if Nat.beq off 0 then .oW id 1 0 0 else .e .any)else if Nat.beq i r then .e .any else .box i off
 | .sy id r _,p=>if p.mN.any (λx=>Nat.beq id x||Nat.beq r x)then .e .any else p
 |_,p=>p
def vo(l:List<|Nat×Bx)(id:Nat)(b:Bx):List<|Nat×Bx:=(id,b)::l.filter λx=>!Nat.beq x.1 id
def rH.OM:rH->List (Nat×Bx)->List (Nat×Bx)
 | .none,l=>l
 | .new id b,l | .xA id b,l | .su id b,l | .w8 id b,l | .CG id b,l=>vo l id b
 | .fin id,l=>l.filter λx=>!Nat.beq x.1 id
 | .sy id r b,l=>vo (l.filter λx=>!Nat.beq x.1 r) id b
def rH.NC:rH->Bool
 | .su .. | .w8 .. | .fin .. | .sy .. | .CG ..=>true
 |_=>false
def PS.oL(σ:PS)(f:rH):PS:={ σ with t:=if f.NC then σ.t.map λx=>(x.1,x.2.nX f)else σ.t,b:=f.OM σ.b }
def PS.put(σ:PS)(d:Option Tmp)(p:PV):PS:=match d with
 |some d=>{ σ with t:=(d,p)::σ.t.filter λx=>!Nat.beq x.1 d }
 |none=>σ
def ny:IntKind->Int->Prop
 | .i8,z=>-128<=z/\z<=127
 | .i16,z=>-32768<=z/\z<=32767
 | .i32,z=>-2147483648<=z/\z<=2147483647
 | .i64,z=>-9223372036854775808<=z/\z<=9223372036854775807
 | .u8,z=>0<=z/\z<=255
 | .u16,z=>0<=z/\z<=65535
 | .u32,z=>0<=z/\z<=4294967295
 | .u64,z=>0<=z/\z<=18446744073709551615
def acH(op:BinOp)(k k':IntKind):Bool:=match op with
 | .shl=>true
 | .shr=>true
 |_=>decide (k=k')
def On(k:IntKind)(x y:Int):Int:=match k with
 | .u32=>IntKind.u32.wrap<|x+y
 |_=>x+y
def UQ(k:IntKind)(x y:Int):List Prop:=match k with
 | .u32=>[]
 |_=>[ny k<|x+y]
def Pv(op:BinOp)(k:IntKind)(x:Int)(y:Int):Option<|Value×List Prop:=match op with
 | .add=>some (.int k<|On k x y,UQ k x y)
 | .sub=>some (.int k<|x-y,[ny k<|x-y])
 | .mul=>some (.int k<|x*y,[ny k<|x*y])
 | .quo=>some (.int k<|x.tdiv y,[0<y,ny k x])
 | .rem=>some (.int k<|x.tmod y,[0<y])
 | .and=>some (.int k<|bits .and k x y,[])
 | .or=>some (.int k<|bits .or k x y,[])
 | .shl=>some (.int k<|k.wrap<|x*2^y.toNat,[0<=y/\y<=k.bits])
 | .shr=>some (.int k<|x/2^y.toNat,[0<=y/\y<=k.bits])
 | .eql=>some (.bool<|x==y,[])
 | .neq=>some (.bool<|x != y,[])
 | .lss=>some (.bool<|decide (x<y),[])
 | .leq=>some (.bool<|decide (x<=y),[])
 | .gtr=>some (.bool<|decide (y<x),[])
 | .geq=>some (.bool<|decide (y<=x),[])
 |_=>none
def PS.read(σ:PS)(p:PV)(m:Nat):Option<|List E×List Nat×List Prop:=match p with
 | .box id off=>match σ.bo id with
  |some (.cells _ l)=>if Nat.ble (off+m) l.length then some ((l.drop off).take m,[id],[])else none
  |_=>none
 | .oW id sz i j=>match σ.bo id with
  |some (.row _ _ n s el)=>if Nat.beq s sz&&Nat.ble (j+m) sz then some ((List.range m).map λq=>el i<|j+q,[id],[i<n])else none
  |_=>none
 | .rV id sz k i j=>match σ.bo id with
  |some (.nL _ _ _ n s len el _)=>if Nat.beq s sz&&Nat.ble (j+m) sz then some ((List.range m).map λq=>el k i<|j+q,[id],[k<n,i<len k])else none
  |_=>none
 | .e (.ky k el)=>if Nat.ble m k then some ((List.range m).map el,[],[])else none
 |_=>none
def CV.ext(σ:PS):CV->Option (E×List Nat)
 | .e x=>some (x,[])
 | .box id=>match σ.bo id with
  |some (.cells _ l)=>some (.ky l.length λj=>l.getD j .any,[id])
  |_=>none
 | .row id=>match σ.bo id with
  |some (.nL nl _ _ n sz len el none)=>if Nat.beq n 1 then some (.ky 1 λ_=>.sl nl (len 0) sz<|el 0,[id])else none
  |_=>none
def CV.IU:CV->Bool
 | .row _=>true
 |_=>false
def wY(σ:PS):List CV->Option (List E×List Nat)
 | []=>some ([],[])
 |c::l=>match c.ext σ,wY σ l with
  |some (x,i),some (xs,is)=>some (x::xs,i++is)
  |_,_=>none
def PV.yc(σ:PS):PV->Bool
 | .own id=>match σ.bo id with
  |some (.nL ..)=>false
  |_=>true
 | .ji _ _=>true
 | .qb _ cap=>cap.any CV.IU
 |_=>false
def PV.ext(σ:PS):PV->Option (E×List Nat)
 | .e x=>some (x,[])
 | .own id=>match σ.bo id with
  |some (.row nl _ n sz el)=>some (.sl nl n sz el,[id])
  |some (.nL nl _ _ n sz len el none)=>some (.py false true n 1 λk _=>.py true nl (len k) sz<|el k,[id])
  |_=>none
 | .box id 0=>match σ.bo id with
  |some (.cells _ l)=>some (.ky l.length λj=>l.getD j .any,[id])
  |_=>none
 | .ji id k=>match σ.bo id with
  |some (.nL nl _ _ n sz len el none)=>if Nat.blt k n then some (.sl nl (len k) sz<|el k,[id])else none
  |_=>none
 | .qb f cap=>match wY σ cap with
  |some (xs,is)=>some (.fn f xs,is)
  |none=>none
 |_=>none
def vG(σ:PS):List Operand->Option (List E×List Nat)
 | []=>some ([],[])
 |o::l=>match(σ.op o).ext σ,vG σ l with
  |some (x,i),some (xs,is)=>some (x::xs,i++is)
  |_,_=>none
def yD:List PV->Option (List CV)
 | []=>some []
 | .e x::l=>(yD l).map (.e x :: ·)
 | .box id 0::l=>(yD l).map (.box id :: ·)
 | .oW id sz i j::l=>if Nat.beq sz 1&&Nat.beq i 0&&Nat.beq j 0 then(yD l).map (.row id :: ·)else none
 |_::_=>none
def pN(w:World)(b:Nat):Prop:=∀ o x,w.cell? ⟨b,o,none⟩≠some (.int .u32 x)
structure PC(P:Program)(K:World->Prop)(f:FuncId)(args:List E)(jQ:E):Prop where
 call:∀ (vs:Array Value) (w:World),(callFunc f vs).run P w = .ok (.enter f vs) w
 run:∀ (w:World) (B:Nat->Prop) (vs:List Value),K w->(∀ b,B b->b<w.heap.size/\pN w b)->kR B (λ_=>False) w args vs ->
  Calls P f vs.toArray w (λe w'=>∃ v,e = .returned v/\Below w.heap.size w w'/\jd B (λ_=>True) w' jQ v)
structure CY(P:Program)(K:World->Prop)(f:FuncId)(args:List E)(jQ:E):Prop where
 call:∀ (vs:Array Value) (w:World),(callFunc f vs).run P w = .ok (.enter f vs) w
 run:∀ (w:World) (B:Nat->Prop) (vs:List Value),K w->(∀ b,B b->b<w.heap.size)->kR B (λ_=>False) w args vs ->
  Calls P f vs.toArray w (λe w'=>∃ v,e = .returned v/\Below w.heap.size w w'/\jd B (λ_=>True) w' jQ v)
def CY.pc{P:Program}{K:World->Prop}{f:FuncId}{args:List E}{jQ:E}(h:CY P K f args jQ):PC P K f args jQ:=
 ⟨h.call,λw B vs hK hB hr=>h.run w B vs hK (λb hb=>(hB b hb).1) hr⟩
def oH(w:World)(v:Value)(T:TypeId)(n sz:Nat)(f:Nat->Nat->Value)(nl:Bool):Prop:=
 (v = .slice none 0 0/\n=0) \/
 ∃ (b c:Nat) (cur:Array Value),v = .slice (some ⟨b,0,none⟩) n c/\w.heap[b]? = some (.cells cur T (0,0))/\n<=c/\c<=maxLen/\cur.size=c*sz /\
  (∀ i j,i<n->j<sz->cur[i*sz+j]? = some (f i j)/\(f i j).oneCell'=true)/\(nl=true->∀ u,u ∈ cur->sw u=false)
structure xI(P:Program)(K:World->Prop)(f:FuncId)(args:List E)(nl:Bool)(T:TypeId)(n sz:Nat)(el:Nat->Nat->E):Prop where
 call:∀ (vs:Array Value) (w:World),(callFunc f vs).run P w = .ok (.enter f vs) w
 run:∀ (w:World) (B:Nat->Prop) (vs:List Value),K w->(∀ b,B b->b<w.heap.size/\pN w b)->kR B (λ_=>False) w args vs ->
  Calls P f vs.toArray w (λe w'=>∃ v,e = .returned v/\Below w.heap.size w w'/\∃ g,oH w' v T n sz g nl/\(∀ x,v.ownBlock=some x->w.heap.size<=x/\x<w'.heap.size) /\
   ∀ i j,i<n->j<sz->jd (λb=>B b\/v.ownBlock=some b) (λ_=>True) w' (el i j) (g i j)/\(el i j).nr 2=true)
structure qY where
 cl:List<|Nat×E:=[]
 ov:List<|Nat×PV:=[]
 nw:List<|Nat×Bx:=[]
 gi:List<|Nat×Value:=[]
def Ju(T:List TI):List Field->Option (List<|Nat×Nat)
 | []=>some []
 |f::fs=>match nB T f.type,Ju T fs with
  |some ti,some l=>some<|(f.offset,ti.i.size)::l
  |_,_=>none
def Cw(l:List E)(off:Nat)(m:List E):List E:=l.take off++m++l.drop (off+m.length)
def tJ(σ:PS)(place:Nat->Option (Nat×Nat)):List E->List (Nat×Operand)->Option (List E)
 |l,[]=>some l
 |l,(i,x)::ps=>match place i,σ.op x with
  |some (off,size),.e e=>match e.cells? with
   |some m=>if Nat.beq m.length size&&Nat.ble (off+m.length) l.length then tJ σ place (Cw l off m) ps else none
   |none=>none
  |_,_=>none
def AD(ti:TI):Option<|List E:=match ti.i.zero with
 |some z=>(E.v z).cells?
 |none=>none
def mc{α:Type}:Nat->List α->List α
 | 0,_=>[]
 |n+1,l=>l++mc n l
def mi(P:Program)(op:BinOp)(t:TypeId)(x y:E)(v:Value):Prop:=∀ (bs br:Nat->Prop) (w:World) (a b:Value) (ox oy:Operand),jd bs br w x a->jd bs br w y b->(eqGuard op t ox oy a b).run P w = .ok () w/\(binOp op t a b).run P w = .ok v w
def ajV(O:qY)(d:Option Tmp):Option Value:=match d with
 |some d=>match look O.cl d with
  |some (.v v)=>some v
  |_=>none
 |none=>none
def ajU(O:qY)(d:Option Tmp):Option Value:=match d with
 |some d=>look O.gi d
 |none=>none
def Od(e:E):Prop:=∀ (bs bs' br:Nat->Prop) (w:World) (v:Value),(∀ x,bs' x->bs x\/pN w x)->jd bs br w e v->jd bs' br w e v
def wK(σ:PS)(d:Nat)(b:Bx):rH:=match σ.bo d with
 |none=>.new d b
 |some _=>.CG d b
def Bk(σ:PS)(d:Nat)(is:List Nat):List Nat:=match σ.bo d with
 |none=>is
 |some _=>d::is
def Uz(n sz:Nat)(el:Nat->Nat->E):Prop:=∀ i j,i<n->j<sz->Od (el i j)
def BQ(P:Program)(K:World->Prop)(O:qY)(σ:PS)(d:Option Tmp)(f:FuncId)(xs:List E)(is:List Nat)(ow:Bool):Option lq:=
 match(match d with
  |some d=>look O.cl d
  |none=>some .any)with
 |some jQ=>if jQ.plain 3||(σ.nl && !ow)then some { r:=.e jQ,rb:=is,jX:=[PC P K f xs jQ] }else if !ow then some { r:=.e jQ,rb:=is,jX:=[CY P K f xs jQ] }
  else if σ.nl then some { r:=.e jQ,rb:=is,jX:=[PC P K f xs jQ,Od jQ] }else none
 |none=>match d with
  |some d=>match look O.nw d with
   |some (.row nl T n sz el)=>if σ.nl&&nl then some { r:=.own d,f:=wK σ d<|.row nl T n sz el,rb:=Bk σ d is,jX:=xI P K f xs nl T n sz el::(if ow then[Uz n sz el]else[]) }else none
   |_=>none
  |none=>none
def Bi(σ:PS)(d:Option Tmp)(b:Bx)(r:Nat->PV)(jX:List Prop):Option lq:=match d with
 |some d=>match σ.bo d with
  |none=>if !σ.nl||b.nl then some { r:=r d,f:=.new d b,jX:=jX }else none
  |some _=>none
 |none=>none
def PV.Oy:PV->Option (Bool×Nat×Nat×(Nat->Nat->E))
 | .e (.sl nl n sz el)=>some (nl,n,sz,el)
 | .e (.py true nl n sz el)=>some (nl,n,sz,el)
 |_=>none
def Cn(σ:PS)(d:Option Tmp)(b:Bx)(r:Nat->PV):Option lq:=match d with
 |some d=>if !σ.nl||b.nl then some { r:=r d,f:=wK σ d b,rb:=Bk σ d [] }else none
 |none=>none
section
variable(T:List TI)(σ:PS)(d:Option Tmp)(t:TypeId)(s x:PV)
def BP:Option lq:=match x.Oy with
 |some (nl2,m,sz2,el2)=>match nB T t with
  |some tt=>match tt.d with
   | .slice e=>match nB T e with
    |some te=>match AD te with
     |some z=>if Nat.beq te.i.size sz2&&Nat.ble 1 sz2&&Nat.ble 1 te.i.bytes&&Nat.beq z.length sz2 then match s with
      | .own id=>match σ.bo id with
       |some (.row nl T1 n sz el)=>if Nat.beq T1 e&&Nat.beq sz sz2&&(!σ.nl||(nl&&(nl2&&z.all E.oe)))then
        some { r:=.own id,f:=.su id<|.row (nl&&(nl2&&z.all E.oe)) T1 (n+m) sz λi j=>if i<n then el i j else el2 (i-n) j,rb:=[id],jX:=[(n+m)*te.i.bytes<=140737488355328] }
        else none
       |_=>none
      | .ji id k=>match σ.bo id with
       |some (.nL nl T1 T0 n sz len el none)=>if Nat.beq T0 e&&Nat.beq sz sz2&&(!nl||(nl2&&z.all E.oe))then
        some { r:=.ji id k,f:=.w8 id<|.nL nl T1 T0 n sz (λq=>if q=k then len q+m else len q) (λq i j=>if q=k then(if i<len q then el q i j else el2 (i-len q) j)else el q i j)<|some k,rb:=[id],jX:=[k<n,(len k+m)*te.i.bytes<=140737488355328] }
        else none
       |_=>none
      | .e (.v<|.slice none 0 0)=>Bi σ d (.row (nl2&&z.all E.oe) e m sz2 el2) .own [m*te.i.bytes<=140737488355328]
      |_=>none
     else none
     |none=>none
    |none=>none
   |_=>none
  |none=>none
 |_=>none
def Dk:Option lq:=match BP T { σ with nl:=false } d t s x with
 |some u=>match u.f,u.r with
  | .su id (.row nl _ n sz el),.own id'=>if Nat.beq id' id then some { r:=.e<|.sl nl n sz el,f:=.fin id,rb:=u.rb,jX:=True::u.jX }else none
  |_,_=>none
 |none=>none
end
def PV.FV:PV->Option Nat
 | .own q=>some q
 |_=>none
def Cv(σ:PS):List (Nat×Operand)->Option Nat
 | [(0,x)]=>(σ.op x).FV
 |_=>none
section
variable(T:List TI)
def KP(t:TypeId):Option<|TypeId×Nat:=match nB T t with
 |some tt=>match tt.d with
  | .slice e=>match nB T e with
   |some te=>match AD te with
    |some [z]=>if Nat.beq te.i.size 1&&Nat.ble 1 te.i.bytes&&z.oe then some (e,te.i.bytes)else none
    |_=>none
   |none=>none
  |_=>none
 |none=>none
section
variable(σ:PS)(d:Option Tmp)(t:TypeId)
def Dm(n q:Nat):Option lq:=match d with
 |some id=>match σ.bo id,σ.bo q,KP T t with
  |none,some<|.row nl T0 m sz el,some (e,_)=>if Nat.beq n 1 && !Nat.beq id q then
   some { r:=.own id,f:=.sy id q<|.nL nl e T0 1 sz (λ_=>m) (λ_=>el) none,rb:=[id,q] }else none
  |_,_,_=>none
 |none=>none
def Dl(s:PV)(q:Nat):Option lq:=match σ.bo q,KP T t with
 |some (.nL nl2 T2 T0 m sz len2 el2 none),some (e,by_)=>match s,d with
  | .own id,_=>match σ.bo id with
   |some (.nL nl T1 T0' n sz' len el none)=>if Nat.beq T1 e&&Nat.beq T2 e&&Nat.beq T0' T0&&Nat.beq sz' sz && !Nat.beq id q then
    some { r:=.own id,f:=.sy id q<|.nL (nl&&nl2) T1 T0 (n+m) sz (λk=>if k<n then len k else len2 (k-n)) (λk=>if k<n then el k else el2 (k-n)) none,rb:=[id,q],jX:=[0<m,(n+m)*by_<=140737488355328] }else none
   |_=>none
  | .e (.v<|.slice none 0 0),some id=>match σ.bo id with
   |none=>if Nat.beq T2 e && !Nat.beq id q then
    some { r:=.own id,f:=.sy id q<|.nL nl2 T2 T0 m sz len2 el2 none,rb:=[id,q],jX:=[0<m,m*by_<=140737488355328] }else none
   |_=>none
  |_,_=>none
 |_,_=>none
end
def Xv(t:TypeId)(l c:PV):Option<|Bx×List Prop:=match l,c with
 | .e (.v<|.int _ l),.e (.v<|.int _ c)=>match nB T t with
  |some tt=>match tt.d with
   | .slice e=>match nB T e with
    |some te=>match AD te with
     |some z=>if Nat.beq te.i.size z.length&&Nat.ble 1 te.i.size then
      let jX:=[0<=l/\l<=c,(te.i.bytes:Int)*c<=281474976710656/\c<=9223372036854775807]
      match te.d with
      | .slice e0=>match nB T e0,z with
       |some t0,[.v<|.slice none 0 0]=>some (.nL true e e0 l.toNat t0.i.size (λ_=>0) (λ_ _ _=>.any) none,jX)
       |_,_=>none
      |_=>some (.row (z.all E.oe) e l.toNat te.i.size λ_ j=>z.getD j .any,jX)
      else none
     |none=>none
    |none=>none
   |_=>none
  |none=>none
 |_,_=>none
def La(σ:PS)(d:Option Tmp)(t:TypeId)(l c:PV):Option lq:=match Xv T t l c with
 |some (b,jX)=>Bi σ d b .own jX
 |none=>none
def Lb(t:TypeId)(x:PV)(lo hi:Option PV):Option lq:=match x with
 | .e (.sl nl n sz el)=>match nB T t with
  |some tt=>match tt.d with
   | .slice e=>match nB T e with
    |some te=>if Nat.beq te.i.size sz then match lo,hi with
     |none,some (.e<|.v<|.int _ h)=>some { r:=.e<|.sl nl h.toNat sz el,jX:=[0<=h/\h<=n] }
     |some (.e<|.v<|.int _ l),none=>some { r:=.e<|.sl nl (n-l.toNat) sz λi j=>el (l.toNat+i) j,jX:=[0<=l/\l<=n] }
     |some (.e<|.v<|.int _ l),some (.e<|.v<|.int _ h)=>some { r:=.e<|.sl nl (h.toNat-l.toNat) sz λi j=>el (l.toNat+i) j,jX:=[0<=l/\l<=h/\h<=n] }
     |_,_=>none
     else none
    |none=>none
   |_=>none
  |none=>none
 | .e (.py fl nl n sz el)=>match nB T t with
  |some tt=>match tt.d with
   | .slice e=>match nB T e with
    |some te=>if Nat.beq te.i.size sz then match lo,hi with
     |none,some (.e<|.v<|.int _ h)=>some { r:=.e<|.py fl nl h.toNat sz el,jX:=[0<=h/\h<=n] }
     |some (.e<|.v<|.int _ l),none=>some { r:=.e<|.py fl nl (n-l.toNat) sz λi j=>el (l.toNat+i) j,jX:=[0<=l/\l<=n] }
     |some (.e<|.v<|.int _ l),some (.e<|.v<|.int _ h)=>some { r:=.e<|.py fl nl (h.toNat-l.toNat) sz λi j=>el (l.toNat+i) j,jX:=[0<=l/\l<=h/\h<=n] }
     |_,_=>none
     else none
    |none=>none
   |_=>none
  |none=>none
 |_=>none
def K8(σ:PS)(t:TypeId)(x i:PV):Option lq:=match i with
 | .e (.v<|.int _ z)=>match nB T t with
  |some tt=>match tt.d with
   | .slice e=>match nB T e with
    |some te=>match x with
     | .e (.sl _ n sz el)=>if Nat.beq te.i.size sz&&Nat.ble 1 sz then some { r:=.e<|.ky sz<|el z.toNat,jX:=[0<=z/\z<n] }else none
     | .e (.py _ _ n sz el)=>if Nat.beq te.i.size sz&&Nat.ble 1 sz then some { r:=.e<|.ky sz<|el z.toNat,jX:=[0<=z/\z<n] }else none
     | .own id=>match σ.bo id with
      |some (.row _ _ n sz _)=>if Nat.beq te.i.size sz then some { r:=.oW id sz z.toNat 0,rb:=[id],jX:=[0<=z/\z<n] }else none
      |some (.nL _ _ _ n _ _ _ _)=>if Nat.beq te.i.size 1 then some { r:=.oW id 1 z.toNat 0,rb:=[id],jX:=[0<=z/\z<n] }else none
      |_=>none
     | .ji id k=>match σ.bo id with
      |some (.nL _ _ _ n sz len _ _)=>if Nat.beq te.i.size sz then some { r:=.rV id sz k z.toNat 0,rb:=[id],jX:=[k<n,0<=z/\z<len k] }else none
      |_=>none
     |_=>none
    |none=>none
   | .array n e=>match nB T e with
    |some te=>match x with
     | .box id off=>some { r:=.box id<|off+z.toNat*te.i.size,jX:=[0<=z/\z<n] }
     | .e (.ky m el)=>if Nat.beq (n*te.i.size) m then some { r:=.e<|.ky te.i.size λj=>el<|z.toNat*te.i.size+j,jX:=[0<=z/\z<n] }else none
     |_=>none
    |none=>none
   |_=>none
  |none=>none
 |_=>none
def Lc(σ:PS)(t:TypeId)(a x:PV):Option lq:=match nB T t with
 |some ti=>match a,x with
  | .box id off,.e e=>match σ.bo id,e.cells? with
   |some (.cells T1 l),some m=>if Nat.beq m.length ti.i.size&&Nat.ble (off+m.length) l.length&&(!σ.nl||m.all E.oe)then
    some { r:=.e .any,f:=.xA id<|.cells T1<|Cw l off m,rb:=[id] }else none
   |_,_=>none
  | .box id 0,.own q=>match σ.bo id,σ.bo q with
   |some (.cells T1 [_]),some (.row nl T0 n sz el)=>if !Nat.beq id q&&Nat.beq ti.i.size 1 then
    some { r:=.e .any,f:=.sy id q<|.nL nl T1 T0 1 sz (λ_=>n) (λ_=>el) none,rb:=[id,q] }else none
   |_,_=>none
  | .oW id sz i j,.e e=>match σ.bo id,e.cells? with
   |some (.row nl T1 n s el),some m=>if Nat.beq m.length ti.i.size&&Nat.beq s sz&&Nat.ble (j+m.length) sz&&(!nl||m.all E.oe)&&m.all (E.nr 2)then
    some { r:=.e .any,f:=.xA id<|.row nl T1 n s λi' j'=>if i'=i/\j<=j'/\j'<j+m.length then m.getD (j'-j) .any else el i' j',rb:=[id],jX:=[i<n] }else none
   |_,_=>none
  | .oW id 1 i 0,.ji id' k=>match σ.bo id with
   |some (.nL nl T1 T0 n sz len el<|some k')=>if Nat.beq id id'&&Nat.beq ti.i.size 1 then
    some { r:=.e .any,f:=.xA id<|.nL nl T1 T0 n sz len el none,rb:=[id],jX:=[i=k',k=k',k'<n] }else none
   |_=>none
  |_,_=>none
 |none=>none
end
def ud:PV->PS->Option (Value×List Nat)
 | .e (.py _ _ n _ _),_=>some (.int .i64 (n:Int),[])
 | .e (.sl _ n _ _),_=>some (.int .i64 (n:Int),[])
 | .e (.v<|.slice _ n _),_=>some (.int .i64 (n:Int),[])
 | .own id,σ=>match σ.bo id with
  |some (.row _ _ n _ _)=>some (.int .i64 (n:Int),[id])
  |some (.nL _ _ _ n _ _ _ _)=>some (.int .i64 (n:Int),[id])
  |_=>none
 | .ji id k,σ=>match σ.bo id with
  |some (.nL _ _ _ n _ len _ _)=>if Nat.blt k n then some (.int .i64 (len k:Int),[id])else none
  |_=>none
 |_,_=>none
def I8(ti:TI):Option (List E×List Nat×List Prop)->Option lq
 |some (l,is,jX)=>if ti.isAgg then some { r:=.e<|.agg l,rb:=is,jX:=jX }else match l with
  | [e]=>some { r:=.e e,rb:=is,jX:=jX }
  |_=>none
 |none=>none
def Eo(σ:PS):PV->Option (Nat×Nat×Nat)
 | .oW id sz i j=>match σ.bo id with
  |some (.nL _ _ _ n _ _ _ none)=>if Nat.beq sz 1&&Nat.beq j 0 then some (id,i,n)else none
  |_=>none
 |_=>none
def K9(T:List TI)(σ:PS)(t:TypeId)(p:PV):Option lq:=match nB T t with
 |some ti=>match Eo σ p with
  |some (id,i,n)=>if ti.isAgg then none else some { r:=.ji id i,rb:=[id],jX:=[i<n] }
  |none=>I8 ti<|σ.read p ti.i.size
 |none=>none
def Ky(O:qY):Option Tmp->Bool
 |some d=>(look O.nw d).isSome
 |none=>false
def D5:List (Int×FuncId×List FuncId)->Int->Option E
 | [],_=>none
 |x::l,z=>if x.1=z then some (.fn x.2.1<|x.2.2.map λg=>.ky 1 λ_=>.fn g [])else D5 l z
def ajT(O:qY):Option Tmp->Option E
 |some d=>look O.cl d
 |none=>none
def jT(P:Program)(K:World->Prop)(T:List TI)(O:qY)(σ:PS)(o:Oper):Option lq:=match o.op with
 | .move x=>some { r:=σ.op x }
 | .assign x=>some { r:=σ.op x }
 | .pick c a b=>match σ.op c with
  | .e (.v<|.bool true)=>some { r:=σ.op a }
  | .e (.v<|.bool false)=>some { r:=σ.op b }
  |_=>none
 | .alloc t=>match nB T t with
  |some ti=>match AD ti with
   |some z=>Cn σ o.dst (.cells t z) (.box · 0)
   |none=>none
  |none=>none
 | .box t x=>match σ.op x with
  | .e e=>match e.cells? with
   |some l=>Cn σ o.dst (.cells t l) (.box · 0)
   |none=>none
  |_=>none
 | .build t ps=>match nB T t with
  |some ti=>match AD ti with
   |some z=>match ti.d with
    | .struct fs=>match Ju T fs.toList with
     |some pl=>(tJ σ (λi=>pl[i]?) z ps.toList).map λl=>{ r:=.e<|.agg l }
     |none=>none
    | .array _ e=>match nB T e with
     |some te=>(tJ σ (λi=>some (i*te.i.size,te.i.size)) z ps.toList).map λl=>{ r:=.e<|.agg l }
     |none=>none
    |_=>none
   |none=>none
  |none=>none
 | .buildSlice t n ps=>match Cv σ ps.toList with|some q=>Dm T σ o.dst t n q|none=>match nB T t with
  |some tt=>match tt.d with
   | .slice e=>match nB T e with
    |some te=>match AD te with
     |some z=>if Nat.beq z.length te.i.size&&Nat.ble 1 te.i.size&&Nat.ble (n*te.i.size) 16777216 then
      (tJ σ (λi=>some (i*te.i.size,te.i.size)) (mc n z) ps.toList).bind λl=>
       if !(l.all<|E.nr 2)then none else if Ky O o.dst then Bi σ o.dst (.row (l.all E.oe) e n te.i.size λi j=>l.getD (i*te.i.size+j)<|.v<|.bool false) .own [True]
       else if l.all E.oe then some { r:=.e<|.sl true n te.i.size λi j=>l.getD (i*te.i.size+j)<|.v<|.bool false }
       else some { r:=.e<|.sl false n te.i.size λi j=>l.getD (i*te.i.size+j)<|.v<|.bool false }
      else none
     |none=>none
    |none=>none
   |_=>none
  |none=>none
 | .load t a=>K9 T σ t<|σ.op a
 | .store t a x=>Lc T σ t (σ.op a)<|σ.op x
 | .nilCheck x=>match σ.op x with
  | .box id off=>some { r:=.box id off }
  | .e (.ky m el)=>some { r:=.e<|.ky m el }
  | .e (.fn f c)=>some { r:=.e<|.fn f c }
  | .qb f c=>some { r:=.qb f c }
  |_=>none
 | .binOp op t x y _=>match σ.op x,σ.op y with
  | .e (.v<|.int k a),.e (.v<|.int k' b)=>
   match ajU O o.dst with
   |some v=>some { r:=.e<|.v v,jX:=[mi P op t (.v<|.int k a) (.v<|.int k' b) v] }
   |none=>if acH op k k' then(Pv op k a b).map λr=>{ r:=.e<|.v r.1,jX:=r.2 }else none
  | .e (.v<|.bool a),.e (.v<|.bool b)=>match yF T t with
   |some .bool=>match op with
    | .eql=>some { r:=.e<|.v<|.bool<|a==b }
    | .neq=>some { r:=.e<|.v<|.bool<|!(a==b) }
    |_=>none
   |_=>none
  | .e (.sl _ n _ _),.e (.v<|.slice none 0 0)=>match yF T t with
   |some (.slice _)=>match op with
    | .eql=>some { r:=.e<|.v<|.bool false,jX:=[0<n] }
    | .neq=>some { r:=.e<|.v<|.bool true,jX:=[0<n] }
    |_=>none
   |_=>none
  | .e a,.e b=>match ajV O o.dst with
   |some v=>some { r:=.e<|.v v,jX:=[mi P op t a b v] }
   |none=>none
  |_,_=>none
 | .unOp op _ x=>match op,σ.op x with
  | .not,.e (.v<|.bool b)=>some { r:=.e<|.v<|.bool<|!b }
  | .neg,.e (.v<|.int k z)=>some { r:=.e<|.v<|.int k<|0-z,jX:=[ny k<|0-z] }
  |_,_=>none
 | .convert src dst x=>match yF T dst,nB T src,σ.op x with
  |some (.int k),some _,.e (.v<|.int _ z)=>some { r:=.e<|.v<|.int k<|k.wrap z }
  |_,_,_=>none
 | .makeFunc (.func f) first cap=>if first.isEmpty then match yD (cap.toList.map σ.op)with
  |some l=>some { r:=.qb f l }
  |none=>none
  else none
 | .makeSlice t l c=>La T σ o.dst t (σ.op l)<|σ.op c
 | .slice t x lo hi none=>Lb T t (σ.op x) (lo.map σ.op)<|hi.map σ.op
 | .fieldAddr t x f=>match yF T t with
  |some (.struct fs)=>match fs[f]? with
   |some fd=>match nB T fd.type with
    |some ft=>if Nat.beq ft.i.size 0 then none else match σ.op x with
     | .box id off=>some { r:=.box id<|off+fd.offset }
     | .oW id sz i j=>some { r:=.oW id sz i<|j+fd.offset }
     | .rV id sz k i j=>some { r:=.rV id sz k i<|j+fd.offset }
     | .e (.ky m el)=>if Nat.ble fd.offset m then some { r:=.e<|.ky (m-fd.offset) λj=>el<|fd.offset+j }else none
     |_=>none
    |none=>none
   |none=>none
  |_=>none
 | .indexAddr t x i=>K8 T σ t (σ.op x)<|σ.op i
 | .index t x i=>match σ.op x,σ.op i with
  | .e (.agg l),.e (.v<|.int _ z)=>match nB T t with
   |some tt=>match tt.d with
    | .array n e=>match nB T e with
     |some te=>if te.isAgg&&Nat.beq (n*te.i.size) l.length then some { r:=.e<|.agg<|(l.drop<|z.toNat*te.i.size).take te.i.size,jX:=[0<=z/\z<n] }else none
     |none=>none
    |_=>none
   |none=>none
  |_,_=>none
 | .field t x f=>match σ.op x,yF T t with
  | .e (.agg l),some (.struct fs)=>match fs[f]? with
   |some fd=>match nB T fd.type with
    |some ft=>if ft.isAgg then none else match l[fd.offset]? with
     |some e=>some { r:=.e e }
     |none=>none
    |none=>none
   |none=>none
  |_,_=>none
 | .lookup t x i false=>match σ.op x,σ.op i,yF T t with
  | .e (.mp l),.e<|.v<|.int .i64 z,some (.map k _)=>match yF T k,ajT O o.dst with
   |some (.int .i64),some e=>some { r:=.e e,jX:=[D5 l z=some e] }
   |_,_=>none
  |_,_,_=>none
 | .extract x i=>match σ.op x with
  | .e (.iK l)=>match l[i]? with
   |some e=>some { r:=.e e }
   |none=>none
  |_=>none
 | .call c=>match c.callee with
  | .builtin .len=>match c.args.toList,c.argTypes.toList with
   | [x],[t]=>match yF T t with
    |some (.slice _)=>(ud (σ.op x) σ).map λr=>{ r:=.e<|.v r.1,rb:=r.2 }
    |_=>none
   |_,_=>none
  | .builtin .append=>match c.args.toList,c.argTypes.toList with
   | [s,x],[t,t']=>if Nat.beq t t' then(match(σ.op x).FV with|some q=>Dl T σ o.dst t (σ.op s) q|none=>if Ky O o.dst then Dk T σ o.dst t (σ.op s) (σ.op x)else BP T σ o.dst t (σ.op s) (σ.op x))else none
   |_,_=>none
  | .builtin .max=>match c.args.toList.map σ.op with
   | [.e<|.v<|.int k a,.e<|.v<|.int _ b]=>some { r:=.e<|.v<|.int k<|if b>a then b else a }
   | [.e<|.v<|.int k a,.e<|.v<|.int _ b,.e<|.v<|.int _ z]=>some { r:=.e<|.v<|.int k<|if z>(if b>a then b else a)then z else(if b>a then b else a) }
   |_=>none
  | .builtin .min=>match c.args.toList.map σ.op with
   | [.e<|.v<|.int k a,.e<|.v<|.int _ b]=>some { r:=.e<|.v<|.int k<|if b<a then b else a }
   |_=>none
  | .value f=>match σ.op f,vG σ c.args.toList with
   | .e (.fn g cap),some (xs,is)=>BQ P K O σ o.dst g (xs++cap) is<|(c.args.toList.map σ.op).any<|PV.yc σ
   | .qb g cap,some (xs,is)=>match wY σ cap with
    |some (ys,js)=>BQ P K O σ o.dst g (xs++ys) (is++js)<|(c.args.toList.map σ.op).any (PV.yc σ)||cap.any CV.IU
    |none=>none
   |_,_=>none
  |_=>none
 |_=>none
structure Lk where
 np:Nat->Prop
 own:Nat->Nat->Prop
 val:Nat->Value
 ji:Nat->Nat->Value
def j8(L:Lk)(x:Nat):Prop:=∃ id,L.own id x
def jx(B:Nat->Prop)(L:Lk)(x:Nat):Prop:=B x\/j8 L x
section
variable(bs br:Nat->Prop)(L:Lk)(w:World)
def yx:CV->Value->Prop
 | .e x,v=>jd bs br w x v
 | .box id,v=>L.np id/\∃ b,L.val id = .pointer (some ⟨b,0,none⟩)/\v = .pointer (some ⟨b,0,none⟩)
 | .row id,v=>L.np id/\∃ b n c,L.val id = .slice (some ⟨b,0,none⟩) n c/\v = .pointer (some ⟨b,0,none⟩)
def nY:PV->Value->Prop
 | .e x,v=>jd bs br w x v
 | .box id off,v=>L.np id/\∃ b,L.val id = .pointer (some ⟨b,0,none⟩)/\v = .pointer (some ⟨b,off,none⟩)
 | .own id,v=>L.np id/\v=L.val id
 | .oW id sz i j,v=>L.np id/\∃ b n c,L.val id = .slice (some ⟨b,0,none⟩) n c/\v = .pointer (some ⟨b,i*sz+j,none⟩)
 | .ji id k,v=>L.np id/\v=L.ji id k
 | .rV id sz k i j,v=>L.np id/\∃ b n c,L.ji id k = .slice (some ⟨b,0,none⟩) n c/\v = .pointer (some ⟨b,i*sz+j,none⟩)
 | .qb f cap,v=>∃ vs:List Value,v = .func (.func f) #[] vs.toArray/\vs.length=cap.length/\∀ (i:Nat) (c:CV) (x:Value),cap[i]? = some c->vs[i]? = some x->yx bs br L w c x
end
def PV.le(p q:PV):Prop:=∀ (bs br:Nat->Prop) (L:Lk) (w:World) (v:Value),nY bs br L w p v->nY bs br L w q v
abbrev aj(a b:E):Prop:=PV.le (.e a)<|.e b
def wX(P:Program)(K:World->Prop)(T:List TI)(O:qY)(σ:PS)(o:Oper):Option lq:=match jT P K T O σ o with
 |some u=>match o.dst with
  |some d=>match look O.ov d with
   |some p=>some { u with r:=p,jX:=PV.le u.r p::u.jX }
   |none=>some u
  |none=>some u
 |none=>none
def BB(iN:Array Oper)(σ:PS)(o:Oper):Option Bool:=match o.guard with
 |none=>some true
 |some (j,want)=>match(iN[j]?).bind (·.dst)with
  |some t=>match σ.get t with
   | .e (.v<|.bool true)=>some want
   | .e (.v<|.bool false)=>some<|!want
   | .e (.v<|.tuple _)=>some false
   |_=>none
  |none=>none
def PS.app(σ:PS)(d:Option Tmp)(u:lq):PS:=(σ.oL u.f).put d u.r
def yb(σ:PS):Option Tmp->Bool
 |some d=>Nat.blt d σ.n
 |none=>true
def Jq:Op->List Operand
 | .move x | .assign x | .box _ x | .load _ x | .nilCheck x | .unOp _ _ x | .convert _ _ x | .fieldAddr _ x _ | .field _ x _ | .extract x _=>[x]
 | .pick c a b=>[c,a,b]
 | .build _ ps | .buildSlice _ _ ps=>ps.toList.map (·.2)
 | .store _ a v | .binOp _ _ a v _ | .makeSlice _ a v | .indexAddr _ a v | .index _ a v | .lookup _ a v _=>[a,v]
 | .makeFunc _ first captured=>first.toList++captured.toList
 | .slice _ x l h m=>x::(l.toList++h.toList++m.toList)
 | .call c=>(match c.callee with | .value f=>[f] | .invoke r _=>[r] | .builtin _=>[])++c.args.toList
 |_=>[]
def Gm:List Operand->List Tmp
 | []=>[]
 | .tmp t::l=>t::Gm l
 |_::l=>Gm l
def looks(iN:Array Oper)(o:Oper):List Tmp:=Gm (Jq o.op)++(match o.guard with
 |some (g,_)=>((iN[g]?).bind (·.dst)).toList
 |none=>[])
def sJ(P:Program)(K:World->Prop)(T:List TI)(O:qY)(iN:Array Oper)(σ:PS)(o:Oper):Option lq:=
 if yb σ o.dst then match BB iN σ o with
  |some true=>match wX P K T O σ o with
   |some u=>some { u with rd:=(looks iN o).map σ.get }
   |none=>none
  |some false=>some { r:=.e<|.v<|.tuple #[],rd:=(looks iN o).map σ.get }
  |none=>none
 else none
def Qq(l:List Nat)(n:Nat):Bool:=l.any<|Nat.beq n
def rH.id:rH->Option Nat
 | .none=>Option.none
 | .new i _ | .xA i _ | .su i _ | .w8 i _ | .fin i | .sy i _ _ | .CG i _=>some i
def rH.DX:rH->Bool
 | .sy ..=>true
 | .CG ..=>true
 |_=>false
def Be:rH->PV->Bool
 | .su id _,.own i=>!Nat.beq i id
 | .su id _,.oW i _ _ _=>!Nat.beq i id
 | .su id _,.qb _ cap=>!cap.any (CV.IV id)
 | .w8 id _,.ji i _=>!Nat.beq i id
 | .w8 id _,.rV i _ _ _ _=>!Nat.beq i id
 | .fin id,p=>!p.mN.any (Nat.beq id)
 |_,_=>true
def FP(l:List Nat):Option Nat->Bool
 |some d=>!Qq l d
 |none=>true
def Nx:Option Nat->Option Nat->Bool
 |some a,some b=>!Nat.beq a b
 |_,_=>true
def RV:PV->Bool
 | .e .any=>false
 |_=>true
def DU(iN:Array Oper)(x y:Oper×lq):Bool:=
 FP (looks iN y.1) x.1.dst&&Nx x.1.dst y.1.dst&&FP (looks iN x.1) y.1.dst &&
 FP y.2.rb x.2.f.id&&FP x.2.rb y.2.f.id&&Nx x.2.f.id y.2.f.id&&Be x.2.f y.2.r&&Be y.2.f x.2.r &&
 (!x.2.f.NC||y.2.rd.all RV)&&x.2.rd.all (Be y.2.f) && !x.2.f.DX && !y.2.f.DX
def DW(o:Oper)(i:Nat):Bool:=o.after.toList.any λe=>Region.binds .any e&&Nat.beq e.on i
def CE(iN:Array Oper):Nat->Oper->Nat->Bool
 | 0,o,i=>DW o i
 |n+1,o,i=>DW o i||o.after.toList.any λe=>Region.binds .any e&&(match iN[e.on]? with
  |some z=>CE iN n z i
  |none=>false)
def FW(iN:Array Oper):Nat->List (Oper×lq)->Bool
 |_,[]=>true
 |i,x::l=>x.1.after.toList.all (λe=>!Region.binds .any e||Nat.blt e.on i)&&l.all (λy=>CE iN 3 y.1 i||DU iN x y)&&FW iN (i+1) l
def JS(σ:PS):PV->Option E
 | .e x=>if x.nr 3 then some x else none
 | .own id=>match σ.bo id with
  |some (.row nl _ n sz el)=>some<|.sl nl n sz el
  |some (.nL nl _ _ n sz len el none)=>some<|.sl true n 1 λk _=>.sl nl (len k) sz<|el k
  |_=>none
 | .ji id k=>match σ.bo id with
  |some (.nL nl _ _ n sz len el none)=>if Nat.blt k n then some (.sl nl (len k) sz<|el k)else none
  |_=>none
 |_=>none
def SE(T:List TI)(σ:PS):ResultVar->Option E
 | .tmp t=>JS σ<|σ.get t
 | .cell a t=>match nB T t with
  |some ti=>match σ.read (σ.get a) ti.i.size with
   |some (l,_,[])=>if ti.isAgg then(if(E.agg l).nr 3 then some (.agg l)else none)else match l with
    | [e]=>if e.nr 3 then some e else none
    |_=>none
   |_=>none
  |none=>none
def F6(T:List TI)(σ:PS):List ResultVar->Option (List E)
 | []=>some []
 |x::l=>match SE T σ x,F6 T σ l with
  |some e,some es=>some<|e::es
  |_,_=>none
def MX(T:List TI)(fn:Func)(σ:PS):Option E:=match F6 T σ fn.results.toList with
 |some [e]=>some e
 |some l=>some<|.iK l
 |none=>none
inductive Ex where
 |normal
 |exit (id:Nat)
 |ret
def Ht:Code->Nat
 | .region id _ _=>id
 | .seq a _=>Ht a
 | .cond _ a _=>Ht a
 | .block _ b=>Ht b
 | .loop b=>Ht b
 |_=>0
def IQ:Nat->List E->List (Nat×PV)
 |_,[]=>[]
 |i,x::l=>(i,.e x)::IQ (i+1) l
def Cd(fn:Func)(nl:Bool)(args:List E):PS:={ n:=fn.ntmps,nl:=nl,t:=IQ 0 args,b:=[] }
def mg{a b:Nat}:Nat.beq a b=true↔a=b:=⟨Nat.eq_of_beq_eq_true,λh=>by subst h;exact cU a⟩
def dC{a b:Nat}(h:a≠b):Nat.beq a b=false:=by
 cases hb:Nat.beq a b with
 |false=>rfl
 |true=>exact absurd (mg.1 hb) h
def wD{α:Type}(k:Nat)(x:α)(l:List<|Nat×α)(t:Nat):look ((k,x)::l) t=if k=t then some x else look l t:=by
 by_cases h:k=t
 .subst h;simp[look]
 .simp [look,h,dC h]
def I9{α:Type}(l:List<|Nat×α)(d t:Nat)(h:d≠t):look (l.filter λx=>!Nat.beq x.1 d) t=look l t:=by
 induction l with
 |nil=>rfl
 |cons y l ih=>
  obtain⟨k,x⟩:=y;rw[List.filter_cons];by_cases hk:k=d
  .subst hk;simp only[cU,fX,cz,bN];rw[ih,wD,bw h]
  .simp only[dC hk,fe,bW];rw[wD,wD,ih]
def aac{α:Type}(l:List<|Nat×α)(f:α->α)(t:Nat):look (l.map λx=>(x.1,f x.2)) t=(look l t).map f:=by
 induction l with
 |nil=>rfl
 |cons y l ih=>
  obtain⟨k,x⟩:=y;rw[ff,wD,wD,ih];split<;>rfl
def PS.PU(σ:PS)(d:Nat)(p:PV)(t:Nat):(σ.put (some d) p).get t=if d=t then p else σ.get t:=by
 unfold PS.get PS.put;simp only[wD];by_cases h:d=t
 .rw [bA h,bA h];rfl
 .rw [bw h,bw h,I9 _ _ _ h]
section
variable(σ:PS)(d:Option Tmp)(p:PV)
def PS.afH(id:Nat):(σ.put d p).bo id=σ.bo id:=by cases d<;>rfl
def PS.RS:(σ.put d p).n=σ.n:=by cases d<;>rfl
def PS.anM:(σ.put d p).nl=σ.nl:=by cases d<;>rfl
end
def D4(l:List<|Nat×Bx)(id:Nat)(b:Bx)(t:Nat):look (vo l id b) t=if id=t then some b else look l t:=by
 unfold vo;rw[wD];by_cases h:id=t
 .rw [bA h,bA h]
 .rw [bw h,bw h,I9 _ _ _ h]
def aab{α:Type}(l:List<|Nat×α)(d:Nat):look (l.filter λx=>!Nat.beq x.1 d) d=none:=by
 induction l with
 |nil=>rfl
 |cons y l ih=>
  obtain⟨k,x⟩:=y;rw[List.filter_cons];by_cases hk:k=d
  .subst hk;simpa only[cU,fX,cz,bN]using ih
  .simp only[dC hk,fe,bW];rw[wD,bw hk,ih]
def D3{α:Type}(l:List<|Nat×α)(i id:Nat):look (l.filter λx=>!Nat.beq x.1 i) id=if i=id then none else look l id:=by
 by_cases h:i=id
 .subst h;rw[bA rfl];exact aab _ _
 .rw [bw h];exact I9 _ _ _ h
def PS.Dq(σ:PS)(f:rH)(t:Nat):(σ.oL f).get t=(σ.get t).nX f:=by
 unfold PS.get PS.oL;by_cases h:f.NC=true
 .simp only[h,bW];rw[aac];cases look σ.t t with
  |none=>cases f<;>rfl
  |some p=>rfl
 .have hv:∀ p:PV,p.nX f=p:=by
   intro p;cases f<;>first|exact absurd rfl h|(cases p<;>rfl)
  simp only[h,hv];rfl
section
variable(bs br:Nat->Prop)(L:Lk)(w:World)(id:Nat)
def UG(nl:Bool)(T1 T0:TypeId)(n sz:Nat)(len:Nat->Nat)(el:Nat->Nat->Nat->E)(pend:Option Nat):Prop:=∃ (b c:Nat) (cur:Array Value) (f:Nat->Nat->Nat->Value),L.val id = .slice (some ⟨b,0,none⟩) n c/\w.heap[b]? = some (.cells cur T1 (0,0))/\n<=c/\c<=maxLen/\cur.size=c /\
 (∀ k,k<n->pend≠some k->cur[k]? = some (L.ji id k))/\(∀ u,u ∈ cur->sw u=false) /\
 (∀ k,k<n->oH w (L.ji id k) T0 (len k) sz (f k) nl/\∀ i j,i<len k->j<sz->jd bs br w (el k i j) (f k i j)/\(el k i j).nr 2=true) /\
 (∀ x,L.own id x↔x=b\/∃ k,k<n/\(L.ji id k).ownBlock=some x) /\
 (∀ k k' x,k<n->k'<n->(L.ji id k).ownBlock=some x->(L.ji id k').ownBlock=some x->k=k')/\(∀ k,k<n->(L.ji id k).ownBlock≠some b)
def rG:Bx->Prop
 | .cells T l=>∃ b vs,L.val id = .pointer (some ⟨b,0,none⟩)/\(∀ x,L.own id x↔x=b)/\w.heap[b]? = some (.cells vs.toArray T (0,0))/\kR bs br w l vs/\∀ u,u ∈ vs->u.oneCell'=true
 | .row nl T n sz el=>∃ f:Nat->Nat->Value,oH w (L.val id) T n sz f nl/\(∀ x,L.own id x↔(L.val id).ownBlock=some x)/\∀ i j,i<n->j<sz->jd bs br w (el i j) (f i j)/\(el i j).nr 2=true
 | .nL nl T1 T0 n sz len el pend=>(L.val id = .slice none 0 0/\n=0/\∀ x,¬L.own id x)\/UG bs br L w id nl T1 T0 n sz len el pend
end
def rG.yo{bs br:Nat->Prop}{L:Lk}{w:World}{id:Nat}{nl:Bool}{T1 T0 n sz:Nat}{len:Nat->Nat}{el:Nat->Nat->Nat->E}{pend:Option Nat}(h:rG bs br L w id<|.nL nl T1 T0 n sz len el pend)(hn:0<n):
 UG bs br L w id nl T1 T0 n sz len el pend:=by
 rcases h with⟨_,h,_⟩|h
 .omega
 .exact h
structure jC(w0:World)(B:Nat->Prop)(σ:PS)(a:Act)(w:World)(L:Lk):Prop where
 hd:a.defers=[]
 hs:a.tmps.size=σ.n
 ht:∀ t,nY (jx B L) (j8 L) L w (σ.get t)<|a.tmps.getD t undef
 hb:∀ id b,σ.bo id=some b->rG (jx B L) (j8 L) L w id b
 hv:∀ id,L.np id↔(σ.bo id).isSome=true
 hn:∀ id x,L.own id x->L.np id
 hw:∀ id x,L.own id x->w0.heap.size<=x/\x<w.heap.size
 hi:∀ id id' x,L.own id x->L.own id' x->id=id'
 he:Below w0.heap.size w0 w
 hl:σ.nl=true->∀ id b,σ.bo id=some b->b.nl=true
structure sZ(L:Lk)(w:World)(L':Lk)(w':World):Prop where
 size:w.heap.size<=w'.heap.size
 j8:∀ x,x<w.heap.size->Pu.j8 L' x->Pu.j8 L x
 pL:∀ x,x<w.heap.size->¬Pu.j8 L x->w'.heap[x]? = w.heap[x]?
def sZ.mc{B:Nat->Prop}{L L':Lk}{w w':World}(h:sZ L w L' w'){e:E}{v:Value}(k:jd (jx B L) (Pu.j8 L) w e v):jd (jx B L') (Pu.j8 L') w' e v:=by
 refine k.mono h.size (λb hb hx=>?_) (λb hb hx=>h.j8 b hb hx) λb hb wm=>h.pL b hb ?_
 .rcases hx with hx|hx
  .exact .inl hx
  .exact .inr<|h.j8 b hb hx
 .rcases wm with wm|wm
  .exact λhm=>wm<|.inr hm
  .exact wm
def oH.block{w w':World}{v:Value}{T:TypeId}{n sz:Nat}{f:Nat->Nat->Value}{nl:Bool}(h:oH w v T n sz f nl)
 (hk:∀ x,v.ownBlock=some x->w'.heap[x]? = w.heap[x]?):oH w' v T n sz f nl:=by
 rcases h with h|⟨b,c,cur,rfl,hg,r⟩
 .exact .inl h
 .exact .inr ⟨b,c,cur,rfl,by rw[hk b rfl];exact hg,r⟩
section
variable{B:Nat->Prop}{L L':Lk}{w w':World}(h:sZ L w L' w')
def rG.later{id:Nat}{b:Bx}(k:rG (jx B L) (j8 L) L w id b)
 (hv:L'.val id=L.val id) (ho:∀ x,L'.own id x↔L.own id x) (nx:∀ j,L'.ji id j=L.ji id j) (hk:∀ x,L.own id x->w'.heap[x]? = w.heap[x]?):rG (jx B L') (j8 L') L' w' id b:=by
 cases b with
 |cells T l=>
  obtain⟨b,vs,h1,h2,h3,h4,h5⟩:=k;exact⟨b,vs,by rw[hv];exact h1,λx=>(ho x).trans<|h2 x,by rw[hk b<|(h2 b).2 rfl];exact h3,h4.mono λ_ _=>h.mc,h5⟩
 |row nl T n sz el=>
  obtain⟨f,h1,h2,h3⟩:=k;exact⟨f,by rw[hv];exact h1.block λx hx=>hk x<|(h2 x).2 hx,λx=>by rw[ho,hv];exact h2 x,λi j hi hj=>⟨h.mc (h3 i j hi hj).1,(h3 i j hi hj).2⟩⟩
 |nL nl T1 T0 n sz len el pend=>
  rcases k with⟨h1,h2,h3⟩|k
  .exact .inl ⟨by rw[hv];exact h1,h2,λx hx=>h3 x<|(ho x).1 hx⟩
  obtain⟨b,c,cur,f,h1,h2,h3,h4,h5,h6,h7,h8,h9,rM,ue⟩:=k;have e:L'.ji id=L.ji id:=funext nx;refine .inr ⟨b,c,cur,f,by rw[hv];exact h1,by rw[hk b<|(h9 b).2<|.inl rfl];exact h2,h3,h4,h5,by rw[e];exact h6,h7,?_,?_,by rw[e];exact rM,by rw[e];exact ue⟩
  .intro k A4;obtain⟨q1,q2⟩:=h8 k A4;rw[e];exact⟨q1.block λx hx=>hk x<|(h9 x).2<|.inr ⟨k,A4,hx⟩,λi j hi hj=>⟨h.mc (q2 i j hi hj).1,(q2 i j hi hj).2⟩⟩
  .intro x;rw[ho,e];exact h9 x
def yx.later{c:CV}{v:Value}(k:yx (jx B L) (j8 L) L w c v)
 (hv:∀ id,L.np id->L'.np id/\L'.val id=L.val id):yx (jx B L') (j8 L') L' w' c v:=by
 cases c with
 |e x=>exact h.mc k
 |box id=>obtain⟨k1,b,k2,k3⟩:=k;exact⟨(hv id k1).1,b,by rw[(hv id k1).2];exact k2,k3⟩
 |row id=>obtain⟨k1,b,n,c,k2,k3⟩:=k;exact⟨(hv id k1).1,b,n,c,by rw[(hv id k1).2];exact k2,k3⟩
end
def nY.later{B:Nat->Prop}{L L':Lk}{w w':World}(h:sZ L w L' w'){p:PV}{v:Value}(k:nY (jx B L) (j8 L) L w p v)
 (hv:∀ id,L.np id->L'.np id/\L'.val id=L.val id/\∀ j,L'.ji id j=L.ji id j):nY (jx B L') (j8 L') L' w' p v:=by
 cases p with
 |e x=>exact h.mc k
 |box id off=>obtain⟨k1,b,k2,k3⟩:=k;exact⟨(hv id k1).1,b,by rw[(hv id k1).2.1];exact k2,k3⟩
 |own id=>obtain⟨k1,k2⟩:=k;exact⟨(hv id k1).1,by rw[(hv id k1).2.1];exact k2⟩
 |oW id sz i j=>obtain⟨k1,b,n,c,k2,k3⟩:=k;exact⟨(hv id k1).1,b,n,c,by rw[(hv id k1).2.1];exact k2,k3⟩
 |ji id q=>obtain⟨k1,k2⟩:=k;exact⟨(hv id k1).1,by rw[(hv id k1).2.2];exact k2⟩
 |rV id sz q i j=>obtain⟨k1,b,n,c,k2,k3⟩:=k;exact⟨(hv id k1).1,b,n,c,by rw[(hv id k1).2.2];exact k2,k3⟩
 |qb f cap=>
  obtain⟨vs,k1,k2,k3⟩:=k;exact⟨vs,k1,k2,λi c x hc hx=>(k3 i c x hc hx).later h λid hl=>⟨(hv id hl).1,(hv id hl).2.1⟩⟩
def jC.later{w0:World}{B:Nat->Prop}{σ:PS}{a:Act}{w w':World}{L:Lk}(r:jC w0 B σ a w L)(h:Below w.heap.size w w'):jC w0 B σ a w' L:=by
 have hl:sZ L w L w':=⟨h.size,λ_ _ h=>h,λx hx _=>h.block x hx⟩
 refine⟨r.hd,r.hs,λt=>(r.ht t).later hl λid k=>⟨k,rfl,λ_=>rfl⟩,λid b hb=>(r.hb id b hb).later hl rfl (λ_=>Iff.rfl) (λ_=>rfl) λx hx=>h.block x (r.hw id x hx).2,r.hv,r.hn,
  λid x hx=>⟨(r.hw id x hx).1,cg (r.hw id x hx).2 h.size⟩,r.hi,r.he.trans<|h.mono r.he.size,r.hl⟩
def jC.drew{w0:World}{B:Nat->Prop}{σ:PS}{a:Act}{w:World}{L:Lk}(r:jC w0 B σ a w L):jC w0 B σ a w.drew L:=r.later (Below.refl _ _).drew
def jC.put{w0:World}{B:Nat->Prop}{σ:PS}{a:Act}{w:World}{L:Lk}(r:jC w0 B σ a w L)(d:Option Tmp)(p:PV)(v:Value)(hd:yb σ d=true)(hp:nY (jx B L) (j8 L) L w p v):jC w0 B (σ.put d p) (a.put d v) w L:=by
 cases d with
 |none=>exact r
 |some d=>
  have Fk:d<σ.n:=by simpa[yb,gE]using hd
  refine⟨r.hd,by simp[Act.put,r.hs,PS.RS],λt=>?_,λid b hb=>r.hb id b hb,r.hv,r.hn,r.hw,r.hi,r.he,r.hl⟩;rw[PS.PU];by_cases h:d=t
  .subst h;rw[bA rfl];have:(a.put (some d) v).tmps.getD d undef=v:=by
    simp[Act.put,Array.getElem?_setIfInBounds,r.hs,Fk]
   rw[this];exact hp
  .rw [bw h];have:(a.put (some d) v).tmps.getD t undef=a.tmps.getD t undef:=by
    simp[Act.put,at7 h]
   rw[this];exact r.ht t
def jC.op{w0:World}{B:Nat->Prop}{σ:PS}{a:Act}{w:World}{L:Lk}(r:jC w0 B σ a w L)(x:Operand):nY (jx B L) (j8 L) L w (σ.op x)<|a.eval x:=by
 cases x with
 |tmp t=>exact r.ht t
 |const v=>exact .v v
 |global g=>exact .v _
 |func f=>exact .fn f [] [] rfl (λi p x h=>by simp at h)
def Lk.set(L:Lk)(id:Nat)(O:Nat->Prop)(v:Value)(ji:Nat->Value):Lk:=
 {np:=λi=>i=id\/L.np i
  own:=λi x=>if i=id then O x else L.own i x
  val:=λi=>if i=id then v else L.val i
  ji:=λi=>if i=id then ji else L.ji i }
section
variable {L:Lk} {id:Nat} {O:Nat->Prop} {v:Value} {ji:Nat->Value}
def Lk.uD(x:Nat):(L.set id O v ji).own id x↔O x:=by simp[Lk.set]
def Lk.qx:(L.set id O v ji).val id=v:=by simp[Lk.set]
def Lk.tp(k:Nat):(L.set id O v ji).ji id k=ji k:=by simp[Lk.set]
def Lk.CJ:(L.set id O v ji).np id:=.inl rfl
section
variable{i:Nat}(h:i≠id)
def Lk.CK(x:Nat):(L.set id O v ji).own i x↔L.own i x:=by simp[Lk.set,h]
def Lk.Bt:(L.set id O v ji).val i=L.val i:=by simp[Lk.set,h]
def Lk.Gf(k:Nat):(L.set id O v ji).ji i k=L.ji i k:=by simp[Lk.set,h]
end
end
structure sF(L:Lk)(w:World)(id:Nat)(O:Nat->Prop)(w':World):Prop where
 own:∀ x,O x->(L.own id x\/w.heap.size<=x)/\x<w'.heap.size
 size:w.heap.size<=w'.heap.size
 pL:∀ x,x<w.heap.size->¬L.own id x->w'.heap[x]? = w.heap[x]?
 os:w'.os=w.os
 tape:w'.tape=w.tape
 output:w'.output=w.output
def sF.later{L:Lk}{w:World}{id:Nat}{O:Nat->Prop}{w':World}(h:sF L w id O w')(v:Value)(ji:Nat->Value):sZ L w (L.set id O v ji) w':=by
 refine⟨h.size,λx hx hm=>?_,λx hx hm=>h.pL x hx λho=>hm ⟨id,ho⟩⟩;obtain⟨i,hi⟩:=hm;by_cases e:i=id
 .subst e;rcases(h.own x<|(Lk.uD x).1 hi).1 with k|k
  .exact ⟨i,k⟩
  .omega
 .exact ⟨i,(Lk.CK e x).1 hi⟩
def jC.set{w0:World}{B:Nat->Prop}{σ:PS}{a:Act}{w:World}{L:Lk}(r:jC w0 B σ a w L)(id:Nat)(b':Bx)(O:Nat->Prop)(v:Value)(ji:Nat->Value)(w':World)(f:rH)
 (hf:f.OM σ.b=vo σ.b id b') (ht:sF L w id O w')
 (hB:rG (jx B<|L.set id O v ji) (j8<|L.set id O v ji) (L.set id O v ji) w' id b')
 (hT:∀ p v0,nY (jx B L) (j8 L) L w p v0->nY (jx B<|L.set id O v ji) (j8<|L.set id O v ji) (L.set id O v ji) w' (p.nX f) v0)
 (kf:σ.nl=true->b'.nl=true):jC w0 B (σ.oL f) a w'<|L.set id O v ji:=by
 have hl:=ht.later v ji;have jE:∀ i,(σ.oL f).bo i=if id=i then some b' else σ.bo i:=by
  intro i;show look (f.OM σ.b) i=_;rw[hf,D4];rfl
 have yO:Below w0.heap.size w w':=⟨ht.os,ht.tape,ht.output,ht.size,λx hx=>ht.pL x (cg hx r.he.size) λho=>by have:=(r.hw id x ho).1;omega⟩
 refine⟨r.hd,r.hs,λt=>?_,λi b hb=>?_,λi=>?_,λi x hx=>?_,λi x hx=>?_,λi j x hi hj=>?_,r.he.trans yO,λzU i b hb=>?_⟩
 .rw [PS.Dq];exact hT _ _<|r.ht t
 .rw [jE]at hb;by_cases e:id=i
  .subst e;rw[bA rfl]at hb;cases hb;exact hB
  .rw [bw e]at hb;have e':i≠id:=λh=>e h.symm
   exact(r.hb i b hb).later hl (Lk.Bt e') (Lk.CK e') (Lk.Gf e') λx hx=>ht.pL x (r.hw i x hx).2 λho=>e<|r.hi id i x ho hx
 .rw [jE];by_cases e:id=i
  .subst e;rw[bA rfl];simp[Lk.set]
  .rw [bw e];have e':i≠id:=λh=>e h.symm
   simp only[Lk.set,e',false_or];exact r.hv i
 .by_cases e:i=id
  .exact .inl e
  .exact .inr<|r.hn i x<|(Lk.CK e x).1 hx
 .by_cases e:i=id
  .subst e;obtain⟨k1,k2⟩:=ht.own x<|(Lk.uD x).1 hx;refine⟨?_,k2⟩;rcases k1 with k1|k1
   .exact (r.hw i x k1).1
   .exact b9 r.he.size k1
  .have:=r.hw i x<|(Lk.CK e x).1 hx;exact⟨this.1,cg this.2 ht.size⟩
 .by_cases e1:i=id
  .by_cases e2:j=id
   .rw [e1,e2]
   .have k2:=(Lk.CK e2 x).1 hj;subst e1;rcases(ht.own x<|(Lk.uD x).1 hi).1 with k|k
    .exact r.hi _ _ x k k2
    .have:=(r.hw j x k2).2;omega
  .have k1:=(Lk.CK e1 x).1 hi;by_cases e2:j=id
   .subst e2;rcases(ht.own x<|(Lk.uD x).1 hj).1 with k|k
    .exact r.hi _ _ x k1 k
    .have:=(r.hw i x k1).2;omega
   .exact r.hi _ _ x k1<|(Lk.CK e2 x).1 hj
 .rw [jE]at hb;by_cases e:id=i
  .rw [bA e]at hb;cases hb;exact kf zU
  .rw [bw e]at hb;exact r.hl zU i b hb
def jC.new{w0:World}{B:Nat->Prop}{σ:PS}{a:Act}{w:World}{L:Lk}(r:jC w0 B σ a w L)(id:Nat)(b':Bx)(O:Nat->Prop)(v:Value)(ji:Nat->Value)(w':World)
 (kY:σ.bo id=none) (hO:∀ x,O x->w.heap.size<=x/\x<w'.heap.size) (hb:Below w.heap.size w w')
 (hB:rG (jx B<|L.set id O v ji) (j8<|L.set id O v ji) (L.set id O v ji) w' id b')
 (kf:(!σ.nl||b'.nl)=true):jC w0 B (σ.oL<|.new id b') a w'<|L.set id O v ji:=by
 have Yz:¬L.np id:=λh=>by have:=(r.hv id).1 h;rw[kY]at this;simp at this
 have ht:sF L w id O w':=⟨λx hx=>⟨.inr (hO x hx).1,(hO x hx).2⟩,hb.size,λx hx _=>hb.block x hx,hb.os,hb.tape,hb.output⟩
 refine r.set id b' O v ji w' (.new id b') rfl ht hB (λp v0 hp=>?_) (λh=>by simpa[h]using kf);have jM:∀ {i},L.np i->i≠id:=λh e=>Yz<|e▸h
 have:p.nX (.new id b')=p:=by cases p<;>rfl
 rw[this];exact hp.later (ht.later v ji) λi hi=>⟨.inr hi,Lk.Bt<|jM hi,λj=>Lk.Gf (jM hi) j⟩
def jC.xA{w0:World}{B:Nat->Prop}{σ:PS}{a:Act}{w:World}{L:Lk}(r:jC w0 B σ a w L)(id:Nat)(b':Bx)(w':World)
 (tM:L.np id) (ht:sF L w id (L.own id) w')
 (hB:rG (jx B<|L.set id (L.own id) (L.val id)<|L.ji id) (j8<|L.set id (L.own id) (L.val id)<|L.ji id) (L.set id (L.own id) (L.val id)<|L.ji id) w' id b')
 (kf:σ.nl=true->b'.nl=true):jC w0 B (σ.oL<|.xA id b') a w'<|L.set id (L.own id) (L.val id)<|L.ji id:=by
 refine r.set id b' _ _ _ w' (.xA id b') rfl ht hB (λp v0 hp=>?_) kf;have:p.nX (.xA id b')=p:=by cases p<;>rfl
 rw[this];refine hp.later (ht.later _ _) λi hi=>⟨.inr hi,?_,λj=>?_⟩
 .by_cases e:i=id
  .subst e;exact Lk.qx
  .exact Lk.Bt e
 .by_cases e:i=id
  .subst e;exact Lk.tp j
  .exact Lk.Gf e j
def jC.su{w0:World}{B:Nat->Prop}{σ:PS}{a:Act}{w:World}{L:Lk}(r:jC w0 B σ a w L)(id:Nat)(b':Bx)(O:Nat->Prop)(v:Value)(w':World)
 (hp:∀ b,L.val id ≠ .pointer (some b)) (ht:sF L w id O w')
 (hB:rG (jx B<|L.set id O v<|L.ji id) (j8<|L.set id O v<|L.ji id) (L.set id O v<|L.ji id) w' id b')
 (kf:σ.nl=true->b'.nl=true):jC w0 B (σ.oL<|.su id b') a w'<|L.set id O v<|L.ji id:=by
 have hl:=ht.later v<|L.ji id;refine r.set id b' O v (L.ji id) w' (.su id b') rfl ht hB (λp v0 qU=>?_) kf;have BW:∀ i j,(L.set id O v<|L.ji id).ji i j=L.ji i j:=λi j=>by
  by_cases e:i=id
  .subst e;exact Lk.tp j
  .exact Lk.Gf e j
 cases p with
 |e x=>exact hl.mc qU
 |box i off=>
  obtain⟨k1,b,k2,k3⟩:=qU;have e:i≠id:=λe=>by subst e;exact hp _ k2
  exact⟨.inr k1,b,by rw[Lk.Bt e];exact k2,k3⟩
 |own i=>
  by_cases e:i=id
  .subst e;simp only[PV.nX,cU,bW];exact .any _
  .simp only[PV.nX,dC e,cz,bN];exact⟨.inr qU.1,by rw[Lk.Bt e];exact qU.2⟩
 |oW i s x j=>
  by_cases e:i=id
  .subst e;simp only[PV.nX,cU,bW];exact .any _
  .simp only[PV.nX,dC e,cz,bN];obtain⟨k1,b,n,c,k2,k3⟩:=qU;exact⟨.inr k1,b,n,c,by rw[Lk.Bt e];exact k2,k3⟩
 |ji i k=>exact⟨.inr qU.1,by rw[BW];exact qU.2⟩
 |rV i s k x j=>obtain⟨k1,b,n,c,k2,k3⟩:=qU;exact⟨.inr k1,b,n,c,by rw[BW];exact k2,k3⟩
 |qb f cap=>
  cases nD:cap.any (CV.IV id)with
  |true=>simp only[PV.nX,nD,bW];exact .any _
  |false=>
   simp only[PV.nX,nD,cz,bN];obtain⟨vs,k1,k2,k3⟩:=qU;refine⟨vs,k1,k2,λi c x hc hx=>?_⟩;have hk:=k3 i c x hc hx;cases c with
   |e y=>exact hl.mc hk
   |box q=>
    obtain⟨q1,b,q2,q3⟩:=hk;have e:q≠id:=λe=>by subst e;exact hp _ q2
    exact⟨.inr q1,b,by rw[Lk.Bt e];exact q2,q3⟩
   |row q=>
    obtain⟨q1,b,n,c,q2,q3⟩:=hk;have e:q≠id:=λe=>by
     have:=dW.1 nD (.row q)<|fc hc;subst e;simp[CV.IV]at this
    exact⟨.inr q1,b,n,c,by rw[Lk.Bt e];exact q2,q3⟩
def jC.w8{w0:World}{B:Nat->Prop}{σ:PS}{a:Act}{w:World}{L:Lk}(r:jC w0 B σ a w L)(id:Nat)(b':Bx)(O:Nat->Prop)(ji:Nat->Value)(w':World)
 (ht:sF L w id O w')
 (hB:rG (jx B<|L.set id O (L.val id) ji) (j8<|L.set id O (L.val id) ji) (L.set id O (L.val id) ji) w' id b')
 (kf:σ.nl=true->b'.nl=true):jC w0 B (σ.oL<|.w8 id b') a w'<|L.set id O (L.val id) ji:=by
 have hl:=ht.later (L.val id) ji;refine r.set id b' O (L.val id) ji w' (.w8 id b') rfl ht hB (λp v0 qU=>?_) kf;have lI:∀ i,(L.set id O (L.val id) ji).val i=L.val i:=λi=>by
  by_cases e:i=id
  .subst e;exact Lk.qx
  .exact Lk.Bt e
 cases p with
 |e x=>exact hl.mc qU
 |box i off=>obtain⟨k1,b,k2,k3⟩:=qU;exact⟨.inr k1,b,by rw[lI];exact k2,k3⟩
 |own i=>exact⟨.inr qU.1,by rw[lI];exact qU.2⟩
 |oW i s x j=>obtain⟨k1,b,n,c,k2,k3⟩:=qU;exact⟨.inr k1,b,n,c,by rw[lI];exact k2,k3⟩
 |ji i k=>
  by_cases e:i=id
  .subst e;simp only[PV.nX,cU,bW];exact .any _
  .simp only[PV.nX,dC e,cz,bN];exact⟨.inr qU.1,by rw[Lk.Gf e];exact qU.2⟩
 |rV i s k x j=>
  by_cases e:i=id
  .subst e;simp only[PV.nX,cU,bW];exact .any _
  .simp only[PV.nX,dC e,cz,bN];obtain⟨k1,b,n,c,k2,k3⟩:=qU;exact⟨.inr k1,b,n,c,by rw[Lk.Gf e];exact k2,k3⟩
 |qb f cap=>
  obtain⟨vs,k1,k2,k3⟩:=qU;refine⟨vs,k1,k2,λi c x hc hx=>(k3 i c x hc hx).later hl λj hj=>⟨.inr hj,lI j⟩⟩
structure N6(w:World)(v:Value)(T:TypeId)(n sz m:Nat)(f g:Nat->Nat->Value)(nl:Bool)(v':Value)(w':World):Prop where
 own:oH w' v' T (n+m) sz (λi j=>if i<n then f i j else g (i-n) j) nl
 GW:∀ x,v'.ownBlock=some x->v.ownBlock=some x\/(w.heap.size<=x/\x<w'.heap.size)
 size:w.heap.size<=w'.heap.size
 pL:∀ x,x<w.heap.size->v.ownBlock≠some x->w'.heap[x]? = w.heap[x]?
 os:w'.os=w.os
 tape:w'.tape=w.tape
 output:w'.output=w.output
section
variable(n sz:Nat)(f:Nat->Nat->Value)
def pz:List Value:=(List.range<|n*sz).map λq=>f (q/sz)<|q%sz
def xQ:(pz n sz f).length=n*sz:=by simp[pz]
end
section
variable{n sz:Nat}{f:Nat->Nat->Value}
def PM{i j:Nat}(hi:i<n)(hj:j<sz):(pz n sz f)[i*sz+j]? = some (f i j):=by
 have h1:i*sz+j<n*sz:=by
  have:=cC sz<|show i+1<=n from hi;rw[ca,cj]at this;omega
 have h2:(i*sz+j)/sz=i:=by rw[bR,ef aI,cI hj,ch]
 have h3:(i*sz+j)%sz=j:=by rw[bR,eD,cw hj]
 simp[pz,h1,h2,h3]
def Lg{q:Nat}{u:Value}(h:(pz n sz f)[q]? = some u):q/sz<n/\q%sz<sz/\u=f (q/sz) (q%sz)/\q/sz*sz+q%sz=q:=by
 unfold pz at h;rw[dA]at h;obtain⟨x,hx,rfl⟩:=dB.1 h;obtain⟨h1,h2⟩:=cP.1 hx;simp at h1 h2;subst h2;have hz:0<sz:=by
  rcases fg sz with h0|h0
  .subst h0;simp at h1
  .exact h0
 exact⟨(cK hz).2 h1,bQ _ hz,rfl,by rw[bR];exact cN q sz⟩
end
def oH.row{w:World}{v:Value}{T:TypeId}{n sz:Nat}{f:Nat->Nat->Value}{nl:Bool}(h:oH w v T n sz f nl):w.ownsRow 0 T sz v n<|pz n sz f:=by
 rcases h with⟨rfl,rfl⟩|⟨b,c,cur,rfl,hg,qd,oq,pk,ln,_⟩
 .exact ⟨xQ _ _ _,.inl ⟨rfl,rfl⟩⟩
 .refine ⟨xQ _ _ _,.inr ⟨b,c,cur,rfl,cA _,hg,qd,oq,pk,?_⟩⟩;apply ia;intro q;by_cases hq:q<n*sz
  .have hz:0<sz:=by
    rcases fg sz with h0|h0
    .subst h0;simp at hq
    .exact h0
   have h1:q/sz<n:=(cK hz).2 hq;have h2:=bQ q hz;have h3:q/sz*sz+q%sz=q:=by rw[bR];exact cN q sz
   have h4:=(ln _ _ h1 h2).1;have h5:=PM (f:=f) h1 h2;rw[h3]at h4 h5;rw[fC,bA hq,h5];simpa using h4
  .rw [fC,bw hq,dp<|by rw[xQ];omega]
def acD(P:Program)(w:World)(t ty e:TypeId)(i:TypeInfo)(z:Value)(sz:Nat)(ht:P.underlying t=some (.slice e))(hi:P.info? e=some i)(hz:i.zero=some z)
 (vi:i.size=sz) (FI:z.cells.size=sz) (lJ:0<sz) (jS:1<=i.bytes) (atd:∀ u,u ∈ z.cells->u.oneCell'=true)
 (v:Value) (n:Nat) (f:Nat->Nat->Value) (nl:Bool) (mF:oH w v e n sz f nl)
 (A:Option Addr) (m c:Nat) (g:Nat->Nat->Value) (hA:∀ k j,k<m->j<sz->∃ b o,A=some ⟨b,o,none⟩/\w.cell? ⟨b,o+(k*sz+j),none⟩=some (g k j)) (Fb:A=none->m=0)
 (h1:∀ k j,k<m->j<sz->(g k j).oneCell'=true/\(nl=true->sw (g k j)=false)) (Zl:nl=true->∀ u,u ∈ z.cells->sw u=false)
 (Lz:(n+m)*i.bytes<=140737488355328):
 ∃ v' w',(Builtin.append_ #[t,t] ty #[v,.slice A m c]).run P w = .ok v' w'/\N6 w v e n sz m f g nl v' w':=by
 have hle:n+m<=(n+m)*i.bytes:=ib _ jS;have PZ:n+m<=maxLen:=by unfold maxLen;omega
 have zQ:∀ i j,i<n+m->j<sz->(pz n sz f++pz m sz g)[i*sz+j]? = some (if i<n then f i j else g (i-n) j):=by
  intro i j hi hj;by_cases nx:i<n
  .rw [bA nx,fY,PM nx hj];rw[xQ];have:=cC sz<|show i+1<=n from nx;rw[ca,cj]at this;omega
  .rw [bw nx,gF,xQ]
   .have:i*sz+j-n*sz=(i-n)*sz+j:=by
     have:=Nat.sub_mul i n sz;have:=cC sz (aI:n<=i);omega
    rw[this,PM aI hj]
   .rw [xQ];have:=cC sz (aI:n<=i);omega
 have B6:∀ i j,i<n+m->j<sz->(if i<n then f i j else g (i-n) j).oneCell'=true:=by
  intro i j hi hj;split
  .rename_i nx;rcases mF with⟨_,h0⟩|⟨b,c,cur,_,_,_,_,_,hc,_⟩
   .omega
   .exact (hc i j nx hj).2
  .rename_i nx;exact(h1 (i-n) j aI hj).1
 have PY:∀ u ∈ pz m sz g,u.oneCell'=true:=by
  intro u hu;obtain⟨q,hq⟩:=ej.1 hu;obtain⟨q1,q2,rfl,_⟩:=Lg hq;exact(h1 _ _ q1 q2).1
 have gnl:nl=true->∀ u,u ∈ pz m sz g->sw u=false:=by
  intro hn u hu;obtain⟨q,hq⟩:=ej.1 hu;obtain⟨q1,q2,rfl,_⟩:=Lg hq;exact(h1 _ _ q1 q2).2 hn
 rcases A with _|ad
 .have hm:=Fb rfl;subst hm;rcases mF with⟨rfl,rfl⟩|⟨b,cc,cur,rfl,hg,qd,oq,pk,ln,kf⟩
  .refine ⟨.slice none 0 0,w,?_,.inl ⟨rfl,rfl⟩,λx hx=>.inl hx,bB _,λ_ _ _=>rfl,rfl,rfl,rfl⟩;simp[Builtin.append_,run_underlying ht,sizeOf,typeInfo,hi,Builtin.lenOf,Builtin.firstCells,loadCells,loadCellsFrom]
  .refine ⟨.slice (some ⟨b,0,none⟩) n cc,w,?_,.inr ⟨b,cc,cur,rfl,hg,qd,oq,pk,?_,kf⟩,λx hx=>.inl hx,bB _,λ_ _ _=>rfl,rfl,rfl,rfl⟩
   .simp [Builtin.append_,run_underlying ht,sizeOf,typeInfo,hi,Builtin.lenOf,Builtin.firstCells,qd,storeCells]
   .intro i j hi hj;have nx:i<n:= aI ;simp only[nx,bW];exact ln i j nx hj
 .have QX:∀ j u,(pz m sz g)[j]? = some u->w.cell? (ad.add j)=some u:=by
   intro q u hq;obtain⟨q1,q2,rfl,q4⟩:=Lg hq;obtain⟨b,o,e,hc⟩:=hA _ _ q1 q2;cases e;rw[q4]at hc;rw[show(⟨b,o,none⟩:Addr).add q=⟨b,o+q,none⟩from Addr.add_lit _ _ _];exact hc
  rcases mF with⟨rfl,rfl⟩|⟨b,cc,cur,rfl,hg,qd,oq,pk,ln,kf⟩
  .by_cases hm:m=0
   .subst hm;refine⟨.slice none 0 0,w,?_,.inl ⟨rfl,rfl⟩,λx hx=>.inl hx,bB _,λ_ _ _=>rfl,rfl,rfl,rfl⟩;simp[Builtin.append_,run_underlying ht,sizeOf,typeInfo,hi,Builtin.lenOf,Builtin.firstCells,loadCells,loadCellsFrom]
   .have hr:=run_append_nil (P:=P) w t ty e i z ht hi hz ad m c (pz m sz g) (by rw[xQ,vi]) QX aI (by unfold maxLen at PZ;omega) (by have hb:=Lz;simp only[cJ]at hb;omega);have uV:=grownCap_ge w m 0 e;have oq:grownCap w m 0 e<=maxLen:=grownCap_le_maxLen w m 0 e aI;refine⟨_,_,hr,.inr ⟨w.heap.size,_,_,aP,heap_alloc_new w.drew _,aI,oq,?_,?_,?_⟩,λx hx=>.inr ?_,aP,λx hx _=>Below.heap_alloc w.drew _ x hx,rfl,rfl,rfl⟩
    .simp only[atG,gG,size_zeroCells,FI,xQ,<-ca];congr 1;omega
    .intro i j hi hj;have:=zQ i j hi hj;refine⟨?_,B6 i j hi hj⟩;simp only[pz,de,List.range_zero,List.map_nil,List.nil_append]at this;rw[<-this,aua]
     .simp [pz]
     .obtain ⟨q,_⟩:=cP.1 this;simpa[pz]using q
    .intro hn u hu;rcases fZ.1 hu with hu|hu
     .exact gnl hn u<|by simpa using hu
     .simp only[Builtin.zeroCells,gH,gI]at hu;obtain⟨q,hq,rfl⟩:=hu;have je:q%z.cells.size<z.cells.size:=bQ _ aI;rw[gh z.cells _ je];exact Zl hn _<|ic je
    .simp [Value.ownBlock]at hx;subst hx;simp
  .by_cases Q4:n+m<=cc
   .have Fm:(pz m sz g).length=m*i.size:=by rw[xQ,vi]
    have pA:n*i.size+(pz m sz g).length<=cur.size:=by rw[Fm,pk,vi,<-ca];exact cC _ Q4
    have hr:=run_append_room (P:=P) w t ty e i ht hi b n cc cur hg ad m c (pz m sz g) Fm QX PY Q4 pA;have IG:cur.toList.take (n*i.size)=pz n sz f:=by
     have Q5:w.ownsRow 0 e sz (.slice (some ⟨b,0,none⟩) n cc) n<|pz n sz f:=oH.row (nl:=nl)<|.inr ⟨b,cc,cur,rfl,hg,qd,oq,pk,ln,kf⟩;rcases Q5.2 with⟨hh,_⟩|⟨b',c',cur',hh,_,YD,_,_,_,xW⟩
     .cases hh
     .cases hh;rw[hg]at YD;cases YD;rw[vi];exact xW
    refine⟨_,_,hr,.inr ⟨b,cc,_,rfl,setRow_heap w b cur _ e _ hg,Q4,oq,?_,?_,?_⟩,λx hx=>.inl hx,aP,λx hx jM=>setRow_other w b x _ λq=>jM<|by simp[Value.ownBlock,q],rfl,rfl,rfl⟩
    .simp only[gG,c9,cS,fE,ek];omega
    .intro k j hk hj;refine⟨?_,B6 k j hk hj⟩;rw[IG,<-zQ k j hk hj];have hq:k*sz+j<(pz n sz f++pz m sz g).length:=by
      obtain⟨q,_⟩:=cP.1<|zQ k j hk hj;exact q
     rw[ie,fY hq]
    .intro hn u hu;simp only[ig,eJ]at hu;rcases hu with(hu|hu)|hu
     .exact kf hn u<|by have:=fQ hu;simpa using this
     .exact gnl hn u hu
     .exact kf hn u<|by have:=fR hu;simpa using this
   .have Q5:w.ownsRow 0 e sz (.slice (some ⟨b,0,none⟩) n cc) n<|pz n sz f:=oH.row (nl:=nl)<|.inr ⟨b,cc,cur,rfl,hg,qd,oq,pk,ln,kf⟩;have holds:∀ j u,(pz n sz f)[j]? = some u->w.cell? ((⟨b,0,none⟩:Addr).add j)=some u:=Q5.cells (g:=b) rfl;have hr:=run_append_grow (P:=P) w t ty e i z ht hi hz ⟨b,0,none⟩ n cc (pz n sz f) (by rw[xQ,vi]) holds ad m c (pz m sz g) (by rw[xQ,vi]) QX aI (by unfold maxLen at PZ;omega)<|growslice_fits aI Lz;have uV:=grownCap_ge w (n+m) cc e;have akY:grownCap w (n+m) cc e<=maxLen:=grownCap_le_maxLen w (n+m) cc e PZ;refine⟨_,_,hr,.inr ⟨w.heap.size,_,_,aP,heap_alloc_new w.drew _,aI,akY,?_,?_,?_⟩,λx hx=>.inr ?_,aP,λx hx _=>Below.heap_alloc w.drew _ x hx,rfl,rfl,rfl⟩
    .simp only[atG,gG,size_zeroCells,FI,xQ,<-ca];congr 1;omega
    .intro k j hk hj;refine⟨?_,B6 k j hk hj⟩;rw[<-zQ k j hk hj];have hq:k*sz+j<(pz n sz f++pz m sz g).length:=by
      obtain⟨q,_⟩:=cP.1<|zQ k j hk hj;exact q
     rw[aua<|by simpa using hq];simp
    .intro hn u hu;rcases fZ.1 hu with hu|hu
     .rcases fZ.1 hu with hu|hu
      .obtain ⟨q,hq⟩:=ej.1 (show u ∈ pz n sz f by simpa using hu);obtain⟨q1,q2,rfl,_⟩:=Lg hq;exact kf hn _<|eR (ln _ _ q1 q2).1
      .exact gnl hn u<|by simpa using hu
     .simp only[Builtin.zeroCells,gH,gI]at hu;obtain⟨q,hq,rfl⟩:=hu;have je:q%z.cells.size<z.cells.size:=bQ _ aI;rw[gh z.cells _ je];exact Zl hn _<|ic je
    .simp [Value.ownBlock]at hx;subst hx;simp
def nY.move{B:Nat->Prop}{L L':Lk}{w w':World}(h:sZ L w L' w'){p:PV}{v:Value}(k:nY (jx B L) (j8 L) L w p v)
 (hv:∀ id,id ∈ p.mN->L.np id->L'.np id/\L'.val id=L.val id/\∀ j,L'.ji id j=L.ji id j):nY (jx B L') (j8 L') L' w' p v:=by
 cases p with
 |e x=>exact h.mc k
 |box id off=>obtain⟨k1,b,k2,k3⟩:=k;have q:=hv id (by simp[PV.mN]) k1;exact⟨q.1,b,by rw[q.2.1];exact k2,k3⟩
 |own id=>obtain⟨k1,k2⟩:=k;have q:=hv id (by simp[PV.mN]) k1;exact⟨q.1,by rw[q.2.1];exact k2⟩
 |oW id sz i j=>obtain⟨k1,b,n,c,k2,k3⟩:=k;have q:=hv id (by simp[PV.mN]) k1;exact⟨q.1,b,n,c,by rw[q.2.1];exact k2,k3⟩
 |ji id r=>obtain⟨k1,k2⟩:=k;have q:=hv id (by simp[PV.mN]) k1;exact⟨q.1,by rw[q.2.2];exact k2⟩
 |rV id sz r i j=>obtain⟨k1,b,n,c,k2,k3⟩:=k;have q:=hv id (by simp[PV.mN]) k1;exact⟨q.1,b,n,c,by rw[q.2.2];exact k2,k3⟩
 |qb f cap=>
  obtain⟨vs,k1,k2,k3⟩:=k;refine⟨vs,k1,k2,λi c x hc hx=>?_⟩;have q:=k3 i c x hc hx;cases c with
  |e y=>exact h.mc q
  |box id=>
   obtain⟨q1,b,q2,q3⟩:=q;have r:=hv id (by simp only[PV.mN,atH];exact⟨.box id,fc hc,by simp[CV.mN]⟩) q1;exact⟨r.1,b,by rw[r.2.1];exact q2,q3⟩
  |row id=>
   obtain⟨q1,b,n,c,q2,q3⟩:=q;have r:=hv id (by simp only[PV.mN,atH];exact⟨.row id,fc hc,by simp[CV.mN]⟩) q1;exact⟨r.1,b,n,c,by rw[r.2.1];exact q2,q3⟩
def asM{id:Nat}{b:Bx}{p:PV}(h:p.mN.any (Nat.beq id)=false):p.nX (.su id b)=p:=by
 cases p with
 |own i=>
  have:Nat.beq i id=false:=by
   simp only[PV.mN,fh,gJ,gj]at h;exact dC λe=>by rw[e,cU]at h;cases h
  simp[PV.nX,this]
 |oW i s x j=>
  have:Nat.beq i id=false:=by
   simp only[PV.mN,fh,gJ,gj]at h;exact dC λe=>by rw[e,cU]at h;cases h
  simp[PV.nX,this]
 |qb f cap=>
  have:cap.any (CV.IV id)=false:=by
   rw[dW];intro c hc hr;cases c with
   |row i=>
    have hi:i=id:=mg.1 hr;have:=dW.1 h i (by simp only[PV.mN,atH];exact⟨.row i,hc,by simp[CV.mN]⟩);rw[hi,cU]at this;exact this rfl
   |_=>cases hr
  simp[PV.nX,this]
 |_=>rfl
def jC.fin{w0:World}{B:Nat->Prop}{σ:PS}{a:Act}{w:World}{L:Lk}{id:Nat}{nl:Bool}{T n sz:Nat}{el:Nat->Nat->E}(hB:∀ b,B b->b<w0.heap.size)
 (r:jC w0 B (σ.oL<|.su id<|.row nl T n sz el) a w L):∃ L',jC w0 B (σ.oL<|.fin id) a w L'/\jd (jx B L') (j8 L') w (.sl nl n sz el) (L.val id):=by
 let L':Lk:=⟨λi=>L.np i/\i≠id,λi x=>L.own i x/\i≠id,L.val,L.ji⟩
 have je:sZ L w L' w:=⟨bB _,λx _ ⟨i,h,_⟩=>⟨i,h⟩,λ_ _ _=>rfl⟩
 have uf:∀ i,(σ.oL<|.fin id).bo i=if i=id then none else(σ.oL<|.su id<|.row nl T n sz el).bo i:=by
  intro i;show look (σ.b.filter λx=>!Nat.beq x.1 id) i=if i=id then none else look (vo σ.b id<|.row nl T n sz el) i
  rw[D3,D4];by_cases h:i=id
  .subst h;simp
  .rw [bw h,bw λe=>h e.symm,bw λe=>h e.symm]
 have akV:(σ.oL<|.su id<|.row nl T n sz el).bo id=some (.row nl T n sz el):=by
  show look (vo σ.b id<|.row nl T n sz el) id=_;rw[D4,bA rfl]
 have qR:∀ x,L.own id x->¬jx B L' x:=by
  rintro x hx (h|⟨i,h1,h2⟩)
  .have:=hB x h;have:=(r.hw id x hx).1;omega
  .exact h2<|r.hi i id x h1 hx
 have hold:jd (jx B L') (j8 L') w (.sl nl n sz el)<|L.val id:=by
  obtain⟨f,h1,h2,h3⟩:=r.hb id _ akV;rcases h1 with⟨h0,rfl⟩|⟨b,c,cur,h0,hg,qd,oq,pk,ln,kf⟩
  .rw [h0];exact .sl nl 0 sz el none 0 f (bB _) aK (λ_=>rfl) (λi j hi=>absurd hi<|bM i) (λi j hi=>absurd hi<|bM i) (λi j hi=>absurd hi<|bM i) λi j hi=>absurd hi<|bM i
  .have ui:=(h2 b).2 (by rw[h0];rfl);rw[h0];refine .sl nl n sz el _ c f qd (by unfold maxLen at oq;omega) (λh=>by cases h) (λi j hi hj=>⟨(ln i j hi hj).2,λhn=>kf hn _<|eR (ln i j hi hj).1⟩) (λi j hi hj=>(h3 i j hi hj).2)
    (λi j hi hj=>⟨b,0,rfl,qR b ui,(r.hw id b ui).2,?_⟩) (λi j hi hj=>je.mc (h3 i j hi hj).1)
   rw[cJ];simp only[World.cell?,hg];simpa using(ln i j hi hj).1
 refine⟨L',⟨r.hd,r.hs,λt=>?_,λi b' h=>?_,λi=>?_,λi x h=>⟨r.hn i x h.1,h.2⟩,λi x h=>r.hw i x h.1,λi i' x h k=>r.hi i i' x h.1 k.1,r.he,λh i b' k=>?_⟩,hold⟩
 .have k:=r.ht t;rw[PS.Dq]at k ⊢;generalize σ.get t=p at k ⊢;show nY _ _ _ _ (if p.mN.any (Nat.beq id)then .e .any else p) _;cases hp:p.mN.any (Nat.beq id)with
  |true=>exact .any _
  |false=>
   rw[asM hp]at k;refine nY.move je k λi hi tM=>⟨⟨tM,?_⟩,rfl,λ_=>rfl⟩
   rintro rfl;have:=dW.1 hp i hi;simp at this
 .rw [uf]at h;split at h
  .cases h
  .rename_i hi;exact(r.hb i b' h).later je rfl (λx=>⟨λq=>q.1,λq=>⟨q,hi⟩⟩) (λ_=>rfl) λ_ _=>rfl
 .rw [uf];show L.np i/\i≠id↔_;by_cases hi:i=id
  .subst hi;simp
  .simp only[hi,dS,fi,gl,bN];exact r.hv i
 .rw [uf]at k;split at k
  .cases k
  .exact r.hl h i b' k
section
variable{id q:Nat}{b:Bx}{p:PV}
def adR(h:p.mN.any (λx=>Nat.beq id x||Nat.beq q x)=false):p.nX (.sy id q b)=p:=by
 cases p with
 |box i off=>
  simp only[PV.mN,fh,gJ,gj,gK]at h;have h1:Nat.beq i id=false:=dC λe=>by rw[e,cU]at h;cases h.1
  have h2:Nat.beq i q=false:=dC λe=>by rw[e,cU]at h;cases h.2
  simp[PV.nX,h1,h2]
 |e x=>simp[PV.nX,PV.mN]
 |own i=>show(if(PV.mN<|.own i).any _=true then _ else _)=_;rw[h];rfl
 |oW i a b c=>show(if(PV.mN<|.oW i a b c).any _=true then _ else _)=_;rw[h];rfl
 |ji i k=>show(if(PV.mN<|.ji i k).any _=true then _ else _)=_;rw[h];rfl
 |rV i s k x j=>show(if(PV.mN<|.rV i s k x j).any _=true then _ else _)=_;rw[h];rfl
 |qb f cap=>show(if(PV.mN<|.qb f cap).any _=true then _ else _)=_;rw[h];rfl
def adQ(h:p.mN.any (λx=>Nat.beq id x||Nat.beq q x)=true)(hb:∀ i off,p ≠ .box i off):p.nX (.sy id q b) = .e .any:=by
 cases p with
 |box i off=>exact absurd rfl (hb i off)
 |e x=>simp[PV.mN]at h
 |own i=>show(if(PV.mN<|.own i).any _=true then _ else _)=_;rw[h];rfl
 |oW i a b c=>show(if(PV.mN<|.oW i a b c).any _=true then _ else _)=_;rw[h];rfl
 |ji i k=>show(if(PV.mN<|.ji i k).any _=true then _ else _)=_;rw[h];rfl
 |rV i s k x j=>show(if(PV.mN<|.rV i s k x j).any _=true then _ else _)=_;rw[h];rfl
 |qb f cap=>show(if(PV.mN<|.qb f cap).any _=true then _ else _)=_;rw[h];rfl
end
def jC.sy{w0:World}{B:Nat->Prop}{σ:PS}{a:Act}{w:World}{L:Lk}(r:jC w0 B σ a w L){id q T1 T0 n sz:Nat}{nl:Bool}{el:Nat->Nat->E}{x:E}
 (hid:σ.bo id=some (.cells T1 [x])) (hq:σ.bo q=some (.row nl T0 n sz el)) (jM:id≠q) {b:Nat} (hv:L.val id = .pointer (some ⟨b,0,none⟩)) {w':World} (hw:w'.heap[b]? = some (.cells #[L.val q] T1 (0,0)))
 (ht:sF L w id (L.own id) w'):∃ L',jC w0 B (σ.oL<|.sy id q<|.nL nl T1 T0 1 sz (λ_=>n) (λ_=>el) none) a w' L':=by
 let L':Lk:=⟨λi=>L.np i/\i≠q,λi y=>if i=id then L.own id y\/L.own q y else L.own i y/\i≠q,λi=>if i=id then .slice (some ⟨b,0,none⟩) 1 1 else L.val i,λi j=>if i=id then L.val q else L.ji i j⟩
 have aln:∀ y,j8 L' y->j8 L y:=by
  rintro y ⟨i,hi⟩;by_cases e:i=id
  .have hi:L.own id y\/L.own q y:=by simpa[L',e]using hi
   rcases hi with h|h
   .exact ⟨id,h⟩
   .exact ⟨q,h⟩
  .have hi:L.own i y/\i≠q:=by simpa[L',e]using hi
   exact⟨i,hi.1⟩
 have as7:∀ y,j8 L y->j8 L' y:=by
  rintro y ⟨i,hi⟩;by_cases e:i=id\/i=q
  .refine ⟨id,?_⟩;show if id=id then L.own id y\/L.own q y else _
   rw[bA rfl];rcases e with e|e<;>subst e
   .exact .inl hi
   .exact .inr hi
  .have e1:i≠id:=λh=>e (.inl h)
   have e2:i≠q:=λh=>e<|.inr h
   refine⟨i,?_⟩;show if i=id then _ else L.own i y/\i≠q
   rw[bw e1];exact⟨hi,e2⟩
 have je:sZ L w L' w':=⟨ht.size,λy _ h=>aln y h,λy hy hm=>ht.pL y hy λho=>hm ⟨id,ho⟩⟩
 have lI:∀ i,i≠id->L'.val i=L.val i:=λi e=>by show(if i=id then _ else _)=_;rw[bw e]
 have BW:∀ i,i≠id->∀ j,L'.ji i j=L.ji i j:=λi e j=>by show(if i=id then _ else _)=_;rw[bw e]
 have mF:∀ i,i≠id->∀ y,L'.own i y↔L.own i y/\i≠q:=λi e y=>by show(if i=id then _ else _)↔_;rw[bw e]
 have A6:∀ y,L'.own id y↔L.own id y\/L.own q y:=λy=>by show(if id=id then _ else _)↔_;rw[bA rfl]
 obtain⟨b0,vs,i1,i2,i3,i4,i5⟩:=r.hb id _ hid;rw[hv]at i1;cases i1;obtain⟨f,q1,q2,q3⟩:=r.hb q _ hq;have tM:L.np id:=(r.hv id).2 (by rw[hid];rfl);have LR:∀ i y,i≠id->L.own i y->w'.heap[y]? = w.heap[y]?:=λi y e hy=>ht.pL y (r.hw i y hy).2 λho=>e<|r.hi i id y hy ho
 have jE:∀ i,(σ.oL<|.sy id q<|.nL nl T1 T0 1 sz (λ_=>n) (λ_=>el) none).bo i=if id=i then some (.nL nl T1 T0 1 sz (λ_=>n) (λ_=>el) none)else if i=q then none else σ.bo i:=by
  intro i;show look (vo (σ.b.filter λy=>!Nat.beq y.1 q) id _) i=_;rw[D4];by_cases e:id=i
  .rw [bA e,bA e]
  .rw [bw e,bw e,D3];by_cases e2:q=i
   .rw [bA e2,bA e2.symm]
   .rw [bw e2,bw λh=>e2 h.symm];rfl
 have yO:Below w0.heap.size w w':=⟨ht.os,ht.tape,ht.output,ht.size,λy hy=>ht.pL y (cg hy r.he.size) λho=>by have:=(r.hw id y ho).1;omega⟩
 have ln:(L.val q).oneCell'=true/\sw (L.val q)=false:=by
  rcases q1 with⟨h,_⟩|⟨b1,c1,cur,h,_⟩<;>rw[h]<;>exact⟨rfl,rfl⟩
 refine⟨L',r.hd,r.hs,λt=>?_,λi b' hb=>?_,λi=>?_,λi y hy=>?_,λi y hy=>?_,λi j y hi hj=>?_,r.he.trans yO,λzU i b' hb=>?_⟩
 .rw [PS.Dq];have k:=r.ht t;generalize σ.get t=p at k ⊢;cases hp:p.mN.any (λy=>Nat.beq id y||Nat.beq q y)with
  |false=>
   rw[adR hp];refine k.move je λi hi hl=>?_
   have:=dW.1 hp i hi;simp only[fj,not_or]at this;have e1:i≠id:=λe=>this.1<|by rw[e];exact cU _
   have e2:i≠q:=λe=>this.2<|by rw[e];exact cU _
   exact⟨⟨hl,e2⟩,lI i e1,BW i e1⟩
  |true=>
   by_cases jz:∃ i off,p = .box i off
   .obtain ⟨i,off,rfl⟩:=jz;obtain⟨k1,b1,k2,k3⟩:=k;by_cases e1:i=id
    .subst e1;by_cases e0:off=0
     .subst e0;simp only[PV.nX,cU,bW];rw[hv]at k2;cases k2;exact⟨⟨k1,jM⟩,b,1,1,by show(if i=i then _ else _)=_;rw[bA rfl],k3⟩
     .simp only[PV.nX,cU,bW,dC e0,cz,bN];exact .any _
    .have e2:i=q:=by
      simp only[PV.mN,fh,gJ,gj,fj]at hp;rcases hp with hp|hp
      .exact absurd (mg.1 hp).symm e1
      .exact (mg.1 hp).symm
     simp only[PV.nX,dC e1,cz,bN,e2,cU,bW];have e3:Nat.beq q id=false:=dC λh=>jM h.symm
     simp only[e3,cz,bN];exact .any _
   .rw [adQ hp λi off h=>jz ⟨i,off,h⟩];exact .any _
 .rw [jE]at hb;by_cases e:id=i
  .subst e;rw[bA rfl]at hb;cases hb;have Ir:∀ j,L'.ji id j=L.val q:=λj=>by show(if id=id then _ else _)=_;rw[bA rfl]
   refine .inr ⟨b,1,#[L.val q],λ_=>f,by show(if id=id then _ else _)=_;rw[bA rfl],hw,bB _,aK,rfl,λk hk _=>?_,λu hu=>?_,λk hk=>?_,λy=>?_,λk k' y hk BY _ _=> aI,λk hk=>?_⟩
   .obtain rfl:k=0:= aI ;rw[Ir];rfl
   .have:u=L.val q:=by simpa using hu
    rw[this];exact ln.2
   .rw [Ir];exact⟨q1.block λy hy=>LR q y (λh=>jM h.symm)<|(q2 y).2 hy,λi j hi hj=>⟨je.mc (q3 i j hi hj).1,(q3 i j hi hj).2⟩⟩
   .rw [A6];constructor
    .rintro (h|h)
     .exact .inl<|(i2 y).1 h
     .exact .inr ⟨0,aK,by rw[Ir];exact(q2 y).1 h⟩
    .rintro (h|⟨k,_,h⟩)
     .exact .inl<|(i2 y).2 h
     .rw [Ir]at h;exact .inr<|(q2 y).2 h
   .rw [Ir];intro h;exact jM<|r.hi id q b ((i2 b).2 rfl)<|(q2 b).2 h
  .rw [bw e]at hb;by_cases e2:i=q
   .rw [bA e2]at hb;cases hb
   .rw [bw e2]at hb;have e':i≠id:=λh=>e h.symm
    exact(r.hb i b' hb).later je (lI i e') (λy=>(mF i e' y).trans ⟨λh=>h.1,λh=>⟨h,e2⟩⟩) (BW i e') λy hy=>LR i y e' hy
 .rw [jE];show L.np i/\i≠q↔_;by_cases e:id=i
  .subst e;rw[bA rfl];exact⟨λ_=>rfl,λ_=>⟨tM,jM⟩⟩
  .rw [bw e];by_cases e2:i=q
   .subst e2;simp
   .rw [bw e2];exact⟨λh=>(r.hv i).1 h.1,λh=>⟨(r.hv i).2 h,e2⟩⟩
 .by_cases e:i=id
  .subst e;exact⟨tM,jM⟩
  .have:=(mF i e y).1 hy;exact⟨r.hn i y this.1,this.2⟩
 .by_cases e:i=id
  .subst e;rcases(A6 y).1 hy with h|h
   .exact ⟨(r.hw _ y h).1,cg (r.hw _ y h).2 ht.size⟩
   .exact ⟨(r.hw _ y h).1,cg (r.hw _ y h).2 ht.size⟩
  .have h:=((mF i e y).1 hy).1;exact⟨(r.hw _ y h).1,cg (r.hw _ y h).2 ht.size⟩
 .by_cases e1:i=id
  .by_cases e2:j=id
   .rw [e1,e2]
   .exfalso;subst e1;have h2:=(mF j e2 y).1 hj;rcases(A6 y).1 hi with h|h
    .exact e2<|r.hi j _ y h2.1 h
    .exact h2.2<|r.hi j q y h2.1 h
  .by_cases e2:j=id
   .exfalso;subst e2;have h1:=(mF i e1 y).1 hi;rcases(A6 y).1 hj with h|h
    .exact e1<|r.hi i _ y h1.1 h
    .exact h1.2<|r.hi i q y h1.1 h
   .exact r.hi i j y ((mF i e1 y).1 hi).1 ((mF j e2 y).1 hj).1
 .rw [jE]at hb;by_cases e:id=i
  .rw [bA e]at hb;cases hb;show nl=true;exact r.hl zU q (.row nl T0 n sz el) hq
  .rw [bw e]at hb;by_cases e2:i=q
   .rw [bA e2]at hb;cases hb
   .rw [bw e2]at hb;exact r.hl zU i b' hb
def Lk.rW(L:Lk)(id q:Nat)(O:Nat->Prop)(v:Value)(ji:Nat->Value):Lk:=
 {np:=λi=>(i=id\/L.np i)/\i≠q
  own:=λi x=>if i=id then O x else L.own i x/\i≠q
  val:=λi=>if i=id then v else L.val i
  ji:=λi j=>if i=id then ji j else L.ji i j }
def jC.rW{w0:World}{B:Nat->Prop}{σ:PS}{a:Act}{w:World}{L:Lk}(r:jC w0 B σ a w L){id q:Nat}(jM:id≠q)(b':Bx)(O:Nat->Prop)(v:Value)(ji:Nat->Value)(w':World)
 (hO:∀ x,O x->(L.own id x\/L.own q x\/w.heap.size<=x)/\x<w'.heap.size) (lJ:w.heap.size<=w'.heap.size) (yU:∀ x,x<w.heap.size->¬L.own id x->w'.heap[x]? = w.heap[x]?)
 (vc:w'.os=w.os) (Q9:w'.tape=w.tape) (pT:w'.output=w.output)
 (hB:sZ L w (L.rW id q O v ji) w'->rG (jx B<|L.rW id q O v ji) (j8<|L.rW id q O v ji) (L.rW id q O v ji) w' id b')
 (kY:L.np id->∀ b,L.val id ≠ .pointer (some b)) (kf:σ.nl=true->b'.nl=true):jC w0 B (σ.oL<|.sy id q b') a w'<|L.rW id q O v ji:=by
 have lI:∀ i,i≠id->(L.rW id q O v ji).val i=L.val i:=λi e=>by show(if i=id then _ else _)=_;rw[bw e]
 have BW:∀ i,i≠id->∀ j,(L.rW id q O v ji).ji i j=L.ji i j:=λi e j=>by show(if i=id then _ else _)=_;rw[bw e]
 have mF:∀ i,i≠id->∀ y,(L.rW id q O v ji).own i y↔L.own i y/\i≠q:=λi e y=>by show(if i=id then _ else _)↔_;rw[bw e]
 have A6:∀ y,(L.rW id q O v ji).own id y↔O y:=λy=>by show(if id=id then _ else _)↔_;rw[bA rfl]
 have je:sZ L w (L.rW id q O v ji) w':=by
  refine⟨lJ,λy hy h=>?_,λy hy hm=>yU y hy λho=>hm ⟨id,ho⟩⟩;obtain⟨i,hi⟩:=h;by_cases e:i=id
  .subst e;rcases(hO y<|(A6 y).1 hi).1 with h|h|h
   .exact ⟨i,h⟩
   .exact ⟨q,h⟩
   .omega
  .exact ⟨i,((mF i e y).1 hi).1⟩
 have jE:∀ i,(σ.oL<|.sy id q b').bo i=if id=i then some b' else if i=q then none else σ.bo i:=by
  intro i;show look (vo (σ.b.filter λy=>!Nat.beq y.1 q) id _) i=_;rw[D4];by_cases e:id=i
  .rw [bA e,bA e]
  .rw [bw e,bw e,D3];by_cases e2:q=i
   .rw [bA e2,bA e2.symm]
   .rw [bw e2,bw λh=>e2 h.symm];rfl
 have yO:Below w0.heap.size w w':=⟨vc,Q9,pT,lJ,λy hy=>yU y (cg hy r.he.size) λho=>by have:=(r.hw id y ho).1;omega⟩
 have LR:∀ i y,i≠id->L.own i y->w'.heap[y]? = w.heap[y]?:=λi y e hy=>yU y (r.hw i y hy).2 λho=>e<|r.hi i id y hy ho
 have hwl:∀ i y,L.own i y->w0.heap.size<=y/\y<w'.heap.size:=λi y h=>⟨(r.hw i y h).1,cg (r.hw i y h).2 lJ⟩
 refine⟨r.hd,r.hs,λt=>?_,λi b hb=>?_,λi=>?_,λi y hy=>?_,λi y hy=>?_,λi j y hi hj=>?_,r.he.trans yO,λzU i b hb=>?_⟩
 .rw [PS.Dq];have k:=r.ht t;generalize σ.get t=p at k ⊢;cases hp:p.mN.any (λy=>Nat.beq id y||Nat.beq q y)with
  |false=>
   rw[adR hp];refine k.move je λi hi hl=>?_
   have:=dW.1 hp i hi;simp only[fj,not_or]at this;have e1:i≠id:=λe=>this.1<|by rw[e];exact cU _
   have e2:i≠q:=λe=>this.2<|by rw[e];exact cU _
   exact⟨⟨.inr hl,e2⟩,lI i e1,BW i e1⟩
  |true=>
   by_cases jz:∃ i off,p = .box i off
   .obtain ⟨i,off,rfl⟩:=jz;obtain⟨k1,b1,k2,k3⟩:=k;by_cases e1:i=id
    .subst e1;exact absurd k2<|kY k1 _
    .have e2:i=q:=by
      simp only[PV.mN,fh,gJ,gj,fj]at hp;rcases hp with hp|hp
      .exact absurd (mg.1 hp).symm e1
      .exact (mg.1 hp).symm
     have e3:Nat.beq q id=false:=dC λh=>jM h.symm
     simp only[PV.nX,e2,e3,cU,bW,cz,bN];exact .any _
   .rw [adQ hp λi off h=>jz ⟨i,off,h⟩];exact .any _
 .rw [jE]at hb;by_cases e:id=i
  .subst e;rw[bA rfl]at hb;cases hb;exact hB je
  .rw [bw e]at hb;by_cases e2:i=q
   .rw [bA e2]at hb;cases hb
   .rw [bw e2]at hb;have e':i≠id:=λh=>e h.symm
    exact(r.hb i b hb).later je (lI i e') (λy=>(mF i e' y).trans ⟨λh=>h.1,λh=>⟨h,e2⟩⟩) (BW i e') λy hy=>LR i y e' hy
 .rw [jE];show(i=id\/L.np i)/\i≠q↔_;by_cases e:id=i
  .subst e;rw[bA rfl];exact⟨λ_=>rfl,λ_=>⟨.inl rfl,jM⟩⟩
  .rw [bw e];have e':i≠id:=λh=>e h.symm
   by_cases e2:i=q
   .subst e2;simp
   .rw [bw e2];exact⟨λh=>(r.hv i).1<|h.1.resolve_left e',λh=>⟨.inr<|(r.hv i).2 h,e2⟩⟩
 .by_cases e:i=id
  .subst e;exact⟨.inl rfl,jM⟩
  .have:=(mF i e y).1 hy;exact⟨.inr<|r.hn i y this.1,this.2⟩
 .by_cases e:i=id
  .subst e;obtain⟨h,h2⟩:=hO y<|(A6 y).1 hy;rcases h with h|h|h
   .exact ⟨(r.hw _ y h).1,h2⟩
   .exact ⟨(r.hw _ y h).1,h2⟩
   .exact ⟨b9 r.he.size h,h2⟩
  .exact hwl i y ((mF i e y).1 hy).1
 .have cross:∀ j,j≠id->L.own j y/\j≠q->O y->False:=by
   intro j e h2 h;rcases(hO y h).1 with h|h|h
   .exact e<|r.hi j _ y h2.1 h
   .exact h2.2<|r.hi j q y h2.1 h
   .have:=(r.hw j y h2.1).2;omega
  by_cases e1:i=id
  .by_cases e2:j=id
   .rw [e1,e2]
   .subst e1;exact(cross j e2 ((mF j e2 y).1 hj)<|(A6 y).1 hi).elim
  .by_cases e2:j=id
   .subst e2;exact(cross i e1 ((mF i e1 y).1 hi)<|(A6 y).1 hj).elim
   .exact r.hi i j y ((mF i e1 y).1 hi).1 ((mF j e2 y).1 hj).1
 .rw [jE]at hb;by_cases e:id=i
  .rw [bA e]at hb;cases hb;exact kf zU
  .rw [bw e]at hb;by_cases e2:i=q
   .rw [bA e2]at hb;cases hb
   .rw [bw e2]at hb;exact r.hl zU i b hb
section
variable{L:Lk}{id q:Nat}{O:Nat->Prop}{v:Value}{ji:Nat->Value}
def Lk.ZO(x:Nat):(L.rW id q O v ji).own id x↔O x:=by simp[Lk.rW]
def Lk.IY:(L.rW id q O v ji).val id=v:=by simp[Lk.rW]
def Lk.Ab(k:Nat):(L.rW id q O v ji).ji id k=ji k:=by simp[Lk.rW]
end
def Lk.Ru{L:Lk}{id q:Nat}(jM:id≠q){O:Nat->Prop}{v:Value}{ji:Nat->Value}:(L.rW id q O v ji).np id:=⟨.inl rfl,jM⟩
def jC.WM{w0:World}{B:Nat->Prop}{σ:PS}{a:Act}{w:World}{L:Lk}(r:jC w0 B σ a w L)(id:Nat):∃ L',jC w0 B (σ.oL<|.fin id) a w L'/\(∀ i x,L'.own i x->L.own i x)/\(σ.oL<|.fin id).bo id=none:=by
 let L':Lk:=⟨λi=>L.np i/\i≠id,λi x=>L.own i x/\i≠id,L.val,L.ji⟩
 have je:sZ L w L' w:=⟨bB _,λx _ ⟨i,h,_⟩=>⟨i,h⟩,λ_ _ _=>rfl⟩
 have uf:∀ i,(σ.oL<|.fin id).bo i=if i=id then none else σ.bo i:=by
  intro i;show look (σ.b.filter λx=>!Nat.beq x.1 id) i=_;rw[D3];by_cases h:i=id
  .rw [bA h,bA h.symm]
  .rw [bw h,bw λe=>h e.symm];rfl
 refine⟨L',⟨r.hd,r.hs,λt=>?_,λi b' h=>?_,λi=>?_,λi x h=>⟨r.hn i x h.1,h.2⟩,λi x h=>r.hw i x h.1,λi i' x h k=>r.hi i i' x h.1 k.1,r.he,λh i b' k=>?_⟩,λi x h=>h.1,by rw[uf,bA rfl]⟩
 .rw [PS.Dq];have k:=r.ht t;generalize σ.get t=p at k ⊢;show nY _ _ _ _ (if p.mN.any (Nat.beq id)then .e .any else p) _;cases hp:p.mN.any (Nat.beq id)with
  |true=>exact .any _
  |false=>
   refine nY.move je k λi hi tM=>⟨⟨tM,?_⟩,rfl,λ_=>rfl⟩
   rintro rfl;have:=dW.1 hp i hi;simp at this
 .rw [uf]at h;split at h
  .cases h
  .rename_i hi;exact(r.hb i b' h).later je rfl (λx=>⟨λq=>q.1,λq=>⟨q,hi⟩⟩) (λ_=>rfl) λ_ _=>rfl
 .rw [uf];show L.np i/\i≠id↔_;by_cases hi:i=id
  .subst hi;simp
  .simp only[hi,dS,fi,gl,bN];exact r.hv i
 .rw [uf]at k;split at k
  .cases k
  .exact r.hl h i b' k
def W7(σ:PS)(id:Nat)(b:Bx):(σ.oL<|.fin id).oL (.new id b)=σ.oL (.CG id b):=by
 have h:vo (σ.b.filter λx=>!Nat.beq x.1 id) id b=vo σ.b id b:=by
  unfold vo;rw[List.filter_filter];congr 2;funext x;cases Nat.beq x.1 id<;>rfl
 show PS.mk σ.n σ.nl (σ.t.map _) (vo (σ.b.filter λx=>!Nat.beq x.1 id) id b)=PS.mk σ.n σ.nl (σ.t.map _) (vo σ.b id b);rw[h];rfl
def adN{T:List TI}{t:TypeId}{x:TI}(h:nB T t=some x):x ∈ T/\x.id=t:=by
 induction T with
 |nil=>cases h
 |cons y l ih=>
  unfold nB at h;split at h
  .rename_i hb;cases h;exact⟨aP,mg.1 hb⟩
  .obtain ⟨h1,h2⟩:=ih h;exact⟨by simp[h1],h2⟩
section
variable{P:Program}{T:List TI}(hT:ni P T){t:TypeId}{x:TI}(h:nB T t=some x)
def ni.sf:P.underlying t=some x.d:=by
 obtain⟨h1,h2⟩:=adN h;rw[<-h2];exact(hT x h1).1
def ni.Bd:P.info? t=some x.i:=by
 obtain⟨h1,h2⟩:=adN h;rw[<-h2];exact(hT x h1).2
end
def BO{T:List TI}{t:TypeId}{d:TypeDesc}(h:yF T t=some d):∃ x,nB T t=some x/\x.d=d:=by
 unfold yF at h;split at h
 .rename_i x hx;exact⟨x,hx,by simpa using h⟩
 .cases h
section
variable {P:Program} {T:List TI} (hT:ni P T) (w:World)
include hT
section
variable{t:TypeId}{x:TI}(h:nB T t=some x)
def vn:(sizeOf t).run P w = .ok x.i.size w:=by
 simp[sizeOf,typeInfo,hT.Bd h]
def SS{z:Value}(hz:x.i.zero=some z):(zeroValue t).run P w = .ok z w:=by
 simp[zeroValue,typeInfo,hT.Bd h,hz]
def M7:(isAgg t).run P w = .ok x.isAgg w:=by
 unfold isAgg TI.isAgg;rw[Sem.run_bind,run_underlying (hT.sf h) w];cases x.d<;>simp
def acE(ha:x.isAgg=true)(b o:Nat)(vs:List Value)(hl:vs.length=x.i.size)
 (hc:∀ (j:Nat) (u:Value),vs[j]? = some u->w.cell? ⟨b,o+j,none⟩=some u):(loadVar t ⟨b,o,none⟩).run P w = .ok (.agg vs.toArray) w:=by
 have hr:=run_loadCells_list (P:=P) w ⟨b,o,none⟩ vs (λj v hv=>by rw[Addr.add_lit];exact hc j v hv);rw[hl]at hr;simp[loadVar,M7 hT w h,ha,vn hT w h,hr]
def SR(ha:x.isAgg=false)(b o:Nat)(u:Value)(hc:w.cell? ⟨b,o,none⟩=some u):(loadVar t ⟨b,o,none⟩).run P w = .ok u w:=by
 simp[loadVar,M7 hT w h,ha,hc]
def M8(b o:Nat)(E:TypeId)(cur:Array Value)(hg:w.heap[b]? = some (.cells cur E (0,0)))(v:Value)(hl:v.cells.toList.length=x.i.size)
 (pA:o+v.cells.toList.length<=cur.size) (h1:∀ u ∈ v.cells.toList,u.oneCell'=true):
 (storeVar t ⟨b,o,none⟩ v).run P w = .ok () (w.setRow b (cur.toList.take o++v.cells.toList++cur.toList.drop (o+v.cells.toList.length)).toArray):=by
 have hr:=run_storeCells_at P b o E v.cells.toList 0 cur w hg (by simpa using pA) h1;simp only[ch]at hr;have qm:v.cells.size=x.i.size:=by simpa using hl
 simp only[storeVar,Sem.run_bind,vn hT w h,Result.andThen,qm,dS,atI,bN,hr,Sem.run_ite,Sem.run_pure]
end
end
def sF.setRow{L:Lk}{w:World}{id b:Nat}(hb:L.own id b)(je:∀ x,L.own id x->x<w.heap.size)(cs:Array Value):sF L w id (L.own id)<|w.setRow b cs:=
 ⟨λx hx=>⟨.inl hx,by simpa using je x hx⟩,aP,λx _ jM=>setRow_other w b x cs λe=>jM<|e▸hb,rfl,rfl,rfl⟩
def kC(P:Program)(K:World->Prop)(w0:World)(B:Nat->Prop)(σ:PS)(o:Oper)(a:Act)(w:World)(u:lq):Prop:=
 ∃ v w' L',((execOp a.eval o).run P w = .ok (.value v) w'\/((execOp a.eval o).run P w = .ok .skip w'/\v=undef))/\jC w0 B (σ.oL u.f) a w' L'/\nY (jx B L') (j8 L') L' w' u.r v
section
variable {P:Program} {K:World->Prop} {w0:World} {B:Nat->Prop} {σ:PS} {o:Oper} {a:Act} {w:World} {L:Lk} {u:lq}
def kC.pure(r:jC w0 B σ a w L){v:Value}(lN:(execOp a.eval o).run P w = .ok (.value v) w)(hf:u.f = .none)(hp:nY (jx B L) (j8 L) L w u.r v):kC P K w0 B σ o a w u:=
 ⟨v,w,L,.inl lN,by rw[hf];exact r,hp⟩
def jC.read(r:jC w0 B σ a w L){p:PV}{v:Value}(hp:nY (jx B L) (j8 L) L w p v){m:Nat}{l:List E}{is:List Nat}{jX:List Prop}(h:σ.read p m=some (l,is,jX))(ho:∀ q,q ∈ jX->q):
 ∃ b q vs,v = .pointer (some ⟨b,q,none⟩)/\kR (jx B L) (j8 L) w l vs/\vs.length=m/\∀ (j:Nat) (u:Value),vs[j]? = some u->w.cell? ⟨b,q+j,none⟩=some u:=by
 have tab:∀ (b q:Nat) (g:Nat->E) (f:Nat->Value),(∀ j,j<m->w.cell? ⟨b,q+j,none⟩=some (f j)/\jd (jx B L) (j8 L) w (g j) (f j)) ->
  ∃ vs:List Value,kR (jx B L) (j8 L) w ((List.range m).map g) vs/\vs.length=m/\∀ (j:Nat) (u:Value),vs[j]? = some u->w.cell? ⟨b,q+j,none⟩=some u:=by
  intro b q g f hc;refine⟨(List.range m).map f,⟨aP,λi p x hp hx=>?_⟩,aP,λj u hu=>?_⟩
  .rw [dA]at hp hx;obtain⟨i1,zR,rfl⟩:=dB.1 hp;obtain⟨i2,yR,rfl⟩:=dB.1 hx;rw[zR]at yR;cases yR;obtain⟨je,rfl⟩:=cP.1 zR;simp at je;simpa using(hc i je).2
  .rw [dA]at hu;obtain⟨i1,zR,rfl⟩:=dB.1 hu;obtain⟨je,rfl⟩:=cP.1 zR;simp at je;simpa using(hc j je).1
 cases p with
 |box id off=>
  simp only[PS.read]at h;split at h
  .rename_i T l0 jE;split at h
   .rename_i hle;simp only[bT,cD]at h;obtain⟨rfl,rfl,rfl⟩:=h;obtain⟨b,vs,h1,h2,h3,h4,h5⟩:=r.hb id _ jE;obtain⟨_,b',k2,rfl⟩:=hp;rw[h1]at k2;cases k2;have Ft:=dx hle;refine⟨b,off,(vs.drop off).take m,rfl,(h4.drop off).take m,by simp[h4.len];omega,λj u hu=>?_⟩;rw[fC]at hu;split at hu
    .rw [fD]at hu;simp only[World.cell?,h3];simpa using hu
    .cases hu
   .cases h
  .cases h
 |oW id sz i j=>
  simp only[PS.read]at h;split at h
  .rename_i nl T n s el jE;split at h
   .rename_i hle;simp only[bT,cD]at h;obtain⟨rfl,rfl,rfl⟩:=h;simp only[cr]at hle;have e1:=mg.1 hle.1;have e2:=dx hle.2;subst e1;have hi:i<n:=ho _ aP;obtain⟨f,h1,h2,h3⟩:=r.hb id _ jE;obtain⟨_,b,n',c',k2,rfl⟩:=hp;rcases h1 with⟨h1,_⟩|⟨b',c,cur,h1,hg,qd,oq,pk,ln,kf⟩
    .rw [k2]at h1;cases h1
    .rw [k2]at h1;cases h1;obtain⟨vs,q1,q2,q3⟩:=tab b (i*s+j) (λq=>el i<|j+q) (λq=>f i<|j+q) (λq hq=>⟨by
      simp only[World.cell?,hg];have:=(ln i (j+q) hi aI).1;rw[<-dm]at this;simpa using this,(h3 i (j+q) hi aI).1⟩)
     exact⟨b,i*s+j,vs,rfl,q1,q2,q3⟩
   .cases h
  .cases h
 |rV id sz k i j=>
  simp only[PS.read]at h;split at h
  .rename_i nl T1 T0 n s len el pend jE;split at h
   .rename_i hle;simp only[bT,cD]at h;obtain⟨rfl,rfl,rfl⟩:=h;simp only[cr]at hle;have e1:=mg.1 hle.1;have e2:=dx hle.2;subst e1;have hk:k<n:=ho _ aP;have hi:i<len k:=ho _ aP;obtain⟨b0,c0,cur0,f,g1,g2,g3,g4,g5,g6,g7,g8,_⟩:=(r.hb id _ jE).yo aI;obtain⟨h1,h3⟩:=g8 k hk;obtain⟨_,b,n',c',k2,rfl⟩:=hp;rcases h1 with⟨h1,_⟩|⟨b',c,cur,h1,hg,qd,oq,pk,ln,kf⟩
    .rw [k2]at h1;cases h1
    .rw [k2]at h1;cases h1;obtain⟨vs,q1,q2,q3⟩:=tab b (i*s+j) (λq=>el k i<|j+q) (λq=>f k i<|j+q) (λq hq=>⟨by
      simp only[World.cell?,hg];have:=(ln i (j+q) hi aI).1;rw[<-dm]at this;simpa using this,(h3 i (j+q) hi aI).1⟩)
     exact⟨b,i*s+j,vs,rfl,q1,q2,q3⟩
   .cases h
  .cases h
 |e x=>
  cases x with
  |ky k el=>
   simp only[PS.read]at h;split at h
   .rename_i hle;simp only[bT,cD]at h;obtain⟨rfl,rfl,rfl⟩:=h;have Ft:=dx hle;cases hp with
    |ky _ _ b q f hb je hl cell kk=>
     obtain⟨vs,q1,q2,q3⟩:=tab b q el f λj hj=>⟨cell j aI,kk j aI⟩;exact⟨b,q,vs,rfl,q1,q2,q3⟩
   .cases h
  |_=>cases h
 |_=>cases h
def Gy{ti:TI}{l:List E}(h:AD ti=some l):∃ z,ti.i.zero=some z/\∀ (bs br:Nat->Prop) (w:World),kR bs br w l z.cells.toList/\∀ u ∈ z.cells.toList,u.oneCell'=true:=by
 unfold AD at h;split at h
 .rename_i z hz;exact⟨z,hz,λbs br w=>(jd.v (bs:=bs) (br:=br) (w:=w) z).cells h⟩
 .cases h
def jC.aaP(r:jC w0 B σ a w L)(id:Nat)(T:TypeId)(l:List E)(v:Value)(kY:σ.bo id=none)(hv:kR (jx B L) (j8 L) w l v.cells.toList)(h1:∀ u ∈ v.cells.toList,u.oneCell'=true)
 (kf:(!σ.nl||l.all E.oe)=true):
 ∃ L',jC w0 B (σ.oL<|.new id<|.cells T l) a (w.alloc<|.cells v.cells T) L'/\nY (jx B L') (j8 L') L' (w.alloc<|.cells v.cells T) (.box id 0) (.pointer<|some ⟨w.heap.size,0,none⟩):=by
 have hb:Below w.heap.size w<|w.alloc<|.cells v.cells T:=(Below.refl _ _).alloc (bB _) _;have Yz:∀ x,¬L.own id x:=λx hx=>by have:=(r.hv id).1<|r.hn id x hx;rw[kY]at this;simp at this
 have ht:sF L w id (λx=>x=w.heap.size)<|w.alloc<|.cells v.cells T:=⟨λx hx=>⟨.inr aI,aV⟩,hb.size,λx hx _=>hb.block x hx,rfl,rfl,rfl⟩
 have hl:=ht.later (.pointer<|some ⟨w.heap.size,0,none⟩) λ_=>undef;refine⟨_,r.new id (.cells T l) (λx=>x=w.heap.size) (.pointer<|some ⟨w.heap.size,0,none⟩) (λ_=>undef) _ kY (λx hx=>by subst hx;simp) hb
  ⟨w.heap.size,v.cells.toList,Lk.qx,λx=>Lk.uD x,by rw[Array.toArray_toList];exact heap_alloc_new w _,hv.mono λ_ _=>hl.mc,h1⟩ kf,Lk.CJ,w.heap.size,Lk.qx,rfl⟩
def Mo{d:Option Tmp}{b:Bx}{rr:Nat->PV}(h:Cn σ d b rr=some u):∃ id,d=some id/\(!σ.nl||b.nl)=true/\u={ r:=rr id,f:=wK σ id b,rb:=Bk σ id [] }:=by
 unfold Cn at h;split at h
 .rename_i id;split at h
  .rename_i hc;cases h;exact⟨id,rfl,hc,rfl⟩
  .cases h
 .cases h
def jC.aaQ(r:jC w0 B σ a w L)(id:Nat)(T:TypeId)(l:List E)(v:Value)(hv:kR (jx B L) (j8 L) w l v.cells.toList)(h1:∀ u ∈ v.cells.toList,u.oneCell'=true)
 (kf:(!σ.nl||l.all E.oe)=true):
 ∃ L',jC w0 B (σ.oL<|wK σ id<|.cells T l) a (w.alloc<|.cells v.cells T) L'/\nY (jx B L') (j8 L') L' (w.alloc<|.cells v.cells T) (.box id 0) (.pointer<|some ⟨w.heap.size,0,none⟩):=by
 unfold wK;split
 .rename_i kY;exact r.aaP id T l v kY hv h1 kf
 .obtain ⟨L1,r1,ho,kY⟩:=r.WM id;have hm:∀ x,j8 L1 x->j8 L x:=λx ⟨i,hi⟩=>⟨i,ho i x hi⟩
  obtain⟨L',r',hp⟩:=r1.aaP id T l v kY (hv.mono λ_ _=>jd.rf (λx h=>h.elim .inl λh=>.inr<|hm x h) hm) h1 kf;rw[W7]at r';exact⟨L',r',hp⟩
def Jd{d:Option Tmp}{b:Bx}{rr:Nat->PV}{jX:List Prop}(h:Bi σ d b rr jX=some u):∃ id,d=some id/\σ.bo id=none/\(!σ.nl||b.nl)=true/\u={ r:=rr id,f:=.new id b,jX:=jX }:=by
 unfold Bi at h;split at h
 .rename_i id;split at h
  .rename_i kY;split at h
   .rename_i hc;cases h;exact⟨id,rfl,kY,hc,rfl⟩
   .cases h
  .cases h
 .cases h
end
def J3{k:IntKind}{z:Int}(h:ny k z):k.wrap z=z:=by
 cases k<;>simp only[ny]at h<;>simp only[IntKind.wrap,IntKind.bits,IntKind.signed]<;>simp<;>(try split)<;>omega
def aqC{k:IntKind}{x y:Int}(h:ny k x)(hy:0<y):ny k<|x.tdiv y:=by
 by_cases h0:0<=x
 .have h1:0<=x/y:=Int.ediv_nonneg h0 aI ;have h2:x/y<=x:=Int.ediv_le_self y h0;rw[aub h0];cases k<;>simp only[ny]at h ⊢ <;> omega
 .obtain ⟨z,rfl⟩:∃ z,x = -z:=⟨-x,aI⟩
  have h0:0<=z:= aI ;have h1:0<=z/y:=Int.ediv_nonneg h0 aI;have h2:z/y<=z:=Int.ediv_le_self y h0;rw[Int.neg_tdiv,aub h0];cases k<;>simp only[ny]at h ⊢ <;> omega
def aiV{P:Program}{op:BinOp}{k k':IntKind}{x y:Int}{v:Value}{jX:List Prop}(h:Pv op k x y=some (v,jX))(ho:∀ q,q ∈ jX->q)
 (hk:acH op k k'=true) (t:TypeId) (w:World):(binOp op t (.int k x)<|.int k' y).run P w = .ok v w:=by
 cases op<;>simp only[Pv,bT,cD,reduceCtorEq]at h<;>(obtain⟨rfl,rfl⟩:=h)<;>(try (have BY:=dK hk;subst BY))
 case add=>
  rw[binOp_add];by_cases Ll:k = .u32
  .subst Ll;simp[Op.intArith,On]
  .have e:On k x y=x+y:=by cases k<;>first|rfl|exact absurd rfl Ll
   have e2:UQ k x y=[ny k<|x+y]:=by cases k<;>first|rfl|exact absurd rfl Ll
   rw[e];simp[Op.intArith,J3<|ho (ny k<|x+y)<|by rw[e2];simp]
 case sub=>rw[binOp_sub];simp[Op.intArith,J3<|ho (ny k<|x-y) aP]
 case mul=>rw[binOp_mul];simp[Op.intArith,J3<|ho (ny k<|x*y) aP]
 case quo=>
  have h1:=ho (0<y) aP;have h2:=ho (ny k x) aP;rw[binOp_quo];have hy:¬y=0:= aI ;simp[Op.intDiv,hy,J3<|aqC h2 h1]
 case rem=>
  have h1:=ho (0<y) aP;rw[binOp_rem];have hy:¬y=0:= aI ;simp[Op.intDiv,hy]
 case and=>rw[binOp_and,intBits_and];rfl
 case or=>rw[binOp_or,intBits_or];rfl
 case shl=>
  have h1:=ho (0<=y/\y<=k.bits) aP;rw[binOp_shl,shift_shl k k' x y h1.1 h1.2];rfl
 case shr=>
  have h1:=ho (0<=y/\y<=k.bits) aP;rw[binOp_shr,shift_shr k k' x y h1.1 h1.2];rfl
 case eql=>rw[binOp_eql];rfl
 case neq=>rw[binOp_neq];rfl
 case lss=>rw[binOp_lss];rfl
 case leq=>rw[binOp_leq];rfl
 case gtr=>rw[binOp_gtr];rfl
 case geq=>rw[binOp_geq];rfl
section
variable {P:Program} {K:World->Prop} {T:List TI} {O:qY} {w0:World} {B:Nat->Prop} {σ:PS} {o:Oper} {a:Act} {w:World} {L:Lk} {u:lq}
def aki{x:Operand}(jf:o.op = .move x)(r:jC w0 B σ a w L)(h:jT P K T O σ o=some u):kC P K w0 B σ o a w u:=by
 simp only[jT,jf]at h;cases h;exact kC.pure r (by simp only[execOp,jf];rfl) rfl (r.op x)
def ajY{x:Operand}(jf:o.op = .assign x)(r:jC w0 B σ a w L)(h:jT P K T O σ o=some u):kC P K w0 B σ o a w u:=by
 simp only[jT,jf]at h;cases h;exact kC.pure r (by simp only[execOp,jf];rfl) rfl (r.op x)
def akk{c x y:Operand}(jf:o.op = .pick c x y)(r:jC w0 B σ a w L)(h:jT P K T O σ o=some u):kC P K w0 B σ o a w u:=by
 simp only[jT,jf]at h;have hc:=r.op c;split at h
 .rename_i hv;rw[hv]at hc;have hc:=jd.lh hc;cases h;exact kC.pure r (by simp[execOp,jf,hc,asBool]) rfl (r.op x)
 .rename_i hv;rw[hv]at hc;have hc:=jd.lh hc;cases h;exact kC.pure r (by simp[execOp,jf,hc,asBool]) rfl (r.op y)
 .cases h
def akj{x:Operand}(jf:o.op = .nilCheck x)(r:jC w0 B σ a w L)(h:jT P K T O σ o=some u):kC P K w0 B σ o a w u:=by
 simp only[jT,jf]at h;have hc:=r.op x;split at h
 .rename_i hv;rw[hv]at hc;cases h;obtain⟨k1,b,k2,k3⟩:=hc;exact kC.pure r (v:=a.eval x) (by simp[execOp,jf,k3]) rfl ⟨k1,b,k2,k3⟩
 .rename_i hv;rw[hv]at hc;cases h;generalize hq:a.eval x=q at hc;refine kC.pure r (v:=q) ?_ rfl hc;cases hc;simp only[execOp,jf,hq];rfl
 .rename_i hv;rw[hv]at hc;cases h;refine kC.pure r (v:=a.eval x) ?_ rfl hc;obtain⟨vs,e,_⟩:=jd.XO hc;simp only[execOp,jf,e];rfl
 .rename_i hv;rw[hv]at hc;cases h;refine kC.pure r (v:=a.eval x) ?_ rfl hc;obtain⟨vs,e,_⟩:=hc;simp only[execOp,jf,e];rfl
 .cases h
def ajZ(hT:ni P T){op:BinOp}{t yt:TypeId}{x y:Operand}(jf:o.op = .binOp op t x y yt)(r:jC w0 B σ a w L)(h:jT P K T O σ o=some u)(ho:∀ q,q ∈ u.jX->q):kC P K w0 B σ o a w u:=by
 simp only[jT,jf]at h;have hx:=r.op x;have hy:=r.op y;split at h
 .rename_i k z k' z' zY DR;rw[zY]at hx;rw[DR]at hy;split at h
  .rename_i v hv;cases h;obtain⟨h1,h2⟩:=ho _ (ij.2 rfl) _ _ w _ _ x y hx hy;refine kC.pure r (v:=v) ?_ rfl (.v _);simp only[execOp,jf,Sem.run_bind,h1,Result.andThen_ok,h2,Sem.run_pure]
  have hx:=jd.lh hx;have hy:=jd.lh hy;split at h
  .rename_i hk;obtain⟨rr,hr,rfl⟩:=dB.1 h;have lN:=aiV (P:=P) (k':=k') hr ho hk t w;refine kC.pure r (v:=rr.1) ?_ rfl (.v _);simp only[execOp,jf,hx,hy,Sem.run_bind,eqGuard_at_int,Sem.run_pure,Result.andThen_ok,lN]
  .cases h
 .rename_i z z' zY DR;rw[zY]at hx;rw[DR]at hy;have hx:=jd.lh hx;have hy:=jd.lh hy;split at h
  .rename_i hd;obtain⟨ti,h1,h2⟩:=BO hd;have hu:P.underlying t=some .bool:=by rw[hT.sf h1,h2]
   split at h
   .cases h;refine kC.pure r (v:=.bool<|z==z') ?_ rfl (.v _);simp only[execOp,jf,hx,hy,Sem.run_bind,eqGuard_at_bool,Sem.run_pure,Result.andThen_ok,run_eql_bool w t z z' hu]
   .cases h;refine kC.pure r (v:=.bool<|!(z==z')) ?_ rfl (.v _);simp only[execOp,jf,hx,hy,Sem.run_bind,eqGuard_at_bool,Sem.run_pure,Result.andThen_ok];have:(binOp .neq t (.bool z)<|.bool z').run P w = .ok (.bool<|!(z==z')) w:=by
     simp only[binOp,Sem.run_bind,run_equal_bool w t z z' hu,Result.andThen_ok,Sem.run_pure]
    rw[this];rfl
   .cases h
  .cases h
 .rename_i nl n sz el zY DR;rw[zY]at hx;rw[DR]at hy;have hy:=jd.lh hy;have hx:jd (jx B L) (j8 L) w (.sl nl n sz el)<|a.eval x:=hx;split at h
  .rename_i e hd;obtain⟨ti,h1,h2⟩:=BO hd;have hu:P.underlying t=some (.slice e):=by rw[hT.sf h1,h2]
   have key:∀ A c,0<n->a.eval x = .slice A n c->jd (jx B L) (j8 L) w (.sl nl n sz el) (.slice A n c)->A.isNone=false:=by
    intro A c hn e1 hr;cases A with
    |some ad=>rfl
    |none=>
     cases hr with
     |sl _ _ _ _ _ _ f hc hm h0=>have:=h0 rfl;omega
   generalize hv:a.eval x=vx at hx;cases hx with
   |sl _ _ _ _ A c f hc hm h0 hl hr cell k=>
    have s8:jd (jx B L) (j8 L) w (.sl nl n sz el)<|.slice A n c:=.sl nl n sz el A c f hc hm h0 hl hr cell k;split at h
    .cases h;have hn:0<n:=ho _ aP;refine kC.pure r (v:=.bool false) ?_ rfl (.v _);simp only[execOp,jf,hv,hy,Sem.run_bind,eqGuard_at_slice,Sem.run_pure,Result.andThen_ok,Lib.run_eql_slice_nil w t e A n c 0 0 hu,key A c hn hv s8]
    .cases h;have hn:0<n:=ho _ aP;refine kC.pure r (v:=.bool true) ?_ rfl (.v _);simp only[execOp,jf,hv,hy,Sem.run_bind,eqGuard_at_slice,Sem.run_pure,Result.andThen_ok,run_neq_slice_nil_any w t e A n c 0 0 hu,key A c hn hv s8,fe]
    .cases h
  .cases h
 .rename_i xe ye zY DR;rw[zY]at hx;rw[DR]at hy;split at h
  .rename_i v hv;cases h;obtain⟨h1,h2⟩:=ho _ (ij.2 rfl) _ _ w _ _ x y hx hy;refine kC.pure r (v:=v) ?_ rfl (.v _);simp only[execOp,jf,Sem.run_bind,h1,Result.andThen_ok,h2,Sem.run_pure]
  .cases h
 .cases h
def akn{op:UnOp}{t:TypeId}{x:Operand}(jf:o.op = .unOp op t x)(r:jC w0 B σ a w L)(h:jT P K T O σ o=some u)(ho:∀ q,q ∈ u.jX->q):kC P K w0 B σ o a w u:=by
 simp only[jT,jf]at h;have hx:=r.op x;split at h
 .rename_i z hv;rw[hv]at hx;have hx:=jd.lh hx;cases h;exact kC.pure r (v:=.bool<|!z) (by simp[execOp,jf,hx,Op.unary]) rfl (.v _)
 .rename_i k z hv;rw[hv]at hx;have hx:=jd.lh hx;cases h;have:=J3<|ho (ny k<|0-z) aP;refine kC.pure r (v:=.int k<|0-z) ?_ rfl (.v _);simp only[execOp,jf,hx,Op.unary,Op.intArith,this];rfl
 .cases h
def aj3(hT:ni P T){src dst:TypeId}{x:Operand}(jf:o.op = .convert src dst x)(r:jC w0 B σ a w L)(h:jT P K T O σ o=some u):kC P K w0 B σ o a w u:=by
 simp only[jT,jf]at h;have hx:=r.op x;split at h
 .rename_i k ts k' z hd hs hv;rw[hv]at hx;have hx:=jd.lh hx;obtain⟨td,h1,h2⟩:=BO hd;have hu:P.underlying dst=some (.int k):=by rw[hT.sf h1,h2]
  have hk:P.intKind dst=k:=by simp[Program.intKind,hu]
  have lN:=run_convert_int (P:=P) w src dst k' z (by rw[hT.sf hs];rfl) (by rw[hk];exact hu);rw[hk]at lN;cases h;exact kC.pure r (v:=.int k<|k.wrap z) (by simp only[execOp,jf,hx,Sem.run_bind,lN];rfl) rfl (.v _)
 .cases h
def aj4{x:Operand}{i:Nat}(jf:o.op = .extract x i)(r:jC w0 B σ a w L)(h:jT P K T O σ o=some u):kC P K w0 B σ o a w u:=by
 simp only[jT,jf]at h;have hx:=r.op x;split at h
 .rename_i l hv;rw[hv]at hx;obtain⟨vs,e,hr⟩:=jd.adI hx;split at h
  .rename_i y hy;cases h;have je:i<vs.length:=by rw[hr.len];exact(cP.1 hy).1
   have FE:=bS je;refine kC.pure r (v:=vs[i]) ?_ rfl (hr.mc i y _ hy FE);simp only[execOp,jf,e,Instr.extract,ie,FE];rfl
  .cases h
 .cases h
def aat{bs:Nat->Prop}{z:Int}{e:E}:∀ {l:List<|Int×FuncId×List FuncId} {es:List MapEntry} (i:Nat),CW bs w l es->D5 l z=some e->(∀ b,j8 L b->bs b) ->
 ∃ j v,Instr.findNow (.int .i64) (.int .i64 z) es i=some (some (j,v))/\jd bs (j8 L) w e v
 | [],_,_,_,h,_=>by cases h
 |_::_,[],_,k,_,_=>k.elim
 |x::l,y::es,i,⟨⟨k1,vs,k2,k3,k4⟩,k⟩,h,hm=>by
  unfold D5 at h;have e0:Instr.sameNow (.int .i64) (.int .i64 z) y.key=some (z==x.1):=by rw[k1];rfl
  by_cases hz:x.1=z
  .rw [bA hz]at h;cases h;have e1:(z==x.1)=true:=by simp[hz]
   refine⟨i,y.val,?_,?_⟩
   .rw [Instr.findNow,e0,e1]
   .rw [k2];refine .fn _ _ vs (by simpa using k3) λj p v hp hv=>?_
    rw[dA]at hp;obtain⟨g,hg,rfl⟩:=dB.1 hp;obtain⟨b,rfl,q2,q3,q4⟩:=k4 j g v hg hv;have hc:∀ q,q<1->w.cell? ⟨b,0+q,none⟩=some (.func (.func g) #[] #[]):=λq hq=>by
     obtain rfl:q=0:= aI ;exact q4
    exact .ky 1 _ b 0 (λ_=>.func (.func g) #[] #[]) (λh=>q2<|hm b h) q3 (λ_ _=>rfl) hc λ_ _=>.fn g [] [] rfl (λi p x h=>by simp at h)
  .rw [bw hz]at h;have e1:(z==x.1)=false:=by simp;exact λe=>hz e.symm
   obtain⟨j,v,q1,q2⟩:=aat (i+1) k h hm;exact⟨j,v,by rw[Instr.findNow,e0,e1];exact q1,q2⟩
def ahp{k:TypeId}(hk:P.underlying k=some (.int .i64))(e:Bool)(n:Nat)(z:Int):(Instr.checkKey e (n+1) k<|.int .i64 z).run P w = .ok () w:=by
 unfold Instr.checkKey;simp only[Sem.run_bind,run_underlying hk,Result.andThen];rfl
def akc(hT:ni P T){t:TypeId}{x i:Operand}{ok:Bool}(jf:o.op = .lookup t x i ok)(r:jC w0 B σ a w L)(h:jT P K T O σ o=some u)(ho:∀ q,q ∈ u.jX->q):kC P K w0 B σ o a w u:=by
 cases ok with
 |true=>simp[jT,jf]at h
 |false=>
 simp only[jT,jf]at h;have hx:=r.op x;have hi:=r.op i;split at h
 .rename_i l z k e0 hv hw hd;obtain⟨ti,h1,h2⟩:=BO hd;have hu:P.underlying t=some (.map k e0):=by rw[hT.sf h1,h2]
  rw[hv]at hx;rw[hw]at hi;have hi:=jd.lh hi;split at h
  .rename_i e ug hg;obtain⟨tk,h3,h4⟩:=BO ug;have hk:P.underlying k=some (.int .i64):=by rw[hT.sf h3,h4]
   cases h;have QG:D5 l z=some e:=ho _ aP;generalize hq:a.eval x=q at hx;cases hx with
   |mp _ b clk es hb je hh mf=>
    obtain⟨j,v,q1,q2⟩:=aat (w:=w) (L:=L) 0 mf QG λb h=>.inr h
    refine kC.pure r (v:=v) ?_ rfl q2;have xd:(getObj b).run P w = .ok (.map es clk) w:=by simp[getObj,Sem.run,hh]
    have Qv:=ahp (P:=P) (w:=w) hk es.isEmpty 9999 z;have hfk:(Instr.findKey k (.int .i64 z) es.toList).run P w = .ok (some (j,v)) w:=by unfold Instr.findKey;simp[run_underlying hk,Result.andThen,q1]
    have hl:(Instr.lookup t (.map<|some b) (.int .i64 z) false).run P w = .ok v w:=by
     unfold Instr.lookup;simp[run_underlying hu,xd,Qv,hfk,Result.andThen]
    simp only[execOp,jf,hq,hi,Sem.run_bind,hl,Result.andThen_ok,Sem.run_pure]
  .cases h
 .cases h
def aj5(hT:ni P T){t:TypeId}{x:Operand}{f:Nat}(jf:o.op = .field t x f)(r:jC w0 B σ a w L)(h:jT P K T O σ o=some u):kC P K w0 B σ o a w u:=by
 simp only[jT,jf]at h;have hx:=r.op x;split at h
 .rename_i l fs hv hd;obtain⟨ti,h1,h2⟩:=BO hd;have hu:P.underlying t=some (.struct fs):=by rw[hT.sf h1,h2]
  rw[hv]at hx;obtain⟨vs,e,hr⟩:=jd.GK hx;split at h
  .rename_i fd QD;split at h
   .rename_i ft QF;split at h
    .cases h
    .rename_i hag;split at h
     .rename_i y hy;cases h;have je:fd.offset<vs.length:=by rw[hr.len];exact(cP.1 hy).1
      have FE:=bS je;refine kC.pure r (v:=vs[fd.offset]) ?_ rfl (hr.mc fd.offset y _ hy FE);simp only[execOp,jf,e,Instr.field,asAgg,Sem.run_bind,Sem.run_pure,Result.andThen_ok,run_underlying hu,QD,part,M7 hT w QF,hag,ie,FE];rfl
     .cases h
   .cases h
  .cases h
 .cases h
def afT{ps:List PV}{l:List CV}{vs:List Value}(h:yD ps=some l)(hlen:vs.length=ps.length)(hr:∀ (i:Nat) (p:PV) (x:Value),ps[i]? = some p->vs[i]? = some x->nY (jx B L) (j8 L) L w p x):
 vs.length=l.length/\∀ (i:Nat) (c:CV) (x:Value),l[i]? = some c->vs[i]? = some x->yx (jx B L) (j8 L) L w c x:=by
 induction ps generalizing l vs with
 |nil=>cases h;exact⟨hlen,λi c x hc=>by simp at hc⟩
 |cons p ps ih=>
  cases vs with
  |nil=>simp at hlen
  |cons y vs=>
   have step:∀ (c0:CV) (l':List CV),yD ps=some l'->yx (jx B L) (j8 L) L w c0 y->l=c0::l' ->
    (y::vs).length=l.length/\∀ (i:Nat) (c:CV) (x:Value),l[i]? = some c->(y::vs)[i]? = some x->yx (jx B L) (j8 L) L w c x:=by
    intro c0 l' qm nD hl;obtain⟨i1,i2⟩:=ih qm (by simpa using hlen) (λi p x hp hx=>hr (i+1) p x (by simpa using hp)<|by simpa using hx);subst hl;refine⟨by simp[i1],λi c x hc hx=>?_⟩;cases i with
    |zero=>simp at hc hx;subst hc hx;exact nD
    |succ i=>simp at hc hx;exact i2 i c x hc hx
   have h0:=hr 0 p y rfl rfl;cases p with
   |e x=>
    simp only[yD]at h;obtain⟨l',qm,rfl⟩:=dB.1 h;exact step (.e x) l' qm h0 rfl
   |box id off=>
    cases off with
    |zero=>
     simp only[yD]at h;obtain⟨l',qm,rfl⟩:=dB.1 h;exact step (.box id) l' qm h0 rfl
    |succ=>simp[yD]at h
   |oW id sz i j=>
    simp only[yD]at h;split at h
    .rename_i hc;simp only[cr]at hc;obtain rfl:=mg.1 hc.1.1;obtain rfl:=mg.1 hc.1.2;obtain rfl:=mg.1 hc.2;obtain⟨l',qm,rfl⟩:=dB.1 h;obtain⟨k1,b,n,c,k2,k3⟩:=h0;exact step (.row id) l' qm ⟨k1,b,n,c,k2,by simpa using k3⟩ rfl
    .cases h
   |_=>simp[yD]at h
def akd{fn:Fn}{first cap:Array Operand}(jf:o.op = .makeFunc fn first cap)(r:jC w0 B σ a w L)(h:jT P K T O σ o=some u):kC P K w0 B σ o a w u:=by
 cases fn with
 |func f=>
  simp only[jT,jf]at h;split at h
  .rename_i ak0;have hf:first = #[]:=by simpa using ak0
   subst hf;split at h
   .rename_i l hl;cases h;have hc:=afT (B:=B) (L:=L) (w:=w) (vs:=cap.toList.map a.eval) hl aP (λi p x hp hx=>by
     rw[dA]at hp hx;obtain⟨q,hq,rfl⟩:=dB.1 hp;rw[hq]at hx;simp at hx;subst hx;exact r.op q)
    refine kC.pure r (v:=.func (.func f) #[] (cap.toList.map a.eval).toArray) ?_ rfl ⟨cap.toList.map a.eval,rfl,hc.1,hc.2⟩;have e1:cap.map a.eval=(cap.toList.map a.eval).toArray:=by apply eg;simp
    have e2:(#[]:Array Operand).map a.eval = #[]:= aP ;simp only[execOp,jf,Instr.makeFunc,e1,e2,Sem.run_bind,Sem.run_pure,Result.andThen_ok]
   .cases h
  .cases h
 |_=>simp[jT,jf]at h
def aj7(hT:ni P T){t:TypeId}{x i:Operand}(jf:o.op = .index t x i)(r:jC w0 B σ a w L)(h:jT P K T O σ o=some u)(ho:∀ q,q ∈ u.jX->q):kC P K w0 B σ o a w u:=by
 simp only[jT,jf]at h;have hx:=r.op x;have hi:=r.op i;split at h
 .rename_i l k z hv hw;rw[hv]at hx;rw[hw]at hi;have ei:=jd.lh hi;obtain⟨vs,e,hr⟩:=jd.GK hx;split at h
  .rename_i tt rp;split at h
   .rename_i n e' hd;have hu:P.underlying t=some (.array n e'):=by rw[hT.sf rp,hd]
    split at h
    .rename_i te ou;split at h
     .rename_i hc;simp only[cr,mg]at hc;cases h;obtain⟨sQ,rU⟩:=ho (0<=z/\z<n) aP;refine kC.pure r (v:=.agg ((vs.drop<|z.toNat*te.i.size).take te.i.size).toArray) ?_ rfl ((hr.drop _).take _).agg;simp only[execOp,jf,e,ei,Instr.index,asIntOf,Sem.run_bind,Sem.run_pure,Result.andThen_ok,run_underlying hu,sQ,rU,and_self,bW,vn hT w ou,part,M7 hT w ou,hc.1];simp
     .cases h
    .cases h
   .cases h
  .cases h
 .cases h
def aj6(hT:ni P T){t:TypeId}{x:Operand}{f:Nat}(jf:o.op = .fieldAddr t x f)(r:jC w0 B σ a w L)(h:jT P K T O σ o=some u):kC P K w0 B σ o a w u:=by
 simp only[jT,jf]at h;have hx:=r.op x;split at h
 .rename_i fs hd;obtain⟨ti,h1,h2⟩:=BO hd;have hu:P.underlying t=some (.struct fs):=by rw[hT.sf h1,h2]
  split at h
  .rename_i fd QD;split at h
   .rename_i ft QF;split at h
    .cases h
    .rename_i jM;have alo:¬ft.i.size=0:=λe=>jM (mg.2 e)
     have lN:∀ b off,a.eval x = .pointer (some ⟨b,off,none⟩)->(execOp a.eval o).run P w = .ok (.value<|.pointer<|some ⟨b,off+fd.offset,none⟩) w:=by
      intro b off e;simp only[execOp,jf,e,Instr.fieldAt,Instr.sureAddr,fieldPlace,Sem.run_bind,run_underlying hu,Result.andThen_ok,QD,Sem.run_pure,vn hT w QF,alo,bN,Addr.add_lit]
     split at h
     .rename_i id off hv;rw[hv]at hx;obtain⟨k1,b,k2,k3⟩:=hx;cases h;exact kC.pure r (lN b off k3) rfl ⟨k1,b,k2,rfl⟩
     .rename_i id sz i j hv;rw[hv]at hx;obtain⟨k1,b,n,c,k2,k3⟩:=hx;cases h;exact kC.pure r (lN b _ k3) rfl ⟨k1,b,n,c,k2,by rw[dm]⟩
     .rename_i id sz k i j hv;rw[hv]at hx;obtain⟨k1,b,n,c,k2,k3⟩:=hx;cases h;exact kC.pure r (lN b _ k3) rfl ⟨k1,b,n,c,k2,by rw[dm]⟩
     .rename_i m el hv;rw[hv]at hx;split at h
      .rename_i hle;have Ft:=dx hle;cases h;generalize hq:a.eval x=q at hx;cases hx with
       |ky _ _ b off g hb je hl cell kk=>
        refine kC.pure r (lN b off hq) rfl (.ky _ _ b _ (λj=>g<|fd.offset+j) hb je (λj hj=>hl _ aI) (λj hj=>?_) λj hj=>kk _ aI);have:=cell (fd.offset+j) aI;rwa[<-dm]at this
      .cases h
     .cases h
   .cases h
  .cases h
 .cases h
end
section
variable {P:Program} {K:World->Prop} {T:List TI} {O:qY} {w0:World} {B:Nat->Prop} {σ:PS} {o:Oper} {a:Act} {w:World} {L:Lk} {u:lq}
section
variable(hT:ni P T){t:TypeId}{x:Operand}
def amL{ti:TI}(rS:nB T t=some ti)(jf:o.op = .load t x)(r:jC w0 B σ a w L)(h:I8 ti (σ.read (σ.op x) ti.i.size)=some u)(ho:∀ q,q ∈ u.jX->q):kC P K w0 B σ o a w u:=by
 cases hr:σ.read (σ.op x) ti.i.size with
 |none=>rw[hr]at h;cases h
 |some y=>
  obtain⟨l,is,jX⟩:=y;rw[hr]at h;simp only[I8]at h;by_cases ha:ti.isAgg=true
  .rw [bA ha]at h;cases h;obtain⟨b,q,vs,e,h1,h2,h3⟩:=r.read (r.op x) hr ho;refine kC.pure r (v:=.agg vs.toArray) ?_ rfl h1.agg;simp only[execOp,jf,e,Instr.loadAt,Instr.sureAddr,Sem.run_bind,Sem.run_pure,Result.andThen_ok,acE hT w rS ha b q vs h2 h3]
  .rw [bw ha]at h;have Qk:ti.isAgg=false:=by simpa using ha
   split at h
   .rename_i p;cases h;obtain⟨b,q,vs,e,h1,h2,h3⟩:=r.read (r.op x) hr ho;obtain⟨y,ys,rfl,hy,DS⟩:=h1.nc;refine kC.pure r (v:=y) ?_ rfl hy;have hc:=h3 0 y rfl;simp only[execOp,jf,e,Instr.loadAt,Instr.sureAddr,Sem.run_bind,Sem.run_pure,Result.andThen_ok,SR hT w rS Qk b q y<|by simpa using hc]
   .cases h
def akb(jf:o.op = .load t x)(r:jC w0 B σ a w L)(h:jT P K T O σ o=some u)(ho:∀ q,q ∈ u.jX->q):kC P K w0 B σ o a w u:=by
 simp only[jT,jf,K9]at h;split at h
 .rename_i ti rS;split at h
  .rename_i id i n qV;by_cases ha:ti.isAgg=true
   .rw [bA ha]at h;cases h
   .rw [bw ha]at h;have Qk:ti.isAgg=false:=by simpa using ha
    cases h;have hx:=r.op x;cases hp:σ.op x with
    |oW id' sz i' j=>
     rw[hp]at qV hx;simp only[Eo]at qV;split at qV
     .rename_i nl T1 T0 n' sz' len el jE;split at qV
      .rename_i hc;simp only[bT,cD]at qV;obtain⟨rfl,rfl,rfl⟩:=qV;simp only[cr]at hc;have e1:=mg.1 hc.1;have e2:=mg.1 hc.2;subst e1 e2;have hi:i'<n':=ho _ aP;obtain⟨b,c,cur,f,h1,h2,h3,h4,h5,h6,h7,h8,h9,rM,ue⟩:=(r.hb id' _ jE).yo aI;obtain⟨k1,b',n2,c2,k2,k3⟩:=hx;rw[h1]at k2;cases k2;refine kC.pure r (v:=L.ji id' i') ?_ rfl ⟨k1,rfl⟩;have ln:w.cell? ⟨b,i'*1+0,none⟩=some (L.ji id' i'):=by
        simp only[World.cell?,h2];simpa using h6 i' hi aP 
       simp only[execOp,jf,k3,Instr.loadAt,Instr.sureAddr,Sem.run_bind,Sem.run_pure,Result.andThen_ok,SR hT w rS Qk b _ _ ln]
      .cases qV
     .cases qV
    |_=>rw[hp]at qV;cases qV
  .exact amL hT rS jf r h ho
 .cases h
end
def abl{bs br:Nat->Prop}{l m:List E}{vs us:List Value}(h:kR bs br w l vs)(k:kR bs br w m us)(off:Nat):kR bs br w (Cw l off m)<|vs.take off++us++vs.drop (off+us.length):=by
 unfold Cw;rw[k.len];exact((h.take off).app k).app<|h.drop _
def aoC{q:E->Bool}{l m:List E}(h:l.all q=true)(k:m.all q=true)(off:Nat):(Cw l off m).all q=true:=by
 unfold Cw;rw[List.all_append,List.all_append,k];have h1:(l.take off).all q=true:=cL.2 λx hx=>cL.1 h x<|fQ hx
 have h2:(l.drop<|off+m.length).all q=true:=cL.2 λx hx=>cL.1 h x<|fR hx
 rw[h1,h2];rfl
def akm(hT:ni P T){t:TypeId}{x y:Operand}(jf:o.op = .store t x y)(r:jC w0 B σ a w L)(h:jT P K T O σ o=some u)(ho:∀ q,q ∈ u.jX->q):kC P K w0 B σ o a w u:=by
 simp only[jT,jf,Lc]at h;have hx:=r.op x;have hy:=r.op y;split at h
 .rename_i ti rS;split at h
  .
   rename_i id off e pK DL;rw[pK]at hx;rw[DL]at hy;split at h
   .rename_i T1 l m jE hm;split at h
    .rename_i hc;cases h;simp only[cr]at hc;have c1:=mg.1 hc.1.1;have c2:=dx hc.1.2;obtain⟨b,vs,h1,h2,h3,h4,h5⟩:=r.hb id _ jE;obtain⟨k1,b',k2,k3⟩:=hx;rw[h1]at k2;cases k2;obtain⟨q1,q2⟩:=hy.cells hm;have ht:=sF.setRow (L:=L) ((h2 b).2 rfl) (λx hx=>(r.hw id x hx).2) (vs.take off++(a.eval y).cells.toList++vs.drop (off+(a.eval y).cells.toList.length)).toArray;have hl:=ht.later (L.val id)<|L.ji id;refine⟨undef,_,_,.inr ⟨?_,rfl⟩,r.xA id (.cells T1<|Cw l off m) _ k1 ht ⟨b,_,by rw[Lk.qx];exact h1,λx=>(Lk.uD x).trans<|h2 x,setRow_heap w b _ _ T1 _ h3,(abl h4 q1 off).mono λ_ _=>hl.mc,?_⟩ ?_,.any _⟩
     .have hr:=M8 hT w rS b off T1 vs.toArray h3 (a.eval y) (by rw[q1.len,c1]) (by rw[q1.len,gG,h4.len];exact c2) q2;simp only[execOp,jf,k3,Instr.storeAt,Instr.sureAddr,Sem.run_bind,Sem.run_pure,Result.andThen_ok,hr]
     .intro v hv;simp only[eJ]at hv;rcases hv with(hv|hv)|hv
      .exact h5 v<|fQ hv
      .exact q2 v hv
      .exact h5 v<|fR hv
     .intro hn;have:=hc.2;rw[hn]at this;exact aoC (r.hl hn id _ jE) (by simpa using this) off
    .cases h
   .cases h
  .
   rename_i id q pK DL;rw[pK]at hx;rw[DL]at hy;split at h
   .rename_i T1 x0 nl T0 n sz el jE uU;split at h
    .rename_i hc;cases h;simp only[cr,eU]at hc;have jM:id≠q:=λe=>by rw[e,cU]at hc;cases hc.1
     have c1:=mg.1 hc.2;obtain⟨b,vs,h1,h2,h3,h4,h5⟩:=r.hb id _ jE;obtain⟨k1,b',k2,k3⟩:=hx;rw[h1]at k2;cases k2;obtain⟨_,DT⟩:=hy;obtain⟨v0,rfl⟩:∃ v0,vs=[v0]:=by
      have:=h4.len;rcases vs with _|⟨v0,_|⟨v1,vs⟩⟩
      .simp at this
      .exact ⟨v0,rfl⟩
      .simp at this
     obtain⟨f,g1,_⟩:=r.hb q _ uU;have ln:(L.val q).cells.toList=[L.val q]/\(L.val q).oneCell'=true:=by
      rcases g1 with⟨g,_⟩|⟨b1,c1,cur,g,_⟩<;>rw[g]<;>exact⟨rfl,rfl⟩
     have ht:=sF.setRow (L:=L) ((h2 b).2 rfl) (λx hx=>(r.hw id x hx).2) #[L.val q];obtain⟨L',hr⟩:=r.sy jE uU jM h1 (setRow_heap w b _ _ T1 _ h3) ht;refine⟨undef,_,L',.inr ⟨?_,rfl⟩,hr,.any _⟩;have lN:=M8 hT w rS b 0 T1 #[v0] h3 (a.eval y) (by rw[DT,ln.1,c1];rfl) (by rw[DT,ln.1];exact bB 1) (by rw[DT,ln.1];exact λu hu=>by rw[ij.1 hu];exact ln.2);rw[DT,ln.1]at lN;simp only[execOp,jf,k3,Instr.storeAt,Instr.sureAddr,Sem.run_bind,Sem.run_pure,Result.andThen_ok,DT,lN];rfl
    .cases h
   .cases h
  .
   rename_i id sz i j e pK DL;rw[pK]at hx;rw[DL]at hy;split at h
   .rename_i nl T1 n s el m jE hm;split at h
    .rename_i hc;cases h;simp only[cr]at hc;have c1:=mg.1 hc.1.1.1.1;have c2:=mg.1 hc.1.1.1.2;have c3:=dx hc.1.1.2;subst c2;have hi:i<n:=ho _ aP;obtain⟨f,h1,h2,h3⟩:=r.hb id _ jE;obtain⟨k1,b',n',c',k2,k3⟩:=hx;rcases h1 with⟨h1,_⟩|⟨b,c,cur,h1,hg,qd,oq,pk,ln,kf⟩
     .rw [k2]at h1;cases h1
     .rw [k2]at h1;cases h1;obtain⟨q1,q2⟩:=hy.cells hm;have mF:L.own id b':=(h2 b').2 (by rw[k2];rfl);have as5:i*s+s<=cur.size:=by
       rw[pk];have:=cC s (aI:i+1<=c');rwa[ca,cj]at this
      have pA:i*s+j+(a.eval y).cells.toList.length<=cur.size:=by rw[q1.len];omega
      have ht:=sF.setRow (L:=L) mF (λx hx=>(r.hw id x hx).2) (cur.toList.take (i*s+j)++(a.eval y).cells.toList++cur.toList.drop (i*s+j+(a.eval y).cells.toList.length)).toArray;have hl:=ht.later (L.val id)<|L.ji id;refine⟨undef,_,_,.inr ⟨?_,rfl⟩,r.xA id _ _ k1 ht ⟨λi' j'=>if i'=i/\j<=j'/\j'<j+m.length then(a.eval y).cells.toList.getD (j'-j) undef else f i' j',?_,λx=>?_,?_⟩ ?_,.any _⟩
      .have hr:=M8 hT w rS b' (i*s+j) T1 cur hg (a.eval y) (by rw[q1.len,c1]) pA q2;simp only[execOp,jf,k3,Instr.storeAt,Instr.sureAddr,Sem.run_bind,Sem.run_pure,Result.andThen_ok,hr]
      .rw [Lk.qx];refine .inr ⟨b',c',_,k2,setRow_heap w b' _ _ T1 _ hg,qd,oq,?_,?_,?_⟩
       .simp only[gG,c9,cS,fE,ek];have alb:=pA;simp only[ek]at alb;rw[dV aI];omega
       .intro i' j' kG uh;obtain⟨o1,o2⟩:=ln i' j' kG uh;have hlen:i'*s+j'<cur.size:=by
         rw[pk];have:=cC s (aI:i'+1<=c');rw[ca,cj]at this;omega
        have qP:i'≠i->i'*s+j'<i*s\/i*s+s<=i'*s+j':=by
         intro jM;rcases Nat.lt_or_gt_of_ne jM with je|je
         .left;have:=cC s<|show i'+1<=i from je;rw[ca,cj]at this;omega
         .right;have:=cC s<|show i+1<=i' from je;rw[ca,cj]at this;omega
        simp only[ie];rw[List.append_assoc,gz,cS,ek,dV aI];by_cases nx:i'=i/\j<=j'/\j'<j+m.length
        .obtain ⟨rfl,p1,p2⟩:=nx;rw[bw aI,fY<|by rw[q1.len];omega];have e1:i'*s+j'-(i'*s+j)=j'-j:= aI ;have je:j'-j<(a.eval y).cells.toList.length:=by rw[q1.len];omega
         rw[bA ⟨rfl,p1,p2⟩,e1,bJ,bS je];exact⟨rfl,q2 _<|dI je⟩
        .rw [bw nx];refine⟨?_,o2⟩;by_cases lu:i'*s+j'<i*s+j
         .rw [bA lu,fC,bA lu];simpa using o1
         .rw [bw lu,gF,fD]
          .have:i*s+j+(a.eval y).cells.toList.length+(i'*s+j'-(i*s+j)-(a.eval y).cells.toList.length)=i'*s+j':=by
            rw[q1.len];by_cases Ip:i'=i
            .subst Ip;omega
            .have:=qP Ip;omega
           rw[this];simpa using o1
          .rw [q1.len];by_cases Ip:i'=i
           .subst Ip;omega
           .have:=qP Ip;omega
       .intro hn v hv;simp only[ig,eJ]at hv;rcases hv with(hv|hv)|hv
        .exact kf hn v<|by have:=fQ hv;simpa using this
        .obtain ⟨q,hq⟩:=ej.1 hv;have xU:q<m.length:=by rw[<-q1.len];exact(cP.1 hq).1
         have hmn:m.all E.oe=true:=by have:=hc.1.2;rw[hn]at this;simpa using this
         exact(q1.mc q _ v (bS xU) hq).oe<|cL.1 hmn _<|dI xU
        .exact kf hn v<|by have:=fR hv;simpa using this
      .rw [Lk.qx];exact(Lk.uD x).trans<|h2 x
      .intro i' j' kG uh;refine(λ(q:jd _ _ _ _ _/\_)=>⟨hl.mc q.1,q.2⟩) (?_:_/\_);dsimp only;by_cases nx:i'=i/\j<=j'/\j'<j+m.length
       .rw [bA nx,bA nx];have LO:j'-j<m.length:= aI ;have II:j'-j<(a.eval y).cells.toList.length:=by rw[q1.len];omega
        rw[bJ,bS LO,bJ,bS II];exact⟨q1.mc _ _ _ (bS LO)<|bS II,cL.1 hc.2 _<|dI LO⟩
       .rw [bw nx,bw nx];exact h3 i' j' kG uh
      .intro hn;have:=r.hl hn id _ jE;exact this
    .cases h
   .cases h
  .
   rename_i id i id' k pK DL;rw[pK]at hx;rw[DL]at hy;split at h
   .rename_i nl T1 T0 n sz len el k' jE;split at h
    .rename_i hc;cases h;simp only[cr]at hc;have c1:=mg.1 hc.1;have c2:=mg.1 hc.2;subst c1;have e1:i=k':=ho _ aP;have e2:k=k':=ho _ aP;have hk:k'<n:=ho _ aP;subst e1 e2;obtain⟨b,c,cur,f,h1,h2,h3,h4,h5,h6,h7,h8,h9,rM,ue⟩:=(r.hb id _ jE).yo aI;obtain⟨k1,b',n',c',k2,k3⟩:=hx;obtain⟨_,FH⟩:=hy;rw[h1]at k2;cases k2;have B6:(L.ji id k).oneCell'=true/\sw (L.ji id k)=false/\(L.ji id k).cells = #[L.ji id k]:=by
      rcases(h8 k hk).1 with⟨e,_⟩|⟨_,_,_,e,_⟩<;>rw[e]<;>exact⟨rfl,rfl,rfl⟩
     have mF:L.own id b:=(h9 b).2<|.inl rfl;have ht:=sF.setRow (L:=L) mF (λx hx=>(r.hw id x hx).2) (cur.toList.take (k*1+0)++(a.eval y).cells.toList++cur.toList.drop (k*1+0+(a.eval y).cells.toList.length)).toArray;have hl:=ht.later (L.val id)<|L.ji id;have zQ:(a.eval y).cells.toList=[L.ji id k]:=by rw[FH,B6.2.2]
     have Yx:(cur.toList.take (k*1+0)++(a.eval y).cells.toList++cur.toList.drop (k*1+0+(a.eval y).cells.toList.length)).toArray=cur.setIfInBounds k (L.ji id k):=by
      rw[zQ];apply eg;simp only[cG,ch,gX,auc];rw[List.set_eq_take_append_cons_drop,bA<|by simpa using(aI:k<cur.size)];simp
     rw[Yx]at ht hl;have yU:∀ x,x≠b->(w.setRow b<|cur.setIfInBounds k<|L.ji id k).heap[x]? = w.heap[x]?:=λx hx=>setRow_other w b x _ hx
     refine⟨undef,_,_,.inr ⟨?_,rfl⟩,r.xA id _ _ k1 ht (.inr ⟨b,c,cur.setIfInBounds k<|L.ji id k,f,by rw[Lk.qx];exact h1,setRow_heap w b _ _ T1 _ h2,h3,h4,by simpa using h5,?_,?_,?_,?_,?_,?_⟩) ?_,.any _⟩
     .have hr:=M8 hT w rS b (k*1+0) T1 cur h2 (a.eval y) (by rw[zQ];simpa using c2.symm) (by rw[zQ];simp;omega) (by rw[zQ];simpa using B6.1);rw[Yx]at hr;simp only[execOp,jf,k3,Instr.storeAt,Instr.sureAddr,Sem.run_bind,Sem.run_pure,Result.andThen_ok,hr]
     .intro q hq _;rw[Lk.tp];by_cases wu:q=k
      .subst wu;have:q<cur.size:= aI ;simp[this]
      .rw [at7 λe=>wu e.symm];exact h6 q hq<|by simpa using λe=>wu e.symm
     .intro v hv;rcases Array.mem_or_eq_of_mem_setIfInBounds hv with hv|hv
      .exact h7 v hv
      .subst hv;exact B6.2.1
     .intro q hq;obtain⟨p1,p2⟩:=h8 q hq;rw[Lk.tp];exact⟨p1.block λx hx=>yU x λe=>ue q hq<|e▸hx,λi j hi hj=>⟨hl.mc (p2 i j hi hj).1,(p2 i j hi hj).2⟩⟩
     .intro x;rw[Lk.uD];refine(h9 x).trans ?_;simp only[Lk.tp]
     .simp only[Lk.tp];exact rM
     .simp only[Lk.tp];exact ue
     .intro hn;have:=r.hl hn id _ jE;exact this
    .cases h
   .cases h
  .cases h
 .cases h
def ajW(hT:ni P T){t:TypeId}(jf:o.op = .alloc t)(r:jC w0 B σ a w L)(h:jT P K T O σ o=some u):kC P K w0 B σ o a w u:=by
 simp only[jT,jf]at h;split at h
 .rename_i ti rS;split at h
  .rename_i z hz;obtain⟨id,hd,kf,rfl⟩:=Mo h;obtain⟨zv,um,sN⟩:=Gy hz;obtain⟨q1,q2⟩:=sN (jx B L) (j8 L) w;obtain⟨L',r',hp⟩:=r.aaQ id t z zv q1 q2 (by simpa[Bx.nl]using kf);refine⟨_,_,L',.inl ?_,r',hp⟩;simp only[execOp,jf,Instr.alloc,Sem.run_bind,SS hT w rS um,Result.andThen_ok,newVar,newRow,run_newObj_alloc,Sem.run_pure]
  .cases h
 .cases h
def aj0{t:TypeId}{x:Operand}(jf:o.op = .box t x)(r:jC w0 B σ a w L)(h:jT P K T O σ o=some u):kC P K w0 B σ o a w u:=by
 simp only[jT,jf]at h;have hx:=r.op x;split at h
 .rename_i e hv;rw[hv]at hx;split at h
  .rename_i l hl;obtain⟨id,hd,kf,rfl⟩:=Mo h;obtain⟨q1,q2⟩:=hx.cells hl;obtain⟨L',r',hp⟩:=r.aaQ id t l (a.eval x) q1 q2 (by simpa[Bx.nl]using kf);refine⟨_,_,L',.inl ?_,r',hp⟩;simp only[execOp,jf,Instr.box,Sem.run_bind,Result.andThen_ok,newVar,newRow,run_newObj_alloc,Sem.run_pure]
  .cases h
 .cases h
end
def ajF(us:List Value):∀ (off k:Nat) (cs:Array Value),off+k+us.length<=cs.size ->
 (us.zipIdx k).foldl (λcs (c:Value×Nat)=>cs.setIfInBounds (off+c.2) c.1) cs=(cs.toList.take (off+k)++us++cs.toList.drop (off+k+us.length)).toArray:=by
 induction us with
 |nil=>intro off k cs h;simp
 |cons x us ih=>
  intro off k cs h;simp only[List.zipIdx_cons,List.foldl_cons];rw[ih off (k+1) _<|by simp at h ⊢;omega];apply eg;simp only[dR]at h;obtain⟨A,y,D,pk,hA⟩:∃ A y D,cs.toList=A++y::D/\A.length=off+k:=by
   have je:off+k<cs.toList.length:= aV ;refine⟨cs.toList.take<|off+k,cs.toList[off+k],cs.toList.drop<|off+k+1,?_,by rw[cS];omega⟩;rw[<-fU je,atz]
  simp only[auc,dR,pk,<-hA];rw[List.set_append_right _ _<|bB _,dD,atJ,
   show off+(k+1)+us.length=A.length+(us.length+1)by omega,(aI:off+(k+1)=A.length+1),
   List.take_length_add_append,aud,List.take_left,aud]
  simp
def XF(place:Nat->Option (Nat×Nat))(cs:Array Value)(i:Nat)(v:Value)(rest:List<|Nat×Value)(off:Nat)(hp:place i=some (off,v.cells.toList.length))(pA:off+v.cells.toList.length<=cs.size):
 Instr.fill place cs ((i,v)::rest)=Instr.fill place (cs.toList.take off++v.cells.toList++cs.toList.drop (off+v.cells.toList.length)).toArray rest:=by
 have h1:¬(v.cells.size≠v.cells.toList.length\/off+v.cells.size>cs.size):=by simp at pA ⊢;omega
 have hf:=ajF v.cells.toList off 0 cs (by simpa using pA);simp only[ch]at hf;have h2:(v.cells.zipIdx.foldl (λcs (c,j)=>cs.setIfInBounds (off+j) c) cs)=(cs.toList.take off++v.cells.toList++cs.toList.drop (off+v.cells.toList.length)).toArray:=by
  rw[<-hf,<-Array.foldl_toList,Array.toList_zipIdx]
 rw[Instr.fill,hp];simp only;rw[bw<|by simpa using h1,h2]
section
variable {P:Program} {K:World->Prop} {T:List TI} {O:qY} {w0:World} {B:Nat->Prop} {σ:PS} {o:Oper} {a:Act} {w:World} {L:Lk} {u:lq}
def PL(r:jC w0 B σ a w L){place:Nat->Option (Nat×Nat)}{ps:List<|Nat×Operand}{l m:List E}{cs:Array Value}(h:tJ σ place l ps=some m)
 (hr:kR (jx B L) (j8 L) w l cs.toList) (h1:∀ u ∈ cs,u.oneCell'=true):
 ∃ cs',Instr.fill place cs (ps.map λx=>(x.1,a.eval x.2))=some cs'/\kR (jx B L) (j8 L) w m cs'.toList/\(∀ u ∈ cs',u.oneCell'=true):=by
 induction ps generalizing l cs with
 |nil=>
  simp only[tJ]at h;cases h;exact⟨cs,rfl,hr,h1⟩
 |cons p ps ih=>
  obtain⟨i,x⟩:=p;simp only[tJ]at h;have hx:=r.op x;split at h
  .rename_i off size e hp hv;rw[hv]at hx;split at h
   .rename_i q hq;split at h
    .rename_i hc;simp only[cr]at hc;have c1:=mg.1 hc.1;have c2:=dx hc.2;obtain⟨q1,q2⟩:=hx.cells hq;have hlen:(a.eval x).cells.toList.length=size:=by rw[q1.len,c1]
     have hcl:=hr.len;rw[ff,XF place cs i (a.eval x) _ off (by rw[hlen];exact hp)<|by rw[q1.len];simp at hcl;omega];refine ih h (abl hr q1 off) λv hv=>?_
     simp only[ig,eJ]at hv;rcases hv with(hv|hv)|hv
     .exact h1 v<|by have:=fQ hv;simpa using this
     .exact q2 v hv
     .exact h1 v<|by have:=fR hv;simpa using this
    .cases h
   .cases h
  .cases h
def Sb(ps:Array<|Nat×Operand)(a:Act):(ps.map λ(x:Nat×Operand)=>(x.1,a.eval x.2)).toList=ps.toList.map λx=>(x.1,a.eval x.2):= aP 
def aor{P:Program}(hT:ni P T){fs:List Field}{pl:List<|Nat×Nat}(h:Ju T fs=some pl):fs.mapM (λf=>(P.info? f.type).map λi=>(f.offset,i.size))=some pl:=by
 induction fs generalizing pl with
 |nil=>simp only[Ju]at h;cases h;rfl
 |cons f fs ih=>
  simp only[Ju]at h;split at h
  .rename_i ti l h1 h2;cases h;simp[il,hT.Bd h1,ih h2]
  .cases h
def aj1(hT:ni P T){t:TypeId}{ps:Array<|Nat×Operand}(jf:o.op = .build t ps)(r:jC w0 B σ a w L)(h:jT P K T O σ o=some u):kC P K w0 B σ o a w u:=by
 simp only[jT,jf]at h;have main:∀ (l:List E) (cs:Array Value),P.built t (ps.toList.map λx=>(x.1,a.eval x.2))=some cs->kR (jx B L) (j8 L) w l cs.toList->u={ r:=.e<|.agg l }->kC P K w0 B σ o a w u:=by
  intro l cs hb hr hu;subst hu;have lN:=run_build (P:=P) w t (ps.map λ(x:Nat×Operand)=>(x.1,a.eval x.2)) cs (by rw[Sb];exact hb);refine kC.pure r (v:=.agg cs) ?_ rfl (by have:=hr.agg;rwa[Array.toArray_toList]at this);simp only[execOp,jf,Sem.run_bind,lN,Result.andThen_ok,Sem.run_pure]
 split at h
 .rename_i ti rS;split at h
  .rename_i z hz;obtain⟨zv,um,sN⟩:=Gy hz;obtain⟨q1,q2⟩:=sN (jx B L) (j8 L) w;split at h
   .rename_i fs hd;split at h
    .rename_i pl DK;obtain⟨l,hl,rfl⟩:=dB.1 h;obtain⟨cs,p1,p2,_⟩:=PL r hl q1 (λu hu=>q2 u<|by simpa using hu);refine main l cs ?_ p2 rfl;unfold Program.built;rw[hT.Bd rS,hT.sf rS,hd];simp only[um,aor hT DK];have:(λx:Nat=>pl.toArray[x]?)=λx=>pl[x]?:=by funext x;simp
     rw[this];exact p1
    .cases h
   .rename_i n e hd;split at h
    .rename_i te ou;obtain⟨l,hl,rfl⟩:=dB.1 h;obtain⟨cs,p1,p2,_⟩:=PL r hl q1 (λu hu=>q2 u<|by simpa using hu);refine main l cs ?_ p2 rfl;unfold Program.built;rw[hT.Bd rS,hT.sf rS,hd];simp only[um,hT.Bd ou];exact p1
    .cases h
   .cases h
  .cases h
 .cases h
def ach{α:Type}(n:Nat)(l:List α):(mc n l).length=n*l.length:=by
 induction n with
 |zero=>simp[mc]
 |succ n ih=>simp only[mc,c9,ih,ca,cj];omega
def aqt{α:Type}(n:Nat)(l:List α)(q:Nat)(h:q<n*l.length):(mc n l)[q]? = l[q%l.length]?:=by
 induction n generalizing q with
 |zero=>simp at h
 |succ n ih=>
  simp only[mc];rw[ca,cj]at h;by_cases hq:q<l.length
  .rw [fY hq,cw hq]
  .rw [gF aI,ih _ aI];congr 1;exact(Nat.mod_eq_sub_mod aI).symm
def aqu{bs br:Nat->Prop}{z:List E}{zs:Array Value}(h:kR bs br w z zs.toList)(n:Nat):kR bs br w (mc n z) ((Array.range<|n*zs.size).map (zs[· % zs.size]!)).toList:=by
 have hl:=h.len;simp only[ek]at hl;refine⟨by simp[ach,hl],λi p x hp hx=>?_⟩;have hi:i<n*zs.size:=by
  have:=(cP.1 hx).1;simpa using this
 have hz:0<zs.size:=by
  rcases fg zs.size with h0|h0
  .rw [h0]at hi;simp at hi
  .exact h0
 rw[aqt _ _ _<|by rw[<-hl];exact hi,<-hl]at hp;have je:=bQ i hz;simp[hi]at hx;subst hx;rw[gh zs _ je];exact h.mc _ p _ hp<|by simp[je]
def ac7(hB:∀ b,B b->b<w0.heap.size)(r:jC w0 B σ a w L)(e:TypeId)(n sz:Nat)(l:List E)(cs:Array Value)(nl:Bool)(hr:kR (jx B L) (j8 L) w l cs.toList)(h1:∀ u ∈ cs,u.oneCell'=true)(hlen:cs.size=n*sz)
 (A5:n<=9223372036854775807) (kf:nl=true->l.all E.oe=true) (uY:l.all (E.nr 2)=true):
 jC w0 B σ a (w.alloc<|.cells cs e) L/\jd (jx B L) (j8 L) (w.alloc<|.cells cs e) (.sl nl n sz λi j=>l.getD (i*sz+j)<|.v<|.bool false) (.slice (some ⟨w.heap.size,0,none⟩) n n):=by
 have hb:Below w.heap.size w<|w.alloc<|.cells cs e:=(Below.refl _ _).alloc (bB _) _;have hl:sZ L w L<|w.alloc<|.cells cs e:=⟨hb.size,λ_ _ h=>h,λx hx _=>hb.block x hx⟩
 refine⟨r.later hb,?_⟩;have nx:∀ i j,i<n->j<sz->i*sz+j<cs.size:=by
  intro i j hi hj;rw[hlen];have:=cC sz<|show i+1<=n from hi;rw[ca,cj]at this;omega
 have QP:=hr.len;simp only[ek]at QP;refine .sl nl n sz _ _ n (λi j=>cs.getD (i*sz+j) undef) (bB _) A5 (λh=>by cases h) (λi j hi hj=>?_) (λi j hi hj=>?_) (λi j hi hj=>?_) λi j hi hj=>?_
 .have hq:=nx i j hi hj;have e1:cs.getD (i*sz+j) undef=cs[i*sz+j]:=by simp[hq]
  rw[e1];refine⟨h1 _<|ic hq,λqp=>?_⟩;have xj:i*sz+j<l.length:= aI ;exact(hr.mc (i*sz+j) _ _ (bS xj)<|by simp[hq]).oe<|cL.1 (kf qp) _<|dI xj
 .have hq:=nx i j hi hj;have xj:i*sz+j<l.length:= aI ;rw[bJ,bS xj];exact cL.1 uY _<|dI xj
 .have hq:=nx i j hi hj;refine⟨w.heap.size,0,rfl,λqR=>?_,aP,?_⟩
  .rcases qR with hx|⟨id,hx⟩
   .have:=hB _ hx;have:=r.he.size;omega
   .have:=(r.hw id _ hx).2;omega
  .rw [cJ,World.cell?_alloc_new];simp[hq]
 .have hq:=nx i j hi hj;have xj:i*sz+j<l.length:= aI ;have e1:cs.getD (i*sz+j) undef=cs[i*sz+j]:=by simp[hq]
  rw[e1,bJ,bS xj];exact hl.mc<|hr.mc (i*sz+j) _ _ (bS xj)<|by simp[hq]
def amC{l:List E}{vs:List Value}{bs br:Nat->Prop}{w:World}(h:kR bs br w l vs)(hl:l.all E.oe=true):∀ v ∈ vs,sw v=false:=by
 intro v hv;obtain⟨i,hi⟩:=ej.1 hv;obtain⟨zR,_⟩:=cP.1 hi;have Iq:i<l.length:=by have:=h.len;omega
 exact(h.mc i _ v (bS Iq) hi).oe<|cL.1 hl _<|dI Iq
def V6(w:World)(hT:ni P T){t e:TypeId}{by_:Nat}(h:KP T t=some (e,by_)):∃ te zv uz,P.underlying t=some (.slice e)/\nB T e=some te/\te.i.size=1/\te.i.bytes=by_/\1<=by_/\te.i.zero=some zv/\zv.cells = #[uz]/\uz.oneCell'=true/\sw uz=false:=by
 unfold KP at h;split at h
 .rename_i tt rp;split at h
  .rename_i e' hd;split at h
   .rename_i te ou;split at h
    .rename_i z hz;split at h
     .rename_i hc;simp only[bT,cD]at h;obtain⟨rfl,rfl⟩:=h;simp only[cr]at hc;obtain⟨zv,um,sN⟩:=Gy hz;obtain⟨q1,q2⟩:=sN (λ_=>False) (λ_=>False) w;have hl:=q1.len;simp only[ek,dR,List.length_nil]at hl;obtain⟨uz,Y9⟩:∃ uz,zv.cells = #[uz]:=by
       refine⟨zv.cells[0],?_⟩;apply Array.ext
       .simpa using hl
       .intro i h1 h2;obtain rfl:i=0:=by simp at h2;omega
        rfl
      rw[Y9]at q1 q2;exact⟨te,zv,uz,by rw[hT.sf rp,hd],ou,mg.1 hc.1.1,rfl,dx hc.1.2,um,Y9,q2 uz aP,(q1.mc 0 z uz rfl rfl).oe hc.2⟩
     .cases h
    .cases h
   .cases h
  .cases h
 .cases h
def oH.head{v:Value}{T:TypeId}{n sz:Nat}{f:Nat->Nat->Value}{nl:Bool}(h:oH w v T n sz f nl):v.cells.toList=[v]/\v.oneCell'=true/\sw v=false:=by
 rcases h with⟨g,_⟩|⟨b1,c1,cur,g,_⟩<;>rw[g]<;>exact⟨rfl,rfl,rfl⟩
def ako(hT:ni P T){t:TypeId}{n q:Nat}{ps:Array<|Nat×Operand}(jf:o.op = .buildSlice t n ps)(uj:Cv σ ps.toList=some q)(r:jC w0 B σ a w L)(h:Dm T σ o.dst t n q=some u):kC P K w0 B σ o a w u:=by
 obtain⟨x,pK,hx⟩:∃ x,ps.toList=[(0,x)]/\σ.op x = .own q:=by
  unfold Cv at uj;split at uj
  .rename_i x pK;refine⟨x,pK,?_⟩;generalize σ.op x=p at uj ⊢;cases p<;>simp only[PV.FV,reduceCtorEq,bT]at uj;rw[uj]
  .cases uj
 have wB:=r.op x;rw[hx]at wB;obtain⟨k1,k2⟩:=wB;unfold Dm at h;split at h
 .rename_i id LB;split at h
  .rename_i nl T0 m sz el e by_ kY uU AU;split at h
   .rename_i hc;cases h;simp only[cr,eU]at hc;obtain rfl:=mg.1 hc.1;have jM:id≠q:=λe=>by have:=hc.2;rw[e,cU]at this;cases this
    obtain⟨te,zv,uz,hu,ou,vi,_,_,um,sQ,_,_⟩:=V6 w hT AU;obtain⟨f,g1,g2,g3⟩:=r.hb q _ uU;obtain⟨d1,d2,d3⟩:=g1.head;have lN:(execOp a.eval o).run P w = .ok (.value<|.slice (some ⟨w.heap.size,0,none⟩) 1 1) (w.alloc<|.cells #[L.val q] e):=by
     have pk:(Array.range<|1*te.i.size).map (zv.cells[· % zv.cells.size]!) = #[uz]:=by
      rw[vi,sQ];refine Array.ext aP λi h1 h2=>?_
      have:i=0:=by simp at h2;omega
      subst this;simp
     have LD:Instr.fill (λi=>some (i*te.i.size,te.i.size)) #[uz] (ps.map λ(x:Nat×Operand)=>(x.1,a.eval x.2)).toList=some #[L.val q]:=by
      rw[Sb,pK];simp only[ff,List.map_nil];rw[XF _ _ _ _ _ 0 (by rw[k2,d1,vi];rfl)<|by rw[k2,d1];simp];rw[k2,d1];rfl
     have uW:¬(1*te.i.size>16777216):= aI ;have h0:¬(1*te.i.size=0):= aI ;simp only[execOp,jf,Instr.buildSlice,Sem.run_bind,run_underlying hu,Result.andThen_ok,vn hT w ou,uW,bN,h0,Sem.run_pure,SS hT w ou um,pk,LD,newRow,run_newObj_alloc]
    have je:w.heap.size<(w.alloc<|.cells #[L.val q] e).heap.size:= aP ;have hb:Below w.heap.size w<|w.alloc<|.cells #[L.val q] e:=(Below.refl _ _).alloc (bB _) _;refine⟨_,_,_,.inl lN,r.rW jM _ (λx=>x=w.heap.size\/L.own q x) (.slice (some ⟨w.heap.size,0,none⟩) 1 1) (λ_=>L.val q) _ (λy hy=>?_) hb.size (λy hy _=>hb.block y hy) rfl rfl rfl (λhl=>?_) (λQU=>?_) (λhn=>?_),Lk.Ru jM,Lk.IY.symm⟩
    .rcases hy with rfl|hy
     .exact ⟨.inr<|.inr<|bB _,je⟩
     .exact ⟨.inr<|.inl hy,fF (r.hw q y hy).2 je⟩
    .refine .inr ⟨w.heap.size,1,#[L.val q],λ_=>f,Lk.IY,heap_alloc_new w _,bB _,aK,rfl,λk hk _=>?_,λv hv=>?_,λk hk=>?_,λy=>?_,λk k' y hk BY _ _=> aI,λk hk=>?_⟩
     .obtain rfl:k=0:= aI ;rw[Lk.Ab];rfl
     .have:v=L.val q:=by simpa using hv
      rw[this];exact d3
     .rw [Lk.Ab];exact⟨g1.block λy hy=>hb.block y (r.hw q y<|(g2 y).2 hy).2,λi j hi hj=>⟨hl.mc (g3 i j hi hj).1,(g3 i j hi hj).2⟩⟩
     .rw [Lk.ZO];constructor
      .rintro (h|h)
       .exact .inl h
       .exact .inr ⟨0,aK,by rw[Lk.Ab];exact(g2 y).1 h⟩
      .rintro (h|⟨k,_,h⟩)
       .exact .inl h
       .rw [Lk.Ab]at h;exact .inr<|(g2 y).2 h
     .rw [Lk.Ab];intro h;have:=(r.hw q _<|(g2 _).2 h).2;omega
    .have:=(r.hv id).1 QU;rw[kY]at this;cases this
    .have:=r.hl hn q _ uU;exact this
   .cases h
  .cases h
 .cases h
def aj2(hT:ni P T)(hB:∀ b,B b->b<w0.heap.size){t:TypeId}{n:Nat}{ps:Array<|Nat×Operand}(jf:o.op = .buildSlice t n ps)(r:jC w0 B σ a w L)(h:jT P K T O σ o=some u):kC P K w0 B σ o a w u:=by
 simp only[jT,jf]at h;split at h
 .rename_i q hq;exact ako hT jf hq r h
 split at h
 .rename_i tt rp;split at h
  .rename_i e hd;split at h
   .rename_i te ou;split at h
    .rename_i z hz;split at h
     .rename_i hc;simp only[cr]at hc;have c1:=mg.1 hc.1.1;have c2:=dx hc.2;obtain⟨zv,um,sN⟩:=Gy hz;obtain⟨q1,q2⟩:=sN (jx B L) (j8 L) w;have hu:P.underlying t=some (.slice e):=by rw[hT.sf rp,hd]
      have Cc:zv.cells.size=te.i.size:=by have:=q1.len;simp only[ek]at this;omega
      obtain⟨l,hl,h⟩:=im.1 h;obtain⟨cs,p1,p2,p3⟩:=PL r hl (aqu q1 n) (λv hv=>by
       simp only[gH,gI]at hv;obtain⟨q,hq,rfl⟩:=hv;have sP:0<zv.cells.size:=by
        rcases fg zv.cells.size with h0|h0
        .rw [h0]at hq;simp at hq
        .exact h0
       rw[gh zv.cells _<|bQ q sP];exact q2 _ aP)
      have hlen:l.length=n*te.i.size:=by
       have:∀ (ps:List<|Nat×Operand) (l m:List E),tJ σ (λi=>some (i*te.i.size,te.i.size)) l ps=some m->m.length=l.length:=by
        intro ps
        induction ps with
        |nil=>intro l m h;simp only[tJ]at h;cases h;rfl
        |cons p ps ih=>
         intro l m h;obtain⟨i,x⟩:=p;simp only[tJ]at h;split at h
         .split at h
          .split at h
           .rename_i hc;simp only[cr]at hc;have:=dx hc.2;rw[ih _ _ h];simp[Cw];omega
           .cases h
          .cases h
         .cases h
       rw[this _ _ _ hl,ach,c1]
      have pk:cs.size=n*te.i.size:=by have:=p2.len;simp only[ek]at this;omega
      have LD:Instr.fill (λi=>some (i*te.i.size,te.i.size)) ((Array.range<|n*te.i.size).map (zv.cells[· % zv.cells.size]!)) (ps.map λ(x:Nat×Operand)=>(x.1,a.eval x.2)).toList=some cs:=by
       rw[Sb,<-Cc];rw[<-Cc]at p1;exact p1
      have lN:(execOp a.eval o).run P w = .ok (.value<|.slice (some ⟨w.heap.size,0,none⟩) n n) (w.alloc<|.cells cs e):=by
       have uW:¬(n*te.i.size>16777216):= aI ;by_cases h0:n*te.i.size=0
       .have e0:∀ g:Nat->Value,(Array.range 0).map g = #[]:=λg=>by simp[Array.range]
        have YC:=LD;rw[h0,e0]at YC;have z24:¬(0>2^24):= aK ;simp only[execOp,jf,Instr.buildSlice,Sem.run_bind,run_underlying hu,Result.andThen_ok,vn hT w ou,uW,bN,h0,z24,bW,Sem.run_pure,e0,YC,newRow,run_newObj_alloc]
       .simp only[execOp,jf,Instr.buildSlice,Sem.run_bind,run_underlying hu,Result.andThen_ok,vn hT w ou,uW,bN,h0,Sem.run_pure,SS hT w ou um,LD,newRow,run_newObj_alloc]
      have kX:n<=9223372036854775807:=by
       have:=ib n<|dx hc.1.2;omega
      by_cases uY:l.all (E.nr 2)=true
      .simp only[uY,fX,cz,bN]at h;split at h
       .
        obtain⟨id,LB,kY,kf,rfl⟩:=Jd h;have hb:Below w.heap.size w<|w.alloc<|.cells cs e:=(Below.refl _ _).alloc (bB _) _;have ht:sF L w id (λx=>x=w.heap.size)<|w.alloc<|.cells cs e:=⟨λx hx=>⟨.inr aI,aV⟩,hb.size,λx hx _=>hb.block x hx,rfl,rfl,rfl⟩
        have je:=ht.later (.slice (some ⟨w.heap.size,0,none⟩) n n) λ_=>undef;have Fv:∀ i j,i<n->j<te.i.size->i*te.i.size+j<n*te.i.size:=by
         intro i j hi hj;have:=cC te.i.size<|show i+1<=n from hi;rw[ca,cj]at this;omega
        refine⟨_,_,_,.inl lN,r.new id _ (λx=>x=w.heap.size) (.slice (some ⟨w.heap.size,0,none⟩) n n) (λ_=>undef) _ kY (λx hx=>by subst hx;simp) hb
         ⟨λi j=>cs.getD (i*te.i.size+j) undef,.inr ⟨w.heap.size,n,cs,Lk.qx,heap_alloc_new w _,bB _,by unfold maxLen;omega,pk,λi j hi hj=>?_,λhn u hu=>?_⟩,λx=>?_,λi j hi hj=>?_⟩ kf,Lk.CJ,Lk.qx.symm⟩
        .have hq:i*te.i.size+j<cs.size:=by rw[pk];exact Fv i j hi hj
         have e1:cs.getD (i*te.i.size+j) undef=cs[i*te.i.size+j]:=by simp[hq]
         show cs[i*te.i.size+j]? = some (cs.getD (i*te.i.size+j) undef)/\(cs.getD (i*te.i.size+j) undef).oneCell'=true;rw[e1];exact⟨by simp[hq],p3 _ aP⟩
        .exact amC p2 hn u<|by simpa using hu
        .rw [Lk.uD,Lk.qx];simp only[Value.ownBlock,bT];exact eq_comm
        .have hq:i*te.i.size+j<cs.size:=by rw[pk];exact Fv i j hi hj
         have xU:i*te.i.size+j<l.length:=by rw[hlen];exact Fv i j hi hj
         have e1:cs.getD (i*te.i.size+j) undef=cs[i*te.i.size+j]:=by simp[hq]
         simp only[bJ,bS xU,atK,e1];exact⟨je.mc<|p2.mc _ _ _ (bS xU)<|by simp[hq],cL.1 uY _<|dI xU⟩
       split at h
       .rename_i yN;cases h;obtain⟨r',hp⟩:=ac7 hB r e n te.i.size l cs true p2 p3 pk kX (λ_=>yN) uY;exact⟨_,_,L,.inl lN,r',hp⟩
       .cases h;obtain⟨r',hp⟩:=ac7 hB r e n te.i.size l cs false p2 p3 pk kX (λh=>by cases h) uY;exact⟨_,_,L,.inl lN,r',hp⟩
      .simp [uY]at h
     .cases h
    .cases h
   .cases h
  .cases h
 .cases h
end
section
variable{P:Program}{t e:TypeId}
def K7(h:P.underlying t=some (.slice e)):P.elem t=e:=by simp[Program.elem,h]
def aiG{n:Nat}(h:P.underlying t=some (.array n e)):P.elem t=e/\P.arrayLen t=n:=by simp[Program.elem,Program.arrayLen,h]
end
section
variable {P:Program} {K:World->Prop} {T:List TI} {O:qY} {w0:World} {B:Nat->Prop} {σ:PS} {o:Oper} {a:Act} {w:World} {L:Lk} {u:lq}
def aj8(hT:ni P T){t:TypeId}{x i:Operand}(jf:o.op = .indexAddr t x i)(r:jC w0 B σ a w L)(h:jT P K T O σ o=some u)(ho:∀ q,q ∈ u.jX->q):kC P K w0 B σ o a w u:=by
 simp only[jT,jf,K8]at h;have hx:=r.op x;have hi:=r.op i;split at h
 .rename_i k z hpi;rw[hpi]at hi;have hi:=jd.lh hi;split at h
  .rename_i tt rp;split at h
   .
    rename_i e hd;have hu:P.underlying t=some (.slice e):=by rw[hT.sf rp,hd]
    have he:=K7 hu;split at h
    .rename_i te ou;have lN:∀ (ad:Addr) (n c:Nat),a.eval x = .slice (some ad) n c->0<=z->z<n->(execOp a.eval o).run P w = .ok (.value<|.pointer<|some<|ad.add<|z.toNat*te.i.size) w:=by
      intro ad n c e1 h0 h1;have hr:=run_indexAt_slice (P:=P) w t ad n c k z (by rw[he];exact hu);rw[bA ⟨h0,h1⟩,he,vn hT w ou]at hr;simp only[execOp,jf,e1,hi,Sem.run_bind,hr,Result.andThen_ok,Sem.run_pure]
     split at h
     .rename_i nl n sz el pK;rw[pK]at hx;split at h
      .rename_i hs;simp only[cr]at hs;have vg:=dx hs.2;have hs:=mg.1 hs.1;cases h;have hz:0<=z/\z<n:=ho _ aP;have Bb:z.toNat<n:= aI ;generalize hq:a.eval x=q at hx;cases hx with
       |sl _ _ _ _ A c f hc hm h0 hl uY cell kk=>
        obtain⟨b,of,e1,hb,je,_⟩:=cell z.toNat 0 Bb vg;subst e1;refine kC.pure r (lN ⟨b,of,none⟩ n c hq hz.1 hz.2) rfl ?_;rw[Addr.add_lit,hs];refine .ky sz _ b _ (λj=>f z.toNat j) (λhm=>hb<|.inr hm) je (λj hj=>(hl _ _ Bb hj).1) (λj hj=>?_) λj hj=>kk _ _ Bb hj;obtain⟨b',of',e2,_,_,Dv⟩:=cell z.toNat j Bb hj;cases e2;rwa[<-dm]at Dv
      .cases h
     .rename_i fl nl n sz el pK;rw[pK]at hx;split at h
      .rename_i hs;simp only[cr]at hs;have vg:=dx hs.2;have hs:=mg.1 hs.1;cases h;have hz:0<=z/\z<n:=ho _ aP;have Bb:z.toNat<n:= aI ;generalize hq:a.eval x=q at hx;cases hx with
       |py _ _ _ _ _ A c f hc hm h0 hl uY cell kk=>
        obtain⟨b,of,e1,hb,je,_⟩:=cell z.toNat 0 Bb vg;subst e1;refine kC.pure r (lN ⟨b,of,none⟩ n c hq hz.1 hz.2) rfl ?_;rw[Addr.add_lit,hs];refine .ky sz _ b _ (λj=>f z.toNat j) hb je (λj hj=>(hl _ _ Bb hj).1) (λj hj=>?_) λj hj=>kk _ _ Bb hj;obtain⟨b',of',e2,_,_,Dv⟩:=cell z.toNat j Bb hj;cases e2;rwa[<-dm]at Dv
      .cases h
     .rename_i id pK;rw[pK]at hx;split at h
      .rename_i nl T1 n sz el jE;split at h
       .rename_i hs;have hs:=mg.1 hs;cases h;have hz:0<=z/\z<n:=ho _ aP;obtain⟨f,h1,h2,h3⟩:=r.hb id _ jE;obtain⟨k1,k2⟩:=hx;rcases h1 with⟨h1,qp⟩|⟨b,c,cur,h1,hg,qd,oq,pk,ln,kf⟩
        .omega
        .rw [h1]at k2;refine kC.pure r (lN ⟨b,0,none⟩ n c k2 hz.1 hz.2) rfl ⟨k1,b,n,c,h1,?_⟩;rw[Addr.add_lit,hs,cJ,ch]
       .cases h
      .rename_i nl T1 T0 n sz len el pend jE;split at h
       .rename_i hs;have hs:=mg.1 hs;cases h;have hz:0<=z/\z<n:=ho _ aP;obtain⟨b,c,cur,f,h1,h2,h3,h4,h5,h6,h7,h8,h9,rM,ue⟩:=(r.hb id _ jE).yo aI;obtain⟨k1,k2⟩:=hx;rw[h1]at k2;refine kC.pure r (lN ⟨b,0,none⟩ n c k2 hz.1 hz.2) rfl ⟨k1,b,n,c,h1,?_⟩;rw[Addr.add_lit,hs,cJ,ch]
       .cases h
      .cases h
     .rename_i id k pK;rw[pK]at hx;split at h
      .rename_i nl T1 T0 n sz len el pend jE;split at h
       .rename_i hs;have hs:=mg.1 hs;cases h;have hk:k<n:=ho _ aP;have hz:0<=z/\z<len k:=ho _ aP;obtain⟨b0,c0,cur0,f,g1,g2,g3,g4,g5,g6,g7,g8,_⟩:=(r.hb id _ jE).yo aI;obtain⟨k1,k2⟩:=hx;rcases(g8 k hk).1 with⟨h1,qp⟩|⟨b,c,cur,h1,hg,qd,oq,pk,ln,kf⟩
        .omega
        .rw [h1]at k2;refine kC.pure r (lN ⟨b,0,none⟩ (len k) c k2 hz.1 hz.2) rfl ⟨k1,b,len k,c,h1,?_⟩;rw[Addr.add_lit,hs,cJ,ch]
       .cases h
      .cases h
     .cases h
    .cases h
   .
    rename_i n e hd;have hu:P.underlying t=some (.array n e):=by rw[hT.sf rp,hd]
    obtain⟨he,hn⟩:=aiG hu;split at h
    .rename_i te ou;have lN:∀ (ad:Addr),a.eval x = .pointer (some ad)->0<=z->z<n->(execOp a.eval o).run P w = .ok (.value<|.pointer<|some<|ad.add<|z.toNat*te.i.size) w:=by
      intro ad e1 h0 h1;have hr:=run_indexAt_array (P:=P) w t ad k z (by rw[he,hn];exact hu);rw[hn,bA ⟨h0,h1⟩,he,vn hT w ou]at hr;simp only[execOp,jf,e1,hi,Sem.run_bind,hr,Result.andThen_ok,Sem.run_pure]
     split at h
     .rename_i id off pK;rw[pK]at hx;cases h;have hz:0<=z/\z<n:=ho _ aP;obtain⟨k1,b,k2,k3⟩:=hx;refine kC.pure r (lN _ k3 hz.1 hz.2) rfl ⟨k1,b,k2,?_⟩;rw[Addr.add_lit]
     .rename_i m el pK;rw[pK]at hx;split at h
      .rename_i hs;have hs:=mg.1 hs;cases h;have hz:0<=z/\z<n:=ho _ aP;have nx:∀ j,j<te.i.size->z.toNat*te.i.size+j<m:=by
        intro j hj;rw[<-hs];have:=cC te.i.size (aI:z.toNat+1<=n);rw[ca,cj]at this;omega
       generalize hq:a.eval x=q at hx;cases hx with
       |ky _ _ b of f hb je hl cell kk=>
        refine kC.pure r (lN _ hq hz.1 hz.2) rfl ?_;rw[Addr.add_lit];refine .ky te.i.size _ b _ (λj=>f<|z.toNat*te.i.size+j) hb je (λj hj=>hl _<|nx j hj) (λj hj=>?_) λj hj=>kk _<|nx j hj;have:=cell _<|nx j hj;rwa[<-dm]at this
      .cases h
     .cases h
    .cases h
   .cases h
  .cases h
 .cases h
def akl(hT:ni P T){t:TypeId}{x:Operand}{lo hi:Option Operand}(jf:o.op = .slice t x lo hi none)(r:jC w0 B σ a w L)(h:jT P K T O σ o=some u)(ho:∀ q,q ∈ u.jX->q):kC P K w0 B σ o a w u:=by
 simp only[jT,jf,Lb]at h;have hx:=r.op x;split at h
 .rename_i nl n sz el pK;rw[pK]at hx;split at h
  .rename_i tt rp;split at h
   .rename_i e hd;have hu:P.underlying t=some (.slice e):=by rw[hT.sf rp,hd]
    have he:=K7 hu;have xm:P.underlying t=some (.slice<|P.elem t):=by rw[he];exact hu
    split at h
    .rename_i te ou;split at h
     .rename_i hs;have hs:=mg.1 hs;generalize hq:a.eval x=q at hx;cases hx with
      |sl _ _ _ _ A c f hc hm h0 hl uY cell kk=>
       have fin:∀ l h':Nat,l<=h'->h'<=n->jd (jx B L) (j8 L) w (.sl nl (h'-l) sz λi j=>el (l+i) j) (sliced A l h' c te.i.size):=by
        intro l h' hlh hhn;unfold sliced;refine .sl nl (h'-l) sz _ _ (c-l) (λi j=>f (l+i) j) aI aI (λhA=>?_) (λi j hi hj=>hl _ _ aI hj) (λi j hi hj=>uY _ _ aI hj) (λi j hi hj=>?_) λi j hi hj=>kk _ _ aI hj
        .split at hA
         .have:=h0 hA;omega
         .have:=h0 (by simpa using hA);omega
        .obtain ⟨b,of,e1,hb,je,ln⟩:=cell (l+i) j aI hj;subst e1;rw[bw aI];refine⟨b,of+l*te.i.size,by rw[df,Addr.add_lit],hb,je,?_⟩;rw[hs];rw[ca]at ln;rw[<-ln];congr 2;omega
       have run:∀ (l h':Nat) (lo' kG:Option Value),lo.map a.eval=lo'->hi.map a.eval=kG->(Instr.slice t (.slice A n c) lo' kG none).run P w = .ok (sliced A l h' c te.i.size) w ->
        (execOp a.eval o).run P w = .ok (.value<|sliced A l h' c te.i.size) w:=by
        intro l h' lo' kG e1 e2 hr;simp only[execOp,jf,Sem.run_bind,hq,e1,e2,Option.map_none,run_sliceAt_slice (P:=P) w t _ _ _ _ xm,hr,Result.andThen_ok,Sem.run_pure]
       split at h
       .rename_i kh hh rn sM;cases h;have hb:0<=hh/\hh<=n:=ho _ aP;cases lo with
        |some _=>simp at rn
        |none=>
         cases hi with
         |none=>simp at sM
         |some hi=>
          simp only[df,bT]at sM;have hv:=r.op hi;rw[sM]at hv;have hv:=jd.lh hv;have hr:=run_slice_h (P:=P) w t A n c xm kh hh hb.1 aI;rw[he,vn hT w ou]at hr;have hf:=fin 0 hh.toNat (cA _) aI ;simp only[dT,cJ]at hf;exact kC.pure r (run 0 hh.toNat none (some<|.int kh hh) rfl (by rw[df,hv]) hr) rfl hf
       .rename_i kl ll rn sM;cases h;have hb:0<=ll/\ll<=n:=ho _ aP;cases hi with
        |some _=>simp at sM
        |none=>
         cases lo with
         |none=>simp at rn
         |some lo=>
          simp only[df,bT]at rn;have hv:=r.op lo;rw[rn]at hv;have hv:=jd.lh hv;have hr:=run_slice_l (P:=P) w t A n c xm kl ll hb.1 hb.2;rw[he,vn hT w ou]at hr;exact kC.pure r (run ll.toNat n (some<|.int kl ll) none (by rw[df,hv]) rfl hr) rfl (fin ll.toNat n aI<|bB _)
       .rename_i kl ll kh hh rn sM;cases h;have hb:0<=ll/\ll<=hh/\hh<=n:=ho _ aP;cases hi with
        |none=>simp at sM
        |some hi=>
         cases lo with
         |none=>simp at rn
         |some lo=>
          simp only[df,bT]at rn sM;have hv:=r.op lo;rw[rn]at hv;have hv:=jd.lh hv;have qJ:=r.op hi;rw[sM]at qJ;have qJ:=jd.lh qJ;have hr:=run_slice_lh (P:=P) w t A n c xm kl kh ll hh hb.1 hb.2.1 aI;rw[he,vn hT w ou]at hr;exact kC.pure r (run ll.toNat hh.toNat (some<|.int kl ll) (some<|.int kh hh) (by rw[df,hv]) (by rw[df,qJ]) hr) rfl (fin ll.toNat hh.toNat aI aI)
       .cases h
     .cases h
    .cases h
   .cases h
  .cases h
 .rename_i fl nl n sz el pK;rw[pK]at hx;split at h
  .rename_i tt rp;split at h
   .rename_i e hd;have hu:P.underlying t=some (.slice e):=by rw[hT.sf rp,hd]
    have he:=K7 hu;have xm:P.underlying t=some (.slice<|P.elem t):=by rw[he];exact hu
    split at h
    .rename_i te ou;split at h
     .rename_i hs;have hs:=mg.1 hs;generalize hq:a.eval x=q at hx;cases hx with
      |py _ _ _ _ _ A c f hc hm h0 hl uY cell kk=>
       have fin:∀ l h':Nat,l<=h'->h'<=n->jd (jx B L) (j8 L) w (.py fl nl (h'-l) sz λi j=>el (l+i) j) (sliced A l h' c te.i.size):=by
        intro l h' hlh hhn;unfold sliced;refine .py fl nl (h'-l) sz _ _ (c-l) (λi j=>f (l+i) j) aI aI (λhA=>?_) (λi j hi hj=>hl _ _ aI hj) (λhf i j hi hj=>uY hf _ _ aI hj) (λi j hi hj=>?_) λi j hi hj=>kk _ _ aI hj
        .split at hA
         .have:=h0 hA;omega
         .have:=h0 (by simpa using hA);omega
        .obtain ⟨b,of,e1,hb,je,ln⟩:=cell (l+i) j aI hj;subst e1;rw[bw aI];refine⟨b,of+l*te.i.size,by rw[df,Addr.add_lit],hb,je,?_⟩;rw[hs];rw[ca]at ln;rw[<-ln];congr 2;omega
       have run:∀ (l h':Nat) (lo' kG:Option Value),lo.map a.eval=lo'->hi.map a.eval=kG->(Instr.slice t (.slice A n c) lo' kG none).run P w = .ok (sliced A l h' c te.i.size) w ->
        (execOp a.eval o).run P w = .ok (.value<|sliced A l h' c te.i.size) w:=by
        intro l h' lo' kG e1 e2 hr;simp only[execOp,jf,Sem.run_bind,hq,e1,e2,Option.map_none,run_sliceAt_slice (P:=P) w t _ _ _ _ xm,hr,Result.andThen_ok,Sem.run_pure]
       split at h
       .rename_i kh hh rn sM;cases h;have hb:0<=hh/\hh<=n:=ho _ aP;cases lo with
        |some _=>simp at rn
        |none=>
         cases hi with
         |none=>simp at sM
         |some hi=>
          simp only[df,bT]at sM;have hv:=r.op hi;rw[sM]at hv;have hv:=jd.lh hv;have hr:=run_slice_h (P:=P) w t A n c xm kh hh hb.1 aI;rw[he,vn hT w ou]at hr;have hf:=fin 0 hh.toNat (cA _) aI ;simp only[dT,cJ]at hf;exact kC.pure r (run 0 hh.toNat none (some<|.int kh hh) rfl (by rw[df,hv]) hr) rfl hf
       .rename_i kl ll rn sM;cases h;have hb:0<=ll/\ll<=n:=ho _ aP;cases hi with
        |some _=>simp at sM
        |none=>
         cases lo with
         |none=>simp at rn
         |some lo=>
          simp only[df,bT]at rn;have hv:=r.op lo;rw[rn]at hv;have hv:=jd.lh hv;have hr:=run_slice_l (P:=P) w t A n c xm kl ll hb.1 hb.2;rw[he,vn hT w ou]at hr;exact kC.pure r (run ll.toNat n (some<|.int kl ll) none (by rw[df,hv]) rfl hr) rfl (fin ll.toNat n aI<|bB _)
       .rename_i kl ll kh hh rn sM;cases h;have hb:0<=ll/\ll<=hh/\hh<=n:=ho _ aP;cases hi with
        |none=>simp at sM
        |some hi=>
         cases lo with
         |none=>simp at rn
         |some lo=>
          simp only[df,bT]at rn sM;have hv:=r.op lo;rw[rn]at hv;have hv:=jd.lh hv;have qJ:=r.op hi;rw[sM]at qJ;have qJ:=jd.lh qJ;have hr:=run_slice_lh (P:=P) w t A n c xm kl kh ll hh hb.1 hb.2.1 aI;rw[he,vn hT w ou]at hr;exact kC.pure r (run ll.toNat hh.toNat (some<|.int kl ll) (some<|.int kh hh) (by rw[df,hv]) (by rw[df,qJ]) hr) rfl (fin ll.toNat hh.toNat aI aI)
       .cases h
     .cases h
    .cases h
   .cases h
  .cases h
 .cases h
end
section
variable {P:Program} {K:World->Prop} {T:List TI} {O:qY} {w0:World} {B:Nat->Prop} {σ:PS} {o:Oper} {a:Act} {w:World} {L:Lk} {u:lq}
def ahn{x:Value}{l:List E}(h:(E.v x).cells? = some l):∀ e,e ∈ l->e.nr 2=true:=by
 intro e he;cases x<;>simp only[E.cells?]at h
 case agg cs=>
  split at h
  .cases h;obtain⟨q,_,rfl⟩:=e9.1 he;rfl
  .cases h
 all_goals
  split at h
  .cases h;simp only[ij]at he;subst he;rfl
  .cases h
def asS{ti:TI}{l:List E}(h:AD ti=some l):∀ e,e ∈ l->e.nr 2=true:=by
 unfold AD at h;split at h
 .exact ahn h
 .cases h
def RE{l:List E}{vs:List Value}{bs br:Nat->Prop}(h:kR bs br w l vs)(hl:l.all E.oe=true):∀ v ∈ vs,sw v=false:=by
 intro v hv;obtain⟨q,hq⟩:=ej.1 hv;have xU:q<l.length:=by rw[<-h.len];exact(cP.1 hq).1
 exact(h.mc q _ v (bS xU) hq).oe<|cL.1 hl _<|dI xU
def aah{z:Array Value}{n q:Nat}(hz:0<z.size)(hq:q<n):(madeCells z n)[q]? = some (z[q%z.size]'(bQ _ hz)):=by
 unfold madeCells;simp[hq];rw[gh z _<|bQ _ hz]
def aai{z:Array Value}{n:Nat}(hz:0<z.size){v:Value}(hv:v ∈ madeCells z n):v ∈ z:=by
 unfold madeCells at hv;simp only[gH,gI]at hv;obtain⟨q,hq,rfl⟩:=hv;rw[gh z _<|bQ _ hz];exact ic _
def ake(hT:ni P T){t:TypeId}{l c:Operand}(jf:o.op = .makeSlice t l c)(r:jC w0 B σ a w L)(h:jT P K T O σ o=some u)(ho:∀ q,q ∈ u.jX->q):kC P K w0 B σ o a w u:=by
 simp only[jT,jf,La]at h;have hl:=r.op l;have hc:=r.op c;split at h
 .rename_i bx jX jz;obtain⟨id,LB,kY,kf,rfl⟩:=Jd h;clear h;simp only[Xv]at jz;split at jz
  rotate_left
  .cases jz
  rename_i kl zl kc zc DK YU;rw[DK]at hl;rw[YU]at hc;have hl:=jd.lh hl;have hc:=jd.lh hc;split at jz
  .rename_i tt rp;split at jz
   .rename_i e hd;have hu:P.underlying t=some (.slice e):=by rw[hT.sf rp,hd]
    split at jz
    .rename_i te ou;split at jz
     .rename_i z hz;split at jz
      .rename_i AV;simp only[cr]at AV;have c1:=mg.1 AV.1;have c2:=dx AV.2;obtain⟨zv,um,sN⟩:=Gy hz;obtain⟨q1,q2⟩:=sN (jx B L) (j8 L) w;have Cc:zv.cells.size=te.i.size:=by have:=q1.len;simp only[ek]at this;omega
       have sP:0<zv.cells.size:= aI ;have key:∀ (h1:0<=zl/\zl<=zc) (h2:(te.i.bytes:Int)*zc<=281474976710656/\zc<=9223372036854775807),
        (execOp a.eval o).run P w = .ok (.value<|.slice (some ⟨w.heap.size,0,none⟩) zl.toNat zc.toNat) (w.alloc<|.cells (madeCells zv.cells<|zc.toNat*te.i.size) e):=by
        intro h1 h2;have hr:=run_make (P:=P) w t e te.i zv hu (hT.Bd ou) um kl kc zl zc h1.1 h1.2 h2.1 h2.2;simp only[execOp,jf,hl,hc,Sem.run_bind,hr,Result.andThen_ok,Sem.run_pure]
       have hb:∀ o':Obj,Below w.heap.size w (w.alloc o'):=λo'=>(Below.refl _ _).alloc (bB _) _
       have lens:zl<=zc->zc<=9223372036854775807->zl.toNat<=zc.toNat/\zc.toNat<=maxLen:=by intro h1 h2;unfold maxLen;omega
       split at jz
       .
        rename_i e0 hd0;split at jz
        .rename_i t0 Q8;obtain⟨y,ys,DS,hy,DE⟩:=q1.nc;have hy:=jd.lh hy;have DE:=DE.rz;subst hy DE;have Zk:zv.cells = #[.slice none 0 0]:=by apply eg;rw[DS]
         have lJ:te.i.size=1:=by rw[<-Cc,Zk];rfl
         cases jz;have h1:0<=zl/\zl<=zc:=ho _ aP;have h2:(te.i.bytes:Int)*zc<=281474976710656/\zc<=9223372036854775807:=ho _ aP;have hlen:=lens h1.2 h2.2;have yN:∀ v,v ∈ madeCells zv.cells (zc.toNat*te.i.size)->v = .slice none 0 0:=λv hv=>by
          have:=aai sP hv;rw[Zk]at this;simpa using this
         refine⟨_,_,_,.inl<|key h1 h2,r.new id _ (λx=>x=w.heap.size) (.slice (some ⟨w.heap.size,0,none⟩) zl.toNat zc.toNat) (λ_=>.slice none 0 0) _ kY (λx hx=>by subst hx;simp) (hb _)
          (.inr ⟨w.heap.size,zc.toNat,_,λ_ _ _=>undef,Lk.qx,heap_alloc_new w _,hlen.1,hlen.2,by rw[size_madeCells,lJ,cG],λk hk _=>?_,λv hv=>?_,λk hk=>?_,λx=>?_,λk k' x hk BY h1=>?_,λk hk=>?_⟩) kf,Lk.CJ,Lk.qx.symm⟩
         .rw [Lk.tp];have hq:k<zc.toNat*te.i.size:=by rw[lJ];omega
          have hg:=aah sP hq;rw[hg];exact congrArg some<|yN _<|eR hg
         .rw [yN v hv];rfl
         .rw [Lk.tp];exact⟨.inl ⟨rfl,rfl⟩,λi j hi=>absurd hi<|bM i⟩
         .rw [Lk.uD];simp only[Lk.tp,Value.ownBlock];simp
         .rw [Lk.tp]at h1;simp[Value.ownBlock]at h1
         .rw [Lk.tp];simp[Value.ownBlock]
        .cases jz
       .cases jz;have h1:0<=zl/\zl<=zc:=ho _ aP;have h2:(te.i.bytes:Int)*zc<=281474976710656/\zc<=9223372036854775807:=ho _ aP;have hlen:=lens h1.2 h2.2;refine⟨_,_,_,.inl<|key h1 h2,r.new id _ (λx=>x=w.heap.size) (.slice (some ⟨w.heap.size,0,none⟩) zl.toNat zc.toNat) (λ_=>undef) _ kY (λx hx=>by subst hx;simp) (hb _)
         ⟨λ_ j=>zv.cells.getD j undef,.inr ⟨w.heap.size,zc.toNat,_,Lk.qx,heap_alloc_new w _,hlen.1,hlen.2,size_madeCells _ _,λi j hi hj=>?_,λhn v hv=>?_⟩,λx=>?_,λi j hi hj=>?_⟩ kf,Lk.CJ,Lk.qx.symm⟩
        .have hq:i*te.i.size+j<zc.toNat*te.i.size:=by
          have:=cC te.i.size (aI:i+1<=zc.toNat);rw[ca,cj]at this;omega
         have QV:(i*te.i.size+j)%zv.cells.size=j:=by rw[Cc,bR,eD,cw hj]
         have uh:j<zv.cells.size:= aI ;rw[aah sP hq];simp only[QV];have e1:zv.cells.getD j undef=zv.cells[j]:=by simp[uh]
         rw[e1];exact⟨rfl,q2 _ aP⟩
        .exact RE q1 hn v<|by have:=aai sP hv;simpa using this
        .rw [Lk.uD,Lk.qx];simp only[Value.ownBlock,bT];exact eq_comm
        .have uh:j<zv.cells.size:= aI ;have QJ:j<z.length:= aI ;have e1:zv.cells.getD j undef=zv.cells[j]:=by simp[uh]
         simp only[e1];rw[bJ,bS QJ];obtain⟨p1,_⟩:=sN (jx B<|L.set id (λx=>x=w.heap.size) (.slice (some ⟨w.heap.size,0,none⟩) zl.toNat zc.toNat) λ_=>undef) (j8<|L.set id (λx=>x=w.heap.size) (.slice (some ⟨w.heap.size,0,none⟩) zl.toNat zc.toNat) λ_=>undef)<|w.alloc<|.cells (madeCells zv.cells<|zc.toNat*te.i.size) e;exact⟨p1.mc j _ _ (bS QJ)<|by simp[uh],asS hz _<|dI QJ⟩
      .cases jz
     .cases jz
    .cases jz
   .cases jz
  .cases jz
 .cases h
def aka(hT:ni P T){x:Operand}{t:TypeId}{c:Call}(hc:c={ callee:=.builtin .len,args:=#[x],argTypes:=#[t] })(jf:o.op = .call c){e:TypeId}(hd:yF T t=some (.slice e))(r:jC w0 B σ a w L){rr:Value×List Nat}(h:ud (σ.op x) σ=some rr)(hu:u={ r:=.e<|.v rr.1,rb:=rr.2 }):kC P K w0 B σ o a w u:=by
 obtain⟨ti,h1,h2⟩:=BO hd;have Y8:P.underlying t=some (.slice e):=by rw[hT.sf h1,h2]
 have he:=K7 Y8;have hx:=r.op x;have key:∀ (A:Option Addr) (n cp:Nat),a.eval x = .slice A n cp->rr.1 = .int .i64 (n:Int)->kC P K w0 B σ o a w u:=by
  intro A n cp e1 e2;have hr:=run_len_slice (P:=P) w t o.type A n cp (by rw[he];exact Y8);subst hu;refine kC.pure r (v:=.int .i64 (n:Int)) ?_ rfl (by rw[e2];exact .v _);subst hc;have em:(#[x]:Array Operand).map a.eval = #[a.eval x]:= aP ;simp only[execOp,jf,resolve,em,e1,Sem.run_bind,Sem.run_pure,Result.andThen_ok,invoke,builtin,hr];rfl
 cases hp:σ.op x with
 |e y=>
  rw[hp]at h hx;cases y with
  |sl nl n sz el=>
   simp only[ud,bT]at h;generalize hq:a.eval x=q at hx;cases hx with
   |sl _ _ _ _ A c f hc hm h0 hl uY cell kk=>exact key A n c hq<|by rw[<-h]
  |py fl nl n sz el=>
   simp only[ud,bT]at h;generalize hq:a.eval x=q at hx;cases hx with
   |py _ _ _ _ _ A c f hc hm h0 hl uY cell kk=>exact key A n c hq<|by rw[<-h]
  |v y=>
   have hx:=jd.lh hx;cases y with
   |slice A n cp=>
    simp only[ud,bT]at h;exact key A n cp hx<|by rw[<-h]
   |_=>simp[ud]at h
  |_=>simp[ud]at h
 |own id=>
  rw[hp]at h hx;obtain⟨_,k2⟩:=hx;simp only[ud]at h;split at h
  .rename_i nl T1 n sz el jE;simp only[bT]at h;obtain⟨f,q1,_,_⟩:=r.hb id _ jE;rcases q1 with⟨q1,q0⟩|⟨b,c,cur,q1,_⟩
   .rw [q1]at k2;exact key none 0 0 k2<|by rw[<-h,q0]
   .rw [q1]at k2;exact key _ n c k2<|by rw[<-h]
  .rename_i nl T1 T0 n sz len el pend jE;simp only[bT]at h;rcases r.hb id _ jE with⟨q1,q0,_⟩|⟨b,c,cur,f,q1,_⟩
   .rw [q1]at k2;exact key none 0 0 k2<|by rw[<-h,q0]
   rw[q1]at k2;exact key _ n c k2<|by rw[<-h]
  .cases h
 |ji id k=>
  rw[hp]at h hx;obtain⟨_,k2⟩:=hx;simp only[ud]at h;split at h
  .rename_i nl T1 T0 n sz len el pend jE;split at h
   .rename_i hk;have hk:k<n:=by simpa[gE]using hk
    simp only[bT]at h;obtain⟨b0,c0,cur0,f,g1,g2,g3,g4,g5,g6,g7,g8,_⟩:=(r.hb id _ jE).yo aI;rcases(g8 k hk).1 with⟨q1,q0⟩|⟨b,c,cur,q1,_⟩
    .rw [q1]at k2;exact key none 0 0 k2<|by rw[<-h,q0]
    .rw [q1]at k2;exact key _ (len k) c k2<|by rw[<-h]
   .cases h
  .cases h
 |_=>rw[hp]at h;simp[ud]at h
end
section
variable {P:Program} {K:World->Prop} {T:List TI} {O:qY} {w0:World} {B:Nat->Prop} {σ:PS} {o:Oper} {a:Act} {w:World} {L:Lk} {u:lq}
def oH.rf{v:Value}{T:TypeId}{n sz:Nat}{f:Nat->Nat->Value}{nl nl':Bool}(h:oH w v T n sz f nl)(k:nl'=true->nl=true):oH w v T n sz f nl':=by
 rcases h with h|⟨b,c,cur,h1,h2,h3,h4,h5,h6,h7⟩
 .exact .inl h
 .exact .inr ⟨b,c,cur,h1,h2,h3,h4,h5,h6,λq=>h7<|k q⟩
def aeM{p:PV}{nl:Bool}{n sz:Nat}{el:Nat->Nat->E}(h:p.Oy=some (nl,n,sz,el)){v:Value}(hv:nY (jx B L) (j8 L) L w p v):∃ (A:Option Addr) (c:Nat) (f:Nat->Nat->Value),v = .slice A n c/\(A=none->c=0)/\n<=c /\
 (∀ i j,i<n->j<sz->(f i j).oneCell'=true/\(nl=true->sw (f i j)=false))/\(∀ i j,i<n->j<sz->∃ b o,A=some ⟨b,o,none⟩/\w.cell? ⟨b,o+(i*sz+j),none⟩=some (f i j)) /\
 ∀ i j,i<n->j<sz->jd (jx B L) (j8 L) w (el i j) (f i j)/\(el i j).nr 2=true:=by
 unfold PV.Oy at h;split at h
 .cases h;cases hv with
  |sl _ _ _ _ A c f hc hm h0 hl hr cell k=>exact⟨A,c,f,rfl,h0,hc,hl,λi j hi hj=>by obtain⟨b,o,e,_,_,pj⟩:=cell i j hi hj;exact⟨b,o,e,pj⟩,λi j hi hj=>⟨k i j hi hj,hr i j hi hj⟩⟩
 .cases h;cases hv with
  |py _ _ _ _ _ A c f hc hm h0 hl hr cell k=>exact⟨A,c,f,rfl,h0,hc,hl,λi j hi hj=>by obtain⟨b,o,e,_,_,pj⟩:=cell i j hi hj;exact⟨b,o,e,pj⟩,λi j hi hj=>⟨k i j hi hj,hr rfl i j hi hj⟩⟩
 .cases h
def X0(hT:ni P T){s x:Operand}{t:TypeId}{c:Call}(hc:c={ callee:=.builtin .append,args:=#[s,x],argTypes:=#[t,t] })(jf:o.op = .call c)(r:jC w0 B σ a w L)
 (h:BP T σ o.dst t (σ.op s) (σ.op x)=some u) (ho:∀ q,q ∈ u.jX->q):kC P K w0 B σ o a w u:=by
 have hs:=r.op s;have hx:=r.op x;simp only[BP]at h;split at h
 .rename_i nl2 m sz2 el2 pK;obtain⟨A,cx,g,hqx,Im,hgc,YH,gcell,gk⟩:=aeM pK hx;split at h
  .rename_i tt rp;split at h
   .rename_i e hd;have hu:P.underlying t=some (.slice e):=by rw[hT.sf rp,hd]
    split at h
    .rename_i te ou;split at h
     .rename_i z hz;split at h
      .rename_i AV;simp only[cr]at AV;have c1:=mg.1 AV.1.1.1;have c2:=dx AV.1.1.2;have c3:=dx AV.1.2;have c4:=mg.1 AV.2;obtain⟨zv,um,sN⟩:=Gy hz;obtain⟨q1,q2⟩:=sN (jx B L) (j8 L) w;have Cc:zv.cells.size=sz2:=by have:=q1.len;simp only[ek]at this;omega
       have key:∀ (v:Value) (n:Nat) (f:Nat->Nat->Value) (nl:Bool),a.eval s=v->oH w v e n sz2 f nl->(nl=true->nl2=true/\z.all E.oe=true)->(n+m)*te.i.bytes<=140737488355328 ->
        ∃ v' w',(execOp a.eval o).run P w = .ok (.value v') w'/\N6 w v e n sz2 m f g nl v' w':=by
        intro v n f nl hv mF kf jS;obtain⟨v',w',hr,mS⟩:=acD P w t o.type e te.i zv sz2 hu (hT.Bd ou) um c1 Cc aI c3 (λu hu=>q2 u<|by simpa using hu) v n f nl mF A m cx g
         gcell (λhA=>by have:=Im hA;omega)
         (λk j hk hj=>⟨(YH k j hk hj).1,λhn=>(YH k j hk hj).2 (kf hn).1⟩) (λhn u hu=>RE q1 (kf hn).2 u<|by simpa using hu) jS
        refine⟨v',w',?_,mS⟩;subst hc;have em:(#[s,x]:Array Operand).map a.eval = #[a.eval s,a.eval x]:= aP ;simp only[execOp,jf,resolve,em,hv,hqx,Sem.run_bind,Sem.run_pure,Result.andThen_ok,invoke,builtin,hr]
       split at h
       .
        rename_i id uj;rw[uj]at hs;split at h
        .rename_i nl T1 n sz el jE;split at h
         .rename_i pj;simp only[cr]at pj;have d1:=mg.1 pj.1.1;have d2:=mg.1 pj.1.2;subst d1 d2;cases h;have jS:(n+m)*te.i.bytes<=140737488355328:=ho _ aP;obtain⟨f,p1,p2,p3⟩:=r.hb id _ jE;obtain⟨k1,k2⟩:=hs;have kf:(nl&&(nl2&&z.all E.oe))=true->nl2=true/\z.all E.oe=true:=λhn=>by simp only[cr]at hn;exact hn.2
          obtain⟨v',w',lN,mS⟩:=key (L.val id) n f _ k2 (p1.rf λhn=>by simp only[cr]at hn;exact hn.1) kf jS;have ht:sF L w id (λy=>v'.ownBlock=some y) w':=by
           refine⟨λy hy=>?_,mS.size,λy hy kY=>mS.pL y hy λe1=>kY<|(p2 y).2 e1,mS.os,mS.tape,mS.output⟩;rcases mS.GW y hy with e1|⟨e1,e2⟩
           .have:=(p2 y).2 e1;exact⟨.inl this,cg (r.hw id y this).2 mS.size⟩
           .exact ⟨.inr e1,e2⟩
          have hl:=ht.later v'<|L.ji id;have hpt:∀ b,L.val id ≠ .pointer (some b):=λb e1=>by
           rcases p1 with⟨e2,_⟩|⟨_,_,_,e2,_⟩<;>rw[e1]at e2<;>cases e2
          refine⟨v',w',_,.inl lN,r.su id _ _ v' w' hpt ht ⟨λi j=>if i<n then f i j else g (i-n) j,by rw[Lk.qx];exact mS.own,λy=>by rw[Lk.uD,Lk.qx],λi j hi hj=>(λ(q:jd _ _ _ _ _/\_)=>⟨hl.mc q.1,q.2⟩) (?_:_/\_)⟩ λhn=>?_,Lk.CJ,Lk.qx.symm⟩
          .by_cases nx:i<n
           .simp only[nx,bW];exact p3 i j nx hj
           .simp only[nx,bN];exact gk _ _ aI hj
          .have:=pj.2;rw[hn]at this;simpa[Bx.nl]using this
         .cases h
        .cases h
       .
        rename_i id k uj;rw[uj]at hs;split at h
        .rename_i nl T1 T0 n sz len el jE;split at h
         .rename_i pj;simp only[cr]at pj;have d1:=mg.1 pj.1.1;have d2:=mg.1 pj.1.2;subst d1 d2;cases h;have hk:k<n:=ho _ aP;have jS:(len k+m)*te.i.bytes<=140737488355328:=ho _ aP;obtain⟨b,cp,cur,f,p1,p2,p3,p4,p5,p6,p7,p8,p9,p10,p11⟩:=(r.hb id _ jE).yo aI;obtain⟨k1,k2⟩:=hs;have kf:nl=true->nl2=true/\z.all E.oe=true:=λhn=>by have:=pj.2;rw[hn]at this;simpa using this
          obtain⟨v',w',lN,mS⟩:=key (L.ji id k) (len k) (f k) nl k2 (p8 k hk).1 kf jS;have xc:∀ y,v'.ownBlock=some y->(L.ji id k).ownBlock=some y\/(w.heap.size<=y/\y<w'.heap.size):=mS.GW;have wh:b<w.heap.size:=(r.hw id b<|(p9 b).2<|.inl rfl).2;have BV:∀ q y,q<n->(L.ji id q).ownBlock=some y->y<w.heap.size:=λq y hq hy=>(r.hw id y<|(p9 y).2<|.inr ⟨q,hq,hy⟩).2
          have ht:sF L w id (λy=>y=b\/∃ q,q<n/\(if q=k then v' else L.ji id q).ownBlock=some y) w':=by
           refine⟨λy hy=>?_,mS.size,λy hy kY=>mS.pL y hy λe1=>kY<|(p9 y).2<|.inr ⟨k,hk,e1⟩,mS.os,mS.tape,mS.output⟩;rcases hy with rfl|⟨q,hq,hy⟩
           .exact ⟨.inl<|(p9 y).2<|.inl rfl,cg wh mS.size⟩
           .by_cases wu:q=k
            .subst wu;rw[bA rfl]at hy;rcases xc y hy with e1|⟨e1,e2⟩
             .have:=(p9 y).2<|.inr ⟨q,hq,e1⟩;exact⟨.inl this,cg (r.hw id y this).2 mS.size⟩
             .exact ⟨.inr e1,e2⟩
            .rw [bw wu]at hy;have:=(p9 y).2<|.inr ⟨q,hq,hy⟩;exact⟨.inl this,cg (r.hw id y this).2 mS.size⟩
          have hl:=ht.later (L.val id) λq=>if q=k then v' else L.ji id q;have yU:∀ y,y<w.heap.size->(L.ji id k).ownBlock≠some y->w'.heap[y]? = w.heap[y]?:=mS.pL;refine⟨v',w',_,.inl lN,r.w8 id _ _ (λq=>if q=k then v' else L.ji id q) w' ht
           (.inr ⟨b,cp,cur,λq i j=>if q=k then(if i<len q then f q i j else g (i-len q) j)else f q i j,by rw[Lk.qx];exact p1,by rw[yU b wh<|p11 k hk];exact p2,p3,p4,p5,λq hq wu=>?_,p7,λq hq=>?_,λy=>?_,λq q' y hq xj hy q9=>?_,λq hq hy=>?_⟩) (λhn=>?_),Lk.CJ,?_⟩
          .have jM:q≠k:=λe1=>wu (by rw[e1])
           rw[Lk.tp,bw jM];exact p6 q hq aP 
          .rw [Lk.tp];by_cases wu:q=k
           .subst wu;simp only[bW];refine⟨mS.own,λi j hi hj=>(λ(q:jd _ _ _ _ _/\_)=>⟨hl.mc q.1,q.2⟩) (?_:_/\_)⟩;by_cases nx:i<len q
            .simp only[nx,bW];exact(p8 q hq).2 i j nx hj
            .simp only[nx,bN];exact gk _ _ aI hj
           .simp only[wu,bN];obtain⟨s1,s2⟩:=p8 q hq;exact⟨s1.block λy hy=>yU y (BV q y hq hy) λe1=>wu<|p10 q k y hq hk hy e1,λi j hi hj=>⟨hl.mc (s2 i j hi hj).1,(s2 i j hi hj).2⟩⟩
          .rw [Lk.uD];simp only[Lk.tp]
          .simp only[Lk.tp]at hy q9;by_cases h1:q=k
           .subst h1;by_cases h2:q'=q
            .exact h2.symm
            .rw [bA rfl]at hy;rw[bw h2]at q9;rcases xc y hy with e1|⟨e1,_⟩
             .exact p10 q q' y hq xj e1 q9
             .have:=BV q' y xj q9;omega
           .rw [bw h1]at hy;by_cases h2:q'=k
            .subst h2;rw[bA rfl]at q9;rcases xc y q9 with e1|⟨e1,_⟩
             .exact p10 q q' y hq xj hy e1
             .have:=BV q y hq hy;omega
            .rw [bw h2]at q9;exact p10 q q' y hq xj hy q9
          .simp only[Lk.tp]at hy;by_cases h1:q=k
           .subst h1;rw[bA rfl]at hy;rcases xc b hy with e1|⟨e1,_⟩
            .exact p11 q hq e1
            .omega
           .rw [bw h1]at hy;exact p11 q hq hy
          .have:=r.hl hn id _ jE;exact this
          .rw [Lk.tp,bA rfl]
         .cases h
        .cases h
       .
        rename_i uj;rw[uj]at hs;have hs:=jd.lh hs;obtain⟨id,LB,kY,zU,rfl⟩:=Jd h;have jS:m*te.i.bytes<=140737488355328:=ho _ aP;obtain⟨v',w',lN,mS⟩:=key _ 0 g (nl2&&z.all E.oe) hs (.inl ⟨rfl,rfl⟩) (λhn=>by simpa using hn) (by simpa using jS);have hb:Below w.heap.size w w':=⟨mS.os,mS.tape,mS.output,mS.size,λy hy=>mS.pL y hy<|by simp[Value.ownBlock]⟩
        have hO:∀ y,v'.ownBlock=some y->w.heap.size<=y/\y<w'.heap.size:=λy hy=>by
         rcases mS.GW y hy with e1|e1
         .simp [Value.ownBlock]at e1
         .exact e1
        have ht:sF L w id (λy=>v'.ownBlock=some y) w':=⟨λy hy=>⟨.inr (hO y hy).1,(hO y hy).2⟩,hb.size,λy hy _=>hb.block y hy,hb.os,hb.tape,hb.output⟩
        have hl:=ht.later v' λ_=>undef;have mF:=mS.own;rw[cJ]at mF;refine⟨v',w',_,.inl lN,r.new id _ (λy=>v'.ownBlock=some y) v' (λ_=>undef) w' kY hO hb ⟨λi j=>if i<0 then g i j else g (i-0) j,by rw[Lk.qx];exact mF,λy=>by rw[Lk.uD,Lk.qx],λi j hi hj=>(λ(q:jd _ _ _ _ _/\_)=>⟨hl.mc q.1,q.2⟩) (?_:_/\_)⟩ zU,Lk.CJ,Lk.qx.symm⟩;simp only[bM,bN,dT];exact gk i j hi hj
       .cases h
      .cases h
     .cases h
    .cases h
   .cases h
  .cases h
 .cases h
def ZN{id q T0 T1 n m sz:Nat}{nl nl2:Bool}{len len2:Nat->Nat}{el el2:Nat->Nat->Nat->E}(jM:id≠q)(r:jC w0 B σ a w L){v':Value}{w':World}(hm:0<m)
 (hq:rG (jx B L) (j8 L) L w q<|.nL nl2 T1 T0 m sz len2 el2 none)
 (f1:Nat->Nat->Nat->Value)
 (h8:∀ k,k<n->oH w (L.ji id k) T0 (len k) sz (f1 k) nl/\∀ i j,i<len k->j<sz->jd (jx B L) (j8 L) w (el k i j) (f1 k i j)/\(el k i j).nr 2=true)
 (h9:∀ k x,k<n->(L.ji id k).ownBlock=some x->L.own id x) (rM:∀ k k' x,k<n->k'<n->(L.ji id k).ownBlock=some x->(L.ji id k').ownBlock=some x->k=k')
 {v:Value} (FD:∀ y,v.ownBlock=some y->L.own id y) (ue:∀ k y,k<n->(L.ji id k).ownBlock=some y->v.ownBlock≠some y)
 (mF:oH w' v' T1 (n+m) 1 (λk _=>if k<n then L.ji id k else L.ji q (k-n)) true)
 (xc:∀ y,v'.ownBlock=some y->v.ownBlock=some y\/(w.heap.size<=y/\y<w'.heap.size))
 (lJ:w.heap.size<=w'.heap.size) (yU:∀ y,y<w.heap.size->v.ownBlock≠some y->w'.heap[y]? = w.heap[y]?) (vc:w'.os=w.os) (Q9:w'.tape=w.tape) (pT:w'.output=w.output)
 (kY:L.np id->∀ b,L.val id ≠ .pointer (some b)) (kf:σ.nl=true->(nl&&nl2)=true):
 jC w0 B (σ.oL<|.sy id q<|.nL (nl&&nl2) T1 T0 (n+m) sz (λk=>if k<n then len k else len2 (k-n)) (λk=>if k<n then el k else el2 (k-n)) none) a w'
  (L.rW id q (λy=>v'.ownBlock=some y\/∃ k,k<n+m/\(if k<n then L.ji id k else L.ji q (k-n)).ownBlock=some y) v' λk=>if k<n then L.ji id k else L.ji q (k-n)):=by
 obtain⟨b,c,cur,f,g1,g2,g3,g4,g5,g6,g7,g8,g9,g10,g11⟩:=hq.yo hm;have Q1:∀ k x,k<m->(L.ji q k).ownBlock=some x->L.own q x:=λk x hk hx=>(g9 x).2<|.inr ⟨k,hk,hx⟩
 have BV:∀ k y,k<n+m->(if k<n then L.ji id k else L.ji q (k-n)).ownBlock=some y->(L.own id y\/L.own q y)/\v.ownBlock≠some y:=by
  intro k y hk hy;by_cases e:k<n
  .rw [bA e]at hy;exact⟨.inl<|h9 k y e hy,ue k y e hy⟩
  .rw [bw e]at hy;have:=Q1 _ _ aI hy;exact⟨.inr this,λh=>jM<|r.hi id q y (FD y h) this⟩
 have je:∀ y,L.own id y\/L.own q y->y<w.heap.size:=λy h=>by
  rcases h with h|h
  .exact (r.hw id y h).2
  .exact (r.hw q y h).2
 refine r.rW jM _ _ v' _ w' (λy hy=>?_) lJ (λy hy alq=>yU y hy λh=>alq<|FD y h) vc Q9 pT (λhl=>?_) kY kf
 .rcases hy with hy|⟨k,hk,hy⟩
  .rcases xc y hy with h|⟨h1,h2⟩
   .exact ⟨.inl<|FD y h,cg (r.hw id y<|FD y h).2 lJ⟩
   .exact ⟨.inr<|.inr h1,h2⟩
  .have h:=(BV k y hk hy).1;exact⟨h.elim .inl λh=>.inr<|.inl h,cg (je y h) lJ⟩
 .rcases mF with⟨_,h0⟩|⟨b',c',cur',k1,k2,k3,k4,k5,k6,k7⟩
  .omega
  .have YK:∀ k y,k<n+m->(if k<n then L.ji id k else L.ji q (k-n)).ownBlock=some y->w'.heap[y]? = w.heap[y]?:=λk y hk hy=>yU y (je y (BV k y hk hy).1) (BV k y hk hy).2
   refine .inr ⟨b',c',cur',λk=>if k<n then f1 k else f (k-n),by rw[Lk.IY];exact k1,k2,k3,k4,aI,λk hk _=>?_,λu hu=>?_,λk hk=>?_,λy=>?_,λk k' y hk BY hy q9=>?_,λk hk hy=>?_⟩
   .rw [Lk.Ab];have:=(k6 k 0 hk aK).1;rwa[cG,ch]at this
   .exact k7 rfl u hu
   .rw [Lk.Ab];by_cases e:k<n
    .simp only[e,bW];obtain⟨s1,s2⟩:=h8 k e;refine⟨(s1.rf λh=>?_).block λy hy=>YK k y hk<|by rw[bA e];exact hy,λi j hi hj=>⟨hl.mc (s2 i j hi hj).1,(s2 i j hi hj).2⟩⟩;simp only[cr]at h;exact h.1
    .simp only[e,bN];obtain⟨s1,s2⟩:=g8 (k-n) aI;refine⟨(s1.rf λh=>?_).block λy hy=>YK k y hk<|by rw[bw e];exact hy,λi j hi hj=>⟨hl.mc (s2 i j hi hj).1,(s2 i j hi hj).2⟩⟩;simp only[cr]at h;exact h.2
   .rw [Lk.ZO,k1];simp only[Lk.Ab,Value.ownBlock,bT];constructor
    .rintro (h|h)
     .exact .inl h.symm
     .exact .inr h
    .rintro (h|h)
     .exact .inl h.symm
     .exact .inr h
   .simp only[Lk.Ab]at hy q9;by_cases e:k<n
    .rw [bA e]at hy;by_cases e':k'<n
     .rw [bA e']at q9;exact rM k k' y e e' hy q9
     .rw [bw e']at q9;exact absurd (r.hi id q y (h9 k y e hy)<|Q1 _ _ aI q9) jM
    .rw [bw e]at hy;by_cases e':k'<n
     .rw [bA e']at q9;exact absurd (r.hi id q y (h9 k' y e' q9)<|Q1 _ _ aI hy) jM
     .rw [bw e']at q9;have:=g10 (k-n) (k'-n) y aI aI hy q9;omega
   .rw [Lk.Ab]at hy;have h:=BV k b' hk hy;rcases xc b' (by rw[k1];rfl)with h2|⟨h2,_⟩
    .exact h.2 h2
    .have:=je b' h.1;omega
def an2{p:PV}{q:Nat}(h:p.FV=some q):p = .own q:=by
 cases p<;>simp only[PV.FV,reduceCtorEq,bT]at h;rw[h]
def aj9(hT:ni P T){s x:Operand}{t:TypeId}{q:Nat}{c:Call}(hc:c={ callee:=.builtin .append,args:=#[s,x],argTypes:=#[t,t] })(jf:o.op = .call c)(r:jC w0 B σ a w L)
  (hq:(σ.op x).FV=some q) (h:Dl T σ o.dst t (σ.op s) q=some u) (ho:∀ q,q ∈ u.jX->q):kC P K w0 B σ o a w u:=by
 have hx:=r.op x;rw[an2 hq]at hx;obtain⟨kx,kv⟩:=hx;have hs:=r.op s;unfold Dl at h;split at h
 .rename_i nl2 T2 T0 m sz len2 el2 e by_ uU AU;obtain⟨te,zv,uz,hu,ou,vi,Lz,lu,um,sQ,rU,Cb⟩:=V6 w hT AU;have Zm:∀ v,v ∈ zv.cells->v.oneCell'=true/\sw v=false:=λv hv=>by
   rw[sQ]at hv;have:v=uz:=by simpa using hv
   rw[this];exact⟨rU,Cb⟩
  have key:∀ (v:Value) (n:Nat) (f:Nat->Nat->Value),0<m->a.eval s=v->oH w v e n 1 f true->(n+m)*by_<=140737488355328 ->
    ∃ v' w',(execOp a.eval o).run P w = .ok (.value v') w'/\N6 w v e n 1 m f (λk _=>L.ji q k) true v' w':=by
   intro v n f hm hv mF jS;obtain⟨bq,cq,curq,fq,g1,g2,g3,g4,g5,g6,g7,g8,g9,g10,g11⟩:=(r.hb q _ uU).yo hm;have FF:a.eval x = .slice (some ⟨bq,0,none⟩) m cq:=by rw[kv,g1]
   obtain⟨v',w',hr,mS⟩:=acD P w t o.type e te.i zv 1 hu (hT.Bd ou) um vi (by rw[sQ];rfl) aK aI (λv hv=>(Zm v hv).1) v n f true mF (some ⟨bq,0,none⟩) m cq (λk _=>L.ji q k)
    (λk j hk hj=>⟨bq,0,rfl,by
     obtain rfl:j=0:= aI ;have:=g6 k hk aP;simp only[World.cell?,g2];simpa using this⟩) (λhA=>by cases hA)
    (λk j hk hj=>⟨(g8 k hk).1.head.2.1,λ_=>(g8 k hk).1.head.2.2⟩) (λ_ v hv=>(Zm v hv).2) (by rw[Lz];exact jS)
   refine⟨v',w',?_,mS⟩;subst hc;have em:(#[s,x]:Array Operand).map a.eval = #[a.eval s,a.eval x]:= aP ;simp only[execOp,jf,resolve,em,hv,FF,Sem.run_bind,Sem.run_pure,Result.andThen_ok,invoke,builtin,hr]
  split at h
  .
   rename_i id uj;rw[uj]at hs;obtain⟨ks,ks2⟩:=hs;split at h
   .rename_i nl T1 T0' n sz' len el jE;split at h
    .rename_i pj;cases h;simp only[cr,eU]at pj;obtain rfl:=mg.1 pj.1.1.1.1;obtain rfl:=mg.1 pj.1.1.1.2;obtain rfl:=mg.1 pj.1.1.2;obtain rfl:=mg.1 pj.1.2;have jM:id≠q:=λe=>by have:=pj.2;rw[e,cU]at this;cases this
     have hm:0<m:=ho _ aP;have jS:(n+m)*by_<=140737488355328:=ho _ aP;obtain⟨f,pown,p8,p9,p10,FD,p11,pno⟩:∃ f:Nat->Nat->Nat->Value,oH w (L.val id) _ n 1 (λk _=>L.ji id k) true /\
       (∀ k,k<n->oH w (L.ji id k) T0' (len k) sz' (f k) nl/\∀ i j,i<len k->j<sz'->jd (jx B L) (j8 L) w (el k i j) (f k i j)/\(el k i j).nr 2=true) /\
       (∀ k x,k<n->(L.ji id k).ownBlock=some x->L.own id x)/\(∀ k k' x,k<n->k'<n->(L.ji id k).ownBlock=some x->(L.ji id k').ownBlock=some x->k=k') /\
       (∀ y,(L.val id).ownBlock=some y->L.own id y)/\(∀ k y,k<n->(L.ji id k).ownBlock=some y->(L.val id).ownBlock≠some y)/\∀ b,L.val id ≠ .pointer (some b):=by
      rcases r.hb id _ jE with⟨h1,h2,h3⟩|⟨b,cp,cur,f,p1,p2,p3,p4,p5,p6,p7,p8,p9,p10,p11⟩
      .refine ⟨λ_ _ _=>undef,.inl ⟨h1,h2⟩,λk hk=> aI,λk x hk=> aI,λk k' x hk=> aI,λy hy=>?_,λk y hk=> aI,λb hb=>?_⟩
       .rw [h1]at hy;simp[Value.ownBlock]at hy
       .rw [h1]at hb;cases hb
      .refine ⟨f,.inr ⟨b,cp,cur,p1,p2,p3,p4,aI,λk j hk hj=>?_,λ_=>p7⟩,p8,λk y hk hy=>(p9 y).2<|.inr ⟨k,hk,hy⟩,p10,λy hy=>?_,λk y hk hy FH=>?_,λb1 lu=>?_⟩
       .obtain rfl:j=0:= aI ;rw[cG,ch];exact⟨p6 k hk aP,(p8 k hk).1.head.2.1⟩
       .rw [p1]at hy;simp only[Value.ownBlock,bT]at hy;exact(p9 y).2<|.inl hy.symm
       .rw [p1]at FH;simp only[Value.ownBlock,bT]at FH;exact p11 k hk<|FH▸hy
       .rw [p1]at lu;cases lu
     obtain⟨v',w',lN,mS⟩:=key (L.val id) n (λk _=>L.ji id k) hm ks2 pown jS;refine⟨v',w',_,.inl lN,ZN jM r hm (r.hb q _ uU) f p8 p9 p10 FD p11 mS.own mS.GW mS.size mS.pL mS.os mS.tape mS.output (λ_=>pno) λhn=>?_,Lk.Ru jM,Lk.IY.symm⟩
     .have h1:nl=true:=r.hl hn id _ jE;have h2:nl2=true:=r.hl hn q _ uU;rw[h1,h2];rfl
    .cases h
   .cases h
  .
   rename_i id uj LB;rw[uj]at hs;have hs:=jd.lh hs;split at h
   .rename_i kY;split at h
    .rename_i pj;cases h;simp only[cr,eU]at pj;obtain rfl:=mg.1 pj.1;have jM:id≠q:=λe=>by have:=pj.2;rw[e,cU]at this;cases this
     have hm:0<m:=ho _ aP;have jS:m*by_<=140737488355328:=ho _ aP;obtain⟨v',w',lN,mS⟩:=key _ 0 (λk _=>L.ji id k) hm hs (.inl ⟨rfl,rfl⟩) (by simpa using jS);have QU:¬L.np id:=λh=>by have:=(r.hv id).1 h;rw[kY]at this;cases this
     have hj:=ZN (n:=0) (nl:=true) (len:=λ_=>0) (el:=λ_ _ _=>.any) jM r hm (r.hb q _ uU) (λ_ _ _=>undef) (λk hk=>absurd hk<|bM k) (λk y hk=>absurd hk<|bM k) (λk k' y hk=>absurd hk<|bM k)
      (v:=.slice none 0 0) (λy hy=>by simp[Value.ownBlock]at hy) (λk y hk=>absurd hk<|bM k) mS.own mS.GW mS.size mS.pL mS.os mS.tape mS.output (λh=>absurd h QU) (λhn=>r.hl hn q _ uU)
     simp only[bM,bN,dT,cJ,fk]at hj;exact⟨v',w',_,.inl lN,hj,Lk.Ru jM,Lk.IY.symm⟩
    .cases h
   .cases h
  .cases h
 .cases h
def ajX(hT:ni P T)(hB:∀ b,B b->b<w0.heap.size){s x:Operand}{t:TypeId}{c:Call}(hc:c={ callee:=.builtin .append,args:=#[s,x],argTypes:=#[t,t] })(jf:o.op = .call c)(r:jC w0 B σ a w L)
 (h:Dk T σ o.dst t (σ.op s) (σ.op x)=some u) (ho:∀ q,q ∈ u.jX->q):kC P K w0 B σ o a w u:=by
 unfold Dk at h;split at h
 .rename_i u0 h0;split at h
  .rename_i id nl T1 n sz el id' hf hr;split at h
   .rename_i hid;have hid:=mg.1 hid;subst hid;cases h;have r2:jC w0 B { σ with nl:=false } a w L:=⟨r.hd,r.hs,r.ht,r.hb,r.hv,r.hn,r.hw,r.hi,r.he,λh=>by cases h⟩
    obtain⟨v,w',L1,lN,hrel,sN⟩:=X0 (K:=K) hT hc jf r2 h0 λq hq=>ho q<|List.mem_cons_of_mem _ hq
    rw[hf]at hrel;rw[hr]at sN;obtain⟨L',k1,k2⟩:=jC.fin hB hrel;refine⟨v,w',L',lN,⟨k1.hd,k1.hs,k1.ht,k1.hb,k1.hv,k1.hn,k1.hw,k1.hi,k1.he,λhn i b hb=>r.hl hn i b ?_⟩,?_⟩
    .have hb:look (σ.b.filter λx=>!Nat.beq x.1 id') i=some b:=hb;rw[D3]at hb;split at hb
     .cases hb
     .exact hb
    rw[sN.2];exact k2
   .cases h
  .cases h
 .cases h
def akf{x y:Operand}{c:Call}(hc:c.callee = .builtin .max/\c.args = #[x,y])(jf:o.op = .call c)(r:jC w0 B σ a w L){k k':IntKind}{p q:Int}(hx:σ.op x = .e (.v<|.int k p))(hy:σ.op y = .e (.v<|.int k' q))
 (hu:u={ r:=.e<|.v<|.int k<|if q>p then q else p }):kC P K w0 B σ o a w u:=by
 have h1:=r.op x;have h2:=r.op y;rw[hx]at h1;rw[hy]at h2;have h1:=jd.lh h1;have h2:=jd.lh h2;subst hu;refine kC.pure r (v:=.int k<|if q>p then q else p) ?_ rfl (.v _);have em:(#[x,y]:Array Operand).map a.eval = #[.int k p,.int k' q]:=by simp[h1,h2]
 simp only[execOp,jf,resolve,hc.1,hc.2,em,Sem.run_bind,Sem.run_pure,Result.andThen_ok,invoke,builtin,run_max_int2]
def akg{x y z:Operand}{c:Call}(hc:c.callee = .builtin .max/\c.args = #[x,y,z])(jf:o.op = .call c)(r:jC w0 B σ a w L){k k' k'':IntKind}{p q s:Int}(hx:σ.op x = .e (.v<|.int k p))(hy:σ.op y = .e (.v<|.int k' q))(hz:σ.op z = .e (.v<|.int k'' s))
 (hu:u={ r:=.e<|.v<|.int k<|if s>(if q>p then q else p)then s else(if q>p then q else p) }):kC P K w0 B σ o a w u:=by
 have h1:=r.op x;have h2:=r.op y;have h3:=r.op z;rw[hx]at h1;rw[hy]at h2;rw[hz]at h3;have h1:=jd.lh h1;have h2:=jd.lh h2;have h3:=jd.lh h3;subst hu;refine kC.pure r (v:=.int k<|if s>(if q>p then q else p)then s else(if q>p then q else p)) ?_ rfl (.v _);have em:(#[x,y,z]:Array Operand).map a.eval = #[.int k p,.int k' q,.int k'' s]:=by simp[h1,h2,h3]
 simp only[execOp,jf,resolve,hc.1,hc.2,em,Sem.run_bind,Sem.run_pure,Result.andThen_ok,invoke,builtin,run_max_int3]
def akh{x y:Operand}{c:Call}(hc:c.callee = .builtin .min/\c.args = #[x,y])(jf:o.op = .call c)(r:jC w0 B σ a w L){k k':IntKind}{p q:Int}(hx:σ.op x = .e (.v<|.int k p))(hy:σ.op y = .e (.v<|.int k' q))
 (hu:u={ r:=.e<|.v<|.int k<|if q<p then q else p }):kC P K w0 B σ o a w u:=by
 have h1:=r.op x;have h2:=r.op y;rw[hx]at h1;rw[hy]at h2;have h1:=jd.lh h1;have h2:=jd.lh h2;subst hu;refine kC.pure r (v:=.int k<|if q<p then q else p) ?_ rfl (.v _);have em:(#[x,y]:Array Operand).map a.eval = #[.int k p,.int k' q]:=by simp[h1,h2]
 simp only[execOp,jf,resolve,hc.1,hc.2,em,Sem.run_bind,Sem.run_pure,Result.andThen_ok,invoke,builtin,run_min_int2]
end
structure Gd(P:Program)(K:World->Prop)(w0:World)(B:Nat->Prop):Prop where
 k:K w0
 ME:∀ w w',K w->Below w.heap.size w w'->K w'
 hB:∀ b,B b->b<w0.heap.size/\pN w0 b
def pN.FR{w w':World}{b:Nat}(h:pN w b)(hb:w'.heap[b]? = w.heap[b]?):pN w' b:=by
 intro o x e;exact h o x<|by rw[<-e];exact(World.cell?_of_block (w:=w) (w':=w') hb).symm
def pN.R1{w:World}{b:Nat}{cs:Array Value}{T:TypeId}{fr:Nat×Nat}(hg:w.heap[b]? = some (.cells cs T fr))(h:∀ v,v ∈ cs->sw v=false):pN w b:=by
 intro o x e;simp only[World.cell?,hg]at e;simp only[Option.isSome_none,cz,bN]at e;have:=h _<|eR e;cases this
section
variable {P:Program} {K:World->Prop} {T:List TI} {O:qY} {w0:World} {B:Nat->Prop} {σ:PS} {o:Oper} {a:Act} {w:World} {L:Lk} {u:lq}
def oH.Mw{v:Value}{T:TypeId}{n sz:Nat}{f:Nat->Nat->Value}(h:oH w v T n sz f true){x:Nat}(hx:v.ownBlock=some x):pN w x:=by
 rcases h with⟨rfl,_⟩|⟨b,c,cur,rfl,hg,_,_,_,_,kf⟩
 .simp [Value.ownBlock]at hx
 .simp [Value.ownBlock]at hx;subst hx;exact pN.R1 hg<|kf rfl
def rG.Mw{id:Nat}{b:Bx}(h:rG (jx B L) (j8 L) L w id b)(hn:b.nl=true){x:Nat}(hx:L.own id x):pN w x:=by
 cases b with
 |cells T l=>
  obtain⟨b,vs,h1,h2,h3,h4,h5⟩:=h;obtain rfl:=(h2 x).1 hx;exact pN.R1 h3 λv hv=>RE h4 hn v<|by simpa using hv
 |row nl T n sz el=>
  obtain⟨f,h1,h2,h3⟩:=h;have hn:nl=true:=hn;subst hn;exact h1.Mw<|(h2 x).1 hx
 |nL nl T1 T0 n sz len el pend=>
  rcases h with⟨_,_,h⟩|h
  .exact absurd hx<|h x
  obtain⟨b,c,cur,f,h1,h2,h3,h4,h5,h6,h7,h8,h9,rM,ue⟩:=h;have hn:nl=true:=hn;subst hn;rcases(h9 x).1 hx with rfl|⟨k,hk,hkx⟩
  .exact pN.R1 h2 λv hv=>h7 v hv
  .exact (h8 k hk).1.Mw hkx
def jC.KC(g:Gd P K w0 B)(r:jC w0 B σ a w L)(hn:σ.nl=true):∀ b,jx B L b->b<w.heap.size/\pN w b:=by
 intro b hb;rcases hb with hb|⟨id,hb⟩
 .obtain ⟨h1,h2⟩:=g.hB b hb;exact⟨cg h1 r.he.size,h2.FR<|r.he.block b h1⟩
 .refine ⟨(r.hw id b hb).2,?_⟩;have hl:=(r.hv id).1<|r.hn id b hb;obtain⟨bx,jz⟩:=gL.1 hl;exact(r.hb id bx jz).Mw (r.hl hn id bx jz) hb
def rG.ky{id:Nat}{Tt:TypeId}{l:List E}(h:rG (jx B L) (j8 L) L w id<|.cells Tt l){b:Nat}(hv:L.val id = .pointer (some ⟨b,0,none⟩))(je:∀ x,L.own id x->x<w.heap.size):
 jd (jx B L) (λ_=>False) w (.ky l.length λj=>l.getD j .any) (.pointer<|some ⟨b,0,none⟩):=by
 obtain⟨b',vs,h1,h2,h3,h4,h5⟩:=h;rw[hv]at h1;cases h1;refine .ky _ _ b 0 (λj=>vs.getD j undef) (λh=>h) (je b<|(h2 b).2 rfl) (λj hj=>?_) (λj hj=>?_) λj hj=>?_
 .have uh:j<vs.length:=by rw[h4.len];exact hj
  rw[bJ,bS uh];exact h5 _<|dI uh
 .have uh:j<vs.length:=by rw[h4.len];exact hj
  simp only[World.cell?,h3];simp[uh]
 .have uh:j<vs.length:=by rw[h4.len];exact hj
  rw[bJ,bS hj,bJ,bS uh];exact(h4.mc j _ _ (bS hj)<|bS uh).rf (λ_ h=>h) λ_ h=>h.elim
def oH.acg{v:Value}{T:TypeId}{n sz:Nat}{f:Nat->Nat->Value}{nl:Bool}{el:Nat->Nat->E}{bs br:Nat->Prop}(h1:oH w v T n sz f nl)(je:∀ x,v.ownBlock=some x->x<w.heap.size)
 (h3:∀ i j,i<n->j<sz->jd bs br w (el i j) (f i j)/\(el i j).nr 2=true):jd (λ_=>False) (λ_=>False) w (.sl nl n sz el) v:=by
 rcases h1 with⟨rfl,rfl⟩|⟨b,c,cur,rfl,hg,qd,oq,pk,ln,kf⟩
 .exact .sl nl 0 sz el none 0 f (bB _) aK (λ_=>rfl) (λi j hi=>absurd hi<|bM i) (λi j hi=>absurd hi<|bM i) (λi j hi=>absurd hi<|bM i) λi j hi=>absurd hi<|bM i
 .refine .sl nl n sz el _ c f qd (by unfold maxLen at oq;omega) (λh=>by cases h) (λi j hi hj=>⟨(ln i j hi hj).2,λhn=>kf hn _<|eR (ln i j hi hj).1⟩) (λi j hi hj=>(h3 i j hi hj).2)
   (λi j hi hj=>⟨b,0,rfl,λh=>h,je b rfl,?_⟩) (λi j hi hj=>(jd.nr ((h3 i j hi hj).1.rf (λ_ h=>h.elim) λ_ h=>h) 2 (h3 i j hi hj).2))
  rw[cJ];simp only[World.cell?,hg];simpa using(ln i j hi hj).1
section
variable(r:jC w0 B σ a w L)
def jC.Zu{id T1 T0 n sz k:Nat}{nl:Bool}{len:Nat->Nat}{el:Nat->Nat->Nat->E}{pend:Option Nat}(jE:σ.bo id=some (.nL nl T1 T0 n sz len el pend))(hk:k<n):
 jd (λ_=>False) (λ_=>False) w (.sl nl (len k) sz<|el k) (L.ji id k):=by
 obtain⟨b,c,cur,f,h1,h2,h3,h4,h5,h6,h7,h8,h9,rM,ue⟩:=(r.hb id _ jE).yo aI;exact(h8 k hk).1.acg (λx hx=>(r.hw id x<|(h9 x).2<|.inr ⟨k,hk,hx⟩).2) (h8 k hk).2
section
variable{c:CV}{e:E}{is:List Nat}(h:c.ext σ=some (e,is))
def CV.Hs(kY:c.IU=false){v:Value}(hv:yx (jx B L) (j8 L) L w c v):jd (jx B L) (λ_=>False) w e v:=by
 cases c with
 |e x=>simp only[CV.ext,bT,cD]at h;obtain⟨rfl,_⟩:=h;exact hv.rf (λ_ h=>h) λ_ h=>h.elim
 |box id=>
  simp only[CV.ext]at h;split at h
  .rename_i Tt l jE;simp only[bT,cD]at h;obtain⟨rfl,_⟩:=h;obtain⟨_,b,k2,rfl⟩:=hv;exact(r.hb id _ jE).ky k2 λx hx=>(r.hw id x hx).2
  .cases h
 |row id=>cases kY
def CV.PI{v:Value}(hv:yx (jx B L) (j8 L) L w c v):jd (λ_=>False) (λ_=>False) w e v:=by
 cases kY:c.IU with
 |false=>exact(CV.Hs r h kY hv).rf (λ_ h=>h.elim) λ_ h=>h
 |true=>
  cases c with
  |row id=>
   simp only[CV.ext]at h;split at h
   .rename_i nl T1 T0 n sz len el jE;split at h
    .rename_i hn;have hn:=mg.1 hn;subst hn;simp only[bT,cD]at h;obtain⟨rfl,_⟩:=h;obtain⟨_,b,n',c,k2,rfl⟩:=hv;have nx:=r.Zu jE<|gM 0;obtain⟨b',c',cur,f,h1,h2,h3,h4,h5,h6,h7,h8,h9,rM,ue⟩:=(r.hb id _ jE).yo aK;rw[k2]at h1;cases h1;have nD:=h6 0 (gM 0) aP;refine .ky 1 _ b 0 (λ_=>L.ji id 0) (λh=>h) (r.hw id b<|(h9 b).2<|.inl rfl).2 (λj hj=>(h8 0<|gM 0).1.head.2.1) (λj hj=>?_) λj hj=>nx;obtain rfl:j=0:= aI ;simp only[World.cell?,h2];simpa using nD
    .cases h
   .cases h
  |_=>cases kY
end
section
variable{l:List CV}{es:List E}{is:List Nat}(h:wY σ l=some (es,is))
def Xz(kY:l.any CV.IU=false){vs:List Value}(hlen:vs.length=l.length)
 (hv:∀ (i:Nat) (c:CV) (x:Value),l[i]? = some c->vs[i]? = some x->yx (jx B L) (j8 L) L w c x):kR (jx B L) (λ_=>False) w es vs:=by
 induction l generalizing es is vs with
 |nil=>simp only[wY,bT,cD]at h;obtain⟨rfl,_⟩:=h;obtain rfl:=dZ hlen;exact .nil _ _ _
 |cons c l ih=>
  cases vs with
  |nil=>simp at hlen
  |cons v vs=>
   simp only[wY]at h;split at h
   .rename_i x i xs js h1 h2;simp only[bT,cD]at h;obtain⟨rfl,_⟩:=h;simp only[fh,gK]at kY;exact .cons (CV.Hs r h1 kY.1<|hv 0 c v rfl rfl)<|ih h2 kY.2 (by simpa using hlen) λi c x hc hx=>hv (i+1) c x (by simpa using hc)<|by simpa using hx
   .cases h
def XA{vs:List Value}(hlen:vs.length=l.length)
 (hv:∀ (i:Nat) (c:CV) (x:Value),l[i]? = some c->vs[i]? = some x->yx (jx B L) (j8 L) L w c x):kR (λ_=>False) (λ_=>False) w es vs:=by
 induction l generalizing es is vs with
 |nil=>simp only[wY,bT,cD]at h;obtain⟨rfl,_⟩:=h;obtain rfl:=dZ hlen;exact .nil _ _ _
 |cons c l ih=>
  cases vs with
  |nil=>simp at hlen
  |cons v vs=>
   simp only[wY]at h;split at h
   .rename_i x i xs js h1 h2;simp only[bT,cD]at h;obtain⟨rfl,_⟩:=h;exact .cons (CV.PI r h1<|hv 0 c v rfl rfl)<|ih h2 (by simpa using hlen) λi c x hc hx=>hv (i+1) c x (by simpa using hc)<|by simpa using hx
   .cases h
end
end
def oH.amy{v:Value}{T:TypeId}{n sz:Nat}{f:Nat->Nat->Value}{nl:Bool}{el:Nat->Nat->E}{bs br:Nat->Prop}(h1:oH w v T n sz f nl)(je:∀ x,v.ownBlock=some x->x<w.heap.size)
 (h3:∀ i j,i<n->j<sz->jd bs br w (el i j) (f i j)/\(el i j).nr 2=true):jd bs (λ_=>False) w (.py true nl n sz el) v:=by
 rcases h1 with⟨rfl,rfl⟩|⟨b,c,cur,rfl,hg,qd,oq,pk,ln,kf⟩
 .exact .py true nl 0 sz el none 0 f (bB _) aK (λ_=>rfl) (λi j hi=>absurd hi<|bM i) (λ_ i j hi=>absurd hi<|bM i) (λi j hi=>absurd hi<|bM i) λi j hi=>absurd hi<|bM i
 .refine .py true nl n sz el _ c f qd (by unfold maxLen at oq;omega) (λh=>by cases h) (λi j hi hj=>⟨(ln i j hi hj).2,λhn=>kf hn _<|eR (ln i j hi hj).1⟩) (λ_ i j hi hj=>(h3 i j hi hj).2)
   (λi j hi hj=>⟨b,0,rfl,λh=>h,je b rfl,?_⟩) (λi j hi hj=>jd.nr (h3 i j hi hj).1 2 (h3 i j hi hj).2)
  rw[cJ];simp only[World.cell?,hg];simpa using(ln i j hi hj).1
section
variable(r:jC w0 B σ a w L){p:PV}{e:E}{is:List Nat}(h:p.ext σ=some (e,is))
def PV.Hs(kY:p.yc σ=false){v:Value}(hv:nY (jx B L) (j8 L) L w p v):jd (jx B L) (λ_=>False) w e v:=by
 cases p with
 |e x=>simp only[PV.ext,bT,cD]at h;obtain⟨rfl,_⟩:=h;exact jd.rf (λ_ h=>h) (λ_ h=>h.elim) hv
 |box id off=>
  cases off with
  |succ=>simp[PV.ext]at h
  |zero=>
   simp only[PV.ext]at h;split at h
   .rename_i Tt l jE;simp only[bT,cD]at h;obtain⟨rfl,_⟩:=h;obtain⟨_,b,k2,rfl⟩:=hv;exact(r.hb id _ jE).ky k2 λx hx=>(r.hw id x hx).2
   .cases h
 |qb f cap=>
  simp only[PV.ext]at h;split at h
  .rename_i xs js h1;simp only[bT,cD]at h;obtain⟨rfl,_⟩:=h;obtain⟨vs,rfl,k2,k3⟩:=hv;have:=Xz r h1 kY k2 k3;exact .fn f xs vs this.len this.mc
  .cases h
 |own id=>
  obtain⟨_,rfl⟩:=hv;simp only[PV.yc]at kY;split at kY
  .rename_i nl T1 T0 n sz len el pend jE;simp only[PV.ext,jE]at h;cases pend with
   |some k=>cases h
   |none=>
    simp only[bT,cD]at h;obtain⟨rfl,_⟩:=h;rcases r.hb id _ jE with⟨h1,h2,_⟩|⟨b,c,cur,f,h1,h2,h3,h4,h5,h6,h7,h8,h9,rM,ue⟩
    .subst h2;rw[h1];exact .py false true 0 1 _ none 0 (λ_ _=>undef) (bB _) aK (λ_=>rfl) (λi j hi=>absurd hi<|bM i) (λh=>by cases h) (λi j hi=>absurd hi<|bM i) λi j hi=>absurd hi<|bM i
    .rw [h1];refine .py false true n 1 _ _ c (λk _=>L.ji id k) h3 (by unfold maxLen at h4;omega) (λh=>by cases h) (λk j hk hj=>⟨(h8 k hk).1.head.2.1,λ_=>(h8 k hk).1.head.2.2⟩) (λh=>by cases h)
      (λk j hk hj=>⟨b,0,rfl,λh=>h,(r.hw id b<|(h9 b).2<|.inl rfl).2,?_⟩) (λk j hk hj=>(h8 k hk).1.amy (λx hx=>(r.hw id x<|(h9 x).2<|.inr ⟨k,hk,hx⟩).2) (h8 k hk).2)
     rw[cJ,cG];obtain rfl:j=0:= aI ;simp only[World.cell?,h2];simpa using h6 k hk aP 
  .cases kY
 |ji id k=>cases kY
 |oW=>simp[PV.ext]at h
 |rV=>simp[PV.ext]at h
def PV.PI{v:Value}(hv:nY (jx B L) (j8 L) L w p v):jd (λ_=>False) (λ_=>False) w e v:=by
 by_cases kY:p.yc σ=false
 .exact (PV.Hs r h kY hv).rf (λ_ h=>h.elim) λ_ h=>h
 .cases p with
  |own id=>
   obtain⟨_,rfl⟩:=hv;simp only[PV.ext]at h;split at h
   .rename_i nl T n sz el jE;simp only[bT,cD]at h;obtain⟨rfl,_⟩:=h;obtain⟨f,h1,h2,h3⟩:=r.hb id _ jE;exact h1.acg (λx hx=>(r.hw id x<|(h2 x).2 hx).2) h3
   .rename_i nl T1 T0 n sz len el jE;exact absurd (by simp only[PV.yc,jE]) kY
   .cases h
  |ji id k=>
   obtain⟨_,rfl⟩:=hv;simp only[PV.ext]at h;split at h
   .rename_i nl T1 T0 n sz len el jE;split at h
    .rename_i hk;simp only[bT,cD]at h;obtain⟨rfl,_⟩:=h;exact r.Zu jE<|by simpa[gE]using hk
    .cases h
   .cases h
  |qb f cap=>
   simp only[PV.ext]at h;split at h
   .rename_i xs js h1;simp only[bT,cD]at h;obtain⟨rfl,_⟩:=h;obtain⟨vs,rfl,k2,k3⟩:=hv;have:=XA r h1 k2 k3;exact .fn f xs vs this.len this.mc
   .cases h
  |e x=>exact absurd rfl kY
  |box id off=>exact absurd rfl kY
  |oW id sz i j=>exact absurd rfl kY
  |rV id sz k i j=>exact absurd rfl kY
end
section
variable(r:jC w0 B σ a w L){l:List Operand}{es:List E}{is:List Nat}(h:vG σ l=some (es,is))
def U3:kR (λ_=>False) (λ_=>False) w es<|l.map a.eval:=by
 induction l generalizing es is with
 |nil=>simp only[vG,bT,cD]at h;obtain⟨rfl,_⟩:=h;exact .nil _ _ _
 |cons x l ih=>
  simp only[vG]at h;split at h
  .rename_i y i xs js h1 h2;simp only[bT,cD]at h;obtain⟨rfl,_⟩:=h;exact .cons (PV.PI r h1<|r.op x)<|ih h2
  .cases h
def U2(kY:(l.map σ.op).any (PV.yc σ)=false):kR (jx B L) (λ_=>False) w es<|l.map a.eval:=by
 induction l generalizing es is with
 |nil=>simp only[vG,bT,cD]at h;obtain⟨rfl,_⟩:=h;exact .nil _ _ _
 |cons x l ih=>
  simp only[vG]at h;split at h
  .rename_i y i xs js h1 h2;simp only[bT,cD]at h;obtain⟨rfl,_⟩:=h;simp only[ff,fh,gK]at kY;exact .cons (PV.Hs r h1 kY.1<|r.op x)<|ih h2 kY.2
  .cases h
end
def Kj(P:Program)(K:World->Prop)(w0:World)(B:Nat->Prop)(σ:PS)(o:Oper)(a:Act)(w:World)(u:lq):Prop:=
 ∀ (Kc:Act->World->Prop) (Q:Exit->Act->World->Prop),(∀ v w' L',jC w0 B (σ.oL u.f) a w' L'->nY (jx B L') (j8 L') L' w' u.r v->Kc (a.put o.dst v) w')->o.wp P a w Kc Q
def kC.pI(h:kC P K w0 B σ o a w u):Kj P K w0 B σ o a w u:=by
 intro Kc Q hk;obtain⟨v,w',L',lN,hr,hp⟩:=h;unfold Oper.wp;rcases lN with lN|⟨lN,rfl⟩
 .rw [lN];exact hk v w' L' hr hp
 .rw [lN];exact hk _ w' L' hr hp
def WI(g:Gd P K w0 B)(r:jC w0 B σ a w L){c:Call}{f:Operand}(jf:o.op = .call c)(hf:c.callee = .value f){gf:FuncId}{xs ys:List E}{is:List Nat}{us:List Value}
 {ow:Bool} (AW:a.eval f = .func (.func gf) #[] us.toArray) (Rd:kR (λ_=>False) (λ_=>False) w xs<|c.args.toList.map a.eval) (q8:ow=false->kR (jx B L) (λ_=>False) w xs (c.args.toList.map a.eval)) (Ra:kR (λ_=>False) (λ_=>False) w ys us) (Ba:ow=false->kR (jx B L) (λ_=>False) w ys us)
 (h:BQ P K O σ o.dst gf (xs++ys) is ow=some u) (ho:∀ q,q ∈ u.jX->q):Kj P K w0 B σ o a w u:=by
 intro Kc Q hk;simp only[BQ]at h;split at h
 .rename_i jQ IC;split at h
  .rename_i hc;cases h;have pc:PC P K gf (xs++ys) jQ:=ho _ aP;have Qo:=Rd.app Ra;have lN:(execOp a.eval o).run P w = .ok (.enter gf ((c.args.toList.map a.eval)++us).toArray) w:=by
    have e1:c.args.map a.eval=(c.args.toList.map a.eval).toArray:=by apply eg;simp
    have e2:#[]++(c.args.toList.map a.eval).toArray++us.toArray=((c.args.toList.map a.eval)++us).toArray:= aP ;simp only[execOp,jf,resolve,hf,AW,Deferred.ofValue,Sem.run_bind,Sem.run_pure,Result.andThen_ok,invoke,e1,e2,pc.call]
   unfold Oper.wp;rw[lN];show Calls P gf _ w _;have hK:K w:=g.ME _ _ g.k r.he;by_cases DK:jQ.plain 3=true
   .refine (pc.run w (λ_=>False) _ hK (λ_ h=>h.elim) Qo).mono ?_;rintro e w' ⟨v,rfl,hb,hv⟩;exact hk v w' L (r.later hb)<|jd.plain (w:=w') hv 3 DK
   .have hn:σ.nl=true/\ow=false:=by simpa[DK]using hc
    refine(pc.run w (jx B L) _ hK (r.KC g hn.1)<|(q8 hn.2).app<|Ba hn.2).mono ?_;rintro e w' ⟨v,rfl,hb,hv⟩;exact hk v w' L (r.later hb)<|jd.rf (λ_ h=>h) (λ_ _=>trivial) hv
  .split at h
   .rename_i hc;cases h;have pc:CY P K gf (xs++ys) jQ:=ho _ aP;have lN:(execOp a.eval o).run P w = .ok (.enter gf ((c.args.toList.map a.eval)++us).toArray) w:=by
     have e1:c.args.map a.eval=(c.args.toList.map a.eval).toArray:=by apply eg;simp
     have e2:#[]++(c.args.toList.map a.eval).toArray++us.toArray=((c.args.toList.map a.eval)++us).toArray:= aP ;simp only[execOp,jf,resolve,hf,AW,Deferred.ofValue,Sem.run_bind,Sem.run_pure,Result.andThen_ok,invoke,e1,e2,pc.call]
    unfold Oper.wp;rw[lN];show Calls P gf _ w _;have hK:K w:=g.ME _ _ g.k r.he;have hn:ow=false:=by simpa using hc
    refine(pc.run w (jx B L) _ hK (λb hb=>?_)<|(q8 hn).app<|Ba hn).mono ?_
    .rcases hb with hb|⟨id,hb⟩
     .exact cg (g.hB b hb).1 r.he.size
     .exact (r.hw id b hb).2
    .rintro e w' ⟨v,rfl,hb,hv⟩;exact hk v w' L (r.later hb)<|jd.rf (λ_ h=>h) (λ_ _=>trivial) hv
   .split at h
    .rename_i kf;cases h;have pc:PC P K gf (xs++ys) jQ:=ho _ aP;have uW:Od jQ:=ho _ aP;have Qo:=Rd.app Ra;have lN:(execOp a.eval o).run P w = .ok (.enter gf ((c.args.toList.map a.eval)++us).toArray) w:=by
      have e1:c.args.map a.eval=(c.args.toList.map a.eval).toArray:=by apply eg;simp
      have e2:#[]++(c.args.toList.map a.eval).toArray++us.toArray=((c.args.toList.map a.eval)++us).toArray:= aP ;simp only[execOp,jf,resolve,hf,AW,Deferred.ofValue,Sem.run_bind,Sem.run_pure,Result.andThen_ok,invoke,e1,e2,pc.call]
     unfold Oper.wp;rw[lN];show Calls P gf _ w _;have hK:K w:=g.ME _ _ g.k r.he;refine(pc.run w (λ_=>False) _ hK (λ_ h=>h.elim) Qo).mono ?_;rintro e w' ⟨v,rfl,hb,hv⟩;have r':=r.later hb;exact hk v w' L r'<|jd.rf (λ_ h=>h) (λ_ _=>trivial)<|uW _ _ _ _ _ (λx hx=>.inr (r'.KC g kf x hx).2) hv
    .cases h
 .split at h
  .rename_i d hd;split at h
   .rename_i nl T n sz el hnw;split at h
    .rename_i hc;cases h;simp only[cr]at hc;have pc:xI P K gf (xs++ys) nl T n sz el:=ho _ aP;have lN:(execOp a.eval o).run P w = .ok (.enter gf ((c.args.toList.map a.eval)++us).toArray) w:=by
      have e1:c.args.map a.eval=(c.args.toList.map a.eval).toArray:=by apply eg;simp
      have e2:#[]++(c.args.toList.map a.eval).toArray++us.toArray=((c.args.toList.map a.eval)++us).toArray:= aP ;simp only[execOp,jf,resolve,hf,AW,Deferred.ofValue,Sem.run_bind,Sem.run_pure,Result.andThen_ok,invoke,e1,e2,pc.call]
     unfold Oper.wp;rw[lN];show Calls P gf _ w _;have hK:K w:=g.ME _ _ g.k r.he;have fin:∀ (v:Value) (w':World) (gg:Nat->Nat->Value),Below w.heap.size w w'->oH w' v T n sz gg nl->(∀ x,v.ownBlock=some x->w.heap.size<=x/\x<w'.heap.size) ->
      (∀ i j,i<n->j<sz->jd (λb=>jx B L b\/v.ownBlock=some b) (λ_=>True) w' (el i j) (gg i j)/\(el i j).nr 2=true)->Kc (a.put o.dst v) w':=by
      intro v w' gg hb mF xc yQ;have key:∀ (σ1:PS) (L1:Lk),jC w0 B σ1 a w L1->(∀ i x,L1.own i x->L.own i x)->σ1.bo d=none->σ1.nl=σ.nl->∃ L',jC w0 B (σ1.oL<|.new d<|.row nl T n sz el) a w' L'/\nY (jx B L') (j8 L') L' w' (.own d) v:=by
       intro σ1 L1 r1 B8 kY as8;have alp:=r1.new d (.row nl T n sz el) (λx=>v.ownBlock=some x) v (λ_=>undef) w' kY xc hb
        ⟨gg,by rw[Lk.qx];exact mF,λx=>by rw[Lk.uD,Lk.qx],λi j hi hj=>⟨?_,(yQ i j hi hj).2⟩⟩ (by simp[Bx.nl,hc.2])
       .exact ⟨_,alp,Lk.CJ,Lk.qx.symm⟩
       .refine (yQ i j hi hj).1.rf (λb h=>?_) λ_ _=>trivial;rcases h with h|⟨id,h⟩
        .exact .inl<|.inl h
        .by_cases e:id=d
         .subst e;exact .inr<|(Lk.uD b).1 h
         .exact .inl<|.inr ⟨id,B8 _ _<|(Lk.CK e b).1 h⟩
      cases jE:σ.bo d with
      |none=>
       obtain⟨L',k1,k2⟩:=key σ L r (λ_ _ h=>h) jE rfl;exact hk v w' L' (by simpa only[wK,jE]using k1) k2
      |some b=>
       obtain⟨L1,r1,B8,kY⟩:=r.WM d;obtain⟨L',k1,k2⟩:=key _ L1 r1 B8 kY rfl;rw[W7]at k1;exact hk v w' L' (by simpa only[wK,jE]using k1) k2
     cases lX:ow with
     |false=>
      refine(pc.run w (jx B L) _ hK (r.KC g hc.1)<|(q8 lX).app<|Ba lX).mono ?_;rintro e w' ⟨v,rfl,hb,gg,mF,xc,yQ⟩;exact fin v w' gg hb mF xc yQ
     |true=>
      have uW:Uz n sz el:=ho _ (by simp[lX]);refine(pc.run w (λ_=>False) _ hK (λ_ h=>h.elim)<|Rd.app Ra).mono ?_;rintro e w' ⟨v,rfl,hb,gg,mF,xc,yQ⟩;have r':=r.later hb;refine fin v w' gg hb mF xc λi j hi hj=>⟨uW i j hi hj _ _ _ _ _ (λx hx=>?_) (yQ i j hi hj).1,(yQ i j hi hj).2⟩
      rcases hx with hx|hx
      .exact .inr (r'.KC g hc.1 x hx).2
      .exact .inl<|.inr hx
    .cases h
   .cases h
  .cases h
section
variable(hT:ni P T)(g:Gd P K w0 B)(r:jC w0 B σ a w L)
def Px(h:jT P K T O σ o=some u)(ho:∀ q,q ∈ u.jX->q):Kj P K w0 B σ o a w u:=by
 cases jf:o.op with
 |move x=>exact(aki (P:=P) (K:=K) jf r h).pI
 |assign x=>exact(ajY (P:=P) (K:=K) jf r h).pI
 |pick c x y=>exact(akk (P:=P) (K:=K) jf r h).pI
 |alloc t=>exact(ajW hT jf r h).pI
 |box t x=>exact(aj0 (P:=P) (K:=K) jf r h).pI
 |build t ps=>exact(aj1 hT jf r h).pI
 |buildSlice t n ps=>exact(aj2 hT (λb hb=>(g.hB b hb).1) jf r h).pI
 |load t x=>exact(akb hT jf r h ho).pI
 |store t x y=>exact(akm hT jf r h ho).pI
 |nilCheck x=>exact(akj (P:=P) (K:=K) jf r h).pI
 |binOp op t x y yt=>exact(ajZ hT jf r h ho).pI
 |unOp op t x=>exact(akn (P:=P) (K:=K) jf r h ho).pI
 |convert s d x=>exact(aj3 hT jf r h).pI
 |makeFunc fn first cap=>exact(akd (P:=P) (K:=K) jf r h).pI
 |makeSlice t l c=>exact(ake hT jf r h ho).pI
 |slice t x lo hi mx=>
  cases mx with
  |none=>exact(akl hT jf r h ho).pI
  |some=>simp[jT,jf]at h
 |fieldAddr t x f=>exact(aj6 hT jf r h).pI
 |indexAddr t x i=>exact(aj8 hT jf r h ho).pI
 |index t x i=>exact(aj7 hT jf r h ho).pI
 |field t x f=>exact(aj5 hT jf r h).pI
 |lookup t x i ok=>exact(akc hT jf r h ho).pI
 |extract x i=>exact(aj4 (P:=P) (K:=K) jf r h).pI
 |call c=>
  obtain⟨callee,args,ats⟩:=c;cases callee with
  |builtin b=>
   simp only[jT,jf]at h;cases b
   case len=>
    dsimp only at h;split at h
    .rename_i x t hx ht;have ha:args = #[x]:=by apply eg;simpa using hx
     have IF:ats = #[t]:=by apply eg;simpa using ht
     split at h
     .rename_i e hd;obtain⟨rr,hr,rfl⟩:=dB.1 h;exact(aka hT (by rw[ha,IF]) jf hd r hr rfl).pI
     .cases h
    .cases h
   case append=>
    dsimp only at h;split at h
    .rename_i s x t t' hx ht;have ha:args = #[s,x]:=by apply eg;simpa using hx
     have IF:ats = #[t,t']:=by apply eg;simpa using ht
     split at h
     .rename_i rp;have rp:=mg.1 rp;subst rp;split at h
      .rename_i q hq;exact(aj9 hT (by rw[ha,IF]) jf r hq h ho).pI
      split at h
      .exact (ajX hT (λb hb=>(g.hB b hb).1) (by rw[ha,IF]) jf r h ho).pI
      .exact (X0 hT (by rw[ha,IF]) jf r h ho).pI
     .cases h
    .cases h
   case max=>
    dsimp only at h;split at h
    .rename_i k p k' q hx;rcases args with⟨l⟩
     rcases l with _|⟨x,_|⟨y,_|⟨z,l⟩⟩⟩<;>simp at hx
     cases h;exact(akf (P:=P) (K:=K) ⟨rfl,rfl⟩ jf r hx.1 hx.2 rfl).pI
    .rename_i k p k' q k'' s hx;rcases args with⟨l⟩
     rcases l with _|⟨x,_|⟨y,_|⟨z,_|⟨z',l⟩⟩⟩⟩<;>simp at hx
     cases h;exact(akg (P:=P) (K:=K) ⟨rfl,rfl⟩ jf r hx.1 hx.2.1 hx.2.2 rfl).pI
    .cases h
   case min=>
    dsimp only at h;split at h
    .rename_i k p k' q hx;rcases args with⟨l⟩
     rcases l with _|⟨x,_|⟨y,_|⟨z,l⟩⟩⟩<;>simp at hx
     cases h;exact(akh (P:=P) (K:=K) ⟨rfl,rfl⟩ jf r hx.1 hx.2 rfl).pI
    .cases h
   all_goals cases h
  |value f=>
   simp only[jT,jf]at h;have AW:=r.op f;split at h
   .rename_i gf cap xs is DJ q8;rw[DJ]at AW;obtain⟨us,e1,Ba⟩:=jd.XO AW;exact WI g r jf rfl e1 (U3 r q8) (λkY=>U2 r q8 kY) (Ba.mono λ_ _=>jd.rf (λ_ h=>h.elim) λ_ h=>h.elim) (λ_=>Ba.mono λ_ _=>jd.rf (λ_ h=>h) λ_ h=>h.elim) h ho
   .rename_i gf cap xs is DJ q8;rw[DJ]at AW;obtain⟨us,e1,k2,k3⟩:=AW;split at h
    .rename_i ys js DS;exact WI g r jf rfl e1 (U3 r q8) (λkY=>U2 r q8 (gK.1 kY).1) (XA r DS k2 k3) (λkY=>Xz r DS (gK.1 kY).2 k2 k3) h ho
    .cases h
   .cases h
  |invoke _ _=>simp[jT,jf]at h
 |_=>simp[jT,jf]at h
def ai3(h:wX P K T O σ o=some u)(ho:∀ q,q ∈ u.jX->q):Kj P K w0 B σ o a w u:=by
 unfold wX at h;split at h
 .rename_i u0 h0;split at h
  .split at h
   .rename_i p hp;cases h;have he:PV.le u0.r p:=ho _ aP;have:=Px hT g r h0 (λq hq=>ho q<|by simp[hq]);intro Kc Q hk;exact this Kc Q λv w' L' hr hv=>hk v w' L' hr<|he _ _ _ _ _ hv
   .cases h;exact Px hT g r h0 ho
  .cases h;exact Px hT g r h0 ho
 .cases h
end
end
section
variable {P:Program} {K:World->Prop} {T:List TI} {O:qY} {σ τ:PS} {o:Oper} {u:lq}
def anU{x:Operand}(h:∀ t,x = .tmp t->σ.get t=τ.get t):τ.op x=σ.op x:=by
 cases x with
 |tmp t=>exact(h t rfl).symm
 |_=>rfl
def ap0{p:PV}{m:Nat}{l:List E}{is:List Nat}{jX:List Prop}(h:σ.read p m=some (l,is,jX))(hb:∀ id,id ∈ is->σ.bo id=τ.bo id):τ.read p m=some (l,is,jX):=by
 cases p with
 |box id off=>
  have h0:=h;simp only[PS.read]at h;split at h
  .split at h
   .simp only[bT,cD]at h;obtain⟨_,rfl,_⟩:=h;simp only[PS.read,<-hb id aP];exact h0
   .cases h
  .cases h
 |oW id sz i j=>
  have h0:=h;simp only[PS.read]at h;split at h
  .split at h
   .simp only[bT,cD]at h;obtain⟨_,rfl,_⟩:=h;simp only[PS.read,<-hb id aP];exact h0
   .cases h
  .cases h
 |rV id sz k i j=>
  have h0:=h;simp only[PS.read]at h;split at h
  .split at h
   .simp only[bT,cD]at h;obtain⟨_,rfl,_⟩:=h;simp only[PS.read,<-hb id aP];exact h0
   .cases h
  .cases h
 |e x=>cases x<;>exact h
 |_=>exact h
def aho{c:CV}{e:E}{is:List Nat}(h:c.ext σ=some (e,is))(hb:∀ id,id ∈ is->σ.bo id=τ.bo id):c.ext τ=some (e,is):=by
 cases c with
 |e x=>exact h
 |box id=>
  have h0:=h;simp only[CV.ext]at h;split at h
  .simp only[bT,cD]at h;obtain⟨_,rfl⟩:=h;simp only[CV.ext,<-hb id aP];exact h0
  .cases h
 |row id=>
  have h0:=h;simp only[CV.ext]at h;split at h
  .split at h
   .simp only[bT,cD]at h;obtain⟨_,rfl⟩:=h;simp only[CV.ext,<-hb id aP];exact h0
   .cases h
  .cases h
def Xy{l:List CV}{es:List E}{is:List Nat}(h:wY σ l=some (es,is))(hb:∀ id,id ∈ is->σ.bo id=τ.bo id):wY τ l=some (es,is):=by
 induction l generalizing es is with
 |nil=>exact h
 |cons c l ih=>
  simp only[wY]at h;split at h
  .rename_i x i xs js h1 h2;simp only[bT,cD]at h;obtain⟨rfl,rfl⟩:=h;simp only[wY,aho h1 λid hi=>hb id<|by simp[hi],ih h2 λid hi=>hb id<|by simp[hi]]
  .cases h
def aob{p:PV}{e:E}{is:List Nat}(h:p.ext σ=some (e,is))(hb:∀ id,id ∈ is->σ.bo id=τ.bo id):p.ext τ=some (e,is):=by
 cases p with
 |e x=>exact h
 |box id off=>
  cases off with
  |succ=>exact h
  |zero=>
   have h0:=h;simp only[PV.ext]at h;split at h
   .simp only[bT,cD]at h;obtain⟨_,rfl⟩:=h;simp only[PV.ext,<-hb id aP];exact h0
   .cases h
 |qb f cap=>
  simp only[PV.ext]at h;split at h
  .rename_i xs js h1;simp only[bT,cD]at h;obtain⟨rfl,rfl⟩:=h;simp only[PV.ext,Xy h1 hb]
  .cases h
 |own id=>
  have h0:=h;simp only[PV.ext]at h;split at h
  .simp only[bT,cD]at h;obtain⟨_,rfl⟩:=h;simp only[PV.ext,<-hb id aP];exact h0
  .simp only[bT,cD]at h;obtain⟨_,rfl⟩:=h;simp only[PV.ext,<-hb id aP];exact h0
  .cases h
 |ji id k=>
  have h0:=h;simp only[PV.ext]at h;split at h
  .split at h
   .simp only[bT,cD]at h;obtain⟨_,rfl⟩:=h;simp only[PV.ext,<-hb id aP];exact h0
   .cases h
  .cases h
 |_=>exact h
def U1{l:List Operand}{es:List E}{is:List Nat}(h:vG σ l=some (es,is))(hg:∀ x,x ∈ l->τ.op x=σ.op x)(hb:∀ id,id ∈ is->σ.bo id=τ.bo id):vG τ l=some (es,is):=by
 induction l generalizing es is with
 |nil=>exact h
 |cons c l ih=>
  simp only[vG]at h;split at h
  .rename_i x i xs js h1 h2;simp only[bT,cD]at h;obtain⟨rfl,rfl⟩:=h;simp only[vG,hg c aP,aob h1 λid hi=>hb id<|by simp[hi],ih h2 (λx hx=>hg x<|by simp[hx]) λid hi=>hb id<|by simp[hi]]
  .cases h
def alV{p:PV}{e:E}{is:List Nat}(h:p.ext σ=some (e,is))(hb:∀ id,id ∈ is->σ.bo id=τ.bo id):p.yc τ=p.yc σ:=by
 cases p with
 |own id=>
  have hid:σ.bo id=τ.bo id:=by
   simp only[PV.ext]at h;split at h
   .simp only[bT,cD]at h;obtain⟨_,rfl⟩:=h;exact hb id aP 
   .simp only[bT,cD]at h;obtain⟨_,rfl⟩:=h;exact hb id aP 
   .cases h
  simp only[PV.yc,hid]
 |_=>rfl
def US{l:List Operand}{es:List E}{is:List Nat}(h:vG σ l=some (es,is))(hg:∀ x,x ∈ l->τ.op x=σ.op x)(hb:∀ id,id ∈ is->σ.bo id=τ.bo id):(l.map τ.op).any (PV.yc τ)=(l.map σ.op).any (PV.yc σ):=by
 induction l generalizing es is with
 |nil=>rfl
 |cons c l ih=>
  simp only[vG]at h;split at h
  .rename_i x i xs js h1 h2;simp only[bT,cD]at h;obtain⟨rfl,rfl⟩:=h;simp only[ff,fh,hg c aP,alV h1 λid hi=>hb id<|by simp[hi],ih h2 (λx hx=>hg x<|by simp[hx]) λid hi=>hb id<|by simp[hi]]
  .cases h
def XE{place:Nat->Option (Nat×Nat)}{ps:List<|Nat×Operand}(hg:∀ x,x ∈ ps.map (·.2)->τ.op x=σ.op x):∀ l,tJ τ place l ps=tJ σ place l ps:=by
 induction ps with
 |nil=>intro l;rfl
 |cons p ps ih=>
  intro l;obtain⟨i,x⟩:=p;simp only[tJ,hg x aP,ih λx hx=>hg x<|by simp only[ff,dM];exact .inr hx]
def RN{d:Option Tmp}{b:Bx}{rr:Nat->PV}{jX:List Prop}(h:Bi σ d b rr jX=some u)(kf:σ.nl=τ.nl)(hn:∀ id b,u.f = .new id b->τ.bo id=none):Bi τ d b rr jX=some u:=by
 obtain⟨id,rfl,kY,hc,rfl⟩:=Jd h;rw[kf]at hc;simp only[Bi,hn id b rfl,hc,bW]
def aaR{d:Nat}{b:Bx}(h:σ.bo d=τ.bo d):wK τ d b=wK σ d b:=by unfold wK;rw[h]
def aaT{d:Nat}{is:List Nat}(h:σ.bo d=τ.bo d):Bk τ d is=Bk σ d is:=by unfold Bk;rw[h]
def aaU{d:Nat}{b:Bx}{is:List Nat}{u:lq}(hf:u.f=wK σ d b)(hr:u.rb=Bk σ d is)(hb:∀ id,id ∈ u.rb->σ.bo id=τ.bo id)(hn:∀ id b,u.f = .new id b->τ.bo id=none):σ.bo d=τ.bo d:=by
 cases jE:σ.bo d with
 |none=>exact(hn d b<|by rw[hf,wK,jE]).symm
 |some x=>rw[<-jE];exact hb d<|by rw[hr,Bk,jE];simp
def aar{d:Option Tmp}{b:Bx}{rr:Nat->PV}(h:Cn σ d b rr=some u)(hb:∀ id,id ∈ u.rb->σ.bo id=τ.bo id)(kf:σ.nl=τ.nl)(hn:∀ id b,u.f = .new id b->τ.bo id=none):Cn τ d b rr=some u:=by
 obtain⟨id,rfl,hc,rfl⟩:=Mo h;have e:σ.bo id=τ.bo id:=aaU (b:=b) (is:=[]) rfl rfl hb hn;rw[kf]at hc;simp only[Cn,hc,bW,aaR e,aaT e]
section
variable{d:Option Tmp}{t:TypeId}
def Xu{s x:PV}{u:lq}(h:BP T σ d t s x=some u)(hb:∀ id,id ∈ u.rb->σ.bo id=τ.bo id)(kf:σ.nl=τ.nl)(hn:∀ id b,u.f = .new id b->τ.bo id=none):BP T τ d t s x=some u:=by
 simp only[BP]at h ⊢;split at h
 .split at h
  .split at h
   .split at h
    .split at h
     .split at h
      .rename_i hc;simp only[hc,bW];split at h
       .rename_i id;split at h
        .rename_i jE;split at h
         .rename_i pj;cases h;simp only[<-hb id aP,<-kf,jE,pj,bW]
         .cases h
        .cases h
       .rename_i id k;split at h
        .rename_i jE;split at h
         .rename_i pj;cases h;simp only[<-hb id aP,jE,pj,bW]
         .cases h
        .cases h
       .exact RN h kf hn
       .cases h
      .cases h
     .cases h
    .cases h
   .cases h
  .cases h
 .cases h
def aiU{s x:PV}{u:lq}(h:Dk T σ d t s x=some u)(hb:∀ id,id ∈ u.rb->σ.bo id=τ.bo id)(kf:σ.nl=τ.nl):Dk T τ d t s x=some u:=by
 unfold Dk at h ⊢;split at h
 .rename_i u0 h0;split at h
  .rename_i id nl T1 n sz el id' hf hr;split at h
   .rename_i hid;cases h;have:=Xu (σ:={ σ with nl:=false }) (τ:={ τ with nl:=false }) h0 hb rfl λi b e=>by rw[hf]at e;cases e
    rw[this];simp only[hf,hr,hid,bW]
   .cases h
  .cases h
 .cases h
def aiX{n q:Nat}{u:lq}(h:Dm T σ d t n q=some u)(hb:∀ id,id ∈ u.rb->σ.bo id=τ.bo id):Dm T τ d t n q=some u:=by
 unfold Dm at h ⊢;split at h
 .rename_i id;have h0:=h;split at h
  .rename_i h1 h2 h3;split at h
   .rename_i hc;cases h;simp only[<-hb id aP,<-hb q aP];exact h0
   .cases h
  .cases h
 .cases h
def aiW{s:PV}{q:Nat}{u:lq}(h:Dl T σ d t s q=some u)(hb:∀ id,id ∈ u.rb->σ.bo id=τ.bo id):Dl T τ d t s q=some u:=by
 unfold Dl at h ⊢;have h0:=h;split at h
 .rename_i h1 h2;split at h
  .rename_i id;split at h
   .rename_i h3;split at h
    .rename_i hc;cases h;simp only[<-hb id aP,<-hb q aP];exact h0
    .cases h
   .cases h
  .rename_i id;split at h
   .rename_i h3;split at h
    .rename_i hc;cases h;simp only[<-hb id aP,<-hb q aP];exact h0
    .cases h
   .cases h
  .cases h
 .cases h
end
def an3{ps:List<|Nat×Operand}(hg:∀ x,x ∈ ps.map (·.2)->τ.op x=σ.op x):Cv τ ps=Cv σ ps:=by
 unfold Cv;split
 .rw [hg _ aP]
 .rfl
def aiY(h:jT P K T O σ o=some u)(hg:∀ x,x ∈ o.op.operands->τ.op x=σ.op x)(hb:∀ id,id ∈ u.rb->σ.bo id=τ.bo id)(kf:σ.nl=τ.nl)(hn:∀ id b,u.f = .new id b->τ.bo id=none):
 jT P K T O τ o=some u:=by
 cases jf:o.op with
 |move x=>rw[jf]at hg;simp only[jT,jf]at h ⊢;rw[hg x a6];exact h
 |assign x=>rw[jf]at hg;simp only[jT,jf]at h ⊢;rw[hg x a6];exact h
 |pick c x y=>rw[jf]at hg;simp only[jT,jf]at h ⊢;rw[hg c a6,hg x a6,hg y a6];exact h
 |nilCheck x=>rw[jf]at hg;simp only[jT,jf]at h ⊢;rw[hg x a6];exact h
 |binOp op t x y yt=>rw[jf]at hg;simp only[jT,jf]at h ⊢;rw[hg x a6,hg y a6];exact h
 |unOp op t x=>rw[jf]at hg;simp only[jT,jf]at h ⊢;rw[hg x a6];exact h
 |convert s d x=>rw[jf]at hg;simp only[jT,jf]at h ⊢;rw[hg x a6];exact h
 |index t x i=>rw[jf]at hg;simp only[jT,jf]at h ⊢;rw[hg x a6,hg i a6];exact h
 |extract x i=>rw[jf]at hg;simp only[jT,jf]at h ⊢;rw[hg x a6];exact h
 |fieldAddr t x f=>rw[jf]at hg;simp only[jT,jf]at h ⊢;rw[hg x a6];exact h
 |field t x f=>rw[jf]at hg;simp only[jT,jf]at h ⊢;rw[hg x a6];exact h
 |lookup t x i ok=>
  rw[jf]at hg;cases ok with
  |true=>simp[jT,jf]at h
  |false=>simp only[jT,jf]at h ⊢;rw[hg x a6,hg i a6];exact h
 |makeFunc fn first cap=>
  rw[jf]at hg;cases fn with
  |func f=>
   simp only[jT,jf]at h ⊢;have:cap.toList.map τ.op=cap.toList.map σ.op:=gn λx hx=>hg x<|by simp only[Op.operands,fZ];exact .inr<|by simpa using hx
   rw[this];exact h
  |_=>simp[jT,jf]at h
 |slice t x lo hi mx=>
  rw[jf]at hg;cases mx with
  |some=>simp[jT,jf]at h
  |none=>
   simp only[jT,jf]at h ⊢;have e1:lo.map τ.op=lo.map σ.op:=by cases lo with
    |none=>rfl
    |some y=>simp only[df];rw[hg y a6]
   have e2:hi.map τ.op=hi.map σ.op:=by cases hi with
    |none=>rfl
    |some y=>simp only[df];rw[hg y a6]
   rw[hg x a6,e1,e2];exact h
 |alloc t=>
  simp only[jT,jf]at h ⊢;split at h
  .split at h
   .exact aar h hb kf hn
   .cases h
  .cases h
 |box t x=>
  rw[jf]at hg;simp only[jT,jf]at h ⊢;rw[hg x a6];split at h
  .split at h
   .exact aar h hb kf hn
   .cases h
  .cases h
 |build t ps=>
  rw[jf]at hg;simp only[jT,jf]at h ⊢;have hf:∀ place l,tJ τ place l ps.toList=tJ σ place l ps.toList:=λplace=>XE λx hx=>hg x<|by simpa[Op.operands]using hx
  simp only[hf];exact h
 |buildSlice t n ps=>
  rw[jf]at hg;simp only[jT,jf]at h ⊢;have hf:∀ place l,tJ τ place l ps.toList=tJ σ place l ps.toList:=λplace=>XE λx hx=>hg x<|by simpa[Op.operands]using hx
  have ho:Cv τ ps.toList=Cv σ ps.toList:=an3 λx hx=>hg x<|by simpa[Op.operands]using hx
  simp only[hf,ho];split at h
  .exact aiX h hb
  split at h
  .split at h
   .split at h
    .split at h
     .split at h
      .rename_i hif;rw[bA hif];obtain⟨l,hl,h⟩:=im.1 h;refine im.2 ⟨l,hl,?_⟩;split at h
       .cases h
       .rename_i h1;rw[bw h1];split at h
        .rename_i h2;rw[bA h2];exact RN h kf hn
        .rename_i h2;rw[bw h2];exact h
      .cases h
     .cases h
    .cases h
   .cases h
  .cases h
 |load t x=>
  rw[jf]at hg;simp only[jT,jf,K9]at h ⊢;rw[hg x a6];split at h
  .rename_i ti rS;split at h
   .rename_i id i n qV;have alz:Eo τ (σ.op x)=some (id,i,n):=by
     have hid:σ.bo id=τ.bo id:=by
      split at h
      .cases h
      .cases h;exact hb id aP 
     cases hp:σ.op x with
     |oW id' sz i' j=>
      rw[hp]at qV;have h0:=qV;simp only[Eo]at qV;split at qV
      .split at qV
       .simp only[bT,cD]at qV;obtain⟨rfl,_,_⟩:=qV;simp only[Eo,<-hid];exact h0
       .cases qV
      .cases qV
     |_=>rw[hp]at qV;cases qV
    simp only[alz];exact h
   .rename_i qV;have key:∀ is,(∃ l jX,σ.read (σ.op x) ti.i.size=some (l,is,jX))->(∀ id,id ∈ is->σ.bo id=τ.bo id)->Eo τ (σ.op x)=none:=by
     rintro is ⟨l,jX,hr⟩ oV;cases hp:σ.op x with
     |oW id sz i j=>
      rw[hp]at hr qV;simp only[PS.read]at hr;split at hr
      .rename_i jE;split at hr
       .simp only[bT,cD]at hr;obtain⟨_,rfl,_⟩:=hr;simp only[Eo,<-oV id aP,jE]
       .cases hr
      .cases hr
     |_=>rfl
    cases hr:σ.read (σ.op x) ti.i.size with
    |none=>rw[hr]at h;cases h
    |some y=>
     obtain⟨l,is,jX⟩:=y;have DM:u.rb=is:=by
      rw[hr]at h;simp only[I8]at h;split at h
      .cases h;rfl
      .split at h
       .cases h;rfl
       .cases h
     have oV:∀ id,id ∈ is->σ.bo id=τ.bo id:=λid hi=>hb id<|by rw[DM];exact hi
     rw[key is ⟨l,jX,hr⟩ oV];simp only;rw[ap0 hr oV];rw[hr]at h;exact h
  .cases h
 |store t x y=>
  rw[jf]at hg;simp only[jT,jf,Lc]at h ⊢;rw[hg x a6,hg y a6];split at h
  .split at h
   .rename_i id off e _ _;split at h
    .rename_i jE hm;split at h
     .rename_i hc;cases h;rw[kf]at hc;simp only[<-hb id aP,jE,hm,hc,bW]
     .cases h
    .cases h
   .rename_i id q _ _;split at h
    .rename_i jE hm;split at h
     .rename_i hc;cases h;simp only[<-hb id aP,<-hb q aP,jE,hm,hc,bW]
     .cases h
    .cases h
   .rename_i id sz i j e _ _;split at h
    .rename_i jE hm;split at h
     .rename_i hc;cases h;simp only[<-hb id aP,jE,hm,hc,bW]
     .cases h
    .cases h
   .rename_i id i id' k _ _;split at h
    .rename_i jE;split at h
     .rename_i hc;cases h;simp only[<-hb id aP,jE,hc,bW]
     .cases h
    .cases h
   .cases h
  .cases h
 |makeSlice t l c=>
  rw[jf]at hg;simp only[jT,jf,La]at h ⊢;rw[hg l a6,hg c a6];split at h
  .exact RN h kf hn
  .cases h
 |indexAddr t x i=>
  rw[jf]at hg;simp only[jT,jf,K8]at h ⊢;rw[hg x a6,hg i a6];split at h
  .split at h
   .split at h
    .split at h
     .split at h
      .exact h
      .exact h
      .rename_i id _;split at h
       .rename_i jE;split at h
        .rename_i hc;cases h;simp only[<-hb id aP,jE,hc,bW]
        .cases h
       .rename_i jE;split at h
        .rename_i hc;cases h;simp only[<-hb id aP,jE,hc,bW]
        .cases h
       .cases h
      .rename_i id _ _;split at h
       .rename_i jE;split at h
        .rename_i hc;cases h;simp only[<-hb id aP,jE,hc,bW]
        .cases h
       .cases h
      .cases h
     .cases h
    .exact h
    .cases h
   .cases h
  .cases h
 |call c=>
  rw[jf]at hg;obtain⟨callee,args,ats⟩:=c;have ha:∀ x,x ∈ args.toList->τ.op x=σ.op x:=λx hx=>hg x<|by simp only[Op.operands,Call.operands,fZ];exact .inr<|by simpa using hx
  have YO:args.toList.map τ.op=args.toList.map σ.op:=gn ha;cases callee with
  |builtin b=>
   simp only[jT,jf]at h ⊢;cases b
   case len=>
    dsimp only at h ⊢;split at h
    .rename_i x t hx ht;split at h
     .obtain ⟨rr,hr,rfl⟩:=dB.1 h;rw[ha x<|by rw[hx];simp];have:ud (σ.op x) τ=some rr:=by
       cases hp:σ.op x with
       |own id=>
        rw[hp]at hr;have h0:=hr;simp only[ud]at hr;split at hr
        .simp only[bT]at hr;subst hr;simp only[ud,<-hb id aP];exact h0
        .simp only[bT]at hr;subst hr;simp only[ud,<-hb id aP];exact h0
        .cases hr
       |ji id k=>
        rw[hp]at hr;have h0:=hr;simp only[ud]at hr;split at hr
        .split at hr
         .simp only[bT]at hr;subst hr;simp only[ud,<-hb id aP];exact h0
         .cases hr
        .cases hr
       |e y=>
        rw[hp]at hr;cases y with
        |v z=>cases z<;>exact hr
        |_=>exact hr
       |_=>rw[hp]at hr;exact hr
      rw[this];rfl
     .cases h
    .cases h
   case append=>
    dsimp only at h ⊢;split at h
    .rename_i s x t t' hx ht;split at h
     .rename_i rp;simp only[rp,bW];rw[ha x<|by rw[hx];simp,ha s<|by rw[hx];simp];have nD:Ky O o.dst=Ky O o.dst:=rfl;split at h
      .exact aiW h hb
      split at h
      .rename_i Qn;simp only[Qn,bW];exact aiU h hb kf
      .rename_i Qn;simp only[Qn,bN,cz];exact Xu h hb kf hn
     .cases h
    .cases h
   case max=>dsimp only at h ⊢;rw[YO];exact h
   case min=>dsimp only at h ⊢;rw[YO];exact h
   all_goals cases h
  |value f=>
   have hf:τ.op f=σ.op f:=hg f (by simp[Op.operands,Call.operands]);simp only[jT,jf]at h ⊢;rw[hf];have ec:∀ {gf:FuncId} {zs:List E} {is:List Nat} {ow:Bool},BQ P K O σ o.dst gf zs is ow=some u->(∀ id,id ∈ is->id ∈ u.rb)/\BQ P K O τ o.dst gf zs is ow=some u:=by
    intro gf zs is ow hh;simp only[BQ]at hh ⊢;rw[kf]at hh;split at hh
    .rename_i jQ IC;refine⟨?_,hh⟩;split at hh
     .cases hh;exact λ_ h=>h
     .split at hh
      .cases hh;exact λ_ h=>h
      .split at hh
       .cases hh;exact λ_ h=>h
       .cases hh
    .split at hh
     .rename_i d hd;split at hh
      .rename_i nl T n sz el h1;split at hh
       .rename_i hc;cases hh;have e:=aaU (σ:=σ) (τ:=τ) (b:=.row nl T n sz el) (is:=is) rfl rfl hb hn;refine⟨λid hid=>?_,?_⟩
        .unfold Bk;split
         .exact hid
         .simp [hid]
        .simp only[hc,bW,aaR e,aaT e]
       .cases hh
      .cases hh
     .cases hh
   split at h
   .rename_i gf cap xs is DJ q8;obtain⟨e1,e2⟩:=ec h;rw[US q8 ha λid hi=>hb id<|e1 id hi,U1 q8 ha λid hi=>hb id<|e1 id hi,DJ];exact e2
   .rename_i gf cap xs is DJ q8;split at h
    .rename_i ys js DS;obtain⟨e1,e2⟩:=ec h;rw[US q8 ha λid hi=>hb id<|e1 id<|by simp[hi],U1 q8 ha λid hi=>hb id<|e1 id<|by simp[hi],DJ];simp only;rw[Xy DS λid hi=>hb id<|e1 id<|by simp[hi]];exact e2
    .cases h
   .cases h
  |invoke _ _=>simp[jT,jf]at h
 |_=>simp[jT,jf]at h
end
def am1{l:List Operand}{t:Tmp}(h:Operand.tmp t ∈ l):t ∈ Gm l:=by
 induction l with
 |nil=>simp at h
 |cons x l ih=>
  rcases dM.1 h with h|h
  .subst h;simp[Gm]
  .have:=ih h;cases x<;>simp[Gm,this]
def akQ{l:List Nat}{n:Nat}:Qq l n=true↔n ∈ l:=by
 unfold Qq;rw[eE];constructor
 .rintro ⟨x,hx,hb⟩;have:=mg.1 hb;subst this;exact hx
 .intro h;exact⟨n,h,cU n⟩
def Mx{l:List Nat}{d:Option Nat}(h:FP l d=true){x:Nat}(hx:d=some x):x ∉ l:=by
 subst hx;simp only[FP,eU]at h;intro hm;rw[akQ.2 hm]at h;cases h
def Ny{a b:Option Nat}(h:Nx a b=true){x y:Nat}(hx:a=some x)(hy:b=some y):x≠y:=by
 subst hx hy;simp only[Nx,eU]at h;intro e;rw[mg.2 e]at h;cases h
def Gq{f:rH}(hf:f.DX=false)(p:PV):p.nX f=if Be f p then p else .e .any:=by
 cases f<;>first|(cases hf;done)|skip
 all_goals (cases p<;>simp only[PV.nX,Be,bW])
 all_goals (split<;>rename_i h<;>simp[h])
def Rz{f:rH}(hf:f.DX=false){p:PV}(h:Be f p=true):p.nX f=p:=by rw[Gq hf,bA h]
def amg(f:rH):Be f (.e .any)=true:=by cases f<;>rfl
def asN(p:PV){f g:rH}(hf:f.DX=false)(hg:g.DX=false):(p.nX f).nX g=(p.nX g).nX f:=by
 rw[Gq hf p,Gq hg p];cases h1:Be f p<;>cases h2:Be g p<;>simp only[bW,cz,bN,Gq hf,Gq hg,amg,h1,h2]
structure tD(σ τ:PS):Prop where
 n:σ.n=τ.n
 nl:σ.nl=τ.nl
 get:∀ t,σ.get t=τ.get t
 bo:∀ id,σ.bo id=τ.bo id
def tD.refl(σ:PS):tD σ σ:=⟨rfl,rfl,λ_=>rfl,λ_=>rfl⟩
def tD.symm{σ τ:PS}(h:tD σ τ):tD τ σ:=⟨h.n.symm,h.nl.symm,λt=>(h.get t).symm,λi=>(h.bo i).symm⟩
def tD.trans{σ τ υ:PS}(h:tD σ τ)(k:tD τ υ):tD σ υ:=⟨h.n.trans k.n,h.nl.trans k.nl,λt=>(h.get t).trans<|k.get t,λi=>(h.bo i).trans<|k.bo i⟩
def jC.qP{w0:World}{B:Nat->Prop}{σ τ:PS}{a:Act}{w:World}{L:Lk}(r:jC w0 B σ a w L)(h:tD σ τ):jC w0 B τ a w L:=
 ⟨r.hd,r.hs.trans h.n,λt=>by rw[<-h.get];exact r.ht t,λid b hb=>r.hb id b<|by rw[h.bo];exact hb,λid=>by rw[<-h.bo];exact r.hv id,r.hn,r.hw,r.hi,r.he,λhn id b hb=>r.hl (by rw[h.nl];exact hn) id b<|by rw[h.bo];exact hb⟩
def C7(σ:PS)(f:rH)(id:Nat):(σ.oL f).bo id=match f with
 | .none=>σ.bo id
 | .new i b | .xA i b | .su i b | .w8 i b | .CG i b=>if i=id then some b else σ.bo id
 | .fin i=>if i=id then none else σ.bo id
 | .sy i r b=>if i=id then some b else if r=id then none else σ.bo id:=by
 cases f<;>first|rfl|exact D4 _ _ _ _|exact D3 _ _ _|skip
 rename_i i r b;show look (vo (σ.b.filter λx=>!Nat.beq x.1 r) i b) id=_;rw[D4,D3];rfl
section
variable(σ:PS)(d:Option Tmp)(u:lq)
def Hw(t:Nat):(σ.app d u).get t=if d=some t then u.r else(σ.get t).nX u.f:=by
 unfold PS.app;cases d with
 |none=>
  rw[bw aP];exact PS.Dq σ u.f t
 |some d=>
  rw[PS.PU,PS.Dq];simp only[bT]
def C6(id:Nat):(σ.app d u).bo id=(σ.oL u.f).bo id:=PS.afH _ _ _ _
def Jf:(σ.app d u).n=σ.n:=by unfold PS.app;rw[PS.RS];rfl
def Jk:(σ.app d u).nl=σ.nl:=by unfold PS.app;rw[PS.anM];rfl
def BJ(id:Nat)(hm:u.f.DX=false)(h:u.f.id≠some id):(σ.app d u).bo id=σ.bo id:=by
 rw[C6,C7];cases hf:u.f<;>rw[hf]at h hm<;>simp only[rH.id,dS,bT]at h<;>first|rfl|exact bw h|cases hm
end
section
variable {P:Program} {K:World->Prop} {T:List TI} {O:qY} {iN:Array Oper} {σ τ:PS} {o:Oper} {u:lq}
def ai0(h:jT P K T O σ o=some u){x:Operand}(hx:x ∈ o.op.operands):x ∈ Jq o.op:=by
 obtain⟨dst,op,ty,pos,after,guard⟩:=o;simp only at hx ⊢;cases op<;>first
  | (simp only[jT]at h;cases h;done)
  | (exfalso;simp[Op.operands]at hx;done)
  | (simpa[Op.operands,Jq]using hx)
  | (simpa[Op.operands,Jq,or_assoc]using hx)
  |skip
 case call c=>
  obtain⟨callee,args,ats⟩:=c;cases callee<;>simpa[Op.operands,Jq,Call.operands]using hx
def RO{d:Option Tmp}{b:Bx}{rr:Nat->PV}{jX:List Prop}(h:Bi σ d b rr jX=some u){id:Nat}{b':Bx}(hf:u.f = .new id b'):σ.bo id=none:=by
 obtain⟨i,_,kY,_,rfl⟩:=Jd h;cases hf;exact kY
def aaS{d:Nat}{b:Bx}{id:Nat}{b':Bx}(hf:wK σ d b = .new id b'):σ.bo id=none:=by
 unfold wK at hf;split at hf
 .rename_i h;cases hf;exact h
 .cases hf
def aas{d:Option Tmp}{b:Bx}{rr:Nat->PV}(h:Cn σ d b rr=some u){id:Nat}{b':Bx}(hf:u.f = .new id b'):σ.bo id=none:=by
 obtain⟨i,_,_,rfl⟩:=Mo h;exact aaS hf
def aiZ(h:jT P K T O σ o=some u){id:Nat}{b:Bx}(hf:u.f = .new id b):σ.bo id=none:=by
 cases jf:o.op
 case alloc=>
  simp only[jT,jf]at h;split at h
  .split at h
   .exact aas h hf
   .cases h
  .cases h
 case box=>
  simp only[jT,jf]at h;split at h
  .split at h
   .exact aas h hf
   .cases h
  .cases h
 case makeSlice=>
  simp only[jT,jf,La]at h;split at h
  .exact RO h hf
  .cases h
 case makeFunc fn first cap=>
  cases fn with
  |func f=>
   simp only[jT,jf]at h
   repeat' split at h
   all_goals first
    | (cases h;done)
    | (cases h;cases hf;done)
  |_=>simp[jT,jf]at h
 case lookup t x i ok=>
  cases ok with
  |true=>simp[jT,jf]at h
  |false=>
   simp only[jT,jf]at h
   repeat' split at h
   all_goals first
    | (cases h;done)
    | (cases h;cases hf;done)
 case slice t x lo hi mx=>
  cases mx with
  |none=>
   simp only[jT,jf,Lb]at h
   repeat' split at h
   all_goals first
    | (cases h;done)
    | (cases h;cases hf;done)
  |some=>simp[jT,jf]at h
 case call c=>
  obtain⟨callee,args,ats⟩:=c;cases callee with
  |builtin b=>
   simp only[jT,jf]at h;cases b
   case append=>
    dsimp only at h;split at h
    .split at h
     .split at h
      .unfold Dl at h
       repeat' split at h
       all_goals first
        | (cases h;done)
        | (cases h;cases hf;done)
      split at h
      .unfold Dk at h;split at h
       .split at h
        .split at h
         .cases h;cases hf
         .cases h
        .cases h
       .cases h
      .simp only[BP]at h
       repeat' split at h
       all_goals first
        | (cases h;done)
        |exact RO h hf
        | (cases h;cases hf;done)
     .cases h
    .cases h
   all_goals
    dsimp only at h
    repeat' split at h
    all_goals first
     | (cases h;done)
     | (cases h;cases hf;done)
     | (obtain⟨_,_,rfl⟩:=dB.1 h;cases hf)
  |value f=>
   simp only[jT,jf]at h
   repeat' split at h
   all_goals first
    | (cases h;done)
    | (simp only[BQ]at h;repeat' split at h)
   all_goals first
    | (cases h;done)
    | (cases h;cases hf;done)
    | (cases h;cases hf;assumption)
    | (cases h;exact aaS hf)
  |invoke _ _=>simp[jT,jf]at h
 all_goals
  simp only[jT,jf,Lc,K8,Lb,K9,I8,Dm]at h
  repeat' split at h
  all_goals first
   | (cases h;done)
   | (cases h;cases hf;done)
   | (obtain⟨_,_,rfl⟩:=dB.1 h;cases hf)
   |skip
 all_goals first
  | (obtain⟨_,_,h⟩:=im.1 h;repeat' split at h)
  |skip
 all_goals first
  |exact RO h hf
  | (cases h;done)
  | (cases h;cases hf;done)
section
variable(h:wX P K T O σ o=some u)
def PA:∃ u0,jT P K T O σ o=some u0/\u0.rb=u.rb/\u0.f=u.f:=by
 unfold wX at h;split at h
 .rename_i u0 h0;split at h
  .split at h
   .cases h;exact⟨u0,h0,rfl,rfl⟩
   .cases h;exact⟨_,h0,rfl,rfl⟩
  .cases h;exact⟨_,h0,rfl,rfl⟩
 .cases h
def ai2(hg:∀ x,x ∈ o.op.operands->τ.op x=σ.op x)(hb:∀ id,id ∈ u.rb->σ.bo id=τ.bo id)(kf:σ.nl=τ.nl)(hn:∀ id b,u.f = .new id b->τ.bo id=none):
 wX P K T O τ o=some u:=by
 obtain⟨u0,h0,e1,e2⟩:=PA h;have:=aiY (τ:=τ) h0 hg (by rw[e1];exact hb) kf (by rw[e2];exact hn);unfold wX at h ⊢;rw[h0]at h;rw[this];exact h
end
section
variable(h:sJ P K T O iN σ o=some u)
def Hr:yb σ o.dst=true/\u.rd=(looks iN o).map σ.get/\((BB iN σ o=some true/\∃ u0,wX P K T O σ o=some u0/\u={ u0 with rd:=(looks iN o).map σ.get })\/(BB iN σ o=some false/\u={ r:=.e<|.v<|.tuple #[],rd:=(looks iN o).map σ.get })):=by
 unfold sJ at h;split at h
 .rename_i hi;split at h
  .rename_i hw;split at h
   .rename_i u0 h0;cases h;exact⟨hi,rfl,.inl ⟨hw,u0,h0,rfl⟩⟩
   .cases h
  .rename_i hw;cases h;exact⟨hi,rfl,.inr ⟨hw,rfl⟩⟩
  .cases h
 .cases h
def Py(hg:∀ t,t ∈ looks iN o->σ.get t=τ.get t)(hb:∀ id,id ∈ u.rb->σ.bo id=τ.bo id)(kf:σ.nl=τ.nl)(lJ:σ.n=τ.n)(hn:∀ id b,u.f = .new id b->τ.bo id=none):
 sJ P K T O iN τ o=some u:=by
 obtain⟨hi,_,hw⟩:=Hr h;have nx:yb τ o.dst=yb σ o.dst:=by cases o.dst<;>simp[yb,lJ]
 have Ze:BB iN τ o=BB iN σ o:=by
  unfold BB;cases Dx:o.guard with
  |none=>rfl
  |some jw=>
   obtain⟨j,want⟩:=jw;cases hd:(iN[j]?).bind (·.dst)with
   |none=>simp[hd]
   |some t=>
    simp only[hd];rw[hg t<|by unfold looks;rw[Dx];simp[hd]]
 have IB:(looks iN o).map τ.get=(looks iN o).map σ.get:=gn λt ht=>(hg t ht).symm
 unfold sJ;rw[nx,hi,Ze,IB];simp only[bW];rcases hw with⟨hw,u0,h0,rfl⟩|⟨hw,rfl⟩
 .rw [hw];have jf:∀ x,x ∈ o.op.operands->τ.op x=σ.op x:=by
   intro x hx;obtain⟨u1,h1,_,_⟩:=PA h0;have hm:=ai0 h1 hx;refine anU λt ht=>hg t ?_
   subst ht;unfold looks;exact List.mem_append_left _<|am1 hm
  simp only[ai2 h0 jf hb kf hn]
 .rw [hw]
def Pz{id:Nat}{b:Bx}(hf:u.f = .new id b):σ.bo id=none:=by
 obtain⟨_,_,⟨_,u0,h0,rfl⟩|⟨_,rfl⟩⟩:=Hr h
 .obtain ⟨u1,h1,_,e2⟩:=PA h0;exact aiZ h1<|by rw[e2];exact hf
 .cases hf
def ai1(hs:tD σ τ):sJ P K T O iN τ o=some u:=
 Py h (λt _=>hs.get t) (λid _=>hs.bo id) hs.nl hs.n λid b hf=>by rw[<-hs.bo];exact Pz h hf
end
def aeF(hs:tD σ τ)(d:Option Tmp)(u:lq):tD (σ.app d u)<|τ.app d u:=
 ⟨by rw[Jf,Jf];exact hs.n,by rw[Jk,Jk];exact hs.nl,λt=>by rw[Hw,Hw,hs.get],λid=>by rw[C6,C6,C7,C7,hs.bo]⟩
def arS{O':qY}{x y:Oper×lq}(hi:DU iN x y=true)(h1:sJ P K T O iN σ x.1=some x.2)(h2:sJ P K T O' iN (σ.app x.1.dst x.2) y.1=some y.2):
 sJ P K T O' iN σ y.1=some y.2/\sJ P K T O iN (σ.app y.1.dst y.2) x.1=some x.2/\tD ((σ.app x.1.dst x.2).app y.1.dst y.2) ((σ.app y.1.dst y.2).app x.1.dst x.2):=by
 simp only[DU,cr]at hi;obtain⟨⟨⟨⟨⟨⟨⟨⟨⟨⟨⟨i1,i2⟩,i3⟩,i4⟩,i5⟩,i6⟩,i7⟩,i8⟩,i9⟩,i10⟩,m1⟩,m2⟩:=hi;simp only[eU]at m1 m2;obtain⟨_,rx,_⟩:=Hr h1;obtain⟨_,ry,_⟩:=Hr h2;have r1:sJ P K T O' iN σ y.1=some y.2:=by
  refine Py h2 (λt ht=>?_) (λid hid=>BJ _ _ _ _ m1 λe=>Mx i4 e hid) (Jk _ _ _) (Jf _ _ _) λid b hf=>?_
  .have hg:(σ.app x.1.dst x.2).get t=(σ.get t).nX x.2.f:=by
    rw[Hw,bw λe=>Mx i1 e ht]
   rw[hg];by_cases hv:x.2.f.NC=true
   .have DB:RV ((σ.get t).nX x.2.f)=true:=by
     have h9:y.2.rd.all RV=true:=by simpa[hv]using i9
     rw[ry]at h9;exact cL.1 h9 _<|e9.2 ⟨t,ht,hg⟩
    rw[Gq m1]at DB ⊢;split at DB
    .rename_i hk;rw[bA hk]
    .cases DB
   .cases hf:x.2.f<;>rw[hf]at hv<;>first|exact absurd rfl hv|(cases σ.get t<;>rfl)
  .have:=Pz h2 hf;rwa[BJ _ _ _ _ m1 λe=>Ny i6 e (by rw[hf];rfl) rfl]at this
 refine⟨r1,?_,?_⟩
 .refine Py h1 (λt ht=>?_) (λid hid=>(BJ _ _ _ _ m2 λe=>Mx i5 e hid).symm) (Jk _ _ _).symm (Jf _ _ _).symm λid b hf=>?_
  .rw [Hw,bw λe=>Mx i3 e ht];rw[rx]at i10;exact(Rz m2<|cL.1 i10 _<|e9.2 ⟨t,ht,rfl⟩).symm
  .rw [BJ _ _ _ _ m2 λe=>Ny i6 (by rw[hf];rfl) e rfl];exact Pz h1 hf
 .refine ⟨by simp only[Jf],by simp only[Jk],λt=>?_,λid=>?_⟩
  .simp only[Hw];by_cases hx:x.1.dst=some t
   .have hy:¬y.1.dst=some t:=λe=>Ny i2 hx e rfl
    rw[bw hy,bA hx,bA hx,Rz m2 i8]
   .by_cases hy:y.1.dst=some t
    .rw [bA hy,bw hx,bA hy,Rz m1 i7]
    .rw [bw hy,bw hx,bw hx,bw hy,asN _ m1 m2]
  .by_cases hx:x.2.f.id=some id
   .have hy:y.2.f.id≠some id:=λe=>Ny i6 hx e rfl
    rw[BJ _ _ _ _ m2 hy,C6,C6,C7,C7,BJ _ _ _ _ m2 hy]
   .rw [BJ _ _ x.2 _ m1 hx];rw[C6,C6,C7,C7,BJ _ _ _ _ m1 hx]
end
section
variable {P:Program} {K:World->Prop} {T:List TI} {O:qY} {iN:Array Oper}
def yy(P:Program)(K:World->Prop)(T:List TI)(iN:Array Oper):List (Oper×lq)->PS->PS->Prop
 | [],σ,τ=>tD σ τ
 |x::l,σ,τ=>(∃ O,sJ P K T O iN σ x.1=some x.2)/\yy P K T iN l (σ.app x.1.dst x.2) τ
def yy.qP{l:List<|Oper×lq}{σ σ2 τ:PS}(h:yy P K T iN l σ τ)(hs:tD σ σ2):yy P K T iN l σ2 τ:=by
 induction l generalizing σ σ2 with
 |nil=>exact hs.symm.trans h
 |cons x l ih=>exact⟨h.1.imp λ_ h=>ai1 h hs,ih h.2<|aeF hs _ _⟩
def yy.ajG{A C:List<|Oper×lq}{y:Oper×lq}{σ τ:PS}(h:yy P K T iN (A++y::C) σ τ)(hi:∀ x,x ∈ A->DU iN x y=true):
 (∃ O,sJ P K T O iN σ y.1=some y.2)/\yy P K T iN (A++C) (σ.app y.1.dst y.2) τ:=by
 induction A generalizing σ with
 |nil=>exact h
 |cons x A ih=>
  obtain⟨⟨O1,h1⟩,h2⟩:=h;obtain⟨⟨O2,k1⟩,k2⟩:=ih h2 λz hz=>hi z<|by simp[hz]
  obtain⟨s1,s2,s3⟩:=arS (hi x aP) h1 k1;exact⟨⟨O2,s1⟩,⟨O1,s2⟩,k2.qP s3⟩
end
end Go.Proofs.YtbbefgegdllpmaaGreatDoor.Pu
