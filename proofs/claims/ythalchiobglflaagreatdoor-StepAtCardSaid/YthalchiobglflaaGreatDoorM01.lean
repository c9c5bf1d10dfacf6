/- Lemmas that the last file uses. -/
import Derived.Test.YthalchiobglflaaGreatDoorProg
import Derived.WalkKit
import Derived.BigQuiet
import Derived.WalkSpells
import Derived.WalkLawsBesides
import Derived.Lib.Hide
import Derived.Deep.RegionHeld3
import Derived.Maps.AppendAt
import Derived.Deep.AppendLies
import Derived.Deep.Draws
import Derived.Deep.DeepFit
import Derived.Laws.AppendOwnNone
import Derived.Shelf.Small.Bits
import Derived.Shelf.Spec.TrailingZeros
import Derived.Test.YthalchiobglflaaGreatDoorCards
import Derived.Test.YthalchiobglflaaGreatDoorTie
import Derived.ProofKit
import Derived.OpenShut
import Derived.Deep.DeepHandedRow
import Derived.Lib.LaidTab
import Derived.Laws.AppendOwn
import Derived.Laws.MakeOwn
import Derived.Laws.Slices
import Derived.Orders
import Derived.Laws.Build
set_option linter.unusedSimpArgs false
set_option linter.unusedVariables false
set_option linter.defProp false
set_option maxHeartbeats 4000000
open Go.Proofs.Tryz
open Bool renaming true->aa,false->ac
open Option renaming some->al,none->am
open Go renaming World->ap,Value->av,Program->aw,FuncId->ax,TypeId->ay,Addr->az
open List renaming replicate->aA,range->be
open Nat renaming strongRecOn->aB,beq->a2,ble->ba
open Go.World renaming cell?->aC
open Go.Value renaming cells->aL,ownBlock->bf
namespace Go.Proofs.YthalchiobglflaaGreatDoor
theorem U{p:Prop}(h:p:=by omega):p:=h
theorem Z{p:Prop}(h:p:=by assumption):p:=h
theorem aG{p:Prop}(h:p:=by decide):p:=h
theorem aI{p:Prop}(h:p:=by kernel_rfl):p:=h
theorem aJ{p:Prop}(h:p:=by rfl):p:=h
theorem aK{p:Prop}(h:p:=by simp):p:=h
theorem aM{p:Prop}(h:p:=by nofun):p:=h
theorem aO{p:Prop}(h:p:=by simp<;>omega):p:=h
theorem aP{p:Prop}(h:p:=by grind):p:=h
theorem aQ{p:Prop}(h:p:=by decide +kernel):p:=h
theorem aR{p:Prop}(h:p:=by split<;>omega):p:=h
theorem aS{p:Prop}(h:p:=by simp;omega):p:=h
theorem aT{p:Prop}(h:p:=by simp[Op.operands]):p:=h
theorem aU{p:Prop}(h:p:=by unfold pQ;simp_all<;>omega):p:=h
theorem aV{p:Prop}(h:p:=by first|omega|(simp only[ot];omega)):p:=h
theorem aW{p:Prop}(h:p:=by first|assumption|decide):p:=h
theorem aX{p:Prop}(h:p:=by unfold pF;omega):p:=h
theorem aY{p:Prop}(h:p:=by rw[List.length_take];omega):p:=h
theorem aZ{p:Prop}(h:p:=by unfold uE;simp_all<;>omega):p:=h
theorem a7{p:Prop}(h:p:=by rw[yh];omega):p:=h
theorem bc{p:Prop}(h:p:=by unfold lN;omega):p:=h
theorem bd{x}[BEq x][LawfulBEq x]{a b:x}(h:a≠b):(a==b)=ac:=beq_eq_false_iff_ne.2 h
theorem bg{x}[BEq x][LawfulBEq x]{a b:x}(h:a=b):(a==b)=aa:=beq_iff_eq.2 h
theorem bh{b}(h:¬b=aa):b=ac:=Bool.eq_false_iff.2 h
theorem bj{x}[BEq x][LawfulBEq x]{a b:x}(h:a=b):(a != b)=ac:=bne_eq_false_iff_eq.2 h
theorem bk{x}[BEq x][LawfulBEq x]{a b:x}(h:a≠b):(a != b)=aa:=bne_iff_ne.2 h
def bn:=@if_neg
def bt:=@if_pos
def bu:=@decide_eq_true
def bw:=@decide_eq_false
def bA:=@Nat.le_refl
def bB:=@List.getD_eq_getElem?_getD
def bC:=@Nat.pow_add
def bD:=@Nat.not_lt_zero
def bE:=@if_false
def bF:=@Nat.le_trans
def bG:=@Nat.pow_pos
def bH:=@List.getElem?_eq_getElem
def bI:=@Nat.pow_succ
def bJ:=@Nat.lt_of_lt_of_le
def bK:=@if_true
def bL:=@Nat.mul_comm
def bM:=@Nat.mul_assoc
def bN:=@Bool.and_eq_true
def bO:=@Nat.mod_lt
def bQ:=@Option.some.injEq
def bR:=@Nat.pow_le_pow_right
def bS:=@Bool.false_eq_true
def bT:=@Nat.add_mul
def bU:=@Nat.one_mul
def bV:=@Nat.add_zero
def bW:=@Nat.mul_add
def bX:=@Nat.mul_le_mul_right
def bY:=@Nat.mod_eq_of_lt
def bZ:=@List.all_eq_true
def b6:=@Nat.div_le_self
def b8:=@Classical.byContradiction
def b9:=@Rat.le_of_lt
def ca:=@List.mem_range
def cg:=@Rat.le_trans
def ch:=@Prod.mk.injEq
def cj:=@Nat.zero_le
def cr:=@Nat.mul_one
def ct:=@Nat.zero_add
def cw:=@Rat.mul_nonneg
def cz:=@List.length_take
def cA:=@Nat.pow_zero
def cB:=@Nat.lt_of_le_of_lt
def cC:=@Nat.div_lt_iff_lt_mul
def cD:=@List.length_append
def cF:=@List.getElem?_eq_some_iff
def cG:=@Nat.div_eq_of_lt
def cH:=@Nat.div_add_mod
def cI:=@List.length_map
def cJ:=@Option.map_some
def cK:=@decide_eq_true_eq
def cL:=@Int.le_refl
def cM:=@List.getElem?_eq_none
def cN:=@Nat.beq_refl
def cO:=@Rat.mul_le_mul_of_nonneg_right
def cP:=@Rat.le_refl
def cQ:=@List.getElem?_map
def cR:=@Nat.mul_le_mul_left
def cS:=@of_decide_eq_true
def cT:=@List.getElem_mem
def cU:=@Nat.add_assoc
def cV:=@Nat.zero_mul
def cW:=@List.take_of_length_le
def cX:=@Array.getElem?_eq_some_iff
def cY:=@Nat.le_of_ble_eq_true
def c9:=@Nat.mul_zero
def dc:=@Option.map_eq_some_iff
def de:=@List.length_set
def df:=@Nat.div_div_eq_div_mul
def dg:=@List.mem_cons
def dh:=@List.any_eq_true
def di:=@Rat.div_def
def dj:=@Rat.mul_le_mul_of_nonneg_left
def dk:=@Nat.mul_lt_mul_of_pos_right
def dm:=@Nat.sub_self
def dp:=@Nat.mul_left_comm
def dq:=@Nat.mod_one
def dr:=@beq_false
def dt:=@List.any_eq_false
def du:=@Classical.choose_spec
def dv:=@Rat.natCast_nonneg
def dw:=@Bool.true_and
def dx:=@Nat.mul_le_mul
def dz:=@Nat.le_div_iff_mul_le
def dB:=@Nat.div_mul_le_self
def dC:=@Rat.natCast_mul
def dD:=@List.length_cons
def dE:=@Nat.min_eq_left
def dF:=@List.mem_map
def dG:=@Array.mem_of_getElem?
def dH:=@ne_eq
def dI:=@Nat.sub_zero
def dJ:=@List.mem_iff_getElem?
def dK:=@Nat.le_of_lt
def dL:=@Nat.lt_irrefl
def dM:=@List.eq_nil_of_length_eq_zero
def dN:=@Bool.not_eq_true'
def dO:=@Rat.natCast_le_natCast
def dP:=@List.mem_append
def dQ:=@Nat.mul_add_div
def dR:=@Array.length_toList
def dU:=@Array.ext'
def dV:=@List.take_length
def dW:=@Bool.eq_iff_iff
def dX:=@List.mem_of_getElem?
def dY:=@Nat.sub_le
def dZ:=@Int.eq_ofNat_of_zero_le
def ef:=@Nat.mod_le
def eh:=@Rat.div_mul_cancel
def ej:=@Rat.not_lt
def ek:=@Nat.mod_add_div
def eo:=@Nat.mul_ne_zero
def ep:=@Nat.mul_div_cancel
def er:=@Nat.lt_or_ge
def eu:=@List.getElem?_append
def ew:=@List.map_cons
def ey:=@Nat.mul_add_mod
def ez:=@Int.natAbs_natCast
def eB:=@Nat.pos_of_ne_zero
def eC:=@Nat.div_one
def eD:=@Nat.add_sub_cancel
def eE:=@Nat.ne_of_gt
def eF:=@List.getElem?_append_left
def eG:=@Bool.or_eq_true
def eH:=@Int.natCast_mul
def eI:=@Rat.intCast_natCast
def eJ:=@Rat.mul_pos
def eK:=@Rat.natCast_add
def eN:=@Rat.le_antisymm
def eO:=@Rat.mul_lt_mul_of_pos_right
def eP:=@Nat.add_mul_mod_self_left
def eU:=@List.drop_eq_nil_of_le
def eV:=@List.getElem_cons_succ
def eW:=@List.getElem?_take
def eX:=@Nat.add_comm
def eZ:=@List.mem_flatMap
def e9:=@List.getElem?_drop
def fc:=@Bool.not_false
def fe:=@List.any_cons
def ff:=@not_false_eq_true
def fg:=@Nat.lt_succ_self
def fh:=@List.map_congr_left
def fi:=@List.length_pos_iff
def fj:=@Rat.mul_assoc
def fk:=@of_decide_eq_false
def fm:=@List.mem_of_mem_take
def fo:=@List.take_succ_cons
def fp:=@List.append_nil
def fu:=@Bool.not_true
def fw:=@Nat.eq_zero_or_pos
def fz:=@Nat.le_of_eq
def fA:=@Array.mem_append
def fB:=@List.length_drop
def fC:=@Bool.or_eq_false_iff
def fD:=@Nat.lt_trans
def fE:=@List.getElem?_replicate
def fF:=@Int.natCast_add
def fG:=@Nat.pow_lt_pow_right
def fH:=@Nat.xor_lt_two_pow
def fI:=@List.ext_getElem
def fJ:=@Rat.le_of_mul_le_mul_right
def fK:=@Rat.one_mul
def fL:=@Int.toNat_of_nonneg
def fM:=@List.mem_of_mem_drop
def fN:=@Nat.add_mul_div_left
def fO:=@Nat.mul_pos
def fP:=@Nat.sub_add_cancel
def fQ:=@List.drop_eq_getElem_cons
def fR:=@Nat.mul_mod_left
def fU:=@List.map_append
def fV:=@Array.getElem?_modify
def fW:=@List.getElem_toArray
def fX:=@List.getElem_cons_zero
def fY:=@List.drop_zero
def fZ:=@List.drop_succ_cons
def gh:=@List.take_zero
def gj:=@Nat.eq_of_beq_eq_true
def gl:=@Nat.blt_eq
def gn:=@List.getElem?_append_right
def gp:=@Array.mem_map
def gq:=@Array.mem_range
def gr:=@getElem!_pos
def gv:=@Bool.or_false
def gw:=@and_true
def gz:=@false_and
def gE:=@List.mapM_cons
def gF:=@List.pairwise_cons
def gG:=@List.pairwise_append
def gI:=@Nat.and_lt_two_pow
def gJ:=@Int.natAbs_neg
def gK:=@decide_true
def gL:=@BitVec.toNat_ofInt
def gM:=@Prod.mk.inj
def gN:=@Nat.le_of_not_lt
def gO:=@Rat.natCast_pos
def gP:=@Rat.neg_neg
def gQ:=@Rat.mul_comm
def gR:=@Rat.inv_pos
def gS:=@List.take_succ_eq_append_getElem
def gU:=@List.length_singleton
def gV:=@Nat.mul_right_comm
def gW:=@Int.toNat_natCast
def gY:=@List.size_toArray
def gZ:=@List.append_assoc
def ia:=@List.any_nil
def ib:=@true_and
def ic:=@Option.isSome_none
def ie:=@Option.isSome_iff_exists
def ig:=@Option.some.inj
def ij:=@Nat.or_comm
def ik:=@beq_iff_eq
def il:=@Nat.mod_mul
def im:=@Nat.zero_div
def iq:=@List.getElem_map
def iu:=@Rat.intCast_le_intCast
def iw:=@Rat.intCast_neg
def ix:=@Rat.neg_mul
def ado:=@Nat.div_pos
def apI:=@Nat.div_lt_self
def apS:=@Nat.le_mul_of_pos_left
def apV:=@Nat.le_mul_of_pos_right
def atF:=@Array.size_append
def atG:=@Array.getElem_mem
def atI:=@List.getElem?_toArray
def atT:=@List.mem_toArray
def awf:=@List.mem_singleton
def awg:=@Option.bind_eq_some_iff
def awh:=@Array.getElem_setIfInBounds_ne
def awi:=@BitVec.ofInt_natCast
def awj:=@BitVec.toNat_ofNat
def awk:=@List.take_add_one
def awl:=@Nat.and_one_is_mod
def awm:=@Nat.mul_lt_mul''
def awn:=@decide_eq_true_iff
def awo:=@decide_false
def awp:=@List.getElem?_set_ne
def awq:=@Nat.mul_mod_mul_left
def awr:=@Bool.false_or
def aws:=@List.length_eq_zero_iff
def awt:=@Bool.or_self
def awu:=@Nat.succ_mul
def awv:=@Nat.div_le_div_left
def aww:=@Nat.lt_of_not_le
def awx:=@List.getElem_set
def awy:=@List.getElem_range
def awz:=@Rat.zero_mul
def awA:=@Rat.inv_mul_cancel
def awB:=@Nat.one_ne_zero
def awC:=@Int.tmod_eq_emod_of_nonneg
def awD:=@List.ext_getElem?
def awE:=@List.cons_append
def awF:=@List.take_append_drop
def awG:=@List.eq_nil_or_concat
def awH:=@List.concat_eq_append
def awI:=@List.getElem?_cons_succ
def awJ:=@Nat.pow_lt_pow_iff_right
def awK:=@not_true_eq_false
def awL:=@List.set_cons_zero
def awM:=@List.length_nil
def awN:=@Option.getD_some
def awO:=@Option.map_none
def awP:=@Array.all_eq_true_iff_forall_mem
def awQ:=@Bool.or_eq_true_iff
def awR:=@Nat.or_lt_two_pow
def awS:=@Nat.and_two_pow_sub_one_eq_mod
def awT:=@decide_eq_decide
def awU:=@Nat.zero_lt_succ
def awV:=@Nat.testBit_xor
def awW:=@Nat.mul_eq_zero
def awX:=@List.getElem?_range
def awY:=@List.cons.injEq
def awZ:=@bne_self_eq_false
def aw0:=@Rat.mul_div_cancel
def aw1:=@List.all_eq_false
def aw2:=@Nat.mul_div_cancel_left
def aw3:=@List.mem_range'_1
def aw4:=@beq_self_eq_true
def aw5:=@Array.getElem?_setIfInBounds_ne
def aw6:=@Array.getElem?_append_left
def aw7:=@Int.tdiv_eq_ediv_of_nonneg
def aw8:=@Array.toList_setIfInBounds
def aw9:=@List.drop_length_add_append
def axa:=@List.eq_nil_iff_forall_not_mem
def axb:=@Array.mapM_eq_mapM_toList
def axc:=@Nat.eq_of_mul_eq_mul_right
def axd:=@Nat.lt_of_mul_lt_mul_right
def axe:=@Rat.lt_of_mul_lt_mul_right
def axf:=@List.getElem?_take_of_lt
def axg:=@Nat.mul_lt_mul_of_lt_of_le
def axh:=@Int.mul_tdiv_cancel_left
def axi:=@Nat.mod_two_eq_zero_or_one
def axj:=@Nat.mul_lt_mul_of_lt_of_lt
def J:=@Lib.hid
end Go.Proofs.YthalchiobglflaaGreatDoor
namespace Go.Proofs.YthalchiobglflaaGreatDoor.Fp
def val:List Nat->Nat
 | []=>0
 |x::l=>x+4294967296*val l
def je(L:List Nat):Prop:=∀ x,x ∈ L->x<4294967296
def je.nil:je []:=by intro x h;cases h
section
variable{x:Nat}{l:List Nat}
def je.cons(z:x<4294967296)(h:je l):je<|x::l:=by
 intro y k;rcases dg.1 k with rfl|k;exact z;exact h _ k
def je.head(h:je<|x::l):x<4294967296:=h x aK 
def je.tail(h:je<|x::l):je l:=λy k=>h y<|by simp[k]
end
def je.append{l m}(h:je l)(k:je m):je<|l++m:=by
 intro x y;rcases dP.1 y with y|y;exact h _ y;exact k _ y
def je.take{l}(h:je l)n:je<|l.take n:=λx k=>h x<|fm k
def je.drop{l}(h:je l)n:je<|l.drop n:=λx k=>h x<|fM k
def je.get{l}(h:je l){i}(x:i<l.length):l[i]<4294967296:=h _<|cT x
def je.getD{l}(h:je l)i:l.getD i 0<4294967296:=by
 rw[bB];by_cases x:i<l.length
 .rw [bH x];exact h.get x
 .rw [cM U];decide
def je.FP n:je<|aA n 0:=by
 intro x h;rw[List.mem_replicate]at h;rw[h.2];decide
@[simp] theorem C1:val []=0:=rfl
@[simp] theorem sZ x l:val (x::l)=x+4294967296*val l:=rfl
def yB l m:val (l++m)=val l+4294967296^l.length*val m:=by
 induction l with
 |nil=>simp
 |cons x l i=>
  simp only[awE,sZ,i,dD,bI];rw[bW,bL (4294967296^l.length) 4294967296,bM];omega
def nE{l}(h:je l):val l<4294967296^l.length:=by
 induction l with
 |nil=>simp
 |cons x l i=>
  have y:=h.head;have k:=i h.tail;simp only[sZ,dD,bI];have:val l+1<=4294967296^l.length:=k;have:=cR 4294967296 this;rw[bL<|4294967296^l.length];omega
def C3 n:val (aA n 0)=0:=by
 induction n with
 |zero=>rfl
 |succ n i=>simp[List.replicate_succ,i]
def Iq l n(h:n<=l.length:=by omega):val l=val (l.take n)+4294967296^n*val (l.drop n):=by
 conv=>lhs;rw[<-awF n l,yB]
 rw[cz,dE h]
def BN(l:List Nat)n(h:n<l.length):val (l.take<|n+1)=val (l.take n)+4294967296^n*l[n]:=by
 rw[gS h,yB,cz,dE U];simp
section
variable{l:List Nat}(h:je l)(n:Nat)
def au9:val (l.take n)=val l%4294967296^n:=by
 by_cases x:n<=l.length
 .rw [Iq l n x,eP,bY];have:=nE<|h.take n;rwa[cz,dE x]at this
 .rw [cW U,bY];refine bJ (nE h)<|bR aG U
def La:val (l.drop n)=val l/4294967296^n:=by
 by_cases x:n<=l.length
 .rw [Iq l n x];have:=nE<|h.take n;rw[cz,dE x]at this;rw[fN _ _<|bG aG,cG this,ct]
 .rw [eU U,cG];rfl;exact bJ (nE h)<|bR aG U
end
def iM:List Nat->List Nat
 | []=>[]
 |x::l=>match iM l with
  | []=>if x=0 then[]else[x]
  |y::m=>x::y::m
def nB(L:List Nat):Nat:=(iM L).length
def afs l:iM (l++[0])=iM l:=by
 induction l with
 |nil=>rfl
 |cons x l i=>simp only[awE,iM,i]
def afr l x(h:x≠0):iM (l++[x])=l++[x]:=by
 induction l with
 |nil=>simp[iM,h]
 |cons y l i=>
  simp only[awE,iM,i];cases l<;>rfl
section
variable(L:List Nat)
def K8:iM L=L.take (nB L):=by
 unfold nB
 induction L with
 |nil=>rfl
 |cons x l i=>
  simp only[iM];cases h:iM l with
  |nil=>by_cases k:x=0<;>simp[k]
  |cons y m=>
   rw[h]at i;simp only[dD,fo];rw[dD]at i;rw[<-i]
def qQ:nB L<=L.length:=by
 have h:=congrArg List.length<|K8 L;rw[cz]at h;unfold nB at h ⊢;omega
def qm:val (iM L)=val L:=by
 induction L with
 |nil=>rfl
 |cons x l i=>
  simp only[iM];cases h:iM l with
  |nil=>rw[h]at i;by_cases k:x=0<;>simp[k,<-i]
  |cons y m=>rw[h]at i;simp only[sZ]at i ⊢;rw[i]
end
def je.iM{L}(h:je L):je<|Fp.iM L:=by rw[K8];exact h.take _
def oW(L:List Nat):Prop:=iM L=L
def CY L:oW<|iM L:=by
 unfold oW
 induction L with
 |nil=>rfl
 |cons x l i=>
  simp only[iM];cases h:iM l with
  |nil=>by_cases k:x=0<;>simp[k,iM]
  |cons y m=>rw[h]at i;simp only[iM]at i ⊢;rw[i]
def oW.nil:oW []:=rfl
def Em L:oW L↔∀ h:0<L.length,L[L.length-1]≠0:=by
 rcases awG L with rfl|⟨l,x,rfl⟩
 .simp [oW,iM]
 .simp only[awH,cD,gU,eD,List.getElem_concat_length];constructor
  .intro h _ k;subst k;have:=congrArg List.length h;rw[afs]at this;have y:=qQ l;unfold nB at y;rw[cD]at this;simp at this;omega
  .intro h;exact afr l x<|h U
section
variable(L:List Nat)(n:Nat)(x:n<L.length)
def ON(h:L[n]=0):nB (L.take<|n+1)=nB (L.take n):=by
 unfold nB;rw[gS x,h,afs]
def OM(h:L[n]≠0):nB (L.take<|n+1)=n+1:=by
 unfold nB;rw[gS x,afr _ _ h];simp;omega
end
def oW.P3{x l}(h:oW<|x::l):oW l:=by
 rw[Em]at h ⊢;intro k;have:=h aK;simp only[dD,eD]at this;have e:(x::l)[l.length]'(aK)=l[l.length-1]:=by
  rw[List.getElem_cons];rw[dif_neg U]
 rwa[e]at this
def oW.C2{L}(h:oW L)(k:L≠[]):0<val L:=by
 induction L with
 |nil=>exact absurd rfl k
 |cons x l i=>
  simp only[sZ];by_cases q:l=[]
  .subst q;have:=(Em _).1 h aK;simp at this;simp;omega
  .have:=i h.P3 q;omega
def oW.ext{L M}(k:oW L)(z:oW M)(u:je L)(v:je M)(h:val L=val M):L=M:=by
 induction L generalizing M with
 |nil=>
  by_cases t:M=[]
  .exact t.symm
  .have:=z.C2 t;rw[<-h]at this;simp at this
 |cons x l i=>
  cases M with
  |nil=>have:=k.C2 aK;rw[h]at this;simp at this
  |cons y m=>
   simp only[sZ]at h;have s:=u.head;have r:=v.head;have e:x=y:= U ;subst e;rw[i k.P3 z.P3 u.tail v.tail U]
def iy(n:Nat):List Nat:=if n=0 then[]else n%4294967296::iy (n/4294967296)
termination_by n
decreasing_by exact apI U aG 
def pj:iy 0=[]:=by rw[iy];rfl
def CA{n}(h:n≠0):iy n=n%4294967296::iy (n/4294967296):=by rw[iy,bn h]
def kE n:val (iy n)=n:=by
 induction n using aB with
 |_ n i=>
  by_cases h:n=0
  .subst h;rw[pj];rfl
  .rw [CA h,sZ,i _<|apI U aG];exact ek n 4294967296
def lW n:je<|iy n:=by
 induction n using aB with
 |_ n i=>
  by_cases h:n=0
  .subst h;rw[pj];exact je.nil
  .rw [CA h];exact je.cons (bO _ aG)<|i _<|apI U aG
def xq n:oW<|iy n:=by
 induction n using aB with
 |_ n i=>
  by_cases h:n=0
  .subst h;rw[pj];exact oW.nil
  .rw [CA h];have x:=i _<|apI U (aG:1<4294967296);unfold oW at x ⊢;simp only[iM,x];by_cases k:n/4294967296=0
   .rw [k,pj];have:n%4294967296≠0:= U ;simp[this]
   .rw [CA k]
def sX{L}(h:je L):iM L=iy (val L):=
 oW.ext (CY L) (xq _) h.iM (lW _) (by rw[qm,kE])
def oW.I5{L}(h:oW L)(k:je L):L=iy (val L):=by
 rw[<-sX k];exact h.symm
def aaZ{n}:iy n=[]↔n=0:=by
 constructor
 .intro h;have:=kE n;rw[h]at this;exact this.symm
 .rintro rfl;exact pj
def uc{n k}(h:n<4294967296^k):(iy n).length<=k:=by
 induction k generalizing n with
 |zero=>simp at h;subst h;rw[pj];simp
 |succ k i=>
  by_cases x:n=0
  .subst x;rw[pj];simp
  .rw [CA x,dD];have:n/4294967296<4294967296^k:=by
    rw[cC aG];rwa[bI]at h
   have:=i this;omega
def yg{n k}(h:(iy n).length<=k):n<4294967296^k:=by
 have x:=nE<|lW n;rw[kE]at x;exact bJ x<|bR aG h
def H(n:Nat):Nat:=if n=0 then 0 else n.log2+1
def tZ:H 0=0:=rfl
def mo{n k}:H n<=k↔n<2^k:=by
 unfold H;by_cases h:n=0
 .subst h;simp[bG]
 .rw [bn h,<-Nat.log2_lt h];omega
def vC{n k}:k<H n↔2^k<=n:=by
 have:=@mo n k;omega
def yK{n k}(h:2^k<=n)(x:n<2^(k+1)):H n=k+1:=by
 have a:=vC.2 h;have b:=mo.2 x;omega
def qW n:n<2^H n:=mo.1<|bA _
def uC{n}(h:n≠0):2^(H n-1)<=n:=by
 have:H n-1<H n:=by
  have:H n≠0:=by unfold H;simp[h]
  omega
 exact vC.1 this
def oP{n}(h:n≠0):0<H n:=by unfold H;simp[h]
def uX{m n}(h:m<=n):H m<=H n:=mo.2<|cB h<|qW n
def sO{n}(h:n≠0)k:H (n*2^k)=H n+k:=by
 have x:=qW n;have y:=uC h;have z:=oP h;have e:H n+k=(H n-1+k)+1:= U ;rw[e];apply yK
 .rw [bC];exact bX _ y
 .rw [<-e,bC];exact dk x<|bG aG
def pI k:(4294967296:Nat)^k=2^(32*k):=by
 rw[Nat.pow_mul]
def ahA{l x}(h:je<|l++[x])(k:x≠0):H (val<|l++[x])=32*l.length+H x:=by
 rw[yB];simp only[sZ,C1,c9,bV];have z:val l<4294967296^l.length:=nE (λy u=>h y<|by simp[u]);rw[pI]at z ⊢;have v:=qW x;have t:=uC k;have s:=oP k;have e:32*l.length+H x=(32*l.length+(H x-1))+1:= U ;rw[e];apply yK
 .rw [bC];have:=cR (2^(32*l.length)) t;omega
 .rw [<-e,bC];have:=cR (2^(32*l.length))<|show x+1<=2^H x from v;rw[bW]at this;omega
def kT(a b:Nat):Int:=if a<b then -1 else if b<a then 1 else 0
section
variable{L M:List Nat}(t:je L)
def OW(k:oW M)(h:L.length<M.length):val L<val M:=by
 rcases awG M with rfl|⟨m,x,rfl⟩
 .simp at h
 .simp only[awH,cD,gU]at h k ⊢;have y:x≠0:=by
   have:=(Em _).1 k aK;simpa using this
  have z:=nE t;rw[yB];have u:(4294967296:Nat)^L.length<=4294967296^m.length:=bR aG U;have v:(4294967296:Nat)^m.length*1<=4294967296^m.length*val [x]:=cR _ aS;omega
def au5 i(x:i<L.length)(h:L.length=M.length)(a:L.drop (i+1)=M.drop (i+1))(V:L[i]<M[i]'(U)):val L<val M:=by
 rw[Iq L<|i+1,Iq M<|i+1,a,BN L i x,BN M i U];have k:=nE<|t.take i;rw[cz,dE U]at k;have y:=cR (4294967296^i)<|show L[i]+1<=M[i]'(U)from V;rw[bW]at y;omega
end
def au7 L k(h:je L):val (L.drop k)=val L/2^(32*k):=by
 rw[La h,pI]
def sW(s:Nat):List Nat->List Nat
 | []=>[]
 |x::l=>((x+4294967296*l.getD 0 0)/2^s)%4294967296::sW s l
section
variable(s:Nat)(L:List Nat)
def Oz:(sW s L).length=L.length:=by
 induction L with
 |nil=>rfl
 |cons x l i=>simp[sW,i]
def aeG i(h:i<L.length):(sW s L)[i]? = al (((L[i]+4294967296*L.getD (i+1) 0)/2^s)%4294967296):=by
 induction L generalizing i with
 |nil=>simp at h
 |cons x l k=>
  cases i with
  |zero=>simp[sW]
  |succ i=>
   simp only[dD]at h;simp only[sW,awI,k i U,eV];congr 1
def D1:je<|sW s L:=by
 induction L with
 |nil=>exact je.nil
 |cons x l i=>exact je.cons (bO _ aG) i
end
def au8{L}(h:je L)s(b:s<32):val (sW s L)=val L/2^s:=by
 induction L with
 |nil=>simp[sW]
 |cons x l i=>
  have e:32=s+(32-s):= U ;have k:(4294967296:Nat)=2^s*2^(32-s):=by rw[<-bC,<-e]
  have p:0<2^s:=bG aG;have z:=h.head;simp only[sW,sZ,i h.tail];generalize u:val l=v;have t:l.getD 0 0=v%4294967296:=by
   rw[<-u];cases l with
   |nil=>simp
   |cons y m=>
    have:=h.tail.head;simp[sZ];omega
  rw[t];have f1:(x+4294967296*(v%4294967296))/2^s=x/2^s+2^(32-s)*(v%4294967296):=by
   rw[show x+4294967296*(v%4294967296)=x+2^s*(2^(32-s)*(v%4294967296))by rw[<-bM,<-k],fN _ _ p]
  have f2:(x+4294967296*v)/2^s=x/2^s+2^(32-s)*v:=by
   rw[show x+4294967296*v=x+2^s*(2^(32-s)*v)by rw[<-bM,<-k],fN _ _ p]
  rw[f1,f2];have r:x/2^s<2^(32-s):=by
   rw[cC p,bL,<-k];exact z
  generalize x/2^s=q at r ⊢;have g:(4294967296:Nat)=2^(32-s)*2^s:=by rw[bL];exact k
  have n:v=2^s*(v/2^s)+v%2^s:=(cH v<|2^s).symm;have f:(q+2^(32-s)*(v%4294967296))%4294967296=q+2^(32-s)*(v%2^s):=by
   have d:v%4294967296%2^s=v%2^s:=by
    rw[k,Nat.mod_mul_right_mod]
   have c:(v%4294967296)=2^s*(v%4294967296/2^s)+v%2^s:=by
    rw[<-d];exact(cH _ _).symm
   conv=>lhs;rw[c]
   rw[bW,<-bM,<-g];rw[(U:q+(4294967296*(v%4294967296/2^s)+2^(32-s)*(v%2^s))=(q+2^(32-s)*(v%2^s))+4294967296*(v%4294967296/2^s)),eP];apply bY;have:v%2^s+1<=2^s:=bO _ p;have:=cR (2^(32-s)) this;rw[<-g,bW]at this;omega
  rw[f]
  conv=>rhs;rw[n,bW,<-bM,<-g]
  omega
def OY{L}(h:je L)n:val (sW (n%32)<|L.drop<|n/32)=val L/2^n:=by
 rw[au8 (h.drop _) _<|bO _ aG,au7 _ _ h,df,<-bC];congr 2;omega
def Um{out a:List Nat}{i c s n0}(k:i<a.length)(l:out.length=n0+i)(h:val out+4294967296^(n0+i)*c=val (a.take i)*2^s*4294967296^n0):
 val (out++[(a[i]*2^s+c)%4294967296])+4294967296^(n0+(i+1))*((a[i]*2^s+c)/4294967296)=val (a.take<|i+1)*2^s*4294967296^n0:=by
 rw[yB,BN a i k,l];simp only[sZ,C1,c9,bV];generalize y:a[i]*2^s+c=x;have e:=ek x 4294967296;have p:4294967296^(n0+(i+1))=4294967296^(n0+i)*4294967296:=by rw[<-cU,bI]
 rw[p,cU,bM<|4294967296^(n0+i),<-bW,e,<-y,bW,<-cU,Nat.add_right_comm,h,bT,bT];congr 1;rw[bC]
 ac_rfl
def yD(b:List Nat)i:val (b.take<|i+1)=val (b.take i)+4294967296^i*b.getD i 0:=by
 by_cases h:i<b.length
 .rw [BN b i h,bB,bH h];rfl
 .rw [cW U,cW U,bB,cM U];simp
def av8{out a b:List Nat}{i c y d c'}(x:i<a.length)(l:out.length=i)(k:val (b.take<|i+1)=val (b.take i)+4294967296^i*y)(z:d+y+c=a[i]+4294967296*c')(h:val out+val (b.take i)=val (a.take i)+4294967296^i*c):
 val (out++[d])+val (b.take<|i+1)=val (a.take<|i+1)+4294967296^(i+1)*c':=by
 rw[yB,BN a i x,k,l];simp only[sZ,C1,c9,bV];have e:=congrArg (4294967296^i * ·) z;simp only[bW,<-bM]at e;rw[bI];omega
def ky(n:Nat):Nat:=if n=0 then 0 else(Nat.gcd n<|2^(Nat.log2 n+1)).log2
def P4{m}(y:m%2=1)k:ky (m*2^k)=k:=by
 have x:m*2^k≠0:=eo U<|eE<|bG aG;unfold ky;rw[bn x];have u:k<=Nat.log2 (m*2^k):=by
  apply b8;intro h;have v:m*2^k<2^k:=(Nat.log2_lt x).1 U;have:1*2^k<=m*2^k:=bX _ U;omega
 obtain⟨j,z⟩:∃ j,Nat.log2 (m*2^k)+1=j+k:=⟨Nat.log2 (m*2^k)+1-k,U⟩
 rw[z,bC,Nat.gcd_mul_right];have g:Nat.gcd m (2^j)=1:=by
  have c:Nat.Coprime m 2:=by
   unfold Nat.Coprime;rw[Nat.gcd_comm,Nat.gcd_rec,y];rfl
  exact Nat.Coprime.pow_right j c
 rw[g,bU,Nat.log2_two_pow]
def P5{n}(h:n%2=1):ky n=0:=by have:=P4 h 0;simpa using this
section
variable{n:Nat}(h:n≠0)
def auQ:∃ m k,m%2=1/\n=m*2^k:=by
 induction n using aB with
 |_ n i=>
  by_cases h:n%2=1
  .exact ⟨n,0,h,aK⟩
  .have⟨m,k,x,e⟩:=i (n/2) U U ;exact⟨m,k+1,x,by rw[bI,<-bM,<-e];omega⟩
def W2(y:n%2=0):ky n=ky (n/2)+1:=by
 have⟨m,k,h,x⟩:=auQ (n:=n/2) U;have e:n=m*2^(k+1):=by rw[bI,<-bM,<-x];omega
 rw[x,P4 h]
 conv=>lhs;rw[e]
 exact P4 h _
def ED:∃ m,m%2=1/\n=m*2^ky n:=by
 induction n using aB with
 |_ n i=>
  by_cases x:n%2=1
  .exact ⟨n,x,by rw[P5 x];omega⟩
  .have⟨m,k,e⟩:=i (n/2) U U ;refine⟨m,k,?_⟩;rw[W2 h U,bI,<-bM,<-e];omega
end
def BZ{m}(h:m%2=1)k:ky (m*2^k)=k:=by
 induction k with
 |zero=>rw[cA,cr,P5 h]
 |succ k i=>
  have p:0<m*2^k:=fO U<|bG aG;have e:m*2^(k+1)=m*2^k*2:=by rw[bI,bM]
  rw[e,W2 U U,ep _ aG,i]
section
variable{n:Nat}(h:n≠0)
def Hk:(n/2^ky n)%2=1:=by
 have⟨m,x,e⟩:=ED h;have:n/2^ky n=m:=by conv=>lhs;rw[e,BZ x];rw[ep _<|bG aG]
 rw[this];exact x
def I0:(n/2^ky n)*2^ky n=n:=by
 have⟨m,x,e⟩:=ED h;have:n/2^ky n=m:=by conv=>lhs;rw[e,BZ x];rw[ep _<|bG aG]
 rw[this];exact e.symm
def Hp:2^ky n<=n:=by
 have⟨m,x,e⟩:=ED h
 conv=>rhs;rw[e]
 exact apS _ U 
end
def ajh{x v}(k:x≠0)(i:x<4294967296):ky (x+4294967296*v)=ky x:=by
 have⟨m,y,z⟩:=ED k;have u:ky x<32:=by
  have t:=Hp k;rcases er (ky x) 32 with h|h
  .exact h
  .have:=bR (n:=2) aG h;have e:(2:Nat)^32=4294967296:= aG ;omega
 have e:x+4294967296*v=(m+2^(32-ky x)*v)*2^ky x:=by
  rw[bT,<-z,gV,<-bC,fP U]
 conv=>lhs;rw[e]
 apply BZ;have:2^(32-ky x)=2*2^(31-ky x):=by rw[(U:32-ky x=(31-ky x)+1),bI,bL]
 rw[this,bM,eP];exact y
def aji{v}(h:v≠0)k:ky (2^k*v)=k+ky v:=by
 have⟨m,x,e⟩:=ED h
 conv=>lhs;rw[e,<-bM,bL<|2^k,bM,<-bC]
 exact BZ x _
section
variable{L:List Nat}
def Lb:val L=0↔∀ x,x ∈ L->x=0:=by
 induction L with
 |nil=>simp
 |cons x l i=>
  simp only[sZ,dg];constructor
  .intro h y k;rcases k with rfl|k
   .omega
   .exact i.1 U y k
  .intro h;have z:=h x<|.inl rfl;have u:=i.2 λy k=>h y<|.inr k;omega
def ajj(h:je L)i(x:i<L.length)(z:∀ j,(k:j<i)->L[j]=0)(u:L[i]≠0):ky (val L)=32*i+ky L[i]:=by
 rw[Iq L i];have:val (L.take i)=0:=by
  rw[Lb];intro y v;obtain⟨j,k,rfl⟩:=List.getElem_of_mem v;rw[cz]at k;rw[List.getElem_take];exact z j U 
 rw[this,ct,pI,fQ x,sZ];rw[aji U,ajh u<|h.get x]
def UJ{k x}(h:k<L.length):val (L.set k x)+4294967296^k*L[k]=val L+4294967296^k*x:=by
 induction L generalizing k with
 |nil=>simp at h
 |cons y l i=>
  cases k with
  |zero=>simp;omega
  |succ k=>
   simp only[dD]at h;have:=i (k:=k) U;simp only[List.set_cons_succ,sZ,eV,bI];have e:(4294967296^k*4294967296*l[k])=4294967296*(4294967296^k*l[k]):=by ac_rfl
   have z:(4294967296^k*4294967296*x)=4294967296*(4294967296^k*x):=by ac_rfl
   rw[e,z];omega
end
def je.set{L}(h:je L)k{x}(u:x<4294967296):je<|L.set k x:=by
 intro y z;rcases List.mem_or_eq_of_mem_set z with z|rfl
 .exact h _ z
 .exact u
structure Dy where
 neg:Bool
 m:Nat
 e:Int
def Dy.nj(d:Dy):Prop:=(d.m=0/\d.neg=ac/\d.e=0)\/d.m%2=1
section
variable(n:Bool)(m:Nat)(e:Int)
def canon:Dy:=if m=0 then⟨ac,0,0⟩else⟨n,m/2^ky m,e+ky m⟩
def tC:(canon n m e).nj:=by
 unfold canon;split
 .exact .inl ⟨rfl,rfl,rfl⟩
 .rename_i h;exact .inr<|Hk h
end
def Dy.nj.EB{d}(h:d.nj):canon d.neg d.m d.e=d:=by
 have⟨s,m,e⟩:=d;rcases h with⟨x,k,y⟩|h
 .simp only at x k y;subst x k y;rfl
 .simp only at h ⊢;unfold canon;rw[bn U,P5 h];simp
def oL(d:Dy):Prop:=d.m=0\/H d.m<=4096 /\ -16384<=d.e/\d.e<=16384/\(H d.m:Int)+d.e<=16384
instance (d:Dy):Decidable<|oL d:=by unfold oL;infer_instance
structure Dy.iE(d:Dy):Prop where
 canon:d.nj
 range:oL d
def kq:Dy:=⟨ac,0,0⟩
def tY:kq.iE:=⟨.inl ⟨rfl,rfl,rfl⟩,.inl rfl⟩
def Dy.jh(d:Dy):Int:=if d.m=0 then 0 else if d.neg then -1 else 1
def Dy.iQ(d:Dy):Int:=if d.m=0 then 0 else H d.m+d.e
def Dy.kC(d:Dy)(e:Int):Nat:=d.m*2^(d.e-e).toNat
def Dy.num(d:Dy)(e:Int):Int:=if d.neg then -(d.kC e:Int)else d.kC e
def jQ(a b:Dy):Int:=
 if a.num (min a.e b.e)<b.num (min a.e b.e)then -1 else if b.num (min a.e b.e)<a.num (min a.e b.e)then 1 else 0
def zj{d:Dy}(h:d.m≠0)e:0<d.kC e:=fO U<|bG aG
def abk{d:Dy}(h:d.m=0)e:d.kC e=0:=by unfold Dy.kC;rw[h,cV]
def LR{d:Dy}(h:d.m≠0){e}(x:e<=d.e):(H<|d.kC e:Int)=H d.m+d.e-e:=by
 unfold Dy.kC;rw[sO h];omega
def abj{a b:Dy}(k:a.m≠0)(y:b.m≠0){e}(z:e<=a.e)(u:e<=b.e)(h:a.iQ<b.iQ):a.kC e<b.kC e:=by
 have v:=LR k z;have t:=LR y u;unfold Dy.iQ at h;rw[bn k,bn y]at h;rcases er (a.kC e) (b.kC e)with x|x
 .exact x
 .have:=uX x;omega
def vU(a b:Dy):Int:=kT (a.kC<|min a.e b.e)<|b.kC<|min a.e b.e
section
variable{a b:Dy}(x:a.m≠0)(k:b.m≠0)
def WE(h:a.iQ<b.iQ):vU a b = -1:=by
 unfold vU kT;rw[bt<|abj x k (Int.min_le_left _ _) (Int.min_le_right _ _) h]
def WD(h:b.iQ<a.iQ):vU a b=1:=by
 have:=abj k x (Int.min_le_right a.e b.e) (Int.min_le_left _ _) h;unfold vU kT;rw[bn U,bt this]
end
def F1(d:Dy):(d.m=0/\d.jh=0)\/(d.m≠0/\d.neg=aa/\d.jh = -1)\/(d.m≠0/\d.neg=ac/\d.jh=1):=by
 unfold Dy.jh;by_cases h:d.m=0
 .exact .inl ⟨h,bt h⟩
 .cases hn:d.neg
  .exact .inr<|.inr ⟨h,rfl,by simp[h]⟩
  .exact .inr<|.inl ⟨h,rfl,by simp[h]⟩
def S5{d:Dy}e:(d.jh=0->d.num e=0)/\(d.jh = -1->d.num e<0/\d.num e = -(d.kC e))/\(d.jh=1->0<d.num e/\d.num e=d.kC e):=by
 unfold Dy.num;rcases F1 d with⟨h,x⟩|⟨h,x,k⟩|⟨h,x,k⟩
 .rw [x,abk h];simp
 .have:=zj h e;rw[k,x];simp;omega
 .have:=zj h e;rw[k,x];simp;omega
def Gs a b:jQ a b=if a.jh<b.jh then -1 else if b.jh<a.jh then 1 else if a.jh=0 then 0 else a.jh*vU a b:=by
 unfold jQ vU kT;generalize min a.e b.e=e;have⟨p,k,z⟩:=S5 (d:=a) e;have⟨q,u,v⟩:=S5 (d:=b) e;generalize a.num e=x at *
 generalize b.num e=y at *
 generalize a.kC e=x' at *
 generalize b.kC e=y' at *
 have r:a.jh=0\/a.jh = -1\/a.jh=1:=by rcases F1 a with⟨_,h⟩|⟨_,_,h⟩|⟨_,_,h⟩<;>simp[h]
 have n:b.jh=0\/b.jh = -1\/b.jh=1:=by rcases F1 b with⟨_,h⟩|⟨_,_,h⟩|⟨_,_,h⟩<;>simp[h]
 generalize a.jh=s at *
 generalize b.jh=t at *
 rcases r with rfl|rfl|rfl<;>rcases n with rfl|rfl|rfl<;>simp at p k z q u v<;>(repeat' split)<;>omega
def lV(z:Int)(e:Int):Dy:=canon (decide (z<0)) z.natAbs e
def jl(a b:Dy):Dy:=
 if a.m=0 then b else if b.m=0 then a else lV (a.num (min a.e b.e)+b.num (min a.e b.e)) (min a.e b.e)
def ji(d:Dy):Dy:=⟨!d.neg&&decide (d.m≠0),d.m,d.e⟩
def Hh{d}(h:d.nj):(ji d).nj:=by
 rcases h with⟨x,y,k⟩|h
 .exact .inl ⟨x,by simp[ji,x],k⟩
 .exact .inr h
def sT{d}(h:d.iE):(ji d).iE:=⟨Hh h.canon,h.range⟩
def atp n m e:(canon n m e).jh=if m=0 then 0 else if n then -1 else 1:=by
 unfold canon;by_cases h:m=0
 .simp [h,Dy.jh]
 .have:(canon n m e).m≠0:=by unfold canon;rw[bn h];have:=Hk h;simp only;omega
  unfold canon at this;rw[bn h]at this ⊢;unfold Dy.jh;rw[bn this,bn h]
def atq z e:(lV z e).jh=if z<0 then -1 else if 0<z then 1 else 0:=by
 unfold lV;rw[atp];by_cases h:z<0
 .rw [bn U,bt h];simp[h]
 .rw [bn h];by_cases x:0<z
  .rw [bn U,bt x];simp[h]
  .rw [bn x,bt U]
def acf d e(h:d.m≠0):(ji d).num e = -(d.num e):=by
 unfold Dy.num ji Dy.kC;cases d.neg<;>simp[h]
section
variable{a b:Dy}(z:a.m≠0)(k:b.m≠0)
def aiO:(jl a<|ji b).jh=jQ a b:=by
 unfold jl;rw[bn z,bn<|by simpa[ji]using k,atq];have e:(ji b).e=b.e:=rfl;rw[e,acf _ _ k];unfold jQ;generalize a.num _=x;generalize b.num _=y
 repeat' split
 all_goals omega
def aiQ(s:a.jh=b.jh)(h:a.iQ<b.iQ):jQ a b = -a.jh:=by
 rw[Gs,bn U,bn U,WE z k h];split<;>omega
def aiP(s:a.jh=b.jh)(h:b.iQ<a.iQ):jQ a b=a.jh:=by
 rw[Gs,bn U,bn U,WD z k h];split<;>omega
end
def Gt a b:jQ a b=if a.jh≠b.jh then(if a.jh<b.jh then -1 else 1)else if a.jh=0 then 0 else
 if a.iQ≠b.iQ then(if(a.iQ<b.iQ)=(0<a.jh)then -1 else 1)else(jl a<|ji b).jh:=by
 by_cases s:a.jh=b.jh
 .rw [bn<|by simpa using s];by_cases x:a.jh=0
  .rw [bt x,Gs,bn U,bn U,bt x]
  .rw [bn x];have y:a.m≠0:=by intro h;exact x (by unfold Dy.jh;rw[bt h])
   have z:b.m≠0:=by intro h;exact x<|by rw[s];unfold Dy.jh;rw[bt h]
   have c:a.jh = -1\/a.jh=1:=by rcases F1 a with⟨_,h⟩|⟨_,_,h⟩|⟨_,_,h⟩<;>simp_all
   by_cases t:a.iQ=b.iQ
   .rw [bn<|by simpa using t,aiO y z]
   .rw [bt<|by simpa using t];rcases Int.lt_or_gt_of_ne t with h|h
    .rw [aiQ y z s h];rcases c with k|k<;>rw[k]<;>simp[h]
    .rw [aiP y z s h];rcases c with k|k<;>rw[k]<;>simp[(U:¬a.iQ<b.iQ)]
 .rw [bt<|by simpa using s,Gs];by_cases h:a.jh<b.jh
  .rw [bt h,bt h]
  .rw [bn h,bn h,bt U]
section
variable{out:List Nat}
def agh{k c x y P Q u v}(l:out.length=k)(h:val out+4294967296^k*c=P+Q)(t:u=P+4294967296^k*x)(s:v=Q+4294967296^k*y):
 val (out++[(c+x+y)%4294967296])+4294967296^(k+1)*((c+x+y)/4294967296)=u+v:=by
 rw[yB,l,t,s];simp only[sZ,C1,c9,bV];generalize r:c+x+y=z;have e:=ek z 4294967296;rw[bI,cU,bM,<-bW,e,<-r,bW,bW];omega
def at2{k c x y d c' P Q z u}(l:out.length=k)(h:val out+Q=P+4294967296^k*c)(v:z=P+4294967296^k*x)(t:u=Q+4294967296^k*y)(s:d+y+c=x+4294967296*c'):
 val (out++[d])+u=z+4294967296^(k+1)*c':=by
 rw[yB,l,v,t];simp only[sZ,C1,c9,bV];have e:=congrArg (4294967296^k * ·) s;simp only[bW,<-bM]at e;rw[bI];omega
def aeY{n c P Q}(o:je out)(l:out.length=n)(h:val out+Q=P+4294967296^n*c)(x:Q<=P):c=0/\val out=P-Q:=by
 have k:=nE o;rw[l]at k;rcases c with _|c
 .exact ⟨rfl,U⟩
 .exfalso;have:4294967296^n*1<=4294967296^n*(c+1):=cR _ U;omega
end
def PA{L}(h:je L)k(x:k/32<L.length):val L/2^k%2=L[k/32]/2^(k%32)%2:=by
 have e:k=32*(k/32)+k%32:= U 
 conv=>lhs;rw[e,bC,<-df,<-pI,<-La h,fQ x,sZ]
 have s:k%32<32:=bO _ aG;have y:(4294967296:Nat)=2^(k%32)*(2*2^(31-k%32)):=by
  rw[<-Nat.pow_succ',<-bC,(U:k%32+(31-k%32).succ=32)]
 conv=>lhs;rw[y,bM,fN _ _<|bG aG,bM,eP]
def V3{n k}(h:n≠0)(x:k<ky n):n/2^k%2=0:=by
 have⟨m,y,e⟩:=ED h;generalize ky n=c at *
 rw[e,(U:c=k+(c-k)),bC,<-bM,gV,ep _<|bG aG,(U:c-k=(c-k-1)+1),bI,<-bM,fR]
def V2{n}(h:n≠0):n/2^ky n%2=1:=Hk h
def IS{L}(h:je L)(k:val L≠0):ky (val L)/32<L.length:=by
 have y:=Hp k;have x:=nE h;rw[pI]at x;have z:2^ky (val L)<2^(32*L.length):=cB y x;have:=(awJ (aG:1<2)).1 z;omega
end Go.Proofs.YthalchiobglflaaGreatDoor.Fp
namespace Go.Proofs.YthalchiobglflaaGreatDoor
open Go.RowKit Fp
structure Sl(w:World)(A:Option Addr)(c:Nat)(L:List Nat):Prop where
 cap:L.length<=c
 sE:c<=9223372036854775807
 ok:je L
 Au:A=none->c=0
 cell:∀ (i x:Nat),L[i]? = some x->∃ b o,A=some ⟨b,o,none⟩/\b<w.heap.size/\w.cell? ⟨b,o+i,none⟩=some (.int .u32 (x:Int))
def ahE(a:az)n:(a.add n).block=a.block:=by unfold Addr.add;split<;>rfl
section
variable {w w':ap} {A:Option az} {c:Nat} {L:List Nat}
def Sl.mL(h:Sl w A c L){i}(x:i<L.length):∃ b o,A=al ⟨b,o,am⟩/\b<w.heap.size/\w.cell? ⟨b,o+i,am⟩=al (.int .u32 (L[i]:Int)):=
 h.cell i _ (bH x)
def Sl.nil w:Sl w am 0 []:=⟨bA _,aG,je.nil,λ_=>rfl,λi x h=>by simp at h⟩
def Sl.below(h:Sl w A c L)(k:Below w.heap.size w w'):Sl w' A c L:=
 ⟨h.cap,h.sE,h.ok,h.Au,λi x z=>by
  have⟨b,o,e,y,u⟩:=h.cell i x z;exact⟨b,o,e,bJ y k.size,(k.cell y).trans u⟩⟩
def Sl.alloc(h:Sl w A c L)o:Sl (w.alloc o) A c L:=h.below<|(Below.refl _ _).alloc (bA _) _
def Sl.drew(h:Sl w A c L):Sl w.drew A c L:=h.below<|(Below.refl _ _).drew
def Sl.take(h:Sl w A c L)n:Sl w A c<|L.take n:=
 ⟨by have:=h.cap;rw[cz];omega,h.sE,h.ok.take n,h.Au,λi x k=>h.cell i x (by
  rw[eW]at k;split at k
  .exact k
  .cases k)⟩
def Sl.len(h:Sl w A c L):L.length<=9223372036854775807:=bF h.cap h.sE
def Sl.eqv{x}(h:Sl w A c L)(e:L=x):Sl w A c x:=e▸h
end
def Et b o i:(⟨b,o,am⟩:az).add i=⟨b,o+i,am⟩:=by
 unfold Addr.add;split
 .rename_i h;rw[h];rfl
 .simp
abbrev jc(w w':ap):Prop:=Below w.heap.size w w'
def jc.trans{a b c}(h:jc a b)(k:jc b c):jc a c:=Below.trans h<|k.mono h.size
def jc.alloc w o:jc w<|w.alloc o:=(Below.refl _ _).alloc (bA _) _
def jc.drew w:jc w w.drew:=(Below.refl _ _).drew
def jc.refl w:jc w w:=Below.refl _ _
def Om{A n m c}(h:n=m):Ending.returned (.slice A n c) = .returned (.slice A m c):=by rw[h]
def qi{k a b}(h:a=b):Ending.returned (.int k a) = .returned (.int k b):=by rw[h]
def Ol{a b}(h:a=b):Ending.returned (.bool a) = .returned (.bool b):=by rw[h]
def vQ(w:ap)(L:List Nat)(e:Ending)(w':ap):Prop:=∃ A c,e = .returned (.slice A L.length c)/\Sl w' A c L/\jc w w'
def Ga(w:ap)(L:List Nat)(n:Int)(e:Ending)(w':ap):Prop:=∃ A c,e = .returned (.tuple #[.slice A L.length c,.int .i64 n])/\Sl w' A c L/\jc w w'
def Tb(w:ap):Prop:=TabAt 0 Lib.deBruijn32tab w
def Tb.below{w w'}(h:Tb w)(b:jc w w'):Tb w':=λj k=>by
 have x:=h j k;rw[b.cell<|block_lt_of_cell x];exact x
def Tb.alloc{w}(h:Tb w)o:Tb<|w.alloc o:=h.below<|jc.alloc _ _
def ahp x(h:x<4294967296):Lib.bitLen x=H x:=by
 induction x using aB with
 |_ x i=>
  by_cases y:x=0
  .subst y;rfl
  .rw [Lib.bitLen_half x y U,i (x/2) U U];by_cases z:x/2=0
   .have:x=1:= U ;subst this;rfl
   .have e:=uC z;have u:=qW<|x/2;have v:=oP z;generalize H (x/2)=k at *
    obtain⟨j,rfl⟩:∃ j,k=j+1:=⟨k-1,U⟩
    rw[eD]at e;rw[eX];refine(yK ?_ ?_).symm
    .rw [bI];omega
    .rw [bI];omega
def ajk x(k:x≠0)(h:x<4294967296):Lib.ctz 32 x=ky x:=by
 unfold Lib.ctz;rw[bn k];have⟨m,y,_⟩:=Lib.ctzFrom_spec 32 x U h
 conv=>rhs;rw[y,bL]
 exact(BZ U _).symm
def pW(L:List Nat):List av:=L.map λ(n:Nat)=>Value.int .u32 (n:Int)
def auX{L}{j:Nat}{u}(h:(pW L)[j]? = al u):∃ n,L[j]? = al n/\u = .int .u32 (n:Int):=by
 unfold pW at h;rw[cQ]at h;obtain⟨n,x,rfl⟩:=dc.1 h;exact⟨n,x,rfl⟩
def auW L M:pW (L++M)=pW L++pW M:=fU
def auY L:∀ u ∈ pW L,u.oneCell'=aa:=by
 intro u h;obtain⟨n,_,rfl⟩:=dF.1 h;rfl
structure Ow(w:World)(base:Nat)(v:Value)(L:List Nat):Prop where
 row:w.ownsRow base 110 1 v L.length<|pW L
 ok:je L
def Ow.sl{w b v L}(h:Ow w b v L):∃ A c,v = .slice A L.length c/\Sl w A c L:=by
 have r:=h.row;rcases r.2 with⟨rfl,k⟩|⟨g,a,u,rfl,t,y,q,o,p,R⟩
 .have:L=[]:=dM k;subst this;exact⟨am,0,rfl,Sl.nil w⟩
 .refine ⟨_,_,rfl,q,(by simpa[maxLen]using o),h.ok,(λh=>by cases h),λi x z=>⟨_,_,rfl,(cX.1 y).1,?_⟩⟩;have h:=r.cells (g:=g) rfl i (.int .u32 (x:Int)) (by unfold pW;rw[cQ,z];rfl);rw[Et]at h;exact h
def Ow.nil w b:Ow w b (.slice am 0 0) []:=⟨World.ownsRow_nil w b _ _,je.nil⟩
def Ow.alloc{w b v L}(h:Ow w b v L)o:Ow (w.alloc o) b v L:=⟨h.row.alloc o,h.ok⟩
def Ow.empty(w:ap)base(h:base<=w.heap.size):Ow (w.alloc<|.cells #[] 110) base (.slice (al ⟨w.heap.size,0,am⟩) 0 0) []:=
 ⟨World.ownsRow_made w #[] 0 h aG rfl,je.nil⟩
def sD{w:ap}{n}(h:n<=w.heap.size)o:n<=(w.alloc o).heap.size:= aS 
def Sl.one(w:ap)(x:Nat)(z:x<4294967296):Sl (w.alloc<|.cells #[.int .u32 x] 110) (al ⟨w.heap.size,0,am⟩) 1 [x]:=
 ⟨bA _,aG,je.cons z je.nil,(λh=>by cases h),λi y u=>by
  have⟨v,k⟩:=cF.1 u;obtain rfl:i=0:=by simp at v;omega
  simp at k;subst k;refine⟨_,_,rfl,aK,?_⟩;exact World.cell?_alloc_at _ _ _ _ rfl⟩
def Sl.wE(w:ap)y(x:Nat)(e:y=(x:Int))(h:x<4294967296):Sl (w.alloc<|.cells #[.int .u32 y] 110) (al ⟨w.heap.size,0,am⟩) 1 [x]:=by
 subst e;exact Sl.one w x h
def Sa:(prog.info? 110).map (λi=>(i.zero,i.size,i.bytes))=al (al<|.int .u32 0,1,4):= aI 
def tX{q rest o a Q w}(E:o.guard=am)s x(p:o.op = .call { callee:=.builtin .append,args:=#[s,x],argTypes:=#[29,29] })base v L(l:a.eval s=v)(C:Ow w base v L)A m c M(g:a.eval x = .slice A m c)(d:m=M.length)(r:Sl w A c M)(F:L.length+M.length<=10000000000)(N:base<=w.heap.size)(h:∀ k w',Ow w' base k (L++M)->w.grownBy w' v.ownBlock->(k.ownBlock=v.ownBlock\/k.ownBlock=al w.heap.size)->wpList prog q Q rest (a.put o.dst k) w'):
 wpList prog q Q (o::rest) a w:=by
 have⟨i,f,X,Y,Z⟩:=info_parts Sa;subst d;rcases A with _|y
 .have z:=r.Au rfl;subst z;have V:M=[]:=dM (by have:=r.cap;omega);subst V;refine wpList_append_own_none E s x _ p base _ i 1 underlying29 f v _ _ l C.row g ?_;have:=h v w (by rw[fp];exact C) ⟨rfl,rfl,rfl,bA _,λ_ _ _=>rfl⟩<|.inl rfl;exact this
 .refine wpList_append_own_at w E s x _ p base _ i _ 1 4 underlying29 f X Y Z rfl aG v L.length (pW L) l C.row y M.length c (pW M) g (by simp[pW]) ?_ (auY M)
   (by simp only[maxLen];omega) U N ?_
  .intro j u T;obtain⟨n,S,rfl⟩:=auX T;have⟨b,o,e,_,z⟩:=r.cell j n S;cases e;rw[Et];exact z
  .intro k w' t R _ P;exact h k w' ⟨by rw[cD,auW];exact t,C.ok.append r.ok⟩ R P
def Rw(w:ap)(b:Nat)(L:List Nat):Prop:=w.heap[b]? = al (.cells (pW L).toArray 110 (0,0))
section
variable {w w':ap} {b:Nat} {L:List Nat}
def Rw.lt(h:Rw w b L):b<w.heap.size:=(cX.1 h).1
def Rw.cell(h:Rw w b L){i x:Nat}(k:L[i]? = al x):w.cell? ⟨b,i,am⟩=al (.int .u32 (x:Int)):=by
 unfold Rw at h;simp only[aC,h];simp[pW,k]
def Rw.frozen(h:Rw w b L)i:w.frozen? ⟨b,i,am⟩=ac:=by
 unfold Rw at h;simp[World.frozen?,h]
def Rw.set(h:Rw w b L)(i x:Nat):Rw (w.setCell ⟨b,i,am⟩<|.int .u32 (x:Int)) b<|L.set i x:=by
 unfold Rw at h ⊢;simp only[World.setCell,fV,h];simp[pW,List.map_set]
def Rw.sl(h:Rw w b L)(k:je L)(l:L.length<=10000000000):Sl w (al ⟨b,0,am⟩) L.length L:=
 ⟨bA _,U,k,(λh=>by cases h),λi x y=>⟨_,_,rfl,h.lt,by
  rw[ct];exact h.cell y⟩⟩
def Rw.Br(w:ap)n:Rw (w.alloc<|.cells (pW<|aA n 0).toArray 110) w.heap.size<|aA n 0:=heap_alloc_new w _
end
def age b i:(⟨b,0,am⟩:az).add i=⟨b,i,am⟩:=by
 unfold Addr.add;split
 .rename_i h;rw[h]
 .simp
def Hd(n:Nat)(y:n<=10000000000)w:
 (Instr.makeSlice 29 (.int .i64 (n:Int))<|.int .i64 (n:Int)).run prog w = .ok (.slice (al ⟨w.heap.size,0,am⟩) n n) (w.alloc<|.cells (pW<|aA n 0).toArray 110):=by
 have⟨i,k,z,h,x⟩:=info_parts Sa;have r:=run_make (P:=prog) w 29 110 i _ underlying29 k z .i64 .i64 n n U U (by rw[x];omega) U;rw[r,gW,h,cr];refine congrArg (λc=>Result.ok (Value.slice (al ⟨w.heap.size,0,am⟩) n n)<|w.alloc<|.cells c 110) ?_;apply Array.ext
 .simp [madeCells,pW]
 .intro i h x;simp[madeCells,pW,aL,dq]
def xx(w:ap)(d:Dy)(e:Ending)(w':ap):Prop:=
 ∃ A c,e = .returned (.agg #[.bool d.neg,.slice A (iy d.m).length c,.int .i64 d.e])/\Sl w' A c (iy d.m)/\jc w w'
def BR(w:ap)(d:Dy)(n:Int)(e:Ending)(w':ap):Prop:=
 ∃ A c,e = .returned (.tuple #[.agg #[.bool d.neg,.slice A (iy d.m).length c,.int .i64 d.e],.int .i64 n])/\Sl w' A c (iy d.m)/\jc w w'
def BQ(w:ap)(g:Nat):Prop:=∀ o x,w.cell? ⟨g,o,am⟩≠al (.int .u32 x)
def Sl.B4{w A c L}(h:Sl w A c L){g i}(z:BQ w g)u:Sl (w.setCell ⟨g,i,am⟩ u) A c L:=
 ⟨h.cap,h.sE,h.ok,h.Au,λj x v=>by
  have⟨b,o,e,t,k⟩:=h.cell j x v;refine⟨b,o,e,by simpa[World.setCell]using t,?_⟩;rw[World.cell?_setCell_other w _ _ u]
  .exact k
  .intro y;simp only[Addr.mk.injEq]at y;exact z (o+j) x<|by rw[y.1];exact k⟩
def BQ.Aw{w g cs t f}(h:w.heap[g]? = al (.cells cs t f))(c:∀ (i:Nat) (x:Int),cs[i]? ≠ al (.int .u32 x)):BQ w g:=λo x e=>by
 simp only[aC,h]at e;simp at e;exact c o x<|by simpa using e
def kf(w:ap)(g:Nat)(s:Bool)(A:Option az)(n c:Nat)(e:Int):Prop:=w.heap[g]? = al (.cells #[.bool s,.slice A n c,.int .i64 e] 31 (0,0))
section
variable {w w':ap} {g n c:Nat} {s:Bool} {A:Option az} {e:Int}
def kf.new(W:ap)s A n c e:kf (W.alloc<|.cells #[.bool s,.slice A n c,.int .i64 e] 31) W.heap.size s A n c e:=heap_alloc_new W _
def kf.vG{W:ap}{g}(h:W.heap.size=g)s A n c e:kf (W.alloc<|.cells #[.bool s,.slice A n c,.int .i64 e] 31) g s A n c e:=h▸heap_alloc_new W _
def kf.lt(h:kf w g s A n c e):g<w.heap.size:=(cX.1 h).1
def kf.ext(h:kf w g s A n c e)(b:jc w w'):kf w' g s A n c e:=(b.block g h.lt).trans h
def kf.alloc(h:kf w g s A n c e)o:kf (w.alloc o) g s A n c e:=h.ext<|jc.alloc _ _
def kf.drew(h:kf w g s A n c e):kf w.drew g s A n c e:=h
section
variable(h:kf w g s A n c e)
def kf.nT:BQ w g:=BQ.Aw h (λi x=>by rcases i with _|_|_|i<;>simp)
def kf.c0:w.cell? ⟨g,0,am⟩=al (.bool s):=by unfold kf at h;simp[aC,h]
def kf.c1:w.cell? ⟨g,1,am⟩=al (.slice A n c):=by unfold kf at h;simp[aC,h]
def kf.c2:w.cell? ⟨g,2,am⟩=al (.int .i64 e):=by unfold kf at h;simp[aC,h]
def kf.fr i:w.frozen? ⟨g,i,am⟩=ac:=by unfold kf at h;simp[World.frozen?,h]
def kf.set s A n c' e:
 kf (((w.setCell ⟨g,0,am⟩<|.bool s).setCell ⟨g,1,am⟩<|.slice A n c').setCell ⟨g,2,am⟩<|.int .i64 e) g s A n c' e:=by
 have x:=heap_setCell_same w g 0 _ _ (.bool s) h;have k:=heap_setCell_same _ g 1 _ _ (.slice A n c') x;have y:=heap_setCell_same _ g 2 _ _ (.int .i64 e) k;exact y
end
def kf.wG{L k c'}(h:kf w g s A n c e)(z:Sl w k c' L)s' e' n' c2 A2:
 Sl (((w.setCell ⟨g,0,am⟩<|.bool s').setCell ⟨g,1,am⟩<|.slice A2 n' c2).setCell ⟨g,2,am⟩<|.int .i64 e') k c' L:=by
 have y:=heap_setCell_same w g 0 _ _ (.bool s') h;have u:=heap_setCell_same _ g 1 _ _ (.slice A2 n' c2) y;have v:BQ (w.setCell ⟨g,0,am⟩<|.bool s') g:=BQ.Aw y (λi x=>by rcases i with _|_|_|i<;>simp);have t:BQ ((w.setCell ⟨g,0,am⟩<|.bool s').setCell ⟨g,1,am⟩<|.slice A2 n' c2) g:=BQ.Aw u (λi x=>by rcases i with _|_|_|i<;>simp);exact((z.B4 h.nT _).B4 v _).B4 t _
def kf.vK{h}(b:jc h w)(x:h.heap.size<=g)s' A' n' c' e':
 jc h (((w.setCell ⟨g,0,am⟩<|.bool s').setCell ⟨g,1,am⟩<|.slice A' n' c').setCell ⟨g,2,am⟩<|.int .i64 e'):=
 ((b.setCell x _).setCell x _).setCell x _
end
def Xx:(prog.info? 31).map (·.size)=al 3:= aI 
section
variable{fn:Func}
def ar2{p}(h:fn.results = #[.cell p 31])tmps{w g n c s A e}(x:tmps.getD p undef = .pointer (al ⟨g,0,am⟩))(b:kf w g s A n c e):
 (results fn tmps).run prog w = .ok (.agg #[.bool s,.slice A n c,.int .i64 e]) w:=
 results_cell_row h tmps w g _ _ _ _ x b underlying31 rfl Xx
def ar3{p t}(h:fn.results = #[.cell p 31,.tmp t])tmps{w g n c s A e}(x:tmps.getD p undef = .pointer (al ⟨g,0,am⟩))(b:kf w g s A n c e):
 (results fn tmps).run prog w = .ok (.tuple #[.agg #[.bool s,.slice A n c,.int .i64 e],tmps.getD t undef]) w:=by
 have Z:tmps[p]?.getD undef = .pointer (al ⟨g,0,am⟩):=by simpa using x
 simp[results,h,Z,asAddr,run_loadVar_row w g _ _ _ _ _ b underlying31 rfl Xx]
def vX{p}(h:fn.results = #[.cell p 31]){a w W d g A c n}(x:a.tmps.getD p undef = .pointer (al ⟨g,0,am⟩))(k:a.defers=[])(b:kf W g d.neg A n c d.e)(y:n=(iy d.m).length)(s:Sl W A c<|iy d.m)(e:jc w W):
 bodyPost prog fn (xx w d) .ret a W:=by
 subst y;exact bodyPost_ret (ar2 h _ x b) k ⟨A,c,rfl,s,e⟩
def Gy{p t}(h:fn.results = #[.cell p 31,.tmp t]){a w W d k g A c n}(x:a.tmps.getD p undef = .pointer (al ⟨g,0,am⟩))(y:a.tmps.getD t undef = .int .i64 k)(z:a.defers=[])(b:kf W g d.neg A n c d.e)(u:n=(iy d.m).length)(s:Sl W A c<|iy d.m)(e:jc w W):
 bodyPost prog fn (BR w d k) .ret a W:=by
 subst u;exact bodyPost_ret ((ar3 h _ x b).trans<|by rw[y]) z ⟨A,c,rfl,s,e⟩
end
open Go.ChangeShapes Go.WideShapes Go.ChangeAt
def own:ownKnob prog.godebug=am:= aI 
def G7:laidOutB prog=aa:= aI 
def Ys:prog.globalNamed "math/bits.deBruijn32tab" = al 0:= aI 
def ak7:(prog.globals[0]?).map (·.type)=al 203:= aI 
def aiI:prog.cellsOf 203=32:= aI 
def aiH:prog.cellsOf 5=1:= aI 
def aiG:prog.cellsOf 110=1:= aI 
def auE{l}(k:l=[("math/bits.deBruijn32tab", Rows.laid_math_bits_deBruijn32tab)]){W}(h:laidMet prog l W):Tb W:=by
 subst k;have t:Lib.TabIs prog W "math/bits.deBruijn32tab" .u8<|Lib.deBruijn32tab.map λ(n:Nat)=>(n:Int):=
  Lib.tabIs_of_head (rest:=[]) Ys ak7 underlying203 underlying5 aiH aiI h
 intro j x;have:=t.cell Ys j (by simpa using x);rw[this];simp[bB];rw[bH x];simp
def amU{n}(h:(Lit.int .i64 n).wf=aa):-9223372036854775808<=n/\n<=9223372036854775807:=by
 have x:IntKind.i64.min = -9223372036854775808:=rfl;have k:IntKind.i64.max=9223372036854775807:=rfl;simp[Lit.wf,x,k]at h;omega
def apJ{H enc W f c}{x:DataW H×List MemPlace}(h:DataW.trod enc prog W 0 (λ_=>aa) aa f 29 [c]=al x)(_hlt:∀ p ∈ x.2,p.block<W.heap.size):
 ∃ A L cap,c = .slice A L.length cap/\Sl W A cap L:=by
 rcases open_ints underlying29 underlying110 aiG h with⟨P,t⟩|⟨a,l,cap,v,P,_,j,m,r,t,D,w⟩
 .simp at P;exact⟨am,[],0,P,Sl.nil W⟩
 .simp at P;simp only[bK]at r;refine⟨al a,(v.take l).map Int.toNat,cap,?_,?_⟩
  .rw [P,cI,cz,dE U]
  .have Z:∀ n ∈ v,0<=n/\n<4294967296:=λn g=>by
    have:=w n g;have e:IntKind.u32.min=0:=rfl;have d:IntKind.u32.max=4294967295:=rfl;simp[Lit.wf,e,d]at this;omega
   refine⟨by rw[cI,cz];omega,by simpa[maxLen]using m,?_,(λh=>by cases h),?_⟩
   .intro y k;obtain⟨z,V,rfl⟩:=dF.1 k;have:=Z z<|fm V;omega
   .intro i y k;rw[cQ]at k;obtain⟨z,V,rfl⟩:=dc.1 k;rw[eW]at V;split at V
    .rename_i X;have u:=D i U;rw[bB,V]at u;have⟨b,o,s⟩:=a;have R:s=am:=by
      rcases s with _|q
      .rfl
      .exfalso;have Q:=D 0 U;rw[show(⟨b,o,al q⟩:az).add 0=⟨b,o,al q⟩from rfl]at Q;unfold aC at Q;split at Q<;>simp at Q
     subst R;refine⟨b,o,rfl,?_,?_⟩
     .have:=block_lt_of_cell u;rwa[ahE]at this
     .rw [Et]at u;rw[u];have:=Z z<|dX V;simp;omega
    .cases V
def aa5{x:Type}{l:List x}(h:l.length=3):∃ a b c,l=[a,b,c]:=by
 match l,h with
 | [a,b,c],_=>exact⟨a,b,c,rfl⟩
def an8{x:Type}{l:List x}(h:l.length=7):∃ a b c d e f g,l=[a,b,c,d,e,f,g]:=by
 match l,h with
 | [a,b,c,d,e,f,g],_=>exact⟨a,b,c,d,e,f,g,rfl⟩
def apG{H enc W f cs}{x:DataW H×List MemPlace}(h:DataW.trod enc prog W 0 (λ_=>aa) aa f 31 cs=al x)(i:∀ p ∈ x.2,p.block<W.heap.size):
 ∃ s A L cap e,cs=[.bool s,.slice A L.length cap,.int .i64 e]/\Sl W A cap L/\(-9223372036854775808<=e/\e<=9223372036854775807):=by
 obtain⟨m,n,rfl,rfl,l,Q,u⟩:=DataW.trod_struct underlying31 h;have C:prog.cellsOf 31=3:= aI ;have B:prog.cellsOf 4=1:= aI ;have S:prog.cellsOf 29=1:= aI ;have I:prog.cellsOf 3=1:= aI ;rw[C]at l;obtain⟨a,b,c,rfl⟩:=aa5 l;have k:=u 0 _ rfl;have y:=u 1 _ rfl;have z:=u 2 _ rfl;simp only[fW,fX,eV]at k y z;simp only[B,S,I,fY,fZ,fo,gh]at k y z;rw[bH<|by rw[Q];decide]at k y z;have⟨s,v,_⟩:=DataW.trod_bool underlying4 k;have⟨A,L,cap,r,J⟩:=apJ y λp q=>i p<|eZ.2 ⟨_,cT _,q⟩;have⟨e,t,_,w⟩:=DataW.trod_int underlying3 z;simp at v t;subst v t r;exact⟨s,A,L,cap,e,rfl,J,amU w⟩
noncomputable def Sv(s:Os)(a:Array av):ap:=
 {World.holding prog s ⟨#[],a,[]⟩with heap:=(World.holding prog s ⟨#[],a,[]⟩).heap.modify 0 fun
   | .cells _ t frozen=>.cells (Lib.deBruijn32tab.map λ(n:Nat)=>Value.int .u8 (n:Int)).toArray t frozen
   |o=>o }
end Go.Proofs.YthalchiobglflaaGreatDoor
namespace Go.Proofs.YthalchiobglflaaGreatDoor.Pu
open Go.RowKit
inductive E where
 |any
 |v (x:Value)
 |agg (l:List E)
 |iO (l:List E)
 |sl (nl:Bool) (n sz:Nat) (el:Nat->Nat->E)
 |jE (m:Nat) (el:Nat->E)
 |fn (f:FuncId) (cap:List E)
 |mp (l:List<|Int×FuncId×List FuncId)
 |mT (fl nl:Bool) (n sz:Nat) (el:Nat->Nat->E)
 |lF (x:Value) (e:E)
def qI:av->Bool
 | .int .u32 _=>aa
 |_=>ac
def E.nr:Nat->E->Bool
 |_,.any=>aa
 |_,.v _=>aa
 |_,.sl ..=>aa
 |_,.mp _=>aa
 |d+1,.agg l=>l.all<|E.nr d
 |d+1,.iO l=>l.all<|E.nr d
 |d+1,.fn _ l=>l.all<|E.nr d
 |d+1,.lF _ e=>e.nr d
 |_,_=>ac
def zQ(bs:Nat->Nat->Prop)(w:ap):List (Int×ax×List ax)->List MapEntry->Prop
 | [],[]=>True
 |x::l,e::es=>(e.key = .int .i64 x.1/\∃ s:List av,e.val = .func (.func x.2.1) #[] s.toArray/\s.length=x.2.2.length /\
  ∀ (i:Nat) (g:ax) (v:av),x.2.2[i]? = al g->s[i]? = al v->∃ b,v = .pointer (al ⟨b,0,am⟩)/\¬bs b 0/\b<w.heap.size/\w.cell? ⟨b,0,am⟩=al (.func (.func g) #[] #[]))/\zQ bs w l es
 |_,_=>False
def zQ.mono{bs bs' w w'}(k:w.heap.size<=w'.heap.size)(y:∀ b o,b<w.heap.size->bs' b o->bs b o)(c:∀ b o,b<w.heap.size->¬bs b o->w'.heap[b]? = w.heap[b]?):
 ∀ {l:List<|Int×ax×List ax} {e:List MapEntry},zQ bs w l e->zQ bs' w' l e
 | [],[],_=>trivial
 | [],_::_,h=>h
 |_::_,[],h=>h
 |_::_,_::_,⟨⟨u,s,t,r,p⟩,h⟩=>⟨⟨u,s,t,r,λi g v n m=>by
  have⟨b,f,z,q,d⟩:=p i g v n m;exact⟨b,f,λx=>z<|y b 0 q x,bJ q k,by rw[World.cell?_of_block (w:=w)<|c b 0 q z];exact d⟩⟩,zQ.mono k y c h⟩
inductive z(bs:Nat->Nat->Prop)(br:Nat->Prop)(w:World):E->Value->Prop
 |any (x:Value):z bs br w .any x
 |v (x:Value):z bs br w (.v x) x
 |agg (l:List E) (vs:List Value) (h:vs.length=l.length) (k:∀ (i:Nat) (p:E) (x:Value),l[i]? = some p->vs[i]? = some x->z bs br w p x):z bs br w (.agg l)<|.agg vs.toArray
 |iO (l:List E) (vs:List Value) (h:vs.length=l.length) (k:∀ (i:Nat) (p:E) (x:Value),l[i]? = some p->vs[i]? = some x->z bs br w p x):z bs br w (.iO l)<|.tuple vs.toArray
 |sl (nl:Bool) (n sz:Nat) (el:Nat->Nat->E) (A:Option Addr) (c:Nat) (f:Nat->Nat->Value) (hc:n<=c) (hm:c<=9223372036854775807) (h0:A=none->c=0)
  (hl:∀ i j,i<n->j<sz->(f i j).oneCell'=true/\(nl=true->qI (f i j)=false))
  (hr:∀ i j,i<n->j<sz->(el i j).nr 2=true)
  (cell:∀ i j,i<n->j<sz->∃ b o,A=some ⟨b,o,none⟩/\¬bs b (o+(i*sz+j))/\b<w.heap.size/\w.cell? ⟨b,o+(i*sz+j),none⟩=some (f i j))
  (k:∀ i j,i<n->j<sz->z bs br w (el i j) (f i j)):z bs br w (.sl nl n sz el)<|.slice A n c
 |jE (m:Nat) (el:Nat->E) (b o:Nat) (f:Nat->Value) (hb:¬br b) (iV:b<w.heap.size) (hl:∀ j,j<m->(f j).oneCell'=true)
  (cell:∀ j,j<m->w.cell? ⟨b,o+j,none⟩=some (f j))
  (k:∀ j,j<m->z bs br w (el j) (f j)):z bs br w (.jE m el)<|.pointer<|some ⟨b,o,none⟩
 |fn (f:FuncId) (l:List E) (vs:List Value) (h:vs.length=l.length) (k:∀ (i:Nat) (p:E) (x:Value),l[i]? = some p->vs[i]? = some x->z bs br w p x):z bs br w (.fn f l)<|.func (.func f) #[] vs.toArray
 |mp (l:List<|Int×FuncId×List FuncId) (b clk:Nat) (es:Array MapEntry) (hb:¬bs b 0) (iV:b<w.heap.size) (hh:w.heap[b]? = some (.map es clk)) (ho:zQ bs w l es.toList):z bs br w (.mp l)<|.map<|some b
 |mT (fl nl:Bool) (n sz:Nat) (el:Nat->Nat->E) (A:Option Addr) (c:Nat) (f:Nat->Nat->Value) (hc:n<=c) (hm:c<=9223372036854775807) (h0:A=none->c=0)
  (hl:∀ i j,i<n->j<sz->(f i j).oneCell'=true/\(nl=true->qI (f i j)=false))
  (hr:fl=true->∀ i j,i<n->j<sz->(el i j).nr 2=true)
  (cell:∀ i j,i<n->j<sz->∃ b o,A=some ⟨b,o,none⟩/\¬br b/\b<w.heap.size/\w.cell? ⟨b,o+(i*sz+j),none⟩=some (f i j))
  (k:∀ i j,i<n->j<sz->z bs br w (el i j) (f i j)):z bs br w (.mT fl nl n sz el)<|.slice A n c
 |lF (e:E) (v:Value) (h:z bs br w e v):z bs br w (.lF v e) v
def z.mono{bs bs' br br' w w'}(F:w.heap.size<=w'.heap.size)(d:∀ b o,b<w.heap.size->bs' b o->bs b o)(Q:∀ b,b<w.heap.size->br' b->br b)(t:∀ b,b<w.heap.size->((∃ o,¬bs b o)\/¬br b)->w'.heap[b]? = w.heap[b]?){e v}(h:z bs br w e v):z bs' br' w' e v:=by
 induction h with
 |any x=>exact .any x
 |v x=>exact .v x
 |agg l s h k C=>exact .agg l s h C
 |iO l s h k C=>exact .iO l s h C
 |sl a n X r A c f Y Z U q T y k C=>
  refine .sl a n X r A c f Y Z U q T (λi j S p=>?_) C;have⟨b,o,e,u,V,D⟩:=y i j S p;exact⟨b,o,e,λg=>u<|d b _ V g,bJ V F,by rw[World.cell?_of_block (w:=w)<|t b V<|.inl ⟨_,u⟩];exact D⟩
 |jE m r b o f u V q y k C=>
  exact .jE m r b o f (λg=>u<|Q b V g) (bJ V F) q (λj p=>by rw[World.cell?_of_block (w:=w)<|t b V<|.inr u];exact y j p) C
 |fn f l s h k C=>exact .fn f l s h C
 |mp l b R P u V N M=>exact .mp l b R P (λx=>u<|d b 0 V x) (bJ V F) (by rw[t b V<|.inl ⟨_,u⟩];exact N)<|M.mono F d λb o V u=>t b V<|.inl ⟨o,u⟩
 |mT L a n X r A c f Y Z U q T y k C=>
  refine .mT L a n X r A c f Y Z U q T (λi j S p=>?_) C;have⟨b,o,e,u,V,D⟩:=y i j S p;exact⟨b,o,e,λg=>u<|Q b V g,bJ V F,by rw[World.cell?_of_block (w:=w)<|t b V<|.inr u];exact D⟩
 |lF e v h C=>exact .lF _ _ C
def z.qS{bs bs' br br' w}(x:∀ b o,bs' b o->bs b o)(k:∀ b,br' b->br b){e v}(h:z bs br w e v):z bs' br' w e v:=
 h.mono (bA _) (λb o _=>x b o) (λb _=>k b) (λ_ _ _=>rfl)
def E.plain:Nat->E->Bool
 |_,.any=>aa
 |_,.v _=>aa
 |d+1,.agg l=>l.all<|E.plain d
 |d+1,.iO l=>l.all<|E.plain d
 |_,_=>ac
def z.plain{bs bs' br br' w w' e v}(h:z bs br w e v):∀ d,e.plain d=aa->z bs' br' w' e v:=by
 induction h with
 |any x=>exact λ_ _=>.any x
 |v x=>exact λ_ _=>.v x
 |agg l s h k u=>
  intro d y;cases d with
  |zero=>simp[E.plain]at y
  |succ d=>
   simp only[E.plain,bZ]at y;exact .agg l s h λi p x r t=>u i p x r t d<|y p<|dX r
 |iO l s h k u=>
  intro d y;cases d with
  |zero=>simp[E.plain]at y
  |succ d=>
   simp only[E.plain,bZ]at y;exact .iO l s h λi p x r t=>u i p x r t d<|y p<|dX r
 |sl=>intro d y;cases d<;>simp[E.plain]at y
 |jE=>intro d y;cases d<;>simp[E.plain]at y
 |fn=>intro d y;cases d<;>simp[E.plain]at y
 |mp=>intro d y;cases d<;>simp[E.plain]at y
 |mT=>intro d y;cases d<;>simp[E.plain]at y
 |lF=>intro d y;cases d<;>simp[E.plain]at y
def z.nr{bs br br' w e v}(h:z bs br w e v):∀ d,e.nr d=aa->z bs br' w e v:=by
 induction h with
 |any x=>exact λ_ _=>.any x
 |v x=>exact λ_ _=>.v x
 |agg l s h k M=>
  intro d y;cases d with
  |zero=>simp[E.nr]at y
  |succ d=>
   simp only[E.nr,bZ]at y;exact .agg l s h λi p x u t=>M i p x u t d<|y p<|dX u
 |iO l s h k M=>
  intro d y;cases d with
  |zero=>simp[E.nr]at y
  |succ d=>
   simp only[E.nr,bZ]at y;exact .iO l s h λi p x u t=>M i p x u t d<|y p<|dX u
 |fn f l s h k M=>
  intro d y;cases d with
  |zero=>simp[E.nr]at y
  |succ d=>
   simp only[E.nr,bZ]at y;exact .fn f l s h λi p x u t=>M i p x u t d<|y p<|dX u
 |jE=>intro d y;cases d<;>simp[E.nr]at y
 |mT=>intro d y;cases d<;>simp[E.nr]at y
 |lF e v h M=>
  intro d y;cases d with
  |zero=>simp[E.nr]at y
  |succ d=>exact .lF _ _<|M d<|by simpa[E.nr]using y
 |mp l b q o X V Y Z=>exact λ_ _=>.mp l b q o X V Y Z
 |sl U n T S A c f R Q P N m r k M=>
  exact λ_ _=>.sl U n T S A c f R Q P N m r λi j g a=>M i j g a 2<|m i j g a
def E.one:E->Bool
 | .v x=>x.oneCell'
 | .sl ..=>aa
 | .jE ..=>aa
 | .fn ..=>aa
 | .lF (.slice ..) _=>aa
 |_=>ac
def E.nT:E->Bool
 | .v x=>!qI x
 | .sl ..=>aa
 | .jE ..=>aa
 | .fn ..=>aa
 | .lF (.slice ..) _=>aa
 |_=>ac
def z.one{bs br w e v}(h:z bs br w e v)(x:e.one=aa):v.oneCell'=aa:=by
 cases h with
 |lF e v h=>cases v<;>first|rfl|(simp[E.one]at x)
 |_=>first|exact x|rfl|(simp[E.one]at x)
def z.nT{bs br w e v}(h:z bs br w e v)(x:e.nT=aa):qI v=ac:=by
 cases h with
 |v=>unfold E.nT at x;cases hb:qI v<;>simp_all
 |any=>cases x
 |agg=>cases x
 |iO=>cases x
 |sl=>rfl
 |jE=>rfl
 |fn=>rfl
 |mp=>cases x
 |mT=>cases x
 |lF e v h=>cases v<;>first|rfl|(cases x;done)
structure lf(bs:Nat->Nat->Prop)(br:Nat->Prop)(w:World)(l:List E)(vs:List Value):Prop where
 len:vs.length=l.length
 kP:∀ (i:Nat) (p:E) (x:Value),l[i]? = some p->vs[i]? = some x->z bs br w p x
def lf.nil bs br w:lf bs br w [] []:=⟨rfl,λi p x h=>by simp at h⟩
section
variable{bs:Nat->Nat->Prop}{br:Nat->Prop}{w:ap}
section
variable{p:E}{x:av}{l:List E}{vs:List av}
def lf.cons(h:z bs br w p x)(k:lf bs br w l vs):lf bs br w (p::l)<|x::vs:=
 ⟨by simp[k.len],λi q y v u=>by
  cases i with
  |zero=>simp at v u;subst v u;exact h
  |succ i=>simp at v u;exact k.kP i q y v u⟩
section
variable(h:lf bs br w (p::l)<|x::vs)
def lf.head:z bs br w p x:=h.kP 0 p x rfl rfl
def lf.tail:lf bs br w l vs:=
 ⟨by have:=h.len;simpa using this,λi q y x k=>h.kP (i+1) q y (by simpa using x)<|by simpa using k⟩
end
end
def lf.nm{p l vs}(h:lf bs br w (p::l) vs):∃ x ys,vs=x::ys/\z bs br w p x/\lf bs br w l ys:=by
 cases vs with
 |nil=>have:=h.len;simp at this
 |cons x ys=>exact⟨x,ys,rfl,h.head,h.tail⟩
def lf.sj{vs}(h:lf bs br w [] vs):vs=[]:=dM h.len
end
def lf.mono{bs bs' br br' w w' l vs}(h:lf bs br w l vs)(k:∀ e v,z bs br w e v->z bs' br' w' e v):lf bs' br' w' l vs:=
 ⟨h.len,λi p x y u=>k _ _<|h.kP i p x y u⟩
def lf.take{bs br w l vs}(h:lf bs br w l vs)n:lf bs br w (l.take n)<|vs.take n:=
 ⟨by simp[h.len],λi p x k y=>by
  rw[eW]at k y;split at k
  .rename_i z;rw[bt z]at y;exact h.kP i p x k y
  .cases k⟩
def lf.drop{bs br w l vs}(h:lf bs br w l vs)n:lf bs br w (l.drop n)<|vs.drop n:=
 ⟨by simp[h.len],λi p x k y=>by
  rw[e9]at k y;exact h.kP _ p x k y⟩
def lf.app{bs br w l m vs s}(h:lf bs br w l vs)(k:lf bs br w m s):lf bs br w (l++m)<|vs++s:=
 ⟨by simp[h.len,k.len],λi p x z y=>by
  rw[eu]at z y;rw[h.len]at y;split at z
  .rename_i u;rw[bt u]at y;exact h.kP i p x z y
  .rename_i u;rw[bn u]at y;exact k.kP _ p x z y⟩
def lf.ajf bs br w vs:lf bs br w (vs.map .v) vs:=
 ⟨aK,λi p x h k=>by
  rw[cQ,k]at h;simp at h;subst h;exact .v x⟩
section
variable{bs:Nat->Nat->Prop}{br:Nat->Prop}{w:ap}
def z.Eu{l v}(h:z bs br w (.agg l) v):∃ vs:List av,v = .agg vs.toArray/\lf bs br w l vs:=by
 cases h with
 |agg _ vs h k=>exact⟨vs,rfl,h,k⟩
def z.afx{l v}(h:z bs br w (.iO l) v):∃ vs:List av,v = .tuple vs.toArray/\lf bs br w l vs:=by
 cases h with
 |iO _ vs h k=>exact⟨vs,rfl,h,k⟩
def z.Kz{x v e}(h:z bs br w (.lF x e) v):v=x/\z bs br w e v:=by
 cases h with
 |lF _ _ h=>exact⟨rfl,h⟩
def z.lr{x v}(h:z bs br w (.v x) v):v=x:=by cases h;rfl
def z.Yi{f l v}(h:z bs br w (.fn f l) v):∃ vs:List av,v = .func (.func f) #[] vs.toArray/\lf bs br w l vs:=by
 cases h with
 |fn _ _ vs h k=>exact⟨vs,rfl,h,k⟩
end
def lf.agg{bs br w l vs}(h:lf bs br w l vs):z bs br w (.agg l)<|.agg vs.toArray:=.agg l vs h.len h.kP
def lf.iO{bs br w l vs}(h:lf bs br w l vs):z bs br w (.iO l)<|.tuple vs.toArray:=.iO l vs h.len h.kP
def E.cells?:E->Option (List E)
 | .agg l=>if l.all E.one then al l else am
 | .v (.agg cs)=>if cs.toList.all Value.oneCell' then al (cs.toList.map .v)else am
 | .v x=>if x.oneCell' then al [.v x]else am
 | .sl nl n sz el=>al [.sl nl n sz el]
 | .jE m el=>al [.jE m el]
 | .fn f c=>al [.fn f c]
 | .lF (.slice A n c) e=>al [.lF (.slice A n c) e]
 |_=>am
def z.cells{bs br w e v}(h:z bs br w e v){l}(y:e.cells? = al l):
 lf bs br w l v.cells.toList/\∀ u ∈ v.cells.toList,u.oneCell'=aa:=by
 have s:∀ {e:E} {v:av},z bs br w e v->v.oneCell'=aa->v.cells = #[v]->lf bs br w [e] v.cells.toList/\∀ u ∈ v.cells.toList,u.oneCell'=aa:=by
  intro e v h t q;rw[q];exact⟨.cons h<|.nil _ _ _,by simpa using t⟩
 cases h with
 |any x=>simp[E.cells?]at y
 |v=>
  by_cases a:∃ j,v = .agg j
  .obtain ⟨j,rfl⟩:=a;simp only[E.cells?]at y;split at y
   .rename_i t;cases y;exact⟨lf.ajf _ _ _ _,λu p=>bZ.1 t u p⟩
   .cases y
  .have Z:(E.v v).cells? = if v.oneCell' then al [.v v]else am:=by
    cases v<;>first|rfl|exact absurd ⟨_,rfl⟩ a
   rw[Z]at y;split at y
   .rename_i t;cases y;exact s (.v v) t<|by cases v<;>first|rfl|exact absurd ⟨_,rfl⟩ a
   .cases y
 |agg l X h k=>
  simp only[E.cells?]at y;split at y
  .rename_i t;cases y;refine⟨⟨h,k⟩,?_⟩;intro u p;have⟨i,r⟩:=dJ.1 p;have Y:i<l.length:=by
    have⟨r,_⟩:=cF.1 r;simp[aL]at r;omega
   exact(k i _ u (bH Y)<|by simpa[aL]using r).one<|bZ.1 t _<|cT Y
  .cases y
 |iO=>simp[E.cells?]at y
 |mp=>simp[E.cells?]at y
 |mT=>simp[E.cells?]at y
 |lF e v h=>cases v<;>first|(simp[E.cells?]at y;done)|(simp only[E.cells?]at y;cases y;exact s (.lF _ _ h) rfl rfl)
 |sl U n V g A c f q T S d R M k=>simp only[E.cells?]at y;cases y;exact s (.sl U n V g A c f q T S d R M k) rfl rfl
 |jE m g b o f Q P d M k=>simp only[E.cells?]at y;cases y;exact s (.jE m g b o f Q P d M k) rfl rfl
 |fn f N X h k=>simp only[E.cells?]at y;cases y;exact s (.fn f N X h k) rfl rfl
structure TI where
 id:TypeId
 d:TypeDesc
 i:TypeInfo
def mP(P:aw)(T:List TI):Prop:=∀ x,x ∈ T->P.underlying x.id=al x.d/\P.info? x.id=al x.i
def mS:List TI->ay->Option TI
 | [],_=>am
 |x::l,t=>if a2 x.id t then al x else mS l t
def Aa(T:List TI)(t:ay):Option TypeDesc:=match mS T t with
 |some x=>al x.d
 |none=>am
def TI.isAgg(x:TI):Bool:=match x.d with
 | .struct _ | .array _ _=>aa
 |_=>ac
inductive CV where
 |e (x:E)
 |box (id:Nat)
 |row (id:Nat)
inductive PV where
 |e (x:E)
 |box (id off:Nat)
 |own (id:Nat)
 |oe (id sz i j:Nat)
 |jg (id k:Nat)
 |rK (id sz k i j:Nat)
 |qC (f:FuncId) (cap:List CV)
def CV.mK:CV->List Nat
 | .e _=>[]
 | .box id=>[id]
 | .row id=>[id]
def PV.mK:PV->List Nat
 | .e _=>[]
 | .box id _ | .own id | .oe id _ _ _ | .jg id _ | .rK id _ _ _ _=>[id]
 | .qC _ cap=>cap.flatMap CV.mK
inductive Bx where
 |cells (T:TypeId) (l:List E)
 |row (nl:Bool) (T:TypeId) (n sz:Nat) (el:Nat->Nat->E)
 |kn (nl:Bool) (T1 T0:TypeId) (n sz:Nat) (len:Nat->Nat) (el:Nat->Nat->Nat->E) (pend:Option Nat)
def Bx.nl:Bx->Bool
 | .cells _ l=>l.all E.nT
 | .row nl ..=>nl
 | .kn nl ..=>nl
structure PS where
 n:Nat
 nl:Bool
 t:List<|Nat×PV
 b:List<|Nat×Bx
def look{h:Type}:List (Nat×h)->Nat->Option h
 | [],_=>am
 | (k,x)::l,t=>if a2 k t then al x else look l t
def PS.get(σ:PS)(t:Nat):PV:=(look σ.t t).getD<|.e .any
def PS.bo(σ:PS)(id:Nat):Option Bx:=look σ.b id
def PS.op(σ:PS):Operand->PV
 | .tmp t=>σ.get t
 | .const v=>.e<|.v v
 | .global g=>.e<|.v<|.pointer<|al ⟨g,0,am⟩
 | .func f=>.e<|.fn f []
inductive s5 where
 |none
 |new (id:Nat) (b:Bx)
 |wH (id:Nat) (b:Bx)
 |sw (id:Nat) (b:Bx)
 |xG (id:Nat) (b:Bx)
 |fin (id:Nat)
 |tR (id r:Nat) (b:Bx)
 |Ed (id:Nat) (b:Bx)
structure kZ where
 r:PV
 f:s5:=.none
 rb:List Nat:=[]
 ki:List Prop:=[]
 rd:List PV:=[]
def CV.JW(id:Nat):CV->Bool
 | .row i=>a2 i id
 |_=>ac
def PV.oN:s5->PV->PV
 | .sw id _,.own i=>if a2 i id then .e .any else .own i
 | .sw id _,.oe i s x j=>if a2 i id then .e .any else .oe i s x j
 | .sw id _,.qC f cap=>if cap.any (CV.JW id)then .e .any else .qC f cap
 | .xG id _,.jg i k=>if a2 i id then .e .any else .jg i k
 | .xG id _,.rK i s k x j=>if a2 i id then .e .any else .rK i s k x j
 | .fin id,p=>if p.mK.any (a2 id)then .e .any else p
 | .Ed id _,p=>if p.mK.any (a2 id)then .e .any else p
 | .tR id r _,.box i off=>if a2 i id then(if a2 off 0 then .oe id 1 0 0 else .e .any)else if a2 i r then .e .any else .box i off
 | .tR id r _,p=>if p.mK.any (λx=>a2 id x||a2 r x)then .e .any else p
 |_,p=>p
def tV(l:List<|Nat×Bx)(id:Nat)(b:Bx):List<|Nat×Bx:=(id,b)::l.filter λx=>!a2 x.1 id
def s5.PD:s5->List (Nat×Bx)->List (Nat×Bx)
 | .none,l=>l
 | .new id b,l | .wH id b,l | .sw id b,l | .xG id b,l | .Ed id b,l=>tV l id b
 | .fin id,l=>l.filter λx=>!a2 x.1 id
 | .tR id r b,l=>tV (l.filter λx=>!a2 x.1 r) id b
def s5.O4:s5->Bool
 | .sw .. | .xG .. | .fin .. | .tR .. | .Ed ..=>aa
 |_=>ac
def PS.pG(σ:PS)(f:s5):PS:={ σ with t:=if f.O4 then σ.t.map λx=>(x.1,x.2.oN f)else σ.t,b:=f.PD σ.b }
def PS.put(σ:PS)(d:Option Tmp)(p:PV):PS:=match d with
 |some d=>{ σ with t:=(d,p)::σ.t.filter λx=>!a2 x.1 d }
 |none=>σ
def lN:IntKind->Int->Prop
 | .i8,z=>-128<=z/\z<=127
 | .i16,z=>-32768<=z/\z<=32767
 | .i32,z=>-2147483648<=z/\z<=2147483647
 | .i64,z=>-9223372036854775808<=z/\z<=9223372036854775807
 | .u8,z=>0<=z/\z<=255
 | .u16,z=>0<=z/\z<=65535
 | .u32,z=>0<=z/\z<=4294967295
 | .u64,z=>0<=z/\z<=18446744073709551615
def ad2(o:BinOp)(k k':IntKind):Bool:=match o with
 | .shl=>aa
 | .shr=>aa
 |_=>decide (k=k')
def Po(k:IntKind)(x y:Int):Int:=match k with
 | .u32=>IntKind.u32.wrap<|x+y
 |_=>x+y
def Vb(k:IntKind)(x y:Int):List Prop:=match k with
 | .u32=>[]
 |_=>[lN k<|x+y]
def Qm(o:BinOp)(k:IntKind)(x:Int)(y:Int):Option<|av×List Prop:=match o with
 | .add=>al (.int k<|Po k x y,Vb k x y)
 | .sub=>al (.int k<|x-y,[lN k<|x-y])
 | .mul=>al (.int k<|x*y,[lN k<|x*y])
 | .quo=>al (.int k<|x.tdiv y,[0<y,lN k x])
 | .rem=>al (.int k<|x.tmod y,[0<y])
 | .and=>al (.int k<|bits .and k x y,[])
 | .or=>al (.int k<|bits .or k x y,[])
 | .andNot=>al (.int k<|bits .andNot k x y,[])
 | .shl=>al (.int k<|k.wrap<|x*2^y.toNat,[0<=y/\y<=k.bits])
 | .shr=>al (.int k<|x/2^y.toNat,[0<=y/\y<=k.bits])
 | .eql=>al (.bool<|x==y,[])
 | .neq=>al (.bool<|x != y,[])
 | .lss=>al (.bool<|decide (x<y),[])
 | .leq=>al (.bool<|decide (x<=y),[])
 | .gtr=>al (.bool<|decide (y<x),[])
 | .geq=>al (.bool<|decide (y<=x),[])
 |_=>am
def PS.read(σ:PS)(p:PV)(m:Nat):Option<|List E×List Nat×List Prop:=match p with
 | .box id off=>match σ.bo id with
  |some (.cells _ l)=>if ba (off+m) l.length then al ((l.drop off).take m,[id],[])else am
  |_=>am
 | .oe id sz i j=>match σ.bo id with
  |some (.row _ _ n s el)=>if a2 s sz&&ba (j+m) sz then al ((be m).map λq=>el i<|j+q,[id],[i<n])else am
  |_=>am
 | .rK id sz k i j=>match σ.bo id with
  |some (.kn _ _ _ n s len el _)=>if a2 s sz&&ba (j+m) sz then al ((be m).map λq=>el k i<|j+q,[id],[k<n,i<len k])else am
  |_=>am
 | .e (.jE k el)=>if ba m k then al ((be m).map el,[],[])else am
 |_=>am
def CV.ext(σ:PS):CV->Option (E×List Nat)
 | .e x=>al (x,[])
 | .box id=>match σ.bo id with
  |some (.cells _ l)=>al (.jE l.length λj=>l.getD j .any,[id])
  |_=>am
 | .row id=>match σ.bo id with
  |some (.kn nl _ _ n sz len el am)=>if a2 n 1 then al (.jE 1 λ_=>.sl nl (len 0) sz<|el 0,[id])else am
  |_=>am
def CV.JV:CV->Bool
 | .row _=>aa
 |_=>ac
def xE(σ:PS):List CV->Option (List E×List Nat)
 | []=>al ([],[])
 |c::l=>match c.ext σ,xE σ l with
  |some (x,i),al (xs,is)=>al (x::xs,i++is)
  |_,_=>am
def PV.zg(σ:PS):PV->Bool
 | .own id=>match σ.bo id with
  |some (.kn ..)=>ac
  |_=>aa
 | .jg _ _=>aa
 | .qC _ cap=>cap.any CV.JV
 |_=>ac
def PV.ext(σ:PS):PV->Option (E×List Nat)
 | .e x=>al (x,[])
 | .own id=>match σ.bo id with
  |some (.row nl _ n sz el)=>al (.sl nl n sz el,[id])
  |some (.kn nl _ _ n sz len el am)=>al (.mT ac aa n 1 λk _=>.mT aa nl (len k) sz<|el k,[id])
  |_=>am
 | .box id 0=>match σ.bo id with
  |some (.cells _ l)=>al (.jE l.length λj=>l.getD j .any,[id])
  |_=>am
 | .jg id k=>match σ.bo id with
  |some (.kn nl _ _ n sz len el am)=>if Nat.blt k n then al (.sl nl (len k) sz<|el k,[id])else am
  |_=>am
 | .qC f cap=>match xE σ cap with
  |some (xs,is)=>al (.fn f xs,is)
  |none=>am
 |_=>am
def wM(σ:PS):List Operand->Option (List E×List Nat)
 | []=>al ([],[])
 |o::l=>match(σ.op o).ext σ,wM σ l with
  |some (x,i),al (xs,is)=>al (x::xs,i++is)
  |_,_=>am
def zZ:List PV->Option (List CV)
 | []=>al []
 | .e x::l=>(zZ l).map (.e x :: ·)
 | .box id 0::l=>(zZ l).map (.box id :: ·)
 | .oe id sz i j::l=>if a2 sz 1&&a2 i 0&&a2 j 0 then(zZ l).map (.row id :: ·)else am
 |_::_=>am
def pR(w:ap)(b:Nat):Prop:=∀ o x,w.cell? ⟨b,o,am⟩≠al (.int .u32 x)
structure PC(P:Program)(K:World->Prop)(f:FuncId)(args:List E)(j9:E):Prop where
 call:∀ (vs:Array Value) (w:World),(callFunc f vs).run P w = .ok (.enter f vs) w
 run:∀ (w:World) (B:Nat->Nat->Prop) (vs:List Value),K w->(∀ b o,B b o->b<w.heap.size/\pR w b)->lf B (λ_=>False) w args vs ->
  Calls P f vs.toArray w (λe w'=>∃ v,e = .returned v/\Below w.heap.size w w'/\z B (λ_=>True) w' j9 v)
structure Er(P:Program)(K:World->Prop)(f:FuncId)(args:List E)(j9:E):Prop where
 call:∀ (vs:Array Value) (w:World),(callFunc f vs).run P w = .ok (.enter f vs) w
 run:∀ (w:World) (B:Nat->Nat->Prop) (vs:List Value),K w->(∀ b o,B b o->b<w.heap.size)->lf B (λ_=>False) w args vs ->
  Calls P f vs.toArray w (λe w'=>∃ v,e = .returned v/\Below w.heap.size w w'/\z B (λ_=>True) w' j9 v)
def Er.pc{P K f a j}(h:Er P K f a j):PC P K f a j:=
 ⟨h.call,λw B v x k r=>h.run w B v x (λb o y=>(k b o y).1) r⟩
def nU(w:ap)(v:av)(T:ay)(n sz:Nat)(f:Nat->Nat->av)(nl:Bool):Prop:=
 (v = .slice am 0 0/\n=0) \/
 ∃ (b o c:Nat) (h:Array av),v = .slice (al ⟨b,o,am⟩) n c/\w.heap[b]? = al (.cells h T (0,0))/\n<=c/\c<=maxLen/\o+c*sz<=h.size /\
  (∀ i j,i<n->j<sz->h[o+(i*sz+j)]? = al (f i j)/\(f i j).oneCell'=aa)/\(nl=aa->∀ u,u ∈ h->qI u=ac)
structure wJ(P:Program)(K:World->Prop)(f:FuncId)(args:List E)(nl:Bool)(T:TypeId)(n sz:Nat)(el:Nat->Nat->E):Prop where
 call:∀ (vs:Array Value) (w:World),(callFunc f vs).run P w = .ok (.enter f vs) w
 run:∀ (w:World) (B:Nat->Nat->Prop) (vs:List Value),K w->(∀ b o,B b o->b<w.heap.size/\pR w b)->lf B (λ_=>False) w args vs ->
  Calls P f vs.toArray w (λe w'=>∃ v,e = .returned v/\Below w.heap.size w w'/\∃ g,nU w' v T n sz g nl/\(∀ x,v.ownBlock=some x->w.heap.size<=x/\x<w'.heap.size) /\
   ∀ i j,i<n->j<sz->z (λb o=>B b o\/v.ownBlock=some b) (λ_=>True) w' (el i j) (g i j)/\(el i j).nr 2=true)
structure Lk where
 nc:Nat->Prop
 own:Nat->Nat->Prop
 val:Nat->Value
 jg:Nat->Nat->Value
def C8(bs:Nat->Nat->Prop)(br:Nat->Prop)(L:Lk)(w:ap)(id:Nat)(nl:Bool)(T1 T0:ay)(n sz:Nat)(len:Nat->Nat)(el:Nat->Nat->Nat->E)(p:Option Nat):Prop:=∃ (b o c:Nat) (h:Array av) (f:Nat->Nat->Nat->av),L.val id = .slice (al ⟨b,o,am⟩) n c/\w.heap[b]? = al (.cells h T1 (0,0))/\n<=c/\c<=maxLen/\o+c<=h.size /\
 (∀ k,k<n->p≠al k->h[o+k]? = al (L.jg id k))/\(∀ u,u ∈ h->qI u=ac) /\
 (∀ k,k<n->nU w (L.jg id k) T0 (len k) sz (f k) nl/\∀ i j,i<len k->j<sz->z bs br w (el k i j) (f k i j)/\(el k i j).nr 2=aa) /\
 (∀ x,L.own id x↔x=b\/∃ k,k<n/\(L.jg id k).ownBlock=al x) /\
 (∀ k y x,k<n->y<n->(L.jg id k).ownBlock=al x->(L.jg id y).ownBlock=al x->k=y)/\(∀ k,k<n->(L.jg id k).ownBlock≠al b)
structure rT where
 cl:List<|Nat×E:=[]
 ov:List<|Nat×PV:=[]
 nw:List<|Nat×Bx:=[]
 gi:List<|Nat×Value:=[]
def KA(T:List TI):List Field->Option (List<|Nat×Nat)
 | []=>al []
 |f::fs=>match mS T f.type,KA T fs with
  |some t,al l=>al<|(f.offset,t.i.size)::l
  |_,_=>am
def D6(l:List E)(o:Nat)(m:List E):List E:=l.take o++m++l.drop (o+m.length)
def uG(σ:PS)(p:Nat->Option (Nat×Nat)):List E->List (Nat×Operand)->Option (List E)
 |l,[]=>al l
 |l,(i,x)::ps=>match p i,σ.op x with
  |some (off,size),.e e=>match e.cells? with
   |some m=>if a2 m.length size&&ba (off+m.length) l.length then uG σ p (D6 l off m) ps else am
   |none=>am
  |_,_=>am
def xt(t:TI):Option<|List E:=match t.i.zero with
 |some z=>(E.v z).cells?
 |none=>am
def kP{h:Type}:Nat->List h->List h
 | 0,_=>[]
 |n+1,l=>l++kP n l
def qU(P:aw)(o:BinOp)(t:ay)(x y:E)(v:av):Prop:=∀ (s:Nat->Nat->Prop) (r:Nat->Prop) (w:ap) (a b:av) (h k:Operand),z s r w x a->z s r w y b->(eqGuard o t h k a b).run P w = .ok () w/\(binOp o t a b).run P w = .ok v w
def alh(O:rT)(d:Option Tmp):Option av:=match d with
 |some d=>match look O.cl d with
  |some (.v v)=>al v
  |_=>am
 |none=>am
def alg(O:rT)(d:Option Tmp):Option av:=match d with
 |some d=>look O.gi d
 |none=>am
def yE(e:E):Prop:=∀ (s b:Nat->Nat->Prop) (r:Nat->Prop) (w:ap) (v:av),(∀ x o,b x o->s x o\/pR w x)->z s r w e v->z b r w e v
def xk(σ:PS)(d:Nat)(b:Bx):s5:=match σ.bo d with
 |none=>.new d b
 |some _=>.Ed d b
def CG(σ:PS)(d:Nat)(is:List Nat):List Nat:=match σ.bo d with
 |none=>is
 |some _=>d::is
def Ep(n sz:Nat)(el:Nat->Nat->E):Prop:=∀ i j,i<n->j<sz->yE (el i j)
def Dp(P:aw)(K:ap->Prop)(O:rT)(σ:PS)(d:Option Tmp)(f:ax)(xs:List E)(is:List Nat)(o:Bool):Option kZ:=
 match(match d with
  |some d=>look O.cl d
  |none=>al .any)with
 |some j=>if j.plain 3||(σ.nl && !o)then al { r:=.e j,rb:=is,ki:=[PC P K f xs j] }else if !o then al { r:=.e j,rb:=is,ki:=[Er P K f xs j] }
  else if σ.nl then al { r:=.e j,rb:=is,ki:=[PC P K f xs j,yE j] }else am
 |none=>match d with
  |some d=>match look O.nw d with
   |some (.row nl T n sz el)=>if σ.nl&&nl then al { r:=.own d,f:=xk σ d<|.row nl T n sz el,rb:=CG σ d is,ki:=wJ P K f xs nl T n sz el::(if o then[Ep n sz el]else[]) }else am
   |_=>am
  |none=>am
def CC(σ:PS)(d:Option Tmp)(b:Bx)(r:Nat->PV)(k:List Prop):Option kZ:=match d with
 |some d=>match σ.bo d with
  |none=>if !σ.nl||b.nl then al { r:=r d,f:=.new d b,ki:=k }else am
  |some _=>am
 |none=>am
def PV.Lz:PV->Option (Bool×Nat×Nat×(Nat->Nat->E))
 | .e (.sl nl n sz el)=>al (nl,n,sz,el)
 | .e (.mT aa nl n sz el)=>al (nl,n,sz,el)
 |_=>am
def DW(σ:PS)(d:Option Tmp)(b:Bx)(r:Nat->PV):Option kZ:=match d with
 |some d=>if !σ.nl||b.nl then al { r:=r d,f:=xk σ d b,rb:=CG σ d [] }else am
 |none=>am
section
variable(T:List TI)(σ:PS)(d:Option Tmp)(t:ay)(s x:PV)
def Dm:Option kZ:=match x.Lz with
 |some (nl2,m,sz2,el2)=>match mS T t with
  |some y=>match y.d with
   | .slice e=>match mS T e with
    |some h=>match xt h with
     |some z=>if a2 h.i.size sz2&&ba 1 sz2&&ba 1 h.i.bytes&&a2 z.length sz2 then match s with
      | .own id=>match σ.bo id with
       |some (.row nl T1 n sz el)=>if a2 T1 e&&a2 sz sz2&&(!σ.nl||(nl&&(nl2&&z.all E.nT)))then
        al { r:=.own id,f:=.sw id<|.row (nl&&(nl2&&z.all E.nT)) T1 (n+m) sz λi j=>if i<n then el i j else el2 (i-n) j,rb:=[id],ki:=[(n+m)*h.i.bytes<=140737488355328] }
        else am
       |_=>am
      | .jg id k=>match σ.bo id with
       |some (.kn nl T1 T0 n sz len el am)=>if a2 T0 e&&a2 sz sz2&&(!nl||(nl2&&z.all E.nT))then
        al { r:=.jg id k,f:=.xG id<|.kn nl T1 T0 n sz (λq=>if q=k then len q+m else len q) (λq i j=>if q=k then(if i<len q then el q i j else el2 (i-len q) j)else el q i j)<|al k,rb:=[id],ki:=[k<n,(len k+m)*h.i.bytes<=140737488355328] }
        else am
       |_=>am
      | .e (.v<|.slice am 0 0)=>CC σ d (.row (nl2&&z.all E.nT) e m sz2 el2) .own [m*h.i.bytes<=140737488355328]
      |_=>am
     else am
     |none=>am
    |none=>am
   |_=>am
  |none=>am
 |_=>am
def EJ:Option kZ:=match Dm T { σ with nl:=ac } d t s x with
 |some u=>match u.f,u.r with
  | .sw id (.row l _ n sz el),.own id'=>if a2 id' id then al { r:=.e<|.sl l n sz el,f:=.fin id,rb:=u.rb,ki:=True::u.ki }else am
  |_,_=>am
 |none=>am
end
def PV.Hn:PV->Option Nat
 | .own q=>al q
 |_=>am
def D4(σ:PS):List (Nat×Operand)->Option Nat
 | [(0,x)]=>(σ.op x).Hn
 |_=>am
section
variable(T:List TI)
def LZ(t:ay):Option<|ay×Nat:=match mS T t with
 |some x=>match x.d with
  | .slice e=>match mS T e with
   |some h=>match xt h with
    |some [z]=>if a2 h.i.size 1&&ba 1 h.i.bytes&&z.nT then al (e,h.i.bytes)else am
    |_=>am
   |none=>am
  |_=>am
 |none=>am
section
variable(σ:PS)(d:Option Tmp)(t:ay)
def EM(n q:Nat):Option kZ:=match d with
 |some i=>match σ.bo i,σ.bo q,LZ T t with
  |none,al<|.row nl T0 m sz el,al (e,_)=>if a2 n 1 && !a2 i q then
   al { r:=.own i,f:=.tR i q<|.kn nl e T0 1 sz (λ_=>m) (λ_=>el) am,rb:=[i,q] }else am
  |_,_,_=>am
 |none=>am
def EK(s:PV)(q:Nat):Option kZ:=match σ.bo q,LZ T t with
 |some (.kn nl2 T2 T0 m sz len2 el2 am),al (e,by_)=>match s,d with
  | .own id,_=>match σ.bo id with
   |some (.kn nl T1 T0' n sz' len el am)=>if a2 T1 e&&a2 T2 e&&a2 T0' T0&&a2 sz' sz && !a2 id q then
    al { r:=.own id,f:=.tR id q<|.kn (nl&&nl2) T1 T0 (n+m) sz (λk=>if k<n then len k else len2 (k-n)) (λk=>if k<n then el k else el2 (k-n)) am,rb:=[id,q],ki:=[0<m,(n+m)*by_<=140737488355328] }else am
   |_=>am
  | .e (.v<|.slice am 0 0),al id=>match σ.bo id with
   |none=>if a2 T2 e && !a2 id q then
    al { r:=.own id,f:=.tR id q<|.kn nl2 T2 T0 m sz len2 el2 am,rb:=[id,q],ki:=[0<m,m*by_<=140737488355328] }else am
   |_=>am
  |_,_=>am
 |_,_=>am
end
def XU(t:ay)(l c:PV):Option<|Bx×List Prop:=match l,c with
 | .e (.v<|.int _ l),.e (.v<|.int _ c)=>match mS T t with
  |some x=>match x.d with
   | .slice e=>match mS T e with
    |some h=>match xt h with
     |some z=>if a2 h.i.size z.length&&ba 1 h.i.size then
      let k:=[0<=l/\l<=c,(h.i.bytes:Int)*c<=281474976710656/\c<=9223372036854775807]
      match h.d with
      | .slice e0=>match mS T e0,z with
       |some y,[.v<|.slice am 0 0]=>al (.kn aa e e0 l.toNat y.i.size (λ_=>0) (λ_ _ _=>.any) am,k)
       |_,_=>am
      |_=>al (.row (z.all E.nT) e l.toNat h.i.size λ_ j=>z.getD j .any,k)
      else am
     |none=>am
    |none=>am
   |_=>am
  |none=>am
 |_,_=>am
def Mq(σ:PS)(d:Option Tmp)(t:ay)(l c:PV):Option kZ:=match XU T t l c with
 |some (b,ki)=>CC σ d b .own ki
 |none=>am
def EL(σ:PS)(t:ay)(id:Nat)(o h:Option PV):Option kZ:=match mS T t with
 |some x=>match x.d with
  | .slice e=>match mS T e with
   |some k=>match σ.bo id with
    |some (.row nl T1 n sz el)=>match o,h with
     |some (.e<|.v<|.int _ l),am=>if a2 k.i.size sz then al { r:=.own id,f:=.sw id<|.row nl T1 (n-l.toNat) sz λi j=>el (l.toNat+i) j,rb:=[id],ki:=[0<=l/\l<=n] }else am
     |_,_=>am
    |_=>am
   |none=>am
  |_=>am
 |none=>am
def Mr(t:ay)(x:PV)(o z:Option PV):Option kZ:=match x with
 | .e (.sl nl n sz el)=>match mS T t with
  |some k=>match k.d with
   | .slice e=>match mS T e with
    |some y=>if a2 y.i.size sz then match o,z with
     |none,al (.e<|.v<|.int _ h)=>al { r:=.e<|.sl nl h.toNat sz el,ki:=[0<=h/\h<=n] }
     |some (.e<|.v<|.int _ l),am=>al { r:=.e<|.sl nl (n-l.toNat) sz λi j=>el (l.toNat+i) j,ki:=[0<=l/\l<=n] }
     |some (.e<|.v<|.int _ l),al (.e<|.v<|.int _ h)=>al { r:=.e<|.sl nl (h.toNat-l.toNat) sz λi j=>el (l.toNat+i) j,ki:=[0<=l/\l<=h/\h<=n] }
     |_,_=>am
     else am
    |none=>am
   |_=>am
  |none=>am
 | .e (.mT fl nl n sz el)=>match mS T t with
  |some k=>match k.d with
   | .slice e=>match mS T e with
    |some y=>if a2 y.i.size sz then match o,z with
     |none,al (.e<|.v<|.int _ h)=>al { r:=.e<|.mT fl nl h.toNat sz el,ki:=[0<=h/\h<=n] }
     |some (.e<|.v<|.int _ l),am=>al { r:=.e<|.mT fl nl (n-l.toNat) sz λi j=>el (l.toNat+i) j,ki:=[0<=l/\l<=n] }
     |some (.e<|.v<|.int _ l),al (.e<|.v<|.int _ h)=>al { r:=.e<|.mT fl nl (h.toNat-l.toNat) sz λi j=>el (l.toNat+i) j,ki:=[0<=l/\l<=h/\h<=n] }
     |_,_=>am
     else am
    |none=>am
   |_=>am
  |none=>am
 |_=>am
def Mn(σ:PS)(t:ay)(x i:PV):Option kZ:=match i with
 | .e (.v<|.int _ z)=>match mS T t with
  |some y=>match y.d with
   | .slice e=>match mS T e with
    |some h=>match x with
     | .e (.sl _ n sz el)=>if a2 h.i.size sz&&ba 1 sz then al { r:=.e<|.jE sz<|el z.toNat,ki:=[0<=z/\z<n] }else am
     | .e (.mT _ _ n sz el)=>if a2 h.i.size sz&&ba 1 sz then al { r:=.e<|.jE sz<|el z.toNat,ki:=[0<=z/\z<n] }else am
     | .own id=>match σ.bo id with
      |some (.row _ _ n sz _)=>if a2 h.i.size sz then al { r:=.oe id sz z.toNat 0,rb:=[id],ki:=[0<=z/\z<n] }else am
      |some (.kn _ _ _ n _ _ _ _)=>if a2 h.i.size 1 then al { r:=.oe id 1 z.toNat 0,rb:=[id],ki:=[0<=z/\z<n] }else am
      |_=>am
     | .jg id k=>match σ.bo id with
      |some (.kn _ _ _ n sz len _ _)=>if a2 h.i.size sz then al { r:=.rK id sz k z.toNat 0,rb:=[id],ki:=[k<n,0<=z/\z<len k] }else am
      |_=>am
     |_=>am
    |none=>am
   | .array n e=>match mS T e with
    |some h=>match x with
     | .box id off=>al { r:=.box id<|off+z.toNat*h.i.size,ki:=[0<=z/\z<n] }
     | .e (.jE m el)=>if a2 (n*h.i.size) m then al { r:=.e<|.jE h.i.size λj=>el<|z.toNat*h.i.size+j,ki:=[0<=z/\z<n] }else am
     |_=>am
    |none=>am
   |_=>am
  |none=>am
 |_=>am
def Ms(σ:PS)(t:ay)(a x:PV):Option kZ:=match mS T t with
 |some z=>match a,x with
  | .box id off,.e e=>match σ.bo id,e.cells? with
   |some (.cells T1 l),al m=>if a2 m.length z.i.size&&ba (off+m.length) l.length&&(!σ.nl||m.all E.nT)then
    al { r:=.e .any,f:=.wH id<|.cells T1<|D6 l off m,rb:=[id] }else am
   |_,_=>am
  | .box id 0,.own q=>match σ.bo id,σ.bo q with
   |some (.cells T1 [_]),al (.row nl T0 n sz el)=>if !a2 id q&&a2 z.i.size 1 then
    al { r:=.e .any,f:=.tR id q<|.kn nl T1 T0 1 sz (λ_=>n) (λ_=>el) am,rb:=[id,q] }else am
   |_,_=>am
  | .oe id sz i j,.e e=>match σ.bo id,e.cells? with
   |some (.row nl T1 n s el),al m=>if a2 m.length z.i.size&&a2 s sz&&ba (j+m.length) sz&&(!nl||m.all E.nT)&&m.all (E.nr 2)then
    al { r:=.e .any,f:=.wH id<|.row nl T1 n s λu h=>if u=i/\j<=h/\h<j+m.length then m.getD (h-j) .any else el u h,rb:=[id],ki:=[i<n] }else am
   |_,_=>am
  | .oe id 1 i 0,.jg id' k=>match σ.bo id with
   |some (.kn nl T1 T0 n sz len el<|al y)=>if a2 id id'&&a2 z.i.size 1 then
    al { r:=.e .any,f:=.wH id<|.kn nl T1 T0 n sz len el am,rb:=[id],ki:=[i=y,k=y,y<n] }else am
   |_=>am
  | .rK id sz k i j,.e e=>match σ.bo id,e.cells? with
   |some (.kn nl T1 T0 n s len el pd),al m=>if a2 m.length z.i.size&&a2 s sz&&ba (j+m.length) sz&&(!nl||m.all E.nT)&&m.all (E.nr 2)then
    al { r:=.e .any,f:=.wH id<|.kn nl T1 T0 n s len (λy u h=>if y=k/\u=i/\j<=h/\h<j+m.length then m.getD (h-j) .any else el y u h) pd,rb:=[id],ki:=[k<n,i<len k] }else am
   |_,_=>am
  |_,_=>am
 |none=>am
end
def vc:PV->PS->Option (av×List Nat)
 | .e (.mT _ _ n _ _),_=>al (.int .i64 (n:Int),[])
 | .e (.sl _ n _ _),_=>al (.int .i64 (n:Int),[])
 | .e (.v<|.slice _ n _),_=>al (.int .i64 (n:Int),[])
 | .own id,σ=>match σ.bo id with
  |some (.row _ _ n _ _)=>al (.int .i64 (n:Int),[id])
  |some (.kn _ _ _ n _ _ _ _)=>al (.int .i64 (n:Int),[id])
  |_=>am
 | .jg id k,σ=>match σ.bo id with
  |some (.kn _ _ _ n _ l _ _)=>if Nat.blt k n then al (.int .i64 (l k:Int),[id])else am
  |_=>am
 |_,_=>am
def Ka(t:TI):Option (List E×List Nat×List Prop)->Option kZ
 |some (l,is,ki)=>if t.isAgg then al { r:=.e<|.agg l,rb:=is,ki:=ki }else match l with
  | [e]=>al { r:=.e e,rb:=is,ki:=ki }
  |_=>am
 |none=>am
def FU(σ:PS):PV->Option (Nat×Nat×Nat)
 | .oe id sz i j=>match σ.bo id with
  |some (.kn _ _ _ n _ _ _ am)=>if a2 sz 1&&a2 j 0 then al (id,i,n)else am
  |_=>am
 |_=>am
def Mp(t:TI)(σ:PS)(p:PV):Option kZ:=match FU σ p with
 |some (id,i,n)=>if t.isAgg then am else al { r:=.jg id i,rb:=[id],ki:=[i<n] }
 |none=>Ka t<|σ.read p t.i.size
def Mo(T:List TI)(σ:PS)(t:ay)(p:PV):Option kZ:=match mS T t with
 |some i=>Mp i σ p
 |none=>am
def Ly(O:rT):Option Tmp->Bool
 |some d=>(look O.nw d).isSome
 |none=>ac
def FB:List (Int×ax×List ax)->Int->Option E
 | [],_=>am
 |x::l,z=>if x.1=z then al (.fn x.2.1<|x.2.2.map λg=>.jE 1 λ_=>.fn g [])else FB l z
def alf(O:rT):Option Tmp->Option E
 |some d=>look O.cl d
 |none=>am
def kj(P:aw)(K:ap->Prop)(T:List TI)(O:rT)(σ:PS)(o:Oper):Option kZ:=match o.op with
 | .move x=>al { r:=σ.op x }
 | .assign x=>al { r:=σ.op x }
 | .pick c a b=>match σ.op c with
  | .e (.v<|.bool aa)=>al { r:=σ.op a }
  | .e (.v<|.bool ac)=>al { r:=σ.op b }
  |_=>am
 | .alloc t=>match mS T t with
  |some p=>match xt p with
   |some z=>DW σ o.dst (.cells t z) (.box · 0)
   |none=>am
  |none=>am
 | .box t x=>match σ.op x with
  | .e e=>match e.cells? with
   |some l=>DW σ o.dst (.cells t l) (.box · 0)
   |none=>am
  |_=>am
 | .build t ps=>match mS T t with
  |some p=>match xt p with
   |some z=>match p.d with
    | .struct fs=>match KA T fs.toList with
     |some Y=>(uG σ (λi=>Y[i]?) z ps.toList).map λl=>{ r:=.e<|.agg l }
     |none=>am
    | .array _ e=>match mS T e with
     |some h=>(uG σ (λi=>al (i*h.i.size,h.i.size)) z ps.toList).map λl=>{ r:=.e<|.agg l }
     |none=>am
    |_=>am
   |none=>am
  |none=>am
 | .buildSlice t n ps=>match D4 σ ps.toList with|some q=>EM T σ o.dst t n q|none=>match mS T t with
  |some w=>match w.d with
   | .slice e=>match mS T e with
    |some h=>match xt h with
     |some z=>if a2 z.length h.i.size&&ba 1 h.i.size&&ba (n*h.i.size) 16777216 then
      (uG σ (λi=>al (i*h.i.size,h.i.size)) (kP n z) ps.toList).bind λl=>
       if !(l.all<|E.nr 2)then am else if Ly O o.dst then CC σ o.dst (.row (l.all E.nT) e n h.i.size λi j=>l.getD (i*h.i.size+j)<|.v<|.bool ac) .own [True]
       else if l.all E.nT then al { r:=.e<|.sl aa n h.i.size λi j=>l.getD (i*h.i.size+j)<|.v<|.bool ac }
       else al { r:=.e<|.sl ac n h.i.size λi j=>l.getD (i*h.i.size+j)<|.v<|.bool ac }
      else am
     |none=>am
    |none=>am
   |_=>am
  |none=>am
 | .load t a=>Mo T σ t<|σ.op a
 | .store t a x=>Ms T σ t (σ.op a)<|σ.op x
 | .nilCheck x=>match σ.op x with
  | .box id off=>al { r:=.box id off }
  | .e (.jE m el)=>al { r:=.e<|.jE m el }
  | .e (.fn f c)=>al { r:=.e<|.fn f c }
  | .qC f c=>al { r:=.qC f c }
  |_=>am
 | .binOp op t x y _=>match σ.op x,σ.op y with
  | .e (.v<|.int k a),.e (.v<|.int k' b)=>
   match alg O o.dst with
   |some v=>al { r:=.e<|.v v,ki:=[qU P op t (.v<|.int k a) (.v<|.int k' b) v] }
   |none=>if ad2 op k k' then(Qm op k a b).map λr=>{ r:=.e<|.v r.1,ki:=r.2 }else am
  | .e (.v<|.bool a),.e (.v<|.bool b)=>match Aa T t with
   |some .bool=>match op with
    | .eql=>al { r:=.e<|.v<|.bool<|a==b }
    | .neq=>al { r:=.e<|.v<|.bool<|!(a==b) }
    |_=>am
   |_=>am
  | .e (.sl _ n _ _),.e (.v<|.slice am 0 0)=>match Aa T t with
   |some (.slice _)=>match op with
    | .eql=>al { r:=.e<|.v<|.bool ac,ki:=[0<n] }
    | .neq=>al { r:=.e<|.v<|.bool aa,ki:=[0<n] }
    |_=>am
   |_=>am
  | .e a,.e b=>match alh O o.dst with
   |some v=>al { r:=.e<|.v v,ki:=[qU P op t a b v] }
   |none=>am
  |_,_=>am
 | .unOp op _ x=>match op,σ.op x with
  | .not,.e (.v<|.bool b)=>al { r:=.e<|.v<|.bool<|!b }
  | .neg,.e (.v<|.int k z)=>al { r:=.e<|.v<|.int k<|0-z,ki:=[lN k<|0-z] }
  |_,_=>am
 | .convert src dst x=>match Aa T dst,mS T src,σ.op x with
  |some (.int k),al _,.e (.v<|.int _ z)=>al { r:=.e<|.v<|.int k<|k.wrap z }
  |_,_,_=>am
 | .makeFunc (.func f) first u=>if first.isEmpty then match zZ (u.toList.map σ.op)with
  |some l=>al { r:=.qC f l }
  |none=>am
  else am
 | .makeSlice t l c=>Mq T σ o.dst t (σ.op l)<|σ.op c
 | .slice t x lo hi am=>match σ.op x with | .own id=>EL T σ t id (lo.map σ.op) (hi.map σ.op)|y=>Mr T t y (lo.map σ.op)<|hi.map σ.op
 | .fieldAddr t x f=>match Aa T t with
  |some (.struct fs)=>match fs[f]? with
   |some d=>match mS T d.type with
    |some X=>if a2 X.i.size 0 then am else match σ.op x with
     | .box id off=>al { r:=.box id<|off+d.offset }
     | .oe id sz i j=>al { r:=.oe id sz i<|j+d.offset }
     | .rK id sz k i j=>al { r:=.rK id sz k i<|j+d.offset }
     | .e (.jE m el)=>if ba d.offset m then al { r:=.e<|.jE (m-d.offset) λj=>el<|d.offset+j }else am
     |_=>am
    |none=>am
   |none=>am
  |_=>am
 | .indexAddr t x i=>Mn T σ t (σ.op x)<|σ.op i
 | .index t x i=>match σ.op x,σ.op i with
  | .e (.agg l),.e (.v<|.int _ z)=>match mS T t with
   |some w=>match w.d with
    | .array n e=>match mS T e with
     |some h=>if h.isAgg&&a2 (n*h.i.size) l.length then al { r:=.e<|.agg<|(l.drop<|z.toNat*h.i.size).take h.i.size,ki:=[0<=z/\z<n] }else am
     |none=>am
    |_=>am
   |none=>am
  |_,_=>am
 | .field t x f=>match σ.op x,Aa T t with
  | .e (.agg l),al (.struct fs)=>match fs[f]? with
   |some d=>match mS T d.type with
    |some X=>if X.isAgg then am else match l[d.offset]? with
     |some e=>al { r:=.e e }
     |none=>am
    |none=>am
   |none=>am
  |_,_=>am
 | .lookup t x i ac=>match σ.op x,σ.op i,Aa T t with
  | .e (.mp l),.e<|.v<|.int .i64 z,al (.map k _)=>match Aa T k,alf O o.dst with
   |some (.int .i64),al e=>al { r:=.e e,ki:=[FB l z=al e] }
   |_,_=>am
  |_,_,_=>am
 | .extract x i=>match σ.op x with
  | .e (.iO l)=>match l[i]? with
   |some e=>al { r:=.e e }
   |none=>am
  |_=>am
 | .call c=>match c.callee with
  | .builtin .len=>match c.args.toList,c.argTypes.toList with
   | [x],[t]=>match Aa T t with
    |some (.slice _)=>(vc (σ.op x) σ).map λr=>{ r:=.e<|.v r.1,rb:=r.2 }
    |_=>am
   |_,_=>am
  | .builtin .append=>match c.args.toList,c.argTypes.toList with
   | [s,x],[t,t']=>if a2 t t' then(match(σ.op x).Hn with|some q=>EK T σ o.dst t (σ.op s) q|none=>if Ly O o.dst then EJ T σ o.dst t (σ.op s) (σ.op x)else Dm T σ o.dst t (σ.op s) (σ.op x))else am
   |_,_=>am
  | .builtin .max=>match c.args.toList.map σ.op with
   | [.e<|.v<|.int k a,.e<|.v<|.int _ b]=>al { r:=.e<|.v<|.int k<|if b>a then b else a }
   | [.e<|.v<|.int k a,.e<|.v<|.int _ b,.e<|.v<|.int _ z]=>al { r:=.e<|.v<|.int k<|if z>(if b>a then b else a)then z else(if b>a then b else a) }
   |_=>am
  | .builtin .min=>match c.args.toList.map σ.op with
   | [.e<|.v<|.int k a,.e<|.v<|.int _ b]=>al { r:=.e<|.v<|.int k<|if b<a then b else a }
   |_=>am
  | .value f=>match σ.op f,wM σ c.args.toList with
   | .e (.fn g u),al (xs,is)=>Dp P K O σ o.dst g (xs++u) is<|(c.args.toList.map σ.op).any<|PV.zg σ
   | .qC g u,al (xs,is)=>match xE σ u with
    |some (ys,js)=>Dp P K O σ o.dst g (xs++ys) (is++js)<|(c.args.toList.map σ.op).any (PV.zg σ)||u.any CV.JV
    |none=>am
   |_,_=>am
  |_=>am
 |_=>am
def jq(L:Lk)(x:Nat):Prop:=∃ i,L.own i x
def jt(B:Nat->Nat->Prop)(L:Lk)(x o:Nat):Prop:=B x o\/jq L x
section
variable(bs:Nat->Nat->Prop)(br:Nat->Prop)(L:Lk)(w:ap)
def zS:CV->av->Prop
 | .e x,v=>z bs br w x v
 | .box id,v=>L.nc id/\∃ b,L.val id = .pointer (al ⟨b,0,am⟩)/\v = .pointer (al ⟨b,0,am⟩)
 | .row id,v=>L.nc id/\∃ b o n c,L.val id = .slice (al ⟨b,o,am⟩) n c/\v = .pointer (al ⟨b,o,am⟩)
def nN:PV->av->Prop
 | .e x,v=>z bs br w x v
 | .box id h,v=>L.nc id/\∃ b,L.val id = .pointer (al ⟨b,0,am⟩)/\v = .pointer (al ⟨b,h,am⟩)
 | .own id,v=>L.nc id/\v=L.val id
 | .oe id sz i j,v=>L.nc id/\∃ b o n c,L.val id = .slice (al ⟨b,o,am⟩) n c/\v = .pointer (al ⟨b,o+(i*sz+j),am⟩)
 | .jg id k,v=>L.nc id/\v=L.jg id k
 | .rK id sz k i j,v=>L.nc id/\∃ b o n c,L.jg id k = .slice (al ⟨b,o,am⟩) n c/\v = .pointer (al ⟨b,o+(i*sz+j),am⟩)
 | .qC f cap,v=>∃ s:List av,v = .func (.func f) #[] s.toArray/\s.length=cap.length/\∀ (i:Nat) (c:CV) (x:av),cap[i]? = al c->s[i]? = al x->zS bs br L w c x
end
def PV.le(p q:PV):Prop:=∀ (b:Nat->Nat->Prop) (r:Nat->Prop) (L:Lk) (w:ap) (v:av),nN b r L w p v->nN b r L w q v
abbrev aj(a b:E):Prop:=PV.le (.e a)<|.e b
def xC(P:aw)(K:ap->Prop)(T:List TI)(O:rT)(σ:PS)(o:Oper):Option kZ:=match kj P K T O σ o with
 |some u=>match o.dst with
  |some d=>match look O.ov d with
   |some p=>al { u with r:=p,ki:=PV.le u.r p::u.ki }
   |none=>al u
  |none=>al u
 |none=>am
def C4(i:Array Oper)(σ:PS)(o:Oper):Option Bool:=match o.guard with
 |none=>al aa
 |some (j,want)=>match(i[j]?).bind (·.dst)with
  |some t=>match σ.get t with
   | .e (.v<|.bool aa)=>al want
   | .e (.v<|.bool ac)=>al<|!want
   | .e (.v<|.tuple _)=>al ac
   |_=>am
  |none=>am
def PS.app(σ:PS)(d:Option Tmp)(u:kZ):PS:=(σ.pG u.f).put d u.r
def th(σ:PS):Option Tmp->Bool
 |some d=>Nat.blt d σ.n
 |none=>aa
def Ks:Op->List Operand
 | .move x | .assign x | .box _ x | .load _ x | .nilCheck x | .unOp _ _ x | .convert _ _ x | .fieldAddr _ x _ | .field _ x _ | .extract x _=>[x]
 | .pick c a b=>[c,a,b]
 | .build _ ps | .buildSlice _ _ ps=>ps.toList.map (·.2)
 | .store _ a v | .binOp _ _ a v _ | .makeSlice _ a v | .indexAddr _ a v | .index _ a v | .lookup _ a v _=>[a,v]
 | .makeFunc _ first captured=>first.toList++captured.toList
 | .slice _ x l h m=>x::(l.toList++h.toList++m.toList)
 | .call c=>(match c.callee with | .value f=>[f] | .invoke r _=>[r] | .builtin _=>[])++c.args.toList
 |_=>[]
def Io:List Operand->List Tmp
 | []=>[]
 | .tmp t::l=>t::Io l
 |_::l=>Io l
def looks(i:Array Oper)(o:Oper):List Tmp:=Io (Ks o.op)++(match o.guard with
 |some (g,_)=>((i[g]?).bind (·.dst)).toList
 |none=>[])
def s5.id:s5->Option Nat
 | .none=>Option.none
 | .new i _ | .wH i _ | .sw i _ | .xG i _ | .fin i | .tR i _ _ | .Ed i _=>al i
def tD(P:aw)(K:ap->Prop)(T:List TI)(O:rT)(i:Array Oper)(σ:PS)(o:Oper):Option kZ:=
 if th σ o.dst then match C4 i σ o with
  |some aa=>match xC P K T O σ o with
   |some u=>al { u with rd:=(looks i o).map σ.get }
   |none=>am
  |some ac=>al { r:=.e<|.v<|.tuple #[],rd:=(looks i o).map σ.get }
  |none=>am
 else am
def Q9(l:List Nat)(n:Nat):Bool:=l.any<|a2 n
def s5.Fu:s5->Bool
 | .tR ..=>aa
 | .Ed ..=>aa
 |_=>ac
def Cy:s5->PV->Bool
 | .sw id _,.own i=>!a2 i id
 | .sw id _,.oe i _ _ _=>!a2 i id
 | .sw id _,.qC _ cap=>!cap.any (CV.JW id)
 | .xG id _,.jg i _=>!a2 i id
 | .xG id _,.rK i _ _ _ _=>!a2 i id
 | .fin id,p=>!p.mK.any (a2 id)
 |_,_=>aa
def Hj(l:List Nat):Option Nat->Bool
 |some d=>!Q9 l d
 |none=>aa
def OU:Option Nat->Option Nat->Bool
 |some a,al b=>!a2 a b
 |_,_=>aa
def SZ:PV->Bool
 | .e .any=>ac
 |_=>aa
def Bm(i:Array Oper)(x y:Oper×kZ):Bool:=
 Hj (looks i y.1) x.1.dst&&OU x.1.dst y.1.dst&&Hj (looks i x.1) y.1.dst &&
 Hj y.2.rb x.2.f.id&&Hj x.2.rb y.2.f.id&&OU x.2.f.id y.2.f.id&&Cy x.2.f y.2.r&&Cy y.2.f x.2.r &&
 (!x.2.f.O4||y.2.rd.all SZ)&&x.2.rd.all (Cy y.2.f) && !x.2.f.Fu && !y.2.f.Fu
def xY(o:Oper)(i:Nat):Bool:=o.after.toList.any λe=>Region.binds .any e&&a2 e.on i
def uT(h:Array Oper):Nat->Oper->Nat->Bool
 | 0,o,i=>xY o i
 |n+1,o,i=>xY o i||o.after.toList.any λe=>Region.binds .any e&&(match h[e.on]? with
  |some z=>uT h n z i
  |none=>ac)
def BA(z:Array Oper):Nat->List (Oper×kZ)->Bool
 |_,[]=>aa
 |i,x::l=>x.1.after.toList.all (λe=>!Region.binds .any e||Nat.blt e.on i)&&l.all (λy=>uT z 3 y.1 i||Bm z x y)&&BA z (i+1) l
def K5(σ:PS):PV->Option E
 | .e x=>if x.nr 3 then al x else am
 | .own id=>match σ.bo id with
  |some (.row nl _ n sz el)=>al<|.sl nl n sz el
  |some (.kn nl _ _ n sz len el am)=>al<|.sl aa n 1 λk _=>.sl nl (len k) sz<|el k
  |_=>am
 | .jg id k=>match σ.bo id with
  |some (.kn nl _ _ n sz len el am)=>if Nat.blt k n then al (.sl nl (len k) sz<|el k)else am
  |_=>am
 |_=>am
def TU(T:List TI)(σ:PS):ResultVar->Option E
 | .tmp t=>K5 σ<|σ.get t
 | .cell a t=>match mS T t with
  |some i=>match σ.read (σ.get a) i.i.size with
   |some (l,_,[])=>if i.isAgg then(if(E.agg l).nr 3 then al (.agg l)else am)else match l with
    | [e]=>if e.nr 3 then al e else am
    |_=>am
   |_=>am
  |none=>am
def Hz(T:List TI)(σ:PS):List ResultVar->Option (List E)
 | []=>al []
 |x::l=>match TU T σ x,Hz T σ l with
  |some e,al s=>al<|e::s
  |_,_=>am
def KN(T:List TI)(fn:Func)(σ:PS):Option E:=match Hz T σ fn.results.toList with
 |some [e]=>al e
 |some l=>al<|.iO l
 |none=>am
inductive Ex where
 |normal
 |exit (id:Nat)
 |ret
def Je:Code->Nat
 | .region id _ _=>id
 | .seq a _=>Je a
 | .cond _ a _=>Je a
 | .block _ b=>Je b
 | .loop b=>Je b
 |_=>0
def JU:Nat->List E->List (Nat×PV)
 |_,[]=>[]
 |i,x::l=>(i,.e x)::JU (i+1) l
def Ct(fn:Func)(nl:Bool)(a:List E):PS:={ n:=fn.ntmps,nl:=nl,t:=JU 0 a,b:=[] }
def lY{a b}:a2 a b=aa↔a=b:=⟨gj,λh=>by subst h;exact cN a⟩
def dr{a b}(h:a≠b):a2 a b=ac:=by
 cases hb:a2 a b with
 |false=>rfl
 |true=>exact absurd (lY.1 hb) h
def uP{y}k x(l:List<|Nat×y)t:look ((k,x)::l) t=if k=t then al x else look l t:=by
 by_cases h:k=t
 .subst h;simp[look]
 .simp [look,h,dr h]
def Kb{u}(l:List<|Nat×u)d t(h:d≠t):look (l.filter λx=>!a2 x.1 d) t=look l t:=by
 induction l with
 |nil=>rfl
 |cons y l i=>
  have⟨k,x⟩:=y;rw[List.filter_cons];by_cases z:k=d
  .subst z;simp only[cN,fu,bS,bE];rw[i,uP,bn h]
  .simp only[dr z,fc,bK];rw[uP,uP,i]
def Nx{h}(l:List<|Nat×h)(f:h->h)t:look (l.map λx=>(x.1,f x.2)) t=(look l t).map f:=by
 induction l with
 |nil=>rfl
 |cons y l i=>
  have⟨k,x⟩:=y;rw[ew,uP,uP,i];split<;>rfl
def PS.QH(σ:PS)d p t:(σ.put (al d) p).get t=if d=t then p else σ.get t:=by
 unfold PS.get PS.put;simp only[uP];by_cases h:d=t
 .rw [bt h,bt h];rfl
 .rw [bn h,bn h,Kb _ _ _ h]
section
variable(σ:PS)(d:Option Tmp)(p:PV)
def PS.ahF id:(σ.put d p).bo id=σ.bo id:=by cases d<;>rfl
def PS.NK:(σ.put d p).n=σ.n:=by cases d<;>rfl
def PS.apc:(σ.put d p).nl=σ.nl:=by cases d<;>rfl
end
def At(l:List<|Nat×Bx)id b t:look (tV l id b) t=if id=t then al b else look l t:=by
 unfold tV;rw[uP];by_cases h:id=t
 .rw [bt h,bt h]
 .rw [bn h,bn h,Kb _ _ _ h]
def aa9{z}(l:List<|Nat×z)d:look (l.filter λx=>!a2 x.1 d) d=am:=by
 induction l with
 |nil=>rfl
 |cons y l i=>
  have⟨k,x⟩:=y;rw[List.filter_cons];by_cases h:k=d
  .subst h;simpa only[cN,fu,bS,bE]using i
  .simp only[dr h,fc,bK];rw[uP,bn h,i]
def DS{k}(l:List<|Nat×k)i id:look (l.filter λx=>!a2 x.1 i) id=if i=id then am else look l id:=by
 by_cases h:i=id
 .subst h;rw[bt rfl];exact aa9 _ _
 .rw [bn h];exact Kb _ _ _ h
def PS.EO(σ:PS)f t:(σ.pG f).get t=(σ.get t).oN f:=by
 unfold PS.get PS.pG;by_cases h:f.O4=aa
 .simp only[h,bK];rw[Nx];cases look σ.t t with
  |none=>cases f<;>rfl
  |some p=>rfl
 .have v:∀ p:PV,p.oN f=p:=by
   intro p;cases f<;>first|exact absurd rfl h|(cases p<;>rfl)
  simp only[h,v];rfl
def qY(bs:Nat->Nat->Prop)(br:Nat->Prop)(L:Lk)(w:ap)(id:Nat):Bx->Prop
 | .cells T l=>∃ b v,L.val id = .pointer (al ⟨b,0,am⟩)/\(∀ x,L.own id x↔x=b)/\w.heap[b]? = al (.cells v.toArray T (0,0))/\lf bs br w l v/\∀ u,u ∈ v->u.oneCell'=aa
 | .row nl T n sz el=>∃ f:Nat->Nat->av,nU w (L.val id) T n sz f nl/\(∀ x,L.own id x↔(L.val id).ownBlock=al x)/\∀ i j,i<n->j<sz->z bs br w (el i j) (f i j)/\(el i j).nr 2=aa
 | .kn nl T1 T0 n sz len el pend=>(L.val id = .slice am 0 0/\n=0/\∀ x,¬L.own id x)\/C8 bs br L w id nl T1 T0 n sz len el pend
def qY.xm{bs br L w id nl T1 T0 n sz len el p}(h:qY bs br L w id<|.kn nl T1 T0 n sz len el p)(x:0<n):
 C8 bs br L w id nl T1 T0 n sz len el p:=by
 rcases h with⟨_,h,_⟩|h
 .omega
 .exact h
structure mj where
 w:World
 ex:Nat->Prop
def mj.pX(o:mj)(x:Nat):Prop:=x<o.w.heap.size/\¬o.ex x
structure qZ(o:mj)(w w':World):Prop where
 os:w'.os=w.os
 tape:w'.tape=w.tape
 output:w'.output=w.output
 size:w.heap.size<=w'.heap.size
 block:∀ x,o.pX x->w'.heap[x]? = w.heap[x]?
def qZ.refl o w:qZ o w w:=⟨rfl,rfl,rfl,bA _,λ_ _=>rfl⟩
def qZ.trans{o a b c}(h:qZ o a b)(k:qZ o b c):qZ o a c:=⟨k.os.trans h.os,k.tape.trans h.tape,k.output.trans h.output,bF h.size k.size,λx y=>(k.block x y).trans<|h.block x y⟩
def mj.ab9{o:mj}{n x}(h:o.w.heap.size<=n)(k:n<=x):¬o.pX x:=λy=>absurd y.1<|Nat.not_lt.2<|bF h k
structure jy(w0:mj)(B:Nat->Nat->Prop)(σ:PS)(a:Act)(w:World)(L:Lk):Prop where
 hd:a.defers=[]
 hs:a.tmps.size=σ.n
 ht:∀ t,nN (jt B L) (jq L) L w (σ.get t)<|a.tmps.getD t undef
 hb:∀ id b,σ.bo id=some b->qY (jt B L) (jq L) L w id b
 hv:∀ id,L.nc id↔(σ.bo id).isSome=true
 hn:∀ id x,L.own id x->L.nc id
 hw:∀ id x,L.own id x->¬w0.pX x/\x<w.heap.size
 hi:∀ id id' x,L.own id x->L.own id' x->id=id'
 he:qZ w0 w0.w w
 hl:σ.nl=true->∀ id b,σ.bo id=some b->b.nl=true
def qZ.below{a w w'}(h:qZ ⟨a,λ_=>False⟩ w w'):Below a.heap.size w w':=⟨h.os,h.tape,h.output,h.size,λx k=>h.block x ⟨k,λh=>h⟩⟩
def jy.amS{a B σ c w L}(r:jy ⟨a,λ_=>False⟩ B σ c w L){id x}(k:L.own id x):a.heap.size<=x/\x<w.heap.size:=
 ⟨Nat.not_lt.1 λh=>(r.hw id x k).1 ⟨h,λh=>h⟩,(r.hw id x k).2⟩
structure tw(L:Lk)(w:World)(L':Lk)(w':World):Prop where
 size:w.heap.size<=w'.heap.size
 jq:∀ x,x<w.heap.size->Pu.jq L' x->Pu.jq L x
 oE:∀ x,x<w.heap.size->¬Pu.jq L x->w'.heap[x]? = w.heap[x]?
def tw.kP{B L u w w'}(h:tw L w u w'){e v}(k:z (jt B L) (Pu.jq L) w e v):z (jt B u) (Pu.jq u) w' e v:=by
 refine k.mono h.size (λb o y x=>?_) (λb y x=>h.jq b y x) λb y r=>h.oE b y ?_
 .rcases x with x|x
  .exact .inl x
  .exact .inr<|h.jq b y x
 .rcases r with⟨o,r⟩|r
  .exact λm=>r<|.inr m
  .exact r
def nU.block{w w' v T n sz f nl}(h:nU w v T n sz f nl)(k:∀ x,v.ownBlock=al x->w'.heap[x]? = w.heap[x]?):nU w' v T n sz f nl:=by
 rcases h with h|⟨b,o,c,u,rfl,g,r⟩
 .exact .inl h
 .exact .inr ⟨b,o,c,u,rfl,by rw[k b rfl];exact g,r⟩
section
variable{B:Nat->Nat->Prop}{L Q:Lk}{w w':ap}(h:tw L w Q w')
def C8.map{id nl T1 T0 n sz len el p}(k:C8 (jt B L) (jq L) L w id nl T1 T0 n sz len el p)(s:Q.val id=L.val id)(r:∀ x,Q.own id x↔L.own id x)(l:∀ j,Q.jg id j=L.jg id j)(z:∀ x,L.own id x->w'.heap[x]? = w.heap[x]?):C8 (jt B Q) (jq Q) Q w' id nl T1 T0 n sz len el p:=by
 have⟨b,o,c,u,f,m,g,d,a,X,Y,Z,U,y,V,E⟩:=k;have e:Q.jg id=L.jg id:=funext l;refine⟨b,o,c,u,f,by rw[s];exact m,by rw[z b<|(y b).2<|.inl rfl];exact g,d,a,X,by rw[e];exact Y,Z,?_,?_,by rw[e];exact V,by rw[e];exact E⟩
 .intro k N;have⟨T,q⟩:=U k N;rw[e];exact⟨T.block λx S=>z x<|(y x).2<|.inr ⟨k,N,S⟩,λi j v t=>⟨h.kP (q i j v t).1,(q i j v t).2⟩⟩
 .intro x;rw[r,e];exact y x
def qY.later{id b}(k:qY (jt B L) (jq L) L w id b)(v:Q.val id=L.val id)(o:∀ x,Q.own id x↔L.own id x)(R:∀ j,Q.jg id j=L.jg id j)(t:∀ x,L.own id x->w'.heap[x]? = w.heap[x]?):qY (jt B Q) (jq Q) Q w' id b:=by
 cases b with
 |cells T l=>
  have⟨b,m,u,y,z,g,e⟩:=k;exact⟨b,m,by rw[v];exact u,λx=>(o x).trans<|y x,by rw[t b<|(y b).2 rfl];exact z,g.mono λ_ _=>h.kP,e⟩
 |row d T n c a=>
  have⟨f,u,y,z⟩:=k;exact⟨f,by rw[v];exact u.block λx s=>t x<|(y x).2 s,λx=>by rw[o,v];exact y x,λi j r q=>⟨h.kP (z i j r q).1,(z i j r q).2⟩⟩
 |kn d Y Z n c X a p=>
  rcases k with⟨u,y,z⟩|k
  .exact .inl ⟨by rw[v];exact u,y,λx s=>z x<|(o x).1 s⟩
  exact .inr<|C8.map h k v o R t
def zS.later{c v}(k:zS (jt B L) (jq L) L w c v)(z:∀ id,L.nc id->Q.nc id/\Q.val id=L.val id):zS (jt B Q) (jq Q) Q w' c v:=by
 cases c with
 |e x=>exact h.kP k
 |box id=>have⟨y,b,u,t⟩:=k;exact⟨(z id y).1,b,by rw[(z id y).2];exact u,t⟩
 |row id=>have⟨y,b,o,n,c,u,t⟩:=k;exact⟨(z id y).1,b,o,n,c,by rw[(z id y).2];exact u,t⟩
end
def nN.later{B L t w w'}(h:tw L w t w'){p v}(k:nN (jt B L) (jq L) L w p v)(z:∀ id,L.nc id->t.nc id/\t.val id=L.val id/\∀ j,t.jg id j=L.jg id j):nN (jt B t) (jq t) t w' p v:=by
 cases p with
 |e x=>exact h.kP k
 |box id r=>have⟨y,b,u,s⟩:=k;exact⟨(z id y).1,b,by rw[(z id y).2.1];exact u,s⟩
 |own id=>have⟨y,u⟩:=k;exact⟨(z id y).1,by rw[(z id y).2.1];exact u⟩
 |oe id m i j=>have⟨y,b,o,n,c,u,s⟩:=k;exact⟨(z id y).1,b,o,n,c,by rw[(z id y).2.1];exact u,s⟩
 |jg id q=>have⟨y,u⟩:=k;exact⟨(z id y).1,by rw[(z id y).2.2];exact u⟩
 |rK id m q i j=>have⟨y,b,o,n,c,u,s⟩:=k;exact⟨(z id y).1,b,o,n,c,by rw[(z id y).2.2];exact u,s⟩
 |qC f a=>
  have⟨g,y,u,s⟩:=k;exact⟨g,y,u,λi c x d X=>(s i c x d X).later h λid l=>⟨(z id l).1,(z id l).2.1⟩⟩
def jy.later{z B σ a w w' L}(r:jy z B σ a w L)(h:Below w.heap.size w w'):jy z B σ a w' L:=by
 have l:tw L w L w':=⟨h.size,λ_ _ h=>h,λx y _=>h.block x y⟩
 refine⟨r.hd,r.hs,λt=>(r.ht t).later l λi k=>⟨k,rfl,λ_=>rfl⟩,λi b u=>(r.hb i b u).later l rfl (λ_=>Iff.rfl) (λ_=>rfl) λx y=>h.block x (r.hw i x y).2,r.hv,r.hn,
  λi x y=>⟨(r.hw i x y).1,bJ (r.hw i x y).2 h.size⟩,r.hi,r.he.trans ⟨h.os,h.tape,h.output,h.size,λx y=>h.block x<|bJ y.1 r.he.size⟩,r.hl⟩
def jy.drew{h B σ a w L}(r:jy h B σ a w L):jy h B σ a w.drew L:=r.later (Below.refl _ _).drew
def jy.put{x B σ a w L}(r:jy x B σ a w L)d p v(k:th σ d=aa)(y:nN (jt B L) (jq L) L w p v):jy x B (σ.put d p) (a.put d v) w L:=by
 cases d with
 |none=>exact r
 |some d=>
  have E:d<σ.n:=by simpa[th,gl]using k
  refine⟨r.hd,by simp[Act.put,r.hs,PS.NK],λt=>?_,λi b z=>r.hb i b z,r.hv,r.hn,r.hw,r.hi,r.he,r.hl⟩;rw[PS.QH];by_cases h:d=t
  .subst h;rw[bt rfl];have:(a.put (al d) v).tmps.getD d undef=v:=by
    simp[Act.put,Array.getElem?_setIfInBounds,r.hs,E]
   rw[this];exact y
  .rw [bn h];have:(a.put (al d) v).tmps.getD t undef=a.tmps.getD t undef:=by
    simp[Act.put,aw5 h]
   rw[this];exact r.ht t
def jy.op{k B σ a w L}(r:jy k B σ a w L)x:nN (jt B L) (jq L) L w (σ.op x)<|a.eval x:=by
 cases x with
 |tmp t=>exact r.ht t
 |const v=>exact .v v
 |global g=>exact .v _
 |func f=>exact .fn f [] [] rfl (λi p x h=>by simp at h)
def Lk.set(L:Lk)(id:Nat)(O:Nat->Prop)(v:av)(j:Nat->av):Lk:=
 {nc:=λi=>i=id\/L.nc i
  own:=λi x=>if i=id then O x else L.own i x
  val:=λi=>if i=id then v else L.val i
  jg:=λi=>if i=id then j else L.jg i }
section
variable {L:Lk} {id:Nat} {O:Nat->Prop} {v:av} {g:Nat->av}
def Lk.uB x:(L.set id O v g).own id x↔O x:=by simp[Lk.set]
def Lk.qk:(L.set id O v g).val id=v:=by simp[Lk.set]
def Lk.sG k:(L.set id O v g).jg id k=g k:=by simp[Lk.set]
def Lk.CQ:(L.set id O v g).nc id:=.inl rfl
section
variable{i:Nat}(h:i≠id)
def Lk.Eh x:(L.set id O v g).own i x↔L.own i x:=by simp[Lk.set,h]
def Lk.CR:(L.set id O v g).val i=L.val i:=by simp[Lk.set,h]
def Lk.Ih k:(L.set id O v g).jg i k=L.jg i k:=by simp[Lk.set,h]
end
end
structure sM(L:Lk)(w:World)(id:Nat)(O:Nat->Prop)(w':World):Prop where
 own:∀ x,O x->(L.own id x\/w.heap.size<=x)/\x<w'.heap.size
 size:w.heap.size<=w'.heap.size
 oE:∀ x,x<w.heap.size->¬L.own id x->w'.heap[x]? = w.heap[x]?
 os:w'.os=w.os
 tape:w'.tape=w.tape
 output:w'.output=w.output
def sM.later{L w id O w'}(h:sM L w id O w')v jg:tw L w (L.set id O v jg) w':=by
 refine⟨h.size,λx y m=>?_,λx y m=>h.oE x y λo=>m ⟨id,o⟩⟩;have⟨i,z⟩:=m;by_cases e:i=id
 .subst e;rcases(h.own x<|(Lk.uB x).1 z).1 with k|k
  .exact ⟨i,k⟩
  .omega
 .exact ⟨i,(Lk.Eh e x).1 z⟩
def jy.set{l B σ a w L}(r:jy l B σ a w L)id b' O v jg w' f(Z:f.PD σ.b=tV σ.b id b')(y:sM L w id O w')(U:qY (jt B<|L.set id O v jg) (jq<|L.set id O v jg) (L.set id O v jg) w' id b')(T:∀ p c,nN (jt B L) (jq L) L w p c->nN (jt B<|L.set id O v jg) (jq<|L.set id O v jg) (L.set id O v jg) w' (p.oN f) c)(V:σ.nl=aa->b'.nl=aa):jy l B (σ.pG f) a w'<|L.set id O v jg:=by
 have S:=y.later v jg;have D:∀ i,(σ.pG f).bo i=if id=i then al b' else σ.bo i:=by
  intro i;show look (f.PD σ.b) i=_;rw[Z,At];rfl
 have R:qZ l w w':=⟨y.os,y.tape,y.output,y.size,λx u=>y.oE x (bJ u.1 r.he.size) λo=>(r.hw id x o).1 u⟩
 refine⟨r.hd,r.hs,λt=>?_,λi b z=>?_,λi=>?_,λi x u=>?_,λi x u=>?_,λi j x X g=>?_,r.he.trans R,λY i b z=>?_⟩
 .rw [PS.EO];exact T _ _<|r.ht t
 .rw [D]at z;by_cases e:id=i
  .subst e;rw[bt rfl]at z;cases z;exact U
  .rw [bn e]at z;have q:i≠id:=λh=>e h.symm
   exact(r.hb i b z).later S (Lk.CR q) (Lk.Eh q) (Lk.Ih q) λx u=>y.oE x (r.hw i x u).2 λo=>e<|r.hi id i x o u
 .rw [D];by_cases e:id=i
  .subst e;rw[bt rfl];simp[Lk.set]
  .rw [bn e];have q:i≠id:=λh=>e h.symm
   simp only[Lk.set,q,false_or];exact r.hv i
 .by_cases e:i=id
  .exact .inl e
  .exact .inr<|r.hn i x<|(Lk.Eh e x).1 u
 .by_cases e:i=id
  .subst e;have⟨s,m⟩:=y.own x<|(Lk.uB x).1 u;refine⟨?_,m⟩;rcases s with s|s
   .exact (r.hw i x s).1
   .exact mj.ab9 r.he.size s
  .have:=r.hw i x<|(Lk.Eh e x).1 u;exact⟨this.1,bJ this.2 y.size⟩
 .by_cases d:i=id
  .by_cases n:j=id
   .rw [d,n]
   .have m:=(Lk.Eh n x).1 g;subst d;rcases(y.own x<|(Lk.uB x).1 X).1 with k|k
    .exact r.hi _ _ x k m
    .have:=(r.hw j x m).2;omega
  .have s:=(Lk.Eh d x).1 X;by_cases n:j=id
   .subst n;rcases(y.own x<|(Lk.uB x).1 g).1 with k|k
    .exact r.hi _ _ x s k
    .have:=(r.hw i x s).2;omega
   .exact r.hi _ _ x s<|(Lk.Eh n x).1 g
 .rw [D]at z;by_cases e:id=i
  .rw [bt e]at z;cases z;exact V Y
  .rw [bn e]at z;exact r.hl Y i b z
def jy.new{z B σ a w L}(r:jy z B σ a w L)id b' O v jg w'(U:σ.bo id=am)(u:∀ x,O x->w.heap.size<=x/\x<w'.heap.size)(b:Below w.heap.size w w')(s:qY (jt B<|L.set id O v jg) (jq<|L.set id O v jg) (L.set id O v jg) w' id b')(q:(!σ.nl||b'.nl)=aa):jy z B (σ.pG<|.new id b') a w'<|L.set id O v jg:=by
 have Z:¬L.nc id:=λh=>by have:=(r.hv id).1 h;rw[U]at this;simp at this
 have t:sM L w id O w':=⟨λx k=>⟨.inr (u x k).1,(u x k).2⟩,b.size,λx k _=>b.block x k,b.os,b.tape,b.output⟩
 refine r.set id b' O v jg w' (.new id b') rfl t s (λp m n=>?_) (λh=>by simpa[h]using q);have Y:∀ {i},L.nc i->i≠id:=λh e=>Z<|e▸h
 have:p.oN (.new id b')=p:=by cases p<;>rfl
 rw[this];exact n.later (t.later v jg) λi y=>⟨.inr y,Lk.CR<|Y y,λj=>Lk.Ih (Y y) j⟩
def jy.wH{h B σ a w L}(r:jy h B σ a w L)id b' w'(u:L.nc id)(t:sM L w id (L.own id) w')(x:qY (jt B<|L.set id (L.own id) (L.val id)<|L.jg id) (jq<|L.set id (L.own id) (L.val id)<|L.jg id) (L.set id (L.own id) (L.val id)<|L.jg id) w' id b')(k:σ.nl=aa->b'.nl=aa):jy h B (σ.pG<|.wH id b') a w'<|L.set id (L.own id) (L.val id)<|L.jg id:=by
 refine r.set id b' _ _ _ w' (.wH id b') rfl t x (λp v y=>?_) k;have:p.oN (.wH id b')=p:=by cases p<;>rfl
 rw[this];refine y.later (t.later _ _) λi z=>⟨.inr z,?_,λj=>?_⟩
 .by_cases e:i=id
  .subst e;exact Lk.qk
  .exact Lk.CR e
 .by_cases e:i=id
  .subst e;exact Lk.sG j
  .exact Lk.Ih e j
def jy.sw{X B σ a w L}(r:jy X B σ a w L)id b' O v w'(Y:∀ b,L.val id ≠ .pointer (al b))(Z:sM L w id O w')(T:qY (jt B<|L.set id O v<|L.jg id) (jq<|L.set id O v<|L.jg id) (L.set id O v<|L.jg id) w' id b')(S:σ.nl=aa->b'.nl=aa):jy X B (σ.pG<|.sw id b') a w'<|L.set id O v<|L.jg id:=by
 have U:=Z.later v<|L.jg id;refine r.set id b' O v (L.jg id) w' (.sw id b') rfl Z T (λp N F=>?_) S;have D:∀ i j,(L.set id O v<|L.jg id).jg i j=L.jg i j:=λi j=>by
  by_cases e:i=id
  .subst e;exact Lk.sG j
  .exact Lk.Ih e j
 cases p with
 |e x=>exact U.kP F
 |box i R=>
  have⟨z,b,h,u⟩:=F;have e:i≠id:=λe=>by subst e;exact Y _ h
  exact⟨.inr z,b,by rw[Lk.CR e];exact h,u⟩
 |own i=>
  by_cases e:i=id
  .subst e;simp only[PV.oN,cN,bK];exact .any _
  .simp only[PV.oN,dr e,bS,bE];exact⟨.inr F.1,by rw[Lk.CR e];exact F.2⟩
 |oe i s x j=>
  by_cases e:i=id
  .subst e;simp only[PV.oN,cN,bK];exact .any _
  .simp only[PV.oN,dr e,bS,bE];have⟨z,b,o,n,c,h,u⟩:=F;exact⟨.inr z,b,o,n,c,by rw[Lk.CR e];exact h,u⟩
 |jg i k=>exact⟨.inr F.1,by rw[D];exact F.2⟩
 |rK i s k x j=>have⟨z,b,o,n,c,h,u⟩:=F;exact⟨.inr z,b,o,n,c,by rw[D];exact h,u⟩
 |qC f m=>
  cases oQ:m.any (CV.JW id)with
  |true=>simp only[PV.oN,oQ,bK];exact .any _
  |false=>
   simp only[PV.oN,oQ,bS,bE];have⟨Q,z,h,u⟩:=F;refine⟨Q,z,h,λi c x V P=>?_⟩;have l:=u i c x V P;cases c with
   |e y=>exact U.kP l
   |box q=>
    have⟨g,b,t,d⟩:=l;have e:q≠id:=λe=>by subst e;exact Y _ t
    exact⟨.inr g,b,by rw[Lk.CR e];exact t,d⟩
   |row q=>
    have⟨g,b,o,n,c,t,d⟩:=l;have e:q≠id:=λe=>by
     have:=dt.1 oQ (.row q)<|dX V;subst e;simp[CV.JW]at this
    exact⟨.inr g,b,o,n,c,by rw[Lk.CR e];exact t,d⟩
def jy.xG{u B σ a w L}(r:jy u B σ a w L)id b' O jg w'(t:sM L w id O w')(q:qY (jt B<|L.set id O (L.val id) jg) (jq<|L.set id O (L.val id) jg) (L.set id O (L.val id) jg) w' id b')(m:σ.nl=aa->b'.nl=aa):jy u B (σ.pG<|.xG id b') a w'<|L.set id O (L.val id) jg:=by
 have v:=t.later (L.val id) jg;refine r.set id b' O (L.val id) jg w' (.xG id b') rfl t q (λp V F=>?_) m;have l:∀ i,(L.set id O (L.val id) jg).val i=L.val i:=λi=>by
  by_cases e:i=id
  .subst e;exact Lk.qk
  .exact Lk.CR e
 cases p with
 |e x=>exact v.kP F
 |box i g=>have⟨h,b,y,z⟩:=F;exact⟨.inr h,b,by rw[l];exact y,z⟩
 |own i=>exact⟨.inr F.1,by rw[l];exact F.2⟩
 |oe i s x j=>have⟨h,b,o,n,c,y,z⟩:=F;exact⟨.inr h,b,o,n,c,by rw[l];exact y,z⟩
 |jg i k=>
  by_cases e:i=id
  .subst e;simp only[PV.oN,cN,bK];exact .any _
  .simp only[PV.oN,dr e,bS,bE];exact⟨.inr F.1,by rw[Lk.Ih e];exact F.2⟩
 |rK i s k x j=>
  by_cases e:i=id
  .subst e;simp only[PV.oN,cN,bK];exact .any _
  .simp only[PV.oN,dr e,bS,bE];have⟨h,b,o,n,c,y,z⟩:=F;exact⟨.inr h,b,o,n,c,by rw[Lk.Ih e];exact y,z⟩
 |qC f d=>
  have⟨X,h,y,z⟩:=F;refine⟨X,h,y,λi c x Y Z=>(z i c x Y Z).later v λj U=>⟨.inr U,l j⟩⟩
structure It(w:World)(v:Value)(T:TypeId)(n sz m:Nat)(f g:Nat->Nat->Value)(nl:Bool)(v':Value)(w':World):Prop where
 own:nU w' v' T (n+m) sz (λi j=>if i<n then f i j else g (i-n) j) nl
 qV:∀ x,v'.ownBlock=some x->v.ownBlock=some x\/(w.heap.size<=x/\x<w'.heap.size)
 size:w.heap.size<=w'.heap.size
 oE:∀ x,x<w.heap.size->v.ownBlock≠some x->w'.heap[x]? = w.heap[x]?
 os:w'.os=w.os
 tape:w'.tape=w.tape
 output:w'.output=w.output
 Jm:∀ x,x<w.heap.size->v'.ownBlock≠some x->w'.heap[x]? = w.heap[x]?
 AT:(∃ b ofs c c',v = .slice (some ⟨b,ofs,none⟩) n c/\v' = .slice (some ⟨b,ofs,none⟩) (n+m) c')\/(∀ x,v'.ownBlock=some x->w.heap.size<=x)
section
variable(n sz:Nat)(f:Nat->Nat->av)
def rW:List av:=(be<|n*sz).map λq=>f (q/sz)<|q%sz
def yX:(rW n sz f).length=n*sz:=by simp[rW]
end
section
variable{n sz:Nat}{f:Nat->Nat->av}
def Yg{i j}(x:i<n)(h:j<sz):(rW n sz f)[i*sz+j]? = al (f i j):=by
 have k:i*sz+j<n*sz:=by
  have:=bX sz<|show i+1<=n from x;rw[bT,bU]at this;omega
 have y:(i*sz+j)/sz=i:=by rw[bL,dQ U,cG h,bV]
 have z:(i*sz+j)%sz=j:=by rw[bL,ey,bY h]
 simp[rW,k,y,z]
def Jf{q u}(h:(rW n sz f)[q]? = al u):q/sz<n/\q%sz<sz/\u=f (q/sz) (q%sz)/\q/sz*sz+q%sz=q:=by
 unfold rW at h;rw[cQ]at h;obtain⟨x,t,rfl⟩:=dc.1 h;have⟨k,z⟩:=cF.1 t;simp at k z;subst z;have v:0<sz:=by
  rcases fw sz with y|y
  .subst y;simp at k
  .exact y
 exact⟨(cC v).2 k,bO _ v,rfl,by rw[bL];exact cH q sz⟩
end
def asz{P}w t ty e i(h:P.underlying t=al (.slice e))(x:P.info? e=al i)g o sLen sCap cur(k:w.heap[g]? = al (.cells cur e (0,0)))a m c news(l:news.length=m*i.size)(J:∀ j u,news[j]? = al u->w.cell? (a.add j)=al u)(y:∀ u ∈ news,u.oneCell'=aa)(L:sLen+m<=sCap)(p:o+sLen*i.size+news.length<=cur.size):
 (Builtin.append_ #[t,t] ty #[.slice (al ⟨g,o,am⟩) sLen sCap,.slice (al a) m c]).run P w =
  .ok (.slice (al ⟨g,o,am⟩) (sLen+m) sCap) (w.setRow g (cur.toList.take (o+sLen*i.size)++news++cur.toList.drop (o+sLen*i.size+news.length)).toArray):=by
 have f:=run_firstCells_some (P:=P) w i.size m a m c news l J;have B:=run_storeCells_at P g (o+sLen*i.size) e news 0 cur w k (by simpa using p) y;simp only[bV]at B;simp[Builtin.append_,run_underlying h,sizeOf,typeInfo,x,Builtin.lenOf,L,f,Addr.add_lit,B]
def Uc P w t ty e i z sz(Q:P.underlying t=al (.slice e))(a:P.info? e=al i)(hz:i.zero=al z)(C:i.size=sz)(N:z.cells.size=sz)(kF:0<sz)(j8:1<=i.bytes)(av5:∀ u,u ∈ z.cells->u.oneCell'=aa)v n f nl(J:nU w v e n sz f nl)A m c g(hA:∀ k j,k<m->j<sz->∃ b o,A=al ⟨b,o,am⟩/\w.cell? ⟨b,o+(k*sz+j),am⟩=al (g k j))(vZ:A=am->m=0)(K:∀ k j,k<m->j<sz->(g k j).oneCell'=aa/\(nl=aa->qI (g k j)=ac))(M:nl=aa->∀ u,u ∈ z.cells->qI u=ac)(MQ:(n+m)*i.bytes<=140737488355328):
 ∃ v' w',(Builtin.append_ #[t,t] ty #[v,.slice A m c]).run P w = .ok v' w'/\It w v e n sz m f g nl v' w':=by
 have hle:n+m<=(n+m)*i.bytes:=apV _ j8;have O:n+m<=maxLen:=by unfold maxLen;omega
 have E:∀ i j,i<n+m->j<sz->(rW n sz f++rW m sz g)[i*sz+j]? = al (if i<n then f i j else g (i-n) j):=by
  intro i j a r;by_cases R:i<n
  .rw [bt R,eF,Yg R r];rw[yX];have:=bX sz<|show i+1<=n from R;rw[bT,bU]at this;omega
  .rw [bn R,gn,yX]
   .have:i*sz+j-n*sz=(i-n)*sz+j:=by
     have:=Nat.sub_mul i n sz;have:=bX sz (U:n<=i);omega
    rw[this,Yg U r]
   .rw [yX];have:=bX sz (U:n<=i);omega
 have W:∀ i j,i<n+m->j<sz->(if i<n then f i j else g (i-n) j).oneCell'=aa:=by
  intro i j a r;split
  .rename_i R;rcases J with⟨_,h0⟩|⟨b,h,c,p,_,_,_,_,_,D,_⟩
   .omega
   .exact (D i j R r).2
  .rename_i R;exact(K (i-n) j U r).1
 have h1':∀ u ∈ rW m sz g,u.oneCell'=aa:=by
  intro u s;have⟨q,l⟩:=dJ.1 s;obtain⟨Y,Z,rfl,_⟩:=Jf l;exact(K _ _ Y Z).1
 have V:nl=aa->∀ u,u ∈ rW m sz g->qI u=ac:=by
  intro X u s;have⟨q,l⟩:=dJ.1 s;obtain⟨Y,Z,rfl,_⟩:=Jf l;exact(K _ _ Y Z).2 X
 rcases A with _|B
 .have hm:=vZ rfl;subst hm;rcases J with⟨rfl,rfl⟩|⟨b,h,d,p,rfl,L,qG,H,pP,I,G⟩
  .refine ⟨.slice am 0 0,w,?_,.inl ⟨rfl,rfl⟩,λx y=>.inl y,bA _,λ_ _ _=>rfl,rfl,rfl,rfl,λ_ _ _=>rfl,.inr λx y=>by cases y⟩;simp[Builtin.append_,run_underlying Q,sizeOf,typeInfo,a,Builtin.lenOf,Builtin.firstCells,loadCells,loadCellsFrom]
  .refine ⟨.slice (al ⟨b,h,am⟩) n d,w,?_,.inr ⟨b,h,d,p,rfl,L,qG,H,pP,?_,G⟩,λx y=>.inl y,bA _,λ_ _ _=>rfl,rfl,rfl,rfl,λ_ _ _=>rfl,.inl ⟨b,h,d,d,rfl,rfl⟩⟩
   .simp [Builtin.append_,run_underlying Q,sizeOf,typeInfo,a,Builtin.lenOf,Builtin.firstCells,qG,storeCells]
   .intro i j a r;have R:i<n:= U ;simp only[R,bK];exact I i j R r
 .have JH:∀ j u,(rW m sz g)[j]? = al u->w.cell? (B.add j)=al u:=by
   intro q u l;obtain⟨Y,Z,rfl,q4⟩:=Jf l;have⟨b,o,e,D⟩:=hA _ _ Y Z;cases e;rw[q4]at D;rw[show(⟨b,o,am⟩:az).add q=⟨b,o+q,am⟩from Addr.add_lit _ _ _];exact D
  rcases J with⟨rfl,rfl⟩|⟨b,h,d,p,rfl,L,qG,H,pP,I,G⟩
  .by_cases hm:m=0
   .subst hm;refine⟨.slice am 0 0,w,?_,.inl ⟨rfl,rfl⟩,λx y=>.inl y,bA _,λ_ _ _=>rfl,rfl,rfl,rfl,λ_ _ _=>rfl,.inr λx y=>by cases y⟩;simp[Builtin.append_,run_underlying Q,sizeOf,typeInfo,a,Builtin.lenOf,Builtin.firstCells,loadCells,loadCellsFrom]
   .have F:=run_append_nil (P:=P) w t ty e i z Q a hz B m c (rW m sz g) (by rw[yX,C]) JH U (by unfold maxLen at O;omega) (by have hb:=MQ;simp only[ct]at hb;omega);have r7:=grownCap_ge w m 0 e;have H:grownCap w m 0 e<=maxLen:=grownCap_le_maxLen w m 0 e U;refine⟨_,_,F,.inr ⟨w.heap.size,0,_,_,aK,heap_alloc_new w.drew _,U,H,?_,?_,?_⟩,λx y=>.inr ?_,aK,λx y _=>Below.heap_alloc w.drew _ x y,rfl,rfl,rfl,λx y _=>Below.heap_alloc w.drew _ x y,.inr λx y=>by simp[bf]at y;subst y;simp⟩
    .simp only[atF,gY,size_zeroCells,N,yX,<-bT,ct];refine fz ?_;congr 1;omega
    .intro i j a r;have:=E i j a r;refine⟨?_,W i j a r⟩;rw[ct];simp only[rW,cV,List.range_zero,List.map_nil,List.nil_append]at this;rw[<-this,aw6]
     .simp [rW]
     .have⟨q,_⟩:=cF.1 this;simpa[rW]using q
    .intro X u s;rcases fA.1 s with s|s
     .exact V X u<|by simpa using s
     .simp only[Builtin.zeroCells,gp,gq]at s;obtain⟨q,l,rfl⟩:=s;have T:q%z.cells.size<z.cells.size:=bO _ U;rw[gr z.cells _ T];exact M X _<|atG T
    .simp [bf]at y;subst y;simp
  .have Zr:∀ k j,k<n->j<sz->p[h+(k*sz+j)]? = al (f k j):=λk j zy r=>(I k j zy r).1
   by_cases JL:n+m<=d
   .have y6:(rW m sz g).length=m*i.size:=by rw[yX,C]
    have av0:(n+m)*sz<=d*sz:=bX _ JL;have ZI:(n+m)*sz=n*sz+m*sz:=bT _ _ _;have pf:h+n*i.size+(rW m sz g).length<=p.size:=by rw[y6,C];omega
    have F:=asz (P:=P) w t ty e i Q a b h n d p L B m c (rW m sz g) y6 JH h1' JL pf;refine⟨_,_,F,.inr ⟨b,h,d,_,rfl,setRow_heap w b p _ e _ L,JL,H,?_,?_,?_⟩,λx y=>.inl y,aK,λx y jY=>setRow_other w b x _ λq=>jY<|by simp[bf,q],rfl,rfl,rfl,λx y jY=>setRow_other w b x _ λq=>jY<|by simp[bf,q],.inl ⟨b,h,d,d,rfl,rfl⟩⟩
    .simp only[gY,cD,cz,fB,dR];omega
    .intro k j zy r;refine⟨?_,W k j zy r⟩;have l:=E k j zy r;rw[atI,gZ,eu,cz,dR,dE U,C];by_cases xN:k<n
     .have T:k*sz+j<n*sz:=by
       have:=bX sz<|show k+1<=n from xN;rw[bT,bU]at this;omega
      rw[bt U,eW,bt U,Array.getElem?_toList];show _=al (if k<n then f k j else g (k-n) j);rw[bt xN];exact Zr k j xN r
     .have r7:n*sz<=k*sz+j:=by
       have:=bX sz (U:n<=k);omega
      have T:k*sz+j<(n+m)*sz:=by
       have:=bX sz<|show k+1<=n+m from zy;rw[bT,bU]at this;omega
      rw[bn U,eF<|by rw[yX];omega,(U:h+(k*sz+j)-(h+n*sz)=k*sz+j-n*sz),<-l,gn<|by rw[yX];exact r7,yX]
    .intro X u s;simp only[atT,dP]at s;rcases s with(s|s)|s
     .exact G X u<|by have:=fm s;simpa using this
     .exact V X u s
     .exact G X u<|by have:=fM s;simpa using this
   .have S:∀ j u,(rW n sz f)[j]? = al u->w.cell? ((⟨b,h,am⟩:az).add j)=al u:=by
     intro q u l;obtain⟨Y,Z,rfl,q4⟩:=Jf l;have:=Zr _ _ Y Z;rw[q4]at this;rw[show(⟨b,h,am⟩:az).add q=⟨b,h+q,am⟩from Addr.add_lit _ _ _];simp only[aC,L];simpa using this
    have F:=run_append_grow (P:=P) w t ty e i z Q a hz ⟨b,h,am⟩ n d (rW n sz f) (by rw[yX,C]) S B m c (rW m sz g) (by rw[yX,C]) JH U (by unfold maxLen at O;omega)<|growslice_fits U MQ;have r7:=grownCap_ge w (n+m) d e;have amn:grownCap w (n+m) d e<=maxLen:=grownCap_le_maxLen w (n+m) d e O;refine⟨_,_,F,.inr ⟨w.heap.size,0,_,_,aK,heap_alloc_new w.drew _,U,amn,?_,?_,?_⟩,λx y=>.inr ?_,aK,λx y _=>Below.heap_alloc w.drew _ x y,rfl,rfl,rfl,λx y _=>Below.heap_alloc w.drew _ x y,.inr λx y=>by simp[bf]at y;subst y;simp⟩
    .simp only[atF,gY,size_zeroCells,N,yX,<-bT,ct];refine fz ?_;congr 1;omega
    .intro k j zy r;refine⟨?_,W k j zy r⟩;rw[<-E k j zy r,ct];have l:k*sz+j<(rW n sz f++rW m sz g).length:=by
      have⟨q,_⟩:=cF.1<|E k j zy r;exact q
     rw[aw6<|by simpa using l];simp
    .intro X u s;rcases fA.1 s with s|s
     .rcases fA.1 s with s|s
      .have⟨q,l⟩:=dJ.1 (show u ∈ rW n sz f by simpa using s);obtain⟨Y,Z,rfl,_⟩:=Jf l;exact G X _<|dG (I _ _ Y Z).1
      .exact V X u<|by simpa using s
     .simp only[Builtin.zeroCells,gp,gq]at s;obtain⟨q,l,rfl⟩:=s;have T:q%z.cells.size<z.cells.size:=bO _ U;rw[gr z.cells _ T];exact M X _<|atG T
    .simp [bf]at y;subst y;simp
def nN.move{B L t w w'}(h:tw L w t w'){p v}(k:nN (jt B L) (jq L) L w p v)(s:∀ id,id ∈ p.mK->L.nc id->t.nc id/\t.val id=L.val id/\∀ j,t.jg id j=L.jg id j):nN (jt B t) (jq t) t w' p v:=by
 cases p with
 |e x=>exact h.kP k
 |box id X=>have⟨z,b,u,m⟩:=k;have q:=s id (by simp[PV.mK]) z;exact⟨q.1,b,by rw[q.2.1];exact u,m⟩
 |own id=>have⟨z,u⟩:=k;have q:=s id (by simp[PV.mK]) z;exact⟨q.1,by rw[q.2.1];exact u⟩
 |oe id Y i j=>have⟨z,b,o,n,c,u,m⟩:=k;have q:=s id (by simp[PV.mK]) z;exact⟨q.1,b,o,n,c,by rw[q.2.1];exact u,m⟩
 |jg id r=>have⟨z,u⟩:=k;have q:=s id (by simp[PV.mK]) z;exact⟨q.1,by rw[q.2.2];exact u⟩
 |rK id Y r i j=>have⟨z,b,o,n,c,u,m⟩:=k;have q:=s id (by simp[PV.mK]) z;exact⟨q.1,b,o,n,c,by rw[q.2.2];exact u,m⟩
 |qC f Z=>
  have⟨U,z,u,m⟩:=k;refine⟨U,z,u,λi c x l V=>?_⟩;have q:=m i c x l V;cases c with
  |e y=>exact h.kP q
  |box id=>
   have⟨g,b,d,a⟩:=q;have r:=s id (by simp only[PV.mK,eZ];exact⟨.box id,dX l,by simp[CV.mK]⟩) g;exact⟨r.1,b,by rw[r.2.1];exact d,a⟩
  |row id=>
   have⟨g,b,o,n,c,d,a⟩:=q;have r:=s id (by simp only[PV.mK,eZ];exact⟨.row id,dX l,by simp[CV.mK]⟩) g;exact⟨r.1,b,o,n,c,by rw[r.2.1];exact d,a⟩
def avb{id b}{p:PV}(h:p.mK.any (a2 id)=ac):p.oN (.sw id b)=p:=by
 cases p with
 |own i=>
  have:a2 i id=ac:=by
   simp only[PV.mK,fe,ia,gv]at h;exact dr λe=>by rw[e,cN]at h;cases h
  simp[PV.oN,this]
 |oe i s x j=>
  have:a2 i id=ac:=by
   simp only[PV.mK,fe,ia,gv]at h;exact dr λe=>by rw[e,cN]at h;cases h
  simp[PV.oN,this]
 |qC f a=>
  have:a.any (CV.JW id)=ac:=by
   rw[dt];intro c k r;cases c with
   |row i=>
    have y:i=id:=lY.1 r;have:=dt.1 h i (by simp only[PV.mK,eZ];exact⟨.row i,k,by simp[CV.mK]⟩);rw[y,cN]at this;exact this rfl
   |_=>cases r
  simp[PV.oN,this]
 |_=>rfl
def jy.fin{m B}{σ:PS}{a w L id nl T n sz el}(R:∀ b o,B b o->m.pX b)(r:jy m B (σ.pG<|.sw id<|.row nl T n sz el) a w L):∃ W,jy m B (σ.pG<|.fin id) a w W/\z (jt B W) (jq W) w (.sl nl n sz el) (L.val id):=by
 let W:Lk:=⟨λi=>L.nc i/\i≠id,λi x=>L.own i x/\i≠id,L.val,L.jg⟩
 have V:tw L w W w:=⟨bA _,λx _ ⟨i,h,_⟩=>⟨i,h⟩,λ_ _ _=>rfl⟩
 have l:∀ i,(σ.pG<|.fin id).bo i=if i=id then am else(σ.pG<|.sw id<|.row nl T n sz el).bo i:=by
  intro i;show look (σ.b.filter λx=>!a2 x.1 id) i=if i=id then am else look (tV σ.b id<|.row nl T n sz el) i
  rw[DS,At];by_cases h:i=id
  .subst h;simp
  .rw [bn h,bn λe=>h e.symm,bn λe=>h e.symm]
 have g:(σ.pG<|.sw id<|.row nl T n sz el).bo id=al (.row nl T n sz el):=by
  show look (tV σ.b id<|.row nl T n sz el) id=_;rw[At,bt rfl]
 have A:∀ x o,L.own id x->¬jt B W x o:=by
  rintro x o U (h|⟨i,d,X⟩)
  .exact (r.hw id x U).1<|R x o h
  .exact X<|r.hi i id x d U
 have v:z (jt B W) (jq W) w (.sl nl n sz el)<|L.val id:=by
  have⟨f,d,X,S⟩:=r.hb id _ g;rcases d with⟨s,rfl⟩|⟨b,Y,c,P,s,N,G,M,I,D,H⟩
  .rw [s];exact .sl nl 0 sz el am 0 f (bA _) aG (λ_=>rfl) (λi j y=>absurd y<|bD i) (λi j y=>absurd y<|bD i) (λi j y=>absurd y<|bD i) λi j y=>absurd y<|bD i
  .have Q:=(X b).2 (by rw[s];rfl);rw[s];refine .sl nl n sz el _ c f G (by unfold maxLen at M;omega) (λh=>by cases h) (λi j y u=>⟨(D i j y u).2,λF=>H F _<|dG (D i j y u).1⟩) (λi j y u=>(S i j y u).2)
    (λi j y u=>⟨b,Y,rfl,A b _ Q,(r.hw id b Q).2,?_⟩) (λi j y u=>V.kP (S i j y u).1)
   simp only[aC,N];simpa using(D i j y u).1
 refine⟨W,⟨r.hd,r.hs,λt=>?_,λi Z h=>?_,λi=>?_,λi x h=>⟨r.hn i x h.1,h.2⟩,λi x h=>r.hw i x h.1,λi E x h k=>r.hi i E x h.1 k.1,r.he,λh i Z k=>?_⟩,v⟩
 .have k:=r.ht t;rw[PS.EO]at k ⊢;generalize σ.get t=p at k ⊢;show nN _ _ _ _ (if p.mK.any (a2 id)then .e .any else p) _;cases hp:p.mK.any (a2 id)with
  |true=>exact .any _
  |false=>
   rw[avb hp]at k;refine nN.move V k λi y C=>⟨⟨C,?_⟩,rfl,λ_=>rfl⟩
   rintro rfl;have:=dt.1 hp i y;simp at this
 .rw [l]at h;split at h
  .cases h
  .rename_i y;exact(r.hb i Z h).later V rfl (λx=>⟨λq=>q.1,λq=>⟨q,y⟩⟩) (λ_=>rfl) λ_ _=>rfl
 .rw [l];show L.nc i/\i≠id↔_;by_cases y:i=id
  .subst y;simp
  .simp only[y,dH,ff,gw,bE];exact r.hv i
 .rw [l]at k;split at k
  .cases k
  .exact r.hl h i Z k
section
variable{id q:Nat}{b:Bx}{p:PV}
def afD(h:p.mK.any (λx=>a2 id x||a2 q x)=ac):p.oN (.tR id q b)=p:=by
 cases p with
 |box i o=>
  simp only[PV.mK,fe,ia,gv,fC]at h;have z:a2 i id=ac:=dr λe=>by rw[e,cN]at h;cases h.1
  have u:a2 i q=ac:=dr λe=>by rw[e,cN]at h;cases h.2
  simp[PV.oN,z,u]
 |e x=>simp[PV.oN,PV.mK]
 |own i=>show(if(PV.mK<|.own i).any _=aa then _ else _)=_;rw[h];rfl
 |oe i a b c=>show(if(PV.mK<|.oe i a b c).any _=aa then _ else _)=_;rw[h];rfl
 |jg i k=>show(if(PV.mK<|.jg i k).any _=aa then _ else _)=_;rw[h];rfl
 |rK i s k x j=>show(if(PV.mK<|.rK i s k x j).any _=aa then _ else _)=_;rw[h];rfl
 |qC f y=>show(if(PV.mK<|.qC f y).any _=aa then _ else _)=_;rw[h];rfl
def afC(h:p.mK.any (λx=>a2 id x||a2 q x)=aa)(z:∀ i o,p ≠ .box i o):p.oN (.tR id q b) = .e .any:=by
 cases p with
 |box i o=>exact absurd rfl (z i o)
 |e x=>simp[PV.mK]at h
 |own i=>show(if(PV.mK<|.own i).any _=aa then _ else _)=_;rw[h];rfl
 |oe i a b c=>show(if(PV.mK<|.oe i a b c).any _=aa then _ else _)=_;rw[h];rfl
 |jg i k=>show(if(PV.mK<|.jg i k).any _=aa then _ else _)=_;rw[h];rfl
 |rK i s k x j=>show(if(PV.mK<|.rK i s k x j).any _=aa then _ else _)=_;rw[h];rfl
 |qC f y=>show(if(PV.mK<|.qC f y).any _=aa then _ else _)=_;rw[h];rfl
end
def jy.tR{Q B σ a w L}(r:jy Q B σ a w L){id q T1 T0 n sz nl el x}(Z:σ.bo id=al (.cells T1 [x]))(A:σ.bo q=al (.row nl T0 n sz el))(Y:id≠q){b}(I:L.val id = .pointer (al ⟨b,0,am⟩)){w'}(hw:w'.heap[b]? = al (.cells #[L.val q] T1 (0,0)))(d:sM L w id (L.own id) w'):∃ g,jy Q B (σ.pG<|.tR id q<|.kn nl T1 T0 1 sz (λ_=>n) (λ_=>el) am) a w' g:=by
 let g:Lk:=⟨λi=>L.nc i/\i≠q,λi y=>if i=id then L.own id y\/L.own q y else L.own i y/\i≠q,λi=>if i=id then .slice (al ⟨b,0,am⟩) 1 1 else L.val i,λi j=>if i=id then L.val q else L.jg i j⟩
 have P:∀ y,jq g y->jq L y:=by
  rintro y ⟨i,v⟩;by_cases e:i=id
  .have v:L.own id y\/L.own q y:=by simpa[g,e]using v
   rcases v with h|h
   .exact ⟨id,h⟩
   .exact ⟨q,h⟩
  .have v:L.own i y/\i≠q:=by simpa[g,e]using v
   exact⟨i,v.1⟩
 have avV:∀ y,jq L y->jq g y:=by
  rintro y ⟨i,v⟩;by_cases e:i=id\/i=q
  .refine ⟨id,?_⟩;show if id=id then L.own id y\/L.own q y else _
   rw[bt rfl];rcases e with e|e<;>subst e
   .exact .inl v
   .exact .inr v
  .have l:i≠id:=λh=>e (.inl h)
   have z:i≠q:=λh=>e<|.inr h
   refine⟨i,?_⟩;show if i=id then _ else L.own i y/\i≠q
   rw[bn l];exact⟨v,z⟩
 have N:tw L w g w':=⟨d.size,λy _ h=>P y h,λy m hm=>d.oE y m λzy=>hm ⟨id,zy⟩⟩
 have J:∀ i,i≠id->g.val i=L.val i:=λi e=>by show(if i=id then _ else _)=_;rw[bn e]
 have K:∀ i,i≠id->∀ j,g.jg i j=L.jg i j:=λi e j=>by show(if i=id then _ else _)=_;rw[bn e]
 have C:∀ i,i≠id->∀ y,g.own i y↔L.own i y/\i≠q:=λi e y=>by show(if i=id then _ else _)↔_;rw[bn e]
 have T:∀ y,g.own id y↔L.own id y\/L.own q y:=λy=>by show(if id=id then _ else _)↔_;rw[bt rfl]
 have⟨b0,vs,O,M,i3,i4,i5⟩:=r.hb id _ Z;rw[I]at O;cases O;have⟨f,W,S,q3⟩:=r.hb q _ A;have uk:L.nc id:=(r.hv id).2 (by rw[Z];rfl);have M9:∀ i y,i≠id->L.own i y->w'.heap[y]? = w.heap[y]?:=λi y e m=>d.oE y (r.hw i y m).2 λzy=>e<|r.hi i id y m zy
 have D:∀ i,(σ.pG<|.tR id q<|.kn nl T1 T0 1 sz (λ_=>n) (λ_=>el) am).bo i=if id=i then al (.kn nl T1 T0 1 sz (λ_=>n) (λ_=>el) am)else if i=q then am else σ.bo i:=by
  intro i;show look (tV (σ.b.filter λy=>!a2 y.1 q) id _) i=_;rw[At];by_cases e:id=i
  .rw [bt e,bt e]
  .rw [bn e,bn e,DS];by_cases z:q=i
   .rw [bt z,bt z.symm]
   .rw [bn z,bn λh=>z h.symm];rfl
 have pO:qZ Q w w':=⟨d.os,d.tape,d.output,d.size,λy m=>d.oE y (bJ m.1 r.he.size) λzy=>(r.hw id y zy).1 m⟩
 have kD:(L.val q).oneCell'=aa/\qI (L.val q)=ac:=by
  rcases W with⟨h,_⟩|⟨b1,o1,c1,cur,h,_⟩<;>rw[h]<;>exact⟨rfl,rfl⟩
 refine⟨g,r.hd,r.hs,λt=>?_,λi H s=>?_,λi=>?_,λi y m=>?_,λi y m=>?_,λi j y v X=>?_,r.he.trans pO,λBh i H s=>?_⟩
 .rw [PS.EO];have k:=r.ht t;generalize σ.get t=p at k ⊢;cases c:p.mK.any (λy=>a2 id y||a2 q y)with
  |false=>
   rw[afD c];refine k.move N λi v hl=>?_
   have:=dt.1 c i v;simp only[eG,not_or]at this;have l:i≠id:=λe=>this.1<|by rw[e];exact cN _
   have z:i≠q:=λe=>this.2<|by rw[e];exact cN _
   exact⟨⟨hl,z⟩,J i l,K i l⟩
  |true=>
   by_cases jP:∃ i o,p = .box i o
   .obtain ⟨i,o,rfl⟩:=jP;have⟨k1,b1,k2,k3⟩:=k;by_cases l:i=id
    .subst l;by_cases e0:o=0
     .subst e0;simp only[PV.oN,cN,bK];rw[I]at k2;cases k2;exact⟨⟨k1,Y⟩,b,0,1,1,by show(if i=i then _ else _)=_;rw[bt rfl],by simpa using k3⟩
     .simp only[PV.oN,cN,bK,dr e0,bS,bE];exact .any _
    .have z:i=q:=by
      simp only[PV.mK,fe,ia,gv,eG]at c;rcases c with c|c
      .exact absurd (lY.1 c).symm l
      .exact (lY.1 c).symm
     simp only[PV.oN,dr l,bS,bE,z,cN,bK];have e3:a2 q id=ac:=dr λh=>Y h.symm
     simp only[e3,bS,bE];exact .any _
   .rw [afC c λi o h=>jP ⟨i,o,h⟩];exact .any _
 .rw [D]at s;by_cases e:id=i
  .subst e;rw[bt rfl]at s;cases s;have V:∀ j,g.jg id j=L.val q:=λj=>by show(if id=id then _ else _)=_;rw[bt rfl]
   refine .inr ⟨b,0,1,#[L.val q],λ_=>f,by show(if id=id then _ else _)=_;rw[bt rfl],hw,bA _,aG,aK,λk G _=>?_,λu hu=>?_,λk G=>?_,λy=>?_,λk k' y G Bd _ _=> U,λk G=>?_⟩
   .obtain rfl:k=0:= U ;rw[V];rfl
   .have:u=L.val q:=by simpa using hu
    rw[this];exact kD.2
   .rw [V];exact⟨W.block λy m=>M9 q y (λh=>Y h.symm)<|(S y).2 m,λi j v X=>⟨N.kP (q3 i j v X).1,(q3 i j v X).2⟩⟩
   .rw [T];constructor
    .rintro (h|h)
     .exact .inl<|(M y).1 h
     .exact .inr ⟨0,aG,by rw[V];exact(S y).1 h⟩
    .rintro (h|⟨k,_,h⟩)
     .exact .inl<|(M y).2 h
     .rw [V]at h;exact .inr<|(S y).2 h
   .rw [V];intro h;exact Y<|r.hi id q b ((M b).2 rfl)<|(S b).2 h
  .rw [bn e]at s;by_cases z:i=q
   .rw [bt z]at s;cases s
   .rw [bn z]at s;have R:i≠id:=λh=>e h.symm
    exact(r.hb i H s).later N (J i R) (λy=>(C i R y).trans ⟨λh=>h.1,λh=>⟨h,z⟩⟩) (K i R) λy m=>M9 i y R m
 .rw [D];show L.nc i/\i≠q↔_;by_cases e:id=i
  .subst e;rw[bt rfl];exact⟨λ_=>rfl,λ_=>⟨uk,Y⟩⟩
  .rw [bn e];by_cases z:i=q
   .subst z;simp
   .rw [bn z];exact⟨λh=>(r.hv i).1 h.1,λh=>⟨(r.hv i).2 h,z⟩⟩
 .by_cases e:i=id
  .subst e;exact⟨uk,Y⟩
  .have:=(C i e y).1 m;exact⟨r.hn i y this.1,this.2⟩
 .by_cases e:i=id
  .subst e;rcases(T y).1 m with h|h
   .exact ⟨(r.hw _ y h).1,bJ (r.hw _ y h).2 d.size⟩
   .exact ⟨(r.hw _ y h).1,bJ (r.hw _ y h).2 d.size⟩
  .have h:=((C i e y).1 m).1;exact⟨(r.hw _ y h).1,bJ (r.hw _ y h).2 d.size⟩
 .by_cases l:i=id
  .by_cases z:j=id
   .rw [l,z]
   .exfalso;subst l;have F:=(C j z y).1 X;rcases(T y).1 v with h|h
    .exact z<|r.hi j _ y F.1 h
    .exact F.2<|r.hi j q y F.1 h
  .by_cases z:j=id
   .exfalso;subst z;have E:=(C i l y).1 v;rcases(T y).1 X with h|h
    .exact l<|r.hi i _ y E.1 h
    .exact E.2<|r.hi i q y E.1 h
   .exact r.hi i j y ((C i l y).1 v).1 ((C j z y).1 X).1
 .rw [D]at s;by_cases e:id=i
  .rw [bt e]at s;cases s;show nl=aa;exact r.hl Bh q (.row nl T0 n sz el) A
  .rw [bn e]at s;by_cases z:i=q
   .rw [bt z]at s;cases s
   .rw [bn z]at s;exact r.hl Bh i H s
def Lk.tn(L:Lk)(id q:Nat)(O:Nat->Prop)(v:av)(g:Nat->av):Lk:=
 {nc:=λi=>(i=id\/L.nc i)/\i≠q
  own:=λi x=>if i=id then O x else L.own i x/\i≠q
  val:=λi=>if i=id then v else L.val i
  jg:=λi j=>if i=id then g j else L.jg i j }
def jy.tn{X B σ a w L}(r:jy X B σ a w L){id q}(Z:id≠q)b' O v jg w'(U:∀ x,O x->(L.own id x\/L.own q x\/w.heap.size<=x)/\x<w'.heap.size)(F:w.heap.size<=w'.heap.size)(V:∀ x,x<w.heap.size->¬L.own id x->w'.heap[x]? = w.heap[x]?)(M:w'.os=w.os)(H:w'.tape=w.tape)(E:w'.output=w.output)(G:tw L w (L.tn id q O v jg) w'->qY (jt B<|L.tn id q O v jg) (jq<|L.tn id q O v jg) (L.tn id q O v jg) w' id b')(I:L.nc id->∀ b,L.val id ≠ .pointer (al b))(J:σ.nl=aa->b'.nl=aa):jy X B (σ.pG<|.tR id q b') a w'<|L.tn id q O v jg:=by
 have Q:∀ i,i≠id->(L.tn id q O v jg).val i=L.val i:=λi e=>by show(if i=id then _ else _)=_;rw[bn e]
 have A:∀ i,i≠id->∀ j,(L.tn id q O v jg).jg i j=L.jg i j:=λi e j=>by show(if i=id then _ else _)=_;rw[bn e]
 have C:∀ i,i≠id->∀ y,(L.tn id q O v jg).own i y↔L.own i y/\i≠q:=λi e y=>by show(if i=id then _ else _)↔_;rw[bn e]
 have Y:∀ y,(L.tn id q O v jg).own id y↔O y:=λy=>by show(if id=id then _ else _)↔_;rw[bt rfl]
 have T:tw L w (L.tn id q O v jg) w':=by
  refine⟨F,λy s h=>?_,λy s K=>V y s λd=>K ⟨id,d⟩⟩;have⟨i,l⟩:=h;by_cases e:i=id
  .subst e;rcases(U y<|(Y y).1 l).1 with h|h|h
   .exact ⟨i,h⟩
   .exact ⟨q,h⟩
   .omega
  .exact ⟨i,((C i e y).1 l).1⟩
 have D:∀ i,(σ.pG<|.tR id q b').bo i=if id=i then al b' else if i=q then am else σ.bo i:=by
  intro i;show look (tV (σ.b.filter λy=>!a2 y.1 q) id _) i=_;rw[At];by_cases e:id=i
  .rw [bt e,bt e]
  .rw [bn e,bn e,DS];by_cases z:q=i
   .rw [bt z,bt z.symm]
   .rw [bn z,bn λh=>z h.symm];rfl
 have W:qZ X w w':=⟨M,H,E,F,λy s=>V y (bJ s.1 r.he.size) λd=>(r.hw id y d).1 s⟩
 have M9:∀ i y,i≠id->L.own i y->w'.heap[y]? = w.heap[y]?:=λi y e s=>V y (r.hw i y s).2 λd=>e<|r.hi i id y s d
 have S:∀ i y,L.own i y->¬X.pX y/\y<w'.heap.size:=λi y h=>⟨(r.hw i y h).1,bJ (r.hw i y h).2 F⟩
 refine⟨r.hd,r.hs,λt=>?_,λi b u=>?_,λi=>?_,λi y s=>?_,λi y s=>?_,λi j y l R=>?_,r.he.trans W,λP i b u=>?_⟩
 .rw [PS.EO];have k:=r.ht t;generalize σ.get t=p at k ⊢;cases m:p.mK.any (λy=>a2 id y||a2 q y)with
  |false=>
   rw[afD m];refine k.move T λi l hl=>?_
   have:=dt.1 m i l;simp only[eG,not_or]at this;have n:i≠id:=λe=>this.1<|by rw[e];exact cN _
   have z:i≠q:=λe=>this.2<|by rw[e];exact cN _
   exact⟨⟨.inr hl,z⟩,Q i n,A i n⟩
  |true=>
   by_cases N:∃ i o,p = .box i o
   .obtain ⟨i,o,rfl⟩:=N;have⟨k1,b1,k2,k3⟩:=k;by_cases n:i=id
    .subst n;exact absurd k2<|I k1 _
    .have z:i=q:=by
      simp only[PV.mK,fe,ia,gv,eG]at m;rcases m with m|m
      .exact absurd (lY.1 m).symm n
      .exact (lY.1 m).symm
     have e3:a2 q id=ac:=dr λh=>Z h.symm
     simp only[PV.oN,z,e3,cN,bK,bS,bE];exact .any _
   .rw [afC m λi o h=>N ⟨i,o,h⟩];exact .any _
 .rw [D]at u;by_cases e:id=i
  .subst e;rw[bt rfl]at u;cases u;exact G T
  .rw [bn e]at u;by_cases z:i=q
   .rw [bt z]at u;cases u
   .rw [bn z]at u;have f:i≠id:=λh=>e h.symm
    exact(r.hb i b u).later T (Q i f) (λy=>(C i f y).trans ⟨λh=>h.1,λh=>⟨h,z⟩⟩) (A i f) λy s=>M9 i y f s
 .rw [D];show(i=id\/L.nc i)/\i≠q↔_;by_cases e:id=i
  .subst e;rw[bt rfl];exact⟨λ_=>rfl,λ_=>⟨.inl rfl,Z⟩⟩
  .rw [bn e];have f:i≠id:=λh=>e h.symm
   by_cases z:i=q
   .subst z;simp
   .rw [bn z];exact⟨λh=>(r.hv i).1<|h.1.resolve_left f,λh=>⟨.inr<|(r.hv i).2 h,z⟩⟩
 .by_cases e:i=id
  .subst e;exact⟨.inl rfl,Z⟩
  .have:=(C i e y).1 s;exact⟨.inr<|r.hn i y this.1,this.2⟩
 .by_cases e:i=id
  .subst e;have⟨h,g⟩:=U y<|(Y y).1 s;rcases h with h|h|h
   .exact ⟨(r.hw _ y h).1,g⟩
   .exact ⟨(r.hw _ y h).1,g⟩
   .exact ⟨mj.ab9 r.he.size h,g⟩
  .exact S i y ((C i e y).1 s).1
 .have c:∀ j,j≠id->L.own j y/\j≠q->O y->False:=by
   intro j e g h;rcases(U y h).1 with h|h|h
   .exact e<|r.hi j _ y g.1 h
   .exact g.2<|r.hi j q y g.1 h
   .have:=(r.hw j y g.1).2;omega
  by_cases n:i=id
  .by_cases z:j=id
   .rw [n,z]
   .subst n;exact(c j z ((C j z y).1 R)<|(Y y).1 l).elim
  .by_cases z:j=id
   .subst z;exact(c i n ((C i n y).1 l)<|(Y y).1 R).elim
   .exact r.hi i j y ((C i n y).1 l).1 ((C j z y).1 R).1
 .rw [D]at u;by_cases e:id=i
  .rw [bt e]at u;cases u;exact J P
  .rw [bn e]at u;by_cases z:i=q
   .rw [bt z]at u;cases u
   .rw [bn z]at u;exact r.hl P i b u
section
variable{L:Lk}{id q:Nat}{O:Nat->Prop}{v:av}{g:Nat->av}
def Lk.aaL x:(L.tn id q O v g).own id x↔O x:=by simp[Lk.tn]
def Lk.J0:(L.tn id q O v g).val id=v:=by simp[Lk.tn]
def Lk.Bo k:(L.tn id q O v g).jg id k=g k:=by simp[Lk.tn]
end
def Lk.Ss{L:Lk}{id q}(j:id≠q){O v g}:(L.tn id q O v g).nc id:=⟨.inl rfl,j⟩
def jy.Xq{u B σ a w L}(r:jy u B σ a w L)id:∃ z,jy u B (σ.pG<|.fin id) a w z/\(∀ i x,z.own i x->L.own i x)/\(σ.pG<|.fin id).bo id=am:=by
 let z:Lk:=⟨λi=>L.nc i/\i≠id,λi x=>L.own i x/\i≠id,L.val,L.jg⟩
 have V:tw L w z w:=⟨bA _,λx _ ⟨i,h,_⟩=>⟨i,h⟩,λ_ _ _=>rfl⟩
 have v:∀ i,(σ.pG<|.fin id).bo i=if i=id then am else σ.bo i:=by
  intro i;show look (σ.b.filter λx=>!a2 x.1 id) i=_;rw[DS];by_cases h:i=id
  .rw [bt h,bt h.symm]
  .rw [bn h,bn λe=>h e.symm];rfl
 refine⟨z,⟨r.hd,r.hs,λt=>?_,λi b h=>?_,λi=>?_,λi x h=>⟨r.hn i x h.1,h.2⟩,λi x h=>r.hw i x h.1,λi s x h k=>r.hi i s x h.1 k.1,r.he,λh i b k=>?_⟩,λi x h=>h.1,by rw[v,bt rfl]⟩
 .rw [PS.EO];have k:=r.ht t;generalize σ.get t=p at k ⊢;show nN _ _ _ _ (if p.mK.any (a2 id)then .e .any else p) _;cases hp:p.mK.any (a2 id)with
  |true=>exact .any _
  |false=>
   refine nN.move V k λi y n=>⟨⟨n,?_⟩,rfl,λ_=>rfl⟩
   rintro rfl;have:=dt.1 hp i y;simp at this
 .rw [v]at h;split at h
  .cases h
  .rename_i y;exact(r.hb i b h).later V rfl (λx=>⟨λq=>q.1,λq=>⟨q,y⟩⟩) (λ_=>rfl) λ_ _=>rfl
 .rw [v];show L.nc i/\i≠id↔_;by_cases y:i=id
  .subst y;simp
  .simp only[y,dH,ff,gw,bE];exact r.hv i
 .rw [v]at k;split at k
  .cases k
  .exact r.hl h i b k
def XD(σ:PS)id b:(σ.pG<|.fin id).pG (.new id b)=σ.pG (.Ed id b):=by
 have h:tV (σ.b.filter λx=>!a2 x.1 id) id b=tV σ.b id b:=by
  unfold tV;rw[List.filter_filter];congr 2;funext x;cases a2 x.1 id<;>rfl
 show PS.mk σ.n σ.nl (σ.t.map _) (tV (σ.b.filter λx=>!a2 x.1 id) id b)=PS.mk σ.n σ.nl (σ.t.map _) (tV σ.b id b);rw[h];rfl
def afy{T t x}(h:mS T t=al x):x ∈ T/\x.id=t:=by
 induction T with
 |nil=>cases h
 |cons y l i=>
  unfold mS at h;split at h
  .rename_i b;cases h;exact⟨aK,lY.1 b⟩
  .have⟨k,z⟩:=i h;exact⟨by simp[k],z⟩
section
variable{P:aw}{T:List TI}(z:mP P T){t:ay}{x:TI}(h:mS T t=al x)
def mP.sJ:P.underlying t=al x.d:=by
 have⟨k,y⟩:=afy h;rw[<-y];exact(z x k).1
def mP.Bn:P.info? t=al x.i:=by
 have⟨k,y⟩:=afy h;rw[<-y];exact(z x k).2
end
def Dl{T t d}(h:Aa T t=al d):∃ x,mS T t=al x/\x.d=d:=by
 unfold Aa at h;split at h
 .rename_i x k;exact⟨x,k,by simpa using h⟩
 .cases h
section
variable {P:aw} {T:List TI} (y:mP P T) (w:ap)
include y
section
variable{t:ay}{x:TI}(h:mS T t=al x)
def vJ:(sizeOf t).run P w = .ok x.i.size w:=by
 simp[sizeOf,typeInfo,y.Bn h]
def Ue{z}(k:x.i.zero=al z):(zeroValue t).run P w = .ok z w:=by
 simp[zeroValue,typeInfo,y.Bn h,k]
def Ot:(isAgg t).run P w = .ok x.isAgg w:=by
 unfold isAgg TI.isAgg;rw[Sem.run_bind,run_underlying (y.sJ h) w];cases x.d<;>simp
def adY(a:x.isAgg=aa)b o(vs:List av)(l:vs.length=x.i.size)(c:∀ (j:Nat) (u:av),vs[j]? = al u->w.cell? ⟨b,o+j,am⟩=al u):(loadVar t ⟨b,o,am⟩).run P w = .ok (.agg vs.toArray) w:=by
 have r:=run_loadCells_list (P:=P) w ⟨b,o,am⟩ vs (λj v k=>by rw[Addr.add_lit];exact c j v k);rw[l]at r;simp[loadVar,Ot y w h,a,vJ y w h,r]
def Ud(a:x.isAgg=ac)b o u(c:w.cell? ⟨b,o,am⟩=al u):(loadVar t ⟨b,o,am⟩).run P w = .ok u w:=by
 simp[loadVar,Ot y w h,a,c]
def KU b o E c(g:w.heap[b]? = al (.cells c E (0,0)))v(l:v.cells.toList.length=x.i.size)(p:o+v.cells.toList.length<=c.size)(k:∀ u ∈ v.cells.toList,u.oneCell'=aa):
 (storeVar t ⟨b,o,am⟩ v).run P w = .ok () (w.setRow b (c.toList.take o++v.cells.toList++c.toList.drop (o+v.cells.toList.length)).toArray):=by
 have r:=run_storeCells_at P b o E v.cells.toList 0 c w g (by simpa using p) k;simp only[bV]at r;have q:v.cells.size=x.i.size:=by simpa using l
 simp only[storeVar,Sem.run_bind,vJ y w h,Result.andThen,q,dH,awK,bE,r,Sem.run_ite,Sem.run_pure]
end
end
def sM.setRow{L w id b}(k:L.own id b)(i:∀ x,L.own id x->x<w.heap.size)cs:sM L w id (L.own id)<|w.setRow b cs:=
 ⟨λx h=>⟨.inl h,by simpa using i x h⟩,aK,λx _ j=>setRow_other w b x cs λe=>j<|e▸k,rfl,rfl,rfl⟩
def kI(P:aw)(K:ap->Prop)(x:mj)(B:Nat->Nat->Prop)(σ:PS)(o:Oper)(a:Act)(w:ap)(u:kZ):Prop:=
 ∃ v h L,((execOp a.eval o).run P w = .ok (.value v) h\/((execOp a.eval o).run P w = .ok .skip h/\v=undef))/\jy x B (σ.pG u.f) a h L/\nN (jt B L) (jq L) L h u.r v
section
variable {P:aw} {K:ap->Prop} {w0:mj} {B:Nat->Nat->Prop} {σ:PS} {o:Oper} {a:Act} {w:ap} {L:Lk} {u:kZ}
def kI.pure(r:jy w0 B σ a w L){v}(l:(execOp a.eval o).run P w = .ok (.value v) w)(h:u.f = .none)(p:nN (jt B L) (jq L) L w u.r v):kI P K w0 B σ o a w u:=
 ⟨v,w,L,.inl l,by rw[h];exact r,p⟩
def jy.read(r:jy w0 B σ a w L){p v}(X:nN (jt B L) (jq L) L w p v){m l is W}(h:σ.read p m=al (l,is,W))(F:∀ q,q ∈ W->q):
 ∃ b q vs,v = .pointer (al ⟨b,q,am⟩)/\lf (jt B L) (jq L) w l vs/\vs.length=m/\∀ (j:Nat) (u:av),vs[j]? = al u->w.cell? ⟨b,q+j,am⟩=al u:=by
 have Y:∀ (b q:Nat) (g:Nat->E) (f:Nat->av),(∀ j,j<m->w.cell? ⟨b,q+j,am⟩=al (f j)/\z (jt B L) (jq L) w (g j) (f j)) ->
  ∃ vs:List av,lf (jt B L) (jq L) w ((be m).map g) vs/\vs.length=m/\∀ (j:Nat) (u:av),vs[j]? = al u->w.cell? ⟨b,q+j,am⟩=al u:=by
  intro b q g f hc;refine⟨(be m).map f,⟨aK,λi p x X hx=>?_⟩,aK,λj u t=>?_⟩
  .rw [cQ]at X hx;obtain⟨i1,G,rfl⟩:=dc.1 X;obtain⟨i2,uj,rfl⟩:=dc.1 hx;rw[G]at uj;cases uj;obtain⟨V,rfl⟩:=cF.1 G;simp at V;simpa using(hc i V).2
  .rw [cQ]at t;obtain⟨i1,G,rfl⟩:=dc.1 t;obtain⟨V,rfl⟩:=cF.1 G;simp at V;simpa using(hc j V).1
 cases p with
 |box zy Z=>
  simp only[PS.read]at h;split at h
  .rename_i T l0 D;split at h
   .rename_i y;simp only[bQ,ch]at h;obtain⟨rfl,rfl,rfl⟩:=h;have⟨b,vs,zx,h2,S,h4,h5⟩:=r.hb zy _ D;obtain⟨_,b',d,rfl⟩:=X;rw[zx]at d;cases d;have GQ:=cY y;refine⟨b,Z,(vs.drop Z).take m,rfl,(h4.drop Z).take m,by simp[h4.len];omega,λj u t=>?_⟩;rw[eW]at t;split at t
    .rw [e9]at t;simp only[aC,S];simpa using t
    .cases t
   .cases h
  .cases h
 |oe zy sz i j=>
  simp only[PS.read]at h;split at h
  .rename_i nl T n s R D;split at h
   .rename_i y;simp only[bQ,ch]at h;obtain⟨rfl,rfl,rfl⟩:=h;simp only[bN]at y;have C:=lY.1 y.1;have e2:=cY y.2;subst C;have Q:i<n:=F _ aK;have⟨f,zx,h2,S⟩:=r.hb zy _ D;obtain⟨_,b,o,n',c',d,rfl⟩:=X;rcases zx with⟨zx,_⟩|⟨b',A,c,I,zx,J,qG,oX,pP,K,ke⟩
    .rw [d]at zx;cases zx
    .rw [d]at zx;cases zx;have⟨vs,P,N,M⟩:=Y b (o+(i*s+j)) (λq=>R i<|j+q) (λq=>f i<|j+q) (λq hq=>⟨by
      simp only[aC,J];have:=(K i (j+q) Q U).1;rw[<-cU,<-cU]at this;simpa[cU]using this,(S i (j+q) Q U).1⟩)
     exact⟨b,o+(i*s+j),vs,rfl,P,N,M⟩
   .cases h
  .cases h
 |rK zy sz k i j=>
  simp only[PS.read]at h;split at h
  .rename_i nl T1 T0 n s O R pend D;split at h
   .rename_i y;simp only[bQ,ch]at h;obtain⟨rfl,rfl,rfl⟩:=h;simp only[bN]at y;have C:=lY.1 y.1;have e2:=cY y.2;subst C;have hk:k<n:=F _ aK;have Q:i<O k:=F _ aK;have⟨b0,ofs0,c0,cur0,f,g1,g2,g3,g4,g5,g6,g7,g8,_⟩:=(r.hb zy _ D).xm U;have⟨zx,S⟩:=g8 k hk;obtain⟨_,b,o,n',c',d,rfl⟩:=X;rcases zx with⟨zx,_⟩|⟨b',A,c,I,zx,J,qG,oX,pP,K,ke⟩
    .rw [d]at zx;cases zx
    .rw [d]at zx;cases zx;have⟨vs,P,N,M⟩:=Y b (o+(i*s+j)) (λq=>R k i<|j+q) (λq=>f k i<|j+q) (λq hq=>⟨by
      simp only[aC,J];have:=(K i (j+q) Q U).1;rw[<-cU,<-cU]at this;simpa[cU]using this,(S i (j+q) Q U).1⟩)
     exact⟨b,o+(i*s+j),vs,rfl,P,N,M⟩
   .cases h
  .cases h
 |e x=>
  cases x with
  |jE k R=>
   simp only[PS.read]at h;split at h
   .rename_i y;simp only[bQ,ch]at h;obtain⟨rfl,rfl,rfl⟩:=h;have GQ:=cY y;cases X with
    |jE _ _ b q f hb V hl H kk=>
     have⟨vs,P,N,M⟩:=Y b q R f λj hj=>⟨H j U,kk j U⟩;exact⟨b,q,vs,rfl,P,N,M⟩
   .cases h
  |_=>cases h
 |_=>cases h
def F8{t l}(h:xt t=al l):∃ k,t.i.zero=al k/\∀ (bs:Nat->Nat->Prop) (br:Nat->Prop) (w:ap),lf bs br w l k.cells.toList/\∀ u ∈ k.cells.toList,u.oneCell'=aa:=by
 unfold xt at h;split at h
 .rename_i k x;exact⟨k,x,λbs br w=>(z.v (bs:=bs) (br:=br) (w:=w) k).cells h⟩
 .cases h
def jy.ab0(r:jy w0 B σ a w L)id T l(v:av)(q:σ.bo id=am)(y:lf (jt B L) (jq L) w l v.cells.toList)(z:∀ u ∈ v.cells.toList,u.oneCell'=aa)(e:(!σ.nl||l.all E.nT)=aa):
 ∃ k,jy w0 B (σ.pG<|.new id<|.cells T l) a (w.alloc<|.cells v.cells T) k/\nN (jt B k) (jq k) k (w.alloc<|.cells v.cells T) (.box id 0) (.pointer<|al ⟨w.heap.size,0,am⟩):=by
 have b:Below w.heap.size w<|w.alloc<|.cells v.cells T:=(Below.refl _ _).alloc (bA _) _;have Z:∀ x,¬L.own id x:=λx h=>by have:=(r.hv id).1<|r.hn id x h;rw[q]at this;simp at this
 have t:sM L w id (λx=>x=w.heap.size)<|w.alloc<|.cells v.cells T:=⟨λx h=>⟨.inr U,aS⟩,b.size,λx h _=>b.block x h,rfl,rfl,rfl⟩
 have s:=t.later (.pointer<|al ⟨w.heap.size,0,am⟩) λ_=>undef;refine⟨_,r.new id (.cells T l) (λx=>x=w.heap.size) (.pointer<|al ⟨w.heap.size,0,am⟩) (λ_=>undef) _ q (λx h=>by subst h;simp) b
  ⟨w.heap.size,v.cells.toList,Lk.qk,λx=>Lk.uB x,by rw[Array.toArray_toList];exact heap_alloc_new w _,y.mono λ_ _=>s.kP,z⟩ e,Lk.CQ,w.heap.size,Lk.qk,rfl⟩
def NH{d b x}(h:DW σ d b x=al u):∃ id,d=al id/\(!σ.nl||b.nl)=aa/\u={ r:=x id,f:=xk σ id b,rb:=CG σ id [] }:=by
 unfold DW at h;split at h
 .rename_i id;split at h
  .rename_i c;cases h;exact⟨id,rfl,c,rfl⟩
  .cases h
 .cases h
def jy.ab1(r:jy w0 B σ a w L)id T l(v:av)(y:lf (jt B L) (jq L) w l v.cells.toList)(g:∀ u ∈ v.cells.toList,u.oneCell'=aa)(e:(!σ.nl||l.all E.nT)=aa):
 ∃ k,jy w0 B (σ.pG<|xk σ id<|.cells T l) a (w.alloc<|.cells v.cells T) k/\nN (jt B k) (jq k) k (w.alloc<|.cells v.cells T) (.box id 0) (.pointer<|al ⟨w.heap.size,0,am⟩):=by
 unfold xk;split
 .rename_i U;exact r.ab0 id T l v U y g e
 .have⟨s,q,o,U⟩:=r.Xq id;have m:∀ x,jq s x->jq L x:=λx ⟨i,p⟩=>⟨i,o i x p⟩
  have⟨k,t,n⟩:=q.ab0 id T l v U (y.mono λ_ _=>z.qS (λx _ h=>h.elim .inl λh=>.inr<|m x h) m) g e;rw[XD]at t;exact⟨k,t,n⟩
def Kg{d b x k}(h:CC σ d b x k=al u):∃ id,d=al id/\σ.bo id=am/\(!σ.nl||b.nl)=aa/\u={ r:=x id,f:=.new id b,ki:=k }:=by
 unfold CC at h;split at h
 .rename_i id;split at h
  .rename_i U;split at h
   .rename_i c;cases h;exact⟨id,rfl,U,c,rfl⟩
   .cases h
  .cases h
 .cases h
end
def Lf{k z}(h:lN k z):k.wrap z=z:=by
 cases k<;>simp only[lN]at h<;>simp only[IntKind.wrap,IntKind.bits,IntKind.signed]<;>simp<;>(try split)<;>omega
def ar6{k x y}(h:lN k x)(s:0<y):lN k<|x.tdiv y:=by
 by_cases u:0<=x
 .have v:0<=x/y:=Int.ediv_nonneg u U ;have t:x/y<=x:=Int.ediv_le_self y u;rw[aw7 u];cases k<;>simp only[lN]at h ⊢ <;> omega
 .obtain ⟨z,rfl⟩:∃ z,x = -z:=⟨-x,U⟩
  have u:0<=z:= U ;have v:0<=z/y:=Int.ediv_nonneg u U;have t:z/y<=z:=Int.ediv_le_self y u;rw[Int.neg_tdiv,aw7 u];cases k<;>simp only[lN]at h ⊢ <;> omega
def aki{P p k k' x y v i}(h:Qm p k x y=al (v,i))(o:∀ q,q ∈ i->q)(s:ad2 p k k'=aa)t w:(binOp p t (.int k x)<|.int k' y).run P w = .ok v w:=by
 cases p<;>simp only[Qm,bQ,ch,reduceCtorEq]at h<;>(obtain⟨rfl,rfl⟩:=h)<;>(try (have B:=cS s;subst B))
 case add=>
  rw[binOp_add];by_cases M:k = .u32
  .subst M;simp[Op.intArith,Po]
  .have e:Po k x y=x+y:=by cases k<;>first|rfl|exact absurd rfl M
   have r:Vb k x y=[lN k<|x+y]:=by cases k<;>first|rfl|exact absurd rfl M
   rw[e];simp[Op.intArith,Lf<|o (lN k<|x+y)<|by rw[r];simp]
 case sub=>rw[binOp_sub];simp[Op.intArith,Lf<|o (lN k<|x-y) aK]
 case mul=>rw[binOp_mul];simp[Op.intArith,Lf<|o (lN k<|x*y) aK]
 case quo=>
  have z:=o (0<y) aK;have n:=o (lN k x) aK;rw[binOp_quo];have u:¬y=0:= U ;simp[Op.intDiv,u,Lf<|ar6 n z]
 case rem=>
  have z:=o (0<y) aK;rw[binOp_rem];have u:¬y=0:= U ;simp[Op.intDiv,u]
 case and=>rw[binOp_and,intBits_and];rfl
 case or=>rw[binOp_or,intBits_or];rfl
 case andNot=>rw[binOp_andNot,intBits_andNot];rfl
 case shl=>
  have z:=o (0<=y/\y<=k.bits) aK;rw[binOp_shl,shift_shl k k' x y z.1 z.2];rfl
 case shr=>
  have z:=o (0<=y/\y<=k.bits) aK;rw[binOp_shr,shift_shr k k' x y z.1 z.2];rfl
 case eql=>rw[binOp_eql];rfl
 case neq=>rw[binOp_neq];rfl
 case lss=>rw[binOp_lss];rfl
 case leq=>rw[binOp_leq];rfl
 case gtr=>rw[binOp_gtr];rfl
 case geq=>rw[binOp_geq];rfl
section
variable {P:aw} {K:ap->Prop} {T:List TI} {O:rT} {w0:mj} {B:Nat->Nat->Prop} {σ:PS} {o:Oper} {a:Act} {w:ap} {L:Lk} {u:kZ}
def alG{x}(i:o.op = .move x)(r:jy w0 B σ a w L)(h:kj P K T O σ o=al u):kI P K w0 B σ o a w u:=by
 simp only[kj,i]at h;cases h;exact kI.pure r (by simp only[execOp,i];rfl) rfl (r.op x)
def alk{x}(i:o.op = .assign x)(r:jy w0 B σ a w L)(h:kj P K T O σ o=al u):kI P K w0 B σ o a w u:=by
 simp only[kj,i]at h;cases h;exact kI.pure r (by simp only[execOp,i];rfl) rfl (r.op x)
def alI{c x y}(i:o.op = .pick c x y)(r:jy w0 B σ a w L)(h:kj P K T O σ o=al u):kI P K w0 B σ o a w u:=by
 simp only[kj,i]at h;have k:=r.op c;split at h
 .rename_i v;rw[v]at k;have k:=z.lr k;cases h;exact kI.pure r (by simp[execOp,i,k,asBool]) rfl (r.op x)
 .rename_i v;rw[v]at k;have k:=z.lr k;cases h;exact kI.pure r (by simp[execOp,i,k,asBool]) rfl (r.op y)
 .cases h
def alH{x}(i:o.op = .nilCheck x)(r:jy w0 B σ a w L)(h:kj P K T O σ o=al u):kI P K w0 B σ o a w u:=by
 simp only[kj,i]at h;have c:=r.op x;split at h
 .rename_i k;rw[k]at c;cases h;have⟨n,b,t,y⟩:=c;exact kI.pure r (v:=a.eval x) (by simp[execOp,i,y]) rfl ⟨n,b,t,y⟩
 .rename_i k;rw[k]at c;cases h;generalize s:a.eval x=q at c;refine kI.pure r (v:=q) ?_ rfl c;cases c;simp only[execOp,i,s];rfl
 .rename_i k;rw[k]at c;cases h;refine kI.pure r (v:=a.eval x) ?_ rfl c;have⟨p,e,_⟩:=z.Yi c;simp only[execOp,i,e];rfl
 .rename_i k;rw[k]at c;cases h;refine kI.pure r (v:=a.eval x) ?_ rfl c;have⟨p,e,_⟩:=c;simp only[execOp,i,e];rfl
 .cases h
def alm(H:mP P T){I t J x y}(i:o.op = .binOp I t x y J)(r:jy w0 B σ a w L)(h:kj P K T O σ o=al u)(j:∀ q,q ∈ u.ki->q):kI P K w0 B σ o a w u:=by
 simp only[kj,i]at h;have s:=r.op x;have p:=r.op y;split at h
 .rename_i k zy G m l F;rw[l]at s;rw[F]at p;split at h
  .rename_i v b;cases h;have⟨g,d⟩:=j _ (awf.2 rfl) _ _ w _ _ x y s p;refine kI.pure r (v:=v) ?_ rfl (.v _);simp only[execOp,i,Sem.run_bind,g,Result.andThen_ok,d,Sem.run_pure]
  have s:=z.lr s;have p:=z.lr p;split at h
  .rename_i W;obtain⟨rr,X,rfl⟩:=dc.1 h;have lH:=aki (P:=P) (k':=G) X j W t w;refine kI.pure r (v:=rr.1) ?_ rfl (.v _);simp only[execOp,i,s,p,Sem.run_bind,eqGuard_at_int,Sem.run_pure,Result.andThen_ok,lH]
  .cases h
 .rename_i zy m l F;rw[l]at s;rw[F]at p;have s:=z.lr s;have p:=z.lr p;split at h
  .rename_i N;have⟨ti,g,d⟩:=Dl N;have Y:P.underlying t=al .bool:=by rw[H.sJ g,d]
   split at h
   .cases h;refine kI.pure r (v:=.bool<|zy==m) ?_ rfl (.v _);simp only[execOp,i,s,p,Sem.run_bind,eqGuard_at_bool,Sem.run_pure,Result.andThen_ok,run_eql_bool w t zy m Y]
   .cases h;refine kI.pure r (v:=.bool<|!(zy==m)) ?_ rfl (.v _);simp only[execOp,i,s,p,Sem.run_bind,eqGuard_at_bool,Sem.run_pure,Result.andThen_ok];have:(binOp .neq t (.bool zy)<|.bool m).run P w = .ok (.bool<|!(zy==m)) w:=by
     simp only[binOp,Sem.run_bind,run_equal_bool w t zy m Y,Result.andThen_ok,Sem.run_pure]
    rw[this];rfl
   .cases h
  .cases h
 .rename_i V n S R l F;rw[l]at s;rw[F]at p;have p:=z.lr p;have s:z (jt B L) (jq L) w (.sl V n S R)<|a.eval x:=s;split at h
  .rename_i e N;have⟨ti,g,d⟩:=Dl N;have Y:P.underlying t=al (.slice e):=by rw[H.sJ g,d]
   have Z:∀ A c,0<n->a.eval x = .slice A n c->z (jt B L) (jq L) w (.sl V n S R) (.slice A n c)->A.isNone=ac:=by
    intro A c Q e1 X;cases A with
    |some ad=>rfl
    |none=>
     cases X with
     |sl _ _ _ _ _ _ f E D M=>have:=M rfl;omega
   generalize b:a.eval x=vx at s;cases s with
   |sl _ _ _ _ A c f E D M hl X U k=>
    have C:z (jt B L) (jq L) w (.sl V n S R)<|.slice A n c:=.sl V n S R A c f E D M hl X U k;split at h
    .cases h;have Q:0<n:=j _ aK;refine kI.pure r (v:=.bool ac) ?_ rfl (.v _);simp only[execOp,i,b,p,Sem.run_bind,eqGuard_at_slice,Sem.run_pure,Result.andThen_ok,Lib.run_eql_slice_nil w t e A n c 0 0 Y,Z A c Q b C]
    .cases h;have Q:0<n:=j _ aK;refine kI.pure r (v:=.bool aa) ?_ rfl (.v _);simp only[execOp,i,b,p,Sem.run_bind,eqGuard_at_slice,Sem.run_pure,Result.andThen_ok,run_neq_slice_nil_any w t e A n c 0 0 Y,Z A c Q b C,fc]
    .cases h
  .cases h
 .rename_i xe ye l F;rw[l]at s;rw[F]at p;split at h
  .rename_i v b;cases h;have⟨g,d⟩:=j _ (awf.2 rfl) _ _ w _ _ x y s p;refine kI.pure r (v:=v) ?_ rfl (.v _);simp only[execOp,i,Sem.run_bind,g,Result.andThen_ok,d,Sem.run_pure]
  .cases h
 .cases h
def alM{p t x}(i:o.op = .unOp p t x)(r:jy w0 B σ a w L)(h:kj P K T O σ o=al u)(n:∀ q,q ∈ u.ki->q):kI P K w0 B σ o a w u:=by
 simp only[kj,i]at h;have y:=r.op x;split at h
 .rename_i m s;rw[s]at y;have y:=z.lr y;cases h;exact kI.pure r (v:=.bool<|!m) (by simp[execOp,i,y,Op.unary]) rfl (.v _)
 .rename_i k m s;rw[s]at y;have y:=z.lr y;cases h;have:=Lf<|n (lN k<|0-m) aK;refine kI.pure r (v:=.int k<|0-m) ?_ rfl (.v _);simp only[execOp,i,y,Op.unary,Op.intArith,this];rfl
 .cases h
def alq(t:mP P T){s d x}(i:o.op = .convert s d x)(r:jy w0 B σ a w L)(h:kj P K T O σ o=al u):kI P K w0 B σ o a w u:=by
 simp only[kj,i]at h;have y:=r.op x;split at h
 .rename_i k b n X m g f;rw[f]at y;have y:=z.lr y;have⟨j,e,c⟩:=Dl m;have q:P.underlying d=al (.int k):=by rw[t.sJ e,c]
  have p:P.intKind d=k:=by simp[Program.intKind,q]
  have l:=run_convert_int (P:=P) w s d n X (by rw[t.sJ g];rfl) (by rw[p];exact q);rw[p]at l;cases h;exact kI.pure r (v:=.int k<|k.wrap X) (by simp only[execOp,i,y,Sem.run_bind,l];rfl) rfl (.v _)
 .cases h
def alr{x i}(W:o.op = .extract x i)(r:jy w0 B σ a w L)(h:kj P K T O σ o=al u):kI P K w0 B σ o a w u:=by
 simp only[kj,W]at h;have k:=r.op x;split at h
 .rename_i l q;rw[q]at k;have⟨s,e,p⟩:=z.afx k;split at h
  .rename_i y t;cases h;have V:i<s.length:=by rw[p.len];exact(cF.1 t).1
   have G:=bH V;refine kI.pure r (v:=s[i]) ?_ rfl (p.kP i y _ t G);simp only[execOp,W,e,Instr.extract,atI,G];rfl
  .cases h
 .cases h
def aby{bs N e}:∀ {l:List<|Int×ax×List ax} {s:List MapEntry} (i:Nat),zQ bs w l s->FB l N=al e->(∀ b o,jq L b->bs b o) ->
 ∃ j v,Instr.findNow (.int .i64) (.int .i64 N) s i=al (al (j,v))/\z bs (jq L) w e v
 | [],_,_,_,h,_=>by cases h
 |_::_,[],_,k,_,_=>k.elim
 |x::l,y::s,i,⟨⟨f,d,c,a,X⟩,k⟩,h,hm=>by
  unfold FB at h;have n:Instr.sameNow (.int .i64) (.int .i64 N) y.key=al (N==x.1):=by rw[f];rfl
  by_cases u:x.1=N
  .rw [bt u]at h;cases h;have t:(N==x.1)=aa:=by simp[u]
   refine⟨i,y.val,?_,?_⟩
   .rw [Instr.findNow,n,t]
   .rw [c];refine .fn _ _ d (by simpa using a) λj p v m Y=>?_
    rw[cQ]at m;obtain⟨g,Z,rfl⟩:=dc.1 m;obtain⟨b,rfl,r,Q,V⟩:=X j g v Z Y;have T:∀ q,q<1->w.cell? ⟨b,0+q,am⟩=al (.func (.func g) #[] #[]):=λq R=>by
     obtain rfl:q=0:= U ;exact V
    exact .jE 1 _ b 0 (λ_=>.func (.func g) #[] #[]) (λh=>r<|hm b _ h) Q (λ_ _=>rfl) T λ_ _=>.fn g [] [] rfl (λi p x h=>by simp at h)
  .rw [bn u]at h;have t:(N==x.1)=ac:=by simp;exact λe=>u e.symm
   have⟨j,v,S,r⟩:=aby (i+1) k h hm;exact⟨j,v,by rw[Instr.findNow,n,t];exact S,r⟩
def aiL{k}(h:P.underlying k=al (.int .i64))e n z:(Instr.checkKey e (n+1) k<|.int .i64 z).run P w = .ok () w:=by
 unfold Instr.checkKey;simp only[Sem.run_bind,run_underlying h,Result.andThen];rfl
def alA(m:mP P T){t x i g}(W:o.op = .lookup t x i g)(r:jy w0 B σ a w L)(h:kj P K T O σ o=al u)(X:∀ q,q ∈ u.ki->q):kI P K w0 B σ o a w u:=by
 cases g with
 |true=>simp[kj,W]at h
 |false=>
 simp only[kj,W]at h;have s:=r.op x;have y:=r.op i;split at h
 .rename_i l zy k Y Z U V;have⟨ti,S,R⟩:=Dl V;have Q:P.underlying t=al (.map k Y):=by rw[m.sJ S,R]
  rw[Z]at s;rw[U]at y;have y:=z.lr y;split at h
  .rename_i e N hg;have⟨tk,M,H⟩:=Dl N;have d:P.underlying k=al (.int .i64):=by rw[m.sJ M,H]
   cases h;have E:FB l zy=al e:=X _ aK;generalize G:a.eval x=q at s;cases s with
   |mp _ b c p hb iV F D=>
    have⟨j,v,C,A⟩:=aby (w:=w) (L:=L) 0 D E λb _ h=>.inr h
    refine kI.pure r (v:=v) ?_ rfl A;have I:(getObj b).run P w = .ok (.map p c) w:=by simp[getObj,Sem.run,F]
    have n:=aiL (P:=P) (w:=w) d p.isEmpty 9999 zy;have f:(Instr.findKey k (.int .i64 zy) p.toList).run P w = .ok (al (j,v)) w:=by unfold Instr.findKey;simp[run_underlying d,Result.andThen,C]
    have J:(Instr.lookup t (.map<|al b) (.int .i64 zy) ac).run P w = .ok v w:=by
     unfold Instr.lookup;simp[run_underlying Q,I,n,f,Result.andThen]
    simp only[execOp,W,G,y,Sem.run_bind,J,Result.andThen_ok,Sem.run_pure]
  .cases h
 .cases h
def als(Q:mP P T){t x f}(i:o.op = .field t x f)(r:jy w0 B σ a w L)(h:kj P K T O σ o=al u):kI P K w0 B σ o a w u:=by
 simp only[kj,i]at h;have s:=r.op x;split at h
 .rename_i l m g c;have⟨Z,b,j⟩:=Dl c;have X:P.underlying t=al (.struct m):=by rw[Q.sJ b,j]
  rw[g]at s;have⟨q,e,p⟩:=z.Eu s;split at h
  .rename_i d R;split at h
   .rename_i U Y;split at h
    .cases h
    .rename_i k;split at h
     .rename_i y n;cases h;have V:d.offset<q.length:=by rw[p.len];exact(cF.1 n).1
      have G:=bH V;refine kI.pure r (v:=q[d.offset]) ?_ rfl (p.kP d.offset y _ n G);simp only[execOp,i,e,Instr.field,asAgg,Sem.run_bind,Sem.run_pure,Result.andThen_ok,run_underlying X,R,part,Ot Q w Y,k,atI,G];rfl
     .cases h
   .cases h
  .cases h
 .cases h
def aiB{v l}{vs:List av}(h:zZ v=al l)(k:vs.length=v.length)(g:∀ (i:Nat) (p:PV) (x:av),v[i]? = al p->vs[i]? = al x->nN (jt B L) (jq L) L w p x):
 vs.length=l.length/\∀ (i:Nat) (c:CV) (x:av),l[i]? = al c->vs[i]? = al x->zS (jt B L) (jq L) L w c x:=by
 induction v generalizing l vs with
 |nil=>cases h;exact⟨k,λi c x z=>by simp at z⟩
 |cons p v a=>
  cases vs with
  |nil=>simp at k
  |cons y vs=>
   have s:∀ (r:CV) (u:List CV),zZ v=al u->zS (jt B L) (jq L) L w r y->l=r::u ->
    (y::vs).length=l.length/\∀ (i:Nat) (c:CV) (x:av),l[i]? = al c->(y::vs)[i]? = al x->zS (jt B L) (jq L) L w c x:=by
    intro r u q Q X;obtain⟨Y,Z⟩:=a q (by simpa using k) (λi p x U t=>g (i+1) p x (by simpa using U)<|by simpa using t);subst X;refine⟨by simp[Y],λi c x z t=>?_⟩;cases i with
    |zero=>simp at z t;subst z t;exact Q
    |succ i=>simp at z t;exact Z i c x z t
   have m:=g 0 p y rfl rfl;cases p with
   |e x=>
    simp only[zZ]at h;obtain⟨u,q,rfl⟩:=dc.1 h;exact s (.e x) u q m rfl
   |box d o=>
    cases o with
    |zero=>
     simp only[zZ]at h;obtain⟨u,q,rfl⟩:=dc.1 h;exact s (.box d) u q m rfl
    |succ=>simp[zZ]at h
   |oe d R i j=>
    simp only[zZ]at h;split at h
    .rename_i z;simp only[bN]at z;obtain rfl:=lY.1 z.1.1;obtain rfl:=lY.1 z.1.2;obtain rfl:=lY.1 z.2;obtain⟨u,q,rfl⟩:=dc.1 h;have⟨V,b,f,n,c,T,S⟩:=m;exact s (.row d) u q ⟨V,b,f,n,c,T,by simpa using S⟩ rfl
    .cases h
   |_=>simp[zZ]at h
def alB{fn k cap}(W:o.op = .makeFunc fn k cap)(r:jy w0 B σ a w L)(h:kj P K T O σ o=al u):kI P K w0 B σ o a w u:=by
 cases fn with
 |func f=>
  simp only[kj,W]at h;split at h
  .rename_i m;have t:k = #[]:=by simpa using m
   subst t;split at h
   .rename_i l s;cases h;have c:=aiB (B:=B) (L:=L) (w:=w) (vs:=cap.toList.map a.eval) s aK (λi p x z y=>by
     rw[cQ]at z y;obtain⟨q,n,rfl⟩:=dc.1 z;rw[n]at y;simp at y;subst y;exact r.op q)
    refine kI.pure r (v:=.func (.func f) #[] (cap.toList.map a.eval).toArray) ?_ rfl ⟨cap.toList.map a.eval,rfl,c.1,c.2⟩;have e:cap.map a.eval=(cap.toList.map a.eval).toArray:=by apply dU;simp
    have g:(#[]:Array Operand).map a.eval = #[]:= aK ;simp only[execOp,W,Instr.makeFunc,e,g,Sem.run_bind,Sem.run_pure,Result.andThen_ok]
   .cases h
  .cases h
 |_=>simp[kj,W]at h
def alv(y:mP P T){t x i}(W:o.op = .index t x i)(r:jy w0 B σ a w L)(h:kj P K T O σ o=al u)(g:∀ q,q ∈ u.ki->q):kI P K w0 B σ o a w u:=by
 simp only[kj,W]at h;have s:=r.op x;have p:=r.op i;split at h
 .rename_i l k N f d;rw[f]at s;rw[d]at p;have b:=z.lr p;have⟨j,e,X⟩:=z.Eu s;split at h
  .rename_i Q Y;split at h
   .rename_i n Z U;have V:P.underlying t=al (.array n Z):=by rw[y.sJ Y,U]
    split at h
    .rename_i m D;split at h
     .rename_i c;simp only[bN,lY]at c;cases h;have⟨S,R⟩:=g (0<=N/\N<n) aK;refine kI.pure r (v:=.agg ((j.drop<|N.toNat*m.i.size).take m.i.size).toArray) ?_ rfl ((X.drop _).take _).agg;simp only[execOp,W,e,b,Instr.index,asIntOf,Sem.run_bind,Sem.run_pure,Result.andThen_ok,run_underlying V,S,R,and_self,bK,vJ y w D,part,Ot y w D,c.1];simp
     .cases h
    .cases h
   .cases h
  .cases h
 .cases h
def alu(V:mP P T){t x f}(W:o.op = .fieldAddr t x f)(r:jy w0 B σ a w L)(h:kj P K T O σ o=al u):kI P K w0 B σ o a w u:=by
 simp only[kj,W]at h;have z:=r.op x;split at h
 .rename_i Q N;have⟨ti,M,G⟩:=Dl N;have F:P.underlying t=al (.struct Q):=by rw[V.sJ M,G]
  split at h
  .rename_i Y E;split at h
   .rename_i D C;split at h
    .cases h
    .rename_i A;have Z:¬D.i.size=0:=λe=>A (lY.2 e)
     have H:∀ b y,a.eval x = .pointer (al ⟨b,y,am⟩)->(execOp a.eval o).run P w = .ok (.value<|.pointer<|al ⟨b,y+Y.offset,am⟩) w:=by
      intro b y e;simp only[execOp,W,e,Instr.fieldAt,Instr.sureAddr,fieldPlace,Sem.run_bind,run_underlying F,Result.andThen_ok,E,Sem.run_pure,vJ V w C,Z,bE,Addr.add_lit]
     split at h
     .rename_i S y v;rw[v]at z;have⟨p,b,l,d⟩:=z;cases h;exact kI.pure r (H b y d) rfl ⟨p,b,l,rfl⟩
     .rename_i S I i j v;rw[v]at z;have⟨p,b,s,n,c,l,d⟩:=z;cases h;exact kI.pure r (H b _ d) rfl ⟨p,b,s,n,c,l,by simp only[cU]⟩
     .rename_i S I k i j v;rw[v]at z;have⟨p,b,s,n,c,l,d⟩:=z;cases h;exact kI.pure r (H b _ d) rfl ⟨p,b,s,n,c,l,by simp only[cU]⟩
     .rename_i m el v;rw[v]at z;split at h
      .rename_i zy;have GQ:=cY zy;cases h;generalize J:a.eval x=q at z;cases z with
       |jE _ _ b y g hb iV hl X kk=>
        refine kI.pure r (H b y J) rfl (.jE _ _ b _ (λj=>g<|Y.offset+j) hb iV (λj R=>hl _ U) (λj R=>?_) λj R=>kk _ U);have:=X (Y.offset+j) U;rwa[<-cU]at this
      .cases h
     .cases h
   .cases h
  .cases h
 .cases h
end
section
variable {P:aw} {K:ap->Prop} {T:List TI} {O:rT} {w0:mj} {B:Nat->Nat->Prop} {σ:PS} {o:Oper} {a:Act} {w:ap} {L:Lk} {u:kZ}
section
variable(hT:mP P T){t:ay}{x:Operand}
def an9{i}(m:mS T t=al i)(W:o.op = .load t x)(r:jy w0 B σ a w L)(h:Ka i (σ.read (σ.op x) i.i.size)=al u)(g:∀ q,q ∈ u.ki->q):kI P K w0 B σ o a w u:=by
 cases hr:σ.read (σ.op x) i.i.size with
 |none=>rw[hr]at h;cases h
 |some y=>
  have⟨l,j,X⟩:=y;rw[hr]at h;simp only[Ka]at h;by_cases k:i.isAgg=aa
  .rw [bt k]at h;cases h;have⟨b,q,s,e,z,f,n⟩:=r.read (r.op x) hr g;refine kI.pure r (v:=.agg s.toArray) ?_ rfl z.agg;simp only[execOp,W,e,Instr.loadAt,Instr.sureAddr,Sem.run_bind,Sem.run_pure,Result.andThen_ok,adY hT w m k b q s f n]
  .rw [bn k]at h;have G:i.isAgg=ac:=by simpa using k
   split at h
   .rename_i p;cases h;have⟨b,q,s,e,z,f,n⟩:=r.read (r.op x) hr g;obtain⟨y,Y,rfl,d,U⟩:=z.nm;refine kI.pure r (v:=y) ?_ rfl d;have c:=n 0 y rfl;simp only[execOp,W,e,Instr.loadAt,Instr.sureAddr,Sem.run_bind,Sem.run_pure,Result.andThen_ok,Ud hT w m G b q y<|by simpa using c]
   .cases h
def alz(W:o.op = .load t x)(r:jy w0 B σ a w L)(h:kj P K T O σ o=al u)(m:∀ q,q ∈ u.ki->q):kI P K w0 B σ o a w u:=by
 simp only[kj,W,Mo,Mp]at h;split at h
 .rename_i l g;split at h
  .rename_i I i n k;by_cases z:l.isAgg=aa
   .rw [bt z]at h;cases h
   .rw [bn z]at h;have G:l.isAgg=ac:=by simpa using z
    cases h;have e:=r.op x;cases hp:σ.op x with
    |oe d J y j=>
     rw[hp]at k e;simp only[FU]at k;split at k
     .rename_i nl T1 T0 Z zy V el D;split at k
      .rename_i s;simp only[bQ,ch]at k;obtain⟨rfl,rfl,rfl⟩:=k;simp only[bN]at s;have S:=lY.1 s.1;have R:=lY.1 s.2;subst S R;have Q:y<Z:=m _ aK;have⟨b,p,c,N,f,M,H,h3,h4,h5,F,h7,h8,h9,qa,qE⟩:=(r.hb d _ D).xm U;have⟨E,b',X,n2,c2,Y,C⟩:=e;rw[M]at Y;cases Y;refine kI.pure r (v:=L.jg d y) ?_ rfl ⟨E,rfl⟩;have A:w.cell? ⟨b,p+(y*1+0),am⟩=al (L.jg d y):=by
        simp only[aC,H];simpa using F y Q aK 
       simp only[execOp,W,C,Instr.loadAt,Instr.sureAddr,Sem.run_bind,Sem.run_pure,Result.andThen_ok,Ud hT w g G b _ _ A]
      .cases k
     .cases k
    |_=>rw[hp]at k;cases k
  .exact an9 hT g W r h m
 .cases h
end
def acG{bs br l m vs u}(h:lf bs br w l vs)(k:lf bs br w m u)off:lf bs br w (D6 l off m)<|vs.take off++u++vs.drop (off+u.length):=by
 unfold D6;rw[k.len];exact((h.take off).app k).app<|h.drop _
def aql{q l m}(h:l.all q=aa)(k:m.all q=aa)off:(D6 l off m).all q=aa:=by
 unfold D6;rw[List.all_append,List.all_append,k];have z:(l.take off).all q=aa:=bZ.2 λx y=>bZ.1 h x<|fm y
 have u:(l.drop<|off+m.length).all q=aa:=bZ.2 λx y=>bZ.1 h x<|fM y
 rw[z,u];rfl
section
variable{w:ap}{v:av}{T:ay}{n sz:Nat}{f:Nat->Nat->av}{nl:Bool}(h:nU w v T n sz f nl)
def nU.store{b o p c'}(z:v = .slice (al ⟨b,o,am⟩) p c'){i j}(H:i<n)m(d:j+m.length<=sz)(C:∀ u,u ∈ m->u.oneCell'=aa)(F:nl=aa->∀ u,u ∈ m->qI u=ac):
 ∃ x,w.heap[b]? = al (.cells x T (0,0))/\o+(i*sz+j)+m.length<=x.size /\
  nU (w.setRow b (x.toList.take (o+(i*sz+j))++m++x.toList.drop (o+(i*sz+j)+m.length)).toArray) v T n sz (λk y=>if k=i/\j<=y/\y<j+m.length then m.getD (y-j) undef else f k y) nl:=by
 rcases h with⟨t,_⟩|⟨b,o,c,x,t,g,G,a,E,D,e⟩
 .rw [z]at t;cases t
 .rw [t]at z;cases z;have Y:o+(i*sz+sz)<=x.size:=by
   have:=bX sz (U:i+1<=c');rw[bT,bU]at this;omega
  have Z:o+(i*sz+j)+m.length<=x.size:= U ;refine⟨x,g,Z,.inr ⟨b,o,c',_,t,setRow_heap w b _ _ T _ g,G,a,?_,?_,?_⟩⟩
  .simp only[gY,cD,cz,fB,dR];rw[dE U];omega
  .intro k y N A;have⟨r,S⟩:=D k y N A;have q:o+(k*sz+y)<x.size:=by
    have:=bX sz (U:k+1<=c');rw[bT,bU]at this;omega
   have X:k≠i->k*sz+y<i*sz\/i*sz+sz<=k*sz+y:=by
    intro Q;rcases Nat.lt_or_gt_of_ne Q with V|V
    .left;have:=bX sz<|show k+1<=i from V;rw[bT,bU]at this;omega
    .right;have:=bX sz<|show i+1<=k from V;rw[bT,bU]at this;omega
   simp only[atI];rw[gZ,eu,cz,dR,dE U];by_cases R:k=i/\j<=y/\y<j+m.length
   .obtain ⟨rfl,P,M⟩:=R;rw[bn U,eF U];have L:o+(k*sz+y)-(o+(k*sz+j))=y-j:= U ;have V:y-j<m.length:= U ;rw[bt ⟨rfl,P,M⟩,L,bB,bH V];exact⟨rfl,C _<|cT V⟩
   .rw [bn R];refine⟨?_,S⟩;by_cases l:o+(k*sz+y)<o+(i*sz+j)
    .rw [bt l,eW,bt l];simpa using r
    .rw [bn l,gn,e9]
     .have:o+(i*sz+j)+m.length+(o+(k*sz+y)-(o+(i*sz+j))-m.length)=o+(k*sz+y):=by
       by_cases J:k=i
       .subst J;omega
       .have:=X J;omega
      rw[this];simpa using r
     .by_cases J:k=i
      .subst J;omega
      .have:=X J;omega
  .intro s v z;simp only[atT,dP]at z;rcases z with(z|z)|z
   .exact e s v<|by have:=fm z;simpa using this
   .exact F s v z
   .exact e s v<|by have:=fM z;simpa using this
def nU.Zm:v.cells.toList=[v]/\v.oneCell'=aa/\qI v=ac:=by
 rcases h with⟨rfl,_⟩|⟨b,o,c,u,rfl,_⟩<;>exact⟨rfl,rfl,rfl⟩
end
def amq(zy:mP P T){t x y s}(V:mS T t=al s)(W:o.op = .store t x y)(r:jy w0 B σ a w L){id nl T1 T0 n sz len el p}(S:C8 (jt B L) (jq L) L w id nl T1 T0 n sz len el p){i k}(v:nN (jt B L) (jq L) L w (.oe id 1 i 0)<|a.eval x)(R:nN (jt B L) (jq L) L w (.jg id k)<|a.eval y)(hi:i<n)(Q:k<n)(N:s.i.size=1):
 ∃ (b zx c:Nat) (h:Array av) (f:Nat->Nat->Nat->av),(L.val id = .slice (al ⟨b,zx,am⟩) n c/\w.heap[b]? = al (.cells h T1 (0,0))/\n<=c/\c<=maxLen/\zx+c<=h.size /\
  (∀ k,k<n->p≠al k->h[zx+k]? = al (L.jg id k))/\(∀ u,u ∈ h->qI u=ac) /\
  (∀ k,k<n->nU w (L.jg id k) T0 (len k) sz (f k) nl/\∀ i j,i<len k->j<sz->z (jt B L) (jq L) w (el k i j) (f k i j)/\(el k i j).nr 2=aa) /\
  (∀ x,L.own id x↔x=b\/∃ k,k<n/\(L.jg id k).ownBlock=al x) /\
  (∀ k k' x,k<n->k'<n->(L.jg id k).ownBlock=al x->(L.jg id k').ownBlock=al x->k=k')/\(∀ k,k<n->(L.jg id k).ownBlock≠al b)) /\
 (execOp a.eval o).run P w = .ok .skip (w.setRow b<|h.setIfInBounds (zx+i)<|L.jg id k)/\sM L w id (L.own id) (w.setRow b<|h.setIfInBounds (zx+i)<|L.jg id k) /\
 ∀ x,x≠b->(w.setRow b<|h.setIfInBounds (zx+i)<|L.jg id k).heap[x]? = w.heap[x]?:=by
 have⟨b,zx,c,h,f,q,m,M,H,G,E,D,l,g,A,I⟩:=S;have⟨k1,b',e,n',c',d,J⟩:=v;have⟨_,K⟩:=R;rw[q]at d;cases d;have F:=(l k Q).1.Zm;have O:L.own id b:=(g b).2<|.inl rfl;have X:=sM.setRow (L:=L) O (λx v=>(r.hw id x v).2) (h.toList.take (zx+(i*1+0))++(a.eval y).cells.toList++h.toList.drop (zx+(i*1+0)+(a.eval y).cells.toList.length)).toArray;have C:(a.eval y).cells.toList=[L.jg id k]:=by rw[K];exact F.1
 have Z:(h.toList.take (zx+(i*1+0))++(a.eval y).cells.toList++h.toList.drop (zx+(i*1+0)+(a.eval y).cells.toList.length)).toArray=h.setIfInBounds (zx+i) (L.jg id k):=by
  rw[C];apply dU;simp only[cr,bV,gU,aw8];rw[List.set_eq_take_append_cons_drop,bt<|by simpa using(U:zx+i<h.size)];simp
 rw[Z]at X;refine⟨b,zx,c,h,f,⟨q,m,M,H,G,E,D,l,g,A,I⟩,?_,X,λx v=>setRow_other w b x _ v⟩;have Y:=KU zy w V b (zx+(i*1+0)) T1 h m (a.eval y) (by rw[C];simpa using N.symm) (by rw[C];simp;omega) (by rw[C];simpa using F.2.1);rw[Z]at Y;simp only[execOp,W,J,Instr.storeAt,Instr.sureAddr,Sem.run_bind,Sem.run_pure,Result.andThen_ok,Y]
def amp{id nl T1 T0 n sz len el p b o c i k h}{f:Nat->Nat->Nat->av}(l:L.val id = .slice (al ⟨b,o,am⟩) n c)(g:w.heap[b]? = al (.cells h T1 (0,0)))(d:n<=c)(a:c<=maxLen)(X:o+c<=h.size)(Y:∀ u,u ∈ h->qI u=ac)(N:∀ k,k<n->nU w (L.jg id k) T0 (len k) sz (f k) nl/\∀ i j,i<len k->j<sz->z (jt B L) (jq L) w (el k i j) (f k i j)/\(el k i j).nr 2=aa)(Z:∀ x,L.own id x↔x=b\/∃ k,k<n/\(L.jg id k).ownBlock=al x)(U:∀ k k' x,k<n->k'<n->(L.jg id k).ownBlock=al x->(L.jg id k').ownBlock=al x->k=k')(E:∀ k,k<n->(L.jg id k).ownBlock≠al b)(V:tw L w (L.set id (L.own id) (L.val id)<|L.jg id)<|w.setRow b<|h.setIfInBounds (o+i)<|L.jg id k)(T:∀ x,x≠b->(w.setRow b<|h.setIfInBounds (o+i)<|L.jg id k).heap[x]? = w.heap[x]?)(S:k<n)(R:∀ q,q<n->p≠al q->(h.setIfInBounds (o+i)<|L.jg id k)[o+q]? = al (L.jg id q)):
 C8 (jt B<|L.set id (L.own id) (L.val id)<|L.jg id) (jq<|L.set id (L.own id) (L.val id)<|L.jg id) (L.set id (L.own id) (L.val id)<|L.jg id) (w.setRow b<|h.setIfInBounds (o+i)<|L.jg id k) id nl T1 T0 n sz len el p:=by
 refine⟨b,o,c,h.setIfInBounds (o+i)<|L.jg id k,f,by rw[Lk.qk];exact l,setRow_heap w b _ _ T1 _ g,d,a,by simpa using X,by simp only[Lk.sG];exact R,?_,?_,?_,?_,?_⟩
 .intro v y;rcases Array.mem_or_eq_of_mem_setIfInBounds y with y|y
  .exact Y v y
  .subst y;exact(N k S).1.Zm.2.2
 .intro q t;have⟨Q,s⟩:=N q t;rw[Lk.sG];exact⟨Q.block λx P=>T x λe=>E q t<|e▸P,λi j r m=>⟨V.kP (s i j r m).1,(s i j r m).2⟩⟩
 .intro x;rw[Lk.uB];refine(Z x).trans ?_;simp only[Lk.sG]
 .simp only[Lk.sG];exact U
 .simp only[Lk.sG];exact E
def alL(hT:mP P T){t x y}(iW:o.op = .store t x y)(r:jy w0 B σ a w L)(h:kj P K T O σ o=al u)(ho:∀ q,q ∈ u.ki->q):kI P K w0 B σ o a w u:=by
 simp only[kj,iW,Ms]at h;have X:=r.op x;have I:=r.op y;split at h
 .rename_i ti r9;split at h
  .
   rename_i d S e pg Cl;rw[pg]at X;rw[Cl]at I;split at h
   .rename_i J l m D hm;split at h
    .rename_i zx;cases h;simp only[bN]at zx;have W:=lY.1 zx.1.1;have c2:=cY zx.1.2;have⟨b,vs,H,G,F,h4,h5⟩:=r.hb d _ D;have⟨k1,R,C,k3⟩:=X;rw[H]at C;cases C;have⟨Y,q2⟩:=I.cells hm;have Q:=sM.setRow (L:=L) ((G b).2 rfl) (λx X=>(r.hw d x X).2) (vs.take S++(a.eval y).cells.toList++vs.drop (S+(a.eval y).cells.toList.length)).toArray;have hl:=Q.later (L.val d)<|L.jg d;refine⟨undef,_,_,.inr ⟨?_,rfl⟩,r.wH d (.cells J<|D6 l S m) _ k1 Q ⟨b,_,by rw[Lk.qk];exact H,λx=>(Lk.uB x).trans<|G x,setRow_heap w b _ _ J _ F,(acG h4 Y S).mono λ_ _=>hl.kP,?_⟩ ?_,.any _⟩
     .have hr:=KU hT w r9 b S J vs.toArray F (a.eval y) (by rw[Y.len,W]) (by rw[Y.len,gY,h4.len];exact c2) q2;simp only[execOp,iW,k3,Instr.storeAt,Instr.sureAddr,Sem.run_bind,Sem.run_pure,Result.andThen_ok,hr]
     .intro v N;simp only[dP]at N;rcases N with(N|N)|N
      .exact h5 v<|fm N
      .exact q2 v N
      .exact h5 v<|fM N
     .intro M;have:=zx.2;rw[M]at this;exact aql (r.hl M d _ D) (by simpa using this) S
    .cases h
   .cases h
  .
   rename_i d q pg Cl;rw[pg]at X;rw[Cl]at I;split at h
   .rename_i J x0 nl T0 n sz el D xK;split at h
    .rename_i zx;cases h;simp only[bN,dN]at zx;have jY:d≠q:=λe=>by rw[e,cN]at zx;cases zx.1
     have W:=lY.1 zx.2;have⟨b,vs,H,G,F,h4,h5⟩:=r.hb d _ D;have⟨k1,R,C,k3⟩:=X;rw[H]at C;cases C;have⟨_,Fo⟩:=I;obtain⟨v0,rfl⟩:∃ v0,vs=[v0]:=by
      have:=h4.len;rcases vs with _|⟨v0,_|⟨v1,vs⟩⟩
      .simp at this
      .exact ⟨v0,rfl⟩
      .simp at this
     have⟨f,g1,_⟩:=r.hb q _ xK;have kD:(L.val q).cells.toList=[L.val q]/\(L.val q).oneCell'=aa:=by
      rcases g1 with⟨g,_⟩|⟨b1,o1,W,Z,g,_⟩<;>rw[g]<;>exact⟨rfl,rfl⟩
     have Q:=sM.setRow (L:=L) ((G b).2 rfl) (λx X=>(r.hw d x X).2) #[L.val q];have⟨L',hr⟩:=r.tR D xK jY H (setRow_heap w b _ _ J _ F) Q;refine⟨undef,_,L',.inr ⟨?_,rfl⟩,hr,.any _⟩;have lH:=KU hT w r9 b 0 J #[v0] F (a.eval y) (by rw[Fo,kD.1,W];rfl) (by rw[Fo,kD.1];exact bA 1) (by rw[Fo,kD.1];exact λu hu=>by rw[awf.1 hu];exact kD.2);rw[Fo,kD.1]at lH;simp only[execOp,iW,k3,Instr.storeAt,Instr.sureAddr,Sem.run_bind,Sem.run_pure,Result.andThen_ok,Fo,lH];rfl
    .cases h
   .cases h
  .
   rename_i d sz i j e pg Cl;rw[pg]at X;rw[Cl]at I;split at h
   .rename_i nl J n s el m D hm;split at h
    .rename_i zx;cases h;simp only[bN]at zx;have W:=lY.1 zx.1.1.1.1;have c2:=lY.1 zx.1.1.1.2;have c3:=cY zx.1.1.2;subst c2;have hi:i<n:=ho _ aK;have⟨f,H,G,F⟩:=r.hb d _ D;have⟨k1,R,zy,n',c',C,k3⟩:=X;have⟨Y,q2⟩:=I.cells hm;have⟨Z,hg,pf,Bi⟩:=nU.store H C (j:=j) hi (a.eval y).cells.toList (by rw[Y.len];exact c3) q2 (λM v N=>by
      have⟨q,hq⟩:=dJ.1 N;have wA:q<m.length:=by rw[<-Y.len];exact(cF.1 hq).1
      have JF:m.all E.nT=aa:=by have:=zx.1.2;rw[M]at this;simpa using this
      exact(Y.kP q _ v (bH wA) hq).nT<|bZ.1 JF _<|cT wA)
     have mC:L.own d R:=(G R).2 (by rw[C];rfl);have Q:=sM.setRow (L:=L) mC (λx X=>(r.hw d x X).2) (Z.toList.take (zy+(i*s+j))++(a.eval y).cells.toList++Z.toList.drop (zy+(i*s+j)+(a.eval y).cells.toList.length)).toArray;have hl:=Q.later (L.val d)<|L.jg d;refine⟨undef,_,_,.inr ⟨?_,rfl⟩,r.wH d _ _ k1 Q ⟨λV p=>if V=i/\j<=p/\p<j+m.length then(a.eval y).cells.toList.getD (p-j) undef else f V p,?_,λx=>?_,?_⟩ ?_,.any _⟩
     .have hr:=KU hT w r9 R (zy+(i*s+j)) J Z hg (a.eval y) (by rw[Y.len,W]) pf q2;simp only[execOp,iW,k3,Instr.storeAt,Instr.sureAddr,Sem.run_bind,Sem.run_pure,Result.andThen_ok,hr]
     .rw [Lk.qk];rw[Y.len]at Bi;rw[Y.len];exact Bi
     .rw [Lk.qk];exact(Lk.uB x).trans<|G x
     .intro V p mN tc;refine(λ(q:z _ _ _ _ _/\_)=>⟨hl.kP q.1,q.2⟩) (?_:_/\_);dsimp only;by_cases lR:V=i/\j<=p/\p<j+m.length
      .rw [bt lR,bt lR];have y7:p-j<m.length:= U ;have DJ:p-j<(a.eval y).cells.toList.length:=by rw[Y.len];omega
       rw[bB,bH y7,bB,bH DJ];exact⟨Y.kP _ _ _ (bH y7)<|bH DJ,bZ.1 zx.2 _<|cT y7⟩
      .rw [bn lR,bn lR];exact F V p mN tc
     .intro M;have:=r.hl M d _ D;exact this
    .cases h
   .cases h
  .
   rename_i d i id' k pg Cl;rw[pg]at X;rw[Cl]at I;split at h
   .rename_i nl J T0 n sz len el k' D;split at h
    .rename_i zx;cases h;simp only[bN]at zx;have W:=lY.1 zx.1;have c2:=lY.1 zx.2;subst W;have e1:i=k':=ho _ aK;have e2:k=k':=ho _ aK;have hk:k'<n:=ho _ aK;subst e1 e2;have⟨b,ofs,c,Z,f,⟨H,G,F,h4,h5,h6,h7,h8,h9,qa,qE⟩,lH,Q,sy⟩:=amq hT r9 iW r ((r.hb d _ D).xm U) X I hk hk c2;have hl:=Q.later (L.val d)<|L.jg d;refine⟨undef,_,_,.inr ⟨lH,rfl⟩,r.wH d _ _ X.1 Q (.inr<|amp H G F h4 h5 h7 h8 h9 qa qE hl sy hk λq hq _=>?_) (λM=>by have:=r.hl M d _ D;exact this),.any _⟩;by_cases wZ:q=k
     .subst wZ;have:ofs+q<Z.size:= U ;simp[this]
     .rw [aw5 λe=>wZ U];exact h6 q hq<|by simpa using λe=>wZ e.symm
    .cases h
   .cases h
  .
   rename_i d sz i j k e pg Cl;rw[pg]at X;rw[Cl]at I;split at h
   .rename_i nl J T0 n s len el pd m D hm;split at h
    .rename_i zx;cases h;simp only[bN]at zx;have W:=lY.1 zx.1.1.1.1;have c2:=lY.1 zx.1.1.1.2;have c3:=cY zx.1.1.2;subst c2;have xN:i<n:=ho _ aK;have E3:j<len i:=ho _ aK;have⟨b,ofs,c,Z,f,H,G,F,h4,h5,h6,h7,h8,h9,qa,qE⟩:=(r.hb d _ D).xm U;have⟨k1,R,zy,n',c',C,k3⟩:=X;have⟨Y,q2⟩:=I.cells hm;have⟨amI,amr⟩:=h8 i xN;have⟨A,hg,pf,Bi⟩:=nU.store amI C (j:=k) E3 (a.eval y).cells.toList (by rw[Y.len];exact c3) q2 (λM v N=>by
      have⟨q,hq⟩:=dJ.1 N;have wA:q<m.length:=by rw[<-Y.len];exact(cF.1 hq).1
      have JF:m.all E.nT=aa:=by have:=zx.1.2;rw[M]at this;simpa using this
      exact(Y.kP q _ v (bH wA) hq).nT<|bZ.1 JF _<|cT wA)
     have sQ:(L.jg d i).ownBlock=al R:=by rw[C];rfl
     have mC:L.own d R:=(h9 R).2<|.inr ⟨i,xN,sQ⟩;have Q:=sM.setRow (L:=L) mC (λx X=>(r.hw d x X).2) (A.toList.take (zy+(j*s+k))++(a.eval y).cells.toList++A.toList.drop (zy+(j*s+k)+(a.eval y).cells.toList.length)).toArray;have hl:=Q.later (L.val d)<|L.jg d;have jY:R≠b:=λe=>qE i xN<|e▸sQ
     refine⟨undef,_,_,.inr ⟨?_,rfl⟩,r.wH d _ _ k1 Q (.inr ⟨b,ofs,c,Z,λk' V p=>if k'=i/\V=j/\k<=p/\p<k+m.length then(a.eval y).cells.toList.getD (p-k) undef else f k' V p,by rw[Lk.qk];exact H,by rw[setRow_other w R b _ jY.symm];exact G,F,h4,h5,by simp only[Lk.sG];exact h6,h7,?_,?_,by simp only[Lk.sG];exact qa,by simp only[Lk.sG];exact qE⟩) ?_,.any _⟩
     .have hr:=KU hT w r9 R (zy+(j*s+k)) T0 A hg (a.eval y) (by rw[Y.len,W]) pf q2;simp only[execOp,iW,k3,Instr.storeAt,Instr.sureAddr,Sem.run_bind,Sem.run_pure,Result.andThen_ok,hr]
     .intro q hq;rw[Lk.sG];by_cases Nf:q=i
      .subst Nf;refine⟨?_,λV p mN tc=>?_⟩
       .rw [Y.len]at Bi ⊢;simpa only[ib]using Bi
       .refine (λ(q:z _ _ _ _ _/\_)=>⟨hl.kP q.1,q.2⟩) (?_:_/\_);dsimp only;by_cases lR:V=j/\k<=p/\p<k+m.length
        .rw [bt ⟨rfl,lR⟩,bt ⟨rfl,lR⟩];have y7:p-k<m.length:= U ;have DJ:p-k<(a.eval y).cells.toList.length:=by rw[Y.len];omega
         rw[bB,bH y7,bB,bH DJ];exact⟨Y.kP _ _ _ (bH y7)<|bH DJ,bZ.1 zx.2 _<|cT y7⟩
        .rw [bn λh=>lR h.2,bn λh=>lR h.2];exact amr V p mN tc
      .have⟨p1,p2⟩:=h8 q hq;refine⟨?_,λV p mN tc=>?_⟩
       .simp only[Nf,gz,bE];exact p1.block λx X=>setRow_other w R x _ λe=>Nf<|qa q i x hq xN X<|e▸sQ
       .simp only[Nf,gz,bE];exact⟨hl.kP (p2 V p mN tc).1,(p2 V p mN tc).2⟩
     .intro x;rw[Lk.uB];simp only[Lk.sG];exact h9 x
     .intro M;have:=r.hl M d _ D;exact this
    .cases h
   .cases h
  .cases h
 .cases h
def ali(x:mP P T){t}(i:o.op = .alloc t)(r:jy w0 B σ a w L)(h:kj P K T O σ o=al u):kI P K w0 B σ o a w u:=by
 simp only[kj,i]at h;split at h
 .rename_i g k;split at h
  .rename_i z y;obtain⟨d,c,e,rfl⟩:=NH h;have⟨v,m,f⟩:=F8 y;have⟨q,s⟩:=f (jt B L) (jq L) w;have⟨p,n,l⟩:=r.ab1 d t z v q s (by simpa[Bx.nl]using e);refine⟨_,_,p,.inl ?_,n,l⟩;simp only[execOp,i,Instr.alloc,Sem.run_bind,Ue x w k m,Result.andThen_ok,newVar,newRow,run_newObj_alloc,Sem.run_pure]
  .cases h
 .cases h
def aln{t x}(i:o.op = .box t x)(r:jy w0 B σ a w L)(h:kj P K T O σ o=al u):kI P K w0 B σ o a w u:=by
 simp only[kj,i]at h;have k:=r.op x;split at h
 .rename_i e v;rw[v]at k;split at h
  .rename_i l y;obtain⟨d,g,z,rfl⟩:=NH h;have⟨q,s⟩:=k.cells y;have⟨p,n,m⟩:=r.ab1 d t l (a.eval x) q s (by simpa[Bx.nl]using z);refine⟨_,_,p,.inl ?_,n,m⟩;simp only[execOp,i,Instr.box,Sem.run_bind,Result.andThen_ok,newVar,newRow,run_newObj_alloc,Sem.run_pure]
  .cases h
 .cases h
end
def akU u:∀ (o k:Nat) (cs:Array av),o+k+u.length<=cs.size ->
 (u.zipIdx k).foldl (λcs (c:av×Nat)=>cs.setIfInBounds (o+c.2) c.1) cs=(cs.toList.take (o+k)++u++cs.toList.drop (o+k+u.length)).toArray:=by
 induction u with
 |nil=>intro o k cs h;simp
 |cons x u i=>
  intro o k cs h;simp only[List.zipIdx_cons,List.foldl_cons];rw[i o (k+1) _<|by simp at h ⊢;omega];apply dU;simp only[dD]at h;obtain⟨A,y,D,p,z⟩:∃ A y D,cs.toList=A++y::D/\A.length=o+k:=by
   have V:o+k<cs.toList.length:= aS ;refine⟨cs.toList.take<|o+k,cs.toList[o+k],cs.toList.drop<|o+k+1,?_,by rw[cz];omega⟩;rw[<-fQ V,awF]
  simp only[aw8,dD,p,<-z];rw[List.set_append_right _ _<|bA _,dm,awL,
   show o+(k+1)+u.length=A.length+(u.length+1)by omega,(U:o+(k+1)=A.length+1),
   List.take_length_add_append,aw9,List.take_left,aw9]
  simp
def Yd(p:Nat->Option (Nat×Nat))cs i v(rest:List<|Nat×av)off(x:p i=al (off,v.cells.toList.length))(f:off+v.cells.toList.length<=cs.size):
 Instr.fill p cs ((i,v)::rest)=Instr.fill p (cs.toList.take off++v.cells.toList++cs.toList.drop (off+v.cells.toList.length)).toArray rest:=by
 have k:¬(v.cells.size≠v.cells.toList.length\/off+v.cells.size>cs.size):=by simp at f ⊢;omega
 have h:=akU v.cells.toList off 0 cs (by simpa using f);simp only[bV]at h;have y:(v.cells.zipIdx.foldl (λcs (c,j)=>cs.setIfInBounds (off+j) c) cs)=(cs.toList.take off++v.cells.toList++cs.toList.drop (off+v.cells.toList.length)).toArray:=by
  rw[<-h,<-Array.foldl_toList,Array.toList_zipIdx]
 rw[Instr.fill,x];simp only;rw[bn<|by simpa using k,y]
section
variable {P:aw} {K:ap->Prop} {T:List TI} {O:rT} {w0:mj} {B:Nat->Nat->Prop} {σ:PS} {o:Oper} {a:Act} {w:ap} {L:Lk} {u:kZ}
def QA(r:jy w0 B σ a w L){k t l m cs}(h:uG σ k l t=al m)(n:lf (jt B L) (jq L) w l cs.toList)(g:∀ u ∈ cs,u.oneCell'=aa):
 ∃ c,Instr.fill k cs (t.map λx=>(x.1,a.eval x.2))=al c/\lf (jt B L) (jq L) w m c.toList/\(∀ u ∈ c,u.oneCell'=aa):=by
 induction t generalizing l cs with
 |nil=>
  simp only[uG]at h;cases h;exact⟨cs,rfl,n,g⟩
 |cons p t j=>
  have⟨i,x⟩:=p;simp only[uG]at h;have b:=r.op x;split at h
  .rename_i o s e X y;rw[y]at b;split at h
   .rename_i q Y;split at h
    .rename_i f;simp only[bN]at f;have Z:=lY.1 f.1;have T:=cY f.2;have⟨d,U⟩:=b.cells Y;have z:(a.eval x).cells.toList.length=s:=by rw[d.len,Z]
     have V:=n.len;rw[ew,Yd k cs i (a.eval x) _ o (by rw[z];exact X)<|by rw[d.len];simp at V;omega];refine j h (acG n d o) λv y=>?_
     simp only[atT,dP]at y;rcases y with(y|y)|y
     .exact g v<|by have:=fm y;simpa using this
     .exact U v y
     .exact g v<|by have:=fM y;simpa using this
    .cases h
   .cases h
  .cases h
def Tu(p:Array<|Nat×Operand)(a:Act):(p.map λ(x:Nat×Operand)=>(x.1,a.eval x.2)).toList=p.toList.map λx=>(x.1,a.eval x.2):= aK 
def ap8{P}(x:mP P T){s p}(h:KA T s=al p):s.mapM (λf=>(P.info? f.type).map λi=>(f.offset,i.size))=al p:=by
 induction s generalizing p with
 |nil=>simp only[KA]at h;cases h;rfl
 |cons f s k=>
  simp only[KA]at h;split at h
  .rename_i t l y z;cases h;simp[gE,x.Bn y,k z]
  .cases h
def alo(k:mP P T){t p}(i:o.op = .build t p)(r:jy w0 B σ a w L)(h:kj P K T O σ o=al u):kI P K w0 B σ o a w u:=by
 simp only[kj,i]at h;have m:∀ (l:List E) (c:Array av),P.built t (p.toList.map λx=>(x.1,a.eval x.2))=al c->lf (jt B L) (jq L) w l c.toList->u={ r:=.e<|.agg l }->kI P K w0 B σ o a w u:=by
  intro l c Z U y;subst y;have H:=run_build (P:=P) w t (p.map λ(x:Nat×Operand)=>(x.1,a.eval x.2)) c (by rw[Tu];exact Z);refine kI.pure r (v:=.agg c) ?_ rfl (by have:=U.agg;rwa[Array.toArray_toList]at this);simp only[execOp,i,Sem.run_bind,H,Result.andThen_ok,Sem.run_pure]
 split at h
 .rename_i R s;split at h
  .rename_i z V;have⟨Q,b,S⟩:=F8 V;have⟨j,X⟩:=S (jt B L) (jq L) w;split at h
   .rename_i N d;split at h
    .rename_i Y F;obtain⟨l,q,rfl⟩:=dc.1 h;have⟨c,g,f,_⟩:=QA r q j (λu y=>X u<|by simpa using y);refine m l c ?_ f rfl;unfold Program.built;rw[k.Bn s,k.sJ s,d];simp only[b,ap8 k F];have:(λx:Nat=>Y.toArray[x]?)=λx=>Y[x]?:=by funext x;simp
     rw[this];exact g
    .cases h
   .rename_i n e d;split at h
    .rename_i M D;obtain⟨l,q,rfl⟩:=dc.1 h;have⟨c,g,f,_⟩:=QA r q j (λu y=>X u<|by simpa using y);refine m l c ?_ f rfl;unfold Program.built;rw[k.Bn s,k.sJ s,d];simp only[b,k.Bn D];exact g
    .cases h
   .cases h
  .cases h
 .cases h
def adA{h}n(l:List h):(kP n l).length=n*l.length:=by
 induction n with
 |zero=>simp[kP]
 |succ n i=>simp only[kP,cD,i,bT,bU];omega
def arS{k}n(l:List k)q(h:q<n*l.length):(kP n l)[q]? = l[q%l.length]?:=by
 induction n generalizing q with
 |zero=>simp at h
 |succ n i=>
  simp only[kP];rw[bT,bU]at h;by_cases x:q<l.length
  .rw [eF x,bY x]
  .rw [gn U,i _ U];congr 1;exact(Nat.mod_eq_sub_mod U).symm
def arT{bs br z}{s:Array av}(h:lf bs br w z s.toList)n:lf bs br w (kP n z) ((Array.range<|n*s.size).map (s[· % s.size]!)).toList:=by
 have l:=h.len;simp only[dR]at l;refine⟨by simp[adA,l],λi p x v y=>?_⟩;have k:i<n*s.size:=by
  have:=(cF.1 y).1;simpa using this
 have t:0<s.size:=by
  rcases fw s.size with u|u
  .rw [u]at k;simp at k
  .exact u
 rw[arS _ _ _<|by rw[<-l];exact k,<-l]at v;have V:=bO i t;simp[k]at y;subst y;rw[gr s _ V];exact h.kP _ p _ v<|by simp[V]
def aeN(f:∀ b o,B b o->w0.pX b)(r:jy w0 B σ a w L)e n sz l cs nl(s:lf (jt B L) (jq L) w l cs.toList)(d:∀ u ∈ cs,u.oneCell'=aa)(Q:cs.size=n*sz)(c:n<=9223372036854775807)(X:nl=aa->l.all E.nT=aa)(Y:l.all (E.nr 2)=aa):
 jy w0 B σ a (w.alloc<|.cells cs e) L/\z (jt B L) (jq L) (w.alloc<|.cells cs e) (.sl nl n sz λi j=>l.getD (i*sz+j)<|.v<|.bool ac) (.slice (al ⟨w.heap.size,0,am⟩) n n):=by
 have p:Below w.heap.size w<|w.alloc<|.cells cs e:=(Below.refl _ _).alloc (bA _) _;have Z:tw L w L<|w.alloc<|.cells cs e:=⟨p.size,λ_ _ h=>h,λx v _=>p.block x v⟩
 refine⟨r.later p,?_⟩;have t:∀ i j,i<n->j<sz->i*sz+j<cs.size:=by
  intro i j k y;rw[Q];have:=bX sz<|show i+1<=n from k;rw[bT,bU]at this;omega
 have m:=s.len;simp only[dR]at m;refine .sl nl n sz _ _ n (λi j=>cs.getD (i*sz+j) undef) (bA _) c (λh=>by cases h) (λi j k y=>?_) (λi j k y=>?_) (λi j k y=>?_) λi j k y=>?_
 .have q:=t i j k y;have g:cs.getD (i*sz+j) undef=cs[i*sz+j]:=by simp[q]
  rw[g];refine⟨d _<|atG q,λS=>?_⟩;have R:i*sz+j<l.length:= U ;exact(s.kP (i*sz+j) _ _ (bH R)<|by simp[q]).nT<|bZ.1 (X S) _<|cT R
 .have q:=t i j k y;have R:i*sz+j<l.length:= U ;rw[bB,bH R];exact bZ.1 Y _<|cT R
 .have q:=t i j k y;refine⟨w.heap.size,0,rfl,λA=>?_,aK,?_⟩
  .rcases A with v|⟨V,v⟩
   .have:=(f _ _ v).1;have:=r.he.size;omega
   .have:=(r.hw V _ v).2;omega
  .rw [ct,World.cell?_alloc_new];simp[q]
 .have q:=t i j k y;have R:i*sz+j<l.length:= U ;have g:cs.getD (i*sz+j) undef=cs[i*sz+j]:=by simp[q]
  rw[g,bB,bH R];exact Z.kP<|s.kP (i*sz+j) _ _ (bH R)<|by simp[q]
def anX{l vs bs br w}(h:lf bs br w l vs)(y:l.all E.nT=aa):∀ v ∈ vs,qI v=ac:=by
 intro v z;have⟨i,x⟩:=dJ.1 z;have⟨B,_⟩:=cF.1 x;have k:i<l.length:=by have:=h.len;omega
 exact(h.kP i _ v (bH k) x).nT<|bZ.1 y _<|cT k
def Wu(w:ap)(y:mP P T){t e b}(h:LZ T t=al (e,b)):∃ x v u,P.underlying t=al (.slice e)/\mS T e=al x/\x.i.size=1/\x.i.bytes=b/\1<=b/\x.i.zero=al v/\v.cells = #[u]/\u.oneCell'=aa/\qI u=ac:=by
 unfold LZ at h;split at h
 .rename_i n s;split at h
  .rename_i g d;split at h
   .rename_i x o;split at h
    .rename_i z r;split at h
     .rename_i c;simp only[bQ,ch]at h;obtain⟨rfl,rfl⟩:=h;simp only[bN]at c;have⟨v,m,f⟩:=F8 r;have⟨q,k⟩:=f (λ_ _=>False) (λ_=>False) w;have l:=q.len;simp only[dR,dD,awM]at l;obtain⟨u,Z⟩:∃ u,v.cells = #[u]:=by
       refine⟨v.cells[0],?_⟩;apply Array.ext
       .simpa using l
       .intro i a p;obtain rfl:i=0:=by simp at p;omega
        rfl
      rw[Z]at q k;exact⟨x,v,u,by rw[y.sJ s,d],o,lY.1 c.1.1,rfl,cY c.1.2,m,Z,k u aK,(q.kP 0 z u rfl rfl).nT c.2⟩
     .cases h
    .cases h
   .cases h
  .cases h
 .cases h
def nU.head{v T n sz f nl}(h:nU w v T n sz f nl):v.cells.toList=[v]/\v.oneCell'=aa/\qI v=ac:=by
 rcases h with⟨g,_⟩|⟨b,o,x,c,g,_⟩<;>rw[g]<;>exact⟨rfl,rfl,rfl⟩
def alN(c:mP P T){t n q g}(W:o.op = .buildSlice t n g)(s:D4 σ g.toList=al q)(r:jy w0 B σ a w L)(h:EM T σ o.dst t n q=al u):kI P K w0 B σ o a w u:=by
 obtain⟨x,b,J⟩:∃ x,g.toList=[(0,x)]/\σ.op x = .own q:=by
  unfold D4 at s;split at s
  .rename_i x b;refine⟨x,b,?_⟩;generalize σ.op x=p at s ⊢;cases p<;>simp only[PV.Hn,reduceCtorEq,bQ]at s;rw[s]
  .cases s
 have D:=r.op x;rw[J]at D;have⟨k1,X⟩:=D;unfold EM at h;split at h
 .rename_i S MS;split at h
  .rename_i nl T0 m sz el e O kU R B9;split at h
   .rename_i Y;cases h;simp only[bN,dN]at Y;obtain rfl:=lY.1 Y.1;have Q:S≠q:=λe=>by have:=Y.2;rw[e,cN]at this;cases this
    have⟨l,N,M,hu,H,C,_,_,um,vv,_,_⟩:=Wu w c B9;have⟨f,G,d,F⟩:=r.hb q _ R;have⟨Z,d2,d3⟩:=G.head;have lH:(execOp a.eval o).run P w = .ok (.value<|.slice (al ⟨w.heap.size,0,am⟩) 1 1) (w.alloc<|.cells #[L.val q] e):=by
     have pP:(Array.range<|1*l.i.size).map (N.cells[· % N.cells.size]!) = #[M]:=by
      rw[C,vv];refine Array.ext aK λi h1 h2=>?_
      have:i=0:=by simp at h2;omega
      subst this;simp
     have MT:Instr.fill (λi=>al (i*l.i.size,l.i.size)) #[M] (g.map λ(x:Nat×Operand)=>(x.1,a.eval x.2)).toList=al #[L.val q]:=by
      rw[Tu,b];simp only[ew,List.map_nil];rw[Yd _ _ _ _ _ 0 (by rw[X,Z,C];rfl)<|by rw[X,Z];simp];rw[X,Z];rfl
     have wY:¬(1*l.i.size>16777216):= U ;have h0:¬(1*l.i.size=0):= U ;simp only[execOp,W,Instr.buildSlice,Sem.run_bind,run_underlying hu,Result.andThen_ok,vJ c w H,wY,bE,h0,Sem.run_pure,Ue c w H um,pP,MT,newRow,run_newObj_alloc]
    have E:w.heap.size<(w.alloc<|.cells #[L.val q] e).heap.size:= aK ;have zy:Below w.heap.size w<|w.alloc<|.cells #[L.val q] e:=(Below.refl _ _).alloc (bA _) _;refine⟨_,_,_,.inl lH,r.tn Q _ (λx=>x=w.heap.size\/L.own q x) (.slice (al ⟨w.heap.size,0,am⟩) 1 1) (λ_=>L.val q) _ (λy z=>?_) zy.size (λy z _=>zy.block y z) rfl rfl rfl (λhl=>?_) (λRB=>?_) (λhn=>?_),Lk.Ss Q,Lk.J0.symm⟩
    .rcases z with rfl|z
     .exact ⟨.inr<|.inr<|bA _,E⟩
     .exact ⟨.inr<|.inl z,fD (r.hw q y z).2 E⟩
    .refine .inr ⟨w.heap.size,0,1,#[L.val q],λ_=>f,Lk.J0,heap_alloc_new w _,bA _,aG,aK,λk V _=>?_,λv hv=>?_,λk V=>?_,λy=>?_,λk k' y V Bd _ _=> U,λk V=>?_⟩
     .obtain rfl:k=0:= U ;rw[Lk.Bo];rfl
     .have:v=L.val q:=by simpa using hv
      rw[this];exact d3
     .rw [Lk.Bo];exact⟨G.block λy z=>zy.block y (r.hw q y<|(d y).2 z).2,λi j A I=>⟨hl.kP (F i j A I).1,(F i j A I).2⟩⟩
     .rw [Lk.aaL];constructor
      .rintro (h|h)
       .exact .inl h
       .exact .inr ⟨0,aG,by rw[Lk.Bo];exact(d y).1 h⟩
      .rintro (h|⟨k,_,h⟩)
       .exact .inl h
       .rw [Lk.Bo]at h;exact .inr<|(d y).2 h
     .rw [Lk.Bo];intro h;have:=(r.hw q _<|(d _).2 h).2;omega
    .have:=(r.hv S).1 RB;rw[kU]at this;cases this
    .have:=r.hl hn q _ R;exact this
   .cases h
  .cases h
 .cases h
def alp(Z:mP P T)(hB:∀ b o,B b o->w0.pX b){t n s}(W:o.op = .buildSlice t n s)(r:jy w0 B σ a w L)(h:kj P K T O σ o=al u):kI P K w0 B σ o a w u:=by
 simp only[kj,W]at h;split at h
 .rename_i q y;exact alN Z W y r h
 split at h
 .rename_i tt sc;split at h
  .rename_i e hd;split at h
   .rename_i k D;split at h
    .rename_i z hz;split at h
     .rename_i f;simp only[bN]at f;have c1:=lY.1 f.1.1;have c2:=cY f.2;have⟨X,um,tf⟩:=F8 hz;have⟨q1,q2⟩:=tf (jt B L) (jq L) w;have Q:P.underlying t=al (.slice e):=by rw[Z.sJ sc,hd]
      have Bl:X.cells.size=k.i.size:=by have:=q1.len;simp only[dR]at this;omega
      have⟨l,hl,h⟩:=awg.1 h;have⟨c,p1,zy,H⟩:=QA r hl (arT q1 n) (λv hv=>by
       simp only[gp,gq]at hv;obtain⟨q,y,rfl⟩:=hv;have Fq:0<X.cells.size:=by
        rcases fw X.cells.size with d|d
        .rw [d]at y;simp at y
        .exact d
       rw[gr X.cells _<|bO q Fq];exact q2 _ aK)
      have V:l.length=n*k.i.size:=by
       have:∀ (s:List<|Nat×Operand) (l m:List E),uG σ (λi=>al (i*k.i.size,k.i.size)) l s=al m->m.length=l.length:=by
        intro s
        induction s with
        |nil=>intro l m h;simp only[uG]at h;cases h;rfl
        |cons p s ih=>
         intro l m h;have⟨i,x⟩:=p;simp only[uG]at h;split at h
         .split at h
          .split at h
           .rename_i f;simp only[bN]at f;have:=cY f.2;rw[ih _ _ h];simp[D6];omega
           .cases h
          .cases h
         .cases h
       rw[this _ _ _ hl,adA,c1]
      have N:c.size=n*k.i.size:=by have:=zy.len;simp only[dR]at this;omega
      have MT:Instr.fill (λi=>al (i*k.i.size,k.i.size)) ((Array.range<|n*k.i.size).map (X.cells[· % X.cells.size]!)) (s.map λ(x:Nat×Operand)=>(x.1,a.eval x.2)).toList=al c:=by
       rw[Tu,<-Bl];rw[<-Bl]at p1;exact p1
      have G:(execOp a.eval o).run P w = .ok (.value<|.slice (al ⟨w.heap.size,0,am⟩) n n) (w.alloc<|.cells c e):=by
       have wY:¬(n*k.i.size>16777216):= U ;by_cases d:n*k.i.size=0
       .have e0:∀ g:Nat->av,(Array.range 0).map g = #[]:=λg=>by simp[Array.range]
        have Zn:=MT;rw[d,e0]at Zn;have F:¬(0>2^24):= aG ;simp only[execOp,W,Instr.buildSlice,Sem.run_bind,run_underlying Q,Result.andThen_ok,vJ Z w D,wY,bE,d,F,bK,Sem.run_pure,e0,Zn,newRow,run_newObj_alloc]
       .simp only[execOp,W,Instr.buildSlice,Sem.run_bind,run_underlying Q,Result.andThen_ok,vJ Z w D,wY,bE,d,Sem.run_pure,Ue Z w D um,MT,newRow,run_newObj_alloc]
      have ku:n<=9223372036854775807:=by
       have:=apV n<|cY f.1.2;omega
      by_cases S:l.all (E.nr 2)=aa
      .simp only[S,fu,bS,bE]at h;split at h
       .
        obtain⟨id,MS,kU,ke,rfl⟩:=Kg h;have C:Below w.heap.size w<|w.alloc<|.cells c e:=(Below.refl _ _).alloc (bA _) _;have ht:sM L w id (λx=>x=w.heap.size)<|w.alloc<|.cells c e:=⟨λx M=>⟨.inr U,aS⟩,C.size,λx M _=>C.block x M,rfl,rfl,rfl⟩
        have iV:=ht.later (.slice (al ⟨w.heap.size,0,am⟩) n n) λ_=>undef;have A:∀ i j,i<n->j<k.i.size->i*k.i.size+j<n*k.i.size:=by
         intro i j Y R;have:=bX k.i.size<|show i+1<=n from Y;rw[bT,bU]at this;omega
        refine⟨_,_,_,.inl G,r.new id _ (λx=>x=w.heap.size) (.slice (al ⟨w.heap.size,0,am⟩) n n) (λ_=>undef) _ kU (λx M=>by subst M;simp) C
         ⟨λi j=>c.getD (i*k.i.size+j) undef,.inr ⟨w.heap.size,0,n,c,Lk.qk,heap_alloc_new w _,bA _,by unfold maxLen;omega,U,λi j Y R=>?_,λhn u Q=>?_⟩,λx=>?_,λi j Y R=>?_⟩ ke,Lk.CQ,Lk.qk.symm⟩
        .have y:i*k.i.size+j<c.size:=by rw[N];exact A i j Y R
         have I:c.getD (i*k.i.size+j) undef=c[i*k.i.size+j]:=by simp[y]
         rw[ct];show c[i*k.i.size+j]? = al (c.getD (i*k.i.size+j) undef)/\(c.getD (i*k.i.size+j) undef).oneCell'=aa;rw[I];exact⟨by simp[y],H _ aK⟩
        .exact anX zy hn u<|by simpa using Q
        .rw [Lk.uB,Lk.qk];simp only[bf,bQ];exact eq_comm
        .have y:i*k.i.size+j<c.size:=by rw[N];exact A i j Y R
         have J:i*k.i.size+j<l.length:=by rw[V];exact A i j Y R
         have I:c.getD (i*k.i.size+j) undef=c[i*k.i.size+j]:=by simp[y]
         simp only[bB,bH J,awN,I];exact⟨iV.kP<|zy.kP _ _ _ (bH J)<|by simp[y],bZ.1 S _<|cT J⟩
       split at h
       .rename_i GK;cases h;have⟨r',hp⟩:=aeN hB r e n k.i.size l c aa zy H N ku (λ_=>GK) S;exact⟨_,_,L,.inl G,r',hp⟩
       .cases h;have⟨r',hp⟩:=aeN hB r e n k.i.size l c ac zy H N ku (λh=>by cases h) S;exact⟨_,_,L,.inl G,r',hp⟩
      .simp [S]at h
     .cases h
    .cases h
   .cases h
  .cases h
 .cases h
end
section
variable{P:aw}{t e:ay}
def I4(h:P.underlying t=al (.slice e)):P.elem t=e:=by simp[Program.elem,h]
def aj8{n}(h:P.underlying t=al (.array n e)):P.elem t=e/\P.arrayLen t=n:=by simp[Program.elem,Program.arrayLen,h]
end
section
variable {P:aw} {K:ap->Prop} {T:List TI} {O:rT} {w0:mj} {B:Nat->Nat->Prop} {σ:PS} {o:Oper} {a:Act} {w:ap} {L:Lk} {u:kZ}
def alw(hT:mP P T){t x i}(iW:o.op = .indexAddr t x i)(r:jy w0 B σ a w L)(h:kj P K T O σ o=al u)(V:∀ q,q ∈ u.ki->q):kI P K w0 B σ o a w u:=by
 simp only[kj,iW,Mn]at h;have g:=r.op x;have M:=r.op i;split at h
 .rename_i k zx hpi;rw[hpi]at M;have M:=z.lr M;split at h
  .rename_i tt sc;split at h
   .
    rename_i e hd;have G:P.underlying t=al (.slice e):=by rw[hT.sJ sc,hd]
    have F:=I4 G;split at h
    .rename_i S oD;have H:∀ (Z:az) (n c:Nat),a.eval x = .slice (al Z) n c->0<=zx->zx<n->(execOp a.eval o).run P w = .ok (.value<|.pointer<|al<|Z.add<|zx.toNat*S.i.size) w:=by
      intro Z n c R E d;have D:=run_indexAt_slice (P:=P) w t Z n c k zx (by rw[F];exact G);rw[bt ⟨E,d⟩,F,vJ hT w oD]at D;simp only[execOp,iW,R,M,Sem.run_bind,D,Result.andThen_ok,Sem.run_pure]
     split at h
     .rename_i nl n N I X;rw[X]at g;split at h
      .rename_i s;simp only[bN]at s;have w8:=cY s.2;have s:=lY.1 s.1;cases h;have v:0<=zx/\zx<n:=V _ aK;have C:zx.toNat<n:= U ;generalize J:a.eval x=q at g;cases g with
       |sl _ _ _ _ A c f hc hm E W wm y kk=>
        have⟨b,of,R,hb,iV,_⟩:=y zx.toNat 0 C w8;subst R;refine kI.pure r (H ⟨b,of,am⟩ n c J v.1 v.2) rfl ?_;rw[Addr.add_lit,s];refine .jE N _ b _ (λj=>f zx.toNat j) (λhm=>hb<|.inr hm) iV (λj p=>(W _ _ C p).1) (λj p=>?_) λj p=>kk _ _ C p;have⟨b',of',e2,_,_,Ai⟩:=y zx.toNat j C p;cases e2;rwa[<-cU]at Ai
      .cases h
     .rename_i fl nl n N I X;rw[X]at g;split at h
      .rename_i s;simp only[bN]at s;have w8:=cY s.2;have s:=lY.1 s.1;cases h;have v:0<=zx/\zx<n:=V _ aK;have C:zx.toNat<n:= U ;generalize J:a.eval x=q at g;cases g with
       |mT _ _ _ _ _ A c f hc hm E W wm y kk=>
        have⟨b,of,R,hb,iV,_⟩:=y zx.toNat 0 C w8;subst R;refine kI.pure r (H ⟨b,of,am⟩ n c J v.1 v.2) rfl ?_;rw[Addr.add_lit,s];refine .jE N _ b _ (λj=>f zx.toNat j) hb iV (λj p=>(W _ _ C p).1) (λj p=>?_) λj p=>kk _ _ C p;have⟨b',of',e2,_,_,Ai⟩:=y zx.toNat j C p;cases e2;rwa[<-cU]at Ai
      .cases h
     .rename_i id X;rw[X]at g;split at h
      .rename_i nl T1 n N I jD;split at h
       .rename_i s;have s:=lY.1 s;cases h;have v:0<=zx/\zx<n:=V _ aK;have⟨f,d,h2,h3⟩:=r.hb id _ jD;have⟨Q,Y⟩:=g;rcases d with⟨d,rB⟩|⟨b,l,c,cur,d,hg,qG,oX,pP,kD,ke⟩
        .omega
        .rw [d]at Y;refine kI.pure r (H ⟨b,l,am⟩ n c Y v.1 v.2) rfl ⟨Q,b,l,n,c,d,?_⟩;rw[Addr.add_lit,s,bV]
       .cases h
      .rename_i nl T1 T0 n N zy I pend jD;split at h
       .rename_i s;have s:=lY.1 s;cases h;have v:0<=zx/\zx<n:=V _ aK;have⟨b,l,c,cur,f,d,h2,h3,h4,h5,h6,h7,h8,h9,qa,qE⟩:=(r.hb id _ jD).xm U;have⟨Q,Y⟩:=g;rw[d]at Y;refine kI.pure r (H ⟨b,l,am⟩ n c Y v.1 v.2) rfl ⟨Q,b,l,n,c,d,?_⟩;rw[Addr.add_lit,s,bV]
       .cases h
      .cases h
     .rename_i id k X;rw[X]at g;split at h
      .rename_i nl T1 T0 n N zy I pend jD;split at h
       .rename_i s;have s:=lY.1 s;cases h;have hk:k<n:=V _ aK;have v:0<=zx/\zx<zy k:=V _ aK;have⟨b0,ofs0,c0,cur0,f,g1,g2,g3,g4,g5,g6,g7,g8,_⟩:=(r.hb id _ jD).xm U;have⟨Q,Y⟩:=g;rcases(g8 k hk).1 with⟨d,rB⟩|⟨b,l,c,cur,d,hg,qG,oX,pP,kD,ke⟩
        .omega
        .rw [d]at Y;refine kI.pure r (H ⟨b,l,am⟩ (zy k) c Y v.1 v.2) rfl ⟨Q,b,l,zy k,c,d,?_⟩;rw[Addr.add_lit,s,bV]
       .cases h
      .cases h
     .cases h
    .cases h
   .
    rename_i n e hd;have G:P.underlying t=al (.array n e):=by rw[hT.sJ sc,hd]
    have⟨F,hn⟩:=aj8 G;split at h
    .rename_i S oD;have H:∀ (Z:az),a.eval x = .pointer (al Z)->0<=zx->zx<n->(execOp a.eval o).run P w = .ok (.value<|.pointer<|al<|Z.add<|zx.toNat*S.i.size) w:=by
      intro Z R E d;have D:=run_indexAt_array (P:=P) w t Z k zx (by rw[F,hn];exact G);rw[hn,bt ⟨E,d⟩,F,vJ hT w oD]at D;simp only[execOp,iW,R,M,Sem.run_bind,D,Result.andThen_ok,Sem.run_pure]
     split at h
     .rename_i id off X;rw[X]at g;cases h;have v:0<=zx/\zx<n:=V _ aK;have⟨Q,b,Y,k3⟩:=g;refine kI.pure r (H _ k3 v.1 v.2) rfl ⟨Q,b,Y,?_⟩;rw[Addr.add_lit]
     .rename_i m I X;rw[X]at g;split at h
      .rename_i s;have s:=lY.1 s;cases h;have v:0<=zx/\zx<n:=V _ aK;have lR:∀ j,j<S.i.size->zx.toNat*S.i.size+j<m:=by
        intro j p;rw[<-s];have:=bX S.i.size (U:zx.toNat+1<=n);rw[bT,bU]at this;omega
       generalize J:a.eval x=q at g;cases g with
       |jE _ _ b of f hb iV W y kk=>
        refine kI.pure r (H _ J v.1 v.2) rfl ?_;rw[Addr.add_lit];refine .jE S.i.size _ b _ (λj=>f<|zx.toNat*S.i.size+j) hb iV (λj p=>W _<|lR j p) (λj p=>?_) λj p=>kk _<|lR j p;have:=y _<|lR j p;rwa[<-cU]at this
      .cases h
     .cases h
    .cases h
   .cases h
  .cases h
 .cases h
section
variable(hT:mP P T){t:ay}{x:Operand}{lo hi:Option Operand}(iW:o.op = .slice t x lo hi am)
def alK{id}(pg:σ.op x = .own id)(r:jy w0 B σ a w L)(h:EL T σ t id (lo.map σ.op) (hi.map σ.op)=al u)(ho:∀ q,q ∈ u.ki->q):kI P K w0 B σ o a w u:=by
 unfold EL at h;have V:=r.op x;rw[pg]at V;split at h
 .rename_i tt sc;split at h
  .rename_i e hd;have S:P.underlying t=al (.slice e):=by rw[hT.sJ sc,hd]
   have R:=I4 S;have Q:P.underlying t=al (.slice<|P.elem t):=by rw[R];exact S
   split at h
   .rename_i te oD;split at h
    .rename_i N M n s el D;split at h
     .rename_i kl l F s9;split at h
      .rename_i Y;have Y:=lY.1 Y;cases h;have G:0<=l/\l<=n:=ho _ aK;have⟨k1,E⟩:=V;cases hi with
       |some _=>simp at s9
       |none=>
        cases lo with
        |none=>simp at F
        |some lo=>
         simp only[cJ,bQ]at F;have d:=r.op lo;rw[F]at d;have d:=z.lr d;have⟨f,zx,h2,C⟩:=r.hb id _ D;have avR:l.toNat<=n:= U ;have p:∀ (A:Option az) (c:Nat),a.eval x = .slice A n c->(execOp a.eval o).run P w = .ok (.value<|sliced A l.toNat n c te.i.size) w:=by
          intro A c Z;have I:=run_slice_l (P:=P) w t A n c Q kl l G.1 G.2;rw[R,vJ hT w oD]at I;simp only[execOp,iW,Sem.run_bind,Z,cJ,awO,d,run_sliceAt_slice (P:=P) w t _ _ _ _ Q,I,Result.andThen_ok,Sem.run_pure]
         have RO:∀ b,L.val id ≠ .pointer (al b):=λb Z=>by
          rcases zx with⟨zy,_⟩|⟨_,_,_,_,zy,_⟩<;>rw[Z]at zy<;>cases zy
         have m:∀ (v:av),v.ownBlock=(L.val id).ownBlock->nU w v M (n-l.toNat) s (λi j=>f (l.toNat+i) j) N->(execOp a.eval o).run P w = .ok (.value v) w ->
          kI P K w0 B σ o a w { r:=.own id,f:=.sw id<|.row N M (n-l.toNat) s λi j=>el (l.toNat+i) j,rb:=[id],ki:=[0<=l/\l<=n] }:=by
          intro v DI vk H;have J:sM L w id (λy=>v.ownBlock=al y) w:=⟨λy hy=>by
           have:=(h2 y).2 (by rw[<-DI];exact hy);exact⟨.inl this,(r.hw id y this).2⟩,bA _,λ_ _ _=>rfl,rfl,rfl,rfl⟩
          have hl:=J.later v<|L.jg id;refine⟨v,w,_,.inl H,r.sw id _ _ v w RO J ⟨λi j=>f (l.toNat+i) j,by rw[Lk.qk];exact vk,λy=>by rw[Lk.uB,Lk.qk],λi j hi X=>⟨hl.kP (C _ j U X).1,(C _ j U X).2⟩⟩ (λhn=>by have:=r.hl hn id _ D;exact this),Lk.CQ,Lk.qk.symm⟩
         rcases zx with⟨zx,O⟩|⟨b,k,c,g,zx,W,qG,oX,pP,kD,ke⟩
         .have F:l.toNat=0:= U ;refine m (.slice am 0 0) (by rw[zx]) (.inl ⟨rfl,U⟩) ?_;have:=p am 0 (by rw[E,zx,O]);rw[this];unfold sliced;simp[F,O]
         .have H:=p _ c (by rw[E,zx]);refine m _ ?_ ?_ H
          .rw [zx];unfold sliced;split
           .rfl
           .rw [cJ,Addr.add_lit];rfl
          .unfold sliced;by_cases ZA:c=l.toNat
           .rw [bt ZA];exact .inr ⟨b,k,c-l.toNat,g,rfl,W,U,U,by rw[(U:c-l.toNat=0),cV];omega,λi j hi=> U,ke⟩
           .rw [bn ZA,cJ,Addr.add_lit,Y];have Zh:l.toNat*s+(c-l.toNat)*s=c*s:=by rw[<-bT];congr 1;omega
            refine .inr ⟨b,k+l.toNat*s,c-l.toNat,g,rfl,W,U,U,U,λi j hi X=>?_,ke⟩;have:=kD (l.toNat+i) j U X;rw[bT]at this;rwa[(U:k+l.toNat*s+(i*s+j)=k+(l.toNat*s+i*s+j))]
      .cases h
     .cases h
    .cases h
   .cases h
  .cases h
 .cases h
def alJ(r:jy w0 B σ a w L)(h:kj P K T O σ o=al u)(H:∀ q,q ∈ u.ki->q):kI P K w0 B σ o a w u:=by
 simp only[kj,iW]at h;have W:=r.op x;split at h
 .rename_i id pg;exact alK hT iW pg r h H
 unfold Mr at h;split at h
 .rename_i nl n N el pg;rw[pg]at W;split at h
  .rename_i tt sc;split at h
   .rename_i e hd;have hu:P.underlying t=al (.slice e):=by rw[hT.sJ sc,hd]
    have S:=I4 hu;have R:P.underlying t=al (.slice<|P.elem t):=by rw[S];exact hu
    split at h
    .rename_i Q D;split at h
     .rename_i M;have M:=lY.1 M;generalize hq:a.eval x=q at W;cases W with
      |sl _ _ _ _ A c f hc hm h0 hl wm Z kk=>
       have g:∀ l zx:Nat,l<=zx->zx<=n->z (jt B L) (jq L) w (.sl nl (zx-l) N λi j=>el (l+i) j) (sliced A l zx c Q.i.size):=by
        intro l zx hlh hhn;unfold sliced;refine .sl nl (zx-l) N _ _ (c-l) (λi j=>f (l+i) j) U U (λE=>?_) (λi j hi d=>hl _ _ U d) (λi j hi d=>wm _ _ U d) (λi j hi d=>?_) λi j hi d=>kk _ _ U d
        .split at E
         .have:=h0 E;omega
         .have:=h0 (by simpa using E);omega
        .have⟨b,of,C,p,iV,kD⟩:=Z (l+i) j U d;subst C;rw[bn U];refine⟨b,of+l*Q.i.size,by rw[cJ,Addr.add_lit],by
          rw[M,show of+l*N+(i*N+j)=of+((l+i)*N+j)by rw[bT];omega];exact p,iV,?_⟩
         rw[M];rw[bT]at kD;rw[<-kD];congr 2;omega
       have X:∀ (l zx:Nat) (Y I:Option av),lo.map a.eval=Y->hi.map a.eval=I->(Instr.slice t (.slice A n c) Y I am).run P w = .ok (sliced A l zx c Q.i.size) w ->
        (execOp a.eval o).run P w = .ok (.value<|sliced A l zx c Q.i.size) w:=by
        intro l zx Y I C e2 s;simp only[execOp,iW,Sem.run_bind,hq,C,e2,awO,run_sliceAt_slice (P:=P) w t _ _ _ _ R,s,Result.andThen_ok,Sem.run_pure]
       split at h
       .rename_i zy k F m;cases h;have p:0<=k/\k<=n:=H _ aK;cases lo with
        |some _=>simp at F
        |none=>
         cases hi with
         |none=>simp at m
         |some hi=>
          simp only[cJ,bQ]at m;have v:=r.op hi;rw[m]at v;have v:=z.lr v;have s:=run_slice_h (P:=P) w t A n c R zy k p.1 U;rw[S,vJ hT w D]at s;have J:=g 0 k.toNat (cj _) U ;simp only[dI,ct]at J;exact kI.pure r (X 0 k.toNat am (al<|.int zy k) rfl (by rw[cJ,v]) s) rfl J
       .rename_i V y F m;cases h;have p:0<=y/\y<=n:=H _ aK;cases hi with
        |some _=>simp at m
        |none=>
         cases lo with
         |none=>simp at F
         |some lo=>
          simp only[cJ,bQ]at F;have v:=r.op lo;rw[F]at v;have v:=z.lr v;have s:=run_slice_l (P:=P) w t A n c R V y p.1 p.2;rw[S,vJ hT w D]at s;exact kI.pure r (X y.toNat n (al<|.int V y) am (by rw[cJ,v]) rfl s) rfl (g y.toNat n U<|bA _)
       .rename_i V y zy k F m;cases h;have p:0<=y/\y<=k/\k<=n:=H _ aK;cases hi with
        |none=>simp at m
        |some hi=>
         cases lo with
         |none=>simp at F
         |some lo=>
          simp only[cJ,bQ]at F m;have v:=r.op lo;rw[F]at v;have v:=z.lr v;have G:=r.op hi;rw[m]at G;have G:=z.lr G;have s:=run_slice_lh (P:=P) w t A n c R V zy y k p.1 p.2.1 U;rw[S,vJ hT w D]at s;exact kI.pure r (X y.toNat k.toNat (al<|.int V y) (al<|.int zy k) (by rw[cJ,v]) (by rw[cJ,G]) s) rfl (g y.toNat k.toNat U U)
       .cases h
     .cases h
    .cases h
   .cases h
  .cases h
 .rename_i fl nl n N el pg;rw[pg]at W;split at h
  .rename_i tt sc;split at h
   .rename_i e hd;have hu:P.underlying t=al (.slice e):=by rw[hT.sJ sc,hd]
    have S:=I4 hu;have R:P.underlying t=al (.slice<|P.elem t):=by rw[S];exact hu
    split at h
    .rename_i Q D;split at h
     .rename_i M;have M:=lY.1 M;generalize hq:a.eval x=q at W;cases W with
      |mT _ _ _ _ _ A c f hc hm h0 hl wm Z kk=>
       have g:∀ l zx:Nat,l<=zx->zx<=n->z (jt B L) (jq L) w (.mT fl nl (zx-l) N λi j=>el (l+i) j) (sliced A l zx c Q.i.size):=by
        intro l zx hlh hhn;unfold sliced;refine .mT fl nl (zx-l) N _ _ (c-l) (λi j=>f (l+i) j) U U (λE=>?_) (λi j hi d=>hl _ _ U d) (λJ i j hi d=>wm J _ _ U d) (λi j hi d=>?_) λi j hi d=>kk _ _ U d
        .split at E
         .have:=h0 E;omega
         .have:=h0 (by simpa using E);omega
        .have⟨b,of,C,p,iV,kD⟩:=Z (l+i) j U d;subst C;rw[bn U];refine⟨b,of+l*Q.i.size,by rw[cJ,Addr.add_lit],p,iV,?_⟩;rw[M];rw[bT]at kD;rw[<-kD];congr 2;omega
       have X:∀ (l zx:Nat) (Y I:Option av),lo.map a.eval=Y->hi.map a.eval=I->(Instr.slice t (.slice A n c) Y I am).run P w = .ok (sliced A l zx c Q.i.size) w ->
        (execOp a.eval o).run P w = .ok (.value<|sliced A l zx c Q.i.size) w:=by
        intro l zx Y I C e2 s;simp only[execOp,iW,Sem.run_bind,hq,C,e2,awO,run_sliceAt_slice (P:=P) w t _ _ _ _ R,s,Result.andThen_ok,Sem.run_pure]
       split at h
       .rename_i zy k F m;cases h;have p:0<=k/\k<=n:=H _ aK;cases lo with
        |some _=>simp at F
        |none=>
         cases hi with
         |none=>simp at m
         |some hi=>
          simp only[cJ,bQ]at m;have v:=r.op hi;rw[m]at v;have v:=z.lr v;have s:=run_slice_h (P:=P) w t A n c R zy k p.1 U;rw[S,vJ hT w D]at s;have J:=g 0 k.toNat (cj _) U ;simp only[dI,ct]at J;exact kI.pure r (X 0 k.toNat am (al<|.int zy k) rfl (by rw[cJ,v]) s) rfl J
       .rename_i V y F m;cases h;have p:0<=y/\y<=n:=H _ aK;cases hi with
        |some _=>simp at m
        |none=>
         cases lo with
         |none=>simp at F
         |some lo=>
          simp only[cJ,bQ]at F;have v:=r.op lo;rw[F]at v;have v:=z.lr v;have s:=run_slice_l (P:=P) w t A n c R V y p.1 p.2;rw[S,vJ hT w D]at s;exact kI.pure r (X y.toNat n (al<|.int V y) am (by rw[cJ,v]) rfl s) rfl (g y.toNat n U<|bA _)
       .rename_i V y zy k F m;cases h;have p:0<=y/\y<=k/\k<=n:=H _ aK;cases hi with
        |none=>simp at m
        |some hi=>
         cases lo with
         |none=>simp at F
         |some lo=>
          simp only[cJ,bQ]at F m;have v:=r.op lo;rw[F]at v;have v:=z.lr v;have G:=r.op hi;rw[m]at G;have G:=z.lr G;have s:=run_slice_lh (P:=P) w t A n c R V zy y k p.1 p.2.1 U;rw[S,vJ hT w D]at s;exact kI.pure r (X y.toNat k.toNat (al<|.int V y) (al<|.int zy k) (by rw[cJ,v]) (by rw[cJ,G]) s) rfl (g y.toNat k.toNat U U)
       .cases h
     .cases h
    .cases h
   .cases h
  .cases h
 .cases h
end
end
section
variable {P:aw} {K:ap->Prop} {T:List TI} {O:rT} {w0:mj} {B:Nat->Nat->Prop} {σ:PS} {o:Oper} {a:Act} {w:ap} {L:Lk} {u:kZ}
def aiJ{x l}(h:(E.v x).cells? = al l):∀ e,e ∈ l->e.nr 2=aa:=by
 intro e k;cases x<;>simp only[E.cells?]at h
 case agg c=>
  split at h
  .cases h;obtain⟨q,_,rfl⟩:=dF.1 k;rfl
  .cases h
 all_goals
  split at h
  .cases h;simp only[awf]at k;subst k;rfl
  .cases h
def avD{t l}(h:xt t=al l):∀ e,e ∈ l->e.nr 2=aa:=by
 unfold xt at h;split at h
 .exact aiJ h
 .cases h
def Nu{l vs bs br}(h:lf bs br w l vs)(k:l.all E.nT=aa):∀ v ∈ vs,qI v=ac:=by
 intro v y;have⟨q,x⟩:=dJ.1 y;have A:q<l.length:=by rw[<-h.len];exact(cF.1 x).1
 exact(h.kP q _ v (bH A) x).nT<|bZ.1 k _<|cT A
def abf{z n q}(h:0<z.size)(x:q<n):(madeCells z n)[q]? = al (z[q%z.size]'(bO _ h)):=by
 unfold madeCells;simp[x];rw[gr z _<|bO _ h]
def abg{z n}(x:0<z.size){v}(h:v ∈ madeCells z n):v ∈ z:=by
 unfold madeCells at h;simp only[gp,gq]at h;obtain⟨q,k,rfl⟩:=h;rw[gr z _<|bO _ x];exact atG _
def alC(hT:mP P T){t l c}(iW:o.op = .makeSlice t l c)(r:jy w0 B σ a w L)(h:kj P K T O σ o=al u)(V:∀ q,q ∈ u.ki->q):kI P K w0 B σ o a w u:=by
 simp only[kj,iW,Mq]at h;have S:=r.op l;have R:=r.op c;split at h
 .rename_i bx ki p;obtain⟨Q,MS,kU,ke,rfl⟩:=Kg h;clear h;simp only[XU]at p;split at p
  rotate_left
  .cases p
  rename_i kl g kc s Ff M;rw[Ff]at S;rw[M]at R;have S:=z.lr S;have R:=z.lr R;split at p
  .rename_i tt sc;split at p
   .rename_i e hd;have hu:P.underlying t=al (.slice e):=by rw[hT.sJ sc,hd]
    split at p
    .rename_i f oD;split at p
     .rename_i zx hz;split at p
      .rename_i C;simp only[bN]at C;have c1:=lY.1 C.1;have c2:=cY C.2;have⟨m,um,tf⟩:=F8 hz;have⟨H,q2⟩:=tf (jt B L) (jq L) w;have Bl:m.cells.size=f.i.size:=by have:=H.len;simp only[dR]at this;omega
       have F:0<m.cells.size:= U ;have Y:∀ (d:0<=g/\g<=s) (b:(f.i.bytes:Int)*s<=281474976710656/\s<=9223372036854775807),
        (execOp a.eval o).run P w = .ok (.value<|.slice (al ⟨w.heap.size,0,am⟩) g.toNat s.toNat) (w.alloc<|.cells (madeCells m.cells<|s.toNat*f.i.size) e):=by
        intro d b;have hr:=run_make (P:=P) w t e f.i m hu (hT.Bn oD) um kl kc g s d.1 d.2 b.1 b.2;simp only[execOp,iW,S,R,Sem.run_bind,hr,Result.andThen_ok,Sem.run_pure]
       have hb:∀ o':Obj,Below w.heap.size w (w.alloc o'):=λo'=>(Below.refl _ _).alloc (bA _) _
       have X:g<=s->s<=9223372036854775807->g.toNat<=s.toNat/\s.toNat<=maxLen:=by intro d b;unfold maxLen;omega
       split at p
       .
        rename_i e0 hd0;split at p
        .rename_i t0 RT;have⟨y,ys,xU,G,A⟩:=H.nm;have G:=z.lr G;have A:=A.sj;subst G A;have Z:m.cells = #[.slice am 0 0]:=by apply dU;rw[xU]
         have kF:f.i.size=1:=by rw[<-Bl,Z];rfl
         cases p;have d:0<=g/\g<=s:=V _ aK;have b:(f.i.bytes:Int)*s<=281474976710656/\s<=9223372036854775807:=V _ aK;have n:=X d.2 b.2;have GK:∀ v,v ∈ madeCells m.cells (s.toNat*f.i.size)->v = .slice am 0 0:=λv zy=>by
          have:=abg F zy;rw[Z]at this;simpa using this
         refine⟨_,_,_,.inl<|Y d b,r.new Q _ (λx=>x=w.heap.size) (.slice (al ⟨w.heap.size,0,am⟩) g.toNat s.toNat) (λ_=>.slice am 0 0) _ kU (λx E=>by subst E;simp) (hb _)
          (.inr ⟨w.heap.size,0,s.toNat,_,λ_ _ _=>undef,Lk.qk,heap_alloc_new w _,n.1,n.2,by rw[size_madeCells,kF,cr,ct];exact bA _,λk D _=>?_,λv zy=>?_,λk D=>?_,λx=>?_,λk k' x D Bd d=>?_,λk D=>?_⟩) ke,Lk.CQ,Lk.qk.symm⟩
         .rw [Lk.sG];have I:k<s.toNat*f.i.size:=by rw[kF];omega
          have hg:=abf F I;rw[ct,hg];exact congrArg al<|GK _<|dG hg
         .rw [GK v zy];rfl
         .rw [Lk.sG];exact⟨.inl ⟨rfl,rfl⟩,λi j J=>absurd J<|bD i⟩
         .rw [Lk.uB];simp only[Lk.sG,bf];simp
         .rw [Lk.sG]at d;simp[bf]at d
         .rw [Lk.sG];simp[bf]
        .cases p
       .cases p;have d:0<=g/\g<=s:=V _ aK;have b:(f.i.bytes:Int)*s<=281474976710656/\s<=9223372036854775807:=V _ aK;have n:=X d.2 b.2;refine⟨_,_,_,.inl<|Y d b,r.new Q _ (λx=>x=w.heap.size) (.slice (al ⟨w.heap.size,0,am⟩) g.toNat s.toNat) (λ_=>undef) _ kU (λx E=>by subst E;simp) (hb _)
         ⟨λ_ j=>m.cells.getD j undef,.inr ⟨w.heap.size,0,s.toNat,_,Lk.qk,heap_alloc_new w _,n.1,n.2,by rw[size_madeCells,ct];exact bA _,λi j J hj=>?_,λhn v zy=>?_⟩,λx=>?_,λi j J hj=>?_⟩ ke,Lk.CQ,Lk.qk.symm⟩
        .have I:i*f.i.size+j<s.toNat*f.i.size:=by
          have:=bX f.i.size (U:i+1<=s.toNat);rw[bT,bU]at this;omega
         have RE:(i*f.i.size+j)%m.cells.size=j:=by rw[Bl,bL,ey,bY hj]
         have N:j<m.cells.size:= U ;rw[ct,abf F I];simp only[RE];have W:m.cells.getD j undef=m.cells[j]:=by simp[N]
         rw[W];exact⟨rfl,q2 _ aK⟩
        .exact Nu H hn v<|by have:=abg F zy;simpa using this
        .rw [Lk.uB,Lk.qk];simp only[bf,bQ];exact eq_comm
        .have N:j<m.cells.size:= U ;have Rs:j<zx.length:= U ;have W:m.cells.getD j undef=m.cells[j]:=by simp[N]
         simp only[W];rw[bB,bH Rs];have⟨p1,_⟩:=tf (jt B<|L.set Q (λx=>x=w.heap.size) (.slice (al ⟨w.heap.size,0,am⟩) g.toNat s.toNat) λ_=>undef) (jq<|L.set Q (λx=>x=w.heap.size) (.slice (al ⟨w.heap.size,0,am⟩) g.toNat s.toNat) λ_=>undef)<|w.alloc<|.cells (madeCells m.cells<|s.toNat*f.i.size) e;exact⟨p1.kP j _ _ (bH Rs)<|by simp[N],avD hz _<|cT Rs⟩
      .cases p
     .cases p
    .cases p
   .cases p
  .cases p
 .cases h
def aly(I:mP P T){x t c}(M:c={ callee:=.builtin .len,args:=#[x],argTypes:=#[t] })(W:o.op = .call c){e}(J:Aa T t=al (.slice e))(r:jy w0 B σ a w L){V}(h:vc (σ.op x) σ=al V)(O:u={ r:=.e<|.v V.1,rb:=V.2 }):kI P K w0 B σ o a w u:=by
 have⟨ti,h1,h2⟩:=Dl J;have F:P.underlying t=al (.slice e):=by rw[I.sJ h1,h2]
 have he:=I4 F;have m:=r.op x;have zy:∀ (A:Option az) (n l:Nat),a.eval x = .slice A n l->V.1 = .int .i64 (n:Int)->kI P K w0 B σ o a w u:=by
  intro A n l e1 e2;have hr:=run_len_slice (P:=P) w t o.type A n l (by rw[he];exact F);subst O;refine kI.pure r (v:=.int .i64 (n:Int)) ?_ rfl (by rw[e2];exact .v _);subst M;have em:(#[x]:Array Operand).map a.eval = #[a.eval x]:= aK ;simp only[execOp,W,resolve,em,e1,Sem.run_bind,Sem.run_pure,Result.andThen_ok,invoke,builtin,hr];rfl
 cases hp:σ.op x with
 |e y=>
  rw[hp]at h m;cases y with
  |sl S n R Q=>
   simp only[vc,bQ]at h;generalize H:a.eval x=q at m;cases m with
   |sl _ _ _ _ A c f M hm h0 hl wm g kk=>exact zy A n c H<|by rw[<-h]
  |mT fl S n R Q=>
   simp only[vc,bQ]at h;generalize H:a.eval x=q at m;cases m with
   |mT _ _ _ _ _ A c f M hm h0 hl wm g kk=>exact zy A n c H<|by rw[<-h]
  |v y=>
   have m:=z.lr m;cases y with
   |slice A n l=>
    simp only[vc,bQ]at h;exact zy A n l m<|by rw[<-h]
   |_=>simp[vc]at h
  |_=>simp[vc]at h
 |own N=>
  rw[hp]at h m;have⟨_,s⟩:=m;simp only[vc]at h;split at h
  .rename_i S E n R Q j;simp only[bQ]at h;have⟨f,p,_,_⟩:=r.hb N _ j;rcases p with⟨p,d⟩|⟨b,i,c,X,p,_⟩
   .rw [p]at s;exact zy am 0 0 s<|by rw[<-h,d]
   .rw [p]at s;exact zy _ n c s<|by rw[<-h]
  .rename_i S E T0 n R Y Q Z j;simp only[bQ]at h;rcases r.hb N _ j with⟨p,d,_⟩|⟨b,i,c,X,f,p,_⟩
   .rw [p]at s;exact zy am 0 0 s<|by rw[<-h,d]
   rw[p]at s;exact zy _ n c s<|by rw[<-h]
  .cases h
 |jg N k=>
  rw[hp]at h m;have⟨_,s⟩:=m;simp only[vc]at h;split at h
  .rename_i S E T0 n R Y Q Z j;split at h
   .rename_i G;have G:k<n:=by simpa[gl]using G
    simp only[bQ]at h;have⟨b0,D,c0,C,f,g1,g2,g3,g4,g5,g6,g7,g8,_⟩:=(r.hb N _ j).xm U;rcases(g8 k G).1 with⟨p,d⟩|⟨b,i,c,X,p,_⟩
    .rw [p]at s;exact zy am 0 0 s<|by rw[<-h,d]
    .rw [p]at s;exact zy _ (Y k) c s<|by rw[<-h]
   .cases h
  .cases h
 |_=>rw[hp]at h;simp[vc]at h
end
section
variable {P:aw} {K:ap->Prop} {T:List TI} {O:rT} {w0:mj} {B:Nat->Nat->Prop} {σ:PS} {o:Oper} {a:Act} {w:ap} {L:Lk} {u:kZ}
def nU.qS{v T n sz f nl l}(h:nU w v T n sz f nl)(k:l=aa->nl=aa):nU w v T n sz f l:=by
 rcases h with h|⟨b,o,c,u,x,y,z,t,s,r,p⟩
 .exact .inl h
 .exact .inr ⟨b,o,c,u,x,y,z,t,s,r,λq=>p<|k q⟩
def Vt{p nl n sz el}(h:p.Lz=al (nl,n,sz,el)){v}(s:nN (jt B L) (jq L) L w p v):∃ (A:Option az) (c:Nat) (f:Nat->Nat->av),v = .slice A n c/\(A=am->c=0)/\n<=c /\
 (∀ i j,i<n->j<sz->(f i j).oneCell'=aa/\(nl=aa->qI (f i j)=ac))/\(∀ i j,i<n->j<sz->∃ b o,A=al ⟨b,o,am⟩/\w.cell? ⟨b,o+(i*sz+j),am⟩=al (f i j)) /\
 ∀ i j,i<n->j<sz->z (jt B L) (jq L) w (el i j) (f i j)/\(el i j).nr 2=aa:=by
 unfold PV.Lz at h;split at h
 .cases h;cases s with
  |sl _ _ _ _ A c f u m t l r x k=>exact⟨A,c,f,rfl,t,u,l,λi j y g=>by have⟨b,o,e,_,_,q⟩:=x i j y g;exact⟨b,o,e,q⟩,λi j y g=>⟨k i j y g,r i j y g⟩⟩
 .cases h;cases s with
  |mT _ _ _ _ _ A c f u m t l r x k=>exact⟨A,c,f,rfl,t,u,l,λi j y g=>by have⟨b,o,e,_,_,q⟩:=x i j y g;exact⟨b,o,e,q⟩,λi j y g=>⟨k i j y g,r rfl i j y g⟩⟩
 .cases h
def Yy(hT:mP P T){s x t c}(hc:c={ callee:=.builtin .append,args:=#[s,x],argTypes:=#[t,t] })(iW:o.op = .call c)(r:jy w0 B σ a w L)(h:Dm T σ o.dst t (σ.op s) (σ.op x)=al u)(ho:∀ q,q ∈ u.ki->q):kI P K w0 B σ o a w u:=by
 have F:=r.op s;have hx:=r.op x;simp only[Dm]at h;split at h
 .rename_i R m M el2 pg;have⟨A,cx,g,RQ,EW,hgc,Jx,C,gk⟩:=Vt pg hx;split at h
  .rename_i tt sc;split at h
   .rename_i e hd;have hu:P.underlying t=al (.slice e):=by rw[hT.sJ sc,hd]
    split at h
    .rename_i te oD;split at h
     .rename_i zx hz;split at h
      .rename_i Cb;simp only[bN]at Cb;have c1:=lY.1 Cb.1.1.1;have c2:=cY Cb.1.1.2;have c3:=cY Cb.1.2;have c4:=lY.1 Cb.2;have⟨zv,um,tf⟩:=F8 hz;have⟨q1,q2⟩:=tf (jt B L) (jq L) w;have Bl:zv.cells.size=M:=by have:=q1.len;simp only[dR]at this;omega
       have J:∀ (v:av) (n:Nat) (f:Nat->Nat->av) (N:Bool),a.eval s=v->nU w v e n M f N->(N=aa->R=aa/\zx.all E.nT=aa)->(n+m)*te.i.bytes<=140737488355328 ->
        ∃ Y Z,(execOp a.eval o).run P w = .ok (.value Y) Z/\It w v e n M m f g N Y Z:=by
        intro v n f N hv mC ke O;have⟨Y,Z,hr,l⟩:=Uc P w t o.type e te.i zv M hu (hT.Bn oD) um c1 Bl U c3 (λu hu=>q2 u<|by simpa using hu) v n f N mC A m cx g
         C (λhA=>by have:=EW hA;omega)
         (λk j W S=>⟨(Jx k j W S).1,λV=>(Jx k j W S).2 (ke V).1⟩) (λV u hu=>Nu q1 (ke V).2 u<|by simpa using hu) O
        refine⟨Y,Z,?_,l⟩;subst hc;have em:(#[s,x]:Array Operand).map a.eval = #[a.eval s,a.eval x]:= aK ;simp only[execOp,iW,resolve,em,hv,RQ,Sem.run_bind,Sem.run_pure,Result.andThen_ok,invoke,builtin,hr]
       split at h
       .
        rename_i X vq;rw[vq]at F;split at h
        .rename_i N T1 n sz el jD;split at h
         .rename_i H;simp only[bN]at H;have d1:=lY.1 H.1.1;have d2:=lY.1 H.1.2;subst d1 d2;cases h;have O:(n+m)*te.i.bytes<=140737488355328:=ho _ aK;have⟨f,p1,p2,p3⟩:=r.hb X _ jD;have⟨k1,k2⟩:=F;have ke:(N&&(R&&zx.all E.nT))=aa->R=aa/\zx.all E.nT=aa:=λV=>by simp only[bN]at V;exact V.2
          have⟨Y,Z,lH,l⟩:=J (L.val X) n f _ k2 (p1.qS λV=>by simp only[bN]at V;exact V.1) ke O;have ht:sM L w X (λy=>Y.ownBlock=al y) Z:=by
           refine⟨λy p=>?_,l.size,λy p kU=>l.oE y p λd=>kU<|(p2 y).2 d,l.os,l.tape,l.output⟩;rcases l.qV y p with d|⟨d,e2⟩
           .have:=(p2 y).2 d;exact⟨.inl this,bJ (r.hw X y this).2 l.size⟩
           .exact ⟨.inr d,e2⟩
          have hl:=ht.later Y<|L.jg X;have RO:∀ b,L.val X ≠ .pointer (al b):=λb d=>by
           rcases p1 with⟨e2,_⟩|⟨_,ofs,_,_,e2,_⟩<;>rw[d]at e2<;>cases e2
          refine⟨Y,Z,_,.inl lH,r.sw X _ _ Y Z RO ht ⟨λi j=>if i<n then f i j else g (i-n) j,by rw[Lk.qk];exact l.own,λy=>by rw[Lk.uB,Lk.qk],λi j hi S=>(λ(q:z _ _ _ _ _/\_)=>⟨hl.kP q.1,q.2⟩) (?_:_/\_)⟩ λV=>?_,Lk.CQ,Lk.qk.symm⟩
          .by_cases lR:i<n
           .simp only[lR,bK];exact p3 i j lR S
           .simp only[lR,bE];exact gk _ _ U S
          .have:=H.2;rw[V]at this;simpa[Bx.nl]using this
         .cases h
        .cases h
       .
        rename_i X k vq;rw[vq]at F;split at h
        .rename_i N T1 T0 n sz Q el jD;split at h
         .rename_i H;simp only[bN]at H;have d1:=lY.1 H.1.1;have d2:=lY.1 H.1.2;subst d1 d2;cases h;have W:k<n:=ho _ aK;have O:(Q k+m)*te.i.bytes<=140737488355328:=ho _ aK;have⟨b,ofs,cp,cur,f,p1,p2,p3,p4,p5,p6,p7,p8,p9,G,p11⟩:=(r.hb X _ jD).xm U;have⟨k1,k2⟩:=F;have ke:N=aa->R=aa/\zx.all E.nT=aa:=λV=>by have:=H.2;rw[V]at this;simpa using this
          have⟨Y,Z,lH,l⟩:=J (L.jg X k) (Q k) (f k) N k2 (p8 k W).1 ke O;have wc:∀ y,Y.ownBlock=al y->(L.jg X k).ownBlock=al y\/(w.heap.size<=y/\y<Z.heap.size):=l.qV;have Ze:b<w.heap.size:=(r.hw X b<|(p9 b).2<|.inl rfl).2;have Dz:∀ q y,q<n->(L.jg X q).ownBlock=al y->y<w.heap.size:=λq y zy p=>(r.hw X y<|(p9 y).2<|.inr ⟨q,zy,p⟩).2
          have ht:sM L w X (λy=>y=b\/∃ q,q<n/\(if q=k then Y else L.jg X q).ownBlock=al y) Z:=by
           refine⟨λy p=>?_,l.size,λy p kU=>l.oE y p λd=>kU<|(p9 y).2<|.inr ⟨k,W,d⟩,l.os,l.tape,l.output⟩;rcases p with rfl|⟨q,zy,p⟩
           .exact ⟨.inl<|(p9 y).2<|.inl rfl,bJ Ze l.size⟩
           .by_cases D:q=k
            .subst D;rw[bt rfl]at p;rcases wc y p with d|⟨d,e2⟩
             .have:=(p9 y).2<|.inr ⟨q,zy,d⟩;exact⟨.inl this,bJ (r.hw X y this).2 l.size⟩
             .exact ⟨.inr d,e2⟩
            .rw [bn D]at p;have:=(p9 y).2<|.inr ⟨q,zy,p⟩;exact⟨.inl this,bJ (r.hw X y this).2 l.size⟩
          have hl:=ht.later (L.val X) λq=>if q=k then Y else L.jg X q;have sy:∀ y,y<w.heap.size->(L.jg X k).ownBlock≠al y->Z.heap[y]? = w.heap[y]?:=l.oE;refine⟨Y,Z,_,.inl lH,r.xG X _ _ (λq=>if q=k then Y else L.jg X q) Z ht
           (.inr ⟨b,ofs,cp,cur,λq i j=>if q=k then(if i<Q q then f q i j else g (i-Q q) j)else f q i j,by rw[Lk.qk];exact p1,by rw[sy b Ze<|p11 k W];exact p2,p3,p4,p5,λq zy D=>?_,p7,λq zy=>?_,λy=>?_,λq q' y zy xR p I=>?_,λq zy p=>?_⟩) (λV=>?_),Lk.CQ,?_⟩
          .have jY:q≠k:=λd=>D (by rw[d])
           rw[Lk.sG,bn jY];exact p6 q zy aK 
          .rw [Lk.sG];by_cases D:q=k
           .subst D;simp only[bK];refine⟨l.own,λi j hi S=>(λ(q:z _ _ _ _ _/\_)=>⟨hl.kP q.1,q.2⟩) (?_:_/\_)⟩;by_cases lR:i<Q q
            .simp only[lR,bK];exact(p8 q zy).2 i j lR S
            .simp only[lR,bE];exact gk _ _ U S
           .simp only[D,bE];have⟨s1,s2⟩:=p8 q zy;exact⟨s1.block λy p=>sy y (Dz q y zy p) λd=>D<|G q k y zy W p d,λi j hi S=>⟨hl.kP (s2 i j hi S).1,(s2 i j hi S).2⟩⟩
          .rw [Lk.uB];simp only[Lk.sG]
          .simp only[Lk.sG]at p I;by_cases h1:q=k
           .subst h1;by_cases h2:q'=q
            .exact h2.symm
            .rw [bt rfl]at p;rw[bn h2]at I;rcases wc y p with d|⟨d,_⟩
             .exact G q q' y zy xR d I
             .have:=Dz q' y xR I;omega
           .rw [bn h1]at p;by_cases h2:q'=k
            .subst h2;rw[bt rfl]at I;rcases wc y I with d|⟨d,_⟩
             .exact G q q' y zy xR p d
             .have:=Dz q y zy p;omega
            .rw [bn h2]at I;exact G q q' y zy xR p I
          .simp only[Lk.sG]at p;by_cases h1:q=k
           .subst h1;rw[bt rfl]at p;rcases wc b p with d|⟨d,_⟩
            .exact p11 q zy d
            .omega
           .rw [bn h1]at p;exact p11 q zy p
          .have:=r.hl V X _ jD;exact this
          .rw [Lk.sG,bt rfl]
         .cases h
        .cases h
       .
        rename_i vq;rw[vq]at F;have F:=z.lr F;obtain⟨X,MS,kU,Bh,rfl⟩:=Kg h;have O:m*te.i.bytes<=140737488355328:=ho _ aK;have⟨Y,Z,lH,l⟩:=J _ 0 g (R&&zx.all E.nT) F (.inl ⟨rfl,rfl⟩) (λV=>by simpa using V) (by simpa using O);have hb:Below w.heap.size w Z:=⟨l.os,l.tape,l.output,l.size,λy p=>l.oE y p<|by simp[bf]⟩
        have hO:∀ y,Y.ownBlock=al y->w.heap.size<=y/\y<Z.heap.size:=λy p=>by
         rcases l.qV y p with d|d
         .simp [bf]at d
         .exact d
        have ht:sM L w X (λy=>Y.ownBlock=al y) Z:=⟨λy p=>⟨.inr (hO y p).1,(hO y p).2⟩,hb.size,λy p _=>hb.block y p,hb.os,hb.tape,hb.output⟩
        have hl:=ht.later Y λ_=>undef;have mC:=l.own;rw[ct]at mC;refine⟨Y,Z,_,.inl lH,r.new X _ (λy=>Y.ownBlock=al y) Y (λ_=>undef) Z kU hO hb ⟨λi j=>if i<0 then g i j else g (i-0) j,by rw[Lk.qk];exact mC,λy=>by rw[Lk.uB,Lk.qk],λi j hi S=>(λ(q:z _ _ _ _ _/\_)=>⟨hl.kP q.1,q.2⟩) (?_:_/\_)⟩ Bh,Lk.CQ,Lk.qk.symm⟩;simp only[bD,bE,dI];exact gk i j hi S
       .cases h
      .cases h
     .cases h
    .cases h
   .cases h
  .cases h
 .cases h
def aaK{id q T0 T1 n m sz nl s}{len l:Nat->Nat}{el g:Nat->Nat->Nat->E}(V:id≠q)(r:jy w0 B σ a w L){d w'}(W:0<m)(hq:qY (jt B L) (jq L) L w q<|.kn s T1 T0 m sz l g am)(f1:Nat->Nat->Nat->av)(h8:∀ k,k<n->nU w (L.jg id k) T0 (len k) sz (f1 k) nl/\∀ i j,i<len k->j<sz->z (jt B L) (jq L) w (el k i j) (f1 k i j)/\(el k i j).nr 2=aa)(Q:∀ k x,k<n->(L.jg id k).ownBlock=al x->L.own id x)(qa:∀ k k' x,k<n->k'<n->(L.jg id k).ownBlock=al x->(L.jg id k').ownBlock=al x->k=k'){v:av}(D:∀ y,v.ownBlock=al y->L.own id y)(qE:∀ k y,k<n->(L.jg id k).ownBlock=al y->v.ownBlock≠al y)(mC:nU w' d T1 (n+m) 1 (λk _=>if k<n then L.jg id k else L.jg q (k-n)) aa)(A:∀ y,d.ownBlock=al y->v.ownBlock=al y\/(w.heap.size<=y/\y<w'.heap.size))(F:w.heap.size<=w'.heap.size)(J:∀ y,y<w.heap.size->v.ownBlock≠al y->w'.heap[y]? = w.heap[y]?)(xQ:w'.os=w.os)(RV:w'.tape=w.tape)(rE:w'.output=w.output)(kU:L.nc id->∀ b,L.val id ≠ .pointer (al b))(ke:σ.nl=aa->(nl&&s)=aa):
 jy w0 B (σ.pG<|.tR id q<|.kn (nl&&s) T1 T0 (n+m) sz (λk=>if k<n then len k else l (k-n)) (λk=>if k<n then el k else g (k-n)) am) a w'
  (L.tn id q (λy=>d.ownBlock=al y\/∃ k,k<n+m/\(if k<n then L.jg id k else L.jg q (k-n)).ownBlock=al y) d λk=>if k<n then L.jg id k else L.jg q (k-n)):=by
 have⟨b,ofs,c,cur,f,g1,g2,g3,g4,g5,g6,g7,g8,g9,P,g11⟩:=hq.xm W;have N:∀ k x,k<m->(L.jg q k).ownBlock=al x->L.own q x:=λk x t hx=>(g9 x).2<|.inr ⟨k,t,hx⟩
 have T:∀ k y,k<n+m->(if k<n then L.jg id k else L.jg q (k-n)).ownBlock=al y->(L.own id y\/L.own q y)/\v.ownBlock≠al y:=by
  intro k y t zx;by_cases e:k<n
  .rw [bt e]at zx;exact⟨.inl<|Q k y e zx,qE k y e zx⟩
  .rw [bn e]at zx;have:=N _ _ U zx;exact⟨.inr this,λh=>V<|r.hi id q y (D y h) this⟩
 have M:∀ y,L.own id y\/L.own q y->y<w.heap.size:=λy h=>by
  rcases h with h|h
  .exact (r.hw id y h).2
  .exact (r.hw q y h).2
 refine r.tn V _ _ d _ w' (λy zx=>?_) F (λy zx H=>J y zx λh=>H<|D y h) xQ RV rE (λK=>?_) kU ke
 .rcases zx with zx|⟨k,t,zx⟩
  .rcases A y zx with h|⟨h1,S⟩
   .exact ⟨.inl<|D y h,bJ (r.hw id y<|D y h).2 F⟩
   .exact ⟨.inr<|.inr h1,S⟩
  .have h:=(T k y t zx).1;exact⟨h.elim .inl λh=>.inr<|.inl h,bJ (M y h) F⟩
 .rcases mC with⟨_,h0⟩|⟨R,o,c',X,G,k2,k3,k4,k5,k6,k7⟩
  .omega
  .have O:∀ k y,k<n+m->(if k<n then L.jg id k else L.jg q (k-n)).ownBlock=al y->w'.heap[y]? = w.heap[y]?:=λk y t zx=>J y (M y (T k y t zx).1) (T k y t zx).2
   refine .inr ⟨R,o,c',X,λk=>if k<n then f1 k else f (k-n),by rw[Lk.J0];exact G,k2,k3,k4,U,λk t _=>?_,λu hu=>?_,λk t=>?_,λy=>?_,λk k' y t Bd zx I=>?_,λk t zx=>?_⟩
   .rw [Lk.Bo];have:=(k6 k 0 t aG).1;rwa[cr,bV]at this
   .exact k7 rfl u hu
   .rw [Lk.Bo];by_cases e:k<n
    .simp only[e,bK];have⟨C,Y⟩:=h8 k e;refine⟨(C.qS λh=>?_).block λy zx=>O k y t<|by rw[bt e];exact zx,λi j Z zy=>⟨K.kP (Y i j Z zy).1,(Y i j Z zy).2⟩⟩;simp only[bN]at h;exact h.1
    .simp only[e,bE];have⟨C,Y⟩:=g8 (k-n) U;refine⟨(C.qS λh=>?_).block λy zx=>O k y t<|by rw[bn e];exact zx,λi j Z zy=>⟨K.kP (Y i j Z zy).1,(Y i j Z zy).2⟩⟩;simp only[bN]at h;exact h.2
   .rw [Lk.aaL,G];simp only[Lk.Bo,bf,bQ];constructor
    .rintro (h|h)
     .exact .inl h.symm
     .exact .inr h
    .rintro (h|h)
     .exact .inl h.symm
     .exact .inr h
   .simp only[Lk.Bo]at zx I;by_cases e:k<n
    .rw [bt e]at zx;by_cases p:k'<n
     .rw [bt p]at I;exact qa k k' y e p zx I
     .rw [bn p]at I;exact absurd (r.hi id q y (Q k y e zx)<|N _ _ U I) V
    .rw [bn e]at zx;by_cases p:k'<n
     .rw [bt p]at I;exact absurd (r.hi id q y (Q k' y p I)<|N _ _ U zx) V
     .rw [bn p]at I;have:=P (k-n) (k'-n) y U U zx I;omega
   .rw [Lk.Bo]at zx;have h:=T k R t zx;rcases A R (by rw[G];rfl)with S|⟨S,_⟩
    .exact h.2 S
    .have:=M R h.1;omega
def apX{p:PV}{q}(h:p.Hn=al q):p = .own q:=by
 cases p<;>simp only[PV.Hn,reduceCtorEq,bQ]at h;rw[h]
def alx(hT:mP P T){s x t q c}(hc:c={ callee:=.builtin .append,args:=#[s,x],argTypes:=#[t,t] })(iW:o.op = .call c)(r:jy w0 B σ a w L)(hq:(σ.op x).Hn=al q)(h:EK T σ o.dst t (σ.op s) q=al u)(ho:∀ q,q ∈ u.ki->q):kI P K w0 B σ o a w u:=by
 have hx:=r.op x;rw[apX hq]at hx;have⟨kx,kv⟩:=hx;have M:=r.op s;unfold EK at h;split at h
 .rename_i nl2 T2 T0 m sz len2 el2 e W H B9;have⟨te,zv,uz,hu,oD,wC,MQ,lk,um,vv,vy,Fs⟩:=Wu w hT B9;have G:∀ v,v ∈ zv.cells->v.oneCell'=aa/\qI v=ac:=λv X=>by
   rw[vv]at X;have:v=uz:=by simpa using X
   rw[this];exact⟨vy,Fs⟩
  have F:∀ (v:av) (n:Nat) (f:Nat->Nat->av),0<m->a.eval s=v->nU w v e n 1 f aa->(n+m)*W<=140737488355328 ->
    ∃ Y Z,(execOp a.eval o).run P w = .ok (.value Y) Z/\It w v e n 1 m f (λk _=>L.jg q k) aa Y Z:=by
   intro v n f V X mC E;have⟨bq,S,cq,curq,fq,g1,g2,g3,g4,g5,g6,g7,g8,g9,g10,g11⟩:=(r.hb q _ H).xm V;have DL:a.eval x = .slice (al ⟨bq,S,am⟩) m cq:=by rw[kv,g1]
   have⟨Y,Z,hr,p⟩:=Uc P w t o.type e te.i zv 1 hu (hT.Bn oD) um wC (by rw[vv];rfl) aG U (λv X=>(G v X).1) v n f aa mC (al ⟨bq,S,am⟩) m cq (λk _=>L.jg q k)
    (λk j zy D=>⟨bq,S,rfl,by
     obtain rfl:j=0:= U ;have:=g6 k zy aK;simp only[aC,g2];simpa using this⟩) (λhA=>by cases hA)
    (λk j zy D=>⟨(g8 k zy).1.head.2.1,λ_=>(g8 k zy).1.head.2.2⟩) (λ_ v X=>(G v X).2) (by rw[MQ];exact E)
   refine⟨Y,Z,?_,p⟩;subst hc;have em:(#[s,x]:Array Operand).map a.eval = #[a.eval s,a.eval x]:= aK ;simp only[execOp,iW,resolve,em,X,DL,Sem.run_bind,Sem.run_pure,Result.andThen_ok,invoke,builtin,hr]
  split at h
  .
   rename_i d vq;rw[vq]at M;have⟨ks,ks2⟩:=M;split at h
   .rename_i nl T1 T0' n C R el jD;split at h
    .rename_i g;cases h;simp only[bN,dN]at g;obtain rfl:=lY.1 g.1.1.1.1;obtain rfl:=lY.1 g.1.1.1.2;obtain rfl:=lY.1 g.1.1.2;obtain rfl:=lY.1 g.1.2;have A:d≠q:=λe=>by have:=g.2;rw[e,cN]at this;cases this
     have V:0<m:=ho _ aK;have E:(n+m)*W<=140737488355328:=ho _ aK;obtain⟨f,I,p8,p9,Q,DI,N,pno⟩:∃ f:Nat->Nat->Nat->av,nU w (L.val d) _ n 1 (λk _=>L.jg d k) aa /\
       (∀ k,k<n->nU w (L.jg d k) T0' (R k) C (f k) nl/\∀ i j,i<R k->j<C->z (jt B L) (jq L) w (el k i j) (f k i j)/\(el k i j).nr 2=aa) /\
       (∀ k x,k<n->(L.jg d k).ownBlock=al x->L.own d x)/\(∀ k J x,k<n->J<n->(L.jg d k).ownBlock=al x->(L.jg d J).ownBlock=al x->k=J) /\
       (∀ y,(L.val d).ownBlock=al y->L.own d y)/\(∀ k y,k<n->(L.jg d k).ownBlock=al y->(L.val d).ownBlock≠al y)/\∀ b,L.val d ≠ .pointer (al b):=by
      rcases r.hb d _ jD with⟨O,h2,h3⟩|⟨b,ofs,cp,cur,f,p1,p2,p3,p4,p5,p6,p7,p8,p9,Q,N⟩
      .refine ⟨λ_ _ _=>undef,.inl ⟨O,h2⟩,λk zy=> U,λk x zy=> U,λk J x zy=> U,λy l=>?_,λk y zy=> U,λb hb=>?_⟩
       .rw [O]at l;simp[bf]at l
       .rw [O]at hb;cases hb
      .refine ⟨f,.inr ⟨b,ofs,cp,cur,p1,p2,p3,p4,U,λk j zy D=>?_,λ_=>p7⟩,p8,λk y zy l=>(p9 y).2<|.inr ⟨k,zy,l⟩,Q,λy l=>?_,λk y zy l Fm=>?_,λb1 lk=>?_⟩
       .obtain rfl:j=0:= U ;rw[cr,bV];exact⟨p6 k zy aK,(p8 k zy).1.head.2.1⟩
       .rw [p1]at l;simp only[bf,bQ]at l;exact(p9 y).2<|.inl l.symm
       .rw [p1]at Fm;simp only[bf,bQ]at Fm;exact N k zy<|Fm▸l
       .rw [p1]at lk;cases lk
     have⟨Y,Z,lH,p⟩:=F (L.val d) n (λk _=>L.jg d k) V ks2 I E;refine⟨Y,Z,_,.inl lH,aaK A r V (r.hb q _ H) f p8 p9 Q DI N p.own p.qV p.size p.oE p.os p.tape p.output (λ_=>pno) λhn=>?_,Lk.Ss A,Lk.J0.symm⟩
     .have O:nl=aa:=r.hl hn d _ jD;have h2:nl2=aa:=r.hl hn q _ H;rw[O,h2];rfl
    .cases h
   .cases h
  .
   rename_i d vq MS;rw[vq]at M;have M:=z.lr M;split at h
   .rename_i kU;split at h
    .rename_i g;cases h;simp only[bN,dN]at g;obtain rfl:=lY.1 g.1;have A:d≠q:=λe=>by have:=g.2;rw[e,cN]at this;cases this
     have V:0<m:=ho _ aK;have E:m*W<=140737488355328:=ho _ aK;have⟨Y,Z,lH,p⟩:=F _ 0 (λk _=>L.jg d k) V M (.inl ⟨rfl,rfl⟩) (by simpa using E);have RB:¬L.nc d:=λh=>by have:=(r.hv d).1 h;rw[kU]at this;cases this
     have D:=aaK (n:=0) (nl:=aa) (len:=λ_=>0) (el:=λ_ _ _=>.any) A r V (r.hb q _ H) (λ_ _ _=>undef) (λk zy=>absurd zy<|bD k) (λk y zy=>absurd zy<|bD k) (λk J y zy=>absurd zy<|bD k)
      (v:=.slice am 0 0) (λy l=>by simp[bf]at l) (λk y zy=>absurd zy<|bD k) p.own p.qV p.size p.oE p.os p.tape p.output (λh=>absurd h RB) (λhn=>r.hl hn q _ H)
     simp only[bD,bE,dI,ct,dw]at D;exact⟨Y,Z,_,.inl lH,D,Lk.Ss A,Lk.J0.symm⟩
    .cases h
   .cases h
  .cases h
 .cases h
def alj(l:mP P T)(g:∀ b o,B b o->w0.pX b){s x t c}(e:c={ callee:=.builtin .append,args:=#[s,x],argTypes:=#[t,t] })(W:o.op = .call c)(r:jy w0 B σ a w L)(h:EJ T σ o.dst t (σ.op s) (σ.op x)=al u)(j:∀ q,q ∈ u.ki->q):kI P K w0 B σ o a w u:=by
 unfold EJ at h;split at h
 .rename_i G X;split at h
  .rename_i F Y E n D C d Z U;split at h
   .rename_i z;have z:=lY.1 z;subst z;cases h;have V:jy w0 B { σ with nl:=ac } a w L:=⟨r.hd,r.hs,r.ht,r.hb,r.hv,r.hn,r.hw,r.hi,r.he,λh=>by cases h⟩
    have⟨v,S,A,H,y,f⟩:=Yy (K:=K) l e W V X λq R=>j q<|List.mem_cons_of_mem _ R
    rw[Z]at y;rw[U]at f;have⟨Q,k,N⟩:=jy.fin g y;refine⟨v,S,Q,H,⟨k.hd,k.hs,k.ht,k.hb,k.hv,k.hn,k.hw,k.hi,k.he,λM i b p=>r.hl M i b ?_⟩,?_⟩
    .have p:look (σ.b.filter λx=>!a2 x.1 d) i=al b:=p;rw[DS]at p;split at p
     .cases p
     .exact p
    rw[f.2];exact N
   .cases h
  .cases h
 .cases h
def alD{x y c}(t:c.callee = .builtin .max/\c.args = #[x,y])(i:o.op = .call c)(r:jy w0 B σ a w L){k k' p q}(s:σ.op x = .e (.v<|.int k p))(n:σ.op y = .e (.v<|.int k' q))(m:u={ r:=.e<|.v<|.int k<|if q>p then q else p }):kI P K w0 B σ o a w u:=by
 have h:=r.op x;have l:=r.op y;rw[s]at h;rw[n]at l;have h:=z.lr h;have l:=z.lr l;subst m;refine kI.pure r (v:=.int k<|if q>p then q else p) ?_ rfl (.v _);have e:(#[x,y]:Array Operand).map a.eval = #[.int k p,.int k' q]:=by simp[h,l]
 simp only[execOp,i,resolve,t.1,t.2,e,Sem.run_bind,Sem.run_pure,Result.andThen_ok,invoke,builtin,run_max_int2]
def alE{x y j c}(l:c.callee = .builtin .max/\c.args = #[x,y,j])(i:o.op = .call c)(r:jy w0 B σ a w L){k k' h p q s}(g:σ.op x = .e (.v<|.int k p))(f:σ.op y = .e (.v<|.int k' q))(e:σ.op j = .e (.v<|.int h s))(d:u={ r:=.e<|.v<|.int k<|if s>(if q>p then q else p)then s else(if q>p then q else p) }):kI P K w0 B σ o a w u:=by
 have t:=r.op x;have n:=r.op y;have m:=r.op j;rw[g]at t;rw[f]at n;rw[e]at m;have t:=z.lr t;have n:=z.lr n;have m:=z.lr m;subst d;refine kI.pure r (v:=.int k<|if s>(if q>p then q else p)then s else(if q>p then q else p)) ?_ rfl (.v _);have b:(#[x,y,j]:Array Operand).map a.eval = #[.int k p,.int k' q,.int h s]:=by simp[t,n,m]
 simp only[execOp,i,resolve,l.1,l.2,b,Sem.run_bind,Sem.run_pure,Result.andThen_ok,invoke,builtin,run_max_int3]
def alF{x y c}(t:c.callee = .builtin .min/\c.args = #[x,y])(i:o.op = .call c)(r:jy w0 B σ a w L){k k' p q}(s:σ.op x = .e (.v<|.int k p))(n:σ.op y = .e (.v<|.int k' q))(m:u={ r:=.e<|.v<|.int k<|if q<p then q else p }):kI P K w0 B σ o a w u:=by
 have h:=r.op x;have l:=r.op y;rw[s]at h;rw[n]at l;have h:=z.lr h;have l:=z.lr l;subst m;refine kI.pure r (v:=.int k<|if q<p then q else p) ?_ rfl (.v _);have e:(#[x,y]:Array Operand).map a.eval = #[.int k p,.int k' q]:=by simp[h,l]
 simp only[execOp,i,resolve,t.1,t.2,e,Sem.run_bind,Sem.run_pure,Result.andThen_ok,invoke,builtin,run_min_int2]
end
structure Gd(P:Program)(K:World->Prop)(w0:mj)(B:Nat->Nat->Prop):Prop where
 k:∀ w,qZ w0 w0.w w->K w
 hB:∀ b o,B b o->w0.pX b/\pR w0.w b
def pR.Aw{w w' b}(h:pR w b)(k:w'.heap[b]? = w.heap[b]?):pR w' b:=by
 intro o x e;exact h o x<|by rw[<-e];exact(World.cell?_of_block (w:=w) (w':=w') k).symm
def pR.S8{w b cs T f}(g:w.heap[b]? = al (.cells cs T f))(h:∀ v,v ∈ cs->qI v=ac):pR w b:=by
 intro o x e;simp only[aC,g]at e;simp only[ic,bS,bE]at e;have:=h _<|dG e;cases this
section
variable {P:aw} {K:ap->Prop} {T:List TI} {O:rT} {w0:mj} {B:Nat->Nat->Prop} {σ:PS} {o:Oper} {a:Act} {w:ap} {L:Lk} {u:kZ}
def nU.NM{v T n sz f}(h:nU w v T n sz f aa){x}(k:v.ownBlock=al x):pR w x:=by
 rcases h with⟨rfl,_⟩|⟨b,o,c,u,rfl,g,_,_,_,_,e⟩
 .simp [bf]at k
 .simp [bf]at k;subst k;exact pR.S8 g<|e rfl
def qY.NM{id b}(h:qY (jt B L) (jq L) L w id b)(y:b.nl=aa){x}(u:L.own id x):pR w x:=by
 cases b with
 |cells T l=>
  have⟨b,V,t,z,s,m,g⟩:=h;obtain rfl:=(z x).1 u;exact pR.S8 s λv r=>Nu m y v<|by simpa using r
 |row q T n d a=>
  have⟨f,t,z,s⟩:=h;have y:q=aa:=y;subst y;exact t.NM<|(z x).1 u
 |kn q S R n d i a e=>
  rcases h with⟨_,_,h⟩|h
  .exact absurd u<|h x
  have⟨b,o,c,j,f,t,z,s,m,g,Q,X,Y,Z,P,E⟩:=h;have y:q=aa:=y;subst y;rcases(Z x).1 u with rfl|⟨k,U,p⟩
  .exact pR.S8 z λv r=>X v r
  .exact (Y k U).1.NM p
def jy.LJ(g:Gd P K w0 B)(r:jy w0 B σ a w L)(n:σ.nl=aa):∀ b o,jt B L b o->b<w.heap.size/\pR w b:=by
 intro b o h;rcases h with h|⟨i,h⟩
 .have⟨x,y⟩:=g.hB b o h;exact⟨bJ x.1 r.he.size,y.Aw<|r.he.block b x⟩
 .refine ⟨(r.hw i b h).2,?_⟩;have l:=(r.hv i).1<|r.hn i b h;have⟨k,j⟩:=ie.1 l;exact(r.hb i k j).NM (r.hl n i k j) h
def qY.jE{id T l}(h:qY (jt B L) (jq L) L w id<|.cells T l){b}(u:L.val id = .pointer (al ⟨b,0,am⟩))(i:∀ x,L.own id x->x<w.heap.size):
 z (jt B L) (λ_=>False) w (.jE l.length λj=>l.getD j .any) (.pointer<|al ⟨b,0,am⟩):=by
 have⟨p,v,n,s,r,y,q⟩:=h;rw[u]at n;cases n;refine .jE _ _ b 0 (λj=>v.getD j undef) (λh=>h) (i b<|(s b).2 rfl) (λj k=>?_) (λj k=>?_) λj k=>?_
 .have t:j<v.length:=by rw[y.len];exact k
  rw[bB,bH t];exact q _<|cT t
 .have t:j<v.length:=by rw[y.len];exact k
  simp only[aC,r];simp[t]
 .have t:j<v.length:=by rw[y.len];exact k
  rw[bB,bH k,bB,bH t];exact(y.kP j _ _ (bH k)<|bH t).qS (λ_ _ h=>h) λ_ h=>h.elim
def nU.adz{v T n sz f nl el bs br}(u:nU w v T n sz f nl)(V:∀ x,v.ownBlock=al x->x<w.heap.size)(r:∀ i j,i<n->j<sz->z bs br w (el i j) (f i j)/\(el i j).nr 2=aa):z (λ_ _=>False) (λ_=>False) w (.sl nl n sz el) v:=by
 rcases u with⟨rfl,rfl⟩|⟨b,o,c,t,rfl,g,q,X,p,D,e⟩
 .exact .sl nl 0 sz el am 0 f (bA _) aG (λ_=>rfl) (λi j k=>absurd k<|bD i) (λi j k=>absurd k<|bD i) (λi j k=>absurd k<|bD i) λi j k=>absurd k<|bD i
 .refine .sl nl n sz el _ c f q (by unfold maxLen at X;omega) (λh=>by cases h) (λi j k y=>⟨(D i j k y).2,λs=>e s _<|dG (D i j k y).1⟩) (λi j k y=>(r i j k y).2)
   (λi j k y=>⟨b,o,rfl,λh=>h,V b rfl,?_⟩) (λi j k y=>(z.nr ((r i j k y).1.qS (λ_ _ h=>h.elim) λ_ h=>h) 2 (r i j k y).2))
  simp only[aC,g];simpa using(D i j k y).1
section
variable(r:jy w0 B σ a w L)
def jy.aaj{id T1 T0 n sz k nl len el p}(j:σ.bo id=al (.kn nl T1 T0 n sz len el p))(h:k<n):
 z (λ_ _=>False) (λ_=>False) w (.sl nl (len k) sz<|el k) (L.jg id k):=by
 have⟨b,o,c,u,f,t,s,q,m,l,g,e,y,d,a,E⟩:=(r.hb id _ j).xm U;exact(y k h).1.adz (λx v=>(r.hw id x<|(d x).2<|.inr ⟨k,h,v⟩).2) (y k h).2
section
variable{c:CV}{e:E}{is:List Nat}(h:c.ext σ=al (e,is))
def CV.I9(U:c.JV=ac){v}(k:zS (jt B L) (jq L) L w c v):z (jt B L) (λ_=>False) w e v:=by
 cases c with
 |e x=>simp only[CV.ext,bQ,ch]at h;obtain⟨rfl,_⟩:=h;exact k.qS (λ_ _ h=>h) λ_ h=>h.elim
 |box i=>
  simp only[CV.ext]at h;split at h
  .rename_i T l j;simp only[bQ,ch]at h;obtain⟨rfl,_⟩:=h;obtain⟨_,b,y,rfl⟩:=k;exact(r.hb i _ j).jE y λx t=>(r.hw i x t).2
  .cases h
 |row i=>cases U
def CV.Qu{v}(k:zS (jt B L) (jq L) L w c v):z (λ_ _=>False) (λ_=>False) w e v:=by
 cases kU:c.JV with
 |false=>exact(CV.I9 r h kU k).qS (λ_ _ h=>h.elim) λ_ h=>h
 |true=>
  cases c with
  |row i=>
   simp only[CV.ext]at h;split at h
   .rename_i d T a n X l Y D;split at h
    .rename_i x;have x:=lY.1 x;subst x;simp only[bQ,ch]at h;obtain⟨rfl,_⟩:=h;obtain⟨_,b,o,Z,c,t,rfl⟩:=k;have R:=r.aaj D<|fg 0;have⟨F,y,V,s,f,C,q,S,P,N,p,M,m,g,H,E⟩:=(r.hb i _ D).xm aG;rw[t]at C;cases C;have Q:=p 0 (fg 0) aK;refine .jE 1 _ b o (λ_=>L.jg i 0) (λh=>h) (r.hw i b<|(g b).2<|.inl rfl).2 (λj u=>(m 0<|fg 0).1.head.2.1) (λj u=>?_) λj u=>R;obtain rfl:j=0:= U ;simp only[aC,q];simpa using Q
    .cases h
   .cases h
  |_=>cases kU
end
section
variable{l:List CV}{e:List E}{is:List Nat}(h:xE σ l=al (e,is))
def XY(U:l.any CV.JV=ac){vs}(k:vs.length=l.length)(y:∀ (i:Nat) (c:CV) (x:av),l[i]? = al c->vs[i]? = al x->zS (jt B L) (jq L) L w c x):lf (jt B L) (λ_=>False) w e vs:=by
 induction l generalizing e is vs with
 |nil=>simp only[xE,bQ,ch]at h;obtain⟨rfl,_⟩:=h;obtain rfl:=dM k;exact .nil _ _ _
 |cons c l z=>
  cases vs with
  |nil=>simp at k
  |cons v vs=>
   simp only[xE]at h;split at h
   .rename_i x i p j u t;simp only[bQ,ch]at h;obtain⟨rfl,_⟩:=h;simp only[fe,fC]at U;exact .cons (CV.I9 r u U.1<|y 0 c v rfl rfl)<|z t U.2 (by simpa using k) λi c x s q=>y (i+1) c x (by simpa using s)<|by simpa using q
   .cases h
def XZ{vs}(k:vs.length=l.length)(y:∀ (i:Nat) (c:CV) (x:av),l[i]? = al c->vs[i]? = al x->zS (jt B L) (jq L) L w c x):lf (λ_ _=>False) (λ_=>False) w e vs:=by
 induction l generalizing e is vs with
 |nil=>simp only[xE,bQ,ch]at h;obtain⟨rfl,_⟩:=h;obtain rfl:=dM k;exact .nil _ _ _
 |cons c l z=>
  cases vs with
  |nil=>simp at k
  |cons v vs=>
   simp only[xE]at h;split at h
   .rename_i x i p j u t;simp only[bQ,ch]at h;obtain⟨rfl,_⟩:=h;exact .cons (CV.Qu r u<|y 0 c v rfl rfl)<|z t (by simpa using k) λi c x s q=>y (i+1) c x (by simpa using s)<|by simpa using q
   .cases h
end
end
def nU.Sw{v T n sz f nl el bs br}(u:nU w v T n sz f nl)(V:∀ x,v.ownBlock=al x->x<w.heap.size)(r:∀ i j,i<n->j<sz->z bs br w (el i j) (f i j)/\(el i j).nr 2=aa):z bs (λ_=>False) w (.mT aa nl n sz el) v:=by
 rcases u with⟨rfl,rfl⟩|⟨b,o,c,t,rfl,g,q,X,p,D,e⟩
 .exact .mT aa nl 0 sz el am 0 f (bA _) aG (λ_=>rfl) (λi j k=>absurd k<|bD i) (λ_ i j k=>absurd k<|bD i) (λi j k=>absurd k<|bD i) λi j k=>absurd k<|bD i
 .refine .mT aa nl n sz el _ c f q (by unfold maxLen at X;omega) (λh=>by cases h) (λi j k y=>⟨(D i j k y).2,λs=>e s _<|dG (D i j k y).1⟩) (λ_ i j k y=>(r i j k y).2)
   (λi j k y=>⟨b,o,rfl,λh=>h,V b rfl,?_⟩) (λi j k y=>z.nr (r i j k y).1 2 (r i j k y).2)
  simp only[aC,g];simpa using(D i j k y).1
section
variable(r:jy w0 B σ a w L){p:PV}{e:E}{is:List Nat}(h:p.ext σ=al (e,is))
def PV.I9(zy:p.zg σ=ac){v}(s:nN (jt B L) (jq L) L w p v):z (jt B L) (λ_=>False) w e v:=by
 cases p with
 |e x=>simp only[PV.ext,bQ,ch]at h;obtain⟨rfl,_⟩:=h;exact z.qS (λ_ _ h=>h) (λ_ h=>h.elim) s
 |box d o=>
  cases o with
  |succ=>simp[PV.ext]at h
  |zero=>
   simp only[PV.ext]at h;split at h
   .rename_i G l D;simp only[bQ,ch]at h;obtain⟨rfl,_⟩:=h;obtain⟨_,b,m,rfl⟩:=s;exact(r.hb d _ D).jE m λx g=>(r.hw d x g).2
   .cases h
 |qC f V=>
  simp only[PV.ext]at h;split at h
  .rename_i T F zx;simp only[bQ,ch]at h;obtain⟨rfl,_⟩:=h;obtain⟨S,rfl,m,R⟩:=s;have:=XY r zx zy m R;exact .fn f T S this.len this.kP
  .cases h
 |own d=>
  obtain⟨_,rfl⟩:=s;simp only[PV.zg]at zy;split at zy
  .rename_i E C A n I Q J u D;simp only[PV.ext,D]at h;cases u with
   |some k=>cases h
   |none=>
    simp only[bQ,ch]at h;obtain⟨rfl,_⟩:=h;rcases r.hb d _ D with⟨zx,a,_⟩|⟨b,X,c,P,f,zx,a,N,M,K,H,O,q,Y,W,qE⟩
    .subst a;rw[zx];exact .mT ac aa 0 1 _ am 0 (λ_ _=>undef) (bA _) aG (λ_=>rfl) (λi j t=>absurd t<|bD i) (λh=>by cases h) (λi j t=>absurd t<|bD i) λi j t=>absurd t<|bD i
    .rw [zx];refine .mT ac aa n 1 _ _ c (λk _=>L.jg d k) N (by unfold maxLen at M;omega) (λh=>by cases h) (λk j y Z=>⟨(q k y).1.head.2.1,λ_=>(q k y).1.head.2.2⟩) (λh=>by cases h)
      (λk j y Z=>⟨b,X,rfl,λh=>h,(r.hw d b<|(Y b).2<|.inl rfl).2,?_⟩) (λk j y Z=>(q k y).1.Sw (λx g=>(r.hw d x<|(Y x).2<|.inr ⟨k,y,g⟩).2) (q k y).2)
     rw[cr];obtain rfl:j=0:= U ;simp only[aC,a];simpa using H k y aK 
  .cases zy
 |jg d k=>cases zy
 |oe=>simp[PV.ext]at h
 |rK=>simp[PV.ext]at h
def PV.Qu{v}(y:nN (jt B L) (jq L) L w p v):z (λ_ _=>False) (λ_=>False) w e v:=by
 by_cases U:p.zg σ=ac
 .exact (PV.I9 r h U y).qS (λ_ _ h=>h.elim) λ_ h=>h
 .cases p with
  |own d=>
   obtain⟨_,rfl⟩:=y;simp only[PV.ext]at h;split at h
   .rename_i u T n s t D;simp only[bQ,ch]at h;obtain⟨rfl,_⟩:=h;have⟨f,Q,q,m⟩:=r.hb d _ D;exact Q.adz (λx g=>(r.hw d x<|(q x).2 g).2) m
   .rename_i u c b n s l t D;exact absurd (by simp only[PV.zg,D]) U
   .cases h
  |jg d k=>
   obtain⟨_,rfl⟩:=y;simp only[PV.ext]at h;split at h
   .rename_i u c b n s l t D;split at h
    .rename_i a;simp only[bQ,ch]at h;obtain⟨rfl,_⟩:=h;exact r.aaj D<|by simpa[gl]using a
    .cases h
   .cases h
  |qC f o=>
   simp only[PV.ext]at h;split at h
   .rename_i X R Q;simp only[bQ,ch]at h;obtain⟨rfl,_⟩:=h;obtain⟨Y,rfl,Z,V⟩:=y;have:=XZ r Q Z V;exact .fn f X Y this.len this.kP
   .cases h
  |e x=>exact absurd rfl U
  |box d S=>exact absurd rfl U
  |oe d s i j=>exact absurd rfl U
  |rK d s k i j=>exact absurd rfl U
end
section
variable(r:jy w0 B σ a w L){l:List Operand}{e:List E}{is:List Nat}(h:wM σ l=al (e,is))
def Vr:lf (λ_ _=>False) (λ_=>False) w e<|l.map a.eval:=by
 induction l generalizing e is with
 |nil=>simp only[wM,bQ,ch]at h;obtain⟨rfl,_⟩:=h;exact .nil _ _ _
 |cons x l k=>
  simp only[wM]at h;split at h
  .rename_i y i s j z u;simp only[bQ,ch]at h;obtain⟨rfl,_⟩:=h;exact .cons (PV.Qu r z<|r.op x)<|k u
  .cases h
def Vq(k:(l.map σ.op).any (PV.zg σ)=ac):lf (jt B L) (λ_=>False) w e<|l.map a.eval:=by
 induction l generalizing e is with
 |nil=>simp only[wM,bQ,ch]at h;obtain⟨rfl,_⟩:=h;exact .nil _ _ _
 |cons x l z=>
  simp only[wM]at h;split at h
  .rename_i y i s j u v;simp only[bQ,ch]at h;obtain⟨rfl,_⟩:=h;simp only[ew,fe,fC]at k;exact .cons (PV.I9 r u k.1<|r.op x)<|z v k.2
  .cases h
end
def Ll(P:aw)(K:ap->Prop)(w0:mj)(B:Nat->Nat->Prop)(σ:PS)(o:Oper)(a:Act)(w:ap)(u:kZ):Prop:=
 ∀ (c:Act->ap->Prop) (Q:Exit->Act->ap->Prop),(∀ v h L,jy w0 B (σ.pG u.f) a h L->nN (jt B L) (jq L) L h u.r v->c (a.put o.dst v) h)->o.wp P a w c Q
def kI.qp(h:kI P K w0 B σ o a w u):Ll P K w0 B σ o a w u:=by
 intro c Q k;have⟨v,x,L,l,r,p⟩:=h;unfold Oper.wp;rcases l with l|⟨l,rfl⟩
 .rw [l];exact k v x L r p
 .rw [l];exact k _ x L r p
def Xm(g:Gd P K w0 B)(r:jy w0 B σ a w L){c f}(iW:o.op = .call c)(hf:c.callee = .value f){zy xs ys is s N}(Cd:a.eval f = .func (.func zy) #[] s.toArray)(RY:lf (λ_ _=>False) (λ_=>False) w xs<|c.args.toList.map a.eval)(rH:N=ac->lf (jt B L) (λ_=>False) w xs (c.args.toList.map a.eval))(RW:lf (λ_ _=>False) (λ_=>False) w ys s)(ze:N=ac->lf (jt B L) (λ_=>False) w ys s)(h:Dp P K O σ o.dst zy (xs++ys) is N=al u)(M:∀ q,q ∈ u.ki->q):Ll P K w0 B σ o a w u:=by
 intro Kc Q G;simp only[Dp]at h;split at h
 .rename_i I JK;split at h
  .rename_i l;cases h;have p:PC P K zy (xs++ys) I:=M _ aK;have Q6:=RY.app RW;have H:(execOp a.eval o).run P w = .ok (.enter zy ((c.args.toList.map a.eval)++s).toArray) w:=by
    have Z:c.args.map a.eval=(c.args.toList.map a.eval).toArray:=by apply dU;simp
    have U:#[]++(c.args.toList.map a.eval).toArray++s.toArray=((c.args.toList.map a.eval)++s).toArray:= aK ;simp only[execOp,iW,resolve,hf,Cd,Deferred.ofValue,Sem.run_bind,Sem.run_pure,Result.andThen_ok,invoke,Z,U,p.call]
   unfold Oper.wp;rw[H];show Calls P zy _ w _;have m:K w:=g.k _ r.he;by_cases Ff:I.plain 3=aa
   .refine (p.run w (λ_ _=>False) _ m (λ_ _ h=>h.elim) Q6).mono ?_;rintro e k ⟨v,rfl,y,V⟩;exact G v k L (r.later y)<|z.plain (w:=k) V 3 Ff
   .have F:σ.nl=aa/\N=ac:=by simpa[Ff]using l
    refine(p.run w (jt B L) _ m (r.LJ g F.1)<|(rH F.2).app<|ze F.2).mono ?_;rintro e k ⟨v,rfl,y,V⟩;exact G v k L (r.later y)<|z.qS (λ_ _ h=>h) (λ_ _=>trivial) V
  .split at h
   .rename_i l;cases h;have p:Er P K zy (xs++ys) I:=M _ aK;have H:(execOp a.eval o).run P w = .ok (.enter zy ((c.args.toList.map a.eval)++s).toArray) w:=by
     have Z:c.args.map a.eval=(c.args.toList.map a.eval).toArray:=by apply dU;simp
     have U:#[]++(c.args.toList.map a.eval).toArray++s.toArray=((c.args.toList.map a.eval)++s).toArray:= aK ;simp only[execOp,iW,resolve,hf,Cd,Deferred.ofValue,Sem.run_bind,Sem.run_pure,Result.andThen_ok,invoke,Z,U,p.call]
    unfold Oper.wp;rw[H];show Calls P zy _ w _;have m:K w:=g.k _ r.he;have F:N=ac:=by simpa using l
    refine(p.run w (jt B L) _ m (λb o y=>?_)<|(rH F).app<|ze F).mono ?_
    .rcases y with y|⟨id,y⟩
     .exact bJ (g.hB b o y).1.1 r.he.size
     .exact (r.hw id b y).2
    .rintro e k ⟨v,rfl,y,V⟩;exact G v k L (r.later y)<|z.qS (λ_ _ h=>h) (λ_ _=>trivial) V
   .split at h
    .rename_i ke;cases h;have p:PC P K zy (xs++ys) I:=M _ aK;have wY:yE I:=M _ aK;have Q6:=RY.app RW;have H:(execOp a.eval o).run P w = .ok (.enter zy ((c.args.toList.map a.eval)++s).toArray) w:=by
      have Z:c.args.map a.eval=(c.args.toList.map a.eval).toArray:=by apply dU;simp
      have U:#[]++(c.args.toList.map a.eval).toArray++s.toArray=((c.args.toList.map a.eval)++s).toArray:= aK ;simp only[execOp,iW,resolve,hf,Cd,Deferred.ofValue,Sem.run_bind,Sem.run_pure,Result.andThen_ok,invoke,Z,U,p.call]
     unfold Oper.wp;rw[H];show Calls P zy _ w _;have m:K w:=g.k _ r.he;refine(p.run w (λ_ _=>False) _ m (λ_ _ h=>h.elim) Q6).mono ?_;rintro e k ⟨v,rfl,y,V⟩;have r':=r.later y;exact G v k L r'<|z.qS (λ_ _ h=>h) (λ_ _=>trivial)<|wY _ _ _ _ _ (λx o S=>.inr (r'.LJ g ke x o S).2) V
    .cases h
 .split at h
  .rename_i d hd;split at h
   .rename_i nl T n E D hnw;split at h
    .rename_i l;cases h;simp only[bN]at l;have p:wJ P K zy (xs++ys) nl T n E D:=M _ aK;have H:(execOp a.eval o).run P w = .ok (.enter zy ((c.args.toList.map a.eval)++s).toArray) w:=by
      have Z:c.args.map a.eval=(c.args.toList.map a.eval).toArray:=by apply dU;simp
      have U:#[]++(c.args.toList.map a.eval).toArray++s.toArray=((c.args.toList.map a.eval)++s).toArray:= aK ;simp only[execOp,iW,resolve,hf,Cd,Deferred.ofValue,Sem.run_bind,Sem.run_pure,Result.andThen_ok,invoke,Z,U,p.call]
     unfold Oper.wp;rw[H];show Calls P zy _ w _;have m:K w:=g.k _ r.he;have J:∀ (v:av) (k:ap) (X:Nat->Nat->av),Below w.heap.size w k->nU k v T n E X nl->(∀ x,v.ownBlock=al x->w.heap.size<=x/\x<k.heap.size) ->
      (∀ i j,i<n->j<E->z (λb o=>jt B L b o\/v.ownBlock=al b) (λ_=>True) k (D i j) (X i j)/\(D i j).nr 2=aa)->Kc (a.put o.dst v) k:=by
      intro v k X y W wc R;have key:∀ (t:PS) (L1:Lk),jy w0 B t a w L1->(∀ i x,L1.own i x->L.own i x)->t.bo d=am->t.nl=σ.nl->∃ Y,jy w0 B (t.pG<|.new d<|.row nl T n E D) a k Y/\nN (jt B Y) (jq Y) Y k (.own d) v:=by
       intro t L1 r1 w9 kU avX;have E8:=r1.new d (.row nl T n E D) (λx=>v.ownBlock=al x) v (λ_=>undef) k kU wc y
        ⟨X,by rw[Lk.qk];exact W,λx=>by rw[Lk.uB,Lk.qk],λi j C A=>⟨?_,(R i j C A).2⟩⟩ (by simp[Bx.nl,l.2])
       .exact ⟨_,E8,Lk.CQ,Lk.qk.symm⟩
       .refine (R i j C A).1.qS (λb o h=>?_) λ_ _=>trivial;rcases h with h|⟨id,h⟩
        .exact .inl<|.inl h
        .by_cases e:id=d
         .subst e;exact .inr<|(Lk.uB b).1 h
         .exact .inl<|.inr ⟨id,w9 _ _<|(Lk.Eh e b).1 h⟩
      cases jD:σ.bo d with
      |none=>
       have⟨Y,k1,k2⟩:=key σ L r (λ_ _ h=>h) jD rfl;exact G v k Y (by simpa only[xk,jD]using k1) k2
      |some b=>
       have⟨L1,r1,w9,kU⟩:=r.Xq d;have⟨Y,k1,k2⟩:=key _ L1 r1 w9 kU rfl;rw[XD]at k1;exact G v k Y (by simpa only[xk,jD]using k1) k2
     cases mA:N with
     |false=>
      refine(p.run w (jt B L) _ m (r.LJ g l.1)<|(rH mA).app<|ze mA).mono ?_;rintro e k ⟨v,rfl,y,X,W,wc,R⟩;exact J v k X y W wc R
     |true=>
      have wY:Ep n E D:=M _ (by simp[mA]);refine(p.run w (λ_ _=>False) _ m (λ_ _ h=>h.elim)<|RY.app RW).mono ?_;rintro e k ⟨v,rfl,y,X,W,wc,R⟩;have r':=r.later y;refine J v k X y W wc λi j C A=>⟨wY i j C A _ _ _ _ _ (λx o S=>?_) (R i j C A).1,(R i j C A).2⟩
      rcases S with S|S
      .exact .inr (r'.LJ g l.1 x o S).2
      .exact .inl<|.inr S
    .cases h
   .cases h
  .cases h
section
variable(hT:mP P T)(g:Gd P K w0 B)(r:jy w0 B σ a w L)
def Qo(h:kj P K T O σ o=al u)(j:∀ q,q ∈ u.ki->q):Ll P K w0 B σ o a w u:=by
 cases iW:o.op with
 |move x=>exact(alG (P:=P) (K:=K) iW r h).qp
 |assign x=>exact(alk (P:=P) (K:=K) iW r h).qp
 |pick c x y=>exact(alI (P:=P) (K:=K) iW r h).qp
 |alloc t=>exact(ali hT iW r h).qp
 |box t x=>exact(aln (P:=P) (K:=K) iW r h).qp
 |build t I=>exact(alo hT iW r h).qp
 |buildSlice t n I=>exact(alp hT (λb o S=>(g.hB b o S).1) iW r h).qp
 |load t x=>exact(alz hT iW r h j).qp
 |store t x y=>exact(alL hT iW r h j).qp
 |nilCheck x=>exact(alH (P:=P) (K:=K) iW r h).qp
 |binOp W t x y yt=>exact(alm hT iW r h j).qp
 |unOp W t x=>exact(alM (P:=P) (K:=K) iW r h j).qp
 |convert s d x=>exact(alq hT iW r h).qp
 |makeFunc fn R Y=>exact(alB (P:=P) (K:=K) iW r h).qp
 |makeSlice t l c=>exact(alC hT iW r h j).qp
 |slice t x lo hi mx=>
  cases mx with
  |none=>exact(alJ hT iW r h j).qp
  |some=>simp[kj,iW]at h
 |fieldAddr t x f=>exact(alu hT iW r h).qp
 |indexAddr t x i=>exact(alw hT iW r h j).qp
 |index t x i=>exact(alv hT iW r h j).qp
 |field t x f=>exact(als hT iW r h).qp
 |lookup t x i ok=>exact(alA hT iW r h j).qp
 |extract x i=>exact(alr (P:=P) (K:=K) iW r h).qp
 |call c=>
  have⟨X,v,Z⟩:=c;cases X with
  |builtin b=>
   simp only[kj,iW]at h;cases b
   case len=>
    dsimp only at h;split at h
    .rename_i x t m Q;have U:v = #[x]:=by apply dU;simpa using m
     have J:Z = #[t]:=by apply dU;simpa using Q
     split at h
     .rename_i e hd;obtain⟨rr,hr,rfl⟩:=dc.1 h;exact(aly hT (by rw[U,J]) iW hd r hr rfl).qp
     .cases h
    .cases h
   case append=>
    dsimp only at h;split at h
    .rename_i s x t t' m Q;have U:v = #[s,x]:=by apply dU;simpa using m
     have J:Z = #[t,t']:=by apply dU;simpa using Q
     split at h
     .rename_i N;have N:=lY.1 N;subst N;split at h
      .rename_i q hq;exact(alx hT (by rw[U,J]) iW r hq h j).qp
      split at h
      .exact (alj hT (λb o S=>(g.hB b o S).1) (by rw[U,J]) iW r h j).qp
      .exact (Yy hT (by rw[U,J]) iW r h j).qp
     .cases h
    .cases h
   case max=>
    dsimp only at h;split at h
    .rename_i k p L q m;rcases v with⟨l⟩
     rcases l with _|⟨x,_|⟨y,_|⟨zy,l⟩⟩⟩<;>simp at m
     cases h;exact(alD (P:=P) (K:=K) ⟨rfl,rfl⟩ iW r m.1 m.2 rfl).qp
    .rename_i k p L q k'' s m;rcases v with⟨l⟩
     rcases l with _|⟨x,_|⟨y,_|⟨zy,_|⟨z',l⟩⟩⟩⟩<;>simp at m
     cases h;exact(alE (P:=P) (K:=K) ⟨rfl,rfl⟩ iW r m.1 m.2.1 m.2.2 rfl).qp
    .cases h
   case min=>
    dsimp only at h;split at h
    .rename_i k p L q m;rcases v with⟨l⟩
     rcases l with _|⟨x,_|⟨y,_|⟨zy,l⟩⟩⟩<;>simp at m
     cases h;exact(alF (P:=P) (K:=K) ⟨rfl,rfl⟩ iW r m.1 m.2 rfl).qp
    .cases h
   all_goals cases h
  |value f=>
   simp only[kj,iW]at h;have C:=r.op f;split at h
   .rename_i gf Y xs is F H;rw[F]at C;have⟨us,M,G⟩:=z.Yi C;exact Xm g r iW rfl M (Vr r H) (λV=>Vq r H V) (G.mono λ_ _=>z.qS (λ_ _ h=>h.elim) λ_ h=>h.elim) (λ_=>G.mono λ_ _=>z.qS (λ_ _ h=>h) λ_ h=>h.elim) h j
   .rename_i gf Y xs is F H;rw[F]at C;have⟨us,M,E,D⟩:=C;split at h
    .rename_i ys js A;exact Xm g r iW rfl M (Vr r H) (λV=>Vq r H (fC.1 V).1) (XZ r A E D) (λV=>XY r A (fC.1 V).2 E D) h j
    .cases h
   .cases h
  |invoke _ _=>simp[kj,iW]at h
 |_=>simp[kj,iW]at h
def aks(h:xC P K T O σ o=al u)(x:∀ q,q ∈ u.ki->q):Ll P K w0 B σ o a w u:=by
 unfold xC at h;split at h
 .rename_i y k;split at h
  .split at h
   .rename_i p l;cases h;have e:PV.le y.r p:=x _ aK;have:=Qo hT g r k (λq z=>x q<|by simp[z]);intro c Q t;exact this c Q λv s L n m=>t v s L n<|e _ _ _ _ _ m
   .cases h;exact Qo hT g r k x
  .cases h;exact Qo hT g r k x
 .cases h
end
end
end Go.Proofs.YthalchiobglflaaGreatDoor.Pu
