/- Lemmas that the last file uses. -/
import Derived.Test.YtdgnpeddgdclhaaGreatDoorProg
import Derived.WalkKit
import Derived.BigQuiet
import Derived.WalkSpells
import Derived.WalkLawsBesides
import Derived.Lib.Hide
import Derived.Deep.RegionHeld3
import Derived.Maps.AppendAt
import Derived.Deep.AppendLies
import Derived.Deep.Draws
import Derived.Deep.DeepFit
import Derived.Laws.AppendOwnNone
import Derived.Shelf.Small.Bits
import Derived.Shelf.Spec.TrailingZeros
import Derived.Test.YtdgnpeddgdclhaaGreatDoorCards
import Derived.Test.YtdgnpeddgdclhaaGreatDoorTie
import Derived.ProofKit
import Derived.OpenShut
import Derived.Deep.DeepHandedRow
import Derived.Lib.LaidTab
import Derived.Laws.AppendOwn
import Derived.Laws.MakeOwn
import Derived.Laws.Slices
import Derived.Orders
import Derived.Laws.Build
set_option linter.unusedSimpArgs false
set_option linter.unusedVariables false
set_option linter.defProp false
set_option maxHeartbeats 4000000
namespace Go.Proofs.YtdgnpeddgdclhaaGreatDoor
theorem ae{p:Prop}(h:p:=by omega):p:=h
theorem af{p:Prop}(h:p:=by assumption):p:=h
theorem ag{p:Prop}(h:p:=by decide):p:=h
theorem ah{p:Prop}(h:p:=by kernel_rfl):p:=h
theorem ai{p:Prop}(h:p:=by rfl):p:=h
theorem aj{p:Prop}(h:p:=by simp):p:=h
theorem ak{p:Prop}(h:p:=by nofun):p:=h
theorem an{p:Prop}(h:p:=by simp<;>omega):p:=h
theorem aq{p:Prop}(h:p:=by grind):p:=h
theorem ar{p:Prop}(h:p:=by decide +kernel):p:=h
theorem au{p:Prop}(h:p:=by split<;>omega):p:=h
theorem av{p:Prop}(h:p:=by simp;omega):p:=h
theorem aw{p:Prop}(h:p:=by first|rfl|omega|(simp only[Nat.add_mul,Nat.one_mul];omega)):p:=h
theorem ax{p:Prop}(h:p:=by simp[Op.operands]):p:=h
theorem ay{p:Prop}(h:p:=by first|omega|(simp only[mC];omega)):p:=h
theorem az{p:Prop}(h:p:=by simp_all[mD,tz,FB]<;>intros<;>omega):p:=h
theorem aC{p:Prop}(h:p:=by unfold nC;omega):p:=h
theorem aD{p:Prop}(h:p:=by rw[List.length_take];omega):p:=h
theorem aE{p:Prop}(h:p:=by rw[IntKind.wrap_u32];omega):p:=h
theorem aF{p:Prop}(h:p:=by rw[List.length_map];omega):p:=h
theorem aG{p:Prop}(h:p:=by rw[uc];omega):p:=h
theorem aI{p:Prop}(h:p:=by unfold ku;omega):p:=h
theorem aJ{α:Type _}[BEq α][LawfulBEq α]{a b:α}(h:a≠b):(a==b)=false:=beq_eq_false_iff_ne.2 h
theorem aK{α:Type _}[BEq α][LawfulBEq α]{a b:α}(h:a=b):(a==b)=true:=beq_iff_eq.2 h
theorem aM{b:Bool}(h:¬b=true):b=false:=Bool.eq_false_iff.2 h
theorem aO{α:Type _}[BEq α][LawfulBEq α]{a b:α}(h:a=b):(a != b)=false:=bne_eq_false_iff_eq.2 h
theorem aP{α:Type _}[BEq α][LawfulBEq α]{a b:α}(h:a≠b):(a != b)=true:=bne_iff_ne.2 h
def aQ:=@if_neg
def aR:=@if_pos
def aS:=@decide_eq_true
def aT:=@decide_eq_false
def aU:=@Nat.le_refl
def aV:=@Nat.pow_add
def aW:=@List.getD_eq_getElem?_getD
def aX:=@Nat.le_trans
def aY:=@Nat.pow_pos
def aZ:=@Nat.pow_succ
def a6:=@if_false
def a7:=@Nat.mul_comm
def bc:=@Nat.mul_assoc
def bd:=@List.getElem?_eq_getElem
def bg:=@Nat.mod_lt
def bh:=@Nat.pow_le_pow_right
def bj:=@Nat.not_lt_zero
def bk:=@if_true
def bn:=@Nat.mul_add
def bq:=@Bool.false_eq_true
def bt:=@Nat.add_zero
def bu:=@Nat.mod_eq_of_lt
def bw:=@Nat.div_le_self
def bA:=@Rat.le_of_lt
def bB:=@Bool.and_eq_true
def bC:=@Nat.mul_le_mul_right
def bD:=@Nat.lt_of_lt_of_le
def bE:=@Classical.byContradiction
def bF:=@List.all_eq_true
def bG:=@Option.some.injEq
def bH:=@Rat.le_trans
def bI:=@List.mem_range
def bJ:=@Nat.one_mul
def bK:=@Nat.add_mul
def bL:=@Nat.zero_le
def bM:=@Rat.mul_nonneg
def bN:=@Nat.pow_zero
def bO:=@Nat.mul_one
def bQ:=@Nat.lt_of_le_of_lt
def bR:=@Nat.div_lt_iff_lt_mul
def bS:=@List.getElem?_eq_none
def bT:=@Nat.div_eq_of_lt
def bU:=@Nat.div_add_mod
def bV:=@List.getElem?_eq_some_iff
def bW:=@decide_eq_true_eq
def bX:=@Nat.zero_add
def bY:=@Int.le_refl
def bZ:=@List.length_take
def b6:=@Prod.mk.injEq
def b8:=@Rat.mul_le_mul_of_nonneg_right
def b9:=@Rat.le_refl
def ca:=@Nat.mul_le_mul_left
def cg:=@List.length_append
def ch:=@Nat.zero_mul
def cj:=@List.getElem?_map
def ck:=@List.take_of_length_le
def cr:=@Nat.mul_zero
def ct:=@of_decide_eq_true
def cv:=@List.length_set
def cw:=@List.getElem_mem
def cz:=@Nat.div_div_eq_div_mul
def cA:=@Rat.div_def
def cB:=@Rat.mul_le_mul_of_nonneg_left
def cC:=@Nat.mul_lt_mul_of_pos_right
def cD:=@Nat.mul_left_comm
def cE:=@Nat.add_assoc
def cF:=@Rat.natCast_nonneg
def cG:=@Option.map_eq_some_iff
def cH:=@Nat.mod_one
def cI:=@Nat.le_of_ble_eq_true
def cJ:=@Option.map_some
def cK:=@Nat.mul_le_mul
def cL:=@Nat.le_div_iff_mul_le
def cM:=@Classical.choose_spec
def cN:=@Nat.div_mul_le_self
def cO:=@Rat.natCast_mul
def cP:=@Array.getElem?_eq_some_iff
def cQ:=@Bool.eq_iff_iff
def cR:=@Nat.min_eq_left
def cS:=@List.length_map
def cT:=@Nat.sub_self
def cU:=@List.mem_cons
def cV:=@ne_eq
def cW:=@Nat.le_of_lt
def cX:=@Rat.natCast_le_natCast
def cY:=@List.mem_map
def c9:=@Nat.mul_add_div
def dc:=@List.length_cons
def de:=@List.eq_nil_of_length_eq_zero
def df:=@List.mem_iff_getElem?
def dg:=@Array.ext'
def dh:=@Nat.sub_zero
def di:=@List.any_eq_true
def dj:=@Nat.sub_le
def dk:=@Nat.mod_le
def dm:=@Rat.div_mul_cancel
def dp:=@Rat.not_lt
def dq:=@Nat.mod_add_div
def dr:=@Nat.mul_ne_zero
def dt:=@Nat.mul_div_cancel
def du:=@Nat.beq_refl
def dv:=@beq_false
def dw:=@Nat.mul_add_mod
def dx:=@Array.length_toList
def dz:=@Array.mem_of_getElem?
def dA:=@Int.natAbs_natCast
def dB:=@Nat.pos_of_ne_zero
def dC:=@Nat.div_one
def dD:=@List.mem_append
def dE:=@Nat.add_sub_cancel
def dF:=@Nat.ne_of_gt
def dG:=@Nat.lt_or_ge
def dH:=@Int.natCast_mul
def dI:=@Rat.intCast_natCast
def dJ:=@Rat.mul_pos
def dK:=@Rat.natCast_add
def dL:=@Rat.le_antisymm
def dM:=@Rat.mul_lt_mul_of_pos_right
def dN:=@Nat.add_mul_mod_self_left
def dO:=@List.drop_eq_nil_of_le
def dP:=@List.getElem_cons_succ
def dQ:=@List.getElem?_take
def dR:=@Nat.add_comm
def dU:=@Bool.not_false
def dV:=@Nat.eq_zero_or_pos
def dW:=@List.any_eq_false
def dX:=@List.length_pos_iff
def dY:=@Int.eq_ofNat_of_zero_le
def dZ:=@Rat.mul_assoc
def ef:=@List.mem_of_mem_take
def eh:=@List.take_succ_cons
def ej:=@List.mem_of_getElem?
def ek:=@List.getElem?_drop
def en:=@List.getElem?_append_left
def eo:=@List.length_drop
def ep:=@not_false_eq_true
def er:=@Int.natCast_add
def et:=@Nat.pow_lt_pow_right
def eu:=@Nat.xor_lt_two_pow
def ev:=@Bool.true_and
def ew:=@Rat.le_of_mul_le_mul_right
def ey:=@Rat.one_mul
def ez:=@Int.toNat_of_nonneg
def eA:=@List.mem_of_mem_drop
def eB:=@Nat.add_mul_div_left
def eC:=@Nat.mul_pos
def eD:=@Nat.sub_add_cancel
def eE:=@List.drop_eq_getElem_cons
def eF:=@Nat.mul_mod_left
def eG:=@Array.getElem?_modify
def eH:=@List.getElem_toArray
def eI:=@List.getElem_cons_zero
def eJ:=@List.drop_zero
def eK:=@List.drop_succ_cons
def eN:=@List.take_zero
def eO:=@List.mem_flatMap
def eP:=@Bool.not_true
def eR:=@List.map_cons
def eU:=@List.ext_getElem?
def eV:=@List.getElem?_append_right
def eW:=@Array.mem_append
def eX:=@getElem!_pos
def eZ:=@List.mapM_cons
def e9:=@List.map_congr_left
def fc:=@Bool.not_eq_true'
def fe:=@Nat.and_lt_two_pow
def ff:=@Int.natAbs_neg
def fg:=@List.take_length
def fh:=@BitVec.toNat_ofInt
def fi:=@Nat.le_of_not_lt
def fj:=@Nat.lt_irrefl
def fk:=@Nat.lt_trans
def fl:=@Rat.natCast_pos
def fm:=@Rat.neg_neg
def fo:=@Rat.mul_comm
def fp:=@Rat.inv_pos
def fu:=@of_decide_eq_false
def fw:=@List.take_succ_eq_append_getElem
def fz:=@Nat.mul_right_comm
def fA:=@Int.toNat_natCast
def fB:=@List.getElem?_append
def fC:=@List.size_toArray
def fD:=@Array.mem_map
def fE:=@Array.mem_range
def fF:=@Bool.or_eq_true
def fG:=@Nat.or_comm
def fH:=@List.getElem?_replicate
def fI:=@decide_true
def fJ:=@Nat.le_of_eq
def fK:=@Nat.mod_mul
def fL:=@Nat.zero_div
def fM:=@Rat.intCast_le_intCast
def fN:=@Rat.intCast_neg
def fO:=@Rat.neg_mul
def fP:=@Rat.zero_mul
def fQ:=@Nat.div_pos
def fR:=@List.length_singleton
def fS:=@Nat.div_lt_self
def fT:=@Nat.le_mul_of_pos_left
def fU:=@Nat.le_mul_of_pos_right
def fV:=@Array.getElem_mem
def fW:=@List.getElem?_toArray
def fX:=@List.mem_toArray
def fY:=@Option.bind_eq_some_iff
def fZ:=@Option.isSome_iff_exists
def gh:=@BitVec.ofInt_natCast
def gi:=@BitVec.toNat_ofNat
def gj:=@Nat.and_one_is_mod
def gl:=@Nat.mul_lt_mul''
def gn:=@decide_eq_true_iff
def gp:=@beq_iff_eq
def gq:=@List.getElem?_set_ne
def gr:=@Nat.mul_mod_mul_left
def gv:=@List.length_eq_zero_iff
def gw:=@Bool.or_self
def gy:=@Nat.succ_mul
def gz:=@Nat.div_le_div_left
def gE:=@Nat.lt_of_not_le
def gF:=@List.ext_getElem
def gG:=@List.getElem_map
def gH:=@Rat.inv_mul_cancel
def gI:=@Nat.one_ne_zero
def gJ:=@Int.tmod_eq_emod_of_nonneg
def gK:=@List.cons_append
def gL:=@List.take_append_drop
def gM:=@List.eq_nil_or_concat
def gN:=@List.concat_eq_append
def gO:=@Nat.pow_lt_pow_iff_right
def gP:=@List.map_append
def gQ:=@Array.size_append
def gR:=@List.any_cons
def gS:=@Bool.or_false
def gT:=@not_true_eq_false
def ado:=@List.set_cons_zero
def amI:=@Option.getD_some
def amJ:=@List.pairwise_cons
def amK:=@List.pairwise_append
def amL:=@Option.some.inj
def amM:=@Array.getElem_setIfInBounds_ne
def amN:=@Nat.or_lt_two_pow
def amO:=@Nat.and_two_pow_sub_one_eq_mod
def amP:=@List.take_add_one
def amQ:=@decide_eq_decide
def amR:=@Nat.zero_lt_succ
def amS:=@Nat.testBit_xor
def amT:=@Nat.mul_eq_zero
def amU:=@Bool.false_or
def amV:=@List.getElem?_range
def amW:=@List.getElem_set
def amX:=@List.getElem_range
def amY:=@Rat.mul_div_cancel
def amZ:=@Nat.mul_div_cancel_left
def am0:=@List.getElem?_cons_succ
def am1:=@Array.getElem?_setIfInBounds_ne
def am2:=@Array.getElem?_append_left
def am3:=@Int.tdiv_eq_ediv_of_nonneg
def am4:=@Array.toList_setIfInBounds
def am5:=@List.drop_length_add_append
def am6:=@Array.all_eq_true_iff_forall_mem
def am7:=@Array.mapM_eq_mapM_toList
def am8:=@Nat.eq_of_mul_eq_mul_right
def am9:=@Nat.lt_of_mul_lt_mul_right
def ana:=@Rat.lt_of_mul_lt_mul_right
def anb:=@Nat.mul_lt_mul_of_lt_of_le
def anc:=@Int.mul_tdiv_cancel_left
def ane:=@Nat.mod_two_eq_zero_or_one
def anf:=@Nat.mul_lt_mul_of_lt_of_lt
end Go.Proofs.YtdgnpeddgdclhaaGreatDoor
namespace Go.Proofs.YtdgnpeddgdclhaaGreatDoor.Fp
def val:List Nat->Nat
 | []=>0
 |x::l=>x+4294967296*val l
def iC(L:List Nat):Prop:=∀ x,x ∈ L->x<4294967296
theorem iC.nil:iC []:=by intro x h;cases h
theorem iC.cons{x:Nat}{l:List Nat}(hx:x<4294967296)(h:iC l):iC (x::l):=by
 intro y hy;rcases cU.1 hy with rfl|hy;exact hx;exact h _ hy
theorem iC.head{x:Nat}{l:List Nat}(h:iC (x::l)):x<4294967296:=h x aj 
theorem iC.tail{x:Nat}{l:List Nat}(h:iC (x::l)):iC l:=fun y hy=>h y (by simp[hy])
theorem iC.append{l m:List Nat}(h:iC l)(k:iC m):iC (l++m):=by
 intro x hx;rcases dD.1 hx with hx|hx;exact h _ hx;exact k _ hx
theorem iC.take{l:List Nat}(h:iC l)(n:Nat):iC (l.take n):=fun x hx=>h x (ef hx)
theorem iC.drop{l:List Nat}(h:iC l)(n:Nat):iC (l.drop n):=fun x hx=>h x (eA hx)
theorem iC.get{l:List Nat}(h:iC l){i:Nat}(hi:i<l.length):l[i]<4294967296:=h _ (cw hi)
theorem iC.getD{l:List Nat}(h:iC l)(i:Nat):l.getD i 0<4294967296:=by
 rw[aW];by_cases hi:i<l.length
 .rw [bd hi];exact h.get hi
 .rw [bS ae];decide
theorem iC.BQ(n:Nat):iC (List.replicate n 0):=by
 intro x hx;rw[List.mem_replicate]at hx;rw[hx.2];decide
@[simp] theorem yZ:val []=0:=rfl
@[simp] theorem qp (x:Nat) (l:List Nat):val (x::l)=x+4294967296*val l:=rfl
theorem uw(l m:List Nat):val (l++m)=val l+4294967296^l.length*val m:=by
 induction l with
 |nil=>simp
 |cons x l ih=>
  simp only[gK,qp,ih,dc,aZ];rw[bn,a7 (4294967296^l.length) 4294967296,bc];omega
theorem lY{l:List Nat}(h:iC l):val l<4294967296^l.length:=by
 induction l with
 |nil=>simp
 |cons x l ih=>
  have h1:=h.head;have h2:=ih h.tail;simp only[qp,dc,aZ];have:val l+1<=4294967296^l.length:=h2;have:=ca 4294967296 this;rw[a7 (4294967296^l.length)];omega
theorem y4(n:Nat):val (List.replicate n 0)=0:=by
 induction n with
 |zero=>rfl
 |succ n ih=>simp[List.replicate_succ,ih]
theorem DI(l:List Nat)(n:Nat)(hn:n<=l.length):val l=val (l.take n)+4294967296^n*val (l.drop n):=by
 conv=>lhs;rw[<-gL n l,uw]
 rw[bZ,cR hn]
theorem xA(l:List Nat)(n:Nat)(hn:n<l.length):val (l.take (n+1))=val (l.take n)+4294967296^n*l[n]:=by
 rw[fw hn,uw,bZ,cR ae];simp
theorem alR{l:List Nat}(h:iC l)(n:Nat):val (l.take n)=val l%4294967296^n:=by
 by_cases hn:n<=l.length
 .rw [DI l n hn,dN,bu]
  have:=lY (h.take n);rwa[bZ,cR hn]at this
 .rw [ck ae,bu]
  refine bD (lY h) (bh ag ae)
theorem F6{l:List Nat}(h:iC l)(n:Nat):val (l.drop n)=val l/4294967296^n:=by
 by_cases hn:n<=l.length
 .rw [DI l n hn]
  have:=lY (h.take n);rw[bZ,cR hn]at this;rw[eB _ _ (aY ag),bT this,bX]
 .rw [dO ae,bT];rfl
  exact bD (lY h) (bh ag ae)
def ij:List Nat->List Nat
 | []=>[]
 |x::l=>match ij l with
  | []=>if x=0 then[]else[x]
  |y::m=>x::y::m
def lQ(L:List Nat):Nat:=(ij L).length
theorem X1(l:List Nat):ij (l++[0])=ij l:=by
 induction l with
 |nil=>rfl
 |cons x l ih=>simp only[gK,ij,ih]
theorem X0(l:List Nat)(x:Nat)(hx:x≠0):ij (l++[x])=l++[x]:=by
 induction l with
 |nil=>simp[ij,hx]
 |cons y l ih=>
  simp only[gK,ij,ih];cases l<;>rfl
theorem F4(L:List Nat):ij L=L.take (lQ L):=by
 unfold lQ
 induction L with
 |nil=>rfl
 |cons x l ih=>
  simp only[ij];cases h:ij l with
  |nil=>by_cases hx:x=0<;>simp[hx]
  |cons y m=>
   rw[h]at ih;simp only[dc,eh];rw[dc]at ih;rw[<-ih]
theorem oG(L:List Nat):lQ L<=L.length:=by
 have h:=congrArg List.length (F4 L);rw[bZ]at h;unfold lQ at h ⊢;omega
theorem oo(L:List Nat):val (ij L)=val L:=by
 induction L with
 |nil=>rfl
 |cons x l ih=>
  simp only[ij];cases h:ij l with
  |nil=>rw[h]at ih;by_cases hx:x=0<;>simp[hx,<-ih]
  |cons y m=>rw[h]at ih;simp only[qp]at ih ⊢;rw[ih]
theorem iC.ij{L:List Nat}(h:iC L):iC (Fp.ij L):=by rw[F4];exact h.take _
def mW(L:List Nat):Prop:=ij L=L
theorem yX(L:List Nat):mW (ij L):=by
 unfold mW
 induction L with
 |nil=>rfl
 |cons x l ih=>
  simp only[ij];cases h:ij l with
  |nil=>by_cases hx:x=0<;>simp[hx,ij]
  |cons y m=>rw[h]at ih;simp only[ij]at ih ⊢;rw[ih]
theorem mW.nil:mW []:=rfl
theorem AJ(L:List Nat):mW L↔∀ h:0<L.length,L[L.length-1]≠0:=by
 rcases gM L with rfl|⟨l,x,rfl⟩
 .simp [mW,ij]
 .simp only[gN,cg,fR,dE,List.getElem_concat_length]
  constructor
  .intro h _ hx
   subst hx;have:=congrArg List.length h;rw[X1]at this;have h2:=oG l;unfold lQ at h2;rw[cg]at this;simp at this;omega
  .intro h
   exact X0 l x (h ae)
theorem JK(L:List Nat)(n:Nat)(hn:n<L.length)(h0:L[n]=0):lQ (L.take (n+1))=lQ (L.take n):=by
 unfold lQ;rw[fw hn,h0,X1]
theorem JJ(L:List Nat)(n:Nat)(hn:n<L.length)(h0:L[n]≠0):lQ (L.take (n+1))=n+1:=by
 unfold lQ;rw[fw hn,X0 _ _ h0];simp;omega
theorem mW.KG{x:Nat}{l:List Nat}(h:mW (x::l)):mW l:=by
 rw[AJ]at h ⊢;intro hl;have:=h aj;simp only[dc,dE]at this;have e:(x::l)[l.length]'(aj)=l[l.length-1]:=by
  rw[List.getElem_cons];rw[dif_neg ae]
 rwa[e]at this
theorem mW.y3{L:List Nat}(h:mW L)(hl:L≠[]):0<val L:=by
 induction L with
 |nil=>exact absurd rfl hl
 |cons x l ih=>
  simp only[qp];by_cases pF:l=[]
  .subst pF
   have:=(AJ _).1 h aj;simp at this;simp;omega
  .have:=ih h.KG pF
   omega
theorem mW.ext{L M:List Nat}(hL:mW L)(hM:mW M)(kL:iC L)(kM:iC M)(h:val L=val M):L=M:=by
 induction L generalizing M with
 |nil=>
  by_cases hm:M=[]
  .exact hm.symm
  .have:=hM.y3 hm;rw[<-h]at this;simp at this
 |cons x l ih=>
  cases M with
  |nil=>have:=hL.y3 aj;rw[h]at this;simp at this
  |cons y m=>
   simp only[qp]at h;have h1:=kL.head;have h2:=kM.head;have e:x=y:= ae ;subst e;rw[ih hL.KG hM.KG kL.tail kM.tail ae]
def gU(n:Nat):List Nat:=if n=0 then[]else n%4294967296::gU (n/4294967296)
termination_by n
decreasing_by exact fS ae ag 
theorem nh:gU 0=[]:=by rw[gU];rfl
theorem yF{n:Nat}(h:n≠0):gU n=n%4294967296::gU (n/4294967296):=by rw[gU,aQ h]
theorem jC(n:Nat):val (gU n)=n:=by
 induction n using Nat.strongRecOn with
 |_ n ih=>
  by_cases h:n=0
  .subst h;rw[nh];rfl
  .rw [yF h,qp,ih _ (fS ae ag)]
   exact dq n 4294967296
theorem kB(n:Nat):iC (gU n):=by
 induction n using Nat.strongRecOn with
 |_ n ih=>
  by_cases h:n=0
  .subst h;rw[nh];exact iC.nil
  .rw [yF h]
   exact iC.cons (bg _ ag) (ih _ (fS ae ag))
theorem tn(n:Nat):mW (gU n):=by
 induction n using Nat.strongRecOn with
 |_ n ih=>
  by_cases h:n=0
  .subst h;rw[nh];exact mW.nil
  .rw [yF h]
   have h1:=ih _ (fS ae (ag:1<4294967296));unfold mW at h1 ⊢;simp only[ij,h1];by_cases h2:n/4294967296=0
   .rw [h2,nh]
    have:n%4294967296≠0:= ae ;simp[this]
   .rw [yF h2]
theorem qo{L:List Nat}(h:iC L):ij L=gU (val L):=
 mW.ext (yX L) (tn _) h.ij (kB _) (by rw[oo,jC])
theorem mW.D9{L:List Nat}(h:mW L)(k:iC L):L=gU (val L):=by
 rw[<-qo k];exact h.symm
theorem Uh{n:Nat}:gU n=[]↔n=0:=by
 constructor
 .intro h;have:=jC n;rw[h]at this;exact this.symm
 .rintro rfl;exact nh
theorem qX{n k:Nat}(h:n<4294967296^k):(gU n).length<=k:=by
 induction k generalizing n with
 |zero=>simp at h;subst h;rw[nh];simp
 |succ k ih=>
  by_cases h0:n=0
  .subst h0;rw[nh];simp
  .rw [yF h0,dc]
   have:n/4294967296<4294967296^k:=by
    rw[bR ag];rwa[aZ]at h
   have:=ih this;omega
theorem ub{n k:Nat}(h:(gU n).length<=k):n<4294967296^k:=by
 have h1:=lY (kB n);rw[jC]at h1;exact bD h1 (bh ag h)
def ia(n:Nat):Nat:=if n=0 then 0 else n.log2+1
theorem qR:ia 0=0:=rfl
theorem kN{n k:Nat}:ia n<=k↔n<2^k:=by
 unfold ia;by_cases h:n=0
 .subst h;simp[aY]
 .rw [aQ h,<-Nat.log2_lt h];omega
theorem r7{n k:Nat}:k<ia n↔2^k<=n:=by
 have:=@kN n k;omega
theorem uD{n k:Nat}(h1:2^k<=n)(h2:n<2^(k+1)):ia n=k+1:=by
 have a:=r7.2 h1;have b:=kN.2 h2;omega
theorem oM(n:Nat):n<2^ia n:=kN.1 (aU _)
theorem rj{n:Nat}(h:n≠0):2^(ia n-1)<=n:=by
 have:ia n-1<ia n:=by
  have:ia n≠0:=by unfold ia;simp[h]
  omega
 exact r7.1 this
theorem mR{n:Nat}(h:n≠0):0<ia n:=by unfold ia;simp[h]
theorem sQ{m n:Nat}(h:m<=n):ia m<=ia n:=kN.2 (bQ h (oM n))
theorem qf{n:Nat}(h:n≠0)(k:Nat):ia (n*2^k)=ia n+k:=by
 have h1:=oM n;have h2:=rj h;have h3:=mR h;have e:ia n+k=(ia n-1+k)+1:= ae ;rw[e];apply uD
 .rw [aV];exact bC _ h2
 .rw [<-e,aV];exact cC h1 (aY ag)
theorem nD(k:Nat):(4294967296:Nat)^k=2^(32*k):=by
 rw[Nat.pow_mul]
theorem Z0{l:List Nat}{x:Nat}(h:iC (l++[x]))(hx:x≠0):ia (val (l++[x]))=32*l.length+ia x:=by
 rw[uw];simp only[qp,yZ,cr,bt];have hl:val l<4294967296^l.length:=lY (fun y hy=>h y (by simp[hy]));rw[nD]at hl ⊢;have h1:=oM x;have h2:=rj hx;have h3:=mR hx;have e:32*l.length+ia x=(32*l.length+(ia x-1))+1:= ae ;rw[e];apply uD
 .rw [aV]
  have:=ca (2^(32*l.length)) h2;omega
 .rw [<-e,aV]
  have:=ca (2^(32*l.length)) (show x+1<=2^ia x from h1);rw[bn]at this;omega
def jY(a b:Nat):Int:=if a<b then -1 else if b<a then 1 else 0
theorem JT{L M:List Nat}(kL:iC L)(hM:mW M)(h:L.length<M.length):val L<val M:=by
 rcases gM M with rfl|⟨m,x,rfl⟩
 .simp at h
 .simp only[gN,cg,fR]at h hM ⊢
  have hx:x≠0:=by
   have:=(AJ _).1 hM aj;simpa using this
  have h1:=lY kL;rw[uw];have h2:(4294967296:Nat)^L.length<=4294967296^m.length:=bh ag ae;have h3:(4294967296:Nat)^m.length*1<=4294967296^m.length*val [x]:=ca _ av;omega
theorem alN{L M:List Nat}(kL:iC L)(i:Nat)(hi:i<L.length)(hlen:L.length=M.length)(aeJ:L.drop (i+1)=M.drop (i+1))(iD:L[i]<M[i]'(ae)):val L<val M:=by
 rw[DI L (i+1) ae,DI M (i+1) ae,aeJ,xA L i hi,xA M i ae];have h1:=lY (kL.take i);rw[bZ,cR ae]at h1;have h2:=ca (4294967296^i) (show L[i]+1<=M[i]'(ae)from iD);rw[bn]at h2;omega
theorem alP(L:List Nat)(k:Nat)(h:iC L):val (L.drop k)=val L/2^(32*k):=by
 rw[F6 h,nD]
def qn(s:Nat):List Nat->List Nat
 | []=>[]
 |x::l=>((x+4294967296*l.getD 0 0)/2^s)%4294967296::qn s l
theorem JC(s:Nat)(L:List Nat):(qn s L).length=L.length:=by
 induction L with
 |nil=>rfl
 |cons x l ih=>simp[qn,ih]
theorem Xg(s:Nat)(L:List Nat)(i:Nat)(h:i<L.length):(qn s L)[i]? = some (((L[i]+4294967296*L.getD (i+1) 0)/2^s)%4294967296):=by
 induction L generalizing i with
 |nil=>simp at h
 |cons x l ih=>
  cases i with
  |zero=>simp[qn]
  |succ i=>
   simp only[dc]at h;simp only[qn,am0,ih i ae,dP];congr 1
theorem Am(s:Nat)(L:List Nat):iC (qn s L):=by
 induction L with
 |nil=>exact iC.nil
 |cons x l ih=>exact iC.cons (bg _ ag) ih
theorem alQ{L:List Nat}(h:iC L)(s:Nat)(hs:s<32):val (qn s L)=val L/2^s:=by
 induction L with
 |nil=>simp[qn]
 |cons x l ih=>
  have e:32=s+(32-s):= ae ;have e2:(4294967296:Nat)=2^s*2^(32-s):=by rw[<-aV,<-e]
  have hp:0<2^s:=aY ag;have hx:=h.head;simp only[qn,qp,ih h.tail];generalize hv:val l=v;have hh:l.getD 0 0=v%4294967296:=by
   rw[<-hv];cases l with
   |nil=>simp
   |cons y m=>
    have:=h.tail.head;simp[qp];omega
  rw[hh];have f1:(x+4294967296*(v%4294967296))/2^s=x/2^s+2^(32-s)*(v%4294967296):=by
   rw[show x+4294967296*(v%4294967296)=x+2^s*(2^(32-s)*(v%4294967296))by rw[<-bc,<-e2],eB _ _ hp]
  have f2:(x+4294967296*v)/2^s=x/2^s+2^(32-s)*v:=by
   rw[show x+4294967296*v=x+2^s*(2^(32-s)*v)by rw[<-bc,<-e2],eB _ _ hp]
  rw[f1,f2];have pT:x/2^s<2^(32-s):=by
   rw[bR hp,a7,<-e2];exact hx
  generalize x/2^s=q at pT ⊢;have g1:(4294967296:Nat)=2^(32-s)*2^s:=by rw[a7];exact e2
  have g2:v=2^s*(v/2^s)+v%2^s:=(bU v (2^s)).symm;have g3:(q+2^(32-s)*(v%4294967296))%4294967296=q+2^(32-s)*(v%2^s):=by
   have k1:v%4294967296%2^s=v%2^s:=by
    rw[e2,Nat.mod_mul_right_mod]
   have k2:(v%4294967296)=2^s*(v%4294967296/2^s)+v%2^s:=by
    rw[<-k1];exact(bU _ _).symm
   conv=>lhs;rw[k2]
   rw[bn,<-bc,<-g1];rw[show q+(4294967296*(v%4294967296/2^s)+2^(32-s)*(v%2^s))=(q+2^(32-s)*(v%2^s))+4294967296*(v%4294967296/2^s)by omega,dN];apply bu;have:v%2^s+1<=2^s:=bg _ hp;have:=ca (2^(32-s)) this;rw[<-g1,bn]at this;omega
  rw[g3]
  conv=>rhs;rw[g2,bn,<-bc,<-g1]
  omega
theorem JV{L:List Nat}(h:iC L)(n:Nat):val (qn (n%32) (L.drop (n/32)))=val L/2^n:=by
 rw[alQ (h.drop _) _ (bg _ ag),alP _ _ h,cz,<-aV];congr 2;omega
theorem Oj{out a:List Nat}{i c s n0:Nat}(hi:i<a.length)(hlen:out.length=n0+i)
 (h:val out+4294967296^(n0+i)*c=val (a.take i)*2^s*4294967296^n0):
 val (out++[(a[i]*2^s+c)%4294967296])+4294967296^(n0+(i+1))*((a[i]*2^s+c)/4294967296)=val (a.take (i+1))*2^s*4294967296^n0:=by
 rw[uw,xA a i hi,hlen];simp only[qp,yZ,cr,bt];generalize hx:a[i]*2^s+c=x;have e:=dq x 4294967296;have p:4294967296^(n0+(i+1))=4294967296^(n0+i)*4294967296:=by rw[<-cE,aZ]
 rw[p,cE,bc (4294967296^(n0+i)),<-bn,e,<-hx,bn,<-cE,Nat.add_right_comm,h,bK,bK];congr 1;rw[aV]
 ac_rfl
theorem uy(b:List Nat)(i:Nat):val (b.take (i+1))=val (b.take i)+4294967296^i*b.getD i 0:=by
 by_cases hi:i<b.length
 .rw [xA b i hi,aW,bd hi];rfl
 .rw [ck ae,ck ae,aW,bS ae];simp
theorem amH{out a b:List Nat}{i c y d c':Nat}(hi:i<a.length)(hlen:out.length=i)
 (hb:val (b.take (i+1))=val (b.take i)+4294967296^i*y)
 (hd:d+y+c=a[i]+4294967296*c')
 (h:val out+val (b.take i)=val (a.take i)+4294967296^i*c):
 val (out++[d])+val (b.take (i+1))=val (a.take (i+1))+4294967296^(i+1)*c':=by
 rw[uw,xA a i hi,hb,hlen];simp only[qp,yZ,cr,bt];have e:=congrArg (4294967296^i * ·) hd;simp only[bn,<-bc]at e;rw[aZ];omega
def jO(n:Nat):Nat:=if n=0 then 0 else(Nat.gcd n (2^(Nat.log2 n+1))).log2
theorem KH{m:Nat}(hm:m%2=1)(k:Nat):jO (m*2^k)=k:=by
 have h0:m*2^k≠0:=dr ae (dF (aY ag));unfold jO;rw[aQ h0];have hk:k<=Nat.log2 (m*2^k):=by
  apply bE;intro h;have h1:m*2^k<2^k:=(Nat.log2_lt h0).1 ae;have:1*2^k<=m*2^k:=bC _ ae;omega
 obtain⟨j,hj⟩:∃ j,Nat.log2 (m*2^k)+1=j+k:=⟨Nat.log2 (m*2^k)+1-k,ae⟩
 rw[hj,aV,Nat.gcd_mul_right];have hg:Nat.gcd m (2^j)=1:=by
  have hc:Nat.Coprime m 2:=by
   unfold Nat.Coprime;rw[Nat.gcd_comm,Nat.gcd_rec,hm];rfl
  exact Nat.Coprime.pow_right j hc
 rw[hg,bJ,Nat.log2_two_pow]
theorem KI{n:Nat}(h:n%2=1):jO n=0:=by have:=KH h 0;simpa using this
theorem alr{n:Nat}(h:n≠0):∃ m k,m%2=1/\n=m*2^k:=by
 induction n using Nat.strongRecOn with
 |_ n ih=>
  by_cases h2:n%2=1
  .exact ⟨n,0,h2,aj⟩
  .obtain ⟨m,k,hm,he⟩:=ih (n/2) ae ae 
   exact⟨m,k+1,hm,by rw[aZ,<-bc,<-he];omega⟩
theorem QE{n:Nat}(h:n≠0)(h2:n%2=0):jO n=jO (n/2)+1:=by
 obtain⟨m,k,hm,he⟩:=alr (n:=n/2) ae;have e:n=m*2^(k+1):=by rw[aZ,<-bc,<-he];omega
 rw[he,KH hm]
 conv=>lhs;rw[e]
 exact KH hm _
theorem AW{n:Nat}(h:n≠0):∃ m,m%2=1/\n=m*2^jO n:=by
 induction n using Nat.strongRecOn with
 |_ n ih=>
  by_cases h2:n%2=1
  .exact ⟨n,h2,by rw[KI h2];omega⟩
  .obtain ⟨m,hm,he⟩:=ih (n/2) ae ae 
   refine⟨m,hm,?_⟩;rw[QE h ae,aZ,<-bc,<-he];omega
theorem xP{m:Nat}(hm:m%2=1)(k:Nat):jO (m*2^k)=k:=by
 induction k with
 |zero=>rw[bN,bO,KI hm]
 |succ k ih=>
  have hp:0<m*2^k:=eC ae (aY ag);have e:m*2^(k+1)=m*2^k*2:=by rw[aZ,bc]
  rw[e,QE ae ae,dt _ ag,ih]
theorem Dc{n:Nat}(h:n≠0):(n/2^jO n)%2=1:=by
 obtain⟨m,hm,he⟩:=AW h;have:n/2^jO n=m:=by conv=>lhs;rw[he,xP hm];rw[dt _ (aY ag)]
 rw[this];exact hm
theorem D4{n:Nat}(h:n≠0):(n/2^jO n)*2^jO n=n:=by
 obtain⟨m,hm,he⟩:=AW h;have:n/2^jO n=m:=by conv=>lhs;rw[he,xP hm];rw[dt _ (aY ag)]
 rw[this];exact he.symm
theorem Dh{n:Nat}(h:n≠0):2^jO n<=n:=by
 obtain⟨m,hm,he⟩:=AW h
 conv=>rhs;rw[he]
 exact fT _ ae 
theorem abd{x v:Nat}(hx:x≠0)(iD:x<4294967296):jO (x+4294967296*v)=jO x:=by
 obtain⟨m,hm,he⟩:=AW hx;have hk:jO x<32:=by
  have h1:=Dh hx;rcases dG (jO x) 32 with h|h
  .exact h
  .have:=bh (n:=2) ag h
   have e:(2:Nat)^32=4294967296:= ag ;omega
 have e:x+4294967296*v=(m+2^(32-jO x)*v)*2^jO x:=by
  rw[bK,<-he,fz,<-aV,eD ae]
 conv=>lhs;rw[e]
 apply xP;have:2^(32-jO x)=2*2^(31-jO x):=by rw[show 32-jO x=(31-jO x)+1 by omega,aZ,a7]
 rw[this,bc,dN];exact hm
theorem abe{v:Nat}(hv:v≠0)(k:Nat):jO (2^k*v)=k+jO v:=by
 obtain⟨m,hm,he⟩:=AW hv
 conv=>lhs;rw[he,<-bc,a7 (2^k),bc,<-aV]
 exact xP hm _
theorem F7{L:List Nat}:val L=0↔∀ x,x ∈ L->x=0:=by
 induction L with
 |nil=>simp
 |cons x l ih=>
  simp only[qp,cU];constructor
  .intro h y hy
   rcases hy with rfl|hy
   .omega
   .exact ih.1 ae y hy
  .intro h
   have h1:=h x (.inl rfl);have h2:=ih.2 (fun y hy=>h y (.inr hy));omega
theorem abf{L:List Nat}(h:iC L)(i:Nat)(hi:i<L.length)(h0:∀ j,(hj:j<i)->L[j]=0)(hx:L[i]≠0):jO (val L)=32*i+jO L[i]:=by
 rw[DI L i ae];have:val (L.take i)=0:=by
  rw[F7];intro y hy;obtain⟨j,hj,rfl⟩:=List.getElem_of_mem hy;rw[bZ]at hj;rw[List.getElem_take];exact h0 j ae 
 rw[this,bX,nD,eE hi,qp];rw[abe ae,abd hx (h.get hi)]
theorem OJ{L:List Nat}{k x:Nat}(hk:k<L.length):val (L.set k x)+4294967296^k*L[k]=val L+4294967296^k*x:=by
 induction L generalizing k with
 |nil=>simp at hk
 |cons y l ih=>
  cases k with
  |zero=>simp;omega
  |succ k=>
   simp only[dc]at hk;have:=ih (k:=k) ae;simp only[List.set_cons_succ,qp,dP,aZ];have e1:(4294967296^k*4294967296*l[k])=4294967296*(4294967296^k*l[k]):=by ac_rfl
   have e2:(4294967296^k*4294967296*x)=4294967296*(4294967296^k*x):=by ac_rfl
   rw[e1,e2];omega
theorem iC.set{L:List Nat}(h:iC L)(k:Nat){x:Nat}(hx:x<4294967296):iC (L.set k x):=by
 intro y hy;rcases List.mem_or_eq_of_mem_set hy with hy|rfl
 .exact h _ hy
 .exact hx
structure Dy where
 neg:Bool
 m:Nat
 e:Int
def Dy.lG(d:Dy):Prop:=(d.m=0/\d.neg=false/\d.e=0)\/d.m%2=1
def canon(neg:Bool)(m:Nat)(e:Int):Dy:=if m=0 then⟨false,0,0⟩else⟨neg,m/2^jO m,e+jO m⟩
theorem qJ(neg:Bool)(m:Nat)(e:Int):(canon neg m e).lG:=by
 unfold canon;split
 .exact .inl ⟨rfl,rfl,rfl⟩
 .rename_i h;exact .inr (Dc h)
theorem Dy.lG.Cf{d:Dy}(h:d.lG):canon d.neg d.m d.e=d:=by
 obtain⟨s,m,e⟩:=d;rcases h with⟨h1,h2,h3⟩|h
 .simp only at h1 h2 h3;subst h1 h2 h3;rfl
 .simp only at h ⊢
  unfold canon;rw[aQ ae,KI h];simp
def mP(d:Dy):Prop:=d.m=0\/ia d.m<=4096 /\ -16384<=d.e/\d.e<=16384/\(ia d.m:Int)+d.e<=16384
instance (d:Dy):Decidable (mP d):=by unfold mP;infer_instance
structure Dy.ib(d:Dy):Prop where
 canon:d.lG
 range:mP d
def jx:Dy:=⟨false,0,0⟩
theorem rm:jx.ib:=⟨.inl ⟨rfl,rfl,rfl⟩,.inl rfl⟩
def Dy.iK(d:Dy):Int:=if d.m=0 then 0 else if d.neg then -1 else 1
def Dy.iu(d:Dy):Int:=if d.m=0 then 0 else ia d.m+d.e
def Dy.jQ(d:Dy)(e:Int):Nat:=d.m*2^(d.e-e).toNat
def Dy.num(d:Dy)(e:Int):Int:=if d.neg then -(d.jQ e:Int)else d.jQ e
def jm(a b:Dy):Int:=
 if a.num (min a.e b.e)<b.num (min a.e b.e)then -1 else if b.num (min a.e b.e)<a.num (min a.e b.e)then 1 else 0
theorem u6{d:Dy}(h:d.m≠0)(e:Int):0<d.jQ e:=eC ae (aY ag)
theorem UD{d:Dy}(h:d.m=0)(e:Int):d.jQ e=0:=by unfold Dy.jQ;rw[h,ch]
theorem GK{d:Dy}(h:d.m≠0){e:Int}(he:e<=d.e):(ia (d.jQ e):Int)=ia d.m+d.e-e:=by
 unfold Dy.jQ;rw[qf h];omega
theorem UC{a b:Dy}(ha:a.m≠0)(hb:b.m≠0){e:Int}(h1:e<=a.e)(h2:e<=b.e)(h:a.iu<b.iu):a.jQ e<b.jQ e:=by
 have k1:=GK ha h1;have k2:=GK hb h2;unfold Dy.iu at h;rw[aQ ha,aQ hb]at h;rcases dG (a.jQ e) (b.jQ e)with h'|h'
 .exact h'
 .have:=sQ h';omega
def su(a b:Dy):Int:=jY (a.jQ (min a.e b.e)) (b.jQ (min a.e b.e))
theorem Qx{a b:Dy}(ha:a.m≠0)(hb:b.m≠0)(h:a.iu<b.iu):su a b = -1:=by
 unfold su jY;rw[aR (UC ha hb (Int.min_le_left _ _) (Int.min_le_right _ _) h)]
theorem Qw{a b:Dy}(ha:a.m≠0)(hb:b.m≠0)(h:b.iu<a.iu):su a b=1:=by
 have:=UC hb ha (Int.min_le_right a.e b.e) (Int.min_le_left _ _) h;unfold su jY;rw[aQ ae,aR this]
theorem B0(d:Dy):(d.m=0/\d.iK=0)\/(d.m≠0/\d.neg=true/\d.iK = -1)\/(d.m≠0/\d.neg=false/\d.iK=1):=by
 unfold Dy.iK;by_cases h:d.m=0
 .exact .inl ⟨h,aR h⟩
 .cases hn:d.neg
  .exact .inr (.inr ⟨h,rfl,by simp[h]⟩)
  .exact .inr (.inl ⟨h,rfl,by simp[h]⟩)
theorem Ni{d:Dy}(e:Int):(d.iK=0->d.num e=0)/\(d.iK = -1->d.num e<0/\d.num e = -(d.jQ e))/\(d.iK=1->0<d.num e/\d.num e=d.jQ e):=by
 unfold Dy.num;rcases B0 d with⟨h1,h2⟩|⟨h1,h2,h3⟩|⟨h1,h2,h3⟩
 .rw [h2,UD h1];simp
 .have:=u6 h1 e;rw[h3,h2];simp;omega
 .have:=u6 h1 e;rw[h3,h2];simp;omega
theorem Cj(a b:Dy):jm a b=if a.iK<b.iK then -1 else if b.iK<a.iK then 1 else if a.iK=0 then 0 else a.iK*su a b:=by
 unfold jm su jY;generalize min a.e b.e=e;obtain⟨p1,p2,p3⟩:=Ni (d:=a) e;obtain⟨q1,q2,q3⟩:=Ni (d:=b) e;generalize a.num e=x at *
 generalize b.num e=y at *
 generalize a.jQ e=x' at *
 generalize b.jQ e=y' at *
 have ha:a.iK=0\/a.iK = -1\/a.iK=1:=by rcases B0 a with⟨_,h⟩|⟨_,_,h⟩|⟨_,_,h⟩<;>simp[h]
 have hb:b.iK=0\/b.iK = -1\/b.iK=1:=by rcases B0 b with⟨_,h⟩|⟨_,_,h⟩|⟨_,_,h⟩<;>simp[h]
 generalize a.iK=s at *
 generalize b.iK=t at *
 rcases ha with rfl|rfl|rfl<;>rcases hb with rfl|rfl|rfl<;>simp at p1 p2 p3 q1 q2 q3<;>(repeat' split)<;>omega
def kT(z:Int)(e:Int):Dy:=canon (decide (z<0)) z.natAbs e
def iI(a b:Dy):Dy:=
 if a.m=0 then b else if b.m=0 then a else kT (a.num (min a.e b.e)+b.num (min a.e b.e)) (min a.e b.e)
def iF(d:Dy):Dy:=⟨!d.neg&&decide (d.m≠0),d.m,d.e⟩
theorem Da{d:Dy}(h:d.lG):(iF d).lG:=by
 rcases h with⟨h1,h2,h3⟩|h
 .exact .inl ⟨h1,by simp[iF,h1],h3⟩
 .exact .inr h
theorem qj{d:Dy}(h:d.ib):(iF d).ib:=⟨Da h.canon,h.range⟩
theorem akq(n:Bool)(m:Nat)(e:Int):(canon n m e).iK=if m=0 then 0 else if n then -1 else 1:=by
 unfold canon;by_cases h:m=0
 .simp [h,Dy.iK]
 .have:(canon n m e).m≠0:=by unfold canon;rw[aQ h];have:=Dc h;simp only;omega
  unfold canon at this;rw[aQ h]at this ⊢;unfold Dy.iK;rw[aQ this,aQ h]
theorem akr(z e:Int):(kT z e).iK=if z<0 then -1 else if 0<z then 1 else 0:=by
 unfold kT;rw[akq];by_cases h:z<0
 .rw [aQ ae,aR h];simp[h]
 .rw [aQ h]
  by_cases h0:0<z
  .rw [aQ ae,aR h0];simp[h]
  .rw [aQ h0,aR ae]
theorem Vh(d:Dy)(e:Int)(hd:d.m≠0):(iF d).num e = -(d.num e):=by
 unfold Dy.num iF Dy.jQ;cases d.neg<;>simp[hd]
theorem aa4{a b:Dy}(ha:a.m≠0)(hb:b.m≠0):(iI a (iF b)).iK=jm a b:=by
 unfold iI;rw[aQ ha,aQ (by simpa[iF]using hb),akr];have e1:(iF b).e=b.e:=rfl;rw[e1,Vh _ _ hb];unfold jm;generalize a.num _=x;generalize b.num _=y
 repeat' split
 all_goals omega
theorem aa6{a b:Dy}(ha:a.m≠0)(hb:b.m≠0)(hs:a.iK=b.iK)(h:a.iu<b.iu):jm a b = -a.iK:=by
 rw[Cj,aQ ae,aQ ae,Qx ha hb h];split<;>omega
theorem aa5{a b:Dy}(ha:a.m≠0)(hb:b.m≠0)(hs:a.iK=b.iK)(h:b.iu<a.iu):jm a b=a.iK:=by
 rw[Cj,aQ ae,aQ ae,Qw ha hb h];split<;>omega
theorem Ck(a b:Dy):jm a b=if a.iK≠b.iK then(if a.iK<b.iK then -1 else 1)else if a.iK=0 then 0 else
 if a.iu≠b.iu then(if(a.iu<b.iu)=(0<a.iK)then -1 else 1)else(iI a (iF b)).iK:=by
 by_cases hs:a.iK=b.iK
 .rw [aQ (by simpa using hs)]
  by_cases h0:a.iK=0
  .rw [aR h0,Cj,aQ ae,aQ ae,aR h0]
  .rw [aQ h0]
   have ha:a.m≠0:=by intro h;exact h0 (by unfold Dy.iK;rw[aR h])
   have hb:b.m≠0:=by intro h;exact h0 (by rw[hs];unfold Dy.iK;rw[aR h])
   have hc:a.iK = -1\/a.iK=1:=by rcases B0 a with⟨_,h⟩|⟨_,_,h⟩|⟨_,_,h⟩<;>simp_all
   by_cases ht:a.iu=b.iu
   .rw [aQ (by simpa using ht),aa4 ha hb]
   .rw [aR (by simpa using ht)]
    rcases Int.lt_or_gt_of_ne ht with h|h
    .rw [aa6 ha hb hs h];rcases hc with h'|h'<;>rw[h']<;>simp[h]
    .rw [aa5 ha hb hs h];rcases hc with h'|h'<;>rw[h']<;>simp[show ¬a.iu<b.iu by omega]
 .rw [aR (by simpa using hs),Cj]
  by_cases h:a.iK<b.iK
  .rw [aR h,aR h]
  .rw [aQ h,aQ h,aR ae]
theorem YR{out:List Nat}{k c x y P Q P' Q':Nat}(hlen:out.length=k)(h:val out+4294967296^k*c=P+Q)
 (hP:P'=P+4294967296^k*x) (hQ:Q'=Q+4294967296^k*y):
 val (out++[(c+x+y)%4294967296])+4294967296^(k+1)*((c+x+y)/4294967296)=P'+Q':=by
 rw[uw,hlen,hP,hQ];simp only[qp,yZ,cr,bt];generalize hx:c+x+y=z;have e:=dq z 4294967296;rw[aZ,cE,bc,<-bn,e,<-hx,bn,bn];omega
theorem akM{out:List Nat}{k c x y d c' P Q P' Q':Nat}(hlen:out.length=k)(h:val out+Q=P+4294967296^k*c)
 (hP:P'=P+4294967296^k*x) (hQ:Q'=Q+4294967296^k*y) (hd:d+y+c=x+4294967296*c'):
 val (out++[d])+Q'=P'+4294967296^(k+1)*c':=by
 rw[uw,hlen,hP,hQ];simp only[qp,yZ,cr,bt];have e:=congrArg (4294967296^k * ·) hd;simp only[bn,<-bc]at e;rw[aZ];omega
theorem XA{out:List Nat}{n c P Q:Nat}(ho:iC out)(hlen:out.length=n)(h:val out+Q=P+4294967296^n*c)(hle:Q<=P):c=0/\val out=P-Q:=by
 have h1:=lY ho;rw[hlen]at h1;rcases c with _|c
 .exact ⟨rfl,ae⟩
 .exfalso
  have:4294967296^n*1<=4294967296^n*(c+1):=ca _ ae;omega
theorem Kn{L:List Nat}(h:iC L)(k:Nat)(hk:k/32<L.length):val L/2^k%2=L[k/32]/2^(k%32)%2:=by
 have e:k=32*(k/32)+k%32:= ae 
 conv=>lhs;rw[e,aV,<-cz,<-nD,<-F6 h,eE hk,qp]
 have hs:k%32<32:=bg _ ag;have e2:(4294967296:Nat)=2^(k%32)*(2*2^(31-k%32)):=by
  rw[<-Nat.pow_succ',<-aV,show k%32+(31-k%32).succ=32 by omega]
 conv=>lhs;rw[e2,bc,eB _ _ (aY ag),bc,dN]
theorem PX{n k:Nat}(h:n≠0)(hk:k<jO n):n/2^k%2=0:=by
 obtain⟨m,hm,he⟩:=AW h;generalize jO n=c at *
 rw[he,show c=k+(c-k)by omega,aV,<-bc,fz,dt _ (aY ag),show c-k=(c-k-1)+1 by omega,aZ,<-bc,eF]
theorem PW{n:Nat}(h:n≠0):n/2^jO n%2=1:=Dc h
theorem DX{L:List Nat}(h:iC L)(h0:val L≠0):jO (val L)/32<L.length:=by
 have h1:=Dh h0;have h2:=lY h;rw[nD]at h2;have h3:2^jO (val L)<2^(32*L.length):=bQ h1 h2;have:=(gO (ag:1<2)).1 h3;omega
end Go.Proofs.YtdgnpeddgdclhaaGreatDoor.Fp
namespace Go.Proofs.YtdgnpeddgdclhaaGreatDoor
open Go.RowKit Fp
structure Sl(w:World)(A:Option Addr)(c:Nat)(L:List Nat):Prop where
 cap:L.length<=c
 pV:c<=9223372036854775807
 ok:iC L
 wk:A=none->c=0
 cell:∀ (i x:Nat),L[i]? = some x->∃ b o,A=some ⟨b,o,none⟩/\b<w.heap.size/\w.cell? ⟨b,o+i,none⟩=some (.int .u32 (x:Int))
theorem Z6(a:Addr)(n:Nat):(a.add n).block=a.block:=by unfold Addr.add;split<;>rfl
section
variable {w w':World} {A:Option Addr} {c:Nat} {L:List Nat}
theorem Sl.ln(h:Sl w A c L){i:Nat}(hi:i<L.length):∃ b o,A=some ⟨b,o,none⟩/\b<w.heap.size/\w.cell? ⟨b,o+i,none⟩=some (.int .u32 (L[i]:Int)):=
 h.cell i _ (bd hi)
theorem Sl.nil(w:World):Sl w none 0 []:=⟨aU _,ag,iC.nil,fun _=>rfl,fun i x h=>by simp at h⟩
theorem Sl.below(h:Sl w A c L)(hb:Below w.heap.size w w'):Sl w' A c L:=
 ⟨h.cap,h.pV,h.ok,h.wk,fun i x hx=>by
  obtain⟨b,o,e,h1,h2⟩:=h.cell i x hx;exact⟨b,o,e,bD h1 hb.size,(hb.cell h1).trans h2⟩⟩
theorem Sl.alloc(h:Sl w A c L)(o:Obj):Sl (w.alloc o) A c L:=h.below ((Below.refl _ _).alloc (aU _) _)
theorem Sl.drew(h:Sl w A c L):Sl w.drew A c L:=h.below ((Below.refl _ _).drew)
theorem Sl.take(h:Sl w A c L)(n:Nat):Sl w A c (L.take n):=
 ⟨by have:=h.cap;rw[bZ];omega,h.pV,h.ok.take n,h.wk,fun i x hx=>h.cell i x (by
  rw[dQ]at hx;split at hx
  .exact hx
  .cases hx)⟩
theorem Sl.len(h:Sl w A c L):L.length<=9223372036854775807:=aX h.cap h.pV
theorem Sl.eqv{L':List Nat}(h:Sl w A c L)(e:L=L'):Sl w A c L':=e▸h
end
theorem AN(b o i:Nat):(⟨b,o,none⟩:Addr).add i=⟨b,o+i,none⟩:=by
 unfold Addr.add;split
 .rename_i h0;rw[h0];rfl
 .simp
abbrev iy(w w':World):Prop:=Below w.heap.size w w'
theorem iy.trans{a b c:World}(h:iy a b)(k:iy b c):iy a c:=Below.trans h (k.mono h.size)
theorem iy.alloc(w:World)(o:Obj):iy w (w.alloc o):=(Below.refl _ _).alloc (aU _) _
theorem iy.drew(w:World):iy w w.drew:=(Below.refl _ _).drew
theorem iy.refl(w:World):iy w w:=Below.refl _ _
theorem Ju{A:Option Addr}{n m c:Nat}(h:n=m):Ending.returned (.slice A n c) = .returned (.slice A m c):=by rw[h]
theorem oj{k:IntKind}{a b:Int}(h:a=b):Ending.returned (.int k a) = .returned (.int k b):=by rw[h]
theorem Jt{a b:Bool}(h:a=b):Ending.returned (.bool a) = .returned (.bool b):=by rw[h]
def sO(w:World)(L:List Nat)(e:Ending)(w':World):Prop:=∃ A c,e = .returned (.slice A L.length c)/\Sl w' A c L/\iy w w'
def B7(w:World)(L:List Nat)(n:Int)(e:Ending)(w':World):Prop:=∃ A c,e = .returned (.tuple #[.slice A L.length c,.int .i64 n])/\Sl w' A c L/\iy w w'
def Tb(w:World):Prop:=TabAt 0 Lib.deBruijn32tab w
theorem Tb.below{w w':World}(h:Tb w)(hb:iy w w'):Tb w':=fun j hj=>by
 have h1:=h j hj;rw[hb.cell (block_lt_of_cell h1)];exact h1
theorem Tb.alloc{w:World}(h:Tb w)(o:Obj):Tb (w.alloc o):=h.below (iy.alloc _ _)
theorem Tb.drew{w:World}(h:Tb w):Tb w.drew:=h.below (iy.drew _)
theorem ZP(x:Nat)(h:x<4294967296):Lib.bitLen x=ia x:=by
 induction x using Nat.strongRecOn with
 |_ x ih=>
  by_cases h0:x=0
  .subst h0;rfl
  .rw [Lib.bitLen_half x h0 ae,ih (x/2) ae ae]
   by_cases h1:x/2=0
   .have:x=1:= ae 
    subst this;rfl
   .have e1:=rj h1
    have e2:=oM (x/2);have e3:=mR h1;generalize ia (x/2)=k at *
    obtain⟨j,rfl⟩:∃ j,k=j+1:=⟨k-1,ae⟩
    rw[dE]at e1;rw[dR];refine(uD ?_ ?_).symm
    .rw [aZ];omega
    .rw [aZ];omega
theorem abg(x:Nat)(h0:x≠0)(h:x<4294967296):Lib.ctz 32 x=jO x:=by
 unfold Lib.ctz;rw[aQ h0];obtain⟨m,hm,_⟩:=Lib.ctzFrom_spec 32 x ae h
 conv=>rhs;rw[hm,a7]
 exact(xP ae _).symm
def nX(L:List Nat):List Value:=L.map fun(n:Nat)=>Value.int .u32 (n:Int)
theorem alz{L:List Nat}{j:Nat}{u:Value}(h:(nX L)[j]? = some u):∃ n,L[j]? = some n/\u = .int .u32 (n:Int):=by
 unfold nX at h;rw[cj]at h;obtain⟨n,hn,rfl⟩:=cG.1 h;exact⟨n,hn,rfl⟩
theorem aly(L M:List Nat):nX (L++M)=nX L++nX M:=gP
theorem alA(L:List Nat):∀ u ∈ nX L,u.oneCell'=true:=by
 intro u hu;obtain⟨n,_,rfl⟩:=cY.1 hu;rfl
structure Ow(w:World)(base:Nat)(v:Value)(L:List Nat):Prop where
 row:w.ownsRow base 79 1 v L.length (nX L)
 ok:iC L
theorem Ow.sl{w:World}{base:Nat}{v:Value}{L:List Nat}(h:Ow w base v L):∃ A c,v = .slice A L.length c/\Sl w A c L:=by
 have hr:=h.row;rcases hr.2 with⟨rfl,h0⟩|⟨g,cap,cur,rfl,hb,hg,pQ,nU,nK,EJ⟩
 .have:L=[]:=de h0
  subst this;exact⟨none,0,rfl,Sl.nil w⟩
 .refine ⟨_,_,rfl,pQ,(by simpa[maxLen]using nU),h.ok,(fun h=>by cases h),fun i x hx=>⟨_,_,rfl,(cP.1 hg).1,?_⟩⟩
  have h:=hr.cells (g:=g) rfl i (.int .u32 (x:Int)) (by unfold nX;rw[cj,hx];rfl);rw[AN]at h;exact h
theorem Ow.nil(w:World)(base:Nat):Ow w base (.slice none 0 0) []:=⟨World.ownsRow_nil w base _ _,iC.nil⟩
theorem Ow.alloc{w:World}{base:Nat}{v:Value}{L:List Nat}(h:Ow w base v L)(o:Obj):Ow (w.alloc o) base v L:=⟨h.row.alloc o,h.ok⟩
theorem Ow.empty(w:World)(base:Nat)(hb:base<=w.heap.size):Ow (w.alloc (.cells #[] 79)) base (.slice (some ⟨w.heap.size,0,none⟩) 0 0) []:=
 ⟨World.ownsRow_made w #[] 0 hb ag rfl,iC.nil⟩
theorem pU{w:World}{n:Nat}(h:n<=w.heap.size)(o:Obj):n<=(w.alloc o).heap.size:= av 
theorem Sl.one(w:World)(x:Nat)(hx:x<4294967296):Sl (w.alloc (.cells #[.int .u32 x] 79)) (some ⟨w.heap.size,0,none⟩) 1 [x]:=
 ⟨aU _,ag,iC.cons hx iC.nil,(fun h=>by cases h),fun i y hy=>by
  obtain⟨h1,h2⟩:=bV.1 hy;obtain rfl:i=0:=by simp at h1;omega
  simp at h2;subst h2;refine⟨_,_,rfl,aj,?_⟩;exact World.cell?_alloc_at _ _ _ _ rfl⟩
theorem Sl.sJ(w:World)(y:Int)(x:Nat)(e:y=(x:Int))(hx:x<4294967296):Sl (w.alloc (.cells #[.int .u32 y] 79)) (some ⟨w.heap.size,0,none⟩) 1 [x]:=by
 subst e;exact Sl.one w x hx
theorem MA:(Tryz.prog.info? 79).map (fun i=>(i.zero,i.size,i.bytes))=some (some (.int .u32 0),1,4):= ah 
theorem qQ{gW:Array Oper}{rest:List Oper}{o:Oper}{a:Act}{Q:Exit->Act->World->Prop}{w:World}(Be:o.guard=none)(s x:Operand)
 (ho:o.op = .call { callee:=.builtin .append,args:=#[s,x],argTypes:=#[29,29] })
 (base:Nat) (v:Value) (L:List Nat) (hs:a.eval s=v) (ot:Ow w base v L)
 (A:Option Addr) (m c:Nat) (M:List Nat) (hx:a.eval x = .slice A m c) (hm:m=M.length) (hr:Sl w A c M)
 (lI:L.length+M.length<=10000000000) (HW:base<=w.heap.size)
 (h:∀ v' w',Ow w' base v' (L++M)->w.grownBy w' v.ownBlock->(v'.ownBlock=v.ownBlock\/v'.ownBlock=some w.heap.size)->wpList Tryz.prog gW Q rest (a.put o.dst v') w'):
 wpList Tryz.prog gW Q (o::rest) a w:=by
 obtain⟨i,hi,hz,h1,h2⟩:=info_parts MA;subst hm;rcases A with _|ad
 .have hc:=hr.wk rfl
  subst hc;have hM:M=[]:=de (by have:=hr.cap;omega);subst hM;refine wpList_append_own_none Be s x _ ho base _ i 1 Tryz.underlying29 hi v _ _ hs ot.row hx ?_;have:=h v w (by rw[List.append_nil];exact ot) ⟨rfl,rfl,rfl,aU _,fun _ _ _=>rfl⟩ (.inl rfl);exact this
 .refine wpList_append_own_at w Be s x _ ho base _ i _ 1 4 Tryz.underlying29 hi hz h1 h2 rfl ag v L.length (nX L) hs ot.row ad M.length c (nX M) hx (by simp[nX]) ?_ (alA M)
   (by simp only[maxLen];omega) ae HW ?_
  .intro j u hu
   obtain⟨n,hn,rfl⟩:=alz hu;obtain⟨b,o,e,_,hc⟩:=hr.cell j n hn;cases e;rw[AN];exact hc
  .intro v' w' aeD hg _ oO
   exact h v' w' ⟨by rw[cg,aly];exact aeD,ot.ok.append hr.ok⟩ hg oO
def Rw(w:World)(b:Nat)(L:List Nat):Prop:=w.heap[b]? = some (.cells (nX L).toArray 79 (0,0))
section
variable {w w':World} {b:Nat} {L:List Nat}
theorem Rw.lt(h:Rw w b L):b<w.heap.size:=(cP.1 h).1
theorem Rw.cell(h:Rw w b L){i x:Nat}(hx:L[i]? = some x):w.cell? ⟨b,i,none⟩=some (.int .u32 (x:Int)):=by
 unfold Rw at h;simp only[World.cell?,h];simp[nX,hx]
theorem Rw.frozen(h:Rw w b L)(i:Nat):w.frozen? ⟨b,i,none⟩=false:=by
 unfold Rw at h;simp[World.frozen?,h]
theorem Rw.set(h:Rw w b L)(i x:Nat):Rw (w.setCell ⟨b,i,none⟩ (.int .u32 (x:Int))) b (L.set i x):=by
 unfold Rw at h ⊢;simp only[World.setCell,eG,h];simp[nX,List.map_set]
theorem Rw.sl(h:Rw w b L)(hk:iC L)(hl:L.length<=10000000000):Sl w (some ⟨b,0,none⟩) L.length L:=
 ⟨aU _,ae,hk,(fun h=>by cases h),fun i x hx=>⟨_,_,rfl,h.lt,by
  rw[bX];exact h.cell hx⟩⟩
theorem Rw.xm(w:World)(n:Nat):Rw (w.alloc (.cells (nX (List.replicate n 0)).toArray 79)) w.heap.size (List.replicate n 0):=heap_alloc_new w _
end
theorem YQ(b i:Nat):(⟨b,0,none⟩:Addr).add i=⟨b,i,none⟩:=by
 unfold Addr.add;split
 .rename_i h0;rw[h0]
 .simp
theorem C8(n:Nat)(hn:n<=10000000000)(w:World):
 (Instr.makeSlice 29 (.int .i64 (n:Int)) (.int .i64 (n:Int))).run Tryz.prog w = .ok (.slice (some ⟨w.heap.size,0,none⟩) n n) (w.alloc (.cells (nX (List.replicate n 0)).toArray 79)):=by
 obtain⟨i,hi,hz,h1,h2⟩:=info_parts MA;have hr:=run_make (P:=Tryz.prog) w 29 79 i _ Tryz.underlying29 hi hz .i64 .i64 n n ae ae (by rw[h2];omega) ae;rw[hr,fA,h1,bO];refine congrArg (fun cs=>Result.ok (Value.slice (some ⟨w.heap.size,0,none⟩) n n) (w.alloc (.cells cs 79))) ?_;apply Array.ext
 .simp [madeCells,nX]
 .intro i h1 h2
  simp[madeCells,nX,Value.cells,cH]
def tv(w:World)(d:Dy)(e:Ending)(w':World):Prop:=
 ∃ A c,e = .returned (.agg #[.bool d.neg,.slice A (gU d.m).length c,.int .i64 d.e])/\Sl w' A c (gU d.m)/\iy w w'
def sN(w:World)(d:Dy)(n:Int)(e:Ending)(w':World):Prop:=
 ∃ A c,e = .returned (.tuple #[.agg #[.bool d.neg,.slice A (gU d.m).length c,.int .i64 d.e],.int .i64 n])/\Sl w' A c (gU d.m)/\iy w w'
def xD(w:World)(g:Nat):Prop:=∀ o x,w.cell? ⟨g,o,none⟩≠some (.int .u32 x)
theorem Sl.xT{w:World}{A:Option Addr}{c:Nat}{L:List Nat}(h:Sl w A c L){g i:Nat}(hg:xD w g)(u:Value):Sl (w.setCell ⟨g,i,none⟩ u) A c L:=
 ⟨h.cap,h.pV,h.ok,h.wk,fun j x hx=>by
  obtain⟨b,o,e,h1,h2⟩:=h.cell j x hx;refine⟨b,o,e,by simpa[World.setCell]using h1,?_⟩;rw[World.cell?_setCell_other w _ _ u]
  .exact h2
  .intro e'
   simp only[Addr.mk.injEq]at e';exact hg (o+j) x (by rw[e'.1];exact h2)⟩
theorem xD.Dd{w:World}{g:Nat}{cs:Array Value}{t:TypeId}{fr:Nat×Nat}(h:w.heap[g]? = some (.cells cs t fr))(hc:∀ (i:Nat) (x:Int),cs[i]? ≠ some (.int .u32 x)):xD w g:=fun o x e=>by
 simp only[World.cell?,h]at e;simp at e;exact hc o x (by simpa using e)
def jg(w:World)(g:Nat)(s:Bool)(A:Option Addr)(n c:Nat)(e:Int):Prop:=w.heap[g]? = some (.cells #[.bool s,.slice A n c,.int .i64 e] 31 (0,0))
section
variable {w w':World} {g n c:Nat} {s:Bool} {A:Option Addr} {e:Int}
theorem jg.new(W:World)(s:Bool)(A:Option Addr)(n c:Nat)(e:Int):jg (W.alloc (.cells #[.bool s,.slice A n c,.int .i64 e] 31)) W.heap.size s A n c e:=heap_alloc_new W _
theorem jg.pt{W:World}{g:Nat}(hg:W.heap.size=g)(s:Bool)(A:Option Addr)(n c:Nat)(e:Int):jg (W.alloc (.cells #[.bool s,.slice A n c,.int .i64 e] 31)) g s A n c e:=hg▸heap_alloc_new W _
theorem jg.lt(h:jg w g s A n c e):g<w.heap.size:=(cP.1 h).1
theorem jg.ext(h:jg w g s A n c e)(hb:iy w w'):jg w' g s A n c e:=(hb.block g h.lt).trans h
theorem jg.alloc(h:jg w g s A n c e)(o:Obj):jg (w.alloc o) g s A n c e:=h.ext (iy.alloc _ _)
theorem jg.drew(h:jg w g s A n c e):jg w.drew g s A n c e:=h
theorem jg.nk(h:jg w g s A n c e):xD w g:=xD.Dd h (fun i x=>by rcases i with _|_|_|i<;>simp)
theorem jg.c0(h:jg w g s A n c e):w.cell? ⟨g,0,none⟩=some (.bool s):=by unfold jg at h;simp[World.cell?,h]
theorem jg.c1(h:jg w g s A n c e):w.cell? ⟨g,1,none⟩=some (.slice A n c):=by unfold jg at h;simp[World.cell?,h]
theorem jg.c2(h:jg w g s A n c e):w.cell? ⟨g,2,none⟩=some (.int .i64 e):=by unfold jg at h;simp[World.cell?,h]
theorem jg.fr(h:jg w g s A n c e)(i:Nat):w.frozen? ⟨g,i,none⟩=false:=by unfold jg at h;simp[World.frozen?,h]
theorem jg.set(h:jg w g s A n c e)(s':Bool)(A':Option Addr)(n' c':Nat)(e':Int):
 jg (((w.setCell ⟨g,0,none⟩ (.bool s')).setCell ⟨g,1,none⟩ (.slice A' n' c')).setCell ⟨g,2,none⟩ (.int .i64 e')) g s' A' n' c' e':=by
 have h1:=heap_setCell_same w g 0 _ _ (.bool s') h;have h2:=heap_setCell_same _ g 1 _ _ (.slice A' n' c') h1;have h3:=heap_setCell_same _ g 2 _ _ (.int .i64 e') h2;exact h3
theorem jg.qm{L:List Nat}{A':Option Addr}{c':Nat}(h:jg w g s A n c e)(hs:Sl w A' c' L)(s':Bool)(e':Int)(n' c2:Nat)(A2:Option Addr):
 Sl (((w.setCell ⟨g,0,none⟩ (.bool s')).setCell ⟨g,1,none⟩ (.slice A2 n' c2)).setCell ⟨g,2,none⟩ (.int .i64 e')) A' c' L:=by
 have h1:=heap_setCell_same w g 0 _ _ (.bool s') h;have h2:=heap_setCell_same _ g 1 _ _ (.slice A2 n' c2) h1;have k1:xD (w.setCell ⟨g,0,none⟩ (.bool s')) g:=xD.Dd h1 (fun i x=>by rcases i with _|_|_|i<;>simp);have k2:xD ((w.setCell ⟨g,0,none⟩ (.bool s')).setCell ⟨g,1,none⟩ (.slice A2 n' c2)) g:=xD.Dd h2 (fun i x=>by rcases i with _|_|_|i<;>simp);exact((hs.xT h.nk _).xT k1 _).xT k2 _
theorem jg.qc{w0:World}(hb:iy w0 w)(hg:w0.heap.size<=g)(s':Bool)(A':Option Addr)(n' c':Nat)(e':Int):
 iy w0 (((w.setCell ⟨g,0,none⟩ (.bool s')).setCell ⟨g,1,none⟩ (.slice A' n' c')).setCell ⟨g,2,none⟩ (.int .i64 e')):=
 ((hb.setCell hg _).setCell hg _).setCell hg _
end
theorem Q8:(Tryz.prog.info? 31).map (·.size)=some 3:= ah 
theorem ajy{fn:Func}{p:Tmp}(h:fn.results = #[.cell p 31])(tmps:Array Value){w:World}{g n c:Nat}{s:Bool}{A:Option Addr}{e:Int}
 (hp:tmps.getD p undef = .pointer (some ⟨g,0,none⟩)) (hb:jg w g s A n c e):
 (results fn tmps).run Tryz.prog w = .ok (.agg #[.bool s,.slice A n c,.int .i64 e]) w:=
 results_cell_row h tmps w g _ _ _ _ hp hb Tryz.underlying31 rfl Q8
theorem ajz{fn:Func}{p t:Tmp}(h:fn.results = #[.cell p 31,.tmp t])(tmps:Array Value){w:World}{g n c:Nat}{s:Bool}{A:Option Addr}{e:Int}
 (hp:tmps.getD p undef = .pointer (some ⟨g,0,none⟩)) (hb:jg w g s A n c e):
 (results fn tmps).run Tryz.prog w = .ok (.tuple #[.agg #[.bool s,.slice A n c,.int .i64 e],tmps.getD t undef]) w:=by
 have S9:tmps[p]?.getD undef = .pointer (some ⟨g,0,none⟩):=by simpa using hp
 simp[results,h,S9,asAddr,run_loadVar_row w g _ _ _ _ _ hb Tryz.underlying31 rfl Q8]
theorem sx{fn:Func}{p:Tmp}(h:fn.results = #[.cell p 31]){a:Act}{w W:World}{d:Dy}{g:Nat}{A:Option Addr}{c n:Nat}
 (hp:a.tmps.getD p undef = .pointer (some ⟨g,0,none⟩)) (hd:a.defers=[]) (hb:jg W g d.neg A n c d.e) (hn:n=(gU d.m).length) (hs:Sl W A c (gU d.m)) (he:iy w W):
 bodyPost Tryz.prog fn (tv w d) .ret a W:=by
 subst hn;exact bodyPost_ret (ajy h _ hp hb) hd ⟨A,c,rfl,hs,he⟩
theorem uI{fn:Func}{p t:Tmp}(h:fn.results = #[.cell p 31,.tmp t]){a:Act}{w W:World}{d:Dy}{k:Int}{g:Nat}{A:Option Addr}{c n:Nat}
 (hp:a.tmps.getD p undef = .pointer (some ⟨g,0,none⟩)) (ht:a.tmps.getD t undef = .int .i64 k) (hd:a.defers=[]) (hb:jg W g d.neg A n c d.e) (hn:n=(gU d.m).length) (hs:Sl W A c (gU d.m)) (he:iy w W):
 bodyPost Tryz.prog fn (sN w d k) .ret a W:=by
 subst hn;exact bodyPost_ret ((ajz h _ hp hb).trans (by rw[ht])) hd ⟨A,c,rfl,hs,he⟩
open Go.ChangeShapes Go.WideShapes Go.ChangeAt Go.RowKit Fp
theorem own:ownKnob Tryz.prog.godebug=none:= ah 
theorem EV:laidOutB Tryz.prog=true:= ah 
theorem RU:Tryz.prog.globalNamed "math/bits.deBruijn32tab" = some 0:= ah 
theorem adm:(Tryz.prog.globals[0]?).map (·.type)=some 160:= ah 
theorem aa0:Tryz.prog.cellsOf 160=32:= ah 
theorem aaZ:Tryz.prog.cellsOf 5=1:= ah 
theorem aaY:Tryz.prog.cellsOf 79=1:= ah 
theorem alg {l:List (String×DataW Unit)} (hl:l=[("math/bits.deBruijn32tab", Rows.laid_math_bits_deBruijn32tab)]) {W:World} (h:laidMet Tryz.prog l W):Tb W:=by
 subst hl;have ht:Lib.TabIs Tryz.prog W "math/bits.deBruijn32tab" .u8 (Lib.deBruijn32tab.map fun(n:Nat)=>(n:Int)):=
  Lib.tabIs_of_head (rest:=[]) RU adm Tryz.underlying160 Tryz.underlying5 aaZ aa0 h
 intro j hj;have:=ht.cell RU j (by simpa using hj);rw[this];simp[aW];rw[bd hj];simp
theorem aeN{n:Int}(h:(Lit.int .i64 n).wf=true):-9223372036854775808<=n/\n<=9223372036854775807:=by
 have h1:IntKind.i64.min = -9223372036854775808:=rfl;have h2:IntKind.i64.max=9223372036854775807:=rfl;simp[Lit.wf,h1,h2]at h;omega
theorem ahn{H:Type}{enc:TypeId×Value->H}{W:World}{fuel:Nat}{c:Value}{x:DataW H×List MemPlace}
 (h:DataW.trod enc Tryz.prog W 0 (fun _=>true) true fuel 29 [c]=some x) (_hlt:∀ p ∈ x.2,p.block<W.heap.size):
 ∃ A L cap,c = .slice A L.length cap/\Sl W A cap L:=by
 rcases open_ints Tryz.underlying29 Tryz.underlying79 aaY h with⟨nK,hx⟩|⟨a,len,cap,zs,nK,_,hl,hm,hz,hx,lq,hwz⟩
 .simp at nK
  exact⟨none,[],0,nK,Sl.nil W⟩
 .simp at nK
  simp only[bk]at hz;refine⟨some a,(zs.take len).map Int.toNat,cap,?_,?_⟩
  .rw [nK,cS,bZ,cR ae]
  .have Tu:∀ n ∈ zs,0<=n/\n<4294967296:=fun n hn=>by
    have:=hwz n hn;have h1:IntKind.u32.min=0:=rfl;have h2:IntKind.u32.max=4294967295:=rfl;simp[Lit.wf,h1,h2]at this;omega
   refine⟨by rw[cS,bZ];omega,by simpa[maxLen]using hm,?_,(fun h=>by cases h),?_⟩
   .intro y hy
    obtain⟨z,xh,rfl⟩:=cY.1 hy;have:=Tu z (ef xh);omega
   .intro i y hy
    rw[cj]at hy;obtain⟨z,xh,rfl⟩:=cG.1 hy;rw[dQ]at xh;split at xh
    .rename_i hi
     have hc:=lq i ae;rw[aW,xh]at hc;obtain⟨b,off,spot⟩:=a;have Ml:spot=none:=by
      rcases spot with _|q
      .rfl
      .exfalso
       have oD:=lq 0 ae;rw[show(⟨b,off,some q⟩:Addr).add 0=⟨b,off,some q⟩from rfl]at oD;unfold World.cell? at oD;split at oD<;>simp at oD
     subst Ml;refine⟨b,off,rfl,?_,?_⟩
     .have:=block_lt_of_cell hc
      rwa[Z6]at this
     .rw [AN]at hc
      rw[hc];have:=Tu z (ej xh);simp;omega
    .cases xh
theorem Um{α:Type}{l:List α}(h:l.length=3):∃ a b c,l=[a,b,c]:=by
 match l,h with
 | [a,b,c],_=>exact⟨a,b,c,rfl⟩
theorem agl{α:Type}{l:List α}(h:l.length=7):∃ a b c d e f g,l=[a,b,c,d,e,f,g]:=by
 match l,h with
 | [a,b,c,d,e,f,g],_=>exact⟨a,b,c,d,e,f,g,rfl⟩
theorem ahl{H:Type}{enc:TypeId×Value->H}{W:World}{fuel:Nat}{cs:List Value}{x:DataW H×List MemPlace}
 (h:DataW.trod enc Tryz.prog W 0 (fun _=>true) true fuel 31 cs=some x) (iD:∀ p ∈ x.2,p.block<W.heap.size):
 ∃ s A L cap e,cs=[.bool s,.slice A L.length cap,.int .i64 e]/\Sl W A cap L/\(-9223372036854775808<=e/\e<=9223372036854775807):=by
 obtain⟨xs,n,rfl,rfl,hl,lv,hf⟩:=DataW.trod_struct Tryz.underlying31 h;have hC:Tryz.prog.cellsOf 31=3:= ah ;have hB:Tryz.prog.cellsOf 4=1:= ah ;have hS:Tryz.prog.cellsOf 29=1:= ah ;have hI:Tryz.prog.cellsOf 3=1:= ah ;rw[hC]at hl;obtain⟨a,b,c,rfl⟩:=Um hl;have h0:=hf 0 _ rfl;have h1:=hf 1 _ rfl;have h2:=hf 2 _ rfl;simp only[eH,eI,dP]at h0 h1 h2;simp only[hB,hS,hI,eJ,eK,eh,eN]at h0 h1 h2;rw[bd (by rw[lv];decide)]at h0 h1 h2;obtain⟨s,hs,_⟩:=DataW.trod_bool Tryz.underlying4 h0;obtain⟨A,L,cap,hc,s8⟩:=ahn h1 (fun p hp=>iD p (eO.2 ⟨_,cw _,hp⟩));obtain⟨e,he,_,hw⟩:=DataW.trod_int Tryz.underlying3 h2;simp at hs he;subst hs he hc;exact⟨s,A,L,cap,e,rfl,s8,aeN hw⟩
noncomputable def MQ(os:Os)(args:Array Value):World:=
 {World.holding Tryz.prog os ⟨#[],args,[]⟩with heap:=(World.holding Tryz.prog os ⟨#[],args,[]⟩).heap.modify 0 fun
   | .cells _ t frozen=>.cells (Lib.deBruijn32tab.map fun(n:Nat)=>Value.int .u8 (n:Int)).toArray t frozen
   |o=>o }
end Go.Proofs.YtdgnpeddgdclhaaGreatDoor
namespace Go.Proofs.YtdgnpeddgdclhaaGreatDoor.Pu
open Go.RowKit
inductive E where
 |any
 |v (x:Value)
 |agg (l:List E)
 |iw (l:List E)
 |sl (nl:Bool) (n sz:Nat) (el:Nat->Nat->E)
 |kv (m:Nat) (el:Nat->E)
 |fn (f:FuncId) (cap:List E)
def r6:Value->Bool
 | .int .u32 _=>true
 |_=>false
def E.nr:Nat->E->Bool
 |_,.any=>true
 |_,.v _=>true
 |_,.sl ..=>true
 |d+1,.agg l=>l.all (E.nr d)
 |d+1,.iw l=>l.all (E.nr d)
 |d+1,.fn _ l=>l.all (E.nr d)
 |_,_=>false
inductive iG(bs br:Nat->Prop)(w:World):E->Value->Prop
 |any (x:Value):iG bs br w .any x
 |v (x:Value):iG bs br w (.v x) x
 |agg (l:List E) (vs:List Value) (h:vs.length=l.length) (k:∀ (i:Nat) (p:E) (x:Value),l[i]? = some p->vs[i]? = some x->iG bs br w p x):iG bs br w (.agg l) (.agg vs.toArray)
 |iw (l:List E) (vs:List Value) (h:vs.length=l.length) (k:∀ (i:Nat) (p:E) (x:Value),l[i]? = some p->vs[i]? = some x->iG bs br w p x):iG bs br w (.iw l) (.tuple vs.toArray)
 |sl (nl:Bool) (n sz:Nat) (el:Nat->Nat->E) (A:Option Addr) (c:Nat) (f:Nat->Nat->Value) (hc:n<=c) (hm:c<=9223372036854775807) (h0:A=none->c=0)
  (hl:∀ i j,i<n->j<sz->(f i j).oneCell'=true/\(nl=true->r6 (f i j)=false))
  (hr:∀ i j,i<n->j<sz->(el i j).nr 2=true)
  (cell:∀ i j,i<n->j<sz->∃ b o,A=some ⟨b,o,none⟩/\¬bs b/\b<w.heap.size/\w.cell? ⟨b,o+(i*sz+j),none⟩=some (f i j))
  (k:∀ i j,i<n->j<sz->iG bs br w (el i j) (f i j)):iG bs br w (.sl nl n sz el) (.slice A n c)
 |kv (m:Nat) (el:Nat->E) (b o:Nat) (f:Nat->Value) (hb:¬br b) (iD:b<w.heap.size) (hl:∀ j,j<m->(f j).oneCell'=true)
  (cell:∀ j,j<m->w.cell? ⟨b,o+j,none⟩=some (f j))
  (k:∀ j,j<m->iG bs br w (el j) (f j)):iG bs br w (.kv m el) (.pointer (some ⟨b,o,none⟩))
 |fn (f:FuncId) (l:List E) (vs:List Value) (h:vs.length=l.length) (k:∀ (i:Nat) (p:E) (x:Value),l[i]? = some p->vs[i]? = some x->iG bs br w p x):iG bs br w (.fn f l) (.func (.func f) #[] vs.toArray)
theorem iG.mono{bs br bs' br':Nat->Prop}{w w':World}(lI:w.heap.size<=w'.heap.size)
 (h1:∀ b,b<w.heap.size->bs' b->bs b) (h2:∀ b,b<w.heap.size->br' b->br b)
 (hc:∀ b o x,b<w.heap.size->(¬bs b\/¬br b)->w.cell? ⟨b,o,none⟩=some x->w'.cell? ⟨b,o,none⟩=some x)
 {e:E} {v:Value} (h:iG bs br w e v):iG bs' br' w' e v:=by
 induction h with
 |any x=>exact .any x
 |v x=>exact .v x
 |agg l vs h k ih=>exact .agg l vs h ih
 |iw l vs h k ih=>exact .iw l vs h ih
 |sl nl n sz el A c f hn hm h0 hl hr cell k ih=>
  refine .sl nl n sz el A c f hn hm h0 hl hr (fun i j hi hj=>?_) ih;obtain⟨b,o,e,hb,iD,lq⟩:=cell i j hi hj;exact⟨b,o,e,fun hx=>hb (h1 b iD hx),bD iD lI,hc b _ _ iD (.inl hb) lq⟩
 |kv m el b o f hb iD hl cell k ih=>
  exact .kv m el b o f (fun hx=>hb (h2 b iD hx)) (bD iD lI) hl (fun j hj=>hc b _ _ iD (.inr hb) (cell j hj)) ih
 |fn f l vs h k ih=>exact .fn f l vs h ih
theorem iG.rk{bs br bs' br':Nat->Prop}{w:World}(h1:∀ b,bs' b->bs b)(h2:∀ b,br' b->br b){e:E}{v:Value}(h:iG bs br w e v):iG bs' br' w e v:=
 h.mono (aU _) (fun b _=>h1 b) (fun b _=>h2 b) (fun _ _ _ _ _ h=>h)
def E.plain:Nat->E->Bool
 |_,.any=>true
 |_,.v _=>true
 |d+1,.agg l=>l.all (E.plain d)
 |d+1,.iw l=>l.all (E.plain d)
 |_,_=>false
theorem iG.plain{bs br bs' br':Nat->Prop}{w w':World}{e:E}{v:Value}(h:iG bs br w e v):∀ d,e.plain d=true->iG bs' br' w' e v:=by
 induction h with
 |any x=>exact fun _ _=>.any x
 |v x=>exact fun _ _=>.v x
 |agg l vs h k ih=>
  intro d hd;cases d with
  |zero=>simp[E.plain]at hd
  |succ d=>
   simp only[E.plain,bF]at hd;exact .agg l vs h fun i p x hp hx=>ih i p x hp hx d (hd p (ej hp))
 |iw l vs h k ih=>
  intro d hd;cases d with
  |zero=>simp[E.plain]at hd
  |succ d=>
   simp only[E.plain,bF]at hd;exact .iw l vs h fun i p x hp hx=>ih i p x hp hx d (hd p (ej hp))
 |sl=>intro d hd;cases d<;>simp[E.plain]at hd
 |kv=>intro d hd;cases d<;>simp[E.plain]at hd
 |fn=>intro d hd;cases d<;>simp[E.plain]at hd
theorem iG.nr{bs br br':Nat->Prop}{w:World}{e:E}{v:Value}(h:iG bs br w e v):∀ d,e.nr d=true->iG bs br' w e v:=by
 induction h with
 |any x=>exact fun _ _=>.any x
 |v x=>exact fun _ _=>.v x
 |agg l vs h k ih=>
  intro d hd;cases d with
  |zero=>simp[E.nr]at hd
  |succ d=>
   simp only[E.nr,bF]at hd;exact .agg l vs h fun i p x hp hx=>ih i p x hp hx d (hd p (ej hp))
 |iw l vs h k ih=>
  intro d hd;cases d with
  |zero=>simp[E.nr]at hd
  |succ d=>
   simp only[E.nr,bF]at hd;exact .iw l vs h fun i p x hp hx=>ih i p x hp hx d (hd p (ej hp))
 |fn f l vs h k ih=>
  intro d hd;cases d with
  |zero=>simp[E.nr]at hd
  |succ d=>
   simp only[E.nr,bF]at hd;exact .fn f l vs h fun i p x hp hx=>ih i p x hp hx d (hd p (ej hp))
 |kv=>intro d hd;cases d<;>simp[E.nr]at hd
 |sl nl n sz el A c f hn hm h0 hl hr cell k ih=>
  exact fun _ _=>.sl nl n sz el A c f hn hm h0 hl hr cell fun i j hi hj=>ih i j hi hj 2 (hr i j hi hj)
def E.one:E->Bool
 | .v x=>x.oneCell'
 | .sl ..=>true
 | .kv ..=>true
 | .fn ..=>true
 |_=>false
def E.nk:E->Bool
 | .v x=>!r6 x
 | .sl ..=>true
 | .kv ..=>true
 | .fn ..=>true
 |_=>false
theorem iG.one{bs br:Nat->Prop}{w:World}{e:E}{v:Value}(h:iG bs br w e v)(h1:e.one=true):v.oneCell'=true:=by
 cases h<;>first|exact h1|rfl|(simp[E.one]at h1)
theorem iG.nk{bs br:Nat->Prop}{w:World}{e:E}{v:Value}(h:iG bs br w e v)(h1:e.nk=true):r6 v=false:=by
 cases h with
 |v=>unfold E.nk at h1;cases hb:r6 v<;>simp_all
 |any=>cases h1
 |agg=>cases h1
 |iw=>cases h1
 |sl=>rfl
 |kv=>rfl
 |fn=>rfl
structure kr(bs br:Nat->Prop)(w:World)(l:List E)(vs:List Value):Prop where
 len:vs.length=l.length
 lg:∀ (i:Nat) (p:E) (x:Value),l[i]? = some p->vs[i]? = some x->iG bs br w p x
theorem kr.nil(bs br:Nat->Prop)(w:World):kr bs br w [] []:=⟨rfl,fun i p x h=>by simp at h⟩
theorem kr.cons{bs br:Nat->Prop}{w:World}{p:E}{x:Value}{l:List E}{vs:List Value}(h:iG bs br w p x)(k:kr bs br w l vs):kr bs br w (p::l) (x::vs):=
 ⟨by simp[k.len],fun i q y hq hy=>by
  cases i with
  |zero=>simp at hq hy;subst hq hy;exact h
  |succ i=>simp at hq hy;exact k.lg i q y hq hy⟩
theorem kr.head{bs br:Nat->Prop}{w:World}{p:E}{x:Value}{l:List E}{vs:List Value}(h:kr bs br w (p::l) (x::vs)):iG bs br w p x:=h.lg 0 p x rfl rfl
theorem kr.tail{bs br:Nat->Prop}{w:World}{p:E}{x:Value}{l:List E}{vs:List Value}(h:kr bs br w (p::l) (x::vs)):kr bs br w l vs:=
 ⟨by have:=h.len;simpa using this,fun i q y hq hy=>h.lg (i+1) q y (by simpa using hq) (by simpa using hy)⟩
theorem kr.lX{bs br:Nat->Prop}{w:World}{p:E}{l:List E}{vs:List Value}(h:kr bs br w (p::l) vs):∃ x ys,vs=x::ys/\iG bs br w p x/\kr bs br w l ys:=by
 cases vs with
 |nil=>have:=h.len;simp at this
 |cons x ys=>exact⟨x,ys,rfl,h.head,h.tail⟩
theorem kr.pY{bs br:Nat->Prop}{w:World}{vs:List Value}(h:kr bs br w [] vs):vs=[]:=de h.len
theorem kr.mono{bs br bs' br':Nat->Prop}{w w':World}{l:List E}{vs:List Value}(h:kr bs br w l vs)(k:∀ e v,iG bs br w e v->iG bs' br' w' e v):kr bs' br' w' l vs:=
 ⟨h.len,fun i p x hp hx=>k _ _ (h.lg i p x hp hx)⟩
theorem kr.take{bs br:Nat->Prop}{w:World}{l:List E}{vs:List Value}(h:kr bs br w l vs)(n:Nat):kr bs br w (l.take n) (vs.take n):=
 ⟨by simp[h.len],fun i p x hp hx=>by
  rw[dQ]at hp hx;split at hp
  .rename_i hi;rw[aR hi]at hx;exact h.lg i p x hp hx
  .cases hp⟩
theorem kr.drop{bs br:Nat->Prop}{w:World}{l:List E}{vs:List Value}(h:kr bs br w l vs)(n:Nat):kr bs br w (l.drop n) (vs.drop n):=
 ⟨by simp[h.len],fun i p x hp hx=>by
  rw[ek]at hp hx;exact h.lg _ p x hp hx⟩
theorem kr.app{bs br:Nat->Prop}{w:World}{l m:List E}{vs us:List Value}(h:kr bs br w l vs)(k:kr bs br w m us):kr bs br w (l++m) (vs++us):=
 ⟨by simp[h.len,k.len],fun i p x hp hx=>by
  rw[fB]at hp hx;rw[h.len]at hx;split at hp
  .rename_i hi;rw[aR hi]at hx;exact h.lg i p x hp hx
  .rename_i hi;rw[aQ hi]at hx;exact k.lg _ p x hp hx⟩
theorem kr.abb(bs br:Nat->Prop)(w:World)(vs:List Value):kr bs br w (vs.map .v) vs:=
 ⟨aj,fun i p x hp hx=>by
  rw[cj,hx]at hp;simp at hp;subst hp;exact .v x⟩
theorem iG.Ca{bs br:Nat->Prop}{w:World}{l:List E}{v:Value}(h:iG bs br w (.agg l) v):∃ vs:List Value,v = .agg vs.toArray/\kr bs br w l vs:=by
 cases h with
 |agg _ vs h k=>exact⟨vs,rfl,h,k⟩
theorem iG.X5{bs br:Nat->Prop}{w:World}{l:List E}{v:Value}(h:iG bs br w (.iw l) v):∃ vs:List Value,v = .tuple vs.toArray/\kr bs br w l vs:=by
 cases h with
 |iw _ vs h k=>exact⟨vs,rfl,h,k⟩
theorem iG.kJ{bs br:Nat->Prop}{w:World}{x v:Value}(h:iG bs br w (.v x) v):v=x:=by cases h;rfl
theorem iG.RM{bs br:Nat->Prop}{w:World}{f:FuncId}{l:List E}{v:Value}(h:iG bs br w (.fn f l) v):∃ vs:List Value,v = .func (.func f) #[] vs.toArray/\kr bs br w l vs:=by
 cases h with
 |fn _ _ vs h k=>exact⟨vs,rfl,h,k⟩
theorem kr.agg{bs br:Nat->Prop}{w:World}{l:List E}{vs:List Value}(h:kr bs br w l vs):iG bs br w (.agg l) (.agg vs.toArray):=.agg l vs h.len h.lg
theorem kr.iw{bs br:Nat->Prop}{w:World}{l:List E}{vs:List Value}(h:kr bs br w l vs):iG bs br w (.iw l) (.tuple vs.toArray):=.iw l vs h.len h.lg
def E.cells?:E->Option (List E)
 | .agg l=>if l.all E.one then some l else none
 | .v (.agg cs)=>if cs.toList.all Value.oneCell' then some (cs.toList.map .v)else none
 | .v x=>if x.oneCell' then some [.v x]else none
 | .sl nl n sz el=>some [.sl nl n sz el]
 | .kv m el=>some [.kv m el]
 | .fn f c=>some [.fn f c]
 |_=>none
theorem iG.cells{bs br:Nat->Prop}{w:World}{e:E}{v:Value}(h:iG bs br w e v){l:List E}(hl:e.cells? = some l):
 kr bs br w l v.cells.toList/\∀ u ∈ v.cells.toList,u.oneCell'=true:=by
 have single:∀ {e:E} {v:Value},iG bs br w e v->v.oneCell'=true->v.cells = #[v]->kr bs br w [e] v.cells.toList/\∀ u ∈ v.cells.toList,u.oneCell'=true:=by
  intro e v h h1 hc;rw[hc];exact⟨.cons h (.nil _ _ _),by simpa using h1⟩
 cases h with
 |any x=>simp[E.cells?]at hl
 |v=>
  by_cases ha:∃ cs,v = .agg cs
  .obtain ⟨cs,rfl⟩:=ha
   simp only[E.cells?]at hl;split at hl
   .rename_i h1
    cases hl;exact⟨kr.abb _ _ _ _,fun u hu=>bF.1 h1 u hu⟩
   .cases hl
  .have hx:(E.v v).cells? = if v.oneCell' then some [.v v]else none:=by
    cases v<;>first|rfl|exact absurd ⟨_,rfl⟩ ha
   rw[hx]at hl;split at hl
   .rename_i h1
    cases hl;exact single (.v v) h1 (by cases v<;>first|rfl|exact absurd ⟨_,rfl⟩ ha)
   .cases hl
 |agg l vs h k=>
  simp only[E.cells?]at hl;split at hl
  .rename_i h1
   cases hl;refine⟨⟨h,k⟩,?_⟩;intro u hu;obtain⟨i,hi⟩:=df.1 hu;have Eu:i<l.length:=by
    obtain⟨hi,_⟩:=bV.1 hi;simp[Value.cells]at hi;omega
   exact(k i _ u (bd Eu) (by simpa[Value.cells]using hi)).one (bF.1 h1 _ (cw Eu))
  .cases hl
 |iw=>simp[E.cells?]at hl
 |sl nl n sz el A c f hc hm h0 pF hr cell k=>simp only[E.cells?]at hl;cases hl;exact single (.sl nl n sz el A c f hc hm h0 pF hr cell k) rfl rfl
 |kv m el b o f hb iD pF cell k=>simp only[E.cells?]at hl;cases hl;exact single (.kv m el b o f hb iD pF cell k) rfl rfl
 |fn f l' vs h k=>simp only[E.cells?]at hl;cases hl;exact single (.fn f l' vs h k) rfl rfl
open Go.RowKit
structure TI where
 id:TypeId
 d:TypeDesc
 i:TypeInfo
def mB(P:Program)(T:List TI):Prop:=∀ x,x ∈ T->P.underlying x.id=some x.d/\P.info? x.id=some x.i
def mQ:List TI->TypeId->Option TI
 | [],_=>none
 |x::l,t=>if Nat.beq x.id t then some x else mQ l t
def xQ(T:List TI)(t:TypeId):Option TypeDesc:=match mQ T t with
 |some x=>some x.d
 |none=>none
def TI.isAgg(x:TI):Bool:=match x.d with
 | .struct _ | .array _ _=>true
 |_=>false
inductive CV where
 |e (x:E)
 |box (id:Nat)
inductive PV where
 |e (x:E)
 |box (id off:Nat)
 |own (id:Nat)
 |pZ (id sz i j:Nat)
 |jt (id k:Nat)
 |sS (f:FuncId) (cap:List CV)
def CV.qG:CV->List Nat
 | .e _=>[]
 | .box id=>[id]
def PV.qG:PV->List Nat
 | .e _=>[]
 | .box id _ | .own id | .pZ id _ _ _ | .jt id _=>[id]
 | .sS _ cap=>cap.flatMap CV.qG
inductive Bx where
 |cells (T:TypeId) (l:List E)
 |row (nl:Bool) (T:TypeId) (n sz:Nat) (el:Nat->Nat->E)
 |qa (nl:Bool) (T1 T0:TypeId) (n sz:Nat) (len:Nat->Nat) (el:Nat->Nat->Nat->E) (pend:Option Nat)
def Bx.nl:Bx->Bool
 | .cells _ l=>l.all E.nk
 | .row nl ..=>nl
 | .qa nl ..=>nl
structure PS where
 n:Nat
 nl:Bool
 t:List (Nat×PV)
 b:List (Nat×Bx)
def look{α:Type}:List (Nat×α)->Nat->Option α
 | [],_=>none
 | (k,x)::l,t=>if Nat.beq k t then some x else look l t
def PS.get(σ:PS)(t:Nat):PV:=(look σ.t t).getD (.e .any)
def PS.bo(σ:PS)(id:Nat):Option Bx:=look σ.b id
def PS.op(σ:PS):Operand->PV
 | .tmp t=>σ.get t
 | .const v=>.e (.v v)
 | .global g=>.e (.v (.pointer (some ⟨g,0,none⟩)))
 | .func f=>.e (.fn f [])
inductive q7 where
 |none
 |new (id:Nat) (b:Bx)
 |ur (id:Nat) (b:Bx)
 |q8 (id:Nat) (b:Bx)
 |vK (id:Nat) (b:Bx)
 |fin (id:Nat)
structure kK where
 r:PV
 f:q7:=.none
 rb:List Nat:=[]
 jV:List Prop:=[]
 rd:List PV:=[]
def PV.py:q7->PV->PV
 | .q8 id _,.own i=>if Nat.beq i id then .e .any else .own i
 | .q8 id _,.pZ i s x j=>if Nat.beq i id then .e .any else .pZ i s x j
 | .vK id _,.jt i k=>if Nat.beq i id then .e .any else .jt i k
 | .fin id,p=>if p.qG.any (Nat.beq id)then .e .any else p
 |_,p=>p
def Dx(l:List (Nat×Bx))(id:Nat)(b:Bx):List (Nat×Bx):=(id,b)::l.filter fun x=>!Nat.beq x.1 id
def q7.Kq:q7->List (Nat×Bx)->List (Nat×Bx)
 | .none,l=>l
 | .new id b,l | .ur id b,l | .q8 id b,l | .vK id b,l=>Dx l id b
 | .fin id,l=>l.filter fun x=>!Nat.beq x.1 id
def q7.JW:q7->Bool
 | .q8 .. | .vK .. | .fin ..=>true
 |_=>false
def PS.qK(σ:PS)(f:q7):PS:={ σ with t:=if f.JW then σ.t.map fun x=>(x.1,x.2.py f)else σ.t,b:=f.Kq σ.b }
def PS.put(σ:PS)(d:Option Tmp)(p:PV):PS:=match d with
 |some d=>{ σ with t:=(d,p)::σ.t.filter fun x=>!Nat.beq x.1 d }
 |none=>σ
def ku:IntKind->Int->Prop
 | .i8,z=>-128<=z/\z<=127
 | .i16,z=>-32768<=z/\z<=32767
 | .i32,z=>-2147483648<=z/\z<=2147483647
 | .i64,z=>-9223372036854775808<=z/\z<=9223372036854775807
 | .u8,z=>0<=z/\z<=255
 | .u16,z=>0<=z/\z<=65535
 | .u32,z=>0<=z/\z<=4294967295
 | .u64,z=>0<=z/\z<=18446744073709551615
def W0(op:BinOp)(k k':IntKind):Bool:=match op with
 | .shl=>true
 | .shr=>true
 |_=>decide (k=k')
def Kb(k:IntKind)(x y:Int):Int:=match k with
 | .u32=>IntKind.u32.wrap (x+y)
 |_=>x+y
def Pf(k:IntKind)(x y:Int):List Prop:=match k with
 | .u32=>[]
 |_=>[ku k (x+y)]
def K2(op:BinOp)(k:IntKind)(x:Int)(y:Int):Option (Value×List Prop):=match op with
 | .add=>some (.int k (Kb k x y),Pf k x y)
 | .sub=>some (.int k (x-y),[ku k (x-y)])
 | .mul=>some (.int k (x*y),[ku k (x*y)])
 | .quo=>some (.int k (x.tdiv y),[0<y,ku k x])
 | .rem=>some (.int k (x.tmod y),[0<y])
 | .and=>some (.int k (bits .and k x y),[])
 | .or=>some (.int k (bits .or k x y),[])
 | .shl=>some (.int k (k.wrap (x*2^y.toNat)),[0<=y/\y<=k.bits])
 | .shr=>some (.int k (x/2^y.toNat),[0<=y/\y<=k.bits])
 | .eql=>some (.bool (x==y),[])
 | .neq=>some (.bool (x != y),[])
 | .lss=>some (.bool (decide (x<y)),[])
 | .leq=>some (.bool (decide (x<=y)),[])
 | .gtr=>some (.bool (decide (y<x)),[])
 | .geq=>some (.bool (decide (y<=x)),[])
 |_=>none
def PS.read(σ:PS)(p:PV)(m:Nat):Option (List E×List Nat×List Prop):=match p with
 | .box id off=>match σ.bo id with
  |some (.cells _ l)=>if Nat.ble (off+m) l.length then some ((l.drop off).take m,[id],[])else none
  |_=>none
 | .pZ id sz i j=>match σ.bo id with
  |some (.row _ _ n s el)=>if Nat.beq s sz&&Nat.ble (j+m) sz then some ((List.range m).map fun q=>el i (j+q),[id],[i<n])else none
  |_=>none
 | .e (.kv k el)=>if Nat.ble m k then some ((List.range m).map el,[],[])else none
 |_=>none
def CV.ext(σ:PS):CV->Option (E×List Nat)
 | .e x=>some (x,[])
 | .box id=>match σ.bo id with
  |some (.cells _ l)=>some (.kv l.length fun j=>l.getD j .any,[id])
  |_=>none
def wM(σ:PS):List CV->Option (List E×List Nat)
 | []=>some ([],[])
 |c::l=>match c.ext σ,wM σ l with
  |some (x,i),some (xs,is)=>some (x::xs,i++is)
  |_,_=>none
def PV.By:PV->Bool
 | .own _=>true
 |_=>false
def PV.ext(σ:PS):PV->Option (E×List Nat)
 | .e x=>some (x,[])
 | .own id=>match σ.bo id with
  |some (.row nl _ n sz el)=>some (.sl nl n sz el,[id])
  |_=>none
 | .box id 0=>match σ.bo id with
  |some (.cells _ l)=>some (.kv l.length fun j=>l.getD j .any,[id])
  |_=>none
 | .sS f cap=>match wM σ cap with
  |some (xs,is)=>some (.fn f xs,is)
  |none=>none
 |_=>none
def uC(σ:PS):List Operand->Option (List E×List Nat)
 | []=>some ([],[])
 |o::l=>match(σ.op o).ext σ,uC σ l with
  |some (x,i),some (xs,is)=>some (x::xs,i++is)
  |_,_=>none
def xO:List PV->Option (List CV)
 | []=>some []
 | .e x::l=>(xO l).map (.e x :: ·)
 | .box id 0::l=>(xO l).map (.box id :: ·)
 |_::_=>none
def oI(w:World)(b:Nat):Prop:=∀ o x,w.cell? ⟨b,o,none⟩≠some (.int .u32 x)
structure PC(P:Program)(K:World->Prop)(f:FuncId)(args:List E)(jW:E):Prop where
 call:∀ (vs:Array Value) (w:World),(callFunc f vs).run P w = .ok (.enter f vs) w
 run:∀ (w:World) (B:Nat->Prop) (vs:List Value),K w->(∀ b,B b->b<w.heap.size/\oI w b)->kr B (fun _=>False) w args vs ->
  Calls P f vs.toArray w (fun e w'=>∃ v,e = .returned v/\Below w.heap.size w w'/\iG B (fun _=>True) w' jW v)
structure AM(P:Program)(K:World->Prop)(f:FuncId)(args:List E)(jW:E):Prop where
 call:∀ (vs:Array Value) (w:World),(callFunc f vs).run P w = .ok (.enter f vs) w
 run:∀ (w:World) (B:Nat->Prop) (vs:List Value),K w->(∀ b,B b->b<w.heap.size)->kr B (fun _=>False) w args vs ->
  Calls P f vs.toArray w (fun e w'=>∃ v,e = .returned v/\Below w.heap.size w w'/\iG B (fun _=>True) w' jW v)
theorem AM.pc{P:Program}{K:World->Prop}{f:FuncId}{args:List E}{jW:E}(h:AM P K f args jW):PC P K f args jW:=
 ⟨h.call,fun w B vs hK hB hr=>h.run w B vs hK (fun b hb=>(hB b hb).1) hr⟩
def qs(w:World)(v:Value)(T:TypeId)(n sz:Nat)(f:Nat->Nat->Value)(nl:Bool):Prop:=
 (v = .slice none 0 0/\n=0) \/
 ∃ (b c:Nat) (cur:Array Value),v = .slice (some ⟨b,0,none⟩) n c/\w.heap[b]? = some (.cells cur T (0,0))/\n<=c/\c<=maxLen/\cur.size=c*sz /\
  (∀ i j,i<n->j<sz->cur[i*sz+j]? = some (f i j)/\(f i j).oneCell'=true)/\(nl=true->∀ u,u ∈ cur->r6 u=false)
structure uB(P:Program)(K:World->Prop)(f:FuncId)(args:List E)(nl:Bool)(T:TypeId)(n sz:Nat)(el:Nat->Nat->E):Prop where
 call:∀ (vs:Array Value) (w:World),(callFunc f vs).run P w = .ok (.enter f vs) w
 run:∀ (w:World) (B:Nat->Prop) (vs:List Value),K w->(∀ b,B b->b<w.heap.size/\oI w b)->kr B (fun _=>False) w args vs ->
  Calls P f vs.toArray w (fun e w'=>∃ v,e = .returned v/\Below w.heap.size w w'/\∃ g,qs w' v T n sz g nl/\(∀ x,v.ownBlock=some x->w.heap.size<=x/\x<w'.heap.size) /\
   ∀ i j,i<n->j<sz->iG (fun b=>B b\/v.ownBlock=some b) (fun _=>True) w' (el i j) (g i j)/\(el i j).nr 2=true)
structure qq where
 cl:List (Nat×E):=[]
 ov:List (Nat×PV):=[]
 nw:List (Nat×Bx):=[]
def Fz(T:List TI):List Field->Option (List (Nat×Nat))
 | []=>some []
 |f::fs=>match mQ T f.type,Fz T fs with
  |some ti,some l=>some ((f.offset,ti.i.size)::l)
  |_,_=>none
def As(l:List E)(off:Nat)(m:List E):List E:=l.take off++m++l.drop (off+m.length)
def rB(σ:PS)(place:Nat->Option (Nat×Nat)):List E->List (Nat×Operand)->Option (List E)
 |l,[]=>some l
 |l,(i,x)::ps=>match place i,σ.op x with
  |some (off,size),.e e=>match e.cells? with
   |some m=>if Nat.beq m.length size&&Nat.ble (off+m.length) l.length then rB σ place (As l off m) ps else none
   |none=>none
  |_,_=>none
def y6(ti:TI):Option (List E):=match ti.i.zero with
 |some z=>(E.v z).cells?
 |none=>none
def lg{α:Type}:Nat->List α->List α
 | 0,_=>[]
 |n+1,l=>l++lg n l
def pz(P:Program)(op:BinOp)(t:TypeId)(x y:E)(v:Value):Prop:=∀ (bs br:Nat->Prop) (w:World) (a b:Value) (ox oy:Operand),iG bs br w x a->iG bs br w y b->(eqGuard op t ox oy a b).run P w = .ok () w/\(binOp op t a b).run P w = .ok v w
def adu(O:qq)(d:Option Tmp):Option Value:=match d with
 |some d=>match look O.cl d with
  |some (.v v)=>some v
  |_=>none
 |none=>none
def zz(P:Program)(K:World->Prop)(O:qq)(σ:PS)(d:Option Tmp)(f:FuncId)(xs:List E)(is:List Nat)(ow:Bool):Option kK:=
 match(match d with
  |some d=>look O.cl d
  |none=>some .any)with
 |some jW=>if jW.plain 3||(σ.nl && !ow)then some { r:=.e jW,rb:=is,jV:=[PC P K f xs jW] }else if !ow then some { r:=.e jW,rb:=is,jV:=[AM P K f xs jW] }else none
 |none=>match d with
  |some d=>match look O.nw d,σ.bo d with
   |some (.row nl T n sz el),none=>if(σ.nl&&nl) && !ow then some { r:=.own d,f:=.new d (.row nl T n sz el),rb:=is,jV:=[uB P K f xs nl T n sz el] }else none
   |_,_=>none
  |none=>none
def wi(σ:PS)(d:Option Tmp)(b:Bx)(r:Nat->PV)(jV:List Prop):Option kK:=match d with
 |some d=>match σ.bo d with
  |none=>if !σ.nl||b.nl then some { r:=r d,f:=.new d b,jV:=jV }else none
  |some _=>none
 |none=>none
def zw(T:List TI)(σ:PS)(d:Option Tmp)(t:TypeId)(s x:PV):Option kK:=match x with
 | .e (.sl nl2 m sz2 el2)=>match mQ T t with
  |some tt=>match tt.d with
   | .slice e=>match mQ T e with
    |some te=>match y6 te with
     |some z=>if Nat.beq te.i.size sz2&&Nat.ble 1 sz2&&Nat.ble 1 te.i.bytes&&Nat.beq z.length sz2 then match s with
      | .own id=>match σ.bo id with
       |some (.row nl T1 n sz el)=>if Nat.beq T1 e&&Nat.beq sz sz2&&(!σ.nl||(nl&&(nl2&&z.all E.nk)))then
        some { r:=.own id,f:=.q8 id (.row (nl&&(nl2&&z.all E.nk)) T1 (n+m) sz fun i j=>if i<n then el i j else el2 (i-n) j),rb:=[id],jV:=[(n+m)*te.i.bytes<=140737488355328] }
        else none
       |_=>none
      | .jt id k=>match σ.bo id with
       |some (.qa nl T1 T0 n sz len el none)=>if Nat.beq T0 e&&Nat.beq sz sz2&&(!nl||(nl2&&z.all E.nk))then
        some { r:=.jt id k,f:=.vK id (.qa nl T1 T0 n sz (fun q=>if q=k then len q+m else len q) (fun q i j=>if q=k then(if i<len q then el q i j else el2 (i-len q) j)else el q i j) (some k)),rb:=[id],jV:=[k<n,(len k+m)*te.i.bytes<=140737488355328] }
        else none
       |_=>none
      | .e (.v (.slice none 0 0))=>wi σ d (.row (nl2&&z.all E.nk) e m sz2 el2) .own [m*te.i.bytes<=140737488355328]
      |_=>none
     else none
     |none=>none
    |none=>none
   |_=>none
  |none=>none
 |_=>none
def A6(T:List TI)(σ:PS)(d:Option Tmp)(t:TypeId)(s x:PV):Option kK:=match zw T { σ with nl:=false } d t s x with
 |some u=>match u.f,u.r with
  | .q8 id (.row nl _ n sz el),.own id'=>if Nat.beq id' id then some { r:=.e (.sl nl n sz el),f:=.fin id,rb:=u.rb,jV:=True::u.jV }else none
  |_,_=>none
 |none=>none
def Ru(T:List TI)(t:TypeId)(l c:PV):Option (Bx×List Prop):=match l,c with
 | .e (.v (.int _ l)),.e (.v (.int _ c))=>match mQ T t with
  |some tt=>match tt.d with
   | .slice e=>match mQ T e with
    |some te=>match y6 te with
     |some z=>if Nat.beq te.i.size z.length&&Nat.ble 1 te.i.size then
      let jV:=[0<=l/\l<=c,(te.i.bytes:Int)*c<=281474976710656/\c<=9223372036854775807]
      match te.d with
      | .slice e0=>match mQ T e0,z with
       |some t0,[.v (.slice none 0 0)]=>some (.qa true e e0 l.toNat t0.i.size (fun _=>0) (fun _ _ _=>.any) none,jV)
       |_,_=>none
      |_=>some (.row (z.all E.nk) e l.toNat te.i.size (fun _ j=>z.getD j .any),jV)
      else none
     |none=>none
    |none=>none
   |_=>none
  |none=>none
 |_,_=>none
def Hf(T:List TI)(σ:PS)(d:Option Tmp)(t:TypeId)(l c:PV):Option kK:=match Ru T t l c with
 |some (b,jV)=>wi σ d b .own jV
 |none=>none
def Hg(T:List TI)(t:TypeId)(x:PV)(lo hi:Option PV):Option kK:=match x with
 | .e (.sl nl n sz el)=>match mQ T t with
  |some tt=>match tt.d with
   | .slice e=>match mQ T e with
    |some te=>if Nat.beq te.i.size sz then match lo,hi with
     |none,some (.e (.v (.int _ h)))=>some { r:=.e (.sl nl h.toNat sz el),jV:=[0<=h/\h<=n] }
     |some (.e (.v (.int _ l))),none=>some { r:=.e (.sl nl (n-l.toNat) sz fun i j=>el (l.toNat+i) j),jV:=[0<=l/\l<=n] }
     |some (.e (.v (.int _ l))),some (.e (.v (.int _ h)))=>some { r:=.e (.sl nl (h.toNat-l.toNat) sz fun i j=>el (l.toNat+i) j),jV:=[0<=l/\l<=h/\h<=n] }
     |_,_=>none
     else none
    |none=>none
   |_=>none
  |none=>none
 |_=>none
def Hd(T:List TI)(σ:PS)(t:TypeId)(x i:PV):Option kK:=match i with
 | .e (.v (.int _ z))=>match mQ T t with
  |some tt=>match tt.d with
   | .slice e=>match mQ T e with
    |some te=>match x with
     | .e (.sl _ n sz el)=>if Nat.beq te.i.size sz&&Nat.ble 1 sz then some { r:=.e (.kv sz (el z.toNat)),jV:=[0<=z/\z<n] }else none
     | .own id=>match σ.bo id with
      |some (.row _ _ n sz _)=>if Nat.beq te.i.size sz then some { r:=.pZ id sz z.toNat 0,rb:=[id],jV:=[0<=z/\z<n] }else none
      |some (.qa _ _ _ n _ _ _ _)=>if Nat.beq te.i.size 1 then some { r:=.pZ id 1 z.toNat 0,rb:=[id],jV:=[0<=z/\z<n] }else none
      |_=>none
     |_=>none
    |none=>none
   | .array n e=>match mQ T e with
    |some te=>match x with
     | .box id off=>some { r:=.box id (off+z.toNat*te.i.size),jV:=[0<=z/\z<n] }
     | .e (.kv m el)=>if Nat.beq (n*te.i.size) m then some { r:=.e (.kv te.i.size fun j=>el (z.toNat*te.i.size+j)),jV:=[0<=z/\z<n] }else none
     |_=>none
    |none=>none
   |_=>none
  |none=>none
 |_=>none
def Hh(T:List TI)(σ:PS)(t:TypeId)(a x:PV):Option kK:=match mQ T t with
 |some ti=>match a,x with
  | .box id off,.e e=>match σ.bo id,e.cells? with
   |some (.cells T1 l),some m=>if Nat.beq m.length ti.i.size&&Nat.ble (off+m.length) l.length&&(!σ.nl||m.all E.nk)then
    some { r:=.e .any,f:=.ur id (.cells T1 (As l off m)),rb:=[id] }else none
   |_,_=>none
  | .pZ id sz i j,.e e=>match σ.bo id,e.cells? with
   |some (.row nl T1 n s el),some m=>if Nat.beq m.length ti.i.size&&Nat.beq s sz&&Nat.ble (j+m.length) sz&&(!nl||m.all E.nk)&&m.all (E.nr 2)then
    some { r:=.e .any,f:=.ur id (.row nl T1 n s fun i' j'=>if i'=i/\j<=j'/\j'<j+m.length then m.getD (j'-j) .any else el i' j'),rb:=[id],jV:=[i<n] }else none
   |_,_=>none
  | .pZ id 1 i 0,.jt id' k=>match σ.bo id with
   |some (.qa nl T1 T0 n sz len el (some k'))=>if Nat.beq id id'&&Nat.beq ti.i.size 1 then
    some { r:=.e .any,f:=.ur id (.qa nl T1 T0 n sz len el none),rb:=[id],jV:=[i=k',k=k',k'<n] }else none
   |_=>none
  |_,_=>none
 |none=>none
def uK:PV->PS->Option (Value×List Nat)
 | .e (.sl _ n _ _),_=>some (.int .i64 (n:Int),[])
 | .e (.v (.slice _ n _)),_=>some (.int .i64 (n:Int),[])
 | .own id,σ=>match σ.bo id with
  |some (.row _ _ n _ _)=>some (.int .i64 (n:Int),[id])
  |some (.qa _ _ _ n _ _ _ _)=>some (.int .i64 (n:Int),[id])
  |_=>none
 |_,_=>none
def E3(ti:TI):Option (List E×List Nat×List Prop)->Option kK
 |some (l,is,jV)=>if ti.isAgg then some { r:=.e (.agg l),rb:=is,jV:=jV }else match l with
  | [e]=>some { r:=.e e,rb:=is,jV:=jV }
  |_=>none
 |none=>none
def BU(σ:PS):PV->Option (Nat×Nat×Nat)
 | .pZ id sz i j=>match σ.bo id with
  |some (.qa _ _ _ n _ _ _ none)=>if Nat.beq sz 1&&Nat.beq j 0 then some (id,i,n)else none
  |_=>none
 |_=>none
def He(T:List TI)(σ:PS)(t:TypeId)(p:PV):Option kK:=match mQ T t with
 |some ti=>match BU σ p with
  |some (id,i,n)=>if ti.isAgg then none else some { r:=.jt id i,rb:=[id],jV:=[i<n] }
  |none=>E3 ti (σ.read p ti.i.size)
 |none=>none
def Gz(O:qq):Option Tmp->Bool
 |some d=>(look O.nw d).isSome
 |none=>false
def jL(P:Program)(K:World->Prop)(T:List TI)(O:qq)(σ:PS)(o:Oper):Option kK:=match o.op with
 | .move x=>some { r:=σ.op x }
 | .assign x=>some { r:=σ.op x }
 | .pick c a b=>match σ.op c with
  | .e (.v (.bool true))=>some { r:=σ.op a }
  | .e (.v (.bool false))=>some { r:=σ.op b }
  |_=>none
 | .alloc t=>match mQ T t with
  |some ti=>match y6 ti with
   |some z=>wi σ o.dst (.cells t z) (.box · 0) []
   |none=>none
  |none=>none
 | .box t x=>match σ.op x with
  | .e e=>match e.cells? with
   |some l=>wi σ o.dst (.cells t l) (.box · 0) []
   |none=>none
  |_=>none
 | .build t ps=>match mQ T t with
  |some ti=>match y6 ti with
   |some z=>match ti.d with
    | .struct fs=>match Fz T fs.toList with
     |some pl=>(rB σ (fun i=>pl[i]?) z ps.toList).map fun l=>{ r:=.e (.agg l) }
     |none=>none
    | .array _ e=>match mQ T e with
     |some te=>(rB σ (fun i=>some (i*te.i.size,te.i.size)) z ps.toList).map fun l=>{ r:=.e (.agg l) }
     |none=>none
    |_=>none
   |none=>none
  |none=>none
 | .buildSlice t n ps=>match mQ T t with
  |some tt=>match tt.d with
   | .slice e=>match mQ T e with
    |some te=>match y6 te with
     |some z=>if Nat.beq z.length te.i.size&&Nat.ble 1 te.i.size&&Nat.ble (n*te.i.size) 16777216 then
      (rB σ (fun i=>some (i*te.i.size,te.i.size)) (lg n z) ps.toList).bind fun l=>
       if !(l.all (E.nr 2))then none else if Gz O o.dst then wi σ o.dst (.row (l.all E.nk) e n te.i.size fun i j=>l.getD (i*te.i.size+j) (.v (.bool false))) .own [True]
       else if l.all E.nk then some { r:=.e (.sl true n te.i.size fun i j=>l.getD (i*te.i.size+j) (.v (.bool false))) }
       else some { r:=.e (.sl false n te.i.size fun i j=>l.getD (i*te.i.size+j) (.v (.bool false))) }
      else none
     |none=>none
    |none=>none
   |_=>none
  |none=>none
 | .load t a=>He T σ t (σ.op a)
 | .store t a x=>Hh T σ t (σ.op a) (σ.op x)
 | .nilCheck x=>match σ.op x with
  | .box id off=>some { r:=.box id off }
  | .e (.kv m el)=>some { r:=.e (.kv m el) }
  | .e (.fn f c)=>some { r:=.e (.fn f c) }
  | .sS f c=>some { r:=.sS f c }
  |_=>none
 | .binOp op t x y _=>match σ.op x,σ.op y with
  | .e (.v (.int k a)),.e (.v (.int k' b))=>
   if W0 op k k' then(K2 op k a b).map fun r=>{ r:=.e (.v r.1),jV:=r.2 }else none
  | .e (.v (.bool a)),.e (.v (.bool b))=>match xQ T t with
   |some .bool=>match op with
    | .eql=>some { r:=.e (.v (.bool (a==b))) }
    | .neq=>some { r:=.e (.v (.bool (!(a==b)))) }
    |_=>none
   |_=>none
  | .e (.sl _ n _ _),.e (.v (.slice none 0 0))=>match xQ T t with
   |some (.slice _)=>match op with
    | .eql=>some { r:=.e (.v (.bool false)),jV:=[0<n] }
    | .neq=>some { r:=.e (.v (.bool true)),jV:=[0<n] }
    |_=>none
   |_=>none
  | .e a,.e b=>match adu O o.dst with
   |some v=>some { r:=.e (.v v),jV:=[pz P op t a b v] }
   |none=>none
  |_,_=>none
 | .unOp op _ x=>match op,σ.op x with
  | .not,.e (.v (.bool b))=>some { r:=.e (.v (.bool (!b))) }
  | .neg,.e (.v (.int k z))=>some { r:=.e (.v (.int k (0-z))),jV:=[ku k (0-z)] }
  |_,_=>none
 | .convert src dst x=>match xQ T dst,mQ T src,σ.op x with
  |some (.int k),some _,.e (.v (.int _ z))=>some { r:=.e (.v (.int k (k.wrap z))) }
  |_,_,_=>none
 | .makeFunc (.func f) first cap=>if first.isEmpty then match xO (cap.toList.map σ.op)with
  |some l=>some { r:=.sS f l }
  |none=>none
  else none
 | .makeSlice t l c=>Hf T σ o.dst t (σ.op l) (σ.op c)
 | .slice t x lo hi none=>Hg T t (σ.op x) (lo.map σ.op) (hi.map σ.op)
 | .fieldAddr t x f=>match xQ T t with
  |some (.struct fs)=>match fs[f]? with
   |some fd=>match mQ T fd.type with
    |some ft=>if Nat.beq ft.i.size 0 then none else match σ.op x with
     | .box id off=>some { r:=.box id (off+fd.offset) }
     | .pZ id sz i j=>some { r:=.pZ id sz i (j+fd.offset) }
     | .e (.kv m el)=>if Nat.ble fd.offset m then some { r:=.e (.kv (m-fd.offset) fun j=>el (fd.offset+j)) }else none
     |_=>none
    |none=>none
   |none=>none
  |_=>none
 | .indexAddr t x i=>Hd T σ t (σ.op x) (σ.op i)
 | .index t x i=>match σ.op x,σ.op i with
  | .e (.agg l),.e (.v (.int _ z))=>match mQ T t with
   |some tt=>match tt.d with
    | .array n e=>match mQ T e with
     |some te=>if te.isAgg&&Nat.beq (n*te.i.size) l.length then some { r:=.e (.agg ((l.drop (z.toNat*te.i.size)).take te.i.size)),jV:=[0<=z/\z<n] }else none
     |none=>none
    |_=>none
   |none=>none
  |_,_=>none
 | .field t x f=>match σ.op x,xQ T t with
  | .e (.agg l),some (.struct fs)=>match fs[f]? with
   |some fd=>match mQ T fd.type with
    |some ft=>if ft.isAgg then none else match l[fd.offset]? with
     |some e=>some { r:=.e e }
     |none=>none
    |none=>none
   |none=>none
  |_,_=>none
 | .extract x i=>match σ.op x with
  | .e (.iw l)=>match l[i]? with
   |some e=>some { r:=.e e }
   |none=>none
  |_=>none
 | .call c=>match c.callee with
  | .builtin .len=>match c.args.toList,c.argTypes.toList with
   | [x],[t]=>match xQ T t with
    |some (.slice _)=>(uK (σ.op x) σ).map fun r=>{ r:=.e (.v r.1),rb:=r.2 }
    |_=>none
   |_,_=>none
  | .builtin .append=>match c.args.toList,c.argTypes.toList with
   | [s,x],[t,t']=>if Nat.beq t t' then(if Gz O o.dst then A6 T σ o.dst t (σ.op s) (σ.op x)else zw T σ o.dst t (σ.op s) (σ.op x))else none
   |_,_=>none
  | .builtin .max=>match c.args.toList.map σ.op with
   | [.e (.v (.int k a)),.e (.v (.int _ b))]=>some { r:=.e (.v (.int k (if b>a then b else a))) }
   | [.e (.v (.int k a)),.e (.v (.int _ b)),.e (.v (.int _ z))]=>some { r:=.e (.v (.int k (if z>(if b>a then b else a)then z else(if b>a then b else a)))) }
   |_=>none
  | .builtin .min=>match c.args.toList.map σ.op with
   | [.e (.v (.int k a)),.e (.v (.int _ b))]=>some { r:=.e (.v (.int k (if b<a then b else a))) }
   |_=>none
  | .value f=>match σ.op f,uC σ c.args.toList with
   | .e (.fn g cap),some (xs,is)=>zz P K O σ o.dst g (xs++cap) is ((c.args.toList.map σ.op).any PV.By)
   | .sS g cap,some (xs,is)=>match wM σ cap with
    |some (ys,js)=>zz P K O σ o.dst g (xs++ys) (is++js) ((c.args.toList.map σ.op).any PV.By)
    |none=>none
   |_,_=>none
  |_=>none
 |_=>none
structure Lk where
 oi:Nat->Prop
 own:Nat->Nat->Prop
 val:Nat->Value
 jt:Nat->Nat->Value
def ko(L:Lk)(x:Nat):Prop:=∃ id,L.own id x
def jB(B:Nat->Prop)(L:Lk)(x:Nat):Prop:=B x\/ko L x
def xE(bs br:Nat->Prop)(L:Lk)(w:World):CV->Value->Prop
 | .e x,v=>iG bs br w x v
 | .box id,v=>L.oi id/\∃ b,L.val id = .pointer (some ⟨b,0,none⟩)/\v = .pointer (some ⟨b,0,none⟩)
def nI(bs br:Nat->Prop)(L:Lk)(w:World):PV->Value->Prop
 | .e x,v=>iG bs br w x v
 | .box id off,v=>L.oi id/\∃ b,L.val id = .pointer (some ⟨b,0,none⟩)/\v = .pointer (some ⟨b,off,none⟩)
 | .own id,v=>L.oi id/\v=L.val id
 | .pZ id sz i j,v=>L.oi id/\∃ b n c,L.val id = .slice (some ⟨b,0,none⟩) n c/\v = .pointer (some ⟨b,i*sz+j,none⟩)
 | .jt id k,v=>L.oi id/\v=L.jt id k
 | .sS f cap,v=>∃ vs:List Value,v = .func (.func f) #[] vs.toArray/\vs.length=cap.length/\∀ (i:Nat) (c:CV) (x:Value),cap[i]? = some c->vs[i]? = some x->xE bs br L w c x
def PV.le(p q:PV):Prop:=∀ (bs br:Nat->Prop) (L:Lk) (w:World) (v:Value),nI bs br L w p v->nI bs br L w q v
def tC(P:Program)(K:World->Prop)(T:List TI)(O:qq)(σ:PS)(o:Oper):Option kK:=match jL P K T O σ o with
 |some u=>match o.dst with
  |some d=>match look O.ov d with
   |some p=>some { u with r:=p,jV:=PV.le u.r p::u.jV }
   |none=>some u
  |none=>some u
 |none=>none
def y5(gW:Array Oper)(σ:PS)(o:Oper):Option Bool:=match o.guard with
 |none=>some true
 |some (j,want)=>match(gW[j]?).bind (·.dst)with
  |some t=>match σ.get t with
   | .e (.v (.bool true))=>some want
   | .e (.v (.bool false))=>some (!want)
   | .e (.v (.tuple _))=>some false
   |_=>none
  |none=>none
def PS.app(σ:PS)(d:Option Tmp)(u:kK):PS:=(σ.qK u.f).put d u.r
def u4(σ:PS):Option Tmp->Bool
 |some d=>Nat.blt d σ.n
 |none=>true
def Ft:Op->List Operand
 | .move x | .assign x | .box _ x | .load _ x | .nilCheck x | .unOp _ _ x | .convert _ _ x | .fieldAddr _ x _ | .field _ x _ | .extract x _=>[x]
 | .pick c a b=>[c,a,b]
 | .build _ ps | .buildSlice _ _ ps=>ps.toList.map (·.2)
 | .store _ a v | .binOp _ _ a v _ | .makeSlice _ a v | .indexAddr _ a v | .index _ a v=>[a,v]
 | .makeFunc _ first captured=>first.toList++captured.toList
 | .slice _ x l h m=>x::(l.toList++h.toList++m.toList)
 | .call c=>(match c.callee with | .value f=>[f] | .invoke r _=>[r] | .builtin _=>[])++c.args.toList
 |_=>[]
def DG:List Operand->List Tmp
 | []=>[]
 | .tmp t::l=>t::DG l
 |_::l=>DG l
def looks(gW:Array Oper)(o:Oper):List Tmp:=DG (Ft o.op)++(match o.guard with
 |some (g,_)=>((gW[g]?).bind (·.dst)).toList
 |none=>[])
def qS(P:Program)(K:World->Prop)(T:List TI)(O:qq)(gW:Array Oper)(σ:PS)(o:Oper):Option kK:=
 if u4 σ o.dst then match y5 gW σ o with
  |some true=>match tC P K T O σ o with
   |some u=>some { u with rd:=(looks gW o).map σ.get }
   |none=>none
  |some false=>some { r:=.e (.v (.tuple #[])),rd:=(looks gW o).map σ.get }
  |none=>none
 else none
def LK(l:List Nat)(n:Nat):Bool:=l.any (Nat.beq n)
def q7.id:q7->Option Nat
 | .none=>Option.none
 | .new i _ | .ur i _ | .q8 i _ | .vK i _ | .fin i=>some i
def yC:q7->PV->Bool
 | .q8 id _,.own i=>!Nat.beq i id
 | .q8 id _,.pZ i _ _ _=>!Nat.beq i id
 | .vK id _,.jt i _=>!Nat.beq i id
 | .fin id,p=>!p.qG.any (Nat.beq id)
 |_,_=>true
def Db(l:List Nat):Option Nat->Bool
 |some d=>!LK l d
 |none=>true
def JQ:Option Nat->Option Nat->Bool
 |some a,some b=>!Nat.beq a b
 |_,_=>true
def Nd:PV->Bool
 | .e .any=>false
 |_=>true
def Bu(gW:Array Oper)(x y:Oper×kK):Bool:=
 Db (looks gW y.1) x.1.dst&&JQ x.1.dst y.1.dst&&Db (looks gW x.1) y.1.dst &&
 Db y.2.rb x.2.f.id&&Db x.2.rb y.2.f.id&&JQ x.2.f.id y.2.f.id&&yC x.2.f y.2.r&&yC y.2.f x.2.r &&
 (!x.2.f.JW||y.2.rd.all Nd)&&x.2.rd.all (yC y.2.f)
def Bw(o:Oper)(i:Nat):Bool:=o.after.toList.any fun e=>Region.binds .any e&&Nat.beq e.on i
def AA(gW:Array Oper):Nat->Oper->Nat->Bool
 | 0,o,i=>Bw o i
 |n+1,o,i=>Bw o i||o.after.toList.any fun e=>Region.binds .any e&&(match gW[e.on]? with
  |some z=>AA gW n z i
  |none=>false)
def Df(gW:Array Oper):Nat->List (Oper×kK)->Bool
 |_,[]=>true
 |i,x::l=>x.1.after.toList.all (fun e=>!Region.binds .any e||Nat.blt e.on i)&&l.all (fun y=>AA gW 3 y.1 i||Bu gW x y)&&Df gW (i+1) l
def JL(σ:PS):PV->Option E
 | .e x=>if x.nr 3 then some x else none
 | .own id=>match σ.bo id with
  |some (.row nl _ n sz el)=>some (.sl nl n sz el)
  |some (.qa nl _ _ n sz len el none)=>some (.sl true n 1 fun k _=>.sl nl (len k) sz (el k))
  |_=>none
 |_=>none
def NW(T:List TI)(σ:PS):ResultVar->Option E
 | .tmp t=>JL σ (σ.get t)
 | .cell a t=>match mQ T t with
  |some ti=>match σ.read (σ.get a) ti.i.size with
   |some (l,_,[])=>if ti.isAgg then(if(E.agg l).nr 3 then some (.agg l)else none)else match l with
    | [e]=>if e.nr 3 then some e else none
    |_=>none
   |_=>none
  |none=>none
def Dr(T:List TI)(σ:PS):List ResultVar->Option (List E)
 | []=>some []
 |x::l=>match NW T σ x,Dr T σ l with
  |some e,some es=>some (e::es)
  |_,_=>none
def Js(T:List TI)(fn:Func)(σ:PS):Option E:=match Dr T σ fn.results.toList with
 |some [e]=>some e
 |some l=>some (.iw l)
 |none=>none
inductive Ex where
 |normal
 |exit (id:Nat)
 |ret
def Ee:Code->Nat
 | .region id _ _=>id
 | .seq a _=>Ee a
 | .cond _ a _=>Ee a
 | .block _ b=>Ee b
 | .loop b=>Ee b
 |_=>0
def ES:Nat->List E->List (Nat×PV)
 |_,[]=>[]
 |i,x::l=>(i,.e x)::ES (i+1) l
def Ad(fn:Func)(nl:Bool)(args:List E):PS:={ n:=fn.ntmps,nl:=nl,t:=ES 0 args,b:=[] }
open Go.RowKit
theorem mN{a b:Nat}:Nat.beq a b=true↔a=b:=⟨Nat.eq_of_beq_eq_true,fun h=>by subst h;exact du a⟩
theorem dv{a b:Nat}(h:a≠b):Nat.beq a b=false:=by
 cases hb:Nat.beq a b with
 |false=>rfl
 |true=>exact absurd (mN.1 hb) h
theorem tf{α:Type}(k:Nat)(x:α)(l:List (Nat×α))(t:Nat):look ((k,x)::l) t=if k=t then some x else look l t:=by
 by_cases h:k=t
 .subst h;simp[look]
 .simp [look,h,dv h]
theorem E4{α:Type}(l:List (Nat×α))(d t:Nat)(h:d≠t):look (l.filter fun x=>!Nat.beq x.1 d) t=look l t:=by
 induction l with
 |nil=>rfl
 |cons y l ih=>
  obtain⟨k,x⟩:=y;rw[List.filter_cons];by_cases hk:k=d
  .subst hk
   simp only[du,eP,bq,a6];rw[ih,tf,aQ h]
  .simp only[dv hk,dU,bk]
   rw[tf,tf,ih]
theorem Ut{α:Type}(l:List (Nat×α))(f:α->α)(t:Nat):look (l.map fun x=>(x.1,f x.2)) t=(look l t).map f:=by
 induction l with
 |nil=>rfl
 |cons y l ih=>
  obtain⟨k,x⟩:=y;rw[eR,tf,tf,ih];split<;>rfl
theorem PS.Lp(σ:PS)(d:Nat)(p:PV)(t:Nat):(σ.put (some d) p).get t=if d=t then p else σ.get t:=by
 unfold PS.get PS.put;simp only[tf];by_cases h:d=t
 .rw [aR h,aR h];rfl
 .rw [aQ h,aQ h,E4 _ _ _ h]
theorem PS.Z7(σ:PS)(d:Option Tmp)(p:PV)(id:Nat):(σ.put d p).bo id=σ.bo id:=by cases d<;>rfl
theorem PS.M5(σ:PS)(d:Option Tmp)(p:PV):(σ.put d p).n=σ.n:=by cases d<;>rfl
theorem PS.ahb(σ:PS)(d:Option Tmp)(p:PV):(σ.put d p).nl=σ.nl:=by cases d<;>rfl
theorem IT(l:List (Nat×Bx))(id:Nat)(b:Bx)(t:Nat):look (Dx l id b) t=if id=t then some b else look l t:=by
 unfold Dx;rw[tf];by_cases h:id=t
 .rw [aR h,aR h]
 .rw [aQ h,aQ h,E4 _ _ _ h]
theorem Us{α:Type}(l:List (Nat×α))(d:Nat):look (l.filter fun x=>!Nat.beq x.1 d) d=none:=by
 induction l with
 |nil=>rfl
 |cons y l ih=>
  obtain⟨k,x⟩:=y;rw[List.filter_cons];by_cases hk:k=d
  .subst hk
   simpa only[du,eP,bq,a6]using ih
  .simp only[dv hk,dU,bk]
   rw[tf,aQ hk,ih]
theorem MX{α:Type}(l:List (Nat×α))(i id:Nat):look (l.filter fun x=>!Nat.beq x.1 i) id=if i=id then none else look l id:=by
 by_cases h:i=id
 .subst h;rw[aR rfl];exact Us _ _
 .rw [aQ h];exact E4 _ _ _ h
theorem PS.Hq(σ:PS)(f:q7)(t:Nat):(σ.qK f).get t=(σ.get t).py f:=by
 unfold PS.get PS.qK;by_cases h:f.JW=true
 .simp only[h,bk]
  rw[Ut];cases look σ.t t with
  |none=>cases f<;>rfl
  |some p=>rfl
 .have hv:∀ p:PV,p.py f=p:=by
   intro p;cases f<;>first|exact absurd rfl h|(cases p<;>rfl)
  simp only[h,hv];rfl
def rn(bs br:Nat->Prop)(L:Lk)(w:World)(id:Nat):Bx->Prop
 | .cells T l=>∃ b vs,L.val id = .pointer (some ⟨b,0,none⟩)/\(∀ x,L.own id x↔x=b)/\w.heap[b]? = some (.cells vs.toArray T (0,0))/\kr bs br w l vs/\∀ u,u ∈ vs->u.oneCell'=true
 | .row nl T n sz el=>∃ f:Nat->Nat->Value,qs w (L.val id) T n sz f nl/\(∀ x,L.own id x↔(L.val id).ownBlock=some x)/\∀ i j,i<n->j<sz->iG bs br w (el i j) (f i j)/\(el i j).nr 2=true
 | .qa nl T1 T0 n sz len el pend=>∃ (b c:Nat) (cur:Array Value) (f:Nat->Nat->Nat->Value),L.val id = .slice (some ⟨b,0,none⟩) n c/\w.heap[b]? = some (.cells cur T1 (0,0))/\n<=c/\c<=maxLen/\cur.size=c /\
  (∀ k,k<n->pend≠some k->cur[k]? = some (L.jt id k))/\(∀ u,u ∈ cur->u.oneCell'=true/\r6 u=false) /\
  (∀ k,k<n->qs w (L.jt id k) T0 (len k) sz (f k) nl/\∀ i j,i<len k->j<sz->iG bs br w (el k i j) (f k i j)/\(el k i j).nr 2=true) /\
  (∀ x,L.own id x↔x=b\/∃ k,k<n/\(L.jt id k).ownBlock=some x) /\
  (∀ k k' x,k<n->k'<n->(L.jt id k).ownBlock=some x->(L.jt id k').ownBlock=some x->k=k')/\(∀ k,k<n->(L.jt id k).ownBlock≠some b)
structure jA(w0:World)(B:Nat->Prop)(σ:PS)(a:Act)(w:World)(L:Lk):Prop where
 hd:a.defers=[]
 hs:a.tmps.size=σ.n
 ht:∀ t,nI (jB B L) (ko L) L w (σ.get t) (a.tmps.getD t undef)
 hb:∀ id b,σ.bo id=some b->rn (jB B L) (ko L) L w id b
 hv:∀ id,L.oi id↔(σ.bo id).isSome=true
 hn:∀ id x,L.own id x->L.oi id
 hw:∀ id x,L.own id x->w0.heap.size<=x/\x<w.heap.size
 hi:∀ id id' x,L.own id x->L.own id' x->id=id'
 he:Below w0.heap.size w0 w
 hl:σ.nl=true->∀ id b,σ.bo id=some b->b.nl=true
structure sM(L:Lk)(w:World)(L':Lk)(w':World):Prop where
 size:w.heap.size<=w'.heap.size
 ko:∀ x,x<w.heap.size->Pu.ko L' x->Pu.ko L x
 pL:∀ x,x<w.heap.size->¬Pu.ko L x->w'.heap[x]? = w.heap[x]?
theorem sM.lg{B:Nat->Prop}{L L':Lk}{w w':World}(h:sM L w L' w'){e:E}{v:Value}(k:iG (jB B L) (Pu.ko L) w e v):iG (jB B L') (Pu.ko L') w' e v:=by
 refine k.mono h.size (fun b hb hx=>?_) (fun b hb hx=>h.ko b hb hx) (fun b o x hb s5 hc=>?_)
 .rcases hx with hx|hx
  .exact .inl hx
  .exact .inr (h.ko b hb hx)
 .have hm:¬Pu.ko L b:=by
   rcases s5 with s5|s5
   .exact fun hm=>s5 (.inr hm)
   .exact s5
  rw[<-hc];exact World.cell?_of_block (w:=w) (h.pL b hb hm)
theorem qs.block{w w':World}{v:Value}{T:TypeId}{n sz:Nat}{f:Nat->Nat->Value}{nl:Bool}(h:qs w v T n sz f nl)
 (hk:∀ x,v.ownBlock=some x->w'.heap[x]? = w.heap[x]?):qs w' v T n sz f nl:=by
 rcases h with h|⟨b,c,cur,rfl,hg,r⟩
 .exact .inl h
 .exact .inr ⟨b,c,cur,rfl,by rw[hk b rfl];exact hg,r⟩
theorem rn.later{B:Nat->Prop}{L L':Lk}{w w':World}(h:sM L w L' w'){id:Nat}{b:Bx}(k:rn (jB B L) (ko L) L w id b)
 (hv:L'.val id=L.val id) (ho:∀ x,L'.own id x↔L.own id x) (lV:∀ j,L'.jt id j=L.jt id j) (hk:∀ x,L.own id x->w'.heap[x]? = w.heap[x]?):rn (jB B L') (ko L') L' w' id b:=by
 cases b with
 |cells T l=>
  obtain⟨b,vs,h1,h2,h3,h4,h5⟩:=k;exact⟨b,vs,by rw[hv];exact h1,fun x=>(ho x).trans (h2 x),by rw[hk b ((h2 b).2 rfl)];exact h3,h4.mono fun _ _=>h.lg,h5⟩
 |row nl T n sz el=>
  obtain⟨f,h1,h2,h3⟩:=k;exact⟨f,by rw[hv];exact h1.block fun x hx=>hk x ((h2 x).2 hx),fun x=>by rw[ho,hv];exact h2 x,fun i j hi hj=>⟨h.lg (h3 i j hi hj).1,(h3 i j hi hj).2⟩⟩
 |qa nl T1 T0 n sz len el pend=>
  obtain⟨b,c,cur,f,h1,h2,h3,h4,h5,h6,h7,h8,h9,vN,wQ⟩:=k;have e:L'.jt id=L.jt id:=funext lV;refine⟨b,c,cur,f,by rw[hv];exact h1,by rw[hk b ((h9 b).2 (.inl rfl))];exact h2,h3,h4,h5,by rw[e];exact h6,h7,?_,?_,by rw[e];exact vN,by rw[e];exact wQ⟩
  .intro k Ik
   obtain⟨q1,q2⟩:=h8 k Ik;rw[e];exact⟨q1.block fun x hx=>hk x ((h9 x).2 (.inr ⟨k,Ik,hx⟩)),fun i j hi hj=>⟨h.lg (q2 i j hi hj).1,(q2 i j hi hj).2⟩⟩
  .intro x
   rw[ho,e];exact h9 x
theorem xE.later{B:Nat->Prop}{L L':Lk}{w w':World}(h:sM L w L' w'){c:CV}{v:Value}(k:xE (jB B L) (ko L) L w c v)
 (hv:∀ id,L.oi id->L'.oi id/\L'.val id=L.val id):xE (jB B L') (ko L') L' w' c v:=by
 cases c with
 |e x=>exact h.lg k
 |box id=>obtain⟨k1,b,k2,k3⟩:=k;exact⟨(hv id k1).1,b,by rw[(hv id k1).2];exact k2,k3⟩
theorem nI.later{B:Nat->Prop}{L L':Lk}{w w':World}(h:sM L w L' w'){p:PV}{v:Value}(k:nI (jB B L) (ko L) L w p v)
 (hv:∀ id,L.oi id->L'.oi id/\L'.val id=L.val id/\∀ j,L'.jt id j=L.jt id j):nI (jB B L') (ko L') L' w' p v:=by
 cases p with
 |e x=>exact h.lg k
 |box id off=>obtain⟨k1,b,k2,k3⟩:=k;exact⟨(hv id k1).1,b,by rw[(hv id k1).2.1];exact k2,k3⟩
 |own id=>obtain⟨k1,k2⟩:=k;exact⟨(hv id k1).1,by rw[(hv id k1).2.1];exact k2⟩
 |pZ id sz i j=>obtain⟨k1,b,n,c,k2,k3⟩:=k;exact⟨(hv id k1).1,b,n,c,by rw[(hv id k1).2.1];exact k2,k3⟩
 |jt id q=>obtain⟨k1,k2⟩:=k;exact⟨(hv id k1).1,by rw[(hv id k1).2.2];exact k2⟩
 |sS f cap=>
  obtain⟨vs,k1,k2,k3⟩:=k;exact⟨vs,k1,k2,fun i c x hc hx=>(k3 i c x hc hx).later h fun id hl=>⟨(hv id hl).1,(hv id hl).2.1⟩⟩
theorem jA.later{w0:World}{B:Nat->Prop}{σ:PS}{a:Act}{w w':World}{L:Lk}(r:jA w0 B σ a w L)(h:Below w.heap.size w w'):jA w0 B σ a w' L:=by
 have hl:sM L w L w':=⟨h.size,fun _ _ h=>h,fun x hx _=>h.block x hx⟩
 refine⟨r.hd,r.hs,fun t=>(r.ht t).later hl fun id k=>⟨k,rfl,fun _=>rfl⟩,fun id b hb=>(r.hb id b hb).later hl rfl (fun _=>Iff.rfl) (fun _=>rfl) fun x hx=>h.block x (r.hw id x hx).2,r.hv,r.hn,
  fun id x hx=>⟨(r.hw id x hx).1,bD (r.hw id x hx).2 h.size⟩,r.hi,r.he.trans (h.mono r.he.size),r.hl⟩
theorem jA.drew{w0:World}{B:Nat->Prop}{σ:PS}{a:Act}{w:World}{L:Lk}(r:jA w0 B σ a w L):jA w0 B σ a w.drew L:=r.later (Below.refl _ _).drew
theorem jA.put{w0:World}{B:Nat->Prop}{σ:PS}{a:Act}{w:World}{L:Lk}(r:jA w0 B σ a w L)(d:Option Tmp)(p:PV)(v:Value)(hd:u4 σ d=true)(hp:nI (jB B L) (ko L) L w p v):jA w0 B (σ.put d p) (a.put d v) w L:=by
 cases d with
 |none=>exact r
 |some d=>
  have Bd:d<σ.n:=by simpa[u4,Nat.blt_eq]using hd
  refine⟨r.hd,by simp[Act.put,r.hs,PS.M5],fun t=>?_,fun id b hb=>r.hb id b hb,r.hv,r.hn,r.hw,r.hi,r.he,r.hl⟩;rw[PS.Lp];by_cases h:d=t
  .subst h
   rw[aR rfl];have:(a.put (some d) v).tmps.getD d undef=v:=by
    simp[Act.put,Array.getElem?_setIfInBounds,r.hs,Bd]
   rw[this];exact hp
  .rw [aQ h]
   have:(a.put (some d) v).tmps.getD t undef=a.tmps.getD t undef:=by
    simp[Act.put,am1 h]
   rw[this];exact r.ht t
theorem jA.op{w0:World}{B:Nat->Prop}{σ:PS}{a:Act}{w:World}{L:Lk}(r:jA w0 B σ a w L)(x:Operand):nI (jB B L) (ko L) L w (σ.op x) (a.eval x):=by
 cases x with
 |tmp t=>exact r.ht t
 |const v=>exact .v v
 |global g=>exact .v _
 |func f=>exact .fn f [] [] rfl (fun i p x h=>by simp at h)
open Go.RowKit
def Lk.set(L:Lk)(id:Nat)(O:Nat->Prop)(v:Value)(jt:Nat->Value):Lk:=
 {oi:=fun i=>i=id\/L.oi i
  own:=fun i x=>if i=id then O x else L.own i x
  val:=fun i=>if i=id then v else L.val i
  jt:=fun i=>if i=id then jt else L.jt i }
section
variable {L:Lk} {id:Nat} {O:Nat->Prop} {v:Value} {jt:Nat->Value}
theorem Lk.sf(x:Nat):(L.set id O v jt).own id x↔O x:=by simp[Lk.set]
theorem Lk.pe:(L.set id O v jt).val id=v:=by simp[Lk.set]
theorem Lk.ri(k:Nat):(L.set id O v jt).jt id k=jt k:=by simp[Lk.set]
theorem Lk.AE:(L.set id O v jt).oi id:=.inl rfl
theorem Lk.AF{i:Nat}(h:i≠id)(x:Nat):(L.set id O v jt).own i x↔L.own i x:=by simp[Lk.set,h]
theorem Lk.AG{i:Nat}(h:i≠id):(L.set id O v jt).val i=L.val i:=by simp[Lk.set,h]
theorem Lk.FW{i:Nat}(h:i≠id)(k:Nat):(L.set id O v jt).jt i k=L.jt i k:=by simp[Lk.set,h]
end
structure rq(L:Lk)(w:World)(id:Nat)(O:Nat->Prop)(w':World):Prop where
 own:∀ x,O x->(L.own id x\/w.heap.size<=x)/\x<w'.heap.size
 size:w.heap.size<=w'.heap.size
 pL:∀ x,x<w.heap.size->¬L.own id x->w'.heap[x]? = w.heap[x]?
 os:w'.os=w.os
 tape:w'.tape=w.tape
 output:w'.output=w.output
theorem rq.later{L:Lk}{w:World}{id:Nat}{O:Nat->Prop}{w':World}(h:rq L w id O w')(v:Value)(jt:Nat->Value):sM L w (L.set id O v jt) w':=by
 refine⟨h.size,fun x hx hm=>?_,fun x hx hm=>h.pL x hx fun ho=>hm ⟨id,ho⟩⟩;obtain⟨i,hi⟩:=hm;by_cases e:i=id
 .subst e
  rcases(h.own x ((Lk.sf x).1 hi)).1 with k|k
  .exact ⟨i,k⟩
  .omega
 .exact ⟨i,(Lk.AF e x).1 hi⟩
theorem jA.set{w0:World}{B:Nat->Prop}{σ:PS}{a:Act}{w:World}{L:Lk}(r:jA w0 B σ a w L)(id:Nat)(b':Bx)(O:Nat->Prop)(v:Value)(jt:Nat->Value)(w':World)(f:q7)
 (hf:f.Kq σ.b=Dx σ.b id b') (ht:rq L w id O w')
 (hB:rn (jB B (L.set id O v jt)) (ko (L.set id O v jt)) (L.set id O v jt) w' id b')
 (hT:∀ p v0,nI (jB B L) (ko L) L w p v0->nI (jB B (L.set id O v jt)) (ko (L.set id O v jt)) (L.set id O v jt) w' (p.py f) v0)
 (kg:σ.nl=true->b'.nl=true):jA w0 B (σ.qK f) a w' (L.set id O v jt):=by
 have hl:=ht.later v jt;have ke:∀ i,(σ.qK f).bo i=if id=i then some b' else σ.bo i:=by
  intro i;show look (f.Kq σ.b) i=_;rw[hf,IT];rfl
 have oc:Below w0.heap.size w w':=⟨ht.os,ht.tape,ht.output,ht.size,fun x hx=>ht.pL x (bD hx r.he.size) fun ho=>by have:=(r.hw id x ho).1;omega⟩
 refine⟨r.hd,r.hs,fun t=>?_,fun i b hb=>?_,fun i=>?_,fun i x hx=>?_,fun i x hx=>?_,fun i j x hi hj=>?_,r.he.trans oc,fun Ir i b hb=>?_⟩
 .rw [PS.Hq];exact hT _ _ (r.ht t)
 .rw [ke]at hb
  by_cases e:id=i
  .subst e
   rw[aR rfl]at hb;cases hb;exact hB
  .rw [aQ e]at hb
   have e':i≠id:=fun h=>e h.symm
   exact(r.hb i b hb).later hl (Lk.AG e') (Lk.AF e') (Lk.FW e') fun x hx=>ht.pL x (r.hw i x hx).2 fun ho=>e (r.hi id i x ho hx)
 .rw [ke]
  by_cases e:id=i
  .subst e;rw[aR rfl];simp[Lk.set]
  .rw [aQ e]
   have e':i≠id:=fun h=>e h.symm
   simp only[Lk.set,e',false_or];exact r.hv i
 .by_cases e:i=id
  .exact .inl e
  .exact .inr (r.hn i x ((Lk.AF e x).1 hx))
 .by_cases e:i=id
  .subst e
   obtain⟨k1,k2⟩:=ht.own x ((Lk.sf x).1 hx);refine⟨?_,k2⟩;rcases k1 with k1|k1
   .exact (r.hw i x k1).1
   .exact aX r.he.size k1
  .have:=r.hw i x ((Lk.AF e x).1 hx)
   exact⟨this.1,bD this.2 ht.size⟩
 .by_cases e1:i=id
  .by_cases e2:j=id
   .rw [e1,e2]
   .have k2:=(Lk.AF e2 x).1 hj
    subst e1;rcases(ht.own x ((Lk.sf x).1 hi)).1 with k|k
    .exact r.hi _ _ x k k2
    .have:=(r.hw j x k2).2;omega
  .have k1:=(Lk.AF e1 x).1 hi
   by_cases e2:j=id
   .subst e2
    rcases(ht.own x ((Lk.sf x).1 hj)).1 with k|k
    .exact r.hi _ _ x k1 k
    .have:=(r.hw i x k1).2;omega
   .exact r.hi _ _ x k1 ((Lk.AF e2 x).1 hj)
 .rw [ke]at hb
  by_cases e:id=i
  .rw [aR e]at hb;cases hb;exact kg Ir
  .rw [aQ e]at hb;exact r.hl Ir i b hb
theorem jA.new{w0:World}{B:Nat->Prop}{σ:PS}{a:Act}{w:World}{L:Lk}(r:jA w0 B σ a w L)(id:Nat)(b':Bx)(O:Nat->Prop)(v:Value)(jt:Nat->Value)(w':World)
 (mr:σ.bo id=none) (hO:∀ x,O x->w.heap.size<=x/\x<w'.heap.size) (hb:Below w.heap.size w w')
 (hB:rn (jB B (L.set id O v jt)) (ko (L.set id O v jt)) (L.set id O v jt) w' id b')
 (kg:(!σ.nl||b'.nl)=true):jA w0 B (σ.qK (.new id b')) a w' (L.set id O v jt):=by
 have SH:¬L.oi id:=fun h=>by have:=(r.hv id).1 h;rw[mr]at this;simp at this
 have ht:rq L w id O w':=⟨fun x hx=>⟨.inr (hO x hx).1,(hO x hx).2⟩,hb.size,fun x hx _=>hb.block x hx,hb.os,hb.tape,hb.output⟩
 refine r.set id b' O v jt w' (.new id b') rfl ht hB (fun p v0 hp=>?_) (fun h=>by simpa[h]using kg);have ks:∀ {i},L.oi i->i≠id:=fun h e=>SH (e▸h)
 have:p.py (.new id b')=p:=by cases p<;>rfl
 rw[this];exact hp.later (ht.later v jt) fun i hi=>⟨.inr hi,Lk.AG (ks hi),fun j=>Lk.FW (ks hi) j⟩
theorem jA.ur{w0:World}{B:Nat->Prop}{σ:PS}{a:Act}{w:World}{L:Lk}(r:jA w0 B σ a w L)(id:Nat)(b':Bx)(w':World)
 (uV:L.oi id) (ht:rq L w id (L.own id) w')
 (hB:rn (jB B (L.set id (L.own id) (L.val id) (L.jt id))) (ko (L.set id (L.own id) (L.val id) (L.jt id))) (L.set id (L.own id) (L.val id) (L.jt id)) w' id b')
 (kg:σ.nl=true->b'.nl=true):jA w0 B (σ.qK (.ur id b')) a w' (L.set id (L.own id) (L.val id) (L.jt id)):=by
 refine r.set id b' _ _ _ w' (.ur id b') rfl ht hB (fun p v0 hp=>?_) kg;have:p.py (.ur id b')=p:=by cases p<;>rfl
 rw[this];refine hp.later (ht.later _ _) fun i hi=>⟨.inr hi,?_,fun j=>?_⟩
 .by_cases e:i=id
  .subst e;exact Lk.pe
  .exact Lk.AG e
 .by_cases e:i=id
  .subst e;exact Lk.ri j
  .exact Lk.FW e j
theorem jA.q8{w0:World}{B:Nat->Prop}{σ:PS}{a:Act}{w:World}{L:Lk}(r:jA w0 B σ a w L)(id:Nat)(b':Bx)(O:Nat->Prop)(v:Value)(w':World)
 (hp:∀ b,L.val id ≠ .pointer (some b)) (ht:rq L w id O w')
 (hB:rn (jB B (L.set id O v (L.jt id))) (ko (L.set id O v (L.jt id))) (L.set id O v (L.jt id)) w' id b')
 (kg:σ.nl=true->b'.nl=true):jA w0 B (σ.qK (.q8 id b')) a w' (L.set id O v (L.jt id)):=by
 have hl:=ht.later v (L.jt id);refine r.set id b' O v (L.jt id) w' (.q8 id b') rfl ht hB (fun p v0 pR=>?_) kg;have aeu:∀ i j,(L.set id O v (L.jt id)).jt i j=L.jt i j:=fun i j=>by
  by_cases e:i=id
  .subst e;exact Lk.ri j
  .exact Lk.FW e j
 cases p with
 |e x=>exact hl.lg pR
 |box i off=>
  obtain⟨k1,b,k2,k3⟩:=pR;have e:i≠id:=fun e=>by subst e;exact hp _ k2
  exact⟨.inr k1,b,by rw[Lk.AG e];exact k2,k3⟩
 |own i=>
  by_cases e:i=id
  .subst e;simp only[PV.py,du,bk];exact .any _
  .simp only[PV.py,dv e,bq,a6]
   exact⟨.inr pR.1,by rw[Lk.AG e];exact pR.2⟩
 |pZ i s x j=>
  by_cases e:i=id
  .subst e;simp only[PV.py,du,bk];exact .any _
  .simp only[PV.py,dv e,bq,a6]
   obtain⟨k1,b,n,c,k2,k3⟩:=pR;exact⟨.inr k1,b,n,c,by rw[Lk.AG e];exact k2,k3⟩
 |jt i k=>exact⟨.inr pR.1,by rw[aeu];exact pR.2⟩
 |sS f cap=>
  obtain⟨vs,k1,k2,k3⟩:=pR;refine⟨vs,k1,k2,fun i c x hc hx=>?_⟩;have hk:=k3 i c x hc hx;cases c with
  |e y=>exact hl.lg hk
  |box q=>
   obtain⟨q1,b,q2,q3⟩:=hk;have e:q≠id:=fun e=>by subst e;exact hp _ q2
   exact⟨.inr q1,b,by rw[Lk.AG e];exact q2,q3⟩
theorem jA.vK{w0:World}{B:Nat->Prop}{σ:PS}{a:Act}{w:World}{L:Lk}(r:jA w0 B σ a w L)(id:Nat)(b':Bx)(O:Nat->Prop)(jt:Nat->Value)(w':World)
 (ht:rq L w id O w')
 (hB:rn (jB B (L.set id O (L.val id) jt)) (ko (L.set id O (L.val id) jt)) (L.set id O (L.val id) jt) w' id b')
 (kg:σ.nl=true->b'.nl=true):jA w0 B (σ.qK (.vK id b')) a w' (L.set id O (L.val id) jt):=by
 have hl:=ht.later (L.val id) jt;refine r.set id b' O (L.val id) jt w' (.vK id b') rfl ht hB (fun p v0 pR=>?_) kg;have kW:∀ i,(L.set id O (L.val id) jt).val i=L.val i:=fun i=>by
  by_cases e:i=id
  .subst e;exact Lk.pe
  .exact Lk.AG e
 cases p with
 |e x=>exact hl.lg pR
 |box i off=>obtain⟨k1,b,k2,k3⟩:=pR;exact⟨.inr k1,b,by rw[kW];exact k2,k3⟩
 |own i=>exact⟨.inr pR.1,by rw[kW];exact pR.2⟩
 |pZ i s x j=>obtain⟨k1,b,n,c,k2,k3⟩:=pR;exact⟨.inr k1,b,n,c,by rw[kW];exact k2,k3⟩
 |jt i k=>
  by_cases e:i=id
  .subst e;simp only[PV.py,du,bk];exact .any _
  .simp only[PV.py,dv e,bq,a6]
   exact⟨.inr pR.1,by rw[Lk.FW e];exact pR.2⟩
 |sS f cap=>
  obtain⟨vs,k1,k2,k3⟩:=pR;refine⟨vs,k1,k2,fun i c x hc hx=>(k3 i c x hc hx).later hl fun j hj=>⟨.inr hj,kW j⟩⟩
structure OS(w:World)(v:Value)(T:TypeId)(n sz m:Nat)(f g:Nat->Nat->Value)(nl:Bool)(v':Value)(w':World):Prop where
 own:qs w' v' T (n+m) sz (fun i j=>if i<n then f i j else g (i-n) j) nl
 Kp:∀ x,v'.ownBlock=some x->v.ownBlock=some x\/(w.heap.size<=x/\x<w'.heap.size)
 size:w.heap.size<=w'.heap.size
 pL:∀ x,x<w.heap.size->v.ownBlock≠some x->w'.heap[x]? = w.heap[x]?
 os:w'.os=w.os
 tape:w'.tape=w.tape
 output:w'.output=w.output
def nY(n sz:Nat)(f:Nat->Nat->Value):List Value:=(List.range (n*sz)).map fun q=>f (q/sz) (q%sz)
theorem uM(n sz:Nat)(f:Nat->Nat->Value):(nY n sz f).length=n*sz:=by simp[nY]
theorem Lh{n sz:Nat}{f:Nat->Nat->Value}{i j:Nat}(hi:i<n)(hj:j<sz):(nY n sz f)[i*sz+j]? = some (f i j):=by
 have h1:i*sz+j<n*sz:=by
  have:=bC sz (show i+1<=n from hi);rw[bK,bJ]at this;omega
 have h2:(i*sz+j)/sz=i:=by rw[a7,c9 ae,bT hj,bt]
 have h3:(i*sz+j)%sz=j:=by rw[a7,dw,bu hj]
 simp[nY,h1,h2,h3]
theorem Hn{n sz:Nat}{f:Nat->Nat->Value}{q:Nat}{u:Value}(h:(nY n sz f)[q]? = some u):q/sz<n/\q%sz<sz/\u=f (q/sz) (q%sz)/\q/sz*sz+q%sz=q:=by
 unfold nY at h;rw[cj]at h;obtain⟨x,hx,rfl⟩:=cG.1 h;obtain⟨h1,h2⟩:=bV.1 hx;simp at h1 h2;subst h2;have hz:0<sz:=by
  rcases dV sz with h0|h0
  .subst h0;simp at h1
  .exact h0
 exact⟨(bR hz).2 h1,bg _ hz,rfl,by rw[a7];exact bU q sz⟩
theorem qs.row{w:World}{v:Value}{T:TypeId}{n sz:Nat}{f:Nat->Nat->Value}{nl:Bool}(h:qs w v T n sz f nl):w.ownsRow 0 T sz v n (nY n sz f):=by
 rcases h with⟨rfl,rfl⟩|⟨b,c,cur,rfl,hg,pQ,nU,nK,lq,_⟩
 .exact ⟨uM _ _ _,.inl ⟨rfl,rfl⟩⟩
 .refine ⟨uM _ _ _,.inr ⟨b,c,cur,rfl,bL _,hg,pQ,nU,nK,?_⟩⟩
  apply eU;intro q;by_cases hq:q<n*sz
  .have hz:0<sz:=by
    rcases dV sz with h0|h0
    .subst h0;simp at hq
    .exact h0
   have h1:q/sz<n:=(bR hz).2 hq;have h2:=bg q hz;have h3:q/sz*sz+q%sz=q:=by rw[a7];exact bU q sz
   have h4:=(lq _ _ h1 h2).1;have h5:=Lh (f:=f) h1 h2;rw[h3]at h4 h5;rw[dQ,aR hq,h5];simpa using h4
  .rw [dQ,aQ hq,bS (by rw[uM];omega)]
theorem ajZ(P:Program)(w:World)(t ty e:TypeId)(i:TypeInfo)(z:Value)(sz:Nat)(ht:P.underlying t=some (.slice e))(hi:P.info? e=some i)(hz:i.zero=some z)
 (xf:i.size=sz) (TE:z.cells.size=sz) (lI:0<sz) (jH:1<=i.bytes) (amF:∀ u,u ∈ z.cells->u.oneCell'=true)
 (v:Value) (n:Nat) (f:Nat->Nat->Value) (nl:Bool) (ot:qs w v e n sz f nl)
 (A:Option Addr) (m c:Nat) (g:Nat->Nat->Value) (hA:∀ k j,k<m->j<sz->∃ b o,A=some ⟨b,o,none⟩/\w.cell? ⟨b,o+(k*sz+j),none⟩=some (g k j)) (tD:A=none->m=0)
 (h1:∀ k j,k<m->j<sz->(g k j).oneCell'=true/\(nl=true->r6 (g k j)=false)) (TD:nl=true->∀ u,u ∈ z.cells->r6 u=false)
 (SC:(n+m)*i.bytes<=140737488355328):
 ∃ v' w',(Builtin.append_ #[t,t] ty #[v,.slice A m c]).run P w = .ok v' w'/\OS w v e n sz m f g nl v' w':=by
 have hle:n+m<=(n+m)*i.bytes:=fU _ jH;have Lr:n+m<=maxLen:=by unfold maxLen;omega
 have wX:∀ i j,i<n+m->j<sz->(nY n sz f++nY m sz g)[i*sz+j]? = some (if i<n then f i j else g (i-n) j):=by
  intro i j hi hj;by_cases lV:i<n
  .rw [aR lV,en,Lh lV hj]
   rw[uM];have:=bC sz (show i+1<=n from lV);rw[bK,bJ]at this;omega
  .rw [aQ lV,eV,uM]
   .have:i*sz+j-n*sz=(i-n)*sz+j:=by
     have:=Nat.sub_mul i n sz;have:=bC sz (show n<=i by omega);omega
    rw[this,Lh ae hj]
   .rw [uM]
    have:=bC sz (show n<=i by omega);omega
 have yj:∀ i j,i<n+m->j<sz->(if i<n then f i j else g (i-n) j).oneCell'=true:=by
  intro i j hi hj;split
  .rename_i lV
   rcases ot with⟨_,h0⟩|⟨b,c,cur,_,_,_,_,_,hc,_⟩
   .omega
   .exact (hc i j lV hj).2
  .rename_i lV
   exact(h1 (i-n) j ae hj).1
 have h1':∀ u ∈ nY m sz g,u.oneCell'=true:=by
  intro u hu;obtain⟨q,hq⟩:=df.1 hu;obtain⟨q1,q2,rfl,_⟩:=Hn hq;exact(h1 _ _ q1 q2).1
 have gnl:nl=true->∀ u,u ∈ nY m sz g->r6 u=false:=by
  intro hn u hu;obtain⟨q,hq⟩:=df.1 hu;obtain⟨q1,q2,rfl,_⟩:=Hn hq;exact(h1 _ _ q1 q2).2 hn
 rcases A with _|ad
 .have hm:=tD rfl
  subst hm;rcases ot with⟨rfl,rfl⟩|⟨b,cc,cur,rfl,hg,pQ,nU,nK,lq,kg⟩
  .refine ⟨.slice none 0 0,w,?_,.inl ⟨rfl,rfl⟩,fun x hx=>.inl hx,aU _,fun _ _ _=>rfl,rfl,rfl,rfl⟩
   simp[Builtin.append_,run_underlying ht,sizeOf,typeInfo,hi,Builtin.lenOf,Builtin.firstCells,loadCells,loadCellsFrom]
  .refine ⟨.slice (some ⟨b,0,none⟩) n cc,w,?_,.inr ⟨b,cc,cur,rfl,hg,pQ,nU,nK,?_,kg⟩,fun x hx=>.inl hx,aU _,fun _ _ _=>rfl,rfl,rfl,rfl⟩
   .simp [Builtin.append_,run_underlying ht,sizeOf,typeInfo,hi,Builtin.lenOf,Builtin.firstCells,pQ,storeCells]
   .intro i j hi hj
    have lV:i<n:= ae ;simp only[lV,bk];exact lq i j lV hj
 .have Me:∀ j u,(nY m sz g)[j]? = some u->w.cell? (ad.add j)=some u:=by
   intro q u hq;obtain⟨q1,q2,rfl,q4⟩:=Hn hq;obtain⟨b,o,e,hc⟩:=hA _ _ q1 q2;cases e;rw[q4]at hc;rw[show(⟨b,o,none⟩:Addr).add q=⟨b,o+q,none⟩from Addr.add_lit _ _ _];exact hc
  rcases ot with⟨rfl,rfl⟩|⟨b,cc,cur,rfl,hg,pQ,nU,nK,lq,kg⟩
  .by_cases hm:m=0
   .subst hm
    refine⟨.slice none 0 0,w,?_,.inl ⟨rfl,rfl⟩,fun x hx=>.inl hx,aU _,fun _ _ _=>rfl,rfl,rfl,rfl⟩;simp[Builtin.append_,run_underlying ht,sizeOf,typeInfo,hi,Builtin.lenOf,Builtin.firstCells,loadCells,loadCellsFrom]
   .have hr:=run_append_nil (P:=P) w t ty e i z ht hi hz ad m c (nY m sz g) (by rw[uM,xf]) Me ae (by unfold maxLen at Lr;omega) (by have hb:=SC;simp only[bX]at hb;omega)
    have pO:=grownCap_ge w m 0 e;have nU:grownCap w m 0 e<=maxLen:=grownCap_le_maxLen w m 0 e ae;refine⟨_,_,hr,.inr ⟨w.heap.size,_,_,aj,heap_alloc_new w.drew _,ae,nU,?_,?_,?_⟩,fun x hx=>.inr ?_,aj,fun x hx _=>Below.heap_alloc w.drew _ x hx,rfl,rfl,rfl⟩
    .simp only[gQ,fC,size_zeroCells,TE,uM,<-bK]
     congr 1;omega
    .intro i j hi hj
     have:=wX i j hi hj;refine⟨?_,yj i j hi hj⟩;simp only[nY,ch,List.range_zero,List.map_nil,List.nil_append]at this;rw[<-this,am2]
     .simp [nY]
     .obtain ⟨q,_⟩:=bV.1 this
      simpa[nY]using q
    .intro hn u hu
     rcases eW.1 hu with hu|hu
     .exact gnl hn u (by simpa using hu)
     .simp only[Builtin.zeroCells,fD,fE]at hu
      obtain⟨q,hq,rfl⟩:=hu;have iD:q%z.cells.size<z.cells.size:=bg _ ae;rw[eX z.cells _ iD];exact TD hn _ (fV iD)
    .simp [Value.ownBlock]at hx
     subst hx;simp
  .by_cases Mj:n+m<=cc
   .have wY:(nY m sz g).length=m*i.size:=by rw[uM,xf]
    have od:n*i.size+(nY m sz g).length<=cur.size:=by rw[wY,nK,xf,<-bK];exact bC _ Mj
    have hr:=run_append_room (P:=P) w t ty e i ht hi b n cc cur hg ad m c (nY m sz g) wY Me h1' Mj od;have EJ:cur.toList.take (n*i.size)=nY n sz f:=by
     have Mk:w.ownsRow 0 e sz (.slice (some ⟨b,0,none⟩) n cc) n (nY n sz f):=qs.row (nl:=nl) (.inr ⟨b,cc,cur,rfl,hg,pQ,nU,nK,lq,kg⟩);rcases Mk.2 with⟨hh,_⟩|⟨b',c',cur',hh,_,SM,_,_,_,zW⟩
     .cases hh
     .cases hh
      rw[hg]at SM;cases SM;rw[xf];exact zW
    refine⟨_,_,hr,.inr ⟨b,cc,_,rfl,setRow_heap w b cur _ e _ hg,Mj,nU,?_,?_,?_⟩,fun x hx=>.inl hx,aj,fun x hx ks=>setRow_other w b x _ (fun q=>ks (by simp[Value.ownBlock,q])),rfl,rfl,rfl⟩
    .simp only[fC,cg,bZ,eo,dx]
     omega
    .intro k j hk hj
     refine⟨?_,yj k j hk hj⟩;rw[EJ,<-wX k j hk hj];have hq:k*sz+j<(nY n sz f++nY m sz g).length:=by
      obtain⟨q,_⟩:=bV.1 (wX k j hk hj);exact q
     rw[fW,en hq]
    .intro hn u hu
     simp only[fX,dD]at hu;rcases hu with(hu|hu)|hu
     .exact kg hn u (by have:=ef hu;simpa using this)
     .exact gnl hn u hu
     .exact kg hn u (by have:=eA hu;simpa using this)
   .have Mk:w.ownsRow 0 e sz (.slice (some ⟨b,0,none⟩) n cc) n (nY n sz f):=qs.row (nl:=nl) (.inr ⟨b,cc,cur,rfl,hg,pQ,nU,nK,lq,kg⟩)
    have holds:∀ j u,(nY n sz f)[j]? = some u->w.cell? ((⟨b,0,none⟩:Addr).add j)=some u:=Mk.cells (g:=b) rfl;have hr:=run_append_grow (P:=P) w t ty e i z ht hi hz ⟨b,0,none⟩ n cc (nY n sz f) (by rw[uM,xf]) holds ad m c (nY m sz g) (by rw[uM,xf]) Me ae (by unfold maxLen at Lr;omega) (growslice_fits ae SC);have pO:=grownCap_ge w (n+m) cc e;have aen:grownCap w (n+m) cc e<=maxLen:=grownCap_le_maxLen w (n+m) cc e Lr;refine⟨_,_,hr,.inr ⟨w.heap.size,_,_,aj,heap_alloc_new w.drew _,ae,aen,?_,?_,?_⟩,fun x hx=>.inr ?_,aj,fun x hx _=>Below.heap_alloc w.drew _ x hx,rfl,rfl,rfl⟩
    .simp only[gQ,fC,size_zeroCells,TE,uM,<-bK]
     congr 1;omega
    .intro k j hk hj
     refine⟨?_,yj k j hk hj⟩;rw[<-wX k j hk hj];have hq:k*sz+j<(nY n sz f++nY m sz g).length:=by
      obtain⟨q,_⟩:=bV.1 (wX k j hk hj);exact q
     rw[am2 (by simpa using hq)];simp
    .intro hn u hu
     rcases eW.1 hu with hu|hu
     .rcases eW.1 hu with hu|hu
      .obtain ⟨q,hq⟩:=df.1 (show u ∈ nY n sz f by simpa using hu)
       obtain⟨q1,q2,rfl,_⟩:=Hn hq;exact kg hn _ (dz (lq _ _ q1 q2).1)
      .exact gnl hn u (by simpa using hu)
     .simp only[Builtin.zeroCells,fD,fE]at hu
      obtain⟨q,hq,rfl⟩:=hu;have iD:q%z.cells.size<z.cells.size:=bg _ ae;rw[eX z.cells _ iD];exact TD hn _ (fV iD)
    .simp [Value.ownBlock]at hx
     subst hx;simp
theorem nI.move{B:Nat->Prop}{L L':Lk}{w:World}(h:sM L w L' w){p:PV}{v:Value}(k:nI (jB B L) (ko L) L w p v)
 (hv:∀ id,id ∈ p.qG->L.oi id->L'.oi id/\L'.val id=L.val id/\∀ j,L'.jt id j=L.jt id j):nI (jB B L') (ko L') L' w p v:=by
 cases p with
 |e x=>exact h.lg k
 |box id off=>obtain⟨k1,b,k2,k3⟩:=k;have q:=hv id (by simp[PV.qG]) k1;exact⟨q.1,b,by rw[q.2.1];exact k2,k3⟩
 |own id=>obtain⟨k1,k2⟩:=k;have q:=hv id (by simp[PV.qG]) k1;exact⟨q.1,by rw[q.2.1];exact k2⟩
 |pZ id sz i j=>obtain⟨k1,b,n,c,k2,k3⟩:=k;have q:=hv id (by simp[PV.qG]) k1;exact⟨q.1,b,n,c,by rw[q.2.1];exact k2,k3⟩
 |jt id r=>obtain⟨k1,k2⟩:=k;have q:=hv id (by simp[PV.qG]) k1;exact⟨q.1,by rw[q.2.2];exact k2⟩
 |sS f cap=>
  obtain⟨vs,k1,k2,k3⟩:=k;refine⟨vs,k1,k2,fun i c x hc hx=>?_⟩;have q:=k3 i c x hc hx;cases c with
  |e y=>exact h.lg q
  |box id=>
   obtain⟨q1,b,q2,q3⟩:=q;have r:=hv id (by simp only[PV.qG,eO];exact⟨.box id,ej hc,by simp[CV.qG]⟩) q1;exact⟨r.1,b,by rw[r.2.1];exact q2,q3⟩
theorem alT{id:Nat}{b:Bx}{p:PV}(h:p.qG.any (Nat.beq id)=false):p.py (.q8 id b)=p:=by
 cases p with
 |own i=>
  have:Nat.beq i id=false:=by
   simp only[PV.qG,gR,List.any_nil,gS]at h;exact dv fun e=>by rw[e,du]at h;cases h
  simp[PV.py,this]
 |pZ i s x j=>
  have:Nat.beq i id=false:=by
   simp only[PV.qG,gR,List.any_nil,gS]at h;exact dv fun e=>by rw[e,du]at h;cases h
  simp[PV.py,this]
 |_=>rfl
theorem jA.fin{w0:World}{B:Nat->Prop}{σ:PS}{a:Act}{w:World}{L:Lk}{id:Nat}{nl:Bool}{T n sz:Nat}{el:Nat->Nat->E}(hB:∀ b,B b->b<w0.heap.size)
 (r:jA w0 B (σ.qK (.q8 id (.row nl T n sz el))) a w L):∃ L',jA w0 B (σ.qK (.fin id)) a w L'/\iG (jB B L') (ko L') w (.sl nl n sz el) (L.val id):=by
 let L':Lk:=⟨fun i=>L.oi i/\i≠id,fun i x=>L.own i x/\i≠id,L.val,L.jt⟩
 have iD:sM L w L' w:=⟨aU _,fun x _ ⟨i,h,_⟩=>⟨i,h⟩,fun _ _ _=>rfl⟩
 have vR:∀ i,(σ.qK (.fin id)).bo i=if i=id then none else(σ.qK (.q8 id (.row nl T n sz el))).bo i:=by
  intro i;show look (σ.b.filter fun x=>!Nat.beq x.1 id) i=if i=id then none else look (Dx σ.b id (.row nl T n sz el)) i
  rw[MX,IT];by_cases h:i=id
  .subst h;simp
  .rw [aQ h,aQ (fun e=>h e.symm),aQ (fun e=>h e.symm)]
 have ael:(σ.qK (.q8 id (.row nl T n sz el))).bo id=some (.row nl T n sz el):=by
  show look (Dx σ.b id (.row nl T n sz el)) id=_;rw[IT,aR rfl]
 have wW:∀ x,L.own id x->¬jB B L' x:=by
  rintro x hx (h|⟨i,h1,h2⟩)
  .have:=hB x h;have:=(r.hw id x hx).1;omega
  .exact h2 (r.hi i id x h1 hx)
 have hold:iG (jB B L') (ko L') w (.sl nl n sz el) (L.val id):=by
  obtain⟨f,h1,h2,h3⟩:=r.hb id _ ael;rcases h1 with⟨h0,rfl⟩|⟨b,c,cur,h0,hg,pQ,nU,nK,lq,kg⟩
  .rw [h0]
   exact .sl nl 0 sz el none 0 f (aU _) ag (fun _=>rfl) (fun i j hi=>absurd hi (bj i)) (fun i j hi=>absurd hi (bj i)) (fun i j hi=>absurd hi (bj i)) (fun i j hi=>absurd hi (bj i))
  .have q9:=(h2 b).2 (by rw[h0];rfl)
   rw[h0];refine .sl nl n sz el _ c f pQ (by unfold maxLen at nU;omega) (fun h=>by cases h) (fun i j hi hj=>⟨(lq i j hi hj).2,fun hn=>kg hn _ (dz (lq i j hi hj).1)⟩) (fun i j hi hj=>(h3 i j hi hj).2)
    (fun i j hi hj=>⟨b,0,rfl,wW b q9,(r.hw id b q9).2,?_⟩) (fun i j hi hj=>iD.lg (h3 i j hi hj).1)
   rw[bX];simp only[World.cell?,hg];simpa using(lq i j hi hj).1
 refine⟨L',⟨r.hd,r.hs,fun t=>?_,fun i b' h=>?_,fun i=>?_,fun i x h=>⟨r.hn i x h.1,h.2⟩,fun i x h=>r.hw i x h.1,fun i i' x h k=>r.hi i i' x h.1 k.1,r.he,fun h i b' k=>?_⟩,hold⟩
 .have k:=r.ht t
  rw[PS.Hq]at k ⊢;generalize σ.get t=p at k ⊢;show nI _ _ _ _ (if p.qG.any (Nat.beq id)then .e .any else p) _;cases hp:p.qG.any (Nat.beq id)with
  |true=>exact .any _
  |false=>
   rw[alT hp]at k;refine nI.move iD k fun i hi uV=>⟨⟨uV,?_⟩,rfl,fun _=>rfl⟩
   rintro rfl;have:=dW.1 hp i hi;simp at this
 .rw [vR]at h
  split at h
  .cases h
  .rename_i hi
   exact(r.hb i b' h).later iD rfl (fun x=>⟨fun q=>q.1,fun q=>⟨q,hi⟩⟩) (fun _=>rfl) fun _ _=>rfl
 .rw [vR]
  show L.oi i/\i≠id↔_;by_cases hi:i=id
  .subst hi;simp
  .simp only[hi,cV,ep,and_true,a6]
   exact r.hv i
 .rw [vR]at k
  split at k
  .cases k
  .exact r.hl h i b' k
open Go.RowKit
theorem X8{T:List TI}{t:TypeId}{x:TI}(h:mQ T t=some x):x ∈ T/\x.id=t:=by
 induction T with
 |nil=>cases h
 |cons y l ih=>
  unfold mQ at h;split at h
  .rename_i hb
   cases h;exact⟨aj,mN.1 hb⟩
  .obtain ⟨h1,h2⟩:=ih h
   exact⟨by simp[h1],h2⟩
theorem mB.rP{P:Program}{T:List TI}(hT:mB P T){t:TypeId}{x:TI}(h:mQ T t=some x):P.underlying t=some x.d:=by
 obtain⟨h1,h2⟩:=X8 h;rw[<-h2];exact(hT x h1).1
theorem mB.Ac{P:Program}{T:List TI}(hT:mB P T){t:TypeId}{x:TI}(h:mQ T t=some x):P.info? t=some x.i:=by
 obtain⟨h1,h2⟩:=X8 h;rw[<-h2];exact(hT x h1).2
theorem Cn{T:List TI}{t:TypeId}{d:TypeDesc}(h:xQ T t=some d):∃ x,mQ T t=some x/\x.d=d:=by
 unfold xQ at h;split at h
 .rename_i x hx;exact⟨x,hx,by simpa using h⟩
 .cases h
section
variable {P:Program} {T:List TI} (hT:mB P T) (w:World)
include hT
theorem wB{t:TypeId}{x:TI}(h:mQ T t=some x):(sizeOf t).run P w = .ok x.i.size w:=by
 simp[sizeOf,typeInfo,hT.Ac h]
theorem WX{t:TypeId}{x:TI}(h:mQ T t=some x){z:Value}(hz:x.i.zero=some z):(zeroValue t).run P w = .ok z w:=by
 simp[zeroValue,typeInfo,hT.Ac h,hz]
theorem Jw{t:TypeId}{x:TI}(h:mQ T t=some x):(isAgg t).run P w = .ok x.isAgg w:=by
 unfold isAgg TI.isAgg;rw[Sem.run_bind,run_underlying (hT.rP h) w];cases x.d<;>simp
theorem WW{t:TypeId}{x:TI}(h:mQ T t=some x)(ha:x.isAgg=true)(b o:Nat)(vs:List Value)(hl:vs.length=x.i.size)
 (hc:∀ (j:Nat) (u:Value),vs[j]? = some u->w.cell? ⟨b,o+j,none⟩=some u):(loadVar t ⟨b,o,none⟩).run P w = .ok (.agg vs.toArray) w:=by
 have hr:=run_loadCells_list (P:=P) w ⟨b,o,none⟩ vs (fun j v hv=>by rw[Addr.add_lit];exact hc j v hv);rw[hl]at hr;simp[loadVar,Jw hT w h,ha,wB hT w h,hr]
theorem Ob{t:TypeId}{x:TI}(h:mQ T t=some x)(ha:x.isAgg=false)(b o:Nat)(u:Value)(hc:w.cell? ⟨b,o,none⟩=some u):(loadVar t ⟨b,o,none⟩).run P w = .ok u w:=by
 simp[loadVar,Jw hT w h,ha,hc]
theorem Od{t:TypeId}{x:TI}(h:mQ T t=some x)(b o:Nat)(E:TypeId)(cur:Array Value)(hg:w.heap[b]? = some (.cells cur E (0,0)))(v:Value)(hl:v.cells.toList.length=x.i.size)
 (od:o+v.cells.toList.length<=cur.size) (h1:∀ u ∈ v.cells.toList,u.oneCell'=true):
 (storeVar t ⟨b,o,none⟩ v).run P w = .ok () (w.setRow b (cur.toList.take o++v.cells.toList++cur.toList.drop (o+v.cells.toList.length)).toArray):=by
 have hr:=run_storeCells_at P b o E v.cells.toList 0 cur w hg (by simpa using od) h1;simp only[bt]at hr;have pF:v.cells.size=x.i.size:=by simpa using hl
 simp only[storeVar,Sem.run_bind,wB hT w h,Result.andThen,pF,cV,gT,a6,hr,Sem.run_ite,Sem.run_pure]
end
theorem rq.setRow{L:Lk}{w:World}{id b:Nat}(hb:L.own id b)(iD:∀ x,L.own id x->x<w.heap.size)(cs:Array Value):rq L w id (L.own id) (w.setRow b cs):=
 ⟨fun x hx=>⟨.inl hx,by simpa using iD x hx⟩,aj,fun x _ ks=>setRow_other w b x cs (fun e=>ks (e▸hb)),rfl,rfl,rfl⟩
def kq(P:Program)(K:World->Prop)(w0:World)(B:Nat->Prop)(σ:PS)(o:Oper)(a:Act)(w:World)(u:kK):Prop:=
 ∃ v w' L',((execOp a.eval o).run P w = .ok (.value v) w'\/((execOp a.eval o).run P w = .ok .skip w'/\v=undef))/\jA w0 B (σ.qK u.f) a w' L'/\nI (jB B L') (ko L') L' w' u.r v
section
variable {P:Program} {K:World->Prop} {w0:World} {B:Nat->Prop} {σ:PS} {o:Oper} {a:Act} {w:World} {L:Lk} {u:kK}
theorem kq.pure(r:jA w0 B σ a w L){v:Value}(lH:(execOp a.eval o).run P w = .ok (.value v) w)(hf:u.f = .none)(hp:nI (jB B L) (ko L) L w u.r v):kq P K w0 B σ o a w u:=
 ⟨v,w,L,.inl lH,by rw[hf];exact r,hp⟩
theorem jA.read(r:jA w0 B σ a w L){p:PV}{v:Value}(hp:nI (jB B L) (ko L) L w p v){m:Nat}{l:List E}{is:List Nat}{jV:List Prop}(h:σ.read p m=some (l,is,jV))(ho:∀ q,q ∈ jV->q):
 ∃ b q vs,v = .pointer (some ⟨b,q,none⟩)/\kr (jB B L) (ko L) w l vs/\vs.length=m/\∀ (j:Nat) (u:Value),vs[j]? = some u->w.cell? ⟨b,q+j,none⟩=some u:=by
 have tab:∀ (b q:Nat) (g:Nat->E) (f:Nat->Value),(∀ j,j<m->w.cell? ⟨b,q+j,none⟩=some (f j)/\iG (jB B L) (ko L) w (g j) (f j)) ->
  ∃ vs:List Value,kr (jB B L) (ko L) w ((List.range m).map g) vs/\vs.length=m/\∀ (j:Nat) (u:Value),vs[j]? = some u->w.cell? ⟨b,q+j,none⟩=some u:=by
  intro b q g f hc;refine⟨(List.range m).map f,⟨aj,fun i p x hp hx=>?_⟩,aj,fun j u hu=>?_⟩
  .rw [cj]at hp hx
   obtain⟨i1,wZ,rfl⟩:=cG.1 hp;obtain⟨i2,vV,rfl⟩:=cG.1 hx;rw[wZ]at vV;cases vV;obtain⟨iD,rfl⟩:=bV.1 wZ;simp at iD;simpa using(hc i iD).2
  .rw [cj]at hu
   obtain⟨i1,wZ,rfl⟩:=cG.1 hu;obtain⟨iD,rfl⟩:=bV.1 wZ;simp at iD;simpa using(hc j iD).1
 cases p with
 |box id off=>
  simp only[PS.read]at h;split at h
  .rename_i T l0 ke
   split at h
   .rename_i hle
    simp only[bG,b6]at h;obtain⟨rfl,rfl,rfl⟩:=h;obtain⟨b,vs,h1,h2,h3,h4,h5⟩:=r.hb id _ ke;obtain⟨_,b',k2,rfl⟩:=hp;rw[h1]at k2;cases k2;have CK:=cI hle;refine⟨b,off,(vs.drop off).take m,rfl,(h4.drop off).take m,by simp[h4.len];omega,fun j u hu=>?_⟩;rw[dQ]at hu;split at hu
    .rw [ek]at hu
     simp only[World.cell?,h3];simpa using hu
    .cases hu
   .cases h
  .cases h
 |pZ id sz i j=>
  simp only[PS.read]at h;split at h
  .rename_i nl T n s el ke
   split at h
   .rename_i hle
    simp only[bG,b6]at h;obtain⟨rfl,rfl,rfl⟩:=h;simp only[bB]at hle;have e1:=mN.1 hle.1;have e2:=cI hle.2;subst e1;have hi:i<n:=ho _ aj;obtain⟨f,h1,h2,h3⟩:=r.hb id _ ke;obtain⟨_,b,n',c',k2,rfl⟩:=hp;rcases h1 with⟨h1,_⟩|⟨b',c,cur,h1,hg,pQ,nU,nK,lq,kg⟩
    .rw [k2]at h1;cases h1
    .rw [k2]at h1
     cases h1;obtain⟨vs,q1,q2,q3⟩:=tab b (i*s+j) (fun q=>el i (j+q)) (fun q=>f i (j+q)) (fun q hq=>⟨by
      simp only[World.cell?,hg];have:=(lq i (j+q) hi ae).1;rw[<-cE]at this;simpa using this,(h3 i (j+q) hi ae).1⟩)
     exact⟨b,i*s+j,vs,rfl,q1,q2,q3⟩
   .cases h
  .cases h
 |e x=>
  cases x with
  |kv k el=>
   simp only[PS.read]at h;split at h
   .rename_i hle
    simp only[bG,b6]at h;obtain⟨rfl,rfl,rfl⟩:=h;have CK:=cI hle;cases hp with
    |kv _ _ b q f hb iD hl cell kk=>
     obtain⟨vs,q1,q2,q3⟩:=tab b q el f (fun j hj=>⟨cell j ae,kk j ae⟩);exact⟨b,q,vs,rfl,q1,q2,q3⟩
   .cases h
  |_=>cases h
 |_=>cases h
theorem Gl{ti:TI}{l:List E}(h:y6 ti=some l):∃ z,ti.i.zero=some z/\∀ (bs br:Nat->Prop) (w:World),kr bs br w l z.cells.toList/\∀ u ∈ z.cells.toList,u.oneCell'=true:=by
 unfold y6 at h;split at h
 .rename_i z hz;exact⟨z,hz,fun bs br w=>(iG.v (bs:=bs) (br:=br) (w:=w) z).cells h⟩
 .cases h
theorem jA.Va(r:jA w0 B σ a w L)(id:Nat)(T:TypeId)(l:List E)(v:Value)(mr:σ.bo id=none)(hv:kr (jB B L) (ko L) w l v.cells.toList)(h1:∀ u ∈ v.cells.toList,u.oneCell'=true)
 (kg:(!σ.nl||l.all E.nk)=true):
 ∃ L',jA w0 B (σ.qK (.new id (.cells T l))) a (w.alloc (.cells v.cells T)) L'/\nI (jB B L') (ko L') L' (w.alloc (.cells v.cells T)) (.box id 0) (.pointer (some ⟨w.heap.size,0,none⟩)):=by
 have hb:Below w.heap.size w (w.alloc (.cells v.cells T)):=(Below.refl _ _).alloc (aU _) _;have SH:∀ x,¬L.own id x:=fun x hx=>by have:=(r.hv id).1 (r.hn id x hx);rw[mr]at this;simp at this
 have ht:rq L w id (fun x=>x=w.heap.size) (w.alloc (.cells v.cells T)):=⟨fun x hx=>⟨.inr ae,av⟩,hb.size,fun x hx _=>hb.block x hx,rfl,rfl,rfl⟩
 have hl:=ht.later (.pointer (some ⟨w.heap.size,0,none⟩)) (fun _=>undef);refine⟨_,r.new id (.cells T l) (fun x=>x=w.heap.size) (.pointer (some ⟨w.heap.size,0,none⟩)) (fun _=>undef) _ mr (fun x hx=>by subst hx;simp) hb
  ⟨w.heap.size,v.cells.toList,Lk.pe,fun x=>Lk.sf x,by rw[Array.toArray_toList];exact heap_alloc_new w _,hv.mono fun _ _=>hl.lg,h1⟩ kg,Lk.AE,w.heap.size,Lk.pe,rfl⟩
theorem BD{d:Option Tmp}{b:Bx}{rr:Nat->PV}{jV:List Prop}(h:wi σ d b rr jV=some u):∃ id,d=some id/\σ.bo id=none/\(!σ.nl||b.nl)=true/\u={ r:=rr id,f:=.new id b,jV:=jV }:=by
 unfold wi at h;split at h
 .rename_i id
  split at h
  .rename_i mr
   split at h
   .rename_i hc
    cases h;exact⟨id,rfl,mr,hc,rfl⟩
   .cases h
  .cases h
 .cases h
end
open Go.RowKit
theorem Gf{k:IntKind}{z:Int}(h:ku k z):k.wrap z=z:=by
 cases k<;>simp only[ku]at h<;>simp only[IntKind.wrap,IntKind.bits,IntKind.signed]<;>simp<;>(try split)<;>omega
theorem ajB{k:IntKind}{x y:Int}(h:ku k x)(hy:0<y):ku k (x.tdiv y):=by
 by_cases h0:0<=x
 .have h1:0<=x/y:=Int.ediv_nonneg h0 ae 
  have h2:x/y<=x:=Int.ediv_le_self y h0;rw[am3 h0];cases k<;>simp only[ku]at h ⊢ <;> omega
 .obtain ⟨z,rfl⟩:∃ z,x = -z:=⟨-x,ae⟩
  have h0:0<=z:= ae ;have h1:0<=z/y:=Int.ediv_nonneg h0 ae;have h2:z/y<=z:=Int.ediv_le_self y h0;rw[Int.neg_tdiv,am3 h0];cases k<;>simp only[ku]at h ⊢ <;> omega
theorem acf{P:Program}{op:BinOp}{k k':IntKind}{x y:Int}{v:Value}{jV:List Prop}(h:K2 op k x y=some (v,jV))(ho:∀ q,q ∈ jV->q)
 (hk:W0 op k k'=true) (t:TypeId) (w:World):(binOp op t (.int k x) (.int k' y)).run P w = .ok v w:=by
 cases op<;>simp only[K2,bG,b6,reduceCtorEq]at h<;>(obtain⟨rfl,rfl⟩:=h)<;>(try (have SW:=ct hk;subst SW))
 case add=>
  rw[binOp_add];by_cases Hs:k = .u32
  .subst Hs;simp[Op.intArith,Kb]
  .have e:Kb k x y=x+y:=by cases k<;>first|rfl|exact absurd rfl Hs
   have e2:Pf k x y=[ku k (x+y)]:=by cases k<;>first|rfl|exact absurd rfl Hs
   rw[e];simp[Op.intArith,Gf (ho (ku k (x+y)) (by rw[e2];simp))]
 case sub=>rw[binOp_sub];simp[Op.intArith,Gf (ho (ku k (x-y)) aj)]
 case mul=>rw[binOp_mul];simp[Op.intArith,Gf (ho (ku k (x*y)) aj)]
 case quo=>
  have h1:=ho (0<y) aj;have h2:=ho (ku k x) aj;rw[binOp_quo];have hy:¬y=0:= ae ;simp[Op.intDiv,hy,Gf (ajB h2 h1)]
 case rem=>
  have h1:=ho (0<y) aj;rw[binOp_rem];have hy:¬y=0:= ae ;simp[Op.intDiv,hy]
 case and=>rw[binOp_and,intBits_and];rfl
 case or=>rw[binOp_or,intBits_or];rfl
 case shl=>
  have h1:=ho (0<=y/\y<=k.bits) aj;rw[binOp_shl,shift_shl k k' x y h1.1 h1.2];rfl
 case shr=>
  have h1:=ho (0<=y/\y<=k.bits) aj;rw[binOp_shr,shift_shr k k' x y h1.1 h1.2];rfl
 case eql=>rw[binOp_eql];rfl
 case neq=>rw[binOp_neq];rfl
 case lss=>rw[binOp_lss];rfl
 case leq=>rw[binOp_leq];rfl
 case gtr=>rw[binOp_gtr];rfl
 case geq=>rw[binOp_geq];rfl
section
variable {P:Program} {K:World->Prop} {T:List TI} {O:qq} {w0:World} {B:Nat->Prop} {σ:PS} {o:Oper} {a:Act} {w:World} {L:Lk} {u:kK}
theorem adP{x:Operand}(iE:o.op = .move x)(r:jA w0 B σ a w L)(h:jL P K T O σ o=some u):kq P K w0 B σ o a w u:=by
 simp only[jL,iE]at h;cases h;exact kq.pure r (by simp only[execOp,iE];rfl) rfl (r.op x)
theorem adx{x:Operand}(iE:o.op = .assign x)(r:jA w0 B σ a w L)(h:jL P K T O σ o=some u):kq P K w0 B σ o a w u:=by
 simp only[jL,iE]at h;cases h;exact kq.pure r (by simp only[execOp,iE];rfl) rfl (r.op x)
theorem adR{c x y:Operand}(iE:o.op = .pick c x y)(r:jA w0 B σ a w L)(h:jL P K T O σ o=some u):kq P K w0 B σ o a w u:=by
 simp only[jL,iE]at h;have hc:=r.op c;split at h
 .rename_i hv
  rw[hv]at hc;have hc:=iG.kJ hc;cases h;exact kq.pure r (by simp[execOp,iE,hc,asBool]) rfl (r.op x)
 .rename_i hv
  rw[hv]at hc;have hc:=iG.kJ hc;cases h;exact kq.pure r (by simp[execOp,iE,hc,asBool]) rfl (r.op y)
 .cases h
theorem adQ{x:Operand}(iE:o.op = .nilCheck x)(r:jA w0 B σ a w L)(h:jL P K T O σ o=some u):kq P K w0 B σ o a w u:=by
 simp only[jL,iE]at h;have hc:=r.op x;split at h
 .rename_i hv
  rw[hv]at hc;cases h;obtain⟨k1,b,k2,k3⟩:=hc;exact kq.pure r (v:=a.eval x) (by simp[execOp,iE,k3]) rfl ⟨k1,b,k2,k3⟩
 .rename_i hv
  rw[hv]at hc;cases h;generalize hq:a.eval x=q at hc;refine kq.pure r (v:=q) ?_ rfl hc;cases hc;simp only[execOp,iE,hq];rfl
 .rename_i hv
  rw[hv]at hc;cases h;refine kq.pure r (v:=a.eval x) ?_ rfl hc;obtain⟨vs,e,_⟩:=iG.RM hc;simp only[execOp,iE,e];rfl
 .rename_i hv
  rw[hv]at hc;cases h;refine kq.pure r (v:=a.eval x) ?_ rfl hc;obtain⟨vs,e,_⟩:=hc;simp only[execOp,iE,e];rfl
 .cases h
theorem ady(hT:mB P T){op:BinOp}{t yt:TypeId}{x y:Operand}(iE:o.op = .binOp op t x y yt)(r:jA w0 B σ a w L)(h:jL P K T O σ o=some u)(ho:∀ q,q ∈ u.jV->q):kq P K w0 B σ o a w u:=by
 simp only[jL,iE]at h;have hx:=r.op x;have hy:=r.op y;split at h
 .rename_i k z k' z' tW Bq
  rw[tW]at hx;rw[Bq]at hy;have hx:=iG.kJ hx;have hy:=iG.kJ hy;split at h
  .rename_i hk
   obtain⟨rr,hr,rfl⟩:=cG.1 h;have lH:=acf (P:=P) (k':=k') hr ho hk t w;refine kq.pure r (v:=rr.1) ?_ rfl (.v _);simp only[execOp,iE,hx,hy,Sem.run_bind,eqGuard_at_int,Sem.run_pure,Result.andThen_ok,lH]
  .cases h
 .rename_i z z' tW Bq
  rw[tW]at hx;rw[Bq]at hy;have hx:=iG.kJ hx;have hy:=iG.kJ hy;split at h
  .rename_i hd
   obtain⟨ti,h1,h2⟩:=Cn hd;have hu:P.underlying t=some .bool:=by rw[hT.rP h1,h2]
   split at h
   .cases h
    refine kq.pure r (v:=.bool (z==z')) ?_ rfl (.v _);simp only[execOp,iE,hx,hy,Sem.run_bind,eqGuard_at_bool,Sem.run_pure,Result.andThen_ok,run_eql_bool w t z z' hu]
   .cases h
    refine kq.pure r (v:=.bool (!(z==z'))) ?_ rfl (.v _);simp only[execOp,iE,hx,hy,Sem.run_bind,eqGuard_at_bool,Sem.run_pure,Result.andThen_ok];have:(binOp .neq t (.bool z) (.bool z')).run P w = .ok (.bool (!(z==z'))) w:=by
     simp only[binOp,Sem.run_bind,run_equal_bool w t z z' hu,Result.andThen_ok,Sem.run_pure]
    rw[this];rfl
   .cases h
  .cases h
 .rename_i nl n sz el tW Bq
  rw[tW]at hx;rw[Bq]at hy;have hy:=iG.kJ hy;have hx:iG (jB B L) (ko L) w (.sl nl n sz el) (a.eval x):=hx;split at h
  .rename_i e hd
   obtain⟨ti,h1,h2⟩:=Cn hd;have hu:P.underlying t=some (.slice e):=by rw[hT.rP h1,h2]
   have key:∀ A c,0<n->a.eval x = .slice A n c->iG (jB B L) (ko L) w (.sl nl n sz el) (.slice A n c)->A.isNone=false:=by
    intro A c hn e1 hr;cases A with
    |some ad=>rfl
    |none=>
     cases hr with
     |sl _ _ _ _ _ _ f hc hm h0=>have:=h0 rfl;omega
   generalize hv:a.eval x=vx at hx;cases hx with
   |sl _ _ _ _ A c f hc hm h0 hl hr cell k=>
    have wa:iG (jB B L) (ko L) w (.sl nl n sz el) (.slice A n c):=.sl nl n sz el A c f hc hm h0 hl hr cell k;split at h
    .cases h
     have hn:0<n:=ho _ aj;refine kq.pure r (v:=.bool false) ?_ rfl (.v _);simp only[execOp,iE,hv,hy,Sem.run_bind,eqGuard_at_slice,Sem.run_pure,Result.andThen_ok,Lib.run_eql_slice_nil w t e A n c 0 0 hu,key A c hn hv wa]
    .cases h
     have hn:0<n:=ho _ aj;refine kq.pure r (v:=.bool true) ?_ rfl (.v _);simp only[execOp,iE,hv,hy,Sem.run_bind,eqGuard_at_slice,Sem.run_pure,Result.andThen_ok,run_neq_slice_nil_any w t e A n c 0 0 hu,key A c hn hv wa,dU]
    .cases h
  .cases h
 .rename_i xe ye tW Bq
  rw[tW]at hx;rw[Bq]at hy;split at h
  .rename_i v hv
   cases h;obtain⟨h1,h2⟩:=ho _ (List.mem_singleton.2 rfl) _ _ w _ _ x y hx hy;refine kq.pure r (v:=v) ?_ rfl (.v _);simp only[execOp,iE,Sem.run_bind,h1,Result.andThen_ok,h2,Sem.run_pure]
  .cases h
 .cases h
theorem adU{op:UnOp}{t:TypeId}{x:Operand}(iE:o.op = .unOp op t x)(r:jA w0 B σ a w L)(h:jL P K T O σ o=some u)(ho:∀ q,q ∈ u.jV->q):kq P K w0 B σ o a w u:=by
 simp only[jL,iE]at h;have hx:=r.op x;split at h
 .rename_i z hv
  rw[hv]at hx;have hx:=iG.kJ hx;cases h;exact kq.pure r (v:=.bool (!z)) (by simp[execOp,iE,hx,Op.unary]) rfl (.v _)
 .rename_i k z hv
  rw[hv]at hx;have hx:=iG.kJ hx;cases h;have:=Gf (ho (ku k (0-z)) aj);refine kq.pure r (v:=.int k (0-z)) ?_ rfl (.v _);simp only[execOp,iE,hx,Op.unary,Op.intArith,this];rfl
 .cases h
theorem adC(hT:mB P T){src dst:TypeId}{x:Operand}(iE:o.op = .convert src dst x)(r:jA w0 B σ a w L)(h:jL P K T O σ o=some u):kq P K w0 B σ o a w u:=by
 simp only[jL,iE]at h;have hx:=r.op x;split at h
 .rename_i k ts k' z hd hs hv
  rw[hv]at hx;have hx:=iG.kJ hx;obtain⟨td,h1,h2⟩:=Cn hd;have hu:P.underlying dst=some (.int k):=by rw[hT.rP h1,h2]
  have hk:P.intKind dst=k:=by simp[Program.intKind,hu]
  have lH:=run_convert_int (P:=P) w src dst k' z (by rw[hT.rP hs];rfl) (by rw[hk];exact hu);rw[hk]at lH;cases h;exact kq.pure r (v:=.int k (k.wrap z)) (by simp only[execOp,iE,hx,Sem.run_bind,lH];rfl) rfl (.v _)
 .cases h
theorem adD{x:Operand}{i:Nat}(iE:o.op = .extract x i)(r:jA w0 B σ a w L)(h:jL P K T O σ o=some u):kq P K w0 B σ o a w u:=by
 simp only[jL,iE]at h;have hx:=r.op x;split at h
 .rename_i l hv
  rw[hv]at hx;obtain⟨vs,e,hr⟩:=iG.X5 hx;split at h
  .rename_i y hy
   cases h;have iD:i<vs.length:=by rw[hr.len];exact(bV.1 hy).1
   have CX:=bd iD;refine kq.pure r (v:=vs[i]) ?_ rfl (hr.lg i y _ hy CX);simp only[execOp,iE,e,Instr.extract,fW,CX];rfl
  .cases h
 .cases h
theorem adE(hT:mB P T){t:TypeId}{x:Operand}{f:Nat}(iE:o.op = .field t x f)(r:jA w0 B σ a w L)(h:jL P K T O σ o=some u):kq P K w0 B σ o a w u:=by
 simp only[jL,iE]at h;have hx:=r.op x;split at h
 .rename_i l fs hv hd
  obtain⟨ti,h1,h2⟩:=Cn hd;have hu:P.underlying t=some (.struct fs):=by rw[hT.rP h1,h2]
  rw[hv]at hx;obtain⟨vs,e,hr⟩:=iG.Ca hx;split at h
  .rename_i fd LY
   split at h
   .rename_i ft L3
    split at h
    .cases h
    .rename_i hag
     split at h
     .rename_i y hy
      cases h;have iD:fd.offset<vs.length:=by rw[hr.len];exact(bV.1 hy).1
      have CX:=bd iD;refine kq.pure r (v:=vs[fd.offset]) ?_ rfl (hr.lg fd.offset y _ hy CX);simp only[execOp,iE,e,Instr.field,asAgg,Sem.run_bind,Sem.run_pure,Result.andThen_ok,run_underlying hu,LY,part,Jw hT w L3,hag,fW,CX];rfl
     .cases h
   .cases h
  .cases h
 .cases h
theorem aaT{ps:List PV}{l:List CV}{vs:List Value}(h:xO ps=some l)(hlen:vs.length=ps.length)(hr:∀ (i:Nat) (p:PV) (x:Value),ps[i]? = some p->vs[i]? = some x->nI (jB B L) (ko L) L w p x):
 vs.length=l.length/\∀ (i:Nat) (c:CV) (x:Value),l[i]? = some c->vs[i]? = some x->xE (jB B L) (ko L) L w c x:=by
 induction ps generalizing l vs with
 |nil=>cases h;exact⟨hlen,fun i c x hc=>by simp at hc⟩
 |cons p ps ih=>
  cases vs with
  |nil=>simp at hlen
  |cons y vs=>
   have step:∀ (c0:CV) (l':List CV),xO ps=some l'->xE (jB B L) (ko L) L w c0 y->l=c0::l' ->
    (y::vs).length=l.length/\∀ (i:Nat) (c:CV) (x:Value),l[i]? = some c->(y::vs)[i]? = some x->xE (jB B L) (ko L) L w c x:=by
    intro c0 l' pF oD hl;obtain⟨i1,i2⟩:=ih pF (by simpa using hlen) (fun i p x hp hx=>hr (i+1) p x (by simpa using hp) (by simpa using hx));subst hl;refine⟨by simp[i1],fun i c x hc hx=>?_⟩;cases i with
    |zero=>simp at hc hx;subst hc hx;exact oD
    |succ i=>simp at hc hx;exact i2 i c x hc hx
   have h0:=hr 0 p y rfl rfl;cases p with
   |e x=>
    simp only[xO]at h;obtain⟨l',pF,rfl⟩:=cG.1 h;exact step (.e x) l' pF h0 rfl
   |box id off=>
    cases off with
    |zero=>
     simp only[xO]at h;obtain⟨l',pF,rfl⟩:=cG.1 h;exact step (.box id) l' pF h0 rfl
    |succ=>simp[xO]at h
   |_=>simp[xO]at h
theorem adK{fn:Fn}{first cap:Array Operand}(iE:o.op = .makeFunc fn first cap)(r:jA w0 B σ a w L)(h:jL P K T O σ o=some u):kq P K w0 B σ o a w u:=by
 cases fn with
 |func f=>
  simp only[jL,iE]at h;split at h
  .rename_i aep
   have hf:first = #[]:=by simpa using aep
   subst hf;split at h
   .rename_i l hl
    cases h;have hc:=aaT (B:=B) (L:=L) (w:=w) (vs:=cap.toList.map a.eval) hl aj (fun i p x hp hx=>by
     rw[cj]at hp hx;obtain⟨q,hq,rfl⟩:=cG.1 hp;rw[hq]at hx;simp at hx;subst hx;exact r.op q)
    refine kq.pure r (v:=.func (.func f) #[] (cap.toList.map a.eval).toArray) ?_ rfl ⟨cap.toList.map a.eval,rfl,hc.1,hc.2⟩;have e1:cap.map a.eval=(cap.toList.map a.eval).toArray:=by apply dg;simp
    have e2:(#[]:Array Operand).map a.eval = #[]:= aj ;simp only[execOp,iE,Instr.makeFunc,e1,e2,Sem.run_bind,Sem.run_pure,Result.andThen_ok]
   .cases h
  .cases h
 |_=>simp[jL,iE]at h
theorem adG(hT:mB P T){t:TypeId}{x i:Operand}(iE:o.op = .index t x i)(r:jA w0 B σ a w L)(h:jL P K T O σ o=some u)(ho:∀ q,q ∈ u.jV->q):kq P K w0 B σ o a w u:=by
 simp only[jL,iE]at h;have hx:=r.op x;have hi:=r.op i;split at h
 .rename_i l k z hv hw
  rw[hv]at hx;rw[hw]at hi;have ei:=iG.kJ hi;obtain⟨vs,e,hr⟩:=iG.Ca hx;split at h
  .rename_i tt re
   split at h
   .rename_i n e' hd
    have hu:P.underlying t=some (.array n e'):=by rw[hT.rP re,hd]
    split at h
    .rename_i te pJ
     split at h
     .rename_i hc
      simp only[bB,mN]at hc;cases h;obtain⟨yy,s9⟩:=ho (0<=z/\z<n) aj;refine kq.pure r (v:=.agg ((vs.drop (z.toNat*te.i.size)).take te.i.size).toArray) ?_ rfl ((hr.drop _).take _).agg;simp only[execOp,iE,e,ei,Instr.index,asIntOf,Sem.run_bind,Sem.run_pure,Result.andThen_ok,run_underlying hu,yy,s9,and_self,bk,wB hT w pJ,part,Jw hT w pJ,hc.1];simp
     .cases h
    .cases h
   .cases h
  .cases h
 .cases h
theorem adF(hT:mB P T){t:TypeId}{x:Operand}{f:Nat}(iE:o.op = .fieldAddr t x f)(r:jA w0 B σ a w L)(h:jL P K T O σ o=some u):kq P K w0 B σ o a w u:=by
 simp only[jL,iE]at h;have hx:=r.op x;split at h
 .rename_i fs hd
  obtain⟨ti,h1,h2⟩:=Cn hd;have hu:P.underlying t=some (.struct fs):=by rw[hT.rP h1,h2]
  split at h
  .rename_i fd LY
   split at h
   .rename_i ft L3
    split at h
    .cases h
    .rename_i ks
     have aex:¬ft.i.size=0:=fun e=>ks (mN.2 e)
     have lH:∀ b off,a.eval x = .pointer (some ⟨b,off,none⟩)->(execOp a.eval o).run P w = .ok (.value (.pointer (some ⟨b,off+fd.offset,none⟩))) w:=by
      intro b off e;simp only[execOp,iE,e,Instr.fieldAt,Instr.sureAddr,fieldPlace,Sem.run_bind,run_underlying hu,Result.andThen_ok,LY,Sem.run_pure,wB hT w L3,aex,a6,Addr.add_lit]
     split at h
     .rename_i id off hv
      rw[hv]at hx;obtain⟨k1,b,k2,k3⟩:=hx;cases h;exact kq.pure r (lH b off k3) rfl ⟨k1,b,k2,rfl⟩
     .rename_i id sz i j hv
      rw[hv]at hx;obtain⟨k1,b,n,c,k2,k3⟩:=hx;cases h;exact kq.pure r (lH b _ k3) rfl ⟨k1,b,n,c,k2,by rw[cE]⟩
     .rename_i m el hv
      rw[hv]at hx;split at h
      .rename_i hle
       have CK:=cI hle;cases h;generalize hq:a.eval x=q at hx;cases hx with
       |kv _ _ b off g hb iD hl cell kk=>
        refine kq.pure r (lH b off hq) rfl (.kv _ _ b _ (fun j=>g (fd.offset+j)) hb iD (fun j hj=>hl _ ae) (fun j hj=>?_) (fun j hj=>kk _ ae));have:=cell (fd.offset+j) ae;rwa[<-cE]at this
      .cases h
     .cases h
   .cases h
  .cases h
 .cases h
end
open Go.RowKit
section
variable {P:Program} {K:World->Prop} {T:List TI} {O:qq} {w0:World} {B:Nat->Prop} {σ:PS} {o:Oper} {a:Act} {w:World} {L:Lk} {u:kK}
theorem agm(hT:mB P T){t:TypeId}{x:Operand}{ti:TI}(qL:mQ T t=some ti)(iE:o.op = .load t x)(r:jA w0 B σ a w L)(h:E3 ti (σ.read (σ.op x) ti.i.size)=some u)(ho:∀ q,q ∈ u.jV->q):kq P K w0 B σ o a w u:=by
 cases hr:σ.read (σ.op x) ti.i.size with
 |none=>rw[hr]at h;cases h
 |some y=>
  obtain⟨l,is,jV⟩:=y;rw[hr]at h;simp only[E3]at h;by_cases ha:ti.isAgg=true
  .rw [aR ha]at h
   cases h;obtain⟨b,q,vs,e,h1,h2,h3⟩:=r.read (r.op x) hr ho;refine kq.pure r (v:=.agg vs.toArray) ?_ rfl h1.agg;simp only[execOp,iE,e,Instr.loadAt,Instr.sureAddr,Sem.run_bind,Sem.run_pure,Result.andThen_ok,WW hT w qL ha b q vs h2 h3]
  .rw [aQ ha]at h
   have CD:ti.isAgg=false:=by simpa using ha
   split at h
   .rename_i p
    cases h;obtain⟨b,q,vs,e,h1,h2,h3⟩:=r.read (r.op x) hr ho;obtain⟨y,ys,rfl,hy,CZ⟩:=h1.lX;refine kq.pure r (v:=y) ?_ rfl hy;have hc:=h3 0 y rfl;simp only[execOp,iE,e,Instr.loadAt,Instr.sureAddr,Sem.run_bind,Sem.run_pure,Result.andThen_ok,Ob hT w qL CD b q y (by simpa using hc)]
   .cases h
theorem adJ(hT:mB P T){t:TypeId}{x:Operand}(iE:o.op = .load t x)(r:jA w0 B σ a w L)(h:jL P K T O σ o=some u)(ho:∀ q,q ∈ u.jV->q):kq P K w0 B σ o a w u:=by
 simp only[jL,iE,He]at h;split at h
 .rename_i ti qL
  split at h
  .rename_i id i n pI
   by_cases ha:ti.isAgg=true
   .rw [aR ha]at h;cases h
   .rw [aQ ha]at h
    have CD:ti.isAgg=false:=by simpa using ha
    cases h;have hx:=r.op x;cases hp:σ.op x with
    |pZ id' sz i' j=>
     rw[hp]at pI hx;simp only[BU]at pI;split at pI
     .rename_i nl T1 T0 n' sz' len el ke
      split at pI
      .rename_i hc
       simp only[bG,b6]at pI;obtain⟨rfl,rfl,rfl⟩:=pI;simp only[bB]at hc;have e1:=mN.1 hc.1;have e2:=mN.1 hc.2;subst e1 e2;have hi:i'<n':=ho _ aj;obtain⟨b,c,cur,f,h1,h2,h3,h4,h5,h6,h7,h8,h9,vN,wQ⟩:=r.hb id' _ ke;obtain⟨k1,b',n2,c2,k2,k3⟩:=hx;rw[h1]at k2;cases k2;refine kq.pure r (v:=L.jt id' i') ?_ rfl ⟨k1,rfl⟩;have lq:w.cell? ⟨b,i'*1+0,none⟩=some (L.jt id' i'):=by
        simp only[World.cell?,h2];simpa using h6 i' hi aj 
       simp only[execOp,iE,k3,Instr.loadAt,Instr.sureAddr,Sem.run_bind,Sem.run_pure,Result.andThen_ok,Ob hT w qL CD b _ _ lq]
      .cases pI
     .cases pI
    |_=>rw[hp]at pI;cases pI
  .exact agm hT qL iE r h ho
 .cases h
theorem VA{bs br:Nat->Prop}{l m:List E}{vs us:List Value}(h:kr bs br w l vs)(k:kr bs br w m us)(off:Nat):kr bs br w (As l off m) (vs.take off++us++vs.drop (off+us.length)):=by
 unfold As;rw[k.len];exact((h.take off).app k).app (h.drop _)
theorem ahN{q:E->Bool}{l m:List E}(h:l.all q=true)(k:m.all q=true)(off:Nat):(As l off m).all q=true:=by
 unfold As;rw[List.all_append,List.all_append,k];have h1:(l.take off).all q=true:=bF.2 fun x hx=>bF.1 h x (ef hx)
 have h2:(l.drop (off+m.length)).all q=true:=bF.2 fun x hx=>bF.1 h x (eA hx)
 rw[h1,h2];rfl
theorem adT(hT:mB P T){t:TypeId}{x y:Operand}(iE:o.op = .store t x y)(r:jA w0 B σ a w L)(h:jL P K T O σ o=some u)(ho:∀ q,q ∈ u.jV->q):kq P K w0 B σ o a w u:=by
 simp only[jL,iE,Hh]at h;have hx:=r.op x;have hy:=r.op y;split at h
 .rename_i ti qL
  split at h
  .
   rename_i id off e rE ED;rw[rE]at hx;rw[ED]at hy;split at h
   .rename_i T1 l m ke hm
    split at h
    .rename_i hc
     cases h;simp only[bB]at hc;have c1:=mN.1 hc.1.1;have c2:=cI hc.1.2;obtain⟨b,vs,h1,h2,h3,h4,h5⟩:=r.hb id _ ke;obtain⟨k1,b',k2,k3⟩:=hx;rw[h1]at k2;cases k2;obtain⟨q1,q2⟩:=hy.cells hm;have ht:=rq.setRow (L:=L) ((h2 b).2 rfl) (fun x hx=>(r.hw id x hx).2) (vs.take off++(a.eval y).cells.toList++vs.drop (off+(a.eval y).cells.toList.length)).toArray;have hl:=ht.later (L.val id) (L.jt id);refine⟨undef,_,_,.inr ⟨?_,rfl⟩,r.ur id (.cells T1 (As l off m)) _ k1 ht ⟨b,_,by rw[Lk.pe];exact h1,fun x=>(Lk.sf x).trans (h2 x),setRow_heap w b _ _ T1 _ h3,(VA h4 q1 off).mono fun _ _=>hl.lg,?_⟩ ?_,.any _⟩
     .have hr:=Od hT w qL b off T1 vs.toArray h3 (a.eval y) (by rw[q1.len,c1]) (by rw[q1.len,fC,h4.len];exact c2) q2
      simp only[execOp,iE,k3,Instr.storeAt,Instr.sureAddr,Sem.run_bind,Sem.run_pure,Result.andThen_ok,hr]
     .intro v hv
      simp only[dD]at hv;rcases hv with(hv|hv)|hv
      .exact h5 v (ef hv)
      .exact q2 v hv
      .exact h5 v (eA hv)
     .intro hn
      have:=hc.2;rw[hn]at this;exact ahN (r.hl hn id _ ke) (by simpa using this) off
    .cases h
   .cases h
  .
   rename_i id sz i j e rE ED;rw[rE]at hx;rw[ED]at hy;split at h
   .rename_i nl T1 n s el m ke hm
    split at h
    .rename_i hc
     cases h;simp only[bB]at hc;have c1:=mN.1 hc.1.1.1.1;have c2:=mN.1 hc.1.1.1.2;have c3:=cI hc.1.1.2;subst c2;have hi:i<n:=ho _ aj;obtain⟨f,h1,h2,h3⟩:=r.hb id _ ke;obtain⟨k1,b',n',c',k2,k3⟩:=hx;rcases h1 with⟨h1,_⟩|⟨b,c,cur,h1,hg,pQ,nU,nK,lq,kg⟩
     .rw [k2]at h1;cases h1
     .rw [k2]at h1
      cases h1;obtain⟨q1,q2⟩:=hy.cells hm;have ot:L.own id b':=(h2 b').2 (by rw[k2];rfl);have amv:i*s+s<=cur.size:=by
       rw[nK];have:=bC s (show i+1<=c' by omega);rwa[bK,bJ]at this
      have od:i*s+j+(a.eval y).cells.toList.length<=cur.size:=by rw[q1.len];omega
      have ht:=rq.setRow (L:=L) ot (fun x hx=>(r.hw id x hx).2) (cur.toList.take (i*s+j)++(a.eval y).cells.toList++cur.toList.drop (i*s+j+(a.eval y).cells.toList.length)).toArray;have hl:=ht.later (L.val id) (L.jt id);refine⟨undef,_,_,.inr ⟨?_,rfl⟩,r.ur id _ _ k1 ht ⟨fun i' j'=>if i'=i/\j<=j'/\j'<j+m.length then(a.eval y).cells.toList.getD (j'-j) undef else f i' j',?_,fun x=>?_,?_⟩ ?_,.any _⟩
      .have hr:=Od hT w qL b' (i*s+j) T1 cur hg (a.eval y) (by rw[q1.len,c1]) od q2
       simp only[execOp,iE,k3,Instr.storeAt,Instr.sureAddr,Sem.run_bind,Sem.run_pure,Result.andThen_ok,hr]
      .rw [Lk.pe]
       refine .inr ⟨b',c',_,k2,setRow_heap w b' _ _ T1 _ hg,pQ,nU,?_,?_,?_⟩
       .simp only[fC,cg,bZ,eo,dx]
        have aeq:=od;simp only[dx]at aeq;rw[cR ae];omega
       .intro i' j' oL rW
        obtain⟨o1,o2⟩:=lq i' j' oL rW;have hlen:i'*s+j'<cur.size:=by
         rw[nK];have:=bC s (show i'+1<=c' by omega);rw[bK,bJ]at this;omega
        have qb:i'≠i->i'*s+j'<i*s\/i*s+s<=i'*s+j':=by
         intro ks;rcases Nat.lt_or_gt_of_ne ks with iD|iD
         .left
          have:=bC s (show i'+1<=i from iD);rw[bK,bJ]at this;omega
         .right
          have:=bC s (show i+1<=i' from iD);rw[bK,bJ]at this;omega
        simp only[fW];rw[List.append_assoc,fB,bZ,dx,cR ae];by_cases lV:i'=i/\j<=j'/\j'<j+m.length
        .obtain ⟨rfl,p1,p2⟩:=lV
         rw[aQ ae,en (by rw[q1.len];omega)];have e1:i'*s+j'-(i'*s+j)=j'-j:= ae ;have iD:j'-j<(a.eval y).cells.toList.length:=by rw[q1.len];omega
         rw[aR ⟨rfl,p1,p2⟩,e1,aW,bd iD];exact⟨rfl,q2 _ (cw iD)⟩
        .rw [aQ lV]
         refine⟨?_,o2⟩;by_cases iZ:i'*s+j'<i*s+j
         .rw [aR iZ,dQ,aR iZ]
          simpa using o1
         .rw [aQ iZ,eV,ek]
          .have:i*s+j+(a.eval y).cells.toList.length+(i'*s+j'-(i*s+j)-(a.eval y).cells.toList.length)=i'*s+j':=by
            rw[q1.len];by_cases Et:i'=i
            .subst Et;omega
            .have:=qb Et;omega
           rw[this];simpa using o1
          .rw [q1.len]
           by_cases Et:i'=i
           .subst Et;omega
           .have:=qb Et;omega
       .intro hn v hv
        simp only[fX,dD]at hv;rcases hv with(hv|hv)|hv
        .exact kg hn v (by have:=ef hv;simpa using this)
        .obtain ⟨q,hq⟩:=df.1 hv
         have uY:q<m.length:=by rw[<-q1.len];exact(bV.1 hq).1
         have hmn:m.all E.nk=true:=by have:=hc.1.2;rw[hn]at this;simpa using this
         exact(q1.lg q _ v (bd uY) hq).nk (bF.1 hmn _ (cw uY))
        .exact kg hn v (by have:=eA hv;simpa using this)
      .rw [Lk.pe]
       exact(Lk.sf x).trans (h2 x)
      .intro i' j' oL rW
       refine(fun(q:iG _ _ _ _ _/\_)=>⟨hl.lg q.1,q.2⟩) (?_:_/\_);dsimp only;by_cases lV:i'=i/\j<=j'/\j'<j+m.length
       .rw [aR lV,aR lV]
        have Ip:j'-j<m.length:= ae ;have EL:j'-j<(a.eval y).cells.toList.length:=by rw[q1.len];omega
        rw[aW,bd Ip,aW,bd EL];exact⟨q1.lg _ _ _ (bd Ip) (bd EL),bF.1 hc.2 _ (cw Ip)⟩
       .rw [aQ lV,aQ lV]
        exact h3 i' j' oL rW
      .intro hn
       have:=r.hl hn id _ ke;exact this
    .cases h
   .cases h
  .
   rename_i id i id' k rE ED;rw[rE]at hx;rw[ED]at hy;split at h
   .rename_i nl T1 T0 n sz len el k' ke
    split at h
    .rename_i hc
     cases h;simp only[bB]at hc;have c1:=mN.1 hc.1;have c2:=mN.1 hc.2;subst c1;have e1:i=k':=ho _ aj;have e2:k=k':=ho _ aj;have hk:k'<n:=ho _ aj;subst e1 e2;obtain⟨b,c,cur,f,h1,h2,h3,h4,h5,h6,h7,h8,h9,vN,wQ⟩:=r.hb id _ ke;obtain⟨k1,b',n',c',k2,k3⟩:=hx;obtain⟨_,IG⟩:=hy;rw[h1]at k2;cases k2;have yj:(L.jt id k).oneCell'=true/\r6 (L.jt id k)=false/\(L.jt id k).cells = #[L.jt id k]:=by
      rcases(h8 k hk).1 with⟨e,_⟩|⟨_,_,_,e,_⟩<;>rw[e]<;>exact⟨rfl,rfl,rfl⟩
     have ot:L.own id b:=(h9 b).2 (.inl rfl);have ht:=rq.setRow (L:=L) ot (fun x hx=>(r.hw id x hx).2) (cur.toList.take (k*1+0)++(a.eval y).cells.toList++cur.toList.drop (k*1+0+(a.eval y).cells.toList.length)).toArray;have hl:=ht.later (L.val id) (L.jt id);have wX:(a.eval y).cells.toList=[L.jt id k]:=by rw[IG,yj.2.2]
     have SD:(cur.toList.take (k*1+0)++(a.eval y).cells.toList++cur.toList.drop (k*1+0+(a.eval y).cells.toList.length)).toArray=cur.setIfInBounds k (L.jt id k):=by
      rw[wX];apply dg;simp only[bO,bt,fR,am4];rw[List.set_eq_take_append_cons_drop,aR (by simpa using(ae:k<cur.size))];simp
     rw[SD]at ht hl;have Ij:∀ x,x≠b->(w.setRow b (cur.setIfInBounds k (L.jt id k))).heap[x]? = w.heap[x]?:=fun x hx=>setRow_other w b x _ hx
     refine⟨undef,_,_,.inr ⟨?_,rfl⟩,r.ur id _ _ k1 ht ⟨b,c,cur.setIfInBounds k (L.jt id k),f,by rw[Lk.pe];exact h1,setRow_heap w b _ _ T1 _ h2,h3,h4,by simpa using h5,?_,?_,?_,?_,?_,?_⟩ ?_,.any _⟩
     .have hr:=Od hT w qL b (k*1+0) T1 cur h2 (a.eval y) (by rw[wX];simpa using c2.symm) (by rw[wX];simp;omega) (by rw[wX];simpa using yj.1)
      rw[SD]at hr;simp only[execOp,iE,k3,Instr.storeAt,Instr.sureAddr,Sem.run_bind,Sem.run_pure,Result.andThen_ok,hr]
     .intro q hq _
      rw[Lk.ri];by_cases s7:q=k
      .subst s7
       have:q<cur.size:= ae ;simp[this]
      .rw [am1 (fun e=>s7 e.symm)]
       exact h6 q hq (by simpa using fun e=>s7 e.symm)
     .intro v hv
      rcases Array.mem_or_eq_of_mem_setIfInBounds hv with hv|hv
      .exact h7 v hv
      .subst hv;exact⟨yj.1,yj.2.1⟩
     .intro q hq
      obtain⟨p1,p2⟩:=h8 q hq;rw[Lk.ri];exact⟨p1.block fun x hx=>Ij x fun e=>wQ q hq (e▸hx),fun i j hi hj=>⟨hl.lg (p2 i j hi hj).1,(p2 i j hi hj).2⟩⟩
     .intro x
      rw[Lk.sf];refine(h9 x).trans ?_;simp only[Lk.ri]
     .simp only[Lk.ri];exact vN
     .simp only[Lk.ri];exact wQ
     .intro hn
      have:=r.hl hn id _ ke;exact this
    .cases h
   .cases h
  .cases h
 .cases h
theorem adv(hT:mB P T){t:TypeId}(iE:o.op = .alloc t)(r:jA w0 B σ a w L)(h:jL P K T O σ o=some u):kq P K w0 B σ o a w u:=by
 simp only[jL,iE]at h;split at h
 .rename_i ti qL
  split at h
  .rename_i z hz
   obtain⟨id,hd,mr,kg,rfl⟩:=BD h;obtain⟨zv,xi,rG⟩:=Gl hz;obtain⟨q1,q2⟩:=rG (jB B L) (ko L) w;obtain⟨L',r',hp⟩:=r.Va id t z zv mr q1 q2 (by simpa[Bx.nl]using kg);refine⟨_,_,L',.inl ?_,r',hp⟩;simp only[execOp,iE,Instr.alloc,Sem.run_bind,WX hT w qL xi,Result.andThen_ok,newVar,newRow,run_newObj_alloc,Sem.run_pure]
  .cases h
 .cases h
theorem adz{t:TypeId}{x:Operand}(iE:o.op = .box t x)(r:jA w0 B σ a w L)(h:jL P K T O σ o=some u):kq P K w0 B σ o a w u:=by
 simp only[jL,iE]at h;have hx:=r.op x;split at h
 .rename_i e hv
  rw[hv]at hx;split at h
  .rename_i l hl
   obtain⟨id,hd,mr,kg,rfl⟩:=BD h;obtain⟨q1,q2⟩:=hx.cells hl;obtain⟨L',r',hp⟩:=r.Va id t l (a.eval x) mr q1 q2 (by simpa[Bx.nl]using kg);refine⟨_,_,L',.inl ?_,r',hp⟩;simp only[execOp,iE,Instr.box,Sem.run_bind,Result.andThen_ok,newVar,newRow,run_newObj_alloc,Sem.run_pure]
  .cases h
 .cases h
end
open Go.RowKit
theorem ac8(us:List Value):∀ (off k:Nat) (cs:Array Value),off+k+us.length<=cs.size ->
 (us.zipIdx k).foldl (fun cs (c:Value×Nat)=>cs.setIfInBounds (off+c.2) c.1) cs=(cs.toList.take (off+k)++us++cs.toList.drop (off+k+us.length)).toArray:=by
 induction us with
 |nil=>intro off k cs h;simp
 |cons x us ih=>
  intro off k cs h;simp only[List.zipIdx_cons,List.foldl_cons];rw[ih off (k+1) _ (by simp at h ⊢;omega)];apply dg;simp only[dc]at h;obtain⟨A,y,D,nK,hA⟩:∃ A y D,cs.toList=A++y::D/\A.length=off+k:=by
   have iD:off+k<cs.toList.length:= av ;refine⟨cs.toList.take (off+k),cs.toList[off+k],cs.toList.drop (off+k+1),?_,by rw[bZ];omega⟩;rw[<-eE iD,gL]
  simp only[am4,dc,nK,<-hA];rw[List.set_append_right _ _ (aU _),cT,ado,
   show off+(k+1)+us.length=A.length+(us.length+1)by omega,show off+(k+1)=A.length+1 by omega,
   List.take_length_add_append,am5,List.take_left,am5]
  simp
theorem ac3(place:Nat->Option (Nat×Nat))(cs:Array Value)(i:Nat)(v:Value)(rest:List (Nat×Value))(off:Nat)(hp:place i=some (off,v.cells.toList.length))(od:off+v.cells.toList.length<=cs.size):
 Instr.fill place cs ((i,v)::rest)=Instr.fill place (cs.toList.take off++v.cells.toList++cs.toList.drop (off+v.cells.toList.length)).toArray rest:=by
 have h1:¬(v.cells.size≠v.cells.toList.length\/off+v.cells.size>cs.size):=by simp at od ⊢;omega
 have hf:=ac8 v.cells.toList off 0 cs (by simpa using od);simp only[bt]at hf;have h2:(v.cells.zipIdx.foldl (fun cs (c,j)=>cs.setIfInBounds (off+j) c) cs)=(cs.toList.take off++v.cells.toList++cs.toList.drop (off+v.cells.toList.length)).toArray:=by
  rw[<-hf,<-Array.foldl_toList,Array.toList_zipIdx]
 rw[Instr.fill,hp];simp only;rw[aQ (by simpa using h1),h2]
section
variable {P:Program} {K:World->Prop} {T:List TI} {O:qq} {w0:World} {B:Nat->Prop} {σ:PS} {o:Oper} {a:Act} {w:World} {L:Lk} {u:kK}
theorem Lg(r:jA w0 B σ a w L){place:Nat->Option (Nat×Nat)}{ps:List (Nat×Operand)}{l m:List E}{cs:Array Value}(h:rB σ place l ps=some m)
 (hr:kr (jB B L) (ko L) w l cs.toList) (h1:∀ u ∈ cs,u.oneCell'=true):
 ∃ cs',Instr.fill place cs (ps.map fun x=>(x.1,a.eval x.2))=some cs'/\kr (jB B L) (ko L) w m cs'.toList/\(∀ u ∈ cs',u.oneCell'=true):=by
 induction ps generalizing l cs with
 |nil=>
  simp only[rB]at h;cases h;exact⟨cs,rfl,hr,h1⟩
 |cons p ps ih=>
  obtain⟨i,x⟩:=p;simp only[rB]at h;have hx:=r.op x;split at h
  .rename_i off size e hp hv
   rw[hv]at hx;split at h
   .rename_i q hq
    split at h
    .rename_i hc
     simp only[bB]at hc;have c1:=mN.1 hc.1;have c2:=cI hc.2;obtain⟨q1,q2⟩:=hx.cells hq;have hlen:(a.eval x).cells.toList.length=size:=by rw[q1.len,c1]
     have Bc:=hr.len;rw[eR,ac3 place cs i (a.eval x) _ off (by rw[hlen];exact hp) (by rw[q1.len];simp at Bc;omega)];refine ih h (VA hr q1 off) fun v hv=>?_
     simp only[fX,dD]at hv;rcases hv with(hv|hv)|hv
     .exact h1 v (by have:=ef hv;simpa using this)
     .exact q2 v hv
     .exact h1 v (by have:=eA hv;simpa using this)
    .cases h
   .cases h
  .cases h
theorem Vv(ps:Array (Nat×Operand))(a:Act):(ps.map fun(x:Nat×Operand)=>(x.1,a.eval x.2)).toList=ps.toList.map fun x=>(x.1,a.eval x.2):= aj 
theorem ahF{P:Program}(hT:mB P T){fs:List Field}{pl:List (Nat×Nat)}(h:Fz T fs=some pl):fs.mapM (fun f=>(P.info? f.type).map fun i=>(f.offset,i.size))=some pl:=by
 induction fs generalizing pl with
 |nil=>simp only[Fz]at h;cases h;rfl
 |cons f fs ih=>
  simp only[Fz]at h;split at h
  .rename_i ti l h1 h2
   cases h;simp[eZ,hT.Ac h1,ih h2]
  .cases h
theorem adA(hT:mB P T){t:TypeId}{ps:Array (Nat×Operand)}(iE:o.op = .build t ps)(r:jA w0 B σ a w L)(h:jL P K T O σ o=some u):kq P K w0 B σ o a w u:=by
 simp only[jL,iE]at h;have main:∀ (l:List E) (cs:Array Value),P.built t (ps.toList.map fun x=>(x.1,a.eval x.2))=some cs->kr (jB B L) (ko L) w l cs.toList->u={ r:=.e (.agg l) }->kq P K w0 B σ o a w u:=by
  intro l cs hb hr hu;subst hu;have lH:=run_build (P:=P) w t (ps.map fun(x:Nat×Operand)=>(x.1,a.eval x.2)) cs (by rw[Vv];exact hb);refine kq.pure r (v:=.agg cs) ?_ rfl (by have:=hr.agg;rwa[Array.toArray_toList]at this);simp only[execOp,iE,Sem.run_bind,lH,Result.andThen_ok,Sem.run_pure]
 split at h
 .rename_i ti qL
  split at h
  .rename_i z hz
   obtain⟨zv,xi,rG⟩:=Gl hz;obtain⟨q1,q2⟩:=rG (jB B L) (ko L) w;split at h
   .rename_i fs hd
    split at h
    .rename_i pl Bl
     obtain⟨l,hl,rfl⟩:=cG.1 h;obtain⟨cs,p1,p2,_⟩:=Lg r hl q1 (fun u hu=>q2 u (by simpa using hu));refine main l cs ?_ p2 rfl;unfold Program.built;rw[hT.Ac qL,hT.rP qL,hd];simp only[xi,ahF hT Bl];have:(fun x:Nat=>pl.toArray[x]?)=fun x=>pl[x]?:=by funext x;simp
     rw[this];exact p1
    .cases h
   .rename_i n e hd
    split at h
    .rename_i te pJ
     obtain⟨l,hl,rfl⟩:=cG.1 h;obtain⟨cs,p1,p2,_⟩:=Lg r hl q1 (fun u hu=>q2 u (by simpa using hu));refine main l cs ?_ p2 rfl;unfold Program.built;rw[hT.Ac qL,hT.rP qL,hd];simp only[xi,hT.Ac pJ];exact p1
    .cases h
   .cases h
  .cases h
 .cases h
theorem WH{α:Type}(n:Nat)(l:List α):(lg n l).length=n*l.length:=by
 induction n with
 |zero=>simp[lg]
 |succ n ih=>simp only[lg,cg,ih,bK,bJ];omega
theorem ajs{α:Type}(n:Nat)(l:List α)(q:Nat)(h:q<n*l.length):(lg n l)[q]? = l[q%l.length]?:=by
 induction n generalizing q with
 |zero=>simp at h
 |succ n ih=>
  simp only[lg];rw[bK,bJ]at h;by_cases hq:q<l.length
  .rw [en hq,bu hq]
  .rw [eV ae,ih _ ae]
   congr 1;exact(Nat.mod_eq_sub_mod ae).symm
theorem ajt{bs br:Nat->Prop}{z:List E}{zs:Array Value}(h:kr bs br w z zs.toList)(n:Nat):kr bs br w (lg n z) ((Array.range (n*zs.size)).map (zs[· % zs.size]!)).toList:=by
 have hl:=h.len;simp only[dx]at hl;refine⟨by simp[WH,hl],fun i p x hp hx=>?_⟩;have hi:i<n*zs.size:=by
  have:=(bV.1 hx).1;simpa using this
 have hz:0<zs.size:=by
  rcases dV zs.size with h0|h0
  .rw [h0]at hi;simp at hi
  .exact h0
 rw[ajs _ _ _ (by rw[<-hl];exact hi),<-hl]at hp;have iD:=bg i hz;simp[hi]at hx;subst hx;rw[eX zs _ iD];exact h.lg _ p _ hp (by simp[iD])
theorem Xo(hB:∀ b,B b->b<w0.heap.size)(r:jA w0 B σ a w L)(e:TypeId)(n sz:Nat)(l:List E)(cs:Array Value)(nl:Bool)(hr:kr (jB B L) (ko L) w l cs.toList)(h1:∀ u ∈ cs,u.oneCell'=true)(hlen:cs.size=n*sz)
 (vX:n<=9223372036854775807) (kg:nl=true->l.all E.nk=true) (vY:l.all (E.nr 2)=true):
 jA w0 B σ a (w.alloc (.cells cs e)) L/\iG (jB B L) (ko L) (w.alloc (.cells cs e)) (.sl nl n sz fun i j=>l.getD (i*sz+j) (.v (.bool false))) (.slice (some ⟨w.heap.size,0,none⟩) n n):=by
 have hb:Below w.heap.size w (w.alloc (.cells cs e)):=(Below.refl _ _).alloc (aU _) _;have hl:sM L w L (w.alloc (.cells cs e)):=⟨hb.size,fun _ _ h=>h,fun x hx _=>hb.block x hx⟩
 refine⟨r.later hb,?_⟩;have lV:∀ i j,i<n->j<sz->i*sz+j<cs.size:=by
  intro i j hi hj;rw[hlen];have:=bC sz (show i+1<=n from hi);rw[bK,bJ]at this;omega
 have hll:=hr.len;simp only[dx]at hll;refine .sl nl n sz _ _ n (fun i j=>cs.getD (i*sz+j) undef) (aU _) vX (fun h=>by cases h) (fun i j hi hj=>?_) (fun i j hi hj=>?_) (fun i j hi hj=>?_) (fun i j hi hj=>?_)
 .have hq:=lV i j hi hj
  have e1:cs.getD (i*sz+j) undef=cs[i*sz+j]:=by simp[hq]
  rw[e1];refine⟨h1 _ (fV hq),fun pH=>?_⟩;have tO:i*sz+j<l.length:= ae ;exact(hr.lg (i*sz+j) _ _ (bd tO) (by simp[hq])).nk (bF.1 (kg pH) _ (cw tO))
 .have hq:=lV i j hi hj
  have tO:i*sz+j<l.length:= ae ;rw[aW,bd tO];exact bF.1 vY _ (cw tO)
 .have hq:=lV i j hi hj
  refine⟨w.heap.size,0,rfl,fun wW=>?_,aj,?_⟩
  .rcases wW with hx|⟨id,hx⟩
   .have:=hB _ hx;have:=r.he.size;omega
   .have:=(r.hw id _ hx).2;omega
  .rw [bX,World.cell?_alloc_new]
   simp[hq]
 .have hq:=lV i j hi hj
  have tO:i*sz+j<l.length:= ae ;have e1:cs.getD (i*sz+j) undef=cs[i*sz+j]:=by simp[hq]
  rw[e1,aW,bd tO];exact hl.lg (hr.lg (i*sz+j) _ _ (bd tO) (by simp[hq]))
theorem agb{l:List E}{vs:List Value}{bs br:Nat->Prop}{w:World}(h:kr bs br w l vs)(hl:l.all E.nk=true):∀ v ∈ vs,r6 v=false:=by
 intro v hv;obtain⟨i,hi⟩:=df.1 hv;obtain⟨wZ,_⟩:=bV.1 hi;have Eu:i<l.length:=by have:=h.len;omega
 exact(h.lg i _ v (bd Eu) hi).nk (bF.1 hl _ (cw Eu))
theorem adB(hT:mB P T)(hB:∀ b,B b->b<w0.heap.size){t:TypeId}{n:Nat}{ps:Array (Nat×Operand)}(iE:o.op = .buildSlice t n ps)(r:jA w0 B σ a w L)(h:jL P K T O σ o=some u):kq P K w0 B σ o a w u:=by
 simp only[jL,iE]at h;split at h
 .rename_i tt re
  split at h
  .rename_i e hd
   split at h
   .rename_i te pJ
    split at h
    .rename_i z hz
     split at h
     .rename_i hc
      simp only[bB]at hc;have c1:=mN.1 hc.1.1;have c2:=cI hc.2;obtain⟨zv,xi,rG⟩:=Gl hz;obtain⟨q1,q2⟩:=rG (jB B L) (ko L) w;have hu:P.underlying t=some (.slice e):=by rw[hT.rP re,hd]
      have Aa:zv.cells.size=te.i.size:=by have:=q1.len;simp only[dx]at this;omega
      obtain⟨l,hl,h⟩:=fY.1 h;obtain⟨cs,p1,p2,p3⟩:=Lg r hl (ajt q1 n) (fun v hv=>by
       simp only[fD,fE]at hv;obtain⟨q,hq,rfl⟩:=hv;have Br:0<zv.cells.size:=by
        rcases dV zv.cells.size with h0|h0
        .rw [h0]at hq;simp at hq
        .exact h0
       rw[eX zv.cells _ (bg q Br)];exact q2 _ aj)
      have hlen:l.length=n*te.i.size:=by
       have:∀ (ps:List (Nat×Operand)) (l m:List E),rB σ (fun i=>some (i*te.i.size,te.i.size)) l ps=some m->m.length=l.length:=by
        intro ps
        induction ps with
        |nil=>intro l m h;simp only[rB]at h;cases h;rfl
        |cons p ps ih=>
         intro l m h;obtain⟨i,x⟩:=p;simp only[rB]at h;split at h
         .split at h
          .split at h
           .rename_i hc
            simp only[bB]at hc;have:=cI hc.2;rw[ih _ _ h];simp[As];omega
           .cases h
          .cases h
         .cases h
       rw[this _ _ _ hl,WH,c1]
      have nK:cs.size=n*te.i.size:=by have:=p2.len;simp only[dx]at this;omega
      have SK:Instr.fill (fun i=>some (i*te.i.size,te.i.size)) ((Array.range (n*te.i.size)).map (zv.cells[· % zv.cells.size]!)) (ps.map fun(x:Nat×Operand)=>(x.1,a.eval x.2)).toList=some cs:=by
       rw[Vv,<-Aa];rw[<-Aa]at p1;exact p1
      have lH:(execOp a.eval o).run P w = .ok (.value (.slice (some ⟨w.heap.size,0,none⟩) n n)) (w.alloc (.cells cs e)):=by
       have zL:¬(n*te.i.size>16777216):= ae ;by_cases h0:n*te.i.size=0
       .have e0:∀ g:Nat->Value,(Array.range 0).map g = #[]:=fun g=>by simp[Array.range]
        have SL:=SK;rw[h0,e0]at SL;have z24:¬(0>2^24):= ag ;simp only[execOp,iE,Instr.buildSlice,Sem.run_bind,run_underlying hu,Result.andThen_ok,wB hT w pJ,zL,a6,h0,z24,bk,Sem.run_pure,e0,SL,newRow,run_newObj_alloc]
       .simp only[execOp,iE,Instr.buildSlice,Sem.run_bind,run_underlying hu,Result.andThen_ok,wB hT w pJ,zL,a6,h0,Sem.run_pure,WX hT w pJ xi,SK,newRow,run_newObj_alloc]
      have j9:n<=9223372036854775807:=by
       have:=fU n (cI hc.1.2);omega
      by_cases vY:l.all (E.nr 2)=true
      .simp only[vY,eP,bq,a6]at h
       split at h
       .
        obtain⟨id,SI,mr,kg,rfl⟩:=BD h;have hb:Below w.heap.size w (w.alloc (.cells cs e)):=(Below.refl _ _).alloc (aU _) _;have ht:rq L w id (fun x=>x=w.heap.size) (w.alloc (.cells cs e)):=⟨fun x hx=>⟨.inr ae,av⟩,hb.size,fun x hx _=>hb.block x hx,rfl,rfl,rfl⟩
        have iD:=ht.later (.slice (some ⟨w.heap.size,0,none⟩) n n) (fun _=>undef);have Bg:∀ i j,i<n->j<te.i.size->i*te.i.size+j<n*te.i.size:=by
         intro i j hi hj;have:=bC te.i.size (show i+1<=n from hi);rw[bK,bJ]at this;omega
        refine⟨_,_,_,.inl lH,r.new id _ (fun x=>x=w.heap.size) (.slice (some ⟨w.heap.size,0,none⟩) n n) (fun _=>undef) _ mr (fun x hx=>by subst hx;simp) hb
         ⟨fun i j=>cs.getD (i*te.i.size+j) undef,.inr ⟨w.heap.size,n,cs,Lk.pe,heap_alloc_new w _,aU _,by unfold maxLen;omega,nK,fun i j hi hj=>?_,fun hn u hu=>?_⟩,fun x=>?_,fun i j hi hj=>?_⟩ kg,Lk.AE,Lk.pe.symm⟩
        .have hq:i*te.i.size+j<cs.size:=by rw[nK];exact Bg i j hi hj
         have e1:cs.getD (i*te.i.size+j) undef=cs[i*te.i.size+j]:=by simp[hq]
         show cs[i*te.i.size+j]? = some (cs.getD (i*te.i.size+j) undef)/\(cs.getD (i*te.i.size+j) undef).oneCell'=true;rw[e1];exact⟨by simp[hq],p3 _ aj⟩
        .exact agb p2 hn u (by simpa using hu)
        .rw [Lk.sf,Lk.pe]
         simp only[Value.ownBlock,bG];exact eq_comm
        .have hq:i*te.i.size+j<cs.size:=by rw[nK];exact Bg i j hi hj
         have uY:i*te.i.size+j<l.length:=by rw[hlen];exact Bg i j hi hj
         have e1:cs.getD (i*te.i.size+j) undef=cs[i*te.i.size+j]:=by simp[hq]
         simp only[aW,bd uY,amI,e1];exact⟨iD.lg (p2.lg _ _ _ (bd uY) (by simp[hq])),bF.1 vY _ (cw uY)⟩
       split at h
       .rename_i CE
        cases h;obtain⟨r',hp⟩:=Xo hB r e n te.i.size l cs true p2 p3 nK j9 (fun _=>CE) vY;exact⟨_,_,L,.inl lH,r',hp⟩
       .cases h
        obtain⟨r',hp⟩:=Xo hB r e n te.i.size l cs false p2 p3 nK j9 (fun h=>by cases h) vY;exact⟨_,_,L,.inl lH,r',hp⟩
      .simp [vY]at h
     .cases h
    .cases h
   .cases h
  .cases h
 .cases h
end
open Go.RowKit
theorem KZ{P:Program}{t e:TypeId}(h:P.underlying t=some (.slice e)):P.elem t=e:=by simp[Program.elem,h]
theorem ab4{P:Program}{t e:TypeId}{n:Nat}(h:P.underlying t=some (.array n e)):P.elem t=e/\P.arrayLen t=n:=by simp[Program.elem,Program.arrayLen,h]
section
variable {P:Program} {K:World->Prop} {T:List TI} {O:qq} {w0:World} {B:Nat->Prop} {σ:PS} {o:Oper} {a:Act} {w:World} {L:Lk} {u:kK}
theorem adH(hT:mB P T){t:TypeId}{x i:Operand}(iE:o.op = .indexAddr t x i)(r:jA w0 B σ a w L)(h:jL P K T O σ o=some u)(ho:∀ q,q ∈ u.jV->q):kq P K w0 B σ o a w u:=by
 simp only[jL,iE,Hd]at h;have hx:=r.op x;have hi:=r.op i;split at h
 .rename_i k z hpi
  rw[hpi]at hi;have hi:=iG.kJ hi;split at h
  .rename_i tt re
   split at h
   .
    rename_i e hd;have hu:P.underlying t=some (.slice e):=by rw[hT.rP re,hd]
    have he:=KZ hu;split at h
    .rename_i te pJ
     have lH:∀ (ad:Addr) (n c:Nat),a.eval x = .slice (some ad) n c->0<=z->z<n->(execOp a.eval o).run P w = .ok (.value (.pointer (some (ad.add (z.toNat*te.i.size))))) w:=by
      intro ad n c e1 h0 h1;have hr:=run_indexAt_slice (P:=P) w t ad n c k z (by rw[he];exact hu);rw[aR ⟨h0,h1⟩,he,wB hT w pJ]at hr;simp only[execOp,iE,e1,hi,Sem.run_bind,hr,Result.andThen_ok,Sem.run_pure]
     split at h
     .rename_i nl n sz el rE
      rw[rE]at hx;split at h
      .rename_i hs
       simp only[bB]at hs;have tS:=cI hs.2;have hs:=mN.1 hs.1;cases h;have hz:0<=z/\z<n:=ho _ aj;have II:z.toNat<n:= ae ;generalize hq:a.eval x=q at hx;cases hx with
       |sl _ _ _ _ A c f hc hm h0 hl vY cell kk=>
        obtain⟨b,of,e1,hb,iD,_⟩:=cell z.toNat 0 II tS;subst e1;refine kq.pure r (lH ⟨b,of,none⟩ n c hq hz.1 hz.2) rfl ?_;rw[Addr.add_lit,hs];refine .kv sz _ b _ (fun j=>f z.toNat j) (fun hm=>hb (.inr hm)) iD (fun j hj=>(hl _ _ II hj).1) (fun j hj=>?_) (fun j hj=>kk _ _ II hj);obtain⟨b',of',e2,_,_,xX⟩:=cell z.toNat j II hj;cases e2;rwa[<-cE]at xX
      .cases h
     .rename_i id rE
      rw[rE]at hx;split at h
      .rename_i nl T1 n sz el ke
       split at h
       .rename_i hs
        have hs:=mN.1 hs;cases h;have hz:0<=z/\z<n:=ho _ aj;obtain⟨f,h1,h2,h3⟩:=r.hb id _ ke;obtain⟨k1,k2⟩:=hx;rcases h1 with⟨h1,pH⟩|⟨b,c,cur,h1,hg,pQ,nU,nK,lq,kg⟩
        .omega
        .rw [h1]at k2
         refine kq.pure r (lH ⟨b,0,none⟩ n c k2 hz.1 hz.2) rfl ⟨k1,b,n,c,h1,?_⟩;rw[Addr.add_lit,hs,bX,bt]
       .cases h
      .rename_i nl T1 T0 n sz len el pend ke
       split at h
       .rename_i hs
        have hs:=mN.1 hs;cases h;have hz:0<=z/\z<n:=ho _ aj;obtain⟨b,c,cur,f,h1,h2,h3,h4,h5,h6,h7,h8,h9,vN,wQ⟩:=r.hb id _ ke;obtain⟨k1,k2⟩:=hx;rw[h1]at k2;refine kq.pure r (lH ⟨b,0,none⟩ n c k2 hz.1 hz.2) rfl ⟨k1,b,n,c,h1,?_⟩;rw[Addr.add_lit,hs,bX,bt]
       .cases h
      .cases h
     .cases h
    .cases h
   .
    rename_i n e hd;have hu:P.underlying t=some (.array n e):=by rw[hT.rP re,hd]
    obtain⟨he,hn⟩:=ab4 hu;split at h
    .rename_i te pJ
     have lH:∀ (ad:Addr),a.eval x = .pointer (some ad)->0<=z->z<n->(execOp a.eval o).run P w = .ok (.value (.pointer (some (ad.add (z.toNat*te.i.size))))) w:=by
      intro ad e1 h0 h1;have hr:=run_indexAt_array (P:=P) w t ad k z (by rw[he,hn];exact hu);rw[hn,aR ⟨h0,h1⟩,he,wB hT w pJ]at hr;simp only[execOp,iE,e1,hi,Sem.run_bind,hr,Result.andThen_ok,Sem.run_pure]
     split at h
     .rename_i id off rE
      rw[rE]at hx;cases h;have hz:0<=z/\z<n:=ho _ aj;obtain⟨k1,b,k2,k3⟩:=hx;refine kq.pure r (lH _ k3 hz.1 hz.2) rfl ⟨k1,b,k2,?_⟩;rw[Addr.add_lit]
     .rename_i m el rE
      rw[rE]at hx;split at h
      .rename_i hs
       have hs:=mN.1 hs;cases h;have hz:0<=z/\z<n:=ho _ aj;have lV:∀ j,j<te.i.size->z.toNat*te.i.size+j<m:=by
        intro j hj;rw[<-hs];have:=bC te.i.size (show z.toNat+1<=n by omega);rw[bK,bJ]at this;omega
       generalize hq:a.eval x=q at hx;cases hx with
       |kv _ _ b of f hb iD hl cell kk=>
        refine kq.pure r (lH _ hq hz.1 hz.2) rfl ?_;rw[Addr.add_lit];refine .kv te.i.size _ b _ (fun j=>f (z.toNat*te.i.size+j)) hb iD (fun j hj=>hl _ (lV j hj)) (fun j hj=>?_) (fun j hj=>kk _ (lV j hj));have:=cell _ (lV j hj);rwa[<-cE]at this
      .cases h
     .cases h
    .cases h
   .cases h
  .cases h
 .cases h
theorem adS(hT:mB P T){t:TypeId}{x:Operand}{lo hi:Option Operand}(iE:o.op = .slice t x lo hi none)(r:jA w0 B σ a w L)(h:jL P K T O σ o=some u)(ho:∀ q,q ∈ u.jV->q):kq P K w0 B σ o a w u:=by
 simp only[jL,iE,Hg]at h;have hx:=r.op x;split at h
 .rename_i nl n sz el rE
  rw[rE]at hx;split at h
  .rename_i tt re
   split at h
   .rename_i e hd
    have hu:P.underlying t=some (.slice e):=by rw[hT.rP re,hd]
    have he:=KZ hu;have CU:P.underlying t=some (.slice (P.elem t)):=by rw[he];exact hu
    split at h
    .rename_i te pJ
     split at h
     .rename_i hs
      have hs:=mN.1 hs;generalize hq:a.eval x=q at hx;cases hx with
      |sl _ _ _ _ A c f hc hm h0 hl vY cell kk=>
       have fin:∀ l h':Nat,l<=h'->h'<=n->iG (jB B L) (ko L) w (.sl nl (h'-l) sz fun i j=>el (l+i) j) (sliced A l h' c te.i.size):=by
        intro l h' hlh hhn;unfold sliced;refine .sl nl (h'-l) sz _ _ (c-l) (fun i j=>f (l+i) j) ae ae (fun hA=>?_) (fun i j hi hj=>hl _ _ ae hj) (fun i j hi hj=>vY _ _ ae hj) (fun i j hi hj=>?_) (fun i j hi hj=>kk _ _ ae hj)
        .split at hA
         .have:=h0 hA;omega
         .have:=h0 (by simpa using hA);omega
        .obtain ⟨b,of,e1,hb,iD,lq⟩:=cell (l+i) j ae hj
         subst e1;rw[aQ ae];refine⟨b,of+l*te.i.size,by rw[cJ,Addr.add_lit],hb,iD,?_⟩;rw[hs];rw[bK]at lq;rw[<-lq];congr 2;omega
       have run:∀ (l h':Nat) (lo' oL:Option Value),lo.map a.eval=lo'->hi.map a.eval=oL->(Instr.slice t (.slice A n c) lo' oL none).run P w = .ok (sliced A l h' c te.i.size) w ->
        (execOp a.eval o).run P w = .ok (.value (sliced A l h' c te.i.size)) w:=by
        intro l h' lo' oL e1 e2 hr;simp only[execOp,iE,Sem.run_bind,hq,e1,e2,Option.map_none,run_sliceAt_slice (P:=P) w t _ _ _ _ CU,hr,Result.andThen_ok,Sem.run_pure]
       split at h
       .rename_i kh hh uU yb
        cases h;have hb:0<=hh/\hh<=n:=ho _ aj;cases lo with
        |some _=>simp at uU
        |none=>
         cases hi with
         |none=>simp at yb
         |some hi=>
          simp only[cJ,bG]at yb;have hv:=r.op hi;rw[yb]at hv;have hv:=iG.kJ hv;have hr:=run_slice_h (P:=P) w t A n c CU kh hh hb.1 ae;rw[he,wB hT w pJ]at hr;have hf:=fin 0 hh.toNat (bL _) ae ;simp only[dh,bX]at hf;exact kq.pure r (run 0 hh.toNat none (some (.int kh hh)) rfl (by rw[cJ,hv]) hr) rfl hf
       .rename_i kl ll uU yb
        cases h;have hb:0<=ll/\ll<=n:=ho _ aj;cases hi with
        |some _=>simp at yb
        |none=>
         cases lo with
         |none=>simp at uU
         |some lo=>
          simp only[cJ,bG]at uU;have hv:=r.op lo;rw[uU]at hv;have hv:=iG.kJ hv;have hr:=run_slice_l (P:=P) w t A n c CU kl ll hb.1 hb.2;rw[he,wB hT w pJ]at hr;exact kq.pure r (run ll.toNat n (some (.int kl ll)) none (by rw[cJ,hv]) rfl hr) rfl (fin ll.toNat n ae (aU _))
       .rename_i kl ll kh hh uU yb
        cases h;have hb:0<=ll/\ll<=hh/\hh<=n:=ho _ aj;cases hi with
        |none=>simp at yb
        |some hi=>
         cases lo with
         |none=>simp at uU
         |some lo=>
          simp only[cJ,bG]at uU yb;have hv:=r.op lo;rw[uU]at hv;have hv:=iG.kJ hv;have rJ:=r.op hi;rw[yb]at rJ;have rJ:=iG.kJ rJ;have hr:=run_slice_lh (P:=P) w t A n c CU kl kh ll hh hb.1 hb.2.1 ae;rw[he,wB hT w pJ]at hr;exact kq.pure r (run ll.toNat hh.toNat (some (.int kl ll)) (some (.int kh hh)) (by rw[cJ,hv]) (by rw[cJ,rJ]) hr) rfl (fin ll.toNat hh.toNat ae ae)
       .cases h
     .cases h
    .cases h
   .cases h
  .cases h
 .cases h
end
open Go.RowKit
section
variable {P:Program} {K:World->Prop} {T:List TI} {O:qq} {w0:World} {B:Nat->Prop} {σ:PS} {o:Oper} {a:Act} {w:World} {L:Lk} {u:kK}
theorem aa1{x:Value}{l:List E}(h:(E.v x).cells? = some l):∀ e,e ∈ l->e.nr 2=true:=by
 intro e he;cases x<;>simp only[E.cells?]at h
 case agg cs=>
  split at h
  .cases h
   obtain⟨q,_,rfl⟩:=cY.1 he;rfl
  .cases h
 all_goals
  split at h
  .cases h
   simp only[List.mem_singleton]at he;subst he;rfl
  .cases h
theorem aml{ti:TI}{l:List E}(h:y6 ti=some l):∀ e,e ∈ l->e.nr 2=true:=by
 unfold y6 at h;split at h
 .exact aa1 h
 .cases h
theorem MT{l:List E}{vs:List Value}{bs br:Nat->Prop}(h:kr bs br w l vs)(hl:l.all E.nk=true):∀ v ∈ vs,r6 v=false:=by
 intro v hv;obtain⟨q,hq⟩:=df.1 hv;have uY:q<l.length:=by rw[<-h.len];exact(bV.1 hq).1
 exact(h.lg q _ v (bd uY) hq).nk (bF.1 hl _ (cw uY))
theorem Uy{z:Array Value}{n q:Nat}(hz:0<z.size)(hq:q<n):(madeCells z n)[q]? = some (z[q%z.size]'(bg _ hz)):=by
 unfold madeCells;simp[hq];rw[eX z _ (bg _ hz)]
theorem Uz{z:Array Value}{n:Nat}(hz:0<z.size){v:Value}(hv:v ∈ madeCells z n):v ∈ z:=by
 unfold madeCells at hv;simp only[fD,fE]at hv;obtain⟨q,hq,rfl⟩:=hv;rw[eX z _ (bg _ hz)];exact fV _
theorem adL(hT:mB P T){t:TypeId}{l c:Operand}(iE:o.op = .makeSlice t l c)(r:jA w0 B σ a w L)(h:jL P K T O σ o=some u)(ho:∀ q,q ∈ u.jV->q):kq P K w0 B σ o a w u:=by
 simp only[jL,iE,Hf]at h;have hl:=r.op l;have hc:=r.op c;split at h
 .rename_i bx jV iT
  obtain⟨id,SI,mr,kg,rfl⟩:=BD h;clear h;simp only[Ru]at iT;split at iT
  rotate_left
  .cases iT
  rename_i kl zl kc zc Bl hpc;rw[Bl]at hl;rw[hpc]at hc;have hl:=iG.kJ hl;have hc:=iG.kJ hc;split at iT
  .rename_i tt re
   split at iT
   .rename_i e hd
    have hu:P.underlying t=some (.slice e):=by rw[hT.rP re,hd]
    split at iT
    .rename_i te pJ
     split at iT
     .rename_i z hz
      split at iT
      .rename_i xY
       simp only[bB]at xY;have c1:=mN.1 xY.1;have c2:=cI xY.2;obtain⟨zv,xi,rG⟩:=Gl hz;obtain⟨q1,q2⟩:=rG (jB B L) (ko L) w;have Aa:zv.cells.size=te.i.size:=by have:=q1.len;simp only[dx]at this;omega
       have Br:0<zv.cells.size:= ae ;have key:∀ (h1:0<=zl/\zl<=zc) (h2:(te.i.bytes:Int)*zc<=281474976710656/\zc<=9223372036854775807),
        (execOp a.eval o).run P w = .ok (.value (.slice (some ⟨w.heap.size,0,none⟩) zl.toNat zc.toNat)) (w.alloc (.cells (madeCells zv.cells (zc.toNat*te.i.size)) e)):=by
        intro h1 h2;have hr:=run_make (P:=P) w t e te.i zv hu (hT.Ac pJ) xi kl kc zl zc h1.1 h1.2 h2.1 h2.2;simp only[execOp,iE,hl,hc,Sem.run_bind,hr,Result.andThen_ok,Sem.run_pure]
       have hb:∀ o':Obj,Below w.heap.size w (w.alloc o'):=fun o'=>(Below.refl _ _).alloc (aU _) _
       have lens:zl<=zc->zc<=9223372036854775807->zl.toNat<=zc.toNat/\zc.toNat<=maxLen:=by intro h1 h2;unfold maxLen;omega
       split at iT
       .
        rename_i e0 hd0;split at iT
        .rename_i t0 Mn
         obtain⟨y,ys,CZ,hy,Bh⟩:=q1.lX;have hy:=iG.kJ hy;have Bh:=Bh.pY;subst hy Bh;have TC:zv.cells = #[.slice none 0 0]:=by apply dg;rw[CZ]
         have lI:te.i.size=1:=by rw[<-Aa,TC];rfl
         cases iT;have h1:0<=zl/\zl<=zc:=ho _ aj;have h2:(te.i.bytes:Int)*zc<=281474976710656/\zc<=9223372036854775807:=ho _ aj;have hlen:=lens h1.2 h2.2;have CE:∀ v,v ∈ madeCells zv.cells (zc.toNat*te.i.size)->v = .slice none 0 0:=fun v hv=>by
          have:=Uz Br hv;rw[TC]at this;simpa using this
         refine⟨_,_,_,.inl (key h1 h2),r.new id _ (fun x=>x=w.heap.size) (.slice (some ⟨w.heap.size,0,none⟩) zl.toNat zc.toNat) (fun _=>.slice none 0 0) _ mr (fun x hx=>by subst hx;simp) (hb _)
          ⟨w.heap.size,zc.toNat,_,fun _ _ _=>undef,Lk.pe,heap_alloc_new w _,hlen.1,hlen.2,by rw[size_madeCells,lI,bO],fun k hk _=>?_,fun v hv=>?_,fun k hk=>?_,fun x=>?_,fun k k' x hk SW h1=>?_,fun k hk=>?_⟩ kg,Lk.AE,Lk.pe.symm⟩
         .rw [Lk.ri]
          have hq:k<zc.toNat*te.i.size:=by rw[lI];omega
          have hg:=Uy Br hq;rw[hg];exact congrArg some (CE _ (dz hg))
         .rw [CE v hv];exact⟨rfl,rfl⟩
         .rw [Lk.ri]
          exact⟨.inl ⟨rfl,rfl⟩,fun i j hi=>absurd hi (bj i)⟩
         .rw [Lk.sf]
          simp only[Lk.ri,Value.ownBlock];simp
         .rw [Lk.ri]at h1
          simp[Value.ownBlock]at h1
         .rw [Lk.ri]
          simp[Value.ownBlock]
        .cases iT
       .cases iT
        have h1:0<=zl/\zl<=zc:=ho _ aj;have h2:(te.i.bytes:Int)*zc<=281474976710656/\zc<=9223372036854775807:=ho _ aj;have hlen:=lens h1.2 h2.2;refine⟨_,_,_,.inl (key h1 h2),r.new id _ (fun x=>x=w.heap.size) (.slice (some ⟨w.heap.size,0,none⟩) zl.toNat zc.toNat) (fun _=>undef) _ mr (fun x hx=>by subst hx;simp) (hb _)
         ⟨fun _ j=>zv.cells.getD j undef,.inr ⟨w.heap.size,zc.toNat,_,Lk.pe,heap_alloc_new w _,hlen.1,hlen.2,size_madeCells _ _,fun i j hi hj=>?_,fun hn v hv=>?_⟩,fun x=>?_,fun i j hi hj=>?_⟩ kg,Lk.AE,Lk.pe.symm⟩
        .have hq:i*te.i.size+j<zc.toNat*te.i.size:=by
          have:=bC te.i.size (show i+1<=zc.toNat by omega);rw[bK,bJ]at this;omega
         have Mc:(i*te.i.size+j)%zv.cells.size=j:=by rw[Aa,a7,dw,bu hj]
         have rW:j<zv.cells.size:= ae ;rw[Uy Br hq];simp only[Mc];have e1:zv.cells.getD j undef=zv.cells[j]:=by simp[rW]
         rw[e1];exact⟨rfl,q2 _ aj⟩
        .exact MT q1 hn v (by have:=Uz Br hv;simpa using this)
        .rw [Lk.sf,Lk.pe]
         simp only[Value.ownBlock,bG];exact eq_comm
        .have rW:j<zv.cells.size:= ae 
         have L8:j<z.length:= ae ;have e1:zv.cells.getD j undef=zv.cells[j]:=by simp[rW]
         simp only[e1];rw[aW,bd L8];obtain⟨p1,_⟩:=rG (jB B (L.set id (fun x=>x=w.heap.size) (.slice (some ⟨w.heap.size,0,none⟩) zl.toNat zc.toNat) (fun _=>undef))) (ko (L.set id (fun x=>x=w.heap.size) (.slice (some ⟨w.heap.size,0,none⟩) zl.toNat zc.toNat) (fun _=>undef))) (w.alloc (.cells (madeCells zv.cells (zc.toNat*te.i.size)) e));exact⟨p1.lg j _ _ (bd L8) (by simp[rW]),aml hz _ (cw L8)⟩
      .cases iT
     .cases iT
    .cases iT
   .cases iT
  .cases iT
 .cases h
theorem adI(hT:mB P T){x:Operand}{t:TypeId}{c:Call}(hc:c={ callee:=.builtin .len,args:=#[x],argTypes:=#[t] })(iE:o.op = .call c){e:TypeId}(hd:xQ T t=some (.slice e))(r:jA w0 B σ a w L){rr:Value×List Nat}(h:uK (σ.op x) σ=some rr)(hu:u={ r:=.e (.v rr.1),rb:=rr.2 }):kq P K w0 B σ o a w u:=by
 obtain⟨ti,h1,h2⟩:=Cn hd;have Tm:P.underlying t=some (.slice e):=by rw[hT.rP h1,h2]
 have he:=KZ Tm;have hx:=r.op x;have key:∀ (A:Option Addr) (n cp:Nat),a.eval x = .slice A n cp->rr.1 = .int .i64 (n:Int)->kq P K w0 B σ o a w u:=by
  intro A n cp e1 e2;have hr:=run_len_slice (P:=P) w t o.type A n cp (by rw[he];exact Tm);subst hu;refine kq.pure r (v:=.int .i64 (n:Int)) ?_ rfl (by rw[e2];exact .v _);subst hc;have em:(#[x]:Array Operand).map a.eval = #[a.eval x]:= aj ;simp only[execOp,iE,resolve,em,e1,Sem.run_bind,Sem.run_pure,Result.andThen_ok,invoke,builtin,hr];rfl
 cases hp:σ.op x with
 |e y=>
  rw[hp]at h hx;cases y with
  |sl nl n sz el=>
   simp only[uK,bG]at h;generalize hq:a.eval x=q at hx;cases hx with
   |sl _ _ _ _ A c f hc hm h0 hl vY cell kk=>exact key A n c hq (by rw[<-h])
  |v y=>
   have hx:=iG.kJ hx;cases y with
   |slice A n cp=>
    simp only[uK,bG]at h;exact key A n cp hx (by rw[<-h])
   |_=>simp[uK]at h
  |_=>simp[uK]at h
 |own id=>
  rw[hp]at h hx;obtain⟨_,k2⟩:=hx;simp only[uK]at h;split at h
  .rename_i nl T1 n sz el ke
   simp only[bG]at h;obtain⟨f,q1,_,_⟩:=r.hb id _ ke;rcases q1 with⟨q1,q0⟩|⟨b,c,cur,q1,_⟩
   .rw [q1]at k2
    exact key none 0 0 k2 (by rw[<-h,q0])
   .rw [q1]at k2
    exact key _ n c k2 (by rw[<-h])
  .rename_i nl T1 T0 n sz len el pend ke
   simp only[bG]at h;obtain⟨b,c,cur,f,q1,_⟩:=r.hb id _ ke;rw[q1]at k2;exact key _ n c k2 (by rw[<-h])
  .cases h
 |_=>rw[hp]at h;simp[uK]at h
end
open Go.RowKit
section
variable {P:Program} {K:World->Prop} {T:List TI} {O:qq} {w0:World} {B:Nat->Prop} {σ:PS} {o:Oper} {a:Act} {w:World} {L:Lk} {u:kK}
theorem qs.rk{v:Value}{T:TypeId}{n sz:Nat}{f:Nat->Nat->Value}{nl nl':Bool}(h:qs w v T n sz f nl)(k:nl'=true->nl=true):qs w v T n sz f nl':=by
 rcases h with h|⟨b,c,cur,h1,h2,h3,h4,h5,h6,h7⟩
 .exact .inl h
 .exact .inr ⟨b,c,cur,h1,h2,h3,h4,h5,h6,fun q=>h7 (k q)⟩
theorem R0(hT:mB P T){s x:Operand}{t:TypeId}{c:Call}(hc:c={ callee:=.builtin .append,args:=#[s,x],argTypes:=#[t,t] })(iE:o.op = .call c)(r:jA w0 B σ a w L)
 (h:zw T σ o.dst t (σ.op s) (σ.op x)=some u) (ho:∀ q,q ∈ u.jV->q):kq P K w0 B σ o a w u:=by
 have hs:=r.op s;have hx:=r.op x;simp only[zw]at h;split at h
 .rename_i nl2 m sz2 el2 rE
  rw[rE]at hx;split at h
  .rename_i tt re
   split at h
   .rename_i e hd
    have hu:P.underlying t=some (.slice e):=by rw[hT.rP re,hd]
    split at h
    .rename_i te pJ
     split at h
     .rename_i z hz
      split at h
      .rename_i xY
       simp only[bB]at xY;have c1:=mN.1 xY.1.1.1;have c2:=cI xY.1.1.2;have c3:=cI xY.1.2;have c4:=mN.1 xY.2;obtain⟨zv,xi,rG⟩:=Gl hz;obtain⟨q1,q2⟩:=rG (jB B L) (ko L) w;have Aa:zv.cells.size=sz2:=by have:=q1.len;simp only[dx]at this;omega
       generalize hqx:a.eval x=vx at hx;cases hx with
       |sl _ _ _ _ A cx g hgc hgm Er SS gnr gcell gk0=>
       have gk:=fun i j hi hj=>And.intro (gk0 i j hi hj) (gnr i j hi hj)
       have key:∀ (v:Value) (n:Nat) (f:Nat->Nat->Value) (nl:Bool),a.eval s=v->qs w v e n sz2 f nl->(nl=true->nl2=true/\z.all E.nk=true)->(n+m)*te.i.bytes<=140737488355328 ->
        ∃ v' w',(execOp a.eval o).run P w = .ok (.value v') w'/\OS w v e n sz2 m f g nl v' w':=by
        intro v n f nl hv ot kg jH;obtain⟨v',w',hr,nZ⟩:=ajZ P w t o.type e te.i zv sz2 hu (hT.Ac pJ) xi c1 Aa ae c3 (fun u hu=>q2 u (by simpa using hu)) v n f nl ot A m cx g
         (fun k j hk hj=>by obtain⟨b,of,e1,_,_,rC⟩:=gcell k j hk hj;exact⟨b,of,e1,rC⟩) (fun hA=>by have:=Er hA;omega)
         (fun k j hk hj=>⟨(SS k j hk hj).1,fun hn=>(SS k j hk hj).2 (kg hn).1⟩) (fun hn u hu=>MT q1 (kg hn).2 u (by simpa using hu)) jH
        refine⟨v',w',?_,nZ⟩;subst hc;have em:(#[s,x]:Array Operand).map a.eval = #[a.eval s,a.eval x]:= aj ;simp only[execOp,iE,resolve,em,hv,hqx,Sem.run_bind,Sem.run_pure,Result.andThen_ok,invoke,builtin,hr]
       split at h
       .
        rename_i id EC;rw[EC]at hs;split at h
        .rename_i nl T1 n sz el ke
         split at h
         .rename_i rC
          simp only[bB]at rC;have d1:=mN.1 rC.1.1;have d2:=mN.1 rC.1.2;subst d1 d2;cases h;have jH:(n+m)*te.i.bytes<=140737488355328:=ho _ aj;obtain⟨f,p1,p2,p3⟩:=r.hb id _ ke;obtain⟨k1,k2⟩:=hs;have kg:(nl&&(nl2&&z.all E.nk))=true->nl2=true/\z.all E.nk=true:=fun hn=>by simp only[bB]at hn;exact hn.2
          obtain⟨v',w',lH,nZ⟩:=key (L.val id) n f _ k2 (p1.rk fun hn=>by simp only[bB]at hn;exact hn.1) kg jH;have ht:rq L w id (fun y=>v'.ownBlock=some y) w':=by
           refine⟨fun y hy=>?_,nZ.size,fun y hy mr=>nZ.pL y hy fun e1=>mr ((p2 y).2 e1),nZ.os,nZ.tape,nZ.output⟩;rcases nZ.Kp y hy with e1|⟨e1,e2⟩
           .have:=(p2 y).2 e1
            exact⟨.inl this,bD (r.hw id y this).2 nZ.size⟩
           .exact ⟨.inr e1,e2⟩
          have hl:=ht.later v' (L.jt id);have hpt:∀ b,L.val id ≠ .pointer (some b):=fun b e1=>by
           rcases p1 with⟨e2,_⟩|⟨_,_,_,e2,_⟩<;>rw[e1]at e2<;>cases e2
          refine⟨v',w',_,.inl lH,r.q8 id _ _ v' w' hpt ht ⟨fun i j=>if i<n then f i j else g (i-n) j,by rw[Lk.pe];exact nZ.own,fun y=>by rw[Lk.sf,Lk.pe],fun i j hi hj=>(fun(q:iG _ _ _ _ _/\_)=>⟨hl.lg q.1,q.2⟩) (?_:_/\_)⟩ (fun hn=>?_),Lk.AE,Lk.pe.symm⟩
          .by_cases lV:i<n
           .simp only[lV,bk];exact p3 i j lV hj
           .simp only[lV,a6];exact gk _ _ ae hj
          .have:=rC.2
           rw[hn]at this;simpa[Bx.nl]using this
         .cases h
        .cases h
       .
        rename_i id k EC;rw[EC]at hs;split at h
        .rename_i nl T1 T0 n sz len el ke
         split at h
         .rename_i rC
          simp only[bB]at rC;have d1:=mN.1 rC.1.1;have d2:=mN.1 rC.1.2;subst d1 d2;cases h;have hk:k<n:=ho _ aj;have jH:(len k+m)*te.i.bytes<=140737488355328:=ho _ aj;obtain⟨b,cp,cur,f,p1,p2,p3,p4,p5,p6,p7,p8,p9,p10,p11⟩:=r.hb id _ ke;obtain⟨k1,k2⟩:=hs;have kg:nl=true->nl2=true/\z.all E.nk=true:=fun hn=>by have:=rC.2;rw[hn]at this;simpa using this
          obtain⟨v',w',lH,nZ⟩:=key (L.jt id k) (len k) (f k) nl k2 (p8 k hk).1 kg jH;have CF:∀ y,v'.ownBlock=some y->(L.jt id k).ownBlock=some y\/(w.heap.size<=y/\y<w'.heap.size):=nZ.Kp;have SA:b<w.heap.size:=(r.hw id b ((p9 b).2 (.inl rfl))).2;have L6:∀ q y,q<n->(L.jt id q).ownBlock=some y->y<w.heap.size:=fun q y hq hy=>(r.hw id y ((p9 y).2 (.inr ⟨q,hq,hy⟩))).2
          have ht:rq L w id (fun y=>y=b\/∃ q,q<n/\(if q=k then v' else L.jt id q).ownBlock=some y) w':=by
           refine⟨fun y hy=>?_,nZ.size,fun y hy mr=>nZ.pL y hy fun e1=>mr ((p9 y).2 (.inr ⟨k,hk,e1⟩)),nZ.os,nZ.tape,nZ.output⟩;rcases hy with rfl|⟨q,hq,hy⟩
           .exact ⟨.inl ((p9 y).2 (.inl rfl)),bD SA nZ.size⟩
           .by_cases s7:q=k
            .subst s7
             rw[aR rfl]at hy;rcases CF y hy with e1|⟨e1,e2⟩
             .have:=(p9 y).2 (.inr ⟨q,hq,e1⟩)
              exact⟨.inl this,bD (r.hw id y this).2 nZ.size⟩
             .exact ⟨.inr e1,e2⟩
            .rw [aQ s7]at hy
             have:=(p9 y).2 (.inr ⟨q,hq,hy⟩);exact⟨.inl this,bD (r.hw id y this).2 nZ.size⟩
          have hl:=ht.later (L.val id) (fun q=>if q=k then v' else L.jt id q);have Ij:∀ y,y<w.heap.size->(L.jt id k).ownBlock≠some y->w'.heap[y]? = w.heap[y]?:=nZ.pL;refine⟨v',w',_,.inl lH,r.vK id _ _ (fun q=>if q=k then v' else L.jt id q) w' ht
           ⟨b,cp,cur,fun q i j=>if q=k then(if i<len q then f q i j else g (i-len q) j)else f q i j,by rw[Lk.pe];exact p1,by rw[Ij b SA (p11 k hk)];exact p2,p3,p4,p5,fun q hq s7=>?_,p7,fun q hq=>?_,fun y=>?_,fun q q' y hq tO hy zZ=>?_,fun q hq hy=>?_⟩ (fun hn=>?_),Lk.AE,?_⟩
          .have ks:q≠k:=fun e1=>s7 (by rw[e1])
           rw[Lk.ri,aQ ks];exact p6 q hq aj 
          .rw [Lk.ri]
           by_cases s7:q=k
           .subst s7
            simp only[bk];refine⟨nZ.own,fun i j hi hj=>(fun(q:iG _ _ _ _ _/\_)=>⟨hl.lg q.1,q.2⟩) (?_:_/\_)⟩;by_cases lV:i<len q
            .simp only[lV,bk];exact(p8 q hq).2 i j lV hj
            .simp only[lV,a6];exact gk _ _ ae hj
           .simp only[s7,a6]
            obtain⟨s1,s2⟩:=p8 q hq;exact⟨s1.block fun y hy=>Ij y (L6 q y hq hy) fun e1=>s7 (p10 q k y hq hk hy e1),fun i j hi hj=>⟨hl.lg (s2 i j hi hj).1,(s2 i j hi hj).2⟩⟩
          .rw [Lk.sf]
           simp only[Lk.ri]
          .simp only[Lk.ri]at hy zZ
           by_cases h1:q=k
           .subst h1
            by_cases h2:q'=q
            .exact h2.symm
            .rw [aR rfl]at hy
             rw[aQ h2]at zZ;rcases CF y hy with e1|⟨e1,_⟩
             .exact p10 q q' y hq tO e1 zZ
             .have:=L6 q' y tO zZ;omega
           .rw [aQ h1]at hy
            by_cases h2:q'=k
            .subst h2
             rw[aR rfl]at zZ;rcases CF y zZ with e1|⟨e1,_⟩
             .exact p10 q q' y hq tO hy e1
             .have:=L6 q y hq hy;omega
            .rw [aQ h2]at zZ
             exact p10 q q' y hq tO hy zZ
          .simp only[Lk.ri]at hy
           by_cases h1:q=k
           .subst h1
            rw[aR rfl]at hy;rcases CF b hy with e1|⟨e1,_⟩
            .exact p11 q hq e1
            .omega
           .rw [aQ h1]at hy
            exact p11 q hq hy
          .have:=r.hl hn id _ ke
           exact this
          .rw [Lk.ri,aR rfl]
         .cases h
        .cases h
       .
        rename_i EC;rw[EC]at hs;have hs:=iG.kJ hs;obtain⟨id,SI,mr,Ir,rfl⟩:=BD h;have jH:m*te.i.bytes<=140737488355328:=ho _ aj;obtain⟨v',w',lH,nZ⟩:=key _ 0 g (nl2&&z.all E.nk) hs (.inl ⟨rfl,rfl⟩) (fun hn=>by simpa using hn) (by simpa using jH);have hb:Below w.heap.size w w':=⟨nZ.os,nZ.tape,nZ.output,nZ.size,fun y hy=>nZ.pL y hy (by simp[Value.ownBlock])⟩
        have hO:∀ y,v'.ownBlock=some y->w.heap.size<=y/\y<w'.heap.size:=fun y hy=>by
         rcases nZ.Kp y hy with e1|e1
         .simp [Value.ownBlock]at e1
         .exact e1
        have ht:rq L w id (fun y=>v'.ownBlock=some y) w':=⟨fun y hy=>⟨.inr (hO y hy).1,(hO y hy).2⟩,hb.size,fun y hy _=>hb.block y hy,hb.os,hb.tape,hb.output⟩
        have hl:=ht.later v' (fun _=>undef);have ot:=nZ.own;rw[bX]at ot;refine⟨v',w',_,.inl lH,r.new id _ (fun y=>v'.ownBlock=some y) v' (fun _=>undef) w' mr hO hb ⟨fun i j=>if i<0 then g i j else g (i-0) j,by rw[Lk.pe];exact ot,fun y=>by rw[Lk.sf,Lk.pe],fun i j hi hj=>(fun(q:iG _ _ _ _ _/\_)=>⟨hl.lg q.1,q.2⟩) (?_:_/\_)⟩ Ir,Lk.AE,Lk.pe.symm⟩;simp only[bj,a6,dh];exact gk i j hi hj
       .cases h
      .cases h
     .cases h
    .cases h
   .cases h
  .cases h
 .cases h
theorem adw(hT:mB P T)(hB:∀ b,B b->b<w0.heap.size){s x:Operand}{t:TypeId}{c:Call}(hc:c={ callee:=.builtin .append,args:=#[s,x],argTypes:=#[t,t] })(iE:o.op = .call c)(r:jA w0 B σ a w L)
 (h:A6 T σ o.dst t (σ.op s) (σ.op x)=some u) (ho:∀ q,q ∈ u.jV->q):kq P K w0 B σ o a w u:=by
 unfold A6 at h;split at h
 .rename_i u0 h0
  split at h
  .rename_i id nl T1 n sz el id' hf hr
   split at h
   .rename_i hid
    have hid:=mN.1 hid;subst hid;cases h;have r2:jA w0 B { σ with nl:=false } a w L:=⟨r.hd,r.hs,r.ht,r.hb,r.hv,r.hn,r.hw,r.hi,r.he,fun h=>by cases h⟩
    obtain⟨v,w',L1,lH,hrel,rG⟩:=R0 (K:=K) hT hc iE r2 h0 fun q hq=>ho q (List.mem_cons_of_mem _ hq)
    rw[hf]at hrel;rw[hr]at rG;obtain⟨L',k1,k2⟩:=jA.fin hB hrel;refine⟨v,w',L',lH,⟨k1.hd,k1.hs,k1.ht,k1.hb,k1.hv,k1.hn,k1.hw,k1.hi,k1.he,fun hn i b hb=>r.hl hn i b ?_⟩,?_⟩
    .have hb:look (σ.b.filter fun x=>!Nat.beq x.1 id') i=some b:=hb
     rw[MX]at hb;split at hb
     .cases hb
     .exact hb
    rw[rG.2];exact k2
   .cases h
  .cases h
 .cases h
theorem adM{x y:Operand}{c:Call}(hc:c.callee = .builtin .max/\c.args = #[x,y])(iE:o.op = .call c)(r:jA w0 B σ a w L){k k':IntKind}{p q:Int}(hx:σ.op x = .e (.v (.int k p)))(hy:σ.op y = .e (.v (.int k' q)))
 (hu:u={ r:=.e (.v (.int k (if q>p then q else p))) }):kq P K w0 B σ o a w u:=by
 have h1:=r.op x;have h2:=r.op y;rw[hx]at h1;rw[hy]at h2;have h1:=iG.kJ h1;have h2:=iG.kJ h2;subst hu;refine kq.pure r (v:=.int k (if q>p then q else p)) ?_ rfl (.v _);have em:(#[x,y]:Array Operand).map a.eval = #[.int k p,.int k' q]:=by simp[h1,h2]
 simp only[execOp,iE,resolve,hc.1,hc.2,em,Sem.run_bind,Sem.run_pure,Result.andThen_ok,invoke,builtin,run_max_int2]
theorem adN{x y z:Operand}{c:Call}(hc:c.callee = .builtin .max/\c.args = #[x,y,z])(iE:o.op = .call c)(r:jA w0 B σ a w L){k k' k'':IntKind}{p q s:Int}(hx:σ.op x = .e (.v (.int k p)))(hy:σ.op y = .e (.v (.int k' q)))(hz:σ.op z = .e (.v (.int k'' s)))
 (hu:u={ r:=.e (.v (.int k (if s>(if q>p then q else p)then s else(if q>p then q else p)))) }):kq P K w0 B σ o a w u:=by
 have h1:=r.op x;have h2:=r.op y;have h3:=r.op z;rw[hx]at h1;rw[hy]at h2;rw[hz]at h3;have h1:=iG.kJ h1;have h2:=iG.kJ h2;have h3:=iG.kJ h3;subst hu;refine kq.pure r (v:=.int k (if s>(if q>p then q else p)then s else(if q>p then q else p))) ?_ rfl (.v _);have em:(#[x,y,z]:Array Operand).map a.eval = #[.int k p,.int k' q,.int k'' s]:=by simp[h1,h2,h3]
 simp only[execOp,iE,resolve,hc.1,hc.2,em,Sem.run_bind,Sem.run_pure,Result.andThen_ok,invoke,builtin,run_max_int3]
theorem adO{x y:Operand}{c:Call}(hc:c.callee = .builtin .min/\c.args = #[x,y])(iE:o.op = .call c)(r:jA w0 B σ a w L){k k':IntKind}{p q:Int}(hx:σ.op x = .e (.v (.int k p)))(hy:σ.op y = .e (.v (.int k' q)))
 (hu:u={ r:=.e (.v (.int k (if q<p then q else p))) }):kq P K w0 B σ o a w u:=by
 have h1:=r.op x;have h2:=r.op y;rw[hx]at h1;rw[hy]at h2;have h1:=iG.kJ h1;have h2:=iG.kJ h2;subst hu;refine kq.pure r (v:=.int k (if q<p then q else p)) ?_ rfl (.v _);have em:(#[x,y]:Array Operand).map a.eval = #[.int k p,.int k' q]:=by simp[h1,h2]
 simp only[execOp,iE,resolve,hc.1,hc.2,em,Sem.run_bind,Sem.run_pure,Result.andThen_ok,invoke,builtin,run_min_int2]
end
open Go.RowKit
structure Gd(P:Program)(K:World->Prop)(w0:World)(B:Nat->Prop):Prop where
 k:K w0
 Ny:∀ w w',K w->Below w.heap.size w w'->K w'
 hB:∀ b,B b->b<w0.heap.size/\oI w0 b
theorem oI.Dd{w w':World}{b:Nat}(h:oI w b)(hb:w'.heap[b]? = w.heap[b]?):oI w' b:=by
 intro o x e;exact h o x (by rw[<-e];exact(World.cell?_of_block (w:=w) (w':=w') hb).symm)
theorem oI.Nk{w:World}{b:Nat}{cs:Array Value}{T:TypeId}{fr:Nat×Nat}(hg:w.heap[b]? = some (.cells cs T fr))(h:∀ v,v ∈ cs->r6 v=false):oI w b:=by
 intro o x e;simp only[World.cell?,hg]at e;simp only[Option.isSome_none,bq,a6]at e;have:=h _ (dz e);cases this
section
variable {P:Program} {K:World->Prop} {T:List TI} {O:qq} {w0:World} {B:Nat->Prop} {σ:PS} {o:Oper} {a:Act} {w:World} {L:Lk} {u:kK}
theorem qs.I2{v:Value}{T:TypeId}{n sz:Nat}{f:Nat->Nat->Value}(h:qs w v T n sz f true){x:Nat}(hx:v.ownBlock=some x):oI w x:=by
 rcases h with⟨rfl,_⟩|⟨b,c,cur,rfl,hg,_,_,_,_,kg⟩
 .simp [Value.ownBlock]at hx
 .simp [Value.ownBlock]at hx
  subst hx;exact oI.Nk hg (kg rfl)
theorem rn.I2{id:Nat}{b:Bx}(h:rn (jB B L) (ko L) L w id b)(hn:b.nl=true){x:Nat}(hx:L.own id x):oI w x:=by
 cases b with
 |cells T l=>
  obtain⟨b,vs,h1,h2,h3,h4,h5⟩:=h;obtain rfl:=(h2 x).1 hx;exact oI.Nk h3 fun v hv=>MT h4 hn v (by simpa using hv)
 |row nl T n sz el=>
  obtain⟨f,h1,h2,h3⟩:=h;have hn:nl=true:=hn;subst hn;exact h1.I2 ((h2 x).1 hx)
 |qa nl T1 T0 n sz len el pend=>
  obtain⟨b,c,cur,f,h1,h2,h3,h4,h5,h6,h7,h8,h9,vN,wQ⟩:=h;have hn:nl=true:=hn;subst hn;rcases(h9 x).1 hx with rfl|⟨k,hk,hkx⟩
  .exact oI.Nk h2 fun v hv=>(h7 v hv).2
  .exact (h8 k hk).1.I2 hkx
theorem jA.PR(g:Gd P K w0 B)(r:jA w0 B σ a w L)(hn:σ.nl=true):∀ b,jB B L b->b<w.heap.size/\oI w b:=by
 intro b hb;rcases hb with hb|⟨id,hb⟩
 .obtain ⟨h1,h2⟩:=g.hB b hb
  exact⟨bD h1 r.he.size,h2.Dd (r.he.block b h1)⟩
 .refine ⟨(r.hw id b hb).2,?_⟩
  have hl:=(r.hv id).1 (r.hn id b hb);obtain⟨bx,iT⟩:=fZ.1 hl;exact(r.hb id bx iT).I2 (r.hl hn id bx iT) hb
theorem rn.kv{id:Nat}{Tt:TypeId}{l:List E}(h:rn (jB B L) (ko L) L w id (.cells Tt l)){b:Nat}(hv:L.val id = .pointer (some ⟨b,0,none⟩))(iD:∀ x,L.own id x->x<w.heap.size):
 iG (jB B L) (fun _=>False) w (.kv l.length fun j=>l.getD j .any) (.pointer (some ⟨b,0,none⟩)):=by
 obtain⟨b',vs,h1,h2,h3,h4,h5⟩:=h;rw[hv]at h1;cases h1;refine .kv _ _ b 0 (fun j=>vs.getD j undef) (fun h=>h) (iD b ((h2 b).2 rfl)) (fun j hj=>?_) (fun j hj=>?_) (fun j hj=>?_)
 .have rW:j<vs.length:=by rw[h4.len];exact hj
  rw[aW,bd rW];exact h5 _ (cw rW)
 .have rW:j<vs.length:=by rw[h4.len];exact hj
  simp only[World.cell?,h3];simp[rW]
 .have rW:j<vs.length:=by rw[h4.len];exact hj
  rw[aW,bd hj,aW,bd rW];exact(h4.lg j _ _ (bd hj) (bd rW)).rk (fun _ h=>h) (fun _ h=>h.elim)
theorem CV.Hl(r:jA w0 B σ a w L){c:CV}{e:E}{is:List Nat}(h:c.ext σ=some (e,is)){v:Value}(hv:xE (jB B L) (ko L) L w c v):iG (jB B L) (fun _=>False) w e v:=by
 cases c with
 |e x=>simp only[CV.ext,bG,b6]at h;obtain⟨rfl,_⟩:=h;exact hv.rk (fun _ h=>h) (fun _ h=>h.elim)
 |box id=>
  simp only[CV.ext]at h;split at h
  .rename_i Tt l ke
   simp only[bG,b6]at h;obtain⟨rfl,_⟩:=h;obtain⟨_,b,k2,rfl⟩:=hv;exact(r.hb id _ ke).kv k2 fun x hx=>(r.hw id x hx).2
  .cases h
theorem RA(r:jA w0 B σ a w L){l:List CV}{es:List E}{is:List Nat}(h:wM σ l=some (es,is)){vs:List Value}(hlen:vs.length=l.length)
 (hv:∀ (i:Nat) (c:CV) (x:Value),l[i]? = some c->vs[i]? = some x->xE (jB B L) (ko L) L w c x):kr (jB B L) (fun _=>False) w es vs:=by
 induction l generalizing es is vs with
 |nil=>simp only[wM,bG,b6]at h;obtain⟨rfl,_⟩:=h;obtain rfl:=de hlen;exact .nil _ _ _
 |cons c l ih=>
  cases vs with
  |nil=>simp at hlen
  |cons v vs=>
   simp only[wM]at h;split at h
   .rename_i x i xs js h1 h2
    simp only[bG,b6]at h;obtain⟨rfl,_⟩:=h;exact .cons (CV.Hl r h1 (hv 0 c v rfl rfl)) (ih h2 (by simpa using hlen) fun i c x hc hx=>hv (i+1) c x (by simpa using hc) (by simpa using hx))
   .cases h
theorem PV.Hl(r:jA w0 B σ a w L){p:PV}{e:E}{is:List Nat}(h:p.ext σ=some (e,is))(mr:p.By=false){v:Value}(hv:nI (jB B L) (ko L) L w p v):iG (jB B L) (fun _=>False) w e v:=by
 cases p with
 |e x=>simp only[PV.ext,bG,b6]at h;obtain⟨rfl,_⟩:=h;exact iG.rk (fun _ h=>h) (fun _ h=>h.elim) hv
 |box id off=>
  cases off with
  |succ=>simp[PV.ext]at h
  |zero=>
   simp only[PV.ext]at h;split at h
   .rename_i Tt l ke
    simp only[bG,b6]at h;obtain⟨rfl,_⟩:=h;obtain⟨_,b,k2,rfl⟩:=hv;exact(r.hb id _ ke).kv k2 fun x hx=>(r.hw id x hx).2
   .cases h
 |sS f cap=>
  simp only[PV.ext]at h;split at h
  .rename_i xs js h1
   simp only[bG,b6]at h;obtain⟨rfl,_⟩:=h;obtain⟨vs,rfl,k2,k3⟩:=hv;have:=RA r h1 k2 k3;exact .fn f xs vs this.len this.lg
  .cases h
 |own id=>cases mr
 |_=>simp[PV.ext]at h
theorem PV.acK(r:jA w0 B σ a w L){p:PV}{e:E}{is:List Nat}(h:p.ext σ=some (e,is)){v:Value}(hv:nI (jB B L) (ko L) L w p v):iG (fun _=>False) (fun _=>False) w e v:=by
 by_cases mr:p.By=false
 .exact (PV.Hl r h mr hv).rk (fun _ h=>h.elim) (fun _ h=>h)
 .cases p with
  |own id=>
   obtain⟨_,rfl⟩:=hv;simp only[PV.ext]at h;split at h
   .rename_i nl T n sz el ke
    simp only[bG,b6]at h;obtain⟨rfl,_⟩:=h;obtain⟨f,h1,h2,h3⟩:=r.hb id _ ke;generalize hvv:L.val id=v at *
    rcases h1 with⟨rfl,rfl⟩|⟨b,c,cur,rfl,hg,pQ,nU,nK,lq,kg⟩
    .exact .sl nl 0 sz el none 0 f (aU _) ag (fun _=>rfl) (fun i j hi=>absurd hi (bj i)) (fun i j hi=>absurd hi (bj i)) (fun i j hi=>absurd hi (bj i)) (fun i j hi=>absurd hi (bj i))
    .have q9:=(h2 b).2 rfl
     refine .sl nl n sz el _ c f pQ (by unfold maxLen at nU;omega) (fun h=>by cases h) (fun i j hi hj=>⟨(lq i j hi hj).2,fun hn=>kg hn _ (dz (lq i j hi hj).1)⟩) (fun i j hi hj=>(h3 i j hi hj).2)
      (fun i j hi hj=>⟨b,0,rfl,fun h=>h,(r.hw id b q9).2,?_⟩) (fun i j hi hj=>((h3 i j hi hj).1.rk (fun _ h=>h.elim) (fun _ h=>h)).nr 2 (h3 i j hi hj).2)
     rw[bX];simp only[World.cell?,hg];simpa using(lq i j hi hj).1
   .cases h
  |_=>exact absurd rfl mr
theorem Ps(r:jA w0 B σ a w L){l:List Operand}{es:List E}{is:List Nat}(h:uC σ l=some (es,is)):kr (fun _=>False) (fun _=>False) w es (l.map a.eval):=by
 induction l generalizing es is with
 |nil=>simp only[uC,bG,b6]at h;obtain⟨rfl,_⟩:=h;exact .nil _ _ _
 |cons x l ih=>
  simp only[uC]at h;split at h
  .rename_i y i xs js h1 h2
   simp only[bG,b6]at h;obtain⟨rfl,_⟩:=h;exact .cons (PV.acK r h1 (r.op x)) (ih h2)
  .cases h
theorem Pr(r:jA w0 B σ a w L){l:List Operand}{es:List E}{is:List Nat}(h:uC σ l=some (es,is))(mr:(l.map σ.op).any PV.By=false):kr (jB B L) (fun _=>False) w es (l.map a.eval):=by
 induction l generalizing es is with
 |nil=>simp only[uC,bG,b6]at h;obtain⟨rfl,_⟩:=h;exact .nil _ _ _
 |cons x l ih=>
  simp only[uC]at h;split at h
  .rename_i y i xs js h1 h2
   simp only[bG,b6]at h;obtain⟨rfl,_⟩:=h;simp only[eR,gR,Bool.or_eq_false_iff]at mr;exact .cons (PV.Hl r h1 mr.1 (r.op x)) (ih h2 mr.2)
  .cases h
def Gn(P:Program)(K:World->Prop)(w0:World)(B:Nat->Prop)(σ:PS)(o:Oper)(a:Act)(w:World)(u:kK):Prop:=
 ∀ (Kc:Act->World->Prop) (Q:Exit->Act->World->Prop),(∀ v w' L',jA w0 B (σ.qK u.f) a w' L'->nI (jB B L') (ko L') L' w' u.r v->Kc (a.put o.dst v) w')->o.wp P a w Kc Q
theorem kq.oJ(h:kq P K w0 B σ o a w u):Gn P K w0 B σ o a w u:=by
 intro Kc Q hk;obtain⟨v,w',L',lH,hr,hp⟩:=h;unfold Oper.wp;rcases lH with lH|⟨lH,rfl⟩
 .rw [lH];exact hk v w' L' hr hp
 .rw [lH];exact hk _ w' L' hr hp
theorem QX(g:Gd P K w0 B)(r:jA w0 B σ a w L){c:Call}{f:Operand}(iE:o.op = .call c)(hf:c.callee = .value f){gf:FuncId}{xs ys:List E}{is:List Nat}{us:List Value}
 {ow:Bool} (zK:a.eval f = .func (.func gf) #[] us.toArray) (aeL:kr (fun _=>False) (fun _=>False) w xs (c.args.toList.map a.eval)) (pT:ow=false->kr (jB B L) (fun _=>False) w xs (c.args.toList.map a.eval)) (yr:kr (jB B L) (fun _=>False) w ys us)
 (h:zz P K O σ o.dst gf (xs++ys) is ow=some u) (ho:∀ q,q ∈ u.jV->q):Gn P K w0 B σ o a w u:=by
 intro Kc Q hk;simp only[zz]at h;split at h
 .rename_i jW EF
  split at h
  .rename_i hc
   cases h;have pc:PC P K gf (xs++ys) jW:=ho _ aj;have aef:=aeL.app (yr.mono fun _ _=>iG.rk (bs':=fun _=>False) (fun _ h=>h.elim) (fun _ h=>h));have lH:(execOp a.eval o).run P w = .ok (.enter gf ((c.args.toList.map a.eval)++us).toArray) w:=by
    have e1:c.args.map a.eval=(c.args.toList.map a.eval).toArray:=by apply dg;simp
    have e2:#[]++(c.args.toList.map a.eval).toArray++us.toArray=((c.args.toList.map a.eval)++us).toArray:= aj ;simp only[execOp,iE,resolve,hf,zK,Deferred.ofValue,Sem.run_bind,Sem.run_pure,Result.andThen_ok,invoke,e1,e2,pc.call]
   unfold Oper.wp;rw[lH];show Calls P gf _ w _;have hK:K w:=g.Ny _ _ g.k r.he;by_cases Bl:jW.plain 3=true
   .refine (pc.run w (fun _=>False) _ hK (fun _ h=>h.elim) aef).mono ?_
    rintro e w' ⟨v,rfl,hb,hv⟩;exact hk v w' L (r.later hb) (iG.plain (w:=w') hv 3 Bl)
   .have hn:σ.nl=true/\ow=false:=by simpa[Bl]using hc
    refine(pc.run w (jB B L) _ hK (r.PR g hn.1) ((pT hn.2).app yr)).mono ?_;rintro e w' ⟨v,rfl,hb,hv⟩;exact hk v w' L (r.later hb) (iG.rk (fun _ h=>h) (fun _ _=>trivial) hv)
  .split at h
   .rename_i hc
    cases h;have pc:AM P K gf (xs++ys) jW:=ho _ aj;have lH:(execOp a.eval o).run P w = .ok (.enter gf ((c.args.toList.map a.eval)++us).toArray) w:=by
     have e1:c.args.map a.eval=(c.args.toList.map a.eval).toArray:=by apply dg;simp
     have e2:#[]++(c.args.toList.map a.eval).toArray++us.toArray=((c.args.toList.map a.eval)++us).toArray:= aj ;simp only[execOp,iE,resolve,hf,zK,Deferred.ofValue,Sem.run_bind,Sem.run_pure,Result.andThen_ok,invoke,e1,e2,pc.call]
    unfold Oper.wp;rw[lH];show Calls P gf _ w _;have hK:K w:=g.Ny _ _ g.k r.he;have hn:ow=false:=by simpa using hc
    refine(pc.run w (jB B L) _ hK (fun b hb=>?_) ((pT hn).app yr)).mono ?_
    .rcases hb with hb|⟨id,hb⟩
     .exact bD (g.hB b hb).1 r.he.size
     .exact (r.hw id b hb).2
    .rintro e w' ⟨v,rfl,hb,hv⟩
     exact hk v w' L (r.later hb) (iG.rk (fun _ h=>h) (fun _ _=>trivial) hv)
   .cases h
 .split at h
  .rename_i d hd
   split at h
   .rename_i nl T n sz el hnw mr
    split at h
    .rename_i hc
     cases h;simp only[bB]at hc;have pc:uB P K gf (xs++ys) nl T n sz el:=ho _ aj;have lH:(execOp a.eval o).run P w = .ok (.enter gf ((c.args.toList.map a.eval)++us).toArray) w:=by
      have e1:c.args.map a.eval=(c.args.toList.map a.eval).toArray:=by apply dg;simp
      have e2:#[]++(c.args.toList.map a.eval).toArray++us.toArray=((c.args.toList.map a.eval)++us).toArray:= aj ;simp only[execOp,iE,resolve,hf,zK,Deferred.ofValue,Sem.run_bind,Sem.run_pure,Result.andThen_ok,invoke,e1,e2,pc.call]
     unfold Oper.wp;rw[lH];show Calls P gf _ w _;have hK:K w:=g.Ny _ _ g.k r.he;have hn:ow=false:=by simpa using hc.2
     refine(pc.run w (jB B L) _ hK (r.PR g hc.1.1) ((pT hn).app yr)).mono ?_
     .rintro e w' ⟨v,rfl,hb,gg,ot,CF,SJ⟩
      have hl:=(r.later hb)
      have aey:=r.new d (.row nl T n sz el) (fun x=>v.ownBlock=some x) v (fun _=>undef) w' mr CF hb
       ⟨gg,by rw[Lk.pe];exact ot,fun x=>by rw[Lk.sf,Lk.pe],fun i j hi hj=>⟨?_,(SJ i j hi hj).2⟩⟩ (by simp[Bx.nl,hc.1.2])
      .exact hk v w' _ aey ⟨Lk.AE,Lk.pe.symm⟩
      .refine (SJ i j hi hj).1.rk (fun b h=>?_) (fun _ _=>trivial)
       rcases h with h|⟨id,h⟩
       .exact .inl (.inl h)
       .by_cases e:id=d
        .subst e;exact .inr ((Lk.sf b).1 h)
        .exact .inl (.inr ⟨id,(Lk.AF e b).1 h⟩)
    .cases h
   .cases h
  .cases h
theorem K4(hT:mB P T)(g:Gd P K w0 B)(r:jA w0 B σ a w L)(h:jL P K T O σ o=some u)(ho:∀ q,q ∈ u.jV->q):Gn P K w0 B σ o a w u:=by
 cases iE:o.op with
 |move x=>exact(adP (P:=P) (K:=K) iE r h).oJ
 |assign x=>exact(adx (P:=P) (K:=K) iE r h).oJ
 |pick c x y=>exact(adR (P:=P) (K:=K) iE r h).oJ
 |alloc t=>exact(adv hT iE r h).oJ
 |box t x=>exact(adz (P:=P) (K:=K) iE r h).oJ
 |build t ps=>exact(adA hT iE r h).oJ
 |buildSlice t n ps=>exact(adB hT (fun b hb=>(g.hB b hb).1) iE r h).oJ
 |load t x=>exact(adJ hT iE r h ho).oJ
 |store t x y=>exact(adT hT iE r h ho).oJ
 |nilCheck x=>exact(adQ (P:=P) (K:=K) iE r h).oJ
 |binOp op t x y yt=>exact(ady hT iE r h ho).oJ
 |unOp op t x=>exact(adU (P:=P) (K:=K) iE r h ho).oJ
 |convert s d x=>exact(adC hT iE r h).oJ
 |makeFunc fn first cap=>exact(adK (P:=P) (K:=K) iE r h).oJ
 |makeSlice t l c=>exact(adL hT iE r h ho).oJ
 |slice t x lo hi mx=>
  cases mx with
  |none=>exact(adS hT iE r h ho).oJ
  |some=>simp[jL,iE]at h
 |fieldAddr t x f=>exact(adF hT iE r h).oJ
 |indexAddr t x i=>exact(adH hT iE r h ho).oJ
 |index t x i=>exact(adG hT iE r h ho).oJ
 |field t x f=>exact(adE hT iE r h).oJ
 |extract x i=>exact(adD (P:=P) (K:=K) iE r h).oJ
 |call c=>
  obtain⟨callee,args,ats⟩:=c;cases callee with
  |builtin b=>
   simp only[jL,iE]at h;cases b
   case len=>
    dsimp only at h;split at h
    .rename_i x t hx ht
     have ha:args = #[x]:=by apply dg;simpa using hx
     have CT:ats = #[t]:=by apply dg;simpa using ht
     split at h
     .rename_i e hd
      obtain⟨rr,hr,rfl⟩:=cG.1 h;exact(adI hT (by rw[ha,CT]) iE hd r hr rfl).oJ
     .cases h
    .cases h
   case append=>
    dsimp only at h;split at h
    .rename_i s x t t' hx ht
     have ha:args = #[s,x]:=by apply dg;simpa using hx
     have CT:ats = #[t,t']:=by apply dg;simpa using ht
     split at h
     .rename_i re
      have re:=mN.1 re;subst re;split at h
      .exact (adw hT (fun b hb=>(g.hB b hb).1) (by rw[ha,CT]) iE r h ho).oJ
      .exact (R0 hT (by rw[ha,CT]) iE r h ho).oJ
     .cases h
    .cases h
   case max=>
    dsimp only at h;split at h
    .rename_i k p k' q hx
     rcases args with⟨l⟩
     rcases l with _|⟨x,_|⟨y,_|⟨z,l⟩⟩⟩<;>simp at hx
     cases h;exact(adM (P:=P) (K:=K) ⟨rfl,rfl⟩ iE r hx.1 hx.2 rfl).oJ
    .rename_i k p k' q k'' s hx
     rcases args with⟨l⟩
     rcases l with _|⟨x,_|⟨y,_|⟨z,_|⟨z',l⟩⟩⟩⟩<;>simp at hx
     cases h;exact(adN (P:=P) (K:=K) ⟨rfl,rfl⟩ iE r hx.1 hx.2.1 hx.2.2 rfl).oJ
    .cases h
   case min=>
    dsimp only at h;split at h
    .rename_i k p k' q hx
     rcases args with⟨l⟩
     rcases l with _|⟨x,_|⟨y,_|⟨z,l⟩⟩⟩<;>simp at hx
     cases h;exact(adO (P:=P) (K:=K) ⟨rfl,rfl⟩ iE r hx.1 hx.2 rfl).oJ
    .cases h
   all_goals cases h
  |value f=>
   simp only[jL,iE]at h;have zK:=r.op f;split at h
   .rename_i gf cap xs is Bk pT
    rw[Bk]at zK;obtain⟨us,e1,yr⟩:=iG.RM zK;exact QX g r iE rfl e1 (Ps r pT) (fun mr=>Pr r pT mr) (yr.mono fun _ _=>iG.rk (fun _ h=>h) (fun _ h=>h.elim)) h ho
   .rename_i gf cap xs is Bk pT
    rw[Bk]at zK;obtain⟨us,e1,k2,k3⟩:=zK;split at h
    .rename_i ys js CZ
     exact QX g r iE rfl e1 (Ps r pT) (fun mr=>Pr r pT mr) (RA r CZ k2 k3) h ho
    .cases h
   .cases h
  |invoke _ _=>simp[jL,iE]at h
 |_=>simp[jL,iE]at h
theorem acm(hT:mB P T)(g:Gd P K w0 B)(r:jA w0 B σ a w L)(h:tC P K T O σ o=some u)(ho:∀ q,q ∈ u.jV->q):Gn P K w0 B σ o a w u:=by
 unfold tC at h;split at h
 .rename_i u0 h0
  split at h
  .split at h
   .rename_i p hp
    cases h;have he:PV.le u0.r p:=ho _ aj;have:=K4 hT g r h0 (fun q hq=>ho q (by simp[hq]));intro Kc Q hk;exact this Kc Q fun v w' L' hr hv=>hk v w' L' hr (he _ _ _ _ _ hv)
   .cases h
    exact K4 hT g r h0 ho
  .cases h
   exact K4 hT g r h0 ho
 .cases h
end
open Go.RowKit
section
variable {P:Program} {K:World->Prop} {T:List TI} {O:qq} {σ τ:PS} {o:Oper} {u:kK}
theorem ahk{x:Operand}(h:∀ t,x = .tmp t->σ.get t=τ.get t):τ.op x=σ.op x:=by
 cases x with
 |tmp t=>exact(h t rfl).symm
 |_=>rfl
theorem aiY{p:PV}{m:Nat}{l:List E}{is:List Nat}{jV:List Prop}(h:σ.read p m=some (l,is,jV))(hb:∀ id,id ∈ is->σ.bo id=τ.bo id):τ.read p m=some (l,is,jV):=by
 cases p with
 |box id off=>
  have h0:=h;simp only[PS.read]at h;split at h
  .split at h
   .simp only[bG,b6]at h
    obtain⟨_,rfl,_⟩:=h;simp only[PS.read,<-hb id aj];exact h0
   .cases h
  .cases h
 |pZ id sz i j=>
  have h0:=h;simp only[PS.read]at h;split at h
  .split at h
   .simp only[bG,b6]at h
    obtain⟨_,rfl,_⟩:=h;simp only[PS.read,<-hb id aj];exact h0
   .cases h
  .cases h
 |e x=>cases x<;>exact h
 |_=>exact h
theorem aa2{c:CV}{e:E}{is:List Nat}(h:c.ext σ=some (e,is))(hb:∀ id,id ∈ is->σ.bo id=τ.bo id):c.ext τ=some (e,is):=by
 cases c with
 |e x=>exact h
 |box id=>
  have h0:=h;simp only[CV.ext]at h;split at h
  .simp only[bG,b6]at h
   obtain⟨_,rfl⟩:=h;simp only[CV.ext,<-hb id aj];exact h0
  .cases h
theorem Rz{l:List CV}{es:List E}{is:List Nat}(h:wM σ l=some (es,is))(hb:∀ id,id ∈ is->σ.bo id=τ.bo id):wM τ l=some (es,is):=by
 induction l generalizing es is with
 |nil=>exact h
 |cons c l ih=>
  simp only[wM]at h;split at h
  .rename_i x i xs js h1 h2
   simp only[bG,b6]at h;obtain⟨rfl,rfl⟩:=h;simp only[wM,aa2 h1 fun id hi=>hb id (by simp[hi]),ih h2 fun id hi=>hb id (by simp[hi])]
  .cases h
theorem ahD{p:PV}{e:E}{is:List Nat}(h:p.ext σ=some (e,is))(hb:∀ id,id ∈ is->σ.bo id=τ.bo id):p.ext τ=some (e,is):=by
 cases p with
 |e x=>exact h
 |box id off=>
  cases off with
  |succ=>exact h
  |zero=>
   have h0:=h;simp only[PV.ext]at h;split at h
   .simp only[bG,b6]at h
    obtain⟨_,rfl⟩:=h;simp only[PV.ext,<-hb id aj];exact h0
   .cases h
 |sS f cap=>
  simp only[PV.ext]at h;split at h
  .rename_i xs js h1
   simp only[bG,b6]at h;obtain⟨rfl,rfl⟩:=h;simp only[PV.ext,Rz h1 hb]
  .cases h
 |own id=>
  have h0:=h;simp only[PV.ext]at h;split at h
  .simp only[bG,b6]at h
   obtain⟨_,rfl⟩:=h;simp only[PV.ext,<-hb id aj];exact h0
  .cases h
 |_=>exact h
theorem Pq{l:List Operand}{es:List E}{is:List Nat}(h:uC σ l=some (es,is))(hg:∀ x,x ∈ l->τ.op x=σ.op x)(hb:∀ id,id ∈ is->σ.bo id=τ.bo id):uC τ l=some (es,is):=by
 induction l generalizing es is with
 |nil=>exact h
 |cons c l ih=>
  simp only[uC]at h;split at h
  .rename_i x i xs js h1 h2
   simp only[bG,b6]at h;obtain⟨rfl,rfl⟩:=h;simp only[uC,hg c aj,ahD h1 fun id hi=>hb id (by simp[hi]),ih h2 (fun x hx=>hg x (by simp[hx])) fun id hi=>hb id (by simp[hi])]
  .cases h
theorem RG{place:Nat->Option (Nat×Nat)}{ps:List (Nat×Operand)}(hg:∀ x,x ∈ ps.map (·.2)->τ.op x=σ.op x):∀ l,rB τ place l ps=rB σ place l ps:=by
 induction ps with
 |nil=>intro l;rfl
 |cons p ps ih=>
  intro l;obtain⟨i,x⟩:=p;simp only[rB,hg x aj,ih fun x hx=>hg x (by simp only[eR,cU];exact .inr hx)]
theorem E8{d:Option Tmp}{b:Bx}{rr:Nat->PV}{jV:List Prop}(h:wi σ d b rr jV=some u)(kg:σ.nl=τ.nl)(hn:∀ id b,u.f = .new id b->τ.bo id=none):wi τ d b rr jV=some u:=by
 obtain⟨id,rfl,mr,hc,rfl⟩:=BD h;rw[kg]at hc;simp only[wi,hn id b rfl,hc,bk]
theorem Rt{d:Option Tmp}{t:TypeId}{s x:PV}{u:kK}(h:zw T σ d t s x=some u)(hb:∀ id,id ∈ u.rb->σ.bo id=τ.bo id)(kg:σ.nl=τ.nl)(hn:∀ id b,u.f = .new id b->τ.bo id=none):zw T τ d t s x=some u:=by
 simp only[zw]at h ⊢;split at h
 .split at h
  .split at h
   .split at h
    .split at h
     .split at h
      .rename_i hc
       simp only[hc,bk];split at h
       .rename_i id
        split at h
        .rename_i ke
         split at h
         .rename_i rC
          cases h;simp only[<-hb id aj,<-kg,ke,rC,bk]
         .cases h
        .cases h
       .rename_i id k
        split at h
        .rename_i ke
         split at h
         .rename_i rC
          cases h;simp only[<-hb id aj,ke,rC,bk]
         .cases h
        .cases h
       .exact E8 h kg hn
       .cases h
      .cases h
     .cases h
    .cases h
   .cases h
  .cases h
 .cases h
theorem ace{d:Option Tmp}{t:TypeId}{s x:PV}{u:kK}(h:A6 T σ d t s x=some u)(hb:∀ id,id ∈ u.rb->σ.bo id=τ.bo id)(kg:σ.nl=τ.nl):A6 T τ d t s x=some u:=by
 unfold A6 at h ⊢;split at h
 .rename_i u0 h0
  split at h
  .rename_i id nl T1 n sz el id' hf hr
   split at h
   .rename_i hid
    cases h;have:=Rt (σ:={ σ with nl:=false }) (τ:={ τ with nl:=false }) h0 hb rfl fun i b e=>by rw[hf]at e;cases e
    rw[this];simp only[hf,hr,hid,bk]
   .cases h
  .cases h
 .cases h
theorem acg(h:jL P K T O σ o=some u)(hg:∀ x,x ∈ o.op.operands->τ.op x=σ.op x)(hb:∀ id,id ∈ u.rb->σ.bo id=τ.bo id)(kg:σ.nl=τ.nl)(hn:∀ id b,u.f = .new id b->τ.bo id=none):
 jL P K T O τ o=some u:=by
 cases iE:o.op with
 |move x=>rw[iE]at hg;simp only[jL,iE]at h ⊢;rw[hg x ax];exact h
 |assign x=>rw[iE]at hg;simp only[jL,iE]at h ⊢;rw[hg x ax];exact h
 |pick c x y=>rw[iE]at hg;simp only[jL,iE]at h ⊢;rw[hg c ax,hg x ax,hg y ax];exact h
 |nilCheck x=>rw[iE]at hg;simp only[jL,iE]at h ⊢;rw[hg x ax];exact h
 |binOp op t x y yt=>rw[iE]at hg;simp only[jL,iE]at h ⊢;rw[hg x ax,hg y ax];exact h
 |unOp op t x=>rw[iE]at hg;simp only[jL,iE]at h ⊢;rw[hg x ax];exact h
 |convert s d x=>rw[iE]at hg;simp only[jL,iE]at h ⊢;rw[hg x ax];exact h
 |index t x i=>rw[iE]at hg;simp only[jL,iE]at h ⊢;rw[hg x ax,hg i ax];exact h
 |extract x i=>rw[iE]at hg;simp only[jL,iE]at h ⊢;rw[hg x ax];exact h
 |fieldAddr t x f=>rw[iE]at hg;simp only[jL,iE]at h ⊢;rw[hg x ax];exact h
 |field t x f=>rw[iE]at hg;simp only[jL,iE]at h ⊢;rw[hg x ax];exact h
 |makeFunc fn first cap=>
  rw[iE]at hg;cases fn with
  |func f=>
   simp only[jL,iE]at h ⊢;have:cap.toList.map τ.op=cap.toList.map σ.op:=e9 fun x hx=>hg x (by simp only[Op.operands,eW];exact .inr (by simpa using hx))
   rw[this];exact h
  |_=>simp[jL,iE]at h
 |slice t x lo hi mx=>
  rw[iE]at hg;cases mx with
  |some=>simp[jL,iE]at h
  |none=>
   simp only[jL,iE]at h ⊢;have e1:lo.map τ.op=lo.map σ.op:=by cases lo with
    |none=>rfl
    |some y=>simp only[cJ];rw[hg y ax]
   have e2:hi.map τ.op=hi.map σ.op:=by cases hi with
    |none=>rfl
    |some y=>simp only[cJ];rw[hg y ax]
   rw[hg x ax,e1,e2];exact h
 |alloc t=>
  simp only[jL,iE]at h ⊢;split at h
  .split at h
   .exact E8 h kg hn
   .cases h
  .cases h
 |box t x=>
  rw[iE]at hg;simp only[jL,iE]at h ⊢;rw[hg x ax];split at h
  .split at h
   .exact E8 h kg hn
   .cases h
  .cases h
 |build t ps=>
  rw[iE]at hg;simp only[jL,iE]at h ⊢;have hf:∀ place l,rB τ place l ps.toList=rB σ place l ps.toList:=fun place=>RG fun x hx=>hg x (by simpa[Op.operands]using hx)
  simp only[hf];exact h
 |buildSlice t n ps=>
  rw[iE]at hg;simp only[jL,iE]at h ⊢;have hf:∀ place l,rB τ place l ps.toList=rB σ place l ps.toList:=fun place=>RG fun x hx=>hg x (by simpa[Op.operands]using hx)
  simp only[hf];split at h
  .split at h
   .split at h
    .split at h
     .split at h
      .rename_i hif
       rw[aR hif];obtain⟨l,hl,h⟩:=fY.1 h;refine fY.2 ⟨l,hl,?_⟩;split at h
       .cases h
       .rename_i h1
        rw[aQ h1];split at h
        .rename_i h2
         rw[aR h2];exact E8 h kg hn
        .rename_i h2
         rw[aQ h2];exact h
      .cases h
     .cases h
    .cases h
   .cases h
  .cases h
 |load t x=>
  rw[iE]at hg;simp only[jL,iE,He]at h ⊢;rw[hg x ax];split at h
  .rename_i ti qL
   split at h
   .rename_i id i n pI
    have aeE:BU τ (σ.op x)=some (id,i,n):=by
     have hid:σ.bo id=τ.bo id:=by
      split at h
      .cases h
      .cases h;exact hb id aj 
     cases hp:σ.op x with
     |pZ id' sz i' j=>
      rw[hp]at pI;have h0:=pI;simp only[BU]at pI;split at pI
      .split at pI
       .simp only[bG,b6]at pI
        obtain⟨rfl,_,_⟩:=pI;simp only[BU,<-hid];exact h0
       .cases pI
      .cases pI
     |_=>rw[hp]at pI;cases pI
    simp only[aeE];exact h
   .rename_i pI
    have key:∀ is,(∃ l jV,σ.read (σ.op x) ti.i.size=some (l,is,jV))->(∀ id,id ∈ is->σ.bo id=τ.bo id)->BU τ (σ.op x)=none:=by
     rintro is ⟨l,jV,hr⟩ mo;cases hp:σ.op x with
     |pZ id sz i j=>
      rw[hp]at hr pI;simp only[PS.read]at hr;split at hr
      .rename_i ke
       split at hr
       .simp only[bG,b6]at hr
        obtain⟨_,rfl,_⟩:=hr;simp only[BU,<-mo id aj,ke]
       .cases hr
      .cases hr
     |_=>rfl
    cases hr:σ.read (σ.op x) ti.i.size with
    |none=>rw[hr]at h;cases h
    |some y=>
     obtain⟨l,is,jV⟩:=y;have Bm:u.rb=is:=by
      rw[hr]at h;simp only[E3]at h;split at h
      .cases h;rfl
      .split at h
       .cases h;rfl
       .cases h
     have mo:∀ id,id ∈ is->σ.bo id=τ.bo id:=fun id hi=>hb id (by rw[Bm];exact hi)
     rw[key is ⟨l,jV,hr⟩ mo];simp only;rw[aiY hr mo];rw[hr]at h;exact h
  .cases h
 |store t x y=>
  rw[iE]at hg;simp only[jL,iE,Hh]at h ⊢;rw[hg x ax,hg y ax];split at h
  .split at h
   .rename_i id off e _ _
    split at h
    .rename_i ke hm
     split at h
     .rename_i hc
      cases h;rw[kg]at hc;simp only[<-hb id aj,ke,hm,hc,bk]
     .cases h
    .cases h
   .rename_i id sz i j e _ _
    split at h
    .rename_i ke hm
     split at h
     .rename_i hc
      cases h;simp only[<-hb id aj,ke,hm,hc,bk]
     .cases h
    .cases h
   .rename_i id i id' k _ _
    split at h
    .rename_i ke
     split at h
     .rename_i hc
      cases h;simp only[<-hb id aj,ke,hc,bk]
     .cases h
    .cases h
   .cases h
  .cases h
 |makeSlice t l c=>
  rw[iE]at hg;simp only[jL,iE,Hf]at h ⊢;rw[hg l ax,hg c ax];split at h
  .exact E8 h kg hn
  .cases h
 |indexAddr t x i=>
  rw[iE]at hg;simp only[jL,iE,Hd]at h ⊢;rw[hg x ax,hg i ax];split at h
  .split at h
   .split at h
    .split at h
     .split at h
      .exact h
      .rename_i id _
       split at h
       .rename_i ke
        split at h
        .rename_i hc
         cases h;simp only[<-hb id aj,ke,hc,bk]
        .cases h
       .rename_i ke
        split at h
        .rename_i hc
         cases h;simp only[<-hb id aj,ke,hc,bk]
        .cases h
       .cases h
      .cases h
     .cases h
    .exact h
    .cases h
   .cases h
  .cases h
 |call c=>
  rw[iE]at hg;obtain⟨callee,args,ats⟩:=c;have ha:∀ x,x ∈ args.toList->τ.op x=σ.op x:=fun x hx=>hg x (by simp only[Op.operands,Call.operands,eW];exact .inr (by simpa using hx))
  have Mb:args.toList.map τ.op=args.toList.map σ.op:=e9 ha;cases callee with
  |builtin b=>
   simp only[jL,iE]at h ⊢;cases b
   case len=>
    dsimp only at h ⊢;split at h
    .rename_i x t hx ht
     split at h
     .obtain ⟨rr,hr,rfl⟩:=cG.1 h
      rw[ha x (by rw[hx];simp)];have:uK (σ.op x) τ=some rr:=by
       cases hp:σ.op x with
       |own id=>
        rw[hp]at hr;have h0:=hr;simp only[uK]at hr;split at hr
        .simp only[bG]at hr
         subst hr;simp only[uK,<-hb id aj];exact h0
        .simp only[bG]at hr
         subst hr;simp only[uK,<-hb id aj];exact h0
        .cases hr
       |e y=>
        rw[hp]at hr;cases y with
        |v z=>cases z<;>exact hr
        |_=>exact hr
       |_=>rw[hp]at hr;exact hr
      rw[this];rfl
     .cases h
    .cases h
   case append=>
    dsimp only at h ⊢;split at h
    .rename_i s x t t' hx ht
     split at h
     .rename_i re
      simp only[re,bk];rw[ha x (by rw[hx];simp),ha s (by rw[hx];simp)];have oD:Gz O o.dst=Gz O o.dst:=rfl;split at h
      .rename_i LI
       simp only[LI,bk];exact ace h hb kg
      .rename_i LI
       simp only[LI,a6,bq];exact Rt h hb kg hn
     .cases h
    .cases h
   case max=>dsimp only at h ⊢;rw[Mb];exact h
   case min=>dsimp only at h ⊢;rw[Mb];exact h
   all_goals cases h
  |value f=>
   have hf:τ.op f=σ.op f:=hg f (by simp[Op.operands,Call.operands]);simp only[jL,iE]at h ⊢;have k0:(args.toList.map τ.op).any PV.By=(args.toList.map σ.op).any PV.By:=by rw[Mb]
   rw[hf,k0];have ec:∀ {gf:FuncId} {zs:List E} {is:List Nat} {ow:Bool},zz P K O σ o.dst gf zs is ow=some u->u.rb=is/\zz P K O τ o.dst gf zs is ow=some u:=by
    intro gf zs is ow hh;simp only[zz]at hh ⊢;rw[kg]at hh;split at hh
    .rename_i jW EF
     refine⟨?_,hh⟩;split at hh
     .cases hh;rfl
     .split at hh
      .cases hh;rfl
      .cases hh
    .split at hh
     .rename_i d hd
      split at hh
      .rename_i nl T n sz el h1 h2
       split at hh
       .rename_i hc
        cases hh;have h3:=hn _ _ rfl;rw[h1,h3];simp only[hc,bk];constructor<;>first|rfl|trivial
       .cases hh
      .cases hh
     .cases hh
   split at h
   .rename_i gf cap xs is Bk pT
    obtain⟨e1,e2⟩:=ec h;rw[Pq pT ha fun id hi=>hb id (by rw[e1];exact hi),Bk];exact e2
   .rename_i gf cap xs is Bk pT
    split at h
    .rename_i ys js CZ
     obtain⟨e1,e2⟩:=ec h;rw[Pq pT ha fun id hi=>hb id (by rw[e1];simp[hi]),Bk];simp only;rw[Rz CZ fun id hi=>hb id (by rw[e1];simp[hi])];exact e2
    .cases h
   .cases h
  |invoke _ _=>simp[jL,iE]at h
 |_=>simp[jL,iE]at h
end
open Go.RowKit
theorem agB{l:List Operand}{t:Tmp}(h:Operand.tmp t ∈ l):t ∈ DG l:=by
 induction l with
 |nil=>simp at h
 |cons x l ih=>
  rcases cU.1 h with h|h
  .subst h;simp[DG]
  .have:=ih h
   cases x<;>simp[DG,this]
theorem aeh{l:List Nat}{n:Nat}:LK l n=true↔n ∈ l:=by
 unfold LK;rw[di];constructor
 .rintro ⟨x,hx,hb⟩;have:=mN.1 hb;subst this;exact hx
 .intro h;exact⟨n,h,du n⟩
theorem I3{l:List Nat}{d:Option Nat}(h:Db l d=true){x:Nat}(hx:d=some x):x ∉ l:=by
 subst hx;simp only[Db,fc]at h;intro hm;rw[aeh.2 hm]at h;cases h
theorem JR{a b:Option Nat}(h:JQ a b=true){x y:Nat}(hx:a=some x)(hy:b=some y):x≠y:=by
 subst hx hy;simp only[JQ,fc]at h;intro e;rw[mN.2 e]at h;cases h
theorem Gb(f:q7)(p:PV):p.py f=if yC f p then p else .e .any:=by
 cases f<;>cases p<;>simp only[PV.py,yC,bk]
 all_goals (split<;>rename_i h<;>simp[h])
theorem MN{f:q7}{p:PV}(h:yC f p=true):p.py f=p:=by rw[Gb,aR h]
theorem afS(f:q7):yC f (.e .any)=true:=by cases f<;>rfl
theorem alU(p:PV)(f g:q7):(p.py f).py g=(p.py g).py f:=by
 rw[Gb f p,Gb g p];cases h1:yC f p<;>cases h2:yC g p<;>simp only[bk,bq,a6,Gb,afS,h1,h2]
structure rp(σ τ:PS):Prop where
 n:σ.n=τ.n
 nl:σ.nl=τ.nl
 get:∀ t,σ.get t=τ.get t
 bo:∀ id,σ.bo id=τ.bo id
theorem rp.refl(σ:PS):rp σ σ:=⟨rfl,rfl,fun _=>rfl,fun _=>rfl⟩
theorem rp.symm{σ τ:PS}(h:rp σ τ):rp τ σ:=⟨h.n.symm,h.nl.symm,fun t=>(h.get t).symm,fun i=>(h.bo i).symm⟩
theorem rp.trans{σ τ υ:PS}(h:rp σ τ)(k:rp τ υ):rp σ υ:=⟨h.n.trans k.n,h.nl.trans k.nl,fun t=>(h.get t).trans (k.get t),fun i=>(h.bo i).trans (k.bo i)⟩
theorem jA.qb{w0:World}{B:Nat->Prop}{σ τ:PS}{a:Act}{w:World}{L:Lk}(r:jA w0 B σ a w L)(h:rp σ τ):jA w0 B τ a w L:=
 ⟨r.hd,r.hs.trans h.n,fun t=>by rw[<-h.get];exact r.ht t,fun id b hb=>r.hb id b (by rw[h.bo];exact hb),fun id=>by rw[<-h.bo];exact r.hv id,r.hn,r.hw,r.hi,r.he,fun hn id b hb=>r.hl (by rw[h.nl];exact hn) id b (by rw[h.bo];exact hb)⟩
theorem AP(σ:PS)(f:q7)(id:Nat):(σ.qK f).bo id=match f with
 | .none=>σ.bo id
 | .new i b | .ur i b | .q8 i b | .vK i b=>if i=id then some b else σ.bo id
 | .fin i=>if i=id then none else σ.bo id:=by
 cases f<;>first|rfl|exact IT _ _ _ _|exact MX _ _ _
theorem Eh(σ:PS)(d:Option Tmp)(u:kK)(t:Nat):(σ.app d u).get t=if d=some t then u.r else(σ.get t).py u.f:=by
 unfold PS.app;cases d with
 |none=>
  rw[aQ aj];exact PS.Hq σ u.f t
 |some d=>
  rw[PS.Lp,PS.Hq];simp only[bG]
theorem AO(σ:PS)(d:Option Tmp)(u:kK)(id:Nat):(σ.app d u).bo id=(σ.qK u.f).bo id:=PS.Z7 _ _ _ _
theorem Fe(σ:PS)(d:Option Tmp)(u:kK):(σ.app d u).n=σ.n:=by unfold PS.app;rw[PS.M5];rfl
theorem Fl(σ:PS)(d:Option Tmp)(u:kK):(σ.app d u).nl=σ.nl:=by unfold PS.app;rw[PS.ahb];rfl
theorem zh(σ:PS)(d:Option Tmp)(u:kK)(id:Nat)(h:u.f.id≠some id):(σ.app d u).bo id=σ.bo id:=by
 rw[AO,AP];cases hf:u.f<;>rw[hf]at h<;>simp only[q7.id,cV,bG]at h<;>first|rfl|exact aQ h
section
variable {P:Program} {K:World->Prop} {T:List TI} {O:qq} {gW:Array Oper} {σ τ:PS} {o:Oper} {u:kK}
theorem aci(h:jL P K T O σ o=some u){x:Operand}(hx:x ∈ o.op.operands):x ∈ Ft o.op:=by
 obtain⟨dst,op,ty,pos,after,guard⟩:=o;simp only at hx ⊢;cases op<;>first
  | (simp only[jL]at h;cases h;done)
  | (exfalso;simp[Op.operands]at hx;done)
  | (simpa[Op.operands,Ft]using hx)
  | (simpa[Op.operands,Ft,or_assoc]using hx)
  |skip
 case call c=>
  obtain⟨callee,args,ats⟩:=c;cases callee<;>simpa[Op.operands,Ft,Call.operands]using hx
theorem Fa{d:Option Tmp}{b:Bx}{rr:Nat->PV}{jV:List Prop}(h:wi σ d b rr jV=some u){id:Nat}{b':Bx}(hf:u.f = .new id b'):σ.bo id=none:=by
 obtain⟨i,_,mr,_,rfl⟩:=BD h;cases hf;exact mr
theorem ach(h:jL P K T O σ o=some u){id:Nat}{b:Bx}(hf:u.f = .new id b):σ.bo id=none:=by
 cases iE:o.op
 case alloc=>
  simp only[jL,iE]at h;split at h
  .split at h
   .exact Fa h hf
   .cases h
  .cases h
 case box=>
  simp only[jL,iE]at h;split at h
  .split at h
   .exact Fa h hf
   .cases h
  .cases h
 case makeSlice=>
  simp only[jL,iE,Hf]at h;split at h
  .exact Fa h hf
  .cases h
 case makeFunc fn first cap=>
  cases fn with
  |func f=>
   simp only[jL,iE]at h
   repeat' split at h
   all_goals first
    | (cases h;done)
    | (cases h;cases hf;done)
  |_=>simp[jL,iE]at h
 case slice t x lo hi mx=>
  cases mx with
  |none=>
   simp only[jL,iE,Hg]at h
   repeat' split at h
   all_goals first
    | (cases h;done)
    | (cases h;cases hf;done)
  |some=>simp[jL,iE]at h
 case call c=>
  obtain⟨callee,args,ats⟩:=c;cases callee with
  |builtin b=>
   simp only[jL,iE]at h;cases b
   case append=>
    dsimp only at h;split at h
    .split at h
     .split at h
      .unfold A6 at h
       split at h
       .split at h
        .split at h
         .cases h;cases hf
         .cases h
        .cases h
       .cases h
      .simp only[zw]at h
       repeat' split at h
       all_goals first
        | (cases h;done)
        |exact Fa h hf
        | (cases h;cases hf;done)
     .cases h
    .cases h
   all_goals
    dsimp only at h
    repeat' split at h
    all_goals first
     | (cases h;done)
     | (cases h;cases hf;done)
     | (obtain⟨_,_,rfl⟩:=cG.1 h;cases hf)
  |value f=>
   simp only[jL,iE]at h
   repeat' split at h
   all_goals first
    | (cases h;done)
    | (simp only[zz]at h;repeat' split at h)
   all_goals first
    | (cases h;done)
    | (cases h;cases hf;done)
    | (cases h;cases hf;assumption)
  |invoke _ _=>simp[jL,iE]at h
 all_goals
  simp only[jL,iE,Hh,Hd,Hg,He,E3]at h
  repeat' split at h
  all_goals first
   | (cases h;done)
   | (cases h;cases hf;done)
   | (obtain⟨_,_,rfl⟩:=cG.1 h;cases hf)
   |skip
 all_goals first
  | (obtain⟨_,_,h⟩:=fY.1 h;repeat' split at h)
  |skip
 all_goals first
  |exact Fa h hf
  | (cases h;done)
  | (cases h;cases hf;done)
theorem K7(h:tC P K T O σ o=some u):∃ u0,jL P K T O σ o=some u0/\u0.rb=u.rb/\u0.f=u.f:=by
 unfold tC at h;split at h
 .rename_i u0 h0
  split at h
  .split at h
   .cases h;exact⟨u0,h0,rfl,rfl⟩
   .cases h;exact⟨_,h0,rfl,rfl⟩
  .cases h;exact⟨_,h0,rfl,rfl⟩
 .cases h
theorem ack(h:tC P K T O σ o=some u)(hg:∀ x,x ∈ o.op.operands->τ.op x=σ.op x)(hb:∀ id,id ∈ u.rb->σ.bo id=τ.bo id)(kg:σ.nl=τ.nl)(hn:∀ id b,u.f = .new id b->τ.bo id=none):
 tC P K T O τ o=some u:=by
 obtain⟨u0,h0,e1,e2⟩:=K7 h;have:=acg (τ:=τ) h0 hg (by rw[e1];exact hb) kg (by rw[e2];exact hn);unfold tC at h ⊢;rw[h0]at h;rw[this];exact h
theorem Ea(h:qS P K T O gW σ o=some u):u4 σ o.dst=true/\u.rd=(looks gW o).map σ.get/\((y5 gW σ o=some true/\∃ u0,tC P K T O σ o=some u0/\u={ u0 with rd:=(looks gW o).map σ.get })\/(y5 gW σ o=some false/\u={ r:=.e (.v (.tuple #[])),rd:=(looks gW o).map σ.get })):=by
 unfold qS at h;split at h
 .rename_i hi
  split at h
  .rename_i hw
   split at h
   .rename_i u0 h0
    cases h;exact⟨hi,rfl,.inl ⟨hw,u0,h0,rfl⟩⟩
   .cases h
  .rename_i hw
   cases h;exact⟨hi,rfl,.inr ⟨hw,rfl⟩⟩
  .cases h
 .cases h
theorem K5(h:qS P K T O gW σ o=some u)(hg:∀ t,t ∈ looks gW o->σ.get t=τ.get t)(hb:∀ id,id ∈ u.rb->σ.bo id=τ.bo id)(kg:σ.nl=τ.nl)(lI:σ.n=τ.n)(hn:∀ id b,u.f = .new id b->τ.bo id=none):
 qS P K T O gW τ o=some u:=by
 obtain⟨hi,_,hw⟩:=Ea h;have lV:u4 τ o.dst=u4 σ o.dst:=by cases o.dst<;>simp[u4,lI]
 have Mp:y5 gW τ o=y5 gW σ o:=by
  unfold y5;cases Be:o.guard with
  |none=>rfl
  |some jw=>
   obtain⟨j,want⟩:=jw;cases hd:(gW[j]?).bind (·.dst)with
   |none=>simp[hd]
   |some t=>
    simp only[hd];rw[hg t (by unfold looks;rw[Be];simp[hd])]
 have Ix:(looks gW o).map τ.get=(looks gW o).map σ.get:=e9 fun t ht=>(hg t ht).symm
 unfold qS;rw[lV,hi,Mp,Ix];simp only[bk];rcases hw with⟨hw,u0,h0,rfl⟩|⟨hw,rfl⟩
 .rw [hw]
  have iE:∀ x,x ∈ o.op.operands->τ.op x=σ.op x:=by
   intro x hx;obtain⟨u1,h1,_,_⟩:=K7 h0;have hm:=aci h1 hx;refine ahk fun t ht=>hg t ?_
   subst ht;unfold looks;exact List.mem_append_left _ (agB hm)
  simp only[ack h0 iE hb kg hn]
 .rw [hw]
theorem K6(h:qS P K T O gW σ o=some u){id:Nat}{b:Bx}(hf:u.f = .new id b):σ.bo id=none:=by
 obtain⟨_,_,⟨_,u0,h0,rfl⟩|⟨_,rfl⟩⟩:=Ea h
 .obtain ⟨u1,h1,_,e2⟩:=K7 h0
  exact ach h1 (by rw[e2];exact hf)
 .cases hf
theorem acj(h:qS P K T O gW σ o=some u)(hs:rp σ τ):qS P K T O gW τ o=some u:=
 K5 h (fun t _=>hs.get t) (fun id _=>hs.bo id) hs.nl hs.n fun id b hf=>by rw[<-hs.bo];exact K6 h hf
theorem Y2(hs:rp σ τ)(d:Option Tmp)(u:kK):rp (σ.app d u) (τ.app d u):=
 ⟨by rw[Fe,Fe];exact hs.n,by rw[Fl,Fl];exact hs.nl,fun t=>by rw[Eh,Eh,hs.get],fun id=>by rw[AO,AO,AP,AP,hs.bo]⟩
theorem akS{O':qq}{x y:Oper×kK}(hi:Bu gW x y=true)(h1:qS P K T O gW σ x.1=some x.2)(h2:qS P K T O' gW (σ.app x.1.dst x.2) y.1=some y.2):
 qS P K T O' gW σ y.1=some y.2/\qS P K T O gW (σ.app y.1.dst y.2) x.1=some x.2/\rp ((σ.app x.1.dst x.2).app y.1.dst y.2) ((σ.app y.1.dst y.2).app x.1.dst x.2):=by
 simp only[Bu,bB]at hi;obtain⟨⟨⟨⟨⟨⟨⟨⟨⟨i1,i2⟩,i3⟩,i4⟩,i5⟩,i6⟩,i7⟩,i8⟩,i9⟩,i10⟩:=hi;obtain⟨_,rx,_⟩:=Ea h1;obtain⟨_,ry,_⟩:=Ea h2;have r1:qS P K T O' gW σ y.1=some y.2:=by
  refine K5 h2 (fun t ht=>?_) (fun id hid=>zh _ _ _ _ fun e=>I3 i4 e hid) (Fl _ _ _) (Fe _ _ _) fun id b hf=>?_
  .have hg:(σ.app x.1.dst x.2).get t=(σ.get t).py x.2.f:=by
    rw[Eh,aQ fun e=>I3 i1 e ht]
   rw[hg];by_cases hv:x.2.f.JW=true
   .have uX:Nd ((σ.get t).py x.2.f)=true:=by
     have h9:y.2.rd.all Nd=true:=by simpa[hv]using i9
     rw[ry]at h9;exact bF.1 h9 _ (cY.2 ⟨t,ht,hg⟩)
    rw[Gb]at uX ⊢;split at uX
    .rename_i hk;rw[aR hk]
    .cases uX
   .cases hf:x.2.f<;>rw[hf]at hv<;>first|exact absurd rfl hv|(cases σ.get t<;>rfl)
  .have:=K6 h2 hf
   rwa[zh _ _ _ _ fun e=>JR i6 e (by rw[hf];rfl) rfl]at this
 refine⟨r1,?_,?_⟩
 .refine K5 h1 (fun t ht=>?_) (fun id hid=>(zh _ _ _ _ fun e=>I3 i5 e hid).symm) (Fl _ _ _).symm (Fe _ _ _).symm fun id b hf=>?_
  .rw [Eh,aQ fun e=>I3 i3 e ht]
   rw[rx]at i10;exact(MN (bF.1 i10 _ (cY.2 ⟨t,ht,rfl⟩))).symm
  .rw [zh _ _ _ _ fun e=>JR i6 (by rw[hf];rfl) e rfl]
   exact K6 h1 hf
 .refine ⟨by simp only[Fe],by simp only[Fl],fun t=>?_,fun id=>?_⟩
  .simp only[Eh]
   by_cases hx:x.1.dst=some t
   .have hy:¬y.1.dst=some t:=fun e=>JR i2 hx e rfl
    rw[aQ hy,aR hx,aR hx,MN i8]
   .by_cases hy:y.1.dst=some t
    .rw [aR hy,aQ hx,aR hy,MN i7]
    .rw [aQ hy,aQ hx,aQ hx,aQ hy,alU]
  .by_cases hx:x.2.f.id=some id
   .have hy:y.2.f.id≠some id:=fun e=>JR i6 hx e rfl
    rw[zh _ _ _ _ hy,AO,AO,AP,AP,zh _ _ _ _ hy]
   .rw [zh _ _ x.2 _ hx]
    rw[AO,AO,AP,AP,zh _ _ _ _ hx]
end
section
variable {P:Program} {K:World->Prop} {T:List TI} {O:qq} {gW:Array Oper}
def vy(P:Program)(K:World->Prop)(T:List TI)(gW:Array Oper):List (Oper×kK)->PS->PS->Prop
 | [],σ,τ=>rp σ τ
 |x::l,σ,τ=>(∃ O,qS P K T O gW σ x.1=some x.2)/\vy P K T gW l (σ.app x.1.dst x.2) τ
theorem vy.qb{l:List (Oper×kK)}{σ σ2 τ:PS}(h:vy P K T gW l σ τ)(hs:rp σ σ2):vy P K T gW l σ2 τ:=by
 induction l generalizing σ σ2 with
 |nil=>exact hs.symm.trans h
 |cons x l ih=>exact⟨h.1.imp fun _ h=>acj h hs,ih h.2 (Y2 hs _ _)⟩
theorem vy.ac9{A C:List (Oper×kK)}{y:Oper×kK}{σ τ:PS}(h:vy P K T gW (A++y::C) σ τ)(hi:∀ x,x ∈ A->Bu gW x y=true):
 (∃ O,qS P K T O gW σ y.1=some y.2)/\vy P K T gW (A++C) (σ.app y.1.dst y.2) τ:=by
 induction A generalizing σ with
 |nil=>exact h
 |cons x A ih=>
  obtain⟨⟨O1,h1⟩,h2⟩:=h;obtain⟨⟨O2,k1⟩,k2⟩:=ih h2 fun z hz=>hi z (by simp[hz])
  obtain⟨s1,s2,s3⟩:=akS (hi x aj) h1 k1;exact⟨⟨O2,s1⟩,⟨O1,s2⟩,k2.qb s3⟩
end
open Go.RowKit
section
variable {P:Program} {K:World->Prop} {T:List TI} {O:qq} {w0:World} {B:Nat->Prop} {σ τ:PS} {o:Oper} {a:Act} {w:World} {L:Lk} {u:kK} {gW:Array Oper}
theorem Yn(r:jA w0 B σ a w L){b:Bool}(h:y5 gW σ o=some b):Region.wanted o (yielded gW a.tmps)=b:=by
 unfold y5 at h;unfold Region.wanted;split at h
 .rename_i hg
  rw[hg];simpa using h
 .rename_i j want hg
  rw[hg];simp only;split at h
  .rename_i t ht
   have hv:=r.ht t;have key:∀ q:Bool,σ.get t = .e (.v (.bool q))->yielded gW a.tmps j=some q:=by
    intro q hq;rw[hq]at hv;have hv:=iG.kJ hv;unfold yielded;rw[ht];simp only[Option.bind_some];have iD:a.tmps[t]? = some (.bool q):=by
     by_cases hs:t<a.tmps.size
     .simpa [hs]using hv
     .simp [hs,undef]at hv
    rw[iD]
   split at h
   .rename_i hq
    rw[key true hq];simp only[bG]at h;subst h;cases want<;>rfl
   .rename_i hq
    rw[key false hq];simp only[bG]at h;subst h;cases want<;>rfl
   .rename_i q hq
    rw[hq]at hv;have hv:=iG.kJ hv;have hn:yielded gW a.tmps j=none:=by
     unfold yielded;rw[ht];simp only[Option.bind_some];by_cases hs:t<a.tmps.size
     .rw [show a.tmps[t]? = some (.tuple q)by simpa[hs]using hv]
     .simp [hs]
    rw[hn];simp only[bG]at h;subst h;cases want<;>rfl
   .cases h
  .cases h
theorem Rv(hT:mB P T)(g:Gd P K w0 B)(r:jA w0 B σ a w L)(h:qS P K T O gW σ o=some u)(ho:∀ q,q ∈ u.jV->q)(Kc:Act->World->Prop)(Q:Exit->Act->World->Prop)
 (hk:∀ a' w' L',jA w0 B (σ.app o.dst u) a' w' L'->Kc a' w'):
 (Region.wanted o (yielded gW a.tmps)=true/\o.wp P a w Kc Q)\/(Region.wanted o (yielded gW a.tmps)=false/\Kc (a.put o.dst undef) w):=by
 obtain⟨hi,_,⟨hw,u0,h0,rfl⟩|⟨hw,rfl⟩⟩:=Ea h
 .refine .inl ⟨Yn r hw,acm hT g r h0 ho Kc Q fun v w' L' hr hp=>hk _ w' L' ?_⟩
  have oL:u4 (σ.qK u0.f) o.dst=true:=by cases hd:o.dst<;>rw[hd]at hi<;>exact hi
  exact hr.put o.dst u0.r v oL hp
 .exact .inr ⟨Yn r hw,hk _ w L (r.put o.dst (.e (.v (.tuple #[]))) undef hi (.v _))⟩
structure Left(gW:Array Oper)(listed:Array Bool)(R:List (Nat×Oper×kK)):Prop where
 ln:∀ x,x ∈ R->gW[x.1]? = some x.2.1/\listed.getD x.1 true=false
 all:∀ i,i<gW.size->listed.getD i true=false->∃ x,x ∈ R/\x.1=i
 pw:R.Pairwise fun x y=>x.1<y.1/\(AA gW 3 y.2.1 x.1||Bu gW x.2 y.2)=true
 ed:∀ x,x ∈ R->∀ e,e ∈ x.2.1.after->Region.binds .any e=true->e.on<x.1
 up:∀ x,x ∈ R->∀ j z,gW[j]? = some z->Bw z x.1=true->listed.getD j true=false
theorem Left.AA{listed:Array Bool}{R:List (Nat×Oper×kK)}(h:Left gW listed R){x:Nat×Oper×kK}(hx:x ∈ R):∀ (n:Nat) (j:Nat) (z:Oper),gW[j]? = some z->Pu.AA gW n z x.1=true ->
 listed.getD j true=false/\∃ e,e ∈ z.after/\Region.binds .any e=true/\listed.getD e.on true=false/\e.on<gW.size:=by
 have direct:∀ (j:Nat) (z:Oper),gW[j]? = some z->Bw z x.1=true->listed.getD j true=false/\∃ e,e ∈ z.after/\Region.binds .any e=true/\listed.getD e.on true=false/\e.on<gW.size:=by
  intro j z hz he;refine⟨h.up x hx j z hz he,?_⟩;unfold Bw at he;obtain⟨e,kQ,kx⟩:=di.1 he;simp only[bB]at kx;have oO:=h.ln x hx;refine⟨e,by simpa using kQ,kx.1,?_,?_⟩
  .rw [mN.1 kx.2];exact oO.2
  .rw [mN.1 kx.2];exact(cP.1 oO.1).1
 intro n
 induction n with
 |zero=>exact direct
 |succ n ih=>
  intro j z hz hr;simp only[Pu.AA,fF]at hr;rcases hr with hr|hr
  .exact direct j z hz hr
  .obtain ⟨e,kQ,kx⟩:=di.1 hr
   simp only[bB]at kx;obtain⟨kx,LU⟩:=kx;split at LU
   .rename_i z' xh
    obtain⟨k1,_⟩:=ih e.on z' xh LU;have iD:=(cP.1 xh).1;obtain⟨x',zY,IE⟩:=h.all e.on iD k1;refine⟨h.up x' zY j z hz ?_,e,by simpa using kQ,kx,k1,iD⟩;unfold Bw;refine di.2 ⟨e,kQ,?_⟩;rw[kx,IE];simp
   .cases LU
theorem NT{md:Region.Mode}{listed:Array Bool}{i:Nat}:i ∈ Region.ready md gW listed↔i<gW.size/\listed.getD i true=false/\∃ o,gW[i]? = some o/\∀ e,e ∈ o.after->Region.binds md e=true->listed.getD e.on false=true:=by
 unfold Region.ready;rw[List.mem_filter];simp only[bI,bB,fc];constructor
 .rintro ⟨h1,h2,h3⟩
  refine⟨h1,h2,gW[i],by simp[h1],fun e he hb=>?_⟩;rw[Array.getElem?_eq_getElem h1]at h3;simp only[cJ,amI,am6]at h3;have:=h3 e he;simpa[hb]using this
 .rintro ⟨h1,h2,o,h3,h4⟩
  refine⟨h1,h2,?_⟩;rw[h3];simp only[cJ,amI,am6];intro e he;cases hb:Region.binds md e with
  |false=>rfl
  |true=>simpa using h4 e he hb
theorem YW(hT:mB P T)(g:Gd P K w0 B){Q:Exit->Act->World->Prop}(hq:∀ a' w' L',jA w0 B τ a' w' L'->Q .normal a' w'):
 ∀ (fuel:Nat) (listed:Array Bool) (R:List (Nat×Oper×kK)) (σ:PS) (a:Act) (w:World) (L:Lk),R.length=fuel->listed.size=gW.size->Left gW listed R->(∀ x,x ∈ R->∀ q,q ∈ x.2.2.jV->q) ->
  vy P K T gW (R.map (·.2)) σ τ->jA w0 B σ a w L->wpAny P .any gW Q fuel listed a w:=by
 intro fuel
 induction fuel with
 |zero=>
  intro listed R σ a w L hlen CL hleft ho Iy r;have hR:=de hlen;subst hR;refine⟨?_,hq a w L (r.qb Iy)⟩;apply List.eq_nil_iff_forall_not_mem.2;intro i hi;obtain⟨h1,h2,_⟩:=NT.1 hi;obtain⟨x,hx,_⟩:=hleft.all i h1 h2;simp at hx
 |succ fuel ih=>
  intro listed R σ a w L hlen CL hleft ho Iy r;refine⟨fun Bh=>?_,fun i hi=>?_⟩
  .
   exfalso;cases R with
   |nil=>simp at hlen
   |cons x R=>
    have hx:=hleft.ln x aj;have iD:x.1<gW.size:=(cP.1 hx.1).1;have:x.1 ∈ Region.ready .any gW listed:=NT.2 ⟨iD,hx.2,x.2.1,hx.1,fun e he hb=>by
     have CQ:=hleft.ed x aj e he hb;cases hl:listed.getD e.on true with
     |true=>
      have:e.on<listed.size:= ae ;simp[this]at hl ⊢;exact hl
     |false=>
      exfalso;obtain⟨y,hy,IG⟩:=hleft.all e.on ae hl;rcases cU.1 hy with hy|hy
      .subst hy;omega
      .have:=(amJ.1 hleft.pw).1 y hy;omega⟩
    rw[Bh]at this;simp at this
  .obtain ⟨h1,h2,o,h3,h4⟩:=NT.1 hi
   obtain⟨y,hy,hyi⟩:=hleft.all i h1 h2;subst hyi;obtain⟨A,C,rfl⟩:=List.append_of_mem hy;have IH:=hleft.ln y hy;have aet:∀ x,x ∈ A->Bu gW x.2 y.2=true:=by
    intro x hx;have hp:=(amK.1 hleft.pw).2.2 x hx y aj;rcases Bool.or_eq_true_iff.1 hp.2 with he|he
    .exfalso
     obtain⟨_,e,kQ,kx,lv,iD⟩:=hleft.AA (show x ∈ A++y::C by simp[hx]) 3 y.1 y.2.1 IH.1 he;have q9:o=y.2.1:=by rw[IH.1]at h3;exact(amL h3).symm
     have hl:=h4 e (by rw[q9];exact kQ) kx;have pT:e.on<listed.size:=by rw[CL];exact iD
     simp[pT]at hl lv;rw[hl]at lv;cases lv
    .exact he
   rw[gP,eR]at Iy;obtain⟨⟨O,k1⟩,k2⟩:=Iy.ac9 (fun x hx=>by
    obtain⟨z,hz,rfl⟩:=cY.1 hx;exact aet z hz)
   have aew:Left gW (listed.setIfInBounds y.1 true) (A++C):=by
    have ks:∀ x,x ∈ A++C->x.1≠y.1:=by
     intro x hx;rcases dD.1 hx with hx|hx
     .have:=((amK.1 hleft.pw).2.2 x hx y aj).1;omega
     .have:=((amJ.1 (amK.1 hleft.pw).2.1).1 x hx).1;omega
    have IB:∀ x,x ∈ A++C->x ∈ A++y::C:=fun x hx=>by
     rcases dD.1 hx with hx|hx<;>simp[hx]
    refine⟨fun x hx=>?_,fun j hj hl=>?_,?_,fun x hx=>hleft.ed x (IB x hx),fun x hx j z hz he=>?_⟩
    .obtain ⟨q1,q2⟩:=hleft.ln x (IB x hx)
     refine⟨q1,?_⟩;have pT:x.1<listed.size:=by rw[CL];exact(cP.1 q1).1
     simp[pT]at q2 ⊢;rw[amM _ (fun e=>ks x hx e.symm)];exact q2
    .have Ii:j<listed.size:= ae 
     by_cases CI:j=y.1
     .subst CI
      simp[Ii]at hl
     .have:listed.getD j true=false:=by
       simp[Ii]at hl ⊢;rw[amM _ (fun e=>CI e.symm)]at hl;exact hl
      obtain⟨x,hx,IF⟩:=hleft.all j hj this;refine⟨x,?_,IF⟩;rcases dD.1 hx with hx|hx
      .simp [hx]
      .rcases cU.1 hx with hx|hx
       .subst hx;exact absurd IF.symm CI
       .simp [hx]
    .exact hleft.pw.sublist (List.Sublist.append (List.Sublist.refl A) (List.sublist_cons_self y C))
    .have q:=hleft.up x (IB x hx) j z hz he
     have Ii:j<listed.size:=by rw[CL];exact(cP.1 hz).1
     by_cases CI:j=y.1
     .exfalso
      subst CI;rw[IH.1]at hz h3;cases hz;cases h3;unfold Bw at he;obtain⟨e,kQ,kx⟩:=di.1 he;simp only[bB]at kx;have hl:=h4 e (by simpa using kQ) kx.1;rw[mN.1 kx.2]at hl;have lv:=(hleft.ln x (IB x hx))
      have pT:x.1<listed.size:=by rw[CL];exact(cP.1 lv.1).1
      have lv:=lv.2;simp[pT]at hl lv;rw[hl]at lv;cases lv
     .simp [Ii]at q ⊢
      rw[amM _ (fun e=>CI e.symm)];exact q
   unfold wpOp;rw[IH.1];simp only;rcases Rv hT g r k1 (ho y aj) (wpAny P .any gW Q fuel (listed.setIfInBounds y.1 true)) Q (fun a' w' L' hr=>ih _ (A++C) _ a' w' L' (by simp at hlen ⊢;omega) (by simpa using CL) aew (fun x hx=>ho x (by
    rcases dD.1 hx with hx|hx<;>simp[hx])) (by rw[gP];exact k2) hr)with⟨p1,p2⟩|⟨p1,p2⟩
   .rw [aR p1];exact .inl p2
   .rw [aQ (by rw[p1];simp)];exact p2
theorem af1{us:List (Oper×kK)}(yr:us.map (·.1)=gW.toList)(hp:Df gW 0 us=true):
 ∃ R:List (Nat×Oper×kK),R.map (·.2)=us/\R.length=gW.size/\Left gW (Array.replicate gW.size false) R:=by
 have key:∀ (us:List (Oper×kK)) (k:Nat),Df gW k us=true->(∀ j x,us[j]? = some x->gW[k+j]? = some x.1) ->
  ∃ R:List (Nat×Oper×kK),R.map (·.2)=us/\(∀ j x,R[j]? = some x->x.1=k+j)/\(∀ x,x ∈ R->gW[x.1]? = some x.2.1)/\(R.Pairwise fun x y=>x.1<y.1/\(AA gW 3 y.2.1 x.1||Bu gW x.2 y.2)=true) /\
   (∀ x,x ∈ R->∀ e,e ∈ x.2.1.after->Region.binds .any e=true->e.on<x.1):=by
  intro us
  induction us with
  |nil=>exact fun k _ _=>⟨[],rfl,fun j x h=>by simp at h,fun x h=>by simp at h,List.Pairwise.nil,fun x h=>by simp at h⟩
  |cons x us ih=>
   intro k hp oO;simp only[Df,bB]at hp;obtain⟨R,r1,r2,r3,r4,r5⟩:=ih (k+1) hp.2 (fun j y hy=>by have:=oO (j+1) y (by simpa using hy);rwa[show k+(j+1)=k+1+j by omega]at this);have pO:∀ y,y ∈ R->k<y.1/\y.2 ∈ us:=by
    intro y hy;obtain⟨j,hj⟩:=df.1 hy;have:=r2 j y hj;exact⟨ae,by rw[<-r1];exact cY.2 ⟨y,hy,rfl⟩⟩
   refine⟨(k,x)::R,by simp[r1],fun j y hy=>?_,fun y hy=>?_,?_,fun y hy=>?_⟩
   .cases j with
    |zero=>simp at hy;subst hy;rfl
    |succ j=>have:=r2 j y (by simpa using hy);omega
   .rcases cU.1 hy with hy|hy
    .subst hy;have:=oO 0 x rfl;simpa using this
    .exact r3 y hy
   .rw [amJ]
    refine⟨fun y hy=>⟨(pO y hy).1,?_⟩,r4⟩;exact bF.1 hp.1.2 y.2 (pO y hy).2
   .rcases cU.1 hy with hy|hy
    .subst hy
     intro e he hb;have:=bF.1 hp.1.1 e (by simpa using he);simpa[hb]using this
    .exact r5 y hy
 obtain⟨R,r1,r2,r3,r4,r5⟩:=key us 0 hp (fun j x hx=>by
  rw[bX];have:=congrArg (·[j]?) yr;simp only[cj,hx,cJ]at this;simpa using this.symm)
 have hlen:R.length=gW.size:=by
  have h1:=congrArg List.length r1;have h2:=congrArg List.length yr;simp at h1 h2;omega
 refine⟨R,r1,hlen,fun x hx=>⟨r3 x hx,?_⟩,fun i hi _=>?_,r4,r5,fun x hx j z hz _=>by have:=(cP.1 hz).1;simp[this]⟩
 .have:=(cP.1 (r3 x hx)).1
  simp[this]
 .have oL:i<R.length:= ae 
  exact⟨R[i],cw oL,by have:=r2 i R[i] (bd oL);omega⟩
end
open Go.RowKit
def PS.le(σ τ:PS):Prop:=∀ (w0:World) (B:Nat->Prop) (a:Act) (w:World) (L:Lk),(∀ b,B b->b<w0.heap.size)->jA w0 B σ a w L->∃ L',jA w0 B τ a w L'
theorem PS.le.refl(σ:PS):PS.le σ σ:=fun _ _ _ _ L _ r=>⟨L,r⟩
theorem PS.le.trans{σ τ υ:PS}(h:PS.le σ τ)(k:PS.le τ υ):PS.le σ υ:=fun w0 B a w L g r=>let⟨L',r'⟩:=h w0 B a w L g r;k w0 B a w L' g r'
theorem PV.le.refl(p:PV):PV.le p p:=fun _ _ _ _ _ h=>h
def Bx.le(a b:Bx):Prop:=(a.nl=true->b.nl=true)/\∀ (bs br:Nat->Prop) (L:Lk) (w:World) (id:Nat),rn bs br L w id a->rn bs br L w id b
theorem Bx.le.refl(a:Bx):Bx.le a a:=⟨id,fun _ _ _ _ _ h=>h⟩
def wG(σ:PS):List (Nat×PV)->Prop
 | []=>True
 | (k,p)::l=>PV.le (σ.get k) p/\wG σ l
def vv(σ:PS):List (Nat×Bx)->Prop
 | []=>True
 | (id,b)::l=>(∃ b',σ.bo id=some b'/\Bx.le b' b)/\vv σ l
def FO(τ:PS):Bool:=τ.t.all fun x=>x.2.qG.all fun id=>(look τ.b id).isSome
theorem MY{α:Type}{l:List (Nat×α)}{t:Nat}{x:α}(h:look l t=some x):(t,x) ∈ l:=by
 induction l with
 |nil=>cases h
 |cons y l ih=>
  obtain⟨k,z⟩:=y;rw[tf]at h;split at h
  .rename_i e;cases h;subst e;exact .head _
  .exact .tail _ (ih h)
theorem wG.get{σ:PS}{l:List (Nat×PV)}(h:wG σ l){t:Nat}{p:PV}(k:look l t=some p):PV.le (σ.get t) p:=by
 induction l with
 |nil=>cases k
 |cons y l ih=>
  obtain⟨q,z⟩:=y;rw[tf]at k;split at k
  .rename_i e;cases k;subst e;exact h.1
  .exact ih h.2 k
theorem vv.get{σ:PS}{l:List (Nat×Bx)}(h:vv σ l){t:Nat}{b:Bx}(k:look l t=some b):∃ b',σ.bo t=some b'/\Bx.le b' b:=by
 induction l with
 |nil=>cases k
 |cons y l ih=>
  obtain⟨q,z⟩:=y;rw[tf]at k;split at k
  .rename_i e;cases k;subst e;exact h.1
  .exact ih h.2 k
theorem PS.le.pL{σ τ:PS}(hn:σ.n=τ.n)(kg:τ.nl=σ.nl)(hr:FO τ=true)(ht:wG σ τ.t)(hb:vv σ τ.b):PS.le σ τ:=fun w0 B a w L _ r=>by
 let L':Lk:=⟨fun id=>L.oi id/\(τ.bo id).isSome=true,fun id x=>L.own id x/\(τ.bo id).isSome=true,L.val,L.jt⟩
 have iD:sM L w L' w:=⟨aU _,fun x _ ⟨id,h,_⟩=>⟨id,h⟩,fun _ _ _=>rfl⟩
 refine⟨L',r.hd,by rw[<-hn];exact r.hs,fun t=>?_,fun id b h=>?_,fun id=>?_,fun id x h=>⟨r.hn id x h.1,h.2⟩,fun id x h=>r.hw id x h.1,fun id id' x h k=>r.hi id id' x h.1 k.1,r.he,fun h id b k=>?_⟩
 .have hg:τ.get t=((look τ.t t)).getD (.e .any):=rfl
  cases hl:look τ.t t with
  |none=>rw[hg,hl];exact .any _
  |some p=>
   rw[hg,hl];have:=ht.get hl _ _ _ _ _ (r.ht t);refine nI.move iD this fun id hid uV=>⟨⟨uV,?_⟩,rfl,fun _=>rfl⟩
   have q:=bF.1 hr _ (MY hl);exact bF.1 q id hid
 .obtain ⟨b',h1,h2⟩:=hb.get h
  have hs:(τ.bo id).isSome=true:=by rw[h];rfl
  exact(h2.2 _ _ _ _ _ (r.hb id b' h1)).later iD rfl (fun x=>⟨fun q=>q.1,fun q=>⟨q,hs⟩⟩) (fun _=>rfl) fun _ _=>rfl
 .show L.oi id/\(τ.bo id).isSome=true↔(τ.bo id).isSome=true
  refine⟨fun h=>h.2,fun h=>⟨(r.hv id).2 ?_,h⟩⟩;obtain⟨b,ke⟩:=fZ.1 h;obtain⟨b',h1,_⟩:=hb.get ke;rw[h1];rfl
 .obtain ⟨b',h1,h2⟩:=hb.get k
  exact h2.1 (r.hl (by rw[<-kg];exact h) id b' h1)
def DY(σ:PS):List Nat->List (Nat×Bx)
 | []=>[]
 |i::l=>match σ.bo i with
  |some b=>(i,b)::DY σ l
  |none=>DY σ l
def PS.cut(ts bs:List Nat)(σ:PS):PS:={ n:=σ.n,nl:=σ.nl,t:=ts.map fun t=>(t,σ.get t),b:=DY σ bs }
theorem wG.cut(σ:PS):∀ ts:List Nat,wG σ (ts.map fun t=>(t,σ.get t))
 | []=>trivial
 |_::l=>⟨PV.le.refl _,wG.cut σ l⟩
theorem vv.cut(σ:PS):∀ bs:List Nat,vv σ (DY σ bs)
 | []=>trivial
 |i::l=>by
  unfold DY;split
  .rename_i b h
   exact⟨⟨b,h,Bx.le.refl b⟩,vv.cut σ l⟩
  .exact vv.cut σ l
theorem PS.le.cut{σ:PS}(ts bs:List Nat)(hr:FO (σ.cut ts bs)=true):PS.le σ (σ.cut ts bs):=PS.le.pL rfl rfl hr (wG.cut σ ts) (vv.cut σ bs)
open Go.RowKit
def Ex.to:Ex->Exit
 | .normal=>.normal
 | .exit id=>.exit id
 | .ret=>.ret
def Sp(P:Program)(K:World->Prop)(c:Code)(σ:PS)(Q:Ex->PS->Prop):Prop:=
 ∀ (w0:World) (B:Nat->Prop) (a:Act) (w:World) (L:Lk),Gd P K w0 B->jA w0 B σ a w L->c.wp P (fun e a' w'=>∃ ex τ L',e=ex.to/\Q ex τ/\jA w0 B τ a' w' L') a w
theorem Sp.mono{P:Program}{K:World->Prop}{c:Code}{σ:PS}{Q Q':Ex->PS->Prop}(h:Sp P K c σ Q)(hq:∀ e τ,Q e τ->Q' e τ):Sp P K c σ Q':=
 fun w0 B a w L g r=>Code.wp_mono (fun _ _ _ ⟨ex,τ,L',h1,h2,h3⟩=>⟨ex,τ,L',h1,hq _ _ h2,h3⟩) (h w0 B a w L g r)
abbrev Lo:=List (Nat×(Ex×PS×List Nat×List Nat))
section
variable {P:Program} {K:World->Prop} {T:List TI} {O:qq} {lo:Lo}
theorem Sp.loop{b:Code}{Q:Ex->PS->Prop}(J:Nat->PS->Prop)(wb:∀ n σ,J n σ->Sp P K b σ (fun e τ=>(e = .normal/\∃ m,m<n/\J m τ)\/(e ≠ .normal/\Q e τ))):
 ∀ n σ,J n σ->Sp P K (.loop b) σ Q:=by
 intro n0 σ0 hJ0 w0 B a0 w1 L0 g r0 bf k cs;have key:∀ n σ a w L,J n σ->jA w0 B σ a w L ->
  ∃ e a' w',(∃ ex τ L',e=ex.to/\Q ex τ/\jA w0 B τ a' w' L')/\Arrives P (lone (bf.at a (.code b :: .inLoop b::k)) cs w) bf k cs e a' w':=by
  intro n
  induction n using Nat.strongRecOn with
  |_ n ih=>
   intro σ a w L hJ r;obtain⟨e,a₁,w₁,⟨ex,υ,L2,rfl,hq,nu⟩,vQ⟩:=wb n σ hJ w0 B a w L g r bf (.inLoop b::k) cs;rcases hq with⟨rfl,m,hm,Lu⟩|⟨ks,hq⟩
   .obtain ⟨e₂,a₂,w₂,Mi,LJ⟩:=ih m hm υ a₁ w₁ L2 Lu nu
    exact⟨e₂,a₂,w₂,Mi,.of_steps (Steps.trans vQ (.one step_inLoop)) LJ⟩
   .cases ex with
    |normal=>exact absurd rfl ks
    |exit i=>exact⟨_,a₁,w₁,⟨.exit i,υ,L2,rfl,hq,nu⟩,.pass (x:=.inLoop b) rfl (fun _ _=>.inl (by simp[Ex.to])) vQ⟩
    |ret=>exact⟨_,a₁,w₁,⟨.ret,υ,L2,rfl,hq,nu⟩,.pass (x:=.inLoop b) rfl (fun _ _=>.inl (by simp[Ex.to])) vQ⟩
 obtain⟨e,a',w',hq,vQ⟩:=key n0 σ0 a0 w1 L0 hJ0 r0;exact⟨e,a',w',hq,.of_steps (.one step_loop) vQ⟩
theorem ali{w0:World}{B:Nat->Prop}{σ:PS}{a:Act}{w:World}{L:Lk}(hB:∀ b,B b->b<w0.heap.size)(r:jA w0 B σ a w L){p:PV}{e:E}(h:JL σ p=some e){v:Value}(hv:nI (jB B L) (ko L) L w p v):
 iG B (fun _=>True) w e v:=by
 have Sx:∀ id x,L.own id x->¬B x:=fun id x hx hb=>by have:=hB x hb;have:=(r.hw id x hx).1;omega
 have own:∀ (v:Value) (T:TypeId) (n sz:Nat) (f:Nat->Nat->Value) (nl:Bool) (el:Nat->Nat->E) (id:Nat),qs w v T n sz f nl->(∀ x,v.ownBlock=some x->L.own id x) ->
  (∀ i j,i<n->j<sz->iG (jB B L) (ko L) w (el i j) (f i j)/\(el i j).nr 2=true)->iG B (fun _=>True) w (.sl nl n sz el) v:=by
  intro v T n sz f nl el id h1 h2 h3;rcases h1 with⟨rfl,rfl⟩|⟨b,c,cur,rfl,hg,pQ,nU,nK,lq,kg⟩
  .exact .sl nl 0 sz el none 0 f (aU _) ag (fun _=>rfl) (fun i j hi=>absurd hi (bj i)) (fun i j hi=>absurd hi (bj i)) (fun i j hi=>absurd hi (bj i)) (fun i j hi=>absurd hi (bj i))
  .have q9:=h2 b rfl
   refine .sl nl n sz el _ c f pQ (by unfold maxLen at nU;omega) (fun h=>by cases h) (fun i j hi hj=>⟨(lq i j hi hj).2,fun hn=>kg hn _ (dz (lq i j hi hj).1)⟩) (fun i j hi hj=>(h3 i j hi hj).2)
    (fun i j hi hj=>⟨b,0,rfl,Sx id b q9,(r.hw id b q9).2,?_⟩) (fun i j hi hj=>((h3 i j hi hj).1.rk (fun _ h=>.inl h) (fun _ h=>h)).nr 2 (h3 i j hi hj).2)
   rw[bX];simp only[World.cell?,hg];simpa using(lq i j hi hj).1
 cases p with
 |e x=>
  simp only[JL]at h;split at h
  .rename_i hn
   cases h;exact(iG.rk (bs':=B) (br':=ko L) (fun _ h=>.inl h) (fun _ h=>h) hv).nr 3 hn
  .cases h
 |own id=>
  obtain⟨_,rfl⟩:=hv;simp only[JL]at h;split at h
  .rename_i nl T n sz el ke
   cases h;obtain⟨f,h1,h2,h3⟩:=r.hb id _ ke;exact own _ T n sz f nl el id h1 (fun x hx=>(h2 x).2 hx) h3
  .rename_i nl T1 T0 n sz len el ke
   cases h;obtain⟨b,c,cur,f,h1,h2,h3,h4,h5,h6,h7,h8,h9,vN,wQ⟩:=r.hb id _ ke;have q9:L.own id b:=(h9 b).2 (.inl rfl);rw[h1];refine .sl true n 1 _ _ c (fun k _=>L.jt id k) h3 (by unfold maxLen at h4;omega) (fun h=>by cases h) (fun k j hk hj=>?_) (fun k j hk hj=>rfl)
    (fun k j hk hj=>⟨b,0,rfl,Sx id b q9,(r.hw id b q9).2,?_⟩) (fun k j hk hj=>own _ T0 (len k) sz (f k) nl (el k) id (h8 k hk).1 (fun x hx=>(h9 x).2 (.inr ⟨k,hk,hx⟩)) (h8 k hk).2)
   .obtain ⟨q1,q2⟩:=h7 _ (dz (h6 k hk aj))
    exact⟨q1,fun _=>q2⟩
   .rw [bX,bO]
    obtain rfl:j=0:= ae ;simp only[World.cell?,h2];simpa using h6 k hk aj 
  .cases h
 |_=>cases h
def BR(tmps:Array Value):ResultVar->Sem Value
 | .tmp t=>Pure.pure (tmps.getD t undef)
 | .cell q t=>do loadVar t (<-asAddr (tmps.getD q undef))
theorem NX(fn:Func)(tmps:Array Value):results fn tmps=(do
 let vs <-fn.results.mapM (BR tmps)
 Pure.pure (if h:vs.size=1 then vs[0]else .tuple vs)):=by
 unfold results;congr 1
theorem ajx{w0:World}{B:Nat->Prop}{σ:PS}{a:Act}{w:World}{L:Lk}(hT:mB P T)(hB:∀ b,B b->b<w0.heap.size)(r:jA w0 B σ a w L){x:ResultVar}{e:E}(h:NW T σ x=some e):
 ∃ v,(BR a.tmps x).run P w = .ok v w/\iG B (fun _=>True) w e v:=by
 cases x with
 |tmp t=>exact⟨_,rfl,ali hB r h (r.ht t)⟩
 |cell q t=>
  simp only[NW]at h;split at h
  .rename_i ti qL
   split at h
   .rename_i l is Ix
    obtain⟨b,of,vs,e1,h1,h2,h3⟩:=r.read (r.ht q) Ix (fun q hq=>by simp at hq);by_cases ha:ti.isAgg=true
    .rw [aR ha]at h
     split at h
     .rename_i hn
      cases h;refine⟨.agg vs.toArray,?_,(iG.rk (bs':=B) (br':=ko L) (fun _ h=>.inl h) (fun _ h=>h) h1.agg).nr 3 hn⟩;simp only[BR,e1,asAddr,Sem.run_bind,Sem.run_pure,Result.andThen_ok,WW hT w qL ha b of vs h2 h3]
     .cases h
    .rw [aQ ha]at h
     split at h
     .rename_i y
      split at h
      .rename_i hn
       cases h;obtain⟨z,zs,rfl,hz,_⟩:=h1.lX;refine⟨z,?_,(iG.rk (bs':=B) (br':=ko L) (fun _ h=>.inl h) (fun _ h=>h) hz).nr 3 hn⟩;simp only[BR,e1,asAddr,Sem.run_bind,Sem.run_pure,Result.andThen_ok,Ob hT w qL (by simpa using ha) b of z (by simpa using h3 0 z rfl)]
      .cases h
     .cases h
   .cases h
  .cases h
theorem ajv{w0:World}{B:Nat->Prop}{σ:PS}{a:Act}{w:World}{L:Lk}(hT:mB P T)(hB:∀ b,B b->b<w0.heap.size)(r:jA w0 B σ a w L){l:List ResultVar}{es:List E}(h:Dr T σ l=some es):
 ∃ vs,(l.mapM (BR a.tmps)).run P w = .ok vs w/\kr B (fun _=>True) w es vs:=by
 induction l generalizing es with
 |nil=>simp only[Dr,bG]at h;subst h;exact⟨[],rfl,.nil _ _ _⟩
 |cons x l ih=>
  simp only[Dr]at h;split at h
  .rename_i e es' h1 h2
   cases h;obtain⟨v,q1,q2⟩:=ajx hT hB r h1;obtain⟨vs,p1,p2⟩:=ih h2;refine⟨v::vs,?_,.cons q2 p2⟩;rw[eZ];simp only[Sem.run_bind,q1,Result.andThen_ok,p1,Sem.run_pure]
  .cases h
theorem ajw{w0:World}{B:Nat->Prop}{σ:PS}{a:Act}{w:World}{L:Lk}(hT:mB P T)(hB:∀ b,B b->b<w0.heap.size)(r:jA w0 B σ a w L){fn:Func}{e:E}(h:Js T fn σ=some e):
 ∃ v,(results fn a.tmps).run P w = .ok v w/\iG B (fun _=>True) w e v:=by
 unfold Js at h;have main:∀ es,Dr T σ fn.results.toList=some es->∃ vs:List Value,(fn.results.mapM (BR a.tmps)).run P w = .ok vs.toArray w/\kr B (fun _=>True) w es vs:=by
  intro es hes;obtain⟨vs,h1,h2⟩:=ajv hT hB r hes;refine⟨vs,?_,h2⟩;rw[am7];simp only[Sem.run_map,h1,Result.andThen_ok]
 split at h
 .rename_i y hy
  cases h;obtain⟨vs,h1,h2⟩:=main _ hy;obtain⟨v,vs',rfl,hv,Bh⟩:=h2.lX;have:=Bh.pY;subst this;refine⟨v,?_,hv⟩;rw[NX,Sem.run_bind,h1];simp
 .rename_i l ks hl
  cases h;obtain⟨vs,h1,h2⟩:=main _ hl;refine⟨.tuple vs.toArray,?_,h2.iw⟩;rw[NX,Sem.run_bind,h1];have hlen:¬vs.length=1:=by
   rw[h2.len];intro e1
   match l,e1 with
   | [y],_=>exact ks y rfl
  simp[hlen]
 .cases h
theorem afj(args:List E):∀ (k t:Nat),look (ES k args) t=if k<=t then(args[t-k]?).map .e else none:=by
 induction args with
 |nil=>intro k t;simp[ES,look]
 |cons x l ih=>
  intro k t;simp only[ES];rw[tf,ih (k+1) t];by_cases h:k=t
  .subst h;simp
  .rw [aQ h]
   by_cases h2:k<=t
   .rw [aR ae,aR h2,show t-k=(t-(k+1))+1 by omega]
    simp
   .rw [aQ ae,aQ h2]
theorem jA.init{B:Nat->Prop}{w:World}{fn:Func}{args:List E}{vs:List Value}(hr:kr B (fun _=>False) w args vs)(hn:args.length<=fn.ntmps)(nl:Bool)(_hB:∀ b,B b->b<w.heap.size/\oI w b):
 jA w B (Ad fn nl args) { tmps:=vs.toArray++Array.replicate (fn.ntmps-vs.toArray.size) undef,defers:=[] } w ⟨fun _=>False,fun _ _=>False,fun _=>undef,fun _ _=>undef⟩:=by
 have hlen:=hr.len;refine⟨rfl,by simp[Ad];omega,fun t=>?_,fun id b hb=>(by cases hb),fun id=>⟨fun h=>h.elim,fun h=>(by cases h)⟩,fun _ _ h=>h.elim,fun _ _ h=>h.elim,fun _ _ _ h=>h.elim,Below.refl _ _,fun _ id b hb=>(by cases hb)⟩;have hg:(Ad fn nl args).get t=((args[t]?).map PV.e).getD (.e .any):=by
  unfold PS.get Ad;rw[afj];simp
 rw[hg];by_cases ht:t<args.length
 .have zW:t<vs.length:= ae 
  rw[bd ht];have hv:(vs.toArray++Array.replicate (fn.ntmps-vs.toArray.size) undef).getD t undef=vs[t]:=by
   simp[Array.getElem?_append,zW]
  show iG _ _ _ _ _;rw[hv];exact(hr.lg t _ _ (bd ht) (bd zW)).rk (fun b h=>h.elim id fun⟨_,h⟩=>h.elim) (fun _ ⟨_,h⟩=>h.elim)
 .rw [bS ae]
  exact .any _
theorem PC.M1(hT:mB P T)(hm:P.follows .mixedOrders=true)(hp:∀ w w',K w->Below w.heap.size w w'->K w'){f:FuncId}{fn:Func}{c:Code}{args:List E}{jW:E}(vS:∀ (vs:Array Value) (w:World),(callFunc f vs).run P w = .ok (.enter f vs) w)
 (hf:P.funcs[f]? = some fn) (hb:fn.body=some c) (hn:args.length<=fn.ntmps) (nl:Bool)
 (h:Sp P K c (Ad fn nl args) (fun e τ=>(e = .ret\/e = .normal)/\∃ r,Js T fn τ=some r/\∀ (bs br:Nat->Prop) (w:World) (v:Value),iG bs br w r v->iG bs br w jW v)):PC P K f args jW:=by
 refine⟨vS,fun w B vs hK hB hr=>calls_of_wp hf hb ?_⟩;have wa:=jA.init (fn:=fn) hr hn nl hB;refine Code.wp_mono ?_ (h w B _ w _ ⟨hK,hp,hB⟩ wa);rintro e a' w' ⟨ex,τ,L',rfl,⟨he,r,EF,hle⟩,rF⟩;obtain⟨v,h1,h2⟩:=ajw hT (fun b hb=>(hB b hb).1) rF EF;have EB:a'.defers=[]/\∃ v,(results fn a'.tmps).run P w' = .ok v w'/\∃ v',Ending.returned v = .returned v'/\Below w.heap.size w w'/\iG B (fun _=>True) w' jW v':=⟨rF.hd,v,h1,v,rfl,rF.he,hle _ _ _ _ h2⟩
 rcases he with rfl|rfl
 .exact EB
 .exact EB
theorem uB.M1(hT:mB P T)(hm:P.follows .mixedOrders=true)(hp:∀ w w',K w->Below w.heap.size w w'->K w'){f:FuncId}{fn:Func}{c:Code}{args:List E}(vS:∀ (vs:Array Value) (w:World),(callFunc f vs).run P w = .ok (.enter f vs) w)
 (hf:P.funcs[f]? = some fn) (hb:fn.body=some c) (hn:args.length<=fn.ntmps) (nl:Bool) {nl':Bool} {T0:TypeId} {n sz:Nat} {el:Nat->Nat->E}
 (h:Sp P K c (Ad fn nl args) (fun e τ=>(e = .ret\/e = .normal)/\∃ t id b,fn.results.toList=[.tmp t]/\τ.get t = .own id/\τ.bo id=some b/\∀ (bs br:Nat->Prop) (L:Lk) (w:World),rn bs br L w id b->rn bs br L w id (.row nl' T0 n sz el))):uB P K f args nl' T0 n sz el:=by
 refine⟨vS,fun w B vs hK hB hr=>calls_of_wp hf hb ?_⟩;have wa:=jA.init (fn:=fn) hr hn nl hB;refine Code.wp_mono ?_ (h w B _ w _ ⟨hK,hp,hB⟩ wa);rintro e a' w' ⟨ex,τ,L',rfl,⟨he,t,id,b,EF,hg,ke,hle⟩,rF⟩;have ho:=rF.ht t;rw[hg]at ho;obtain⟨uV,hv⟩:=ho;obtain⟨f0,h1,h2,h3⟩:=hle _ _ _ _ (rF.hb id b ke);have lH:(results fn a'.tmps).run P w' = .ok (L'.val id) w':=by
  rw[NX,Sem.run_bind,am7,EF,Sem.run_map,eZ];simp only[BR,Sem.run_bind,Sem.run_pure,Result.andThen_ok,List.mapM_nil,hv];simp
 have EB:a'.defers=[]/\∃ v,(results fn a'.tmps).run P w' = .ok v w'/\∃ v',Ending.returned v = .returned v'/\Below w.heap.size w w'/\∃ g,qs w' v' T0 n sz g nl'/\(∀ x,v'.ownBlock=some x->w.heap.size<=x/\x<w'.heap.size) /\
  ∀ i j,i<n->j<sz->iG (fun b=>B b\/v'.ownBlock=some b) (fun _=>True) w' (el i j) (g i j)/\(el i j).nr 2=true:=by
  refine⟨rF.hd,_,lH,_,rfl,rF.he,f0,h1,fun x hx=>rF.hw id x ((h2 x).2 hx),fun i j hi hj=>⟨?_,(h3 i j hi hj).2⟩⟩;refine((h3 i j hi hj).1.rk (bs':=fun b=>B b\/(L'.val id).ownBlock=some b) (br':=ko L') (fun b hb=>?_) (fun _ h=>h)).nr 2 (h3 i j hi hj).2;rcases hb with hb|hb
  .exact .inl hb
  .exact .inr ⟨id,(h2 b).2 hb⟩
 rcases he with rfl|rfl
 .exact EB
 .exact EB
end
open Go.RowKit
def Gs(P:Program):List TI->Prop
 | []=>True
 |x::l=>(P.underlying x.id=some x.d/\P.info? x.id=some x.i)/\Gs P l
theorem Gs.ok{P:Program}{T:List TI}(h:Gs P T):mB P T:=by
 induction T with
 |nil=>intro x hx;simp at hx
 |cons y l ih=>
  intro x hx;rcases cU.1 hx with hx|hx
  .subst hx;exact h.1
  .exact ih h.2 x hx
def E.le(p q:E):Prop:=∀ (bs br:Nat->Prop) (w:World) (v:Value),iG bs br w p v->iG bs br w q v
theorem E.le.refl(p:E):E.le p p:=fun _ _ _ _ h=>h
theorem E.le.iS{p q:E}(h:p=q):E.le p q:=h▸E.le.refl p
theorem E.le.trans{p q r:E}(h:E.le p q)(k:E.le q r):E.le p r:=fun _ _ _ _ x=>k _ _ _ _ (h _ _ _ _ x)
theorem PV.le.e{p q:E}(h:E.le p q):PV.le (.e p) (.e q):=fun bs br _ w v k=>h bs br w v k
theorem PV.le.bool{a b:Bool}(h:a=b):PV.le (.e (.v (.bool a))) (.e (.v (.bool b))):=PV.le.e (.iS (by rw[h]))
theorem PV.le.int{k:IntKind}{a b:Int}(h:a=b):PV.le (.e (.v (.int k a))) (.e (.v (.int k b))):=PV.le.e (.iS (by rw[h]))
inductive tu:List E->List E->Prop
 |nil:tu [] []
 |cons {p q:E} {l m:List E} (h:E.le p q) (k:tu l m):tu (p::l) (q::m)
theorem tu.refl:∀ l:List E,tu l l
 | []=>.nil
 |p::l=>.cons (.refl p) (tu.refl l)
theorem tu.Jr{l m:List E}(h:tu l m){bs br:Nat->Prop}{w:World}{vs:List Value}(k:kr bs br w l vs):kr bs br w m vs:=by
 induction h generalizing vs with
 |nil=>exact k
 |cons h _ ih=>
  obtain⟨x,ys,rfl,h1,h2⟩:=k.lX;exact .cons (h _ _ _ _ h1) (ih h2)
theorem E.le.agg{l m:List E}(h:tu l m):E.le (.agg l) (.agg m):=fun _ _ _ _ k=>by
 obtain⟨vs,rfl,hr⟩:=iG.Ca k;exact(h.Jr hr).agg
theorem E.le.iw{l m:List E}(h:tu l m):E.le (.iw l) (.iw m):=fun _ _ _ _ k=>by
 obtain⟨vs,rfl,hr⟩:=iG.X5 k;exact(h.Jr hr).iw
theorem E.le.nil(nl:Bool)(sz:Nat)(el:Nat->Nat->E):E.le (.v (.slice none 0 0)) (.sl nl 0 sz el):=fun _ _ _ _ k=>by
 obtain rfl:=iG.kJ k;exact .sl nl 0 sz el none 0 (fun _ _=>undef) (aU _) ag (fun _=>rfl) (fun i j h=>absurd h (bj i)) (fun i j h=>absurd h (bj i)) (fun i j h=>absurd h (bj i)) (fun i j h=>absurd h (bj i))
theorem E.le.sl{nl:Bool}{n sz:Nat}{el el':Nat->Nat->E}(h:∀ i j,i<n->j<sz->E.le (el i j) (el' i j)/\(el' i j).nr 2=true):E.le (.sl nl n sz el) (.sl nl n sz el'):=fun bs br w v k=>by
 cases k with
 |sl _ _ _ _ A c f hc hm h0 hl hr cell kk=>
  exact .sl nl n sz el' A c f hc hm h0 hl (fun i j hi hj=>(h i j hi hj).2) cell fun i j hi hj=>(h i j hi hj).1 _ _ _ _ (kk i j hi hj)
theorem PC.le{P:Program}{K:World->Prop}{f:FuncId}{args args':List E}{jW res':E}(h:PC P K f args jW)(ha:tu args' args)(hr:E.le jW res'):PC P K f args' res':=
 ⟨h.call,fun w B vs hK hB rG=>(h.run w B vs hK hB (ha.Jr rG)).mono fun _ _ ⟨v,h1,h2,h3⟩=>⟨v,h1,h2,hr _ _ _ _ h3⟩⟩
theorem PC.jW{P:Program}{K:World->Prop}{f:FuncId}{args:List E}{jW res':E}(h:PC P K f args jW)(hr:E.le jW res'):PC P K f args res':=h.le (tu.refl _) hr
end Go.Proofs.YtdgnpeddgdclhaaGreatDoor.Pu
namespace Go.Proofs.YtdgnpeddgdclhaaGreatDoor
open Go.RowKit Fp
theorem ud(A:Option Addr)(c:Nat)(L:List Nat)(w:World)(hs:Sl w A c L):
 Calls Tryz.prog 167 #[.slice A L.length c] w fun e w'=>e = .returned (.slice A (ij L).length c)/\w=w':=by
 have hc:=hs.cap;have hl:=hs.pV;go_enter Tryz.func167,Tryz.ntmps167;go_wp2;go_loop [3] (fun i=>∃ k:Nat,k<=L.length/\i = .int .i64 k/\lQ L=lQ (L.take k)) (fun i=>(intOf i).toNat)
 case atStart=>exact⟨L.length,aU _,rfl,aj⟩
 case round=>
  obtain⟨k,hk,rfl,ht⟩:=hrel;have HT:=Lib.hid ht;clear ht;by_cases h0:0<k
  .obtain ⟨ab,ao,rfl,hb,h1⟩:=hs.ln (i:=k-1) ae 
   have e1:((k:Int)-1).toNat=k-1:= ae ;have Z:=Lib.hid (JK L (k-1) ae);have NZ:=Lib.hid (JJ L (k-1) ae);rw[eD h0]at Z NZ;generalize L[k-1]=x at *
   by_cases hx:x=0
   .have Hx:=Lib.hid hx;clear hx
    have hb:((x:Int)==0)=true:=by have:=Hx.out;simp;omega
    go_wp2;go_round
    case rel=>exact⟨k-1,ae,by go_num,by rw[HT.out,Z.out Hx.out]⟩
    case measure=>simp[intOf];omega
   .have hb:((x:Int)==0)=false:= av 
    go_wp2;go_ret;exact⟨Ju (by show _=lQ L;rw[HT.out,NZ.out hx]),rfl⟩
  .go_wp2
   go_ret;have:k=0:= ae ;subst this;exact⟨Ju (by show _=lQ L;rw[HT.out];rfl),rfl⟩
theorem abT(A:Option Addr)(c:Nat)(L:List Nat)(w:World)(hs:Sl w A c L):
 Calls Tryz.prog 125 #[.slice A L.length c] w fun e w'=>e = .returned (.slice A (ij L).length c)/\w=w':=by
 have hc:=hs.cap;have hl:=hs.pV;go_enter Tryz.func125,Tryz.ntmps125;go_wp2;go_loop [3] (fun i=>∃ k:Nat,k<=L.length/\i = .int .i64 k/\lQ L=lQ (L.take k)) (fun i=>(intOf i).toNat)
 case atStart=>exact⟨L.length,aU _,rfl,aj⟩
 case round=>
  obtain⟨k,hk,rfl,ht⟩:=hrel;have HT:=Lib.hid ht;clear ht;by_cases h0:0<k
  .obtain ⟨ab,ao,rfl,hb,h1⟩:=hs.ln (i:=k-1) ae 
   have e1:((k:Int)-1).toNat=k-1:= ae ;have Z:=Lib.hid (JK L (k-1) ae);have NZ:=Lib.hid (JJ L (k-1) ae);rw[eD h0]at Z NZ;generalize L[k-1]=x at *
   by_cases hx:x=0
   .have Hx:=Lib.hid hx;clear hx
    have hb:((x:Int)==0)=true:=by have:=Hx.out;simp;omega
    go_wp2;go_round
    case rel=>exact⟨k-1,ae,by go_num,by rw[HT.out,Z.out Hx.out]⟩
    case measure=>simp[intOf];omega
   .have hb:((x:Int)==0)=false:= av 
    go_wp2;go_ret;exact⟨Ju (by show _=lQ L;rw[HT.out,NZ.out hx]),rfl⟩
  .go_wp2
   go_ret;have:k=0:= ae ;subst this;exact⟨Ju (by show _=lQ L;rw[HT.out];rfl),rfl⟩
theorem Sl.tk{w:World}{A:Option Addr}{c:Nat}{L:List Nat}(h:Sl w A c L):Sl w A c (ij L):=(h.take (lQ L)).eqv (F4 L).symm
def Z3:Go.Shelf.Ren:=⟨fun|128=>230|n=>n,fun|51=>79|3=>3|4=>4|46=>124|5=>5|9=>9|n=>n,fun|n=>n⟩
theorem ZW:Go.Proofs.Lays.n128 Tryz.prog Z3:={
 mixed:= ah 
 f128:=Tryz.func230.trans (congrArg some ah)
 t3:=Tryz.underlying3
 a3:=Tryz.isAgg3
 z3:=Tryz.sizeOf3
 v3:=Tryz.zeroValue3
 t4:=Tryz.underlying4
 a4:=Tryz.isAgg4
 z4:=Tryz.sizeOf4
 v4:=Tryz.zeroValue4
 t5:=Tryz.underlying5
 a5:=Tryz.isAgg5
 z5:=Tryz.sizeOf5
 v5:=Tryz.zeroValue5
 t9:=Tryz.underlying9
 a9:=Tryz.isAgg9
 z9:=Tryz.sizeOf9
 v9:=Tryz.zeroValue9
 t46:=Tryz.underlying124
 a46:=Tryz.isAgg124
 z46:=Tryz.sizeOf124
 v46:=Tryz.zeroValue124
 t51:=Tryz.underlying79
 a51:=Tryz.isAgg79
 z51:=Tryz.sizeOf79
 v51:=Tryz.zeroValue79 }
theorem Ub(x:Nat)(hx:x<4294967296)(w:World):
 Calls Tryz.prog 230 #[.int .u32 x] w fun e w'=>e = .returned (.int .i64 (ia x))/\w=w':=by
 refine(Any.bits_Len32 ZW x w ae ae).mono ?_;rintro e w' ⟨rfl,rfl⟩;rw[fA,ZP x hx];exact⟨rfl,rfl⟩
theorem alv(x k idx:Nat)(w:World)(mj:((x:Int)==0)=false)
 (key:bits BinOp.and IntKind.u32 (x:Int) (-(x:Int)%4294967296)*125613361%4294967296/134217728=(idx:Int))
 (hi:idx<32) (hk:k<32) (lq:w.cell? ⟨0,idx,none⟩=some (.int .u8 k)):
 Calls Tryz.prog 163 #[.int .u32 x] w fun e w'=>e = .returned (.int .i64 k)/\w=w':=by
 go_enter Tryz.func163,Tryz.ntmps163;go_wp2_with (simp only[key])
 go_ret;exact⟨rfl,rfl⟩
theorem alu(x:Nat)(h0:x≠0)(hx:x<4294967296)(w:World)(hT:Tb w):
 Calls Tryz.prog 163 #[.int .u32 x] w fun e w'=>e = .returned (.int .i64 (jO x))/\w=w':=by
 rw[<-abg x h0 hx];obtain⟨zP,hk⟩:=Lib.lowest_bit 32 x h0 hx;obtain⟨hi,aeI⟩:=Lib.deBruijn32_at _ hk;have lq:=hT _ hi;rw[aeI]at lq;exact alv x _ _ w av (tz32_key x _ hx h0 zP) hi hk lq
open Go.RowKit Fp
theorem i64_in(n:Int)(h0:-9223372036854775808<=n)(h1:n<=9223372036854775807):IntKind.i64.wrap n=n:=by rw[IntKind.wrap_i64];omega
theorem P6{L M:List Nat}{n:Nat}(hs:iC L)(hM:ij L=M)(hn:M.length=n+1):
 ∃ x,M[n]? = some x/\x<4294967296/\(32*(n:Int)+(ia x:Int))=(ia (val L):Int)/\ia x<=32:=by
 have hk:iC M:=hM▸hs.ij;have ht:mW M:=hM▸yX L;rcases gM M with rfl|⟨l,x,rfl⟩
 .simp at hn
 .simp only[gN,cg,fR,Nat.add_right_cancel_iff]at hn hk ht hM ⊢
  subst hn;have hx:x≠0:=by simpa using(AJ _).1 ht aj 
  have iD:x<4294967296:=hk x aj;refine⟨x,aj,iD,?_,kN.2 iD⟩;have:=Z0 hk hx;rw[<-hM,oo]at this;omega
theorem UT(A:Option Addr)(c:Nat)(L:List Nat)(w:World)(hs:Sl w A c L)(hlen:L.length<=100000000):
 Calls Tryz.prog 194 #[.slice A L.length c] w fun e w'=>e = .returned (.int .i64 (ia (val L)))/\w=w':=by
 have hT:=Lib.hid (ud A c L w hs);have ky:=hs.tk;have ns:=oG L;unfold lQ at ns;generalize hM:ij L=M at *
 obtain⟨n,hn⟩:∃ n,n=M.length:=⟨_,rfl⟩
 rw[<-hn]at hT ns;rcases n with _|n
 .have hv:ia (val L)=0:=by rw[<-oo,hM,de hn.symm];rfl
  have HV:=Lib.hid hv;clear hv hM hn;go_enter Tryz.func194,Tryz.ntmps194;go_wp2_with (go_at_call 167;refine hT.out.mono ?_;rintro e w' ⟨rfl,rfl⟩)
  go_ret;exact⟨by rw[HV.out];rfl,rfl⟩
 .obtain ⟨x,hx,iD,hb,LN⟩:=P6 hs.ok hM hn.symm
  obtain⟨ab,ao,rfl,_,lq⟩:=ky.cell _ _ hx;have HB:=Lib.hid hb;clear hb hM hn hx;go_enter Tryz.func194,Tryz.ntmps194;go_wp2_with (first|(go_at_call 167;refine hT.out.mono ?_;rintro e w' ⟨rfl,rfl⟩)|(go_at_call 230;refine(Ub x iD _).mono ?_;rintro e w' ⟨rfl,rfl⟩))
  go_ret;exact⟨oj HB.out,rfl⟩
theorem ZY{x:Nat}(h:x≠0):ia x=ia (x/2)+1:=by
 by_cases h1:x/2=0
 .have:x=1:= ae 
  subst this;rfl
 .have e1:=rj h1
  have e2:=oM (x/2);have e3:=mR h1;generalize ia (x/2)=k at *
  obtain⟨j,rfl⟩:∃ j,k=j+1:=⟨k-1,ae⟩
  rw[dE]at e1;refine uD ?_ ?_
  .rw [aZ];omega
  .rw [aZ];omega
theorem WB(A:Option Addr)(c:Nat)(L:List Nat)(w:World)(hs:Sl w A c L)(ht:mW L)(hlen:L.length<=100000000):
 Calls Tryz.prog 94 #[.slice A L.length c] w fun e w'=>e = .returned (.int .i64 (ia (val L)))/\w=w':=by
 obtain⟨n,hn⟩:∃ n,n=L.length:=⟨_,rfl⟩
 rcases n with _|n
 .have hv:ia (val L)=0:=by rw[de hn.symm];rfl
  have HV:=Lib.hid hv;rw[<-hn];clear hv ht hn;go_enter Tryz.func94,Tryz.ntmps94;go_wp2;go_ret;exact⟨by rw[HV.out];rfl,rfl⟩
 .obtain ⟨x,hx,iD,hb,LN⟩:=P6 hs.ok ht hn.symm
  obtain⟨ab,ao,rfl,_,lq⟩:=hs.cell _ _ hx;have HB:=Lib.hid hb;rw[<-hn]at hlen ⊢;clear hb ht hn hx;go_enter Tryz.func94,Tryz.ntmps94;go_wp2;go_loop [3,4] (fun m y=>∃ (k z:Nat),z<4294967296/\y = .int .u32 z/\m = .int .i64 k/\k<=10000000000/\k+ia z=ia (val L)) (fun _ y=>(intOf y).toNat)
  case atStart=>exact⟨32*n,x,iD,rfl,by go_num,ae,by have:=HB.out;omega⟩
  case round=>
   obtain⟨k,z,hz,rfl,rfl,hk,he⟩:=hrel;have HE:=Lib.hid he;clear he;by_cases h0:0<z
   .have hh:=Lib.hid (ZY (x:=z) ae)
    have sD:k<=3300000000:=by have:=HE.out;have:=HB.out;omega
    go_wp2;go_round
    case rel=>exact⟨k+1,z/2,ae,by go_num,by go_num,ae,by rw[<-HE.out,hh.out];omega⟩
    case measure=>simp[intOf];omega
   .obtain rfl:z=0:= ae 
    go_wp2;go_ret;exact⟨oj (by rw[<-HE.out];rfl),rfl⟩
theorem QA{L M:List Nat}(hL:iC L)(h:(ij L).length<(ij M).length):jY (val L) (val M) = -1:=by
 have:=JT hL.ij (yX M) h;rw[oo,oo]at this;unfold jY;rw[aR this]
theorem Qz{L M:List Nat}(hM:iC M)(h:(ij M).length<(ij L).length):jY (val L) (val M)=1:=by
 have:=JT hM.ij (yX L) h;rw[oo,oo]at this;unfold jY;rw[aQ ae,aR this]
theorem GU{M N:List Nat}(hM:iC M){k x y:Nat}(hl:M.length=N.length)(hx:M[k]? = some x)(hy:N[k]? = some y)(hd:M.drop (k+1)=N.drop (k+1))(h:x<y):val M<val N:=by
 obtain⟨h1,rfl⟩:=bV.1 hx;obtain⟨h2,rfl⟩:=bV.1 hy;exact alN hM k h1 hl hd h
theorem Q0{M N:List Nat}{k x:Nat}(hx:M[k]? = some x)(hy:N[k]? = some x)(hd:M.drop (k+1)=N.drop (k+1)):M.drop k=N.drop k:=by
 obtain⟨h1,e1⟩:=bV.1 hx;obtain⟨h2,e2⟩:=bV.1 hy;rw[eE h1,eE h2,e1,e2,hd]
theorem Ff(A B:Option Addr)(c d:Nat)(L M:List Nat)(w:World)(hs:Sl w A c L)(hr:Sl w B d M)(h1:L.length<=100000000)(_h2:M.length<=100000000):
 Calls Tryz.prog 131 #[.slice A L.length c,.slice B M.length d] w fun e w'=>e = .returned (.int .i64 (jY (val L) (val M)))/\iy w w':=by
 have hT:=Lib.hid (ud A c L w hs);have hU:=Lib.hid (ud B d M w hr);have ky:=hs.tk;have nu:=hr.tk;have ns:=oG L;have uW:=oG M;unfold lQ at ns uW;by_cases iD:(ij L).length<(ij M).length
 .have HV:=Lib.hid (QA hs.ok iD)
  have ks:(((ij L).length:Int) != ((ij M).length:Nat))=true:= av ;generalize (ij L).length=n at *
  generalize (ij M).length=m at *
  clear ky nu;go_enter Tryz.func131,Tryz.ntmps131;go_wp2_with fail;refine hT.out.mono ?_;rintro e w' ⟨rfl,rfl⟩;go_wp2_with fail;refine hU.out.mono ?_;rintro e w' ⟨rfl,rfl⟩;go_wp2;go_ret;exact⟨oj (by rw[HV.out]),iy.refl _⟩
 .by_cases CH:(ij M).length<(ij L).length
  .have HV:=Lib.hid (Qz hr.ok CH)
   have ks:(((ij L).length:Int) != ((ij M).length:Nat))=true:= av ;generalize (ij L).length=n at *
   generalize (ij M).length=m at *
   clear ky nu;go_enter Tryz.func131,Tryz.ntmps131;go_wp2_with fail;refine hT.out.mono ?_;rintro e w' ⟨rfl,rfl⟩;go_wp2_with fail;refine hU.out.mono ?_;rintro e w' ⟨rfl,rfl⟩;go_wp2;go_ret;exact⟨oj (by rw[HV.out]),iy.refl _⟩
  .have hl:(ij L).length=(ij M).length:= ae 
   have HL:=Lib.hid hl;rw[<-hl]at hU uW;have e1:=oo L;have e2:=oo M;generalize ij L=P at *
   generalize ij M=Q at *
   have E1:=Lib.hid e1;have E2:=Lib.hid e2;clear e1 e2 hl CH iD;obtain⟨n,hn⟩:∃ n,n=P.length:=⟨_,rfl⟩
   rw[<-hn]at hT hU uW ns;have HN:=Lib.hid hn;clear hn;have ks:((n:Int) != (n:Int))=false:= aj ;have okP:=ky.ok;have BI:=nu.ok;go_enter Tryz.func131,Tryz.ntmps131;go_wp2_with fail;refine hT.out.mono ?_;rintro e w' ⟨rfl,rfl⟩;go_wp2_with fail;refine hU.out.mono ?_;rintro e w' ⟨rfl,rfl⟩;go_wp2;go_loopw [5] (fun i wr=>∃ k:Nat,k<=n/\i = .int .i64 ((k:Int)-1)/\P.drop k=Q.drop k/\iy w wr) (fun i _=>(intOf i+1).toNat)
   case atStart=>exact⟨n,aU _,rfl,by rw[dO (by rw[<-HN.out];exact aU _),dO (by rw[<-HL.out,<-HN.out];exact aU _)],iy.refl _⟩
   case round=>
    obtain⟨k,hk,rfl,hd,hb⟩:=hrel;have HD:=Lib.hid hd;clear hd;rcases k with _|k
    .go_wp2
     go_ret;have e:P=Q:=by simpa using HD.out
     exact⟨oj (by rw[<-E1.out,<-E2.out,e];unfold jY;simp),hb⟩
    .have Bf:k<P.length:=by have:=HN.out;omega
     have yh:k<Q.length:=by have:=HN.out;have:=HL.out;omega
     have HP:=Lib.hid (bd Bf);have HQ:=Lib.hid (bd yh);obtain⟨ab,ao,rfl,_,c1⟩:=(ky.below hb).ln Bf;obtain⟨bb,bo,rfl,_,c2⟩:=(nu.below hb).ln yh;have Ik:(k:Int)<n:= ae ;have qV:(0:Int)<=k:= ae ;have x0:(0:Int)<=P[k]:= ae ;have y0:(0:Int)<=Q[k]:= ae ;generalize P[k]=x at *
     generalize Q[k]=y at *
     clear Bf yh;by_cases qh:x<y
     .have Mq:(x:Int)<y:= ae 
      go_wp2;go_quiet (fail);go_wp2;go_ret;have h:=GU okP HL.out HP.out HQ.out HD.out qh;rw[E1.out,E2.out]at h;exact⟨oj (by unfold jY;rw[aR h]),below_drewN hb _⟩
     .have Mq:¬(x:Int)<y:= ae 
      by_cases Ms:y<x
      .have Mt:(y:Int)<x:= ae 
       go_wp2;go_quiet (fail);go_wp2;go_quiet (fail);go_wp2;go_ret;have h:=GU BI HL.out.symm HQ.out HP.out HD.out.symm Ms;rw[E1.out,E2.out]at h;exact⟨oj (by unfold jY;rw[aQ ae,aR h]),below_drewN (below_drewN hb _) _⟩
      .have Mt:¬(y:Int)<x:= ae 
       have HX:=Lib.hid (show x=y by omega);go_wp2;go_quiet (fail);go_wp2;go_quiet (fail);go_wp2;go_roundw
       case rel=>exact⟨k,ae,by go_num,Q0 HP.out (by rw[HX.out];exact HQ.out) HD.out,by repeat (first|exact hb|refine below_drewN ?_ _)⟩
       case measure=>simp[intOf];try omega
theorem WC(A B:Option Addr)(c d:Nat)(P Q:List Nat)(w:World)(ky:Sl w A c P)(nu:Sl w B d Q)(tP:mW P)(tQ:mW Q)(h1:P.length<=100000000)(_h2:Q.length<=100000000):
 Calls Tryz.prog 150 #[.slice A P.length c,.slice B Q.length d] w fun e w'=>e = .returned (.int .i64 (jY (val P) (val Q)))/\iy w w':=by
 have tP':ij P=P:=tP;have tQ':ij Q=Q:=tQ;by_cases iD:P.length<Q.length
 .have HV:=Lib.hid (QA (M:=Q) ky.ok (by rw[tP',tQ'];exact iD))
  have ks:((P.length:Int) != (Q.length:Nat))=true:= av ;generalize P.length=n at *
  generalize Q.length=m at *
  clear ky nu tP' tQ' tP tQ;go_enter Tryz.func150,Tryz.ntmps150;go_wp2;go_ret;exact⟨oj (by rw[HV.out]),iy.refl _⟩
 .by_cases CH:Q.length<P.length
  .have HV:=Lib.hid (Qz (L:=P) nu.ok (by rw[tP',tQ'];exact CH))
   have ks:((P.length:Int) != (Q.length:Nat))=true:= av ;generalize P.length=n at *
   generalize Q.length=m at *
   clear ky nu tP' tQ' tP tQ;go_enter Tryz.func150,Tryz.ntmps150;go_wp2;go_ret;exact⟨oj (by rw[HV.out]),iy.refl _⟩
  .have hl:P.length=Q.length:= ae 
   have HL:=Lib.hid hl;rw[<-hl];clear hl CH iD tP' tQ' tP tQ _h2;obtain⟨n,hn⟩:∃ n,n=P.length:=⟨_,rfl⟩
   rw[<-hn]at h1 ⊢;have HN:=Lib.hid hn;clear hn;have ks:((n:Int) != (n:Int))=false:= aj ;have okP:=ky.ok;have BI:=nu.ok;go_enter Tryz.func150,Tryz.ntmps150;go_wp2;go_loopw [5] (fun i wr=>∃ k:Nat,k<=n/\i = .int .i64 ((k:Int)-1)/\P.drop k=Q.drop k/\iy w wr) (fun i _=>(intOf i+1).toNat)
   case atStart=>exact⟨n,aU _,rfl,by rw[dO (by rw[<-HN.out];exact aU _),dO (by rw[<-HL.out,<-HN.out];exact aU _)],iy.refl _⟩
   case round=>
    obtain⟨k,hk,rfl,hd,hb⟩:=hrel;have HD:=Lib.hid hd;clear hd;rcases k with _|k
    .go_wp2
     go_ret;have e:P=Q:=by simpa using HD.out
     exact⟨oj (by rw[e];unfold jY;simp),hb⟩
    .have Bf:k<P.length:=by have:=HN.out;omega
     have yh:k<Q.length:=by have:=HN.out;have:=HL.out;omega
     have HP:=Lib.hid (bd Bf);have HQ:=Lib.hid (bd yh);obtain⟨ab,ao,rfl,_,c1⟩:=(ky.below hb).ln Bf;obtain⟨bb,bo,rfl,_,c2⟩:=(nu.below hb).ln yh;have Ik:(k:Int)<n:= ae ;have qV:(0:Int)<=k:= ae ;have x0:(0:Int)<=P[k]:= ae ;have y0:(0:Int)<=Q[k]:= ae ;generalize P[k]=x at *
     generalize Q[k]=y at *
     clear Bf yh;by_cases qh:x<y
     .have Mq:(x:Int)<y:= ae 
      go_wp2;go_quiet (fail);go_wp2;go_ret;have h:=GU okP HL.out HP.out HQ.out HD.out qh;exact⟨oj (by unfold jY;rw[aR h]),below_drewN hb _⟩
     .have Mq:¬(x:Int)<y:= ae 
      by_cases Ms:y<x
      .have Mt:(y:Int)<x:= ae 
       go_wp2;go_quiet (fail);go_wp2;go_quiet (fail);go_wp2;go_ret;have h:=GU BI HL.out.symm HQ.out HP.out HD.out.symm Ms;exact⟨oj (by unfold jY;rw[aQ ae,aR h]),below_drewN (below_drewN hb _) _⟩
      .have Mt:¬(y:Int)<x:= ae 
       have HX:=Lib.hid (show x=y by omega);go_wp2;go_quiet (fail);go_wp2;go_quiet (fail);go_wp2;go_roundw
       case rel=>exact⟨k,ae,by go_num,Q0 HP.out (by rw[HX.out];exact HQ.out) HD.out,by repeat (first|exact hb|refine below_drewN ?_ _)⟩
       case measure=>simp[intOf];try omega
open Go.RowKit Fp
theorem KE(A:Option Addr)(c:Nat)(L:List Nat)(w:World)(hs:Sl w A c L):
 Calls Tryz.prog 128 #[.slice A L.length c] w fun e w'=>e = .returned (.slice A L.length L.length)/\w=w':=by
 have hc:=hs.cap;have hl:=hs.pV;go_enter Tryz.func128,Tryz.ntmps128;go_wp2;go_ret;exact⟨rfl,rfl⟩
theorem Sl.Qs{w:World}{A:Option Addr}{c:Nat}{L:List Nat}(h:Sl w A c L):Sl w A L.length L:=
 ⟨aU _,aX h.cap h.pV,h.ok,(fun e=>by have:=h.wk e;have:=h.cap;omega),h.cell⟩
theorem KF(A:Option Addr)(c:Nat)(L:List Nat)(w:World)(hs:Sl w A c L)(hlen:L.length<=100000000):
 Calls Tryz.prog 129 #[.slice A L.length c] w (sO w L):=by
 have hc:=hs.cap;have hl:=hs.pV;rcases A with _|ad
 .have h0:=hs.wk rfl
  subst h0;have:L=[]:=de ae;subst this;have q:=fun(w:World) (n' c':Nat)=>Lib.run_eql_slice_nil (P:=Tryz.prog) w 29 _ none 0 0 n' c' Tryz.underlying29
  simp only[Option.isNone_none]at q;go_enter Tryz.func129,Tryz.ntmps129;go_wp2;go_ret;exact⟨none,0,rfl,Sl.nil _,iy.refl _⟩
 .have q:=fun(w:World) (n' c':Nat)=>Lib.run_eql_slice_nil (P:=Tryz.prog) w 29 _ (some ad) L.length c n' c' Tryz.underlying29
  simp only[Option.isNone_some]at q;go_enter Tryz.func129,Tryz.ntmps129;have lI:([]:List Nat).length+L.length<=10000000000:= av ;have h1:=Ow.empty w w.heap.size (aU _);have h2:=hs.alloc (.cells #[] 79);have h3:=pU (w:=w) (aU _) (.cells #[] 79);go_wp2_with (at_builtin;go_must (refine qQ ai _ _ ai w.heap.size _ [] ai h1 _ _ _ L ai ai h2 lI h3 ?_);intro v' w' ot hg oO)
  obtain⟨A',c',rfl,mJ⟩:=ot.sl;go_ret;exact⟨A',c',rfl,mJ,(iy.alloc _ _).grown hg (pU (aU _) _) (fun k hk=>by simp[Value.ownBlock]at hk;omega)⟩
theorem BP(A:Option Addr)(c:Nat)(L:List Nat)(w:World)(hs:Sl w A c L)(hlen:L.length<=100000000):
 Calls Tryz.prog 122 #[.slice A L.length c] w (sO w (ij L)):=by
 have hc:=hs.cap;have hl:=hs.pV;have fin:∀ k:Nat,k=(ij L).length->Hid (ij L=L.take k):=fun k hk=>by rw[hk];exact F4 L
 go_enter Tryz.func122,Tryz.ntmps122;go_wp2;go_loop [3] (fun i=>∃ k:Nat,k<=L.length/\i = .int .i64 k/\lQ L=lQ (L.take k)) (fun i=>(intOf i).toNat)
 case atStart=>exact⟨L.length,aU _,rfl,aj⟩
 case round=>
  obtain⟨k,hk,rfl,ht⟩:=hrel;have HT:=Lib.hid ht;clear ht;have lI:([]:List Nat).length+(L.take k).length<=10000000000:=by rw[bZ];simp;omega
  have HK:=Lib.hid (show k=(L.take k).length by rw[bZ];omega);have h1:=Ow.empty w w.heap.size (aU _);have h2:=(hs.take k).alloc (.cells #[] 79);have h3:=pU (w:=w) (aU _) (.cells #[] 79);by_cases h0:0<k
  .obtain ⟨ab,ao,rfl,hb,we⟩:=hs.ln (i:=k-1) ae 
   have e1:((k:Int)-1).toNat=k-1:= ae ;have Z:=Lib.hid (JK L (k-1) ae);have NZ:=Lib.hid (JJ L (k-1) ae);rw[eD h0]at Z NZ;generalize L[k-1]=x at *
   by_cases hx:x=0
   .have Hx:=Lib.hid hx;clear hx
    have hb:((x:Int)==0)=true:=by have:=Hx.out;simp;omega
    clear fin;go_wp2;go_round
    case rel=>exact⟨k-1,ae,by go_num,by rw[HT.out,Z.out Hx.out]⟩
    case measure=>simp[intOf];omega
   .have hb:((x:Int)==0)=false:= av 
    have F:=fin k (by show k=lQ L;rw[HT.out,NZ.out hx]);clear fin;go_wp2_with (at_builtin;go_must (refine qQ ai _ _ ai w.heap.size _ [] ai h1 _ _ _ (L.take k) ai HK.out h2 lI h3 ?_);intro v' w' ot hg oO)
    obtain⟨A',c',rfl,mJ⟩:=ot.sl;go_ret;rw[F.out];exact⟨A',c',rfl,mJ,(iy.alloc _ _).grown hg (pU (aU _) _) (fun k hk=>by simp[Value.ownBlock]at hk;omega)⟩
  .have:k=0:= ae 
   subst this;have F:=fin 0 (by show 0=lQ L;rw[HT.out];rfl);clear fin;go_wp2_with (at_builtin;go_must (refine qQ ai _ _ ai w.heap.size _ [] ai h1 _ _ _ (L.take 0) ai HK.out h2 lI h3 ?_);intro v' w' ot hg oO)
   obtain⟨A',c',rfl,mJ⟩:=ot.sl;go_ret;rw[F.out];exact⟨A',c',rfl,mJ,(iy.alloc _ _).grown hg (pU (aU _) _) (fun k hk=>by simp[Value.ownBlock]at hk;omega)⟩
theorem Un(A:Option Addr)(n c:Nat)(w:World):
 Calls Tryz.prog 203 #[.slice A n c] w fun e w'=>e = .returned (.bool (decide (256<n)))/\w=w':=by
 by_cases h:256<n
 .have h':(256:Int)<n:= ae 
  go_enter Tryz.func203,Tryz.ntmps203;go_wp2;go_ret;exact⟨by simp[h],rfl⟩
 .have h':¬(256:Int)<n:= ae 
  go_enter Tryz.func203,Tryz.ntmps203;go_wp2;go_ret;exact⟨aj,rfl⟩
def J5(w:World)(g:Nat)(xs:List (Option Addr×Nat×Nat)):Prop:=∀ i x,xs[i]? = some x->w.cell? ⟨g,i,none⟩=some (.slice x.1 x.2.1 x.2.2)
def wD(xs:List (Option Addr×Nat×Nat)):Bool:=xs.any fun x=>decide (256<x.2.1)
def YF(xs:List (Option Addr×Nat×Nat))(w:World)(e:Ending)(w':World):Prop:=
 ∃ n:Int,e = .returned (.int .i64 n)/\(0<=n↔wD xs=true)/\w=w'
theorem afh(g:Nat)(xs:List (Option Addr×Nat×Nat))(w:World)(hs:J5 w g xs)(hn:xs.length<=1000):
 Calls Tryz.prog 233 #[.slice (some ⟨g,0,none⟩) xs.length xs.length,.func (.func 203) #[] #[]] w (YF xs w):=by
 go_enter Tryz.func233,Tryz.ntmps233;go_wp2;go_loop [8] (fun i=>∃ k:Nat,k<=xs.length/\i = .int .i64 k/\wD (xs.take k)=false) (fun i=>xs.length-(intOf i).toNat)
 case atStart=>exact⟨0,bL _,rfl,rfl⟩
 case round=>
  obtain⟨k,hk,rfl,ht⟩:=hrel;have HT:=Lib.hid ht;clear ht;by_cases h0:k<xs.length
  .have hc:=hs k _ (bd h0)
   have e1:((k:Int)).toNat=k:= ae ;have ec:=YQ g k;have HX:=Lib.hid (show wD (xs.take (k+1))=(wD (xs.take k)||decide (256<xs[k].2.1))by
    unfold wD;rw[fw h0,List.any_append];simp)
   have HM:=Lib.hid (cw h0);generalize xs[k]=x at *
   obtain⟨A,n,c⟩:=x;simp only at hc HX;by_cases hx:256<n
   .have hb:decide (256<n)=true:=by simp[hx]
    go_wp2_with (go_at_call 203;refine(Un A n c _).mono ?_;rw[hb];rintro e w' ⟨rfl,rfl⟩)
    go_ret;refine⟨_,rfl,⟨fun _=>?_,fun _=> ae⟩,rfl⟩;unfold wD;rw[di];exact⟨_,HM.out,by simpa using hx⟩
   .have hb:decide (256<n)=false:= av 
    go_wp2_with (go_at_call 203;refine(Un A n c _).mono ?_;rw[hb];rintro e w' ⟨rfl,rfl⟩)
    go_round
    case rel=>exact⟨k+1,ae,by go_num,by rw[HX.out,HT.out,hb];rfl⟩
    case measure=>simp[intOf];omega
  .go_wp2
   go_ret;have e:xs.take k=xs:=ck ae;have:=HT.out;rw[e]at this;exact⟨_,rfl,by rw[this];simp,rfl⟩
theorem abc(g:Nat)(xs:List (Option Addr×Nat×Nat))(w:World)(hs:J5 w g xs)(hn:xs.length<=1000):
 Calls Tryz.prog 202 #[.slice (some ⟨g,0,none⟩) xs.length xs.length,.func (.func 203) #[] #[]] w fun e w'=>e = .returned (.bool (wD xs))/\w=w':=by
 have H:=Lib.hid (afh g xs w hs hn);go_enter Tryz.func202,Tryz.ntmps202;go_wp2_with fail;refine H.out.mono ?_;rintro e w' ⟨n,rfl,hn,rfl⟩;have HN:=Lib.hid hn;clear hn;go_wp2;go_ret;refine⟨Jt ?_,rfl⟩;have:=HN.out;cases h:wD xs<;>simp[h]at this ⊢ <;> omega
theorem Ur(g:Nat)(xs:List (Option Addr×Nat×Nat))(w:World)(hs:J5 w g xs)(hn:xs.length<=1000):
 Calls Tryz.prog 164 #[.slice (some ⟨g,0,none⟩) xs.length xs.length] w fun e w'=>e = .returned (.bool (wD xs))/\w=w':=by
 have H:=Lib.hid (abc g xs w hs hn);go_enter Tryz.func164,Tryz.ntmps164;go_wp2_with fail;refine H.out.mono ?_;rintro e w' ⟨rfl,rfl⟩;go_wp2;go_ret;exact⟨rfl,rfl⟩
open Go.RowKit Fp
theorem MW(g:Nat)(A:Option Addr)(n c:Nat)(w:World)(b:Bool)(h:w.cell? ⟨g,0,none⟩=some (.slice A n c))(hb:b=decide (256<n)):
 Calls Tryz.prog 164 #[.slice (some ⟨g,0,none⟩) 1 1] w fun e w'=>e = .returned (.bool b)/\w=w':=by
 have:=Ur g [(A,n,c)] w (fun i x hx=>by
  obtain⟨h1,h2⟩:=bV.1 hx;obtain rfl:i=0:=by simp at h1;omega
  simp at h2;subst h2;exact h) aj 
 simpa[wD,hb]using this
theorem Uo(g:Nat)(A B:Option Addr)(n c m d:Nat)(w:World)(b:Bool)(h:w.cell? ⟨g,0,none⟩=some (.slice A n c))(k:w.cell? ⟨g,1,none⟩=some (.slice B m d))(hb:b=(decide (256<n)||decide (256<m))):
 Calls Tryz.prog 164 #[.slice (some ⟨g,0,none⟩) 2 2] w fun e w'=>e = .returned (.bool b)/\w=w':=by
 have:=Ur g [(A,n,c),(B,m,d)] w (fun i x hx=>by
  obtain⟨h1,h2⟩:=bV.1 hx;simp at h1;rcases i with _|_|i
  .simp at h2;subst h2;exact h
  .simp at h2;subst h2;exact k
  .omega) aj 
 simpa[wD,hb]using this
theorem Fg(A:Option Addr)(c:Nat)(L:List Nat)(w:World)(hs:Sl w A c L)(hl:(ij L).length<=256):
 Calls Tryz.prog 165 #[.slice A L.length c] w (B7 w (ij L) 0):=by
 have hT:=Lib.hid (ud A c L w hs);have ky:=hs.tk;have hC:=hs.cap;have hL:=hs.pV;have H2:=Lib.hid (fun w' (h:Sl w' A c (ij L))=>KE A c (ij L) w' h);generalize ij L=M at *
 obtain⟨n,hn⟩:∃ n,n=M.length:=⟨_,rfl⟩
 rw[<-hn]at hT hl H2;have HN:=Lib.hid hn;clear hn;go_enter Tryz.func165,Tryz.ntmps165;go_wp2_with fail;refine hT.out.mono ?_;rintro e w' ⟨rfl,rfl⟩;go_wp2_with fail;refine(MW _ A n c _ false ?_ av).mono ?_
 .go_simp
 rintro e w' ⟨rfl,rfl⟩;go_wp2_with fail;refine(H2.out _ (ky.alloc _)).mono ?_;rintro e w' ⟨rfl,rfl⟩;go_wp2;go_ret2;exact⟨A,n,by rw[HN.out];rfl,by have:=ky.Qs.alloc (.cells #[.slice A n c] 29);rw[HN.out]at this ⊢;exact this,iy.alloc _ _⟩
theorem JP(a b:Nat)(ha:a<18446744073709551616)(hb:b<18446744073709551616):bits .or .u64 (a:Int) (b:Int)=((a |||b:Nat):Int):=by
 have hx:a |||b<2^64:=amN ae ae 
 have h1:(BitVec.ofInt 64 (a:Int)).toNat=a:=by
  rw[gh,gi];exact bu ae 
 have h2:(BitVec.ofInt 64 (b:Int)).toNat=b:=by
  rw[gh,gi];exact bu ae 
 show IntKind.u64.wrap ((BitVec.ofInt 64 (a:Int) |||BitVec.ofInt 64 (b:Int)).toNat:Int)=_;rw[BitVec.toNat_or,h1,h2,IntKind.wrap_u64];omega
theorem Aq(a b k:Nat)(h:a<2^k):a |||b*2^k=a+b*2^k:=by
 rw[a7,fG,<-Nat.two_pow_add_eq_or_of_lt h];omega
theorem Sl.drop{w:World}{A:Option Addr}{c:Nat}{L:List Nat}(h:Sl w A c L)(k:Nat):Sl w (A.map (·.add k)) (c-k) (L.drop k):=
 ⟨by have:=h.cap;rw[eo];omega,aX (dj _ _) h.pV,h.ok.drop k,(fun e=>by
  rcases A with _|ad
  .rw [h.wk rfl];omega
  .cases e),fun i x hx=>by
  rw[ek]at hx;obtain⟨b,o,rfl,h1,h2⟩:=h.cell _ _ hx;exact⟨b,o+k,by rw[cJ,AN],h1,by rw[cE];exact h2⟩⟩
def part(T:List Nat)(k:Nat):List Nat:=T.take k++List.replicate (T.length-k) 0
theorem ahB(T:List Nat):part T 0=List.replicate T.length 0:=by unfold part;simp
theorem ahz(T:List Nat):part T T.length=T:=by unfold part;simp
theorem ahA(T:List Nat)(k:Nat)(h:k<T.length):(part T k)[k]? = some 0:=by
 unfold part;rw[eV aD,bZ,fH,aR ae]
theorem Vu(T:List Nat)(k x:Nat)(h:T[k]? = some x):(part T k).set k x=part T (k+1):=by
 obtain⟨h1,rfl⟩:=bV.1 h;unfold part;rw[List.set_append_right _ _ aD,bZ,cR ae,cT,
  fw h1,show T.length-k=(T.length-(k+1))+1 by omega,List.replicate_succ,ado,List.append_assoc]
 rfl
theorem akm(x y s:Nat)(hx:x<4294967296)(hy:y<4294967296):
 bits BinOp.or IntKind.u64 (x:Int) ((y:Int)*4294967296)/2^s%4294967296=(((x+4294967296*y)/2^s%4294967296:Nat):Int):=by
 have e:((y:Int)*4294967296)=((y*2^32:Nat):Int):= aj ;rw[e,JP x (y*2^32) ae ae,Aq x y 32 ae];simp[a7]
theorem akn(x s:Nat):(x:Int)/2^s%4294967296=(((x+4294967296*0)/2^s%4294967296:Nat):Int):=by
 simp
theorem Nb(A:Option Addr)(c:Nat)(L:List Nat)(n:Nat)(w:World)(hs:Sl w A c L)(hlen:L.length<=100000000)(hn:n<=65536):
 Calls Tryz.prog 166 #[.slice A L.length c,.int .i64 n] w (sO w (qn (n%32) ((ij L).drop (n/32)))):=by
 have hT:=Lib.hid (ud A c L w hs);have ky:=hs.tk;have ns:=oG L;have hC:=ky.cap;have hL:=hs.pV;unfold lQ at ns;generalize ij L=M at *
 obtain⟨m,hm⟩:∃ m,m=M.length:=⟨_,rfl⟩
 rw[<-hm]at hT ns hC;have HM:=Lib.hid hm;clear hm;by_cases h0:m<=n/32
 .go_enter Tryz.func166,Tryz.ntmps166
  go_wp2_with fail;refine hT.out.mono ?_;rintro e w' ⟨rfl,rfl⟩;go_wp2;go_ret;have:M.drop (n/32)=[]:=dO (by rw[<-HM.out];exact h0);rw[this];exact⟨none,0,rfl,Sl.nil _,iy.refl _⟩
 .obtain ⟨ab,ao,rfl,_,_⟩:=ky.ln (i:=0) (by have:=HM.out;omega)
  have hK:=ky.drop (n/32);have tE:=Lib.hid (show m-n/32=(M.drop (n/32)).length by rw[eo,HM.out]);have rC:n/32<c:= ae ;have oR:=C8 (m-n/32) ae;have mE:0<m-n/32:= ae ;have sW:m-n/32<=100000000:= ae ;generalize M.drop (n/32)=K at *
  simp only[cJ,AN]at hK;have vO:=Lib.hid (JC (n%32) K);have LB:=Lib.hid (Xg (n%32) K);have Em:=Lib.hid (Am (n%32) K);generalize qn (n%32) K=T at *
  go_enter Tryz.func166,Tryz.ntmps166;go_wp2_with fail;refine hT.out.mono ?_;rintro e w' ⟨rfl,rfl⟩;go_wp2;go_loopw [25] (fun i wr=>∃ k:Nat,k<=m-n/32/\i = .int .i64 k/\Rw wr w.heap.size (part T k)/\iy w wr) (fun i _=>m-n/32-(intOf i).toNat)
  case atStart=>
   refine⟨0,bL _,rfl,?_,iy.alloc _ _⟩;rw[ahB,vO.out,<-tE.out];exact Rw.xm _ _
  case round=>
   obtain⟨k,hk,rfl,hR,hb⟩:=hrel;by_cases iD:k<m-n/32
   .have tI:k<K.length:=by have:=tE.out;omega
    obtain⟨ab',ao',e',_,c1⟩:=(hK.below hb).ln tI;cases e';have hg:=LB.out k tI;have my:K[k]<4294967296:=hK.ok.get tI;have HK:=Lib.hid (bd tI);have c3:=hR.cell (ahA T k (by have:=vO.out;omega));have c4:=hR.frozen k;by_cases zQ:k+1<m-n/32
    .have yg:k+1<K.length:=by have:=tE.out;omega
     obtain⟨ab',ao',e',_,c2⟩:=(hK.below hb).ln yg;cases e';have hy:K.getD (k+1) 0=K[k+1]:=by rw[aW,bd yg];rfl
     rw[hy]at hg;have pq:K[k+1]<4294967296:=hK.ok.get yg;have HG:=Lib.hid hg;clear hg hy;generalize K[k]=x at *
     generalize K[k+1]=y at *
     clear tI yg;go_wp2;go_roundw
     case rel=>
      rw[akm x y (n%32) my pq];exact⟨k+1,ae,by go_num,by rw[<-Vu T k _ HG.out];exact hR.set k _,hb.setCell (aU _) _⟩
     case measure=>simp[intOf];omega
    .have hy:K.getD (k+1) 0=0:=by rw[aW,bS (by have:=tE.out;omega)];rfl
     rw[hy]at hg;have HG:=Lib.hid hg;clear hg hy;generalize K[k]=x at *
     clear tI;go_wp2;go_roundw
     case rel=>
      rw[akn x (n%32)];exact⟨k+1,ae,by go_num,by rw[<-Vu T k _ HG.out];exact hR.set k _,hb.setCell (aU _) _⟩
     case measure=>simp[intOf];omega
   .go_wp2
    go_ret;obtain rfl:k=m-n/32:= ae ;rw[tE.out,<-vO.out,ahz]at hR;have:=hR.sl Em.out (by have:=vO.out;have:=tE.out;omega);rw[vO.out,<-tE.out]at this;exact⟨_,_,by rw[vO.out,<-tE.out];rfl,this,hb⟩
theorem akk{L:List Nat}(h:iC L)(n:Nat):ij (qn (n%32) ((ij L).drop (n/32)))=gU (val L/2^n):=by
 rw[qo (Am _ _),JV h.ij,oo]
theorem O3(w:World)(A:Option Addr)(n c:Nat):(w.alloc (.cells #[.slice A n c] 29)).cell? ⟨w.heap.size,0,none⟩=some (.slice A n c):=by
 rw[World.cell?_alloc_at _ _ _ _ rfl];rfl
theorem O4(w:World)(A B:Option Addr)(n c m d:Nat):(w.alloc (.cells #[.slice A n c,.slice B m d] 29)).cell? ⟨w.heap.size,0,none⟩=some (.slice A n c):=by
 rw[World.cell?_alloc_at _ _ _ _ rfl];rfl
theorem O5(w:World)(A B:Option Addr)(n c m d:Nat):(w.alloc (.cells #[.slice A n c,.slice B m d] 29)).cell? ⟨w.heap.size,1,none⟩=some (.slice B m d):=by
 rw[World.cell?_alloc_at _ _ _ _ rfl];rfl
theorem U2(A:Option Addr)(c:Nat)(L:List Nat)(n:Nat)(w:World)(hs:Sl w A c L)(hlen:L.length<=256)(hn:n<=65536):
 Calls Tryz.prog 127 #[.slice A L.length c,.int .i64 n] w (B7 w (gU (val L/2^n)) 0):=by
 have hf:decide (256<L.length)=false:= av ;have h3:=Lib.hid (akk hs.ok n);have h4:(ij (qn (n%32) ((ij L).drop (n/32)))).length<=256:=by
  have h1:=oG (qn (n%32) ((ij L).drop (n/32)));unfold lQ at h1;rw[JC,eo]at h1;have h2:=oG L;unfold lQ at h2;omega
 have H1:=Lib.hid (fun w (h:Sl w A c L)=>Nb A c L n w h ae hn);generalize qn (n%32) ((ij L).drop (n/32))=T at *
 go_enter Tryz.func127,Tryz.ntmps127;go_wp2_with fail;refine(MW _ A _ c _ false (O3 _ _ _ _) av).mono ?_;rintro e w' ⟨rfl,rfl⟩;go_wp2_with fail;refine(H1.out _ (hs.alloc _)).mono ?_;rintro e w' ⟨A',c',rfl,mJ,hb⟩;go_wp2_with fail;refine(Fg A' c' T _ mJ h4).mono ?_;rintro e w'' ⟨A'',c'',rfl,qA,mo⟩;go_wp2;go_ret2;rw[<-h3.out];exact⟨A'',c'',rfl,qA,(iy.alloc _ _).trans (hb.trans mo)⟩
end Go.Proofs.YtdgnpeddgdclhaaGreatDoor
