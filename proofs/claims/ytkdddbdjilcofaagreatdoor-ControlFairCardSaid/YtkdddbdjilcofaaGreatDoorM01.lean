/- Lemmas that the last file uses. -/
import Derived.Test.YtkdddbdjilcofaaGreatDoorProg
import Derived.WalkKit
import Derived.BigQuiet
import Derived.WalkSpells
import Derived.WalkLawsBesides
import Derived.Lib.Hide
import Derived.Deep.RegionHeld3
import Derived.Maps.AppendAt
import Derived.Deep.AppendLies
import Derived.Deep.Draws
import Derived.Deep.DeepFit
import Derived.Laws.AppendOwnNone
import Derived.Shelf.Small.Bits
import Derived.Shelf.Spec.TrailingZeros
import Derived.Test.YtkdddbdjilcofaaGreatDoorCards
import Derived.Test.YtkdddbdjilcofaaGreatDoorTie
import Derived.ProofKit
import Derived.OpenShut
import Derived.Deep.DeepHandedRow
import Derived.Lib.LaidTab
import Derived.Laws.AppendOwn
import Derived.Laws.MakeOwn
import Derived.Laws.Slices
import Derived.Orders
import Derived.Laws.Build
set_option linter.unusedSimpArgs false
set_option linter.unusedVariables false
set_option linter.defProp false
set_option maxHeartbeats 4000000
open Go.Proofs.Tryz
namespace Go.Proofs.YtkdddbdjilcofaaGreatDoor
theorem aC{p:Prop}(h:p:=by omega):p:=h
theorem aD{p:Prop}(h:p:=by assumption):p:=h
theorem aE{p:Prop}(h:p:=by decide):p:=h
theorem aF{p:Prop}(h:p:=by kernel_rfl):p:=h
theorem aG{p:Prop}(h:p:=by rfl):p:=h
theorem aH{p:Prop}(h:p:=by simp):p:=h
theorem aI{p:Prop}(h:p:=by nofun):p:=h
theorem aJ{p:Prop}(h:p:=by simp<;>omega):p:=h
theorem aK{p:Prop}(h:p:=by grind):p:=h
theorem aL{p:Prop}(h:p:=by decide +kernel):p:=h
theorem aM{p:Prop}(h:p:=by split<;>omega):p:=h
theorem aN{p:Prop}(h:p:=by simp;omega):p:=h
theorem aO{p:Prop}(h:p:=by first|rfl|omega|(simp only[Nat.add_mul,Nat.one_mul];omega)):p:=h
theorem aP{p:Prop}(h:p:=by simp[Op.operands]):p:=h
theorem aQ{p:Prop}(h:p:=by rw[List.length_take];omega):p:=h
theorem aR{p:Prop}(h:p:=by unfold tG;simp_all<;>omega):p:=h
theorem aS{p:Prop}(h:p:=by unfold kP;omega):p:=h
theorem aT{α:Type _}[BEq α][LawfulBEq α]{a b:α}(h:a≠b):(a==b)=false:=beq_eq_false_iff_ne.2 h
theorem aU{α:Type _}[BEq α][LawfulBEq α]{a b:α}(h:a=b):(a==b)=true:=beq_iff_eq.2 h
theorem aV{b:Bool}(h:¬b=true):b=false:=Bool.eq_false_iff.2 h
theorem aW{α:Type _}[BEq α][LawfulBEq α]{a b:α}(h:a=b):(a != b)=false:=bne_eq_false_iff_eq.2 h
theorem aX{α:Type _}[BEq α][LawfulBEq α]{a b:α}(h:a≠b):(a != b)=true:=bne_iff_ne.2 h
def aY:=@if_neg
def aZ:=@if_pos
def a6:=@decide_eq_true
def a7:=@decide_eq_false
def bc:=@Nat.le_refl
def bd:=@List.getD_eq_getElem?_getD
def bg:=@Nat.le_trans
def bh:=@Nat.pow_add
def bj:=@if_false
def bk:=@Nat.not_lt_zero
def bn:=@Nat.pow_pos
def bt:=@List.getElem?_eq_getElem
def bu:=@Option.some.injEq
def bw:=@if_true
def bA:=@Nat.mul_assoc
def bB:=@Bool.false_eq_true
def bC:=@Nat.pow_succ
def bD:=@Nat.mul_comm
def bE:=@Bool.and_eq_true
def bF:=@Nat.mod_lt
def bG:=@Rat.le_of_lt
def bH:=@Nat.pow_le_pow_right
def bI:=@Rat.le_trans
def bJ:=@Nat.lt_of_lt_of_le
def bK:=@Nat.mul_le_mul_right
def bL:=@Prod.mk.injEq
def bM:=@Classical.byContradiction
def bN:=@List.all_eq_true
def bO:=@Nat.mul_add
def bQ:=@Rat.mul_nonneg
def bR:=@Nat.add_zero
def bS:=@Nat.add_mul
def bT:=@Nat.div_le_self
def bU:=@Nat.one_mul
def bV:=@Nat.zero_le
def bW:=@List.mem_range
def bX:=@Nat.mod_eq_of_lt
def bY:=@Nat.zero_add
def bZ:=@Nat.mul_one
def b5:=@List.getElem?_eq_some_iff
def b6:=@Rat.le_refl
def b7:=@List.getElem?_eq_none
def b8:=@List.length_take
def b9:=@decide_eq_true_eq
def ca:=@List.length_map
def cg:=@Nat.beq_refl
def ch:=@Int.le_refl
def cj:=@Rat.mul_le_mul_of_nonneg_right
def ck:=@Nat.lt_of_le_of_lt
def cr:=@List.getElem?_map
def ct:=@Option.map_some
def cv:=@Nat.div_lt_iff_lt_mul
def cw:=@Nat.pow_zero
def cz:=@List.getElem_mem
def cA:=@List.length_append
def cB:=@Nat.div_add_mod
def cC:=@Nat.zero_mul
def cD:=@Nat.mul_le_mul_left
def cE:=@Nat.le_of_ble_eq_true
def cF:=@Rat.mul_le_mul_of_nonneg_left
def cG:=@Option.map_eq_some_iff
def cH:=@Nat.mul_zero
def cI:=@beq_false
def cJ:=@of_decide_eq_true
def cK:=@Classical.choose_spec
def cL:=@Rat.div_def
def cM:=@List.length_cons
def cN:=@List.take_of_length_le
def cO:=@Nat.div_eq_of_lt
def cP:=@Rat.natCast_nonneg
def cQ:=@Nat.add_assoc
def cR:=@Array.getElem?_eq_some_iff
def cS:=@ne_eq
def cT:=@Nat.le_div_iff_mul_le
def cU:=@Nat.div_mul_le_self
def cV:=@List.mem_cons
def cW:=@List.any_eq_false
def cX:=@Nat.sub_self
def cY:=@List.length_set
def c9:=@Rat.natCast_mul
def dc:=@Nat.min_eq_left
def de:=@Nat.mul_lt_mul_of_pos_right
def df:=@Nat.mul_ne_zero
def dg:=@List.mem_map
def dh:=@List.eq_nil_of_length_eq_zero
def di:=@Array.ext'
def dj:=@Nat.mul_le_mul
def dk:=@Rat.not_lt
def dm:=@Nat.div_div_eq_div_mul
def dp:=@List.mem_iff_getElem?
def dq:=@Array.length_toList
def dr:=@Nat.sub_zero
def dt:=@Nat.le_of_lt
def du:=@Rat.natCast_le_natCast
def dv:=@Rat.mul_lt_mul_of_pos_right
def dw:=@List.getElem?_append_left
def dx:=@Bool.or_eq_true
def dz:=@Bool.eq_iff_iff
def dA:=@Rat.div_mul_cancel
def dB:=@List.mem_append
def dC:=@List.getElem_cons_succ
def dD:=@Nat.mul_div_cancel
def dE:=@Nat.mod_one
def dF:=@List.mem_of_getElem?
def dG:=@List.mem_flatMap
def dH:=@Array.mem_of_getElem?
def dI:=@Bool.not_eq_true'
def dJ:=@List.any_eq_true
def dK:=@Nat.mul_left_comm
def dL:=@Nat.pos_of_ne_zero
def dM:=@Rat.intCast_natCast
def dN:=@Rat.mul_pos
def dO:=@Rat.natCast_add
def dP:=@Nat.add_mul_mod_self_left
def dQ:=@List.drop_eq_nil_of_le
def dR:=@List.take_succ_cons
def dU:=@Nat.ne_of_gt
def dV:=@List.getElem?_take
def dW:=@Bool.not_false
def dX:=@List.map_cons
def dY:=@Nat.eq_zero_or_pos
def dZ:=@List.any_cons
def ef:=@not_false_eq_true
def eh:=@Nat.lt_succ_self
def ej:=@Int.natCast_mul
def ek:=@Nat.mod_le
def en:=@Rat.mul_assoc
def eo:=@List.mem_of_mem_take
def ep:=@Nat.add_sub_cancel
def er:=@Nat.mod_add_div
def et:=@List.getElem_toArray
def eu:=@List.getElem_cons_zero
def ev:=@List.drop_zero
def ew:=@List.drop_succ_cons
def ey:=@List.take_zero
def ez:=@List.getElem?_drop
def eA:=@List.getElem?_append
def eB:=@List.length_drop
def eC:=@Bool.or_eq_false_iff
def eD:=@Nat.sub_le
def eE:=@List.getElem?_replicate
def eF:=@Int.eq_ofNat_of_zero_le
def eG:=@List.take_length
def eH:=@Nat.xor_lt_two_pow
def eI:=@Nat.div_one
def eJ:=@Int.toNat_of_nonneg
def eK:=@List.mem_of_mem_drop
def eN:=@Nat.add_mul_div_left
def eO:=@List.drop_eq_getElem_cons
def eP:=@Array.getElem?_modify
def eR:=@Bool.not_true
def eU:=@Array.mem_append
def eV:=@getElem!_pos
def eW:=@Bool.or_false
def eX:=@and_true
def eZ:=@Nat.lt_trans
def e9:=@Bool.true_and
def fc:=@Option.isSome_iff_exists
def fe:=@List.map_congr_left
def ff:=@Nat.and_lt_two_pow
def fg:=@decide_true
def fh:=@BitVec.toNat_ofInt
def fi:=@Rat.le_of_mul_le_mul_right
def fj:=@Rat.neg_neg
def fk:=@Rat.one_mul
def fm:=@Rat.mul_comm
def fo:=@dif_pos
def fp:=@Rat.inv_pos
def fu:=@Rat.le_antisymm
def fw:=@List.take_succ_eq_append_getElem
def fz:=@List.length_singleton
def fA:=@Nat.mul_pos
def fB:=@Nat.lt_or_ge
def fC:=@Nat.mul_mod_left
def fD:=@List.map_append
def fE:=@List.append_nil
def fF:=@Int.toNat_natCast
def fG:=@Nat.blt_eq
def fH:=@Nat.mul_add_mod
def fI:=@List.ext_getElem?
def fJ:=@List.getElem?_append_right
def fK:=@List.size_toArray
def fL:=@Array.mem_map
def fM:=@Array.mem_range
def fN:=@List.any_nil
def fO:=@List.length_pos_iff
def fP:=@beq_iff_eq
def fQ:=@Int.natAbs_natCast
def fR:=@List.ext_getElem
def fS:=@Rat.intCast_le_intCast
def fT:=@Rat.natCast_pos
def fU:=@of_decide_eq_false
def fV:=@Nat.div_lt_self
def fW:=@Nat.le_mul_of_pos_left
def fX:=@Nat.mul_right_comm
def fY:=@Nat.sub_add_cancel
def fZ:=@Nat.le_mul_of_pos_right
def gh:=@Array.getElem_mem
def gj:=@List.getElem?_toArray
def gl:=@List.mem_toArray
def gn:=@Int.tdiv_eq_ediv_of_nonneg
def gp:=@List.mem_singleton
def gq:=@List.mapM_cons
def gr:=@Option.bind_eq_some_iff
def gv:=@BitVec.ofInt_natCast
def gw:=@BitVec.toNat_ofNat
def gy:=@Nat.pow_lt_pow_right
def gz:=@decide_eq_true_iff
def gE:=@decide_false
def gF:=@Nat.le_of_eq
def gG:=@Bool.or_self
def gH:=@Nat.succ_mul
def gI:=@Nat.div_le_div_left
def gJ:=@Rat.not_le
def gK:=@Rat.intCast_neg
def gL:=@Rat.neg_mul
def gM:=@Rat.inv_mul_cancel
def gN:=@Nat.one_ne_zero
def gO:=@List.cons_append
def gP:=@List.take_append_drop
def ado:=@List.eq_nil_or_concat
def ami:=@List.concat_eq_append
def amj:=@List.getElem?_cons_succ
def amk:=@Nat.mul_add_div
def aml:=@Array.size_append
def amm:=@not_true_eq_false
def amn:=@List.append_assoc
def amo:=@List.length_nil
def amp:=@Option.getD_some
def amq:=@List.pairwise_cons
def amr:=@List.pairwise_append
def ams:=@Option.some.inj
def amt:=@Array.getElem_setIfInBounds_ne
def amu:=@Nat.or_lt_two_pow
def amv:=@List.take_add_one
def amw:=@decide_eq_decide
def amx:=@Int.natAbs_neg
def amy:=@Nat.testBit_xor
def amz:=@Bool.false_or
def amA:=@List.length_eq_zero_iff
def amB:=@List.getElem?_range
def amC:=@List.range_succ
def amD:=@Rat.mul_div_cancel
def amE:=@List.all_eq_false
def amF:=@Nat.pow_lt_pow_iff_right
def amG:=@Array.getElem?_setIfInBounds_ne
def amH:=@Array.getElem?_append_left
def amI:=@Array.toList_setIfInBounds
def amJ:=@List.drop_length_add_append
def amK:=@Array.all_eq_true_iff_forall_mem
def amL:=@Array.mapM_eq_mapM_toList
def amM:=@Nat.and_two_pow_sub_one_eq_mod
def amN:=@Nat.eq_of_mul_eq_mul_right
def amO:=@Nat.lt_of_mul_lt_mul_right
def amP:=@Rat.lt_of_mul_lt_mul_right
def amQ:=@Int.tmod_eq_emod_of_nonneg
def amR:=@decide_eq_false_iff_not
def amS:=@Int.mul_tdiv_cancel_left
def amT:=@Nat.mul_div_cancel_left
def amU:=@Nat.mod_two_eq_zero_or_one
def amV:=@Nat.mul_lt_mul_of_lt_of_lt
def amW:=@Lib.hid
end Go.Proofs.YtkdddbdjilcofaaGreatDoor
namespace Go.Proofs.YtkdddbdjilcofaaGreatDoor.Fp
def val:List Nat->Nat
 | []=>0
 |x::l=>x+4294967296*val l
def iD(L:List Nat):Prop:=∀ x,x ∈ L->x<4294967296
def iD.nil:iD []:=by intro x h;cases h
def iD.cons{x:Nat}{l:List Nat}(hx:x<4294967296)(h:iD l):iD (x::l):=by
 intro y hy;rcases cV.1 hy with rfl|hy;exact hx;exact h _ hy
def iD.head{x:Nat}{l:List Nat}(h:iD (x::l)):x<4294967296:=h x aH 
def iD.tail{x:Nat}{l:List Nat}(h:iD (x::l)):iD l:=λy hy=>h y (by simp[hy])
def iD.append{l m:List Nat}(h:iD l)(k:iD m):iD (l++m):=by
 intro x hx;rcases dB.1 hx with hx|hx;exact h _ hx;exact k _ hx
def iD.take{l:List Nat}(h:iD l)(n:Nat):iD (l.take n):=λx hx=>h x (eo hx)
def iD.drop{l:List Nat}(h:iD l)(n:Nat):iD (l.drop n):=λx hx=>h x (eK hx)
def iD.get{l:List Nat}(h:iD l){i:Nat}(hi:i<l.length):l[i]<4294967296:=h _ (cz hi)
def iD.getD{l:List Nat}(h:iD l)(i:Nat):l.getD i 0<4294967296:=by
 rw[bd];by_cases hi:i<l.length
 .rw [bt hi];exact h.get hi
 .rw [b7 aC];decide
def iD.DY(n:Nat):iD (List.replicate n 0):=by
 intro x hx;rw[List.mem_replicate]at hx;rw[hx.2];decide
@[simp] theorem Ku:val []=0:=rfl
@[simp] theorem se (x:Nat) (l:List Nat):val (x::l)=x+4294967296*val l:=rfl
def A9(l m:List Nat):val (l++m)=val l+4294967296^l.length*val m:=by
 induction l with
 |nil=>simp
 |cons x l ih=>
  simp only[gO,se,ih,cM,bC];rw[bO,bD (4294967296^l.length) 4294967296,bA];omega
def oo{l:List Nat}(h:iD l):val l<4294967296^l.length:=by
 induction l with
 |nil=>simp
 |cons x l ih=>
  have h1:=h.head;have h2:=ih h.tail;simp only[se,cM,bC];have:val l+1<=4294967296^l.length:=h2;have:=cD 4294967296 this;rw[bD (4294967296^l.length)];omega
def CE(n:Nat):val (List.replicate n 0)=0:=by
 induction n with
 |zero=>rfl
 |succ n ih=>simp[List.replicate_succ,ih]
def Ec(l:List Nat)(n:Nat)(hn:n<=l.length):val l=val (l.take n)+4294967296^n*val (l.drop n):=by
 conv=>lhs;rw[<-gP n l,A9]
 rw[b8,dc hn]
def CG(l:List Nat)(n:Nat)(hn:n<l.length):val (l.take (n+1))=val (l.take n)+4294967296^n*l[n]:=by
 rw[fw hn,A9,b8,dc aC];simp
def ale{l:List Nat}(h:iD l)(n:Nat):val (l.take n)=val l%4294967296^n:=by
 by_cases hn:n<=l.length
 .rw [Ec l n hn,dP,bX];have:=oo (h.take n);rwa[b8,dc hn]at this
 .rw [cN aC,bX];refine bJ (oo h) (bH aE aC)
def GK{l:List Nat}(h:iD l)(n:Nat):val (l.drop n)=val l/4294967296^n:=by
 by_cases hn:n<=l.length
 .rw [Ec l n hn];have:=oo (h.take n);rw[b8,dc hn]at this;rw[eN _ _ (bn aE),cO this,bY]
 .rw [dQ aC,cO];rfl;exact bJ (oo h) (bH aE aC)
def iz:List Nat->List Nat
 | []=>[]
 |x::l=>match iz l with
  | []=>if x=0 then[]else[x]
  |y::m=>x::y::m
def mr(L:List Nat):Nat:=(iz L).length
def Yy(l:List Nat):iz (l++[0])=iz l:=by
 induction l with
 |nil=>rfl
 |cons x l ih=>simp only[gO,iz,ih]
def Yx(l:List Nat)(x:Nat)(hx:x≠0):iz (l++[x])=l++[x]:=by
 induction l with
 |nil=>simp[iz,hx]
 |cons y l ih=>
  simp only[gO,iz,ih];cases l<;>rfl
def Km(L:List Nat):iz L=L.take (mr L):=by
 unfold mr
 induction L with
 |nil=>rfl
 |cons x l ih=>
  simp only[iz];cases h:iz l with
  |nil=>by_cases hx:x=0<;>simp[hx]
  |cons y m=>
   rw[h]at ih;simp only[cM,dR];rw[cM]at ih;rw[<-ih]
def pj(L:List Nat):mr L<=L.length:=by
 have h:=congrArg List.length (Km L);rw[b8]at h;unfold mr at h ⊢;omega
def pJ(L:List Nat):val (iz L)=val L:=by
 induction L with
 |nil=>rfl
 |cons x l ih=>
  simp only[iz];cases h:iz l with
  |nil=>rw[h]at ih;by_cases hx:x=0<;>simp[hx,<-ih]
  |cons y m=>rw[h]at ih;simp only[se]at ih ⊢;rw[ih]
def iD.iz{L:List Nat}(h:iD L):iD (Fp.iz L):=by rw[Km];exact h.take _
def nA(L:List Nat):Prop:=iz L=L
def zz(L:List Nat):nA (iz L):=by
 unfold nA
 induction L with
 |nil=>rfl
 |cons x l ih=>
  simp only[iz];cases h:iz l with
  |nil=>by_cases hx:x=0<;>simp[hx,iz]
  |cons y m=>rw[h]at ih;simp only[iz]at ih ⊢;rw[ih]
def nA.nil:nA []:=rfl
def A7(L:List Nat):nA L↔∀ h:0<L.length,L[L.length-1]≠0:=by
 rcases ado L with rfl|⟨l,x,rfl⟩
 .simp [nA,iz]
 .simp only[ami,cA,fz,ep,List.getElem_concat_length];constructor
  .intro h _ hx;subst hx;have:=congrArg List.length h;rw[Yy]at this;have h2:=pj l;unfold mr at h2;rw[cA]at this;simp at this;omega
  .intro h;exact Yx l x (h aC)
def Pf(L:List Nat)(n:Nat)(hn:n<L.length)(h0:L[n]=0):mr (L.take (n+1))=mr (L.take n):=by
 unfold mr;rw[fw hn,h0,Yy]
def Pe(L:List Nat)(n:Nat)(hn:n<L.length)(h0:L[n]≠0):mr (L.take (n+1))=n+1:=by
 unfold mr;rw[fw hn,Yx _ _ h0];simp;omega
def nA.Lh{x:Nat}{l:List Nat}(h:nA (x::l)):nA l:=by
 rw[A7]at h ⊢;intro hl;have:=h aH;simp only[cM,ep]at this;have e:(x::l)[l.length]'(aH)=l[l.length-1]:=by
  rw[List.getElem_cons];rw[dif_neg aC]
 rwa[e]at this
def nA.Eb{L:List Nat}(h:nA L)(hl:L≠[]):0<val L:=by
 induction L with
 |nil=>exact absurd rfl hl
 |cons x l ih=>
  simp only[se];by_cases pZ:l=[]
  .subst pZ;have:=(A7 _).1 h aH;simp at this;simp;omega
  .have:=ih h.Lh pZ;omega
def nA.ext{L M:List Nat}(hL:nA L)(hM:nA M)(kL:iD L)(kM:iD M)(h:val L=val M):L=M:=by
 induction L generalizing M with
 |nil=>
  by_cases hm:M=[]
  .exact hm.symm
  .have:=hM.Eb hm;rw[<-h]at this;simp at this
 |cons x l ih=>
  cases M with
  |nil=>have:=hL.Eb aH;rw[h]at this;simp at this
  |cons y m=>
   simp only[se]at h;have h1:=kL.head;have h2:=kM.head;have e:x=y:= aC ;subst e;rw[ih hL.Lh hM.Lh kL.tail kM.tail aC]
def gR(n:Nat):List Nat:=if n=0 then[]else n%4294967296::gR (n/4294967296)
termination_by n
decreasing_by exact fV aC aE 
def nP:gR 0=[]:=by rw[gR];rfl
def AB{n:Nat}(h:n≠0):gR n=n%4294967296::gR (n/4294967296):=by rw[gR,aY h]
def jY(n:Nat):val (gR n)=n:=by
 induction n using Nat.strongRecOn with
 |_ n ih=>
  by_cases h:n=0
  .subst h;rw[nP];rfl
  .rw [AB h,se,ih _ (fV aC aE)];exact er n 4294967296
def mB(n:Nat):iD (gR n):=by
 induction n using Nat.strongRecOn with
 |_ n ih=>
  by_cases h:n=0
  .subst h;rw[nP];exact iD.nil
  .rw [AB h];exact iD.cons (bF _ aE) (ih _ (fV aC aE))
def A8(n:Nat):nA (gR n):=by
 induction n using Nat.strongRecOn with
 |_ n ih=>
  by_cases h:n=0
  .subst h;rw[nP];exact nA.nil
  .rw [AB h];have h1:=ih _ (fV aC (aE:1<4294967296));unfold nA at h1 ⊢;simp only[iz,h1];by_cases h2:n/4294967296=0
   .rw [h2,nP];have:n%4294967296≠0:= aC ;simp[this]
   .rw [AB h2]
def sc{L:List Nat}(h:iD L):iz L=gR (val L):=
 nA.ext (zz L) (A8 _) h.iz (mB _) (by rw[pJ,jY])
def nA.ER{L:List Nat}(h:nA L)(k:iD L):L=gR (val L):=by
 rw[<-sc k];exact h.symm
def Vi{n:Nat}:gR n=[]↔n=0:=by
 constructor
 .intro h;have:=jY n;rw[h]at this;exact this.symm
 .rintro rfl;exact nP
def uO{n k:Nat}(h:n<4294967296^k):(gR n).length<=k:=by
 induction k generalizing n with
 |zero=>simp at h;subst h;rw[nP];simp
 |succ k ih=>
  by_cases h0:n=0
  .subst h0;rw[nP];simp
  .rw [AB h0,cM];have:n/4294967296<4294967296^k:=by
    rw[cv aE];rwa[bC]at h
   have:=ih this;omega
def Jv{n k:Nat}(h:(gR n).length<=k):n<4294967296^k:=by
 have h1:=oo (mB n);rw[jY]at h1;exact bJ h1 (bH aE h)
def gZ(n:Nat):Nat:=if n=0 then 0 else n.log2+1
def rH:gZ 0=0:=rfl
def lR{n k:Nat}:gZ n<=k↔n<2^k:=by
 unfold gZ;by_cases h:n=0
 .subst h;simp[bn]
 .rw [aY h,<-Nat.log2_lt h];omega
def vQ{n k:Nat}:k<gZ n↔2^k<=n:=by
 have:=@lR n k;omega
def xZ{n k:Nat}(h1:2^k<=n)(h2:n<2^(k+1)):gZ n=k+1:=by
 have a:=vQ.2 h1;have b:=lR.2 h2;omega
def qw(n:Nat):n<2^gZ n:=lR.1 (bc _)
def rS{n:Nat}(h:n≠0):2^(gZ n-1)<=n:=by
 have:gZ n-1<gZ n:=by
  have:gZ n≠0:=by unfold gZ;simp[h]
  omega
 exact vQ.1 this
def nM{n:Nat}(h:n≠0):0<gZ n:=by unfold gZ;simp[h]
def wm{m n:Nat}(h:m<=n):gZ m<=gZ n:=lR.2 (ck h (qw n))
def rG{n:Nat}(h:n≠0)(k:Nat):gZ (n*2^k)=gZ n+k:=by
 have h1:=qw n;have h2:=rS h;have h3:=nM h;have e:gZ n+k=(gZ n-1+k)+1:= aC ;rw[e];apply xZ
 .rw [bh];exact bK _ h2
 .rw [<-e,bh];exact de h1 (bn aE)
def tn(k:Nat):(4294967296:Nat)^k=2^(32*k):=by
 rw[Nat.pow_mul]
def aao{l:List Nat}{x:Nat}(h:iD (l++[x]))(hx:x≠0):gZ (val (l++[x]))=32*l.length+gZ x:=by
 rw[A9];simp only[se,Ku,cH,bR];have hl:val l<4294967296^l.length:=oo (λy hy=>h y (by simp[hy]));rw[tn]at hl ⊢;have h1:=qw x;have h2:=rS hx;have h3:=nM hx;have e:32*l.length+gZ x=(32*l.length+(gZ x-1))+1:= aC ;rw[e];apply xZ
 .rw [bh];have:=cD (2^(32*l.length)) h2;omega
 .rw [<-e,bh];have:=cD (2^(32*l.length)) (show x+1<=2^gZ x from h1);rw[bO]at this;omega
def kq(a b:Nat):Int:=if a<b then -1 else if b<a then 1 else 0
def Kt{L M:List Nat}(kL:iD L)(hM:nA M)(h:L.length<M.length):val L<val M:=by
 rcases ado M with rfl|⟨m,x,rfl⟩
 .simp at h
 .simp only[ami,cA,fz]at h hM ⊢;have hx:x≠0:=by
   have:=(A7 _).1 hM aH;simpa using this
  have h1:=oo kL;rw[A9];have h2:(4294967296:Nat)^L.length<=4294967296^m.length:=bH aE aC;have h3:(4294967296:Nat)^m.length*1<=4294967296^m.length*val [x]:=cD _ aN;omega
def ala{L M:List Nat}(kL:iD L)(i:Nat)(hi:i<L.length)(hlen:L.length=M.length)(afq:L.drop (i+1)=M.drop (i+1))(im:L[i]<M[i]'(aC)):val L<val M:=by
 rw[Ec L (i+1) aC,Ec M (i+1) aC,afq,CG L i hi,CG M i aC];have h1:=oo (kL.take i);rw[b8,dc aC]at h1;have h2:=cD (4294967296^i) (show L[i]+1<=M[i]'(aC)from im);rw[bO]at h2;omega
def alc(L:List Nat)(k:Nat)(h:iD L):val (L.drop k)=val L/2^(32*k):=by
 rw[GK h,tn]
def qh(s:Nat):List Nat->List Nat
 | []=>[]
 |x::l=>((x+4294967296*l.getD 0 0)/2^s)%4294967296::qh s l
def Kb(s:Nat)(L:List Nat):(qh s L).length=L.length:=by
 induction L with
 |nil=>rfl
 |cons x l ih=>simp[qh,ih]
def X0(s:Nat)(L:List Nat)(i:Nat)(h:i<L.length):(qh s L)[i]? = some (((L[i]+4294967296*L.getD (i+1) 0)/2^s)%4294967296):=by
 induction L generalizing i with
 |nil=>simp at h
 |cons x l ih=>
  cases i with
  |zero=>simp[qh]
  |succ i=>
   simp only[cM]at h;simp only[qh,amj,ih i aC,dC];congr 1
def AK(s:Nat)(L:List Nat):iD (qh s L):=by
 induction L with
 |nil=>exact iD.nil
 |cons x l ih=>exact iD.cons (bF _ aE) ih
def ald{L:List Nat}(h:iD L)(s:Nat)(hs:s<32):val (qh s L)=val L/2^s:=by
 induction L with
 |nil=>simp[qh]
 |cons x l ih=>
  have e:32=s+(32-s):= aC ;have e2:(4294967296:Nat)=2^s*2^(32-s):=by rw[<-bh,<-e]
  have hp:0<2^s:=bn aE;have hx:=h.head;simp only[qh,se,ih h.tail];generalize hv:val l=v;have hh:l.getD 0 0=v%4294967296:=by
   rw[<-hv];cases l with
   |nil=>simp
   |cons y m=>
    have:=h.tail.head;simp[se];omega
  rw[hh];have f1:(x+4294967296*(v%4294967296))/2^s=x/2^s+2^(32-s)*(v%4294967296):=by
   rw[show x+4294967296*(v%4294967296)=x+2^s*(2^(32-s)*(v%4294967296))by rw[<-bA,<-e2],eN _ _ hp]
  have f2:(x+4294967296*v)/2^s=x/2^s+2^(32-s)*v:=by
   rw[show x+4294967296*v=x+2^s*(2^(32-s)*v)by rw[<-bA,<-e2],eN _ _ hp]
  rw[f1,f2];have py:x/2^s<2^(32-s):=by
   rw[cv hp,bD,<-e2];exact hx
  generalize x/2^s=q at py ⊢;have g1:(4294967296:Nat)=2^(32-s)*2^s:=by rw[bD];exact e2
  have g2:v=2^s*(v/2^s)+v%2^s:=(cB v (2^s)).symm;have g3:(q+2^(32-s)*(v%4294967296))%4294967296=q+2^(32-s)*(v%2^s):=by
   have k1:v%4294967296%2^s=v%2^s:=by
    rw[e2,Nat.mod_mul_right_mod]
   have k2:(v%4294967296)=2^s*(v%4294967296/2^s)+v%2^s:=by
    rw[<-k1];exact(cB _ _).symm
   conv=>lhs;rw[k2]
   rw[bO,<-bA,<-g1];rw[(aC:q+(4294967296*(v%4294967296/2^s)+2^(32-s)*(v%2^s))=(q+2^(32-s)*(v%2^s))+4294967296*(v%4294967296/2^s)),dP];apply bX;have:v%2^s+1<=2^s:=bF _ hp;have:=cD (2^(32-s)) this;rw[<-g1,bO]at this;omega
  rw[g3]
  conv=>rhs;rw[g2,bO,<-bA,<-g1]
  omega
def Kv{L:List Nat}(h:iD L)(n:Nat):val (qh (n%32) (L.drop (n/32)))=val L/2^n:=by
 rw[ald (h.drop _) _ (bF _ aE),alc _ _ h,dm,<-bh];congr 2;omega
def XV{out a:List Nat}{i c s n0:Nat}(hi:i<a.length)(hlen:out.length=n0+i)
 (h:val out+4294967296^(n0+i)*c=val (a.take i)*2^s*4294967296^n0):
 val (out++[(a[i]*2^s+c)%4294967296])+4294967296^(n0+(i+1))*((a[i]*2^s+c)/4294967296)=val (a.take (i+1))*2^s*4294967296^n0:=by
 rw[A9,CG a i hi,hlen];simp only[se,Ku,cH,bR];generalize hx:a[i]*2^s+c=x;have e:=er x 4294967296;have p:4294967296^(n0+(i+1))=4294967296^(n0+i)*4294967296:=by rw[<-cQ,bC]
 rw[p,cQ,bA (4294967296^(n0+i)),<-bO,e,<-hx,bO,<-cQ,Nat.add_right_comm,h,bS,bS];congr 1;rw[bh]
 ac_rfl
def Ba(b:List Nat)(i:Nat):val (b.take (i+1))=val (b.take i)+4294967296^i*b.getD i 0:=by
 by_cases hi:i<b.length
 .rw [CG b i hi,bd,bt hi];rfl
 .rw [cN aC,cN aC,bd,b7 aC];simp
def jj(n:Nat):Nat:=if n=0 then 0 else(Nat.gcd n (2^(Nat.log2 n+1))).log2
def Li{m:Nat}(hm:m%2=1)(k:Nat):jj (m*2^k)=k:=by
 have h0:m*2^k≠0:=df aC (dU (bn aE));unfold jj;rw[aY h0];have hk:k<=Nat.log2 (m*2^k):=by
  apply bM;intro h;have h1:m*2^k<2^k:=(Nat.log2_lt h0).1 aC;have:1*2^k<=m*2^k:=bK _ aC;omega
 obtain⟨j,hj⟩:∃ j,Nat.log2 (m*2^k)+1=j+k:=⟨Nat.log2 (m*2^k)+1-k,aC⟩
 rw[hj,bh,Nat.gcd_mul_right];have hg:Nat.gcd m (2^j)=1:=by
  have hc:Nat.Coprime m 2:=by
   unfold Nat.Coprime;rw[Nat.gcd_comm,Nat.gcd_rec,hm];rfl
  exact Nat.Coprime.pow_right j hc
 rw[hg,bU,Nat.log2_two_pow]
def HI{n:Nat}(h:n%2=1):jj n=0:=by have:=Li h 0;simpa using this
def akX{n:Nat}(h:n≠0):∃ m k,m%2=1/\n=m*2^k:=by
 induction n using Nat.strongRecOn with
 |_ n ih=>
  by_cases h2:n%2=1
  .exact ⟨n,0,h2,aH⟩
  .obtain ⟨m,k,hm,he⟩:=ih (n/2) aC aC ;exact⟨m,k+1,hm,by rw[bC,<-bA,<-he];omega⟩
def Rm{n:Nat}(h:n≠0)(h2:n%2=0):jj n=jj (n/2)+1:=by
 obtain⟨m,k,hm,he⟩:=akX (n:=n/2) aC;have e:n=m*2^(k+1):=by rw[bC,<-bA,<-he];omega
 rw[he,Li hm]
 conv=>lhs;rw[e]
 exact Li hm _
def Bq{n:Nat}(h:n≠0):∃ m,m%2=1/\n=m*2^jj n:=by
 induction n using Nat.strongRecOn with
 |_ n ih=>
  by_cases h2:n%2=1
  .exact ⟨n,h2,by rw[HI h2];omega⟩
  .obtain ⟨m,hm,he⟩:=ih (n/2) aC aC ;refine⟨m,hm,?_⟩;rw[Rm h aC,bC,<-bA,<-he];omega
def yh{m:Nat}(hm:m%2=1)(k:Nat):jj (m*2^k)=k:=by
 induction k with
 |zero=>rw[cw,bZ,HI hm]
 |succ k ih=>
  have hp:0<m*2^k:=fA aC (bn aE);have e:m*2^(k+1)=m*2^k*2:=by rw[bC,bA]
  rw[e,Rm aC aC,dD _ aE,ih]
def F7{n:Nat}(h:n≠0):(n/2^jj n)%2=1:=by
 obtain⟨m,hm,he⟩:=Bq h;have:n/2^jj n=m:=by conv=>lhs;rw[he,yh hm];rw[dD _ (bn aE)]
 rw[this];exact hm
def EM{n:Nat}(h:n≠0):(n/2^jj n)*2^jj n=n:=by
 obtain⟨m,hm,he⟩:=Bq h;have:n/2^jj n=m:=by conv=>lhs;rw[he,yh hm];rw[dD _ (bn aE)]
 rw[this];exact he.symm
def Gh{n:Nat}(h:n≠0):2^jj n<=n:=by
 obtain⟨m,hm,he⟩:=Bq h
 conv=>rhs;rw[he]
 exact fW _ aC 
def ace{x v:Nat}(hx:x≠0)(im:x<4294967296):jj (x+4294967296*v)=jj x:=by
 obtain⟨m,hm,he⟩:=Bq hx;have hk:jj x<32:=by
  have h1:=Gh hx;rcases fB (jj x) 32 with h|h
  .exact h
  .have:=bH (n:=2) aE h;have e:(2:Nat)^32=4294967296:= aE ;omega
 have e:x+4294967296*v=(m+2^(32-jj x)*v)*2^jj x:=by
  rw[bS,<-he,fX,<-bh,fY aC]
 conv=>lhs;rw[e]
 apply yh;have:2^(32-jj x)=2*2^(31-jj x):=by rw[(aC:32-jj x=(31-jj x)+1),bC,bD]
 rw[this,bA,dP];exact hm
def acf{v:Nat}(hv:v≠0)(k:Nat):jj (2^k*v)=k+jj v:=by
 obtain⟨m,hm,he⟩:=Bq hv
 conv=>lhs;rw[he,<-bA,bD (2^k),bA,<-bh]
 exact yh hm _
def GL{L:List Nat}:val L=0↔∀ x,x ∈ L->x=0:=by
 induction L with
 |nil=>simp
 |cons x l ih=>
  simp only[se,cV];constructor
  .intro h y hy;rcases hy with rfl|hy
   .omega
   .exact ih.1 aC y hy
  .intro h;have h1:=h x (.inl rfl);have h2:=ih.2 (λy hy=>h y (.inr hy));omega
def acg{L:List Nat}(h:iD L)(i:Nat)(hi:i<L.length)(h0:∀ j,(hj:j<i)->L[j]=0)(hx:L[i]≠0):jj (val L)=32*i+jj L[i]:=by
 rw[Ec L i aC];have:val (L.take i)=0:=by
  rw[GL];intro y hy;obtain⟨j,hj,rfl⟩:=List.getElem_of_mem hy;rw[b8]at hj;rw[List.getElem_take];exact h0 j aC 
 rw[this,bY,tn,eO hi,se];rw[acf aC,ace hx (h.get hi)]
def Pn{L:List Nat}{k x:Nat}(hk:k<L.length):val (L.set k x)+4294967296^k*L[k]=val L+4294967296^k*x:=by
 induction L generalizing k with
 |nil=>simp at hk
 |cons y l ih=>
  cases k with
  |zero=>simp;omega
  |succ k=>
   simp only[cM]at hk;have:=ih (k:=k) aC;simp only[List.set_cons_succ,se,dC,bC];have e1:(4294967296^k*4294967296*l[k])=4294967296*(4294967296^k*l[k]):=by ac_rfl
   have e2:(4294967296^k*4294967296*x)=4294967296*(4294967296^k*x):=by ac_rfl
   rw[e1,e2];omega
def iD.set{L:List Nat}(h:iD L)(k:Nat){x:Nat}(hx:x<4294967296):iD (L.set k x):=by
 intro y hy;rcases List.mem_or_eq_of_mem_set hy with hy|rfl
 .exact h _ hy
 .exact hx
structure Dy where
 neg:Bool
 m:Nat
 e:Int
def Dy.mV(d:Dy):Prop:=(d.m=0/\d.neg=false/\d.e=0)\/d.m%2=1
def canon(neg:Bool)(m:Nat)(e:Int):Dy:=if m=0 then⟨false,0,0⟩else⟨neg,m/2^jj m,e+jj m⟩
def ri(neg:Bool)(m:Nat)(e:Int):(canon neg m e).mV:=by
 unfold canon;split
 .exact .inl ⟨rfl,rfl,rfl⟩
 .rename_i h;exact .inr (F7 h)
def Dy.mV.CZ{d:Dy}(h:d.mV):canon d.neg d.m d.e=d:=by
 obtain⟨s,m,e⟩:=d;rcases h with⟨h1,h2,h3⟩|h
 .simp only at h1 h2 h3;subst h1 h2 h3;rfl
 .simp only at h ⊢;unfold canon;rw[aY aC,HI h];simp
def mv(d:Dy):Prop:=d.m=0\/gZ d.m<=4096 /\ -16384<=d.e/\d.e<=16384/\(gZ d.m:Int)+d.e<=16384
instance (d:Dy):Decidable (mv d):=by unfold mv;infer_instance
structure Dy.gX(d:Dy):Prop where
 canon:d.mV
 range:mv d
def il:Dy:=⟨false,0,0⟩
def rf:il.gX:=⟨.inl ⟨rfl,rfl,rfl⟩,.inl rfl⟩
def Dy.iJ(d:Dy):Int:=if d.m=0 then 0 else if d.neg then -1 else 1
def Dy.ig(d:Dy):Int:=if d.m=0 then 0 else gZ d.m+d.e
def Dy.jH(d:Dy)(e:Int):Nat:=d.m*2^(d.e-e).toNat
def Dy.num(d:Dy)(e:Int):Int:=if d.neg then -(d.jH e:Int)else d.jH e
def iN(a b:Dy):Int:=
 if a.num (min a.e b.e)<b.num (min a.e b.e)then -1 else if b.num (min a.e b.e)<a.num (min a.e b.e)then 1 else 0
def xJ{d:Dy}(h:d.m≠0)(e:Int):0<d.jH e:=fA aC (bn aE)
def VB{d:Dy}(h:d.m=0)(e:Int):d.jH e=0:=by unfold Dy.jH;rw[h,cC]
def Hp{d:Dy}(h:d.m≠0){e:Int}(he:e<=d.e):(gZ (d.jH e):Int)=gZ d.m+d.e-e:=by
 unfold Dy.jH;rw[rG h];omega
def VA{a b:Dy}(ha:a.m≠0)(hb:b.m≠0){e:Int}(h1:e<=a.e)(h2:e<=b.e)(h:a.ig<b.ig):a.jH e<b.jH e:=by
 have k1:=Hp ha h1;have k2:=Hp hb h2;unfold Dy.ig at h;rw[aY ha,aY hb]at h;rcases fB (a.jH e) (b.jH e)with h'|h'
 .exact h'
 .have:=wm h';omega
def sU(a b:Dy):Int:=kq (a.jH (min a.e b.e)) (b.jH (min a.e b.e))
def ab6{a b:Dy}(ha:a.m≠0)(hb:b.m≠0)(h:a.ig<b.ig):sU a b = -1:=by
 unfold sU kq;rw[aZ (VA ha hb (Int.min_le_left _ _) (Int.min_le_right _ _) h)]
def ab5{a b:Dy}(ha:a.m≠0)(hb:b.m≠0)(h:b.ig<a.ig):sU a b=1:=by
 have:=VA hb ha (Int.min_le_right a.e b.e) (Int.min_le_left _ _) h;unfold sU kq;rw[aY aC,aZ this]
def D3(d:Dy):(d.m=0/\d.iJ=0)\/(d.m≠0/\d.neg=true/\d.iJ = -1)\/(d.m≠0/\d.neg=false/\d.iJ=1):=by
 unfold Dy.iJ;by_cases h:d.m=0
 .exact .inl ⟨h,aZ h⟩
 .cases hn:d.neg
  .exact .inr (.inr ⟨h,rfl,by simp[h]⟩)
  .exact .inr (.inl ⟨h,rfl,by simp[h]⟩)
def Wt{d:Dy}(e:Int):(d.iJ=0->d.num e=0)/\(d.iJ = -1->d.num e<0/\d.num e = -(d.jH e))/\(d.iJ=1->0<d.num e/\d.num e=d.jH e):=by
 unfold Dy.num;rcases D3 d with⟨h1,h2⟩|⟨h1,h2,h3⟩|⟨h1,h2,h3⟩
 .rw [h2,VB h1];simp
 .have:=xJ h1 e;rw[h3,h2];simp;omega
 .have:=xJ h1 e;rw[h3,h2];simp;omega
def Rd(a b:Dy):iN a b=if a.iJ<b.iJ then -1 else if b.iJ<a.iJ then 1 else if a.iJ=0 then 0 else a.iJ*sU a b:=by
 unfold iN sU kq;generalize min a.e b.e=e;obtain⟨p1,p2,p3⟩:=Wt (d:=a) e;obtain⟨q1,q2,q3⟩:=Wt (d:=b) e;generalize a.num e=x at *
 generalize b.num e=y at *
 generalize a.jH e=x' at *
 generalize b.jH e=y' at *
 have ha:a.iJ=0\/a.iJ = -1\/a.iJ=1:=by rcases D3 a with⟨_,h⟩|⟨_,_,h⟩|⟨_,_,h⟩<;>simp[h]
 have hb:b.iJ=0\/b.iJ = -1\/b.iJ=1:=by rcases D3 b with⟨_,h⟩|⟨_,_,h⟩|⟨_,_,h⟩<;>simp[h]
 generalize a.iJ=s at *
 generalize b.iJ=t at *
 rcases ha with rfl|rfl|rfl<;>rcases hb with rfl|rfl|rfl<;>simp at p1 p2 p3 q1 q2 q3<;>(repeat' split)<;>omega
def jS(z:Int)(e:Int):Dy:=canon (decide (z<0)) z.natAbs e
def iI(a b:Dy):Dy:=
 if a.m=0 then b else if b.m=0 then a else jS (a.num (min a.e b.e)+b.num (min a.e b.e)) (min a.e b.e)
def jl(d:Dy):Dy:=⟨!d.neg&&decide (d.m≠0),d.m,d.e⟩
def NR{d:Dy}(h:d.mV):(jl d).mV:=by
 rcases h with⟨h1,h2,h3⟩|h
 .exact .inl ⟨h1,by simp[jl,h1],h3⟩
 .exact .inr h
def yZ{d:Dy}(h:d.gX):(jl d).gX:=⟨NR h.canon,h.range⟩
def ahC(d:Dy)(e:Int)(hd:d.m≠0):(jl d).num e = -(d.num e):=by
 unfold Dy.num jl Dy.jH;cases d.neg<;>simp[hd]
def ake{out:List Nat}{n c P Q:Nat}(ho:iD out)(hlen:out.length=n)(h:val out+Q=P+4294967296^n*c)(hle:Q<=P):c=0/\val out=P-Q:=by
 have h1:=oo ho;rw[hlen]at h1;rcases c with _|c
 .exact ⟨rfl,aC⟩
 .exfalso;have:4294967296^n*1<=4294967296^n*(c+1):=cD _ aC;omega
def aaj{L:List Nat}(h:iD L)(k:Nat)(hk:k/32<L.length):val L/2^k%2=L[k/32]/2^(k%32)%2:=by
 have e:k=32*(k/32)+k%32:= aC 
 conv=>lhs;rw[e,bh,<-dm,<-tn,<-GK h,eO hk,se]
 have hs:k%32<32:=bF _ aE;have e2:(4294967296:Nat)=2^(k%32)*(2*2^(31-k%32)):=by
  rw[<-Nat.pow_succ',<-bh,(aC:k%32+(31-k%32).succ=32)]
 conv=>lhs;rw[e2,bA,eN _ _ (bn aE),bA,dP]
def aai{n k:Nat}(h:n≠0)(hk:k<jj n):n/2^k%2=0:=by
 obtain⟨m,hm,he⟩:=Bq h;generalize jj n=c at *
 rw[he,(aC:c=k+(c-k)),bh,<-bA,fX,dD _ (bn aE),(aC:c-k=(c-k-1)+1),bC,<-bA,fC]
def aah{n:Nat}(h:n≠0):n/2^jj n%2=1:=F7 h
def ED{L:List Nat}(h:iD L)(h0:val L≠0):jj (val L)/32<L.length:=by
 have h1:=Gh h0;have h2:=oo h;rw[tn]at h2;have h3:2^jj (val L)<2^(32*L.length):=ck h1 h2;have:=(amF (aE:1<2)).1 h3;omega
end Go.Proofs.YtkdddbdjilcofaaGreatDoor.Fp
namespace Go.Proofs.YtkdddbdjilcofaaGreatDoor
open Go.RowKit Fp
structure Sl(w:World)(A:Option Addr)(c:Nat)(L:List Nat):Prop where
 cap:L.length<=c
 qW:c<=9223372036854775807
 ok:iD L
 xL:A=none->c=0
 cell:∀ (i x:Nat),L[i]? = some x->∃ b o,A=some ⟨b,o,none⟩/\b<w.heap.size/\w.cell? ⟨b,o+i,none⟩=some (.int .u32 (x:Int))
def aar(a:Addr)(n:Nat):(a.add n).block=a.block:=by unfold Addr.add;split<;>rfl
section
variable {w w':World} {A:Option Addr} {c:Nat} {L:List Nat}
def Sl.mu(h:Sl w A c L){i:Nat}(hi:i<L.length):∃ b o,A=some ⟨b,o,none⟩/\b<w.heap.size/\w.cell? ⟨b,o+i,none⟩=some (.int .u32 (L[i]:Int)):=
 h.cell i _ (bt hi)
def Sl.nil(w:World):Sl w none 0 []:=⟨bc _,aE,iD.nil,λ_=>rfl,λi x h=>by simp at h⟩
def Sl.below(h:Sl w A c L)(hb:Below w.heap.size w w'):Sl w' A c L:=
 ⟨h.cap,h.qW,h.ok,h.xL,λi x hx=>by
  obtain⟨b,o,e,h1,h2⟩:=h.cell i x hx;exact⟨b,o,e,bJ h1 hb.size,(hb.cell h1).trans h2⟩⟩
def Sl.alloc(h:Sl w A c L)(o:Obj):Sl (w.alloc o) A c L:=h.below ((Below.refl _ _).alloc (bc _) _)
def Sl.drew(h:Sl w A c L):Sl w.drew A c L:=h.below ((Below.refl _ _).drew)
def Sl.take(h:Sl w A c L)(n:Nat):Sl w A c (L.take n):=
 ⟨by have:=h.cap;rw[b8];omega,h.qW,h.ok.take n,h.xL,λi x hx=>h.cell i x (by
  rw[dV]at hx;split at hx
  .exact hx
  .cases hx)⟩
def Sl.len(h:Sl w A c L):L.length<=9223372036854775807:=bg h.cap h.qW
def Sl.eqv{L':List Nat}(h:Sl w A c L)(e:L=L'):Sl w A c L':=e▸h
end
def Be(b o i:Nat):(⟨b,o,none⟩:Addr).add i=⟨b,o+i,none⟩:=by
 unfold Addr.add;split
 .rename_i h0;rw[h0];rfl
 .simp
abbrev iB(w w':World):Prop:=Below w.heap.size w w'
def iB.trans{a b c:World}(h:iB a b)(k:iB b c):iB a c:=Below.trans h (k.mono h.size)
def iB.alloc(w:World)(o:Obj):iB w (w.alloc o):=(Below.refl _ _).alloc (bc _) _
def iB.drew(w:World):iB w w.drew:=(Below.refl _ _).drew
def iB.refl(w:World):iB w w:=Below.refl _ _
def J2{A:Option Addr}{n m c:Nat}(h:n=m):Ending.returned (.slice A n c) = .returned (.slice A m c):=by rw[h]
def oV{k:IntKind}{a b:Int}(h:a=b):Ending.returned (.int k a) = .returned (.int k b):=by rw[h]
def J1{a b:Bool}(h:a=b):Ending.returned (.bool a) = .returned (.bool b):=by rw[h]
def xg(w:World)(L:List Nat)(e:Ending)(w':World):Prop:=∃ A c,e = .returned (.slice A L.length c)/\Sl w' A c L/\iB w w'
def CL(w:World)(L:List Nat)(n:Int)(e:Ending)(w':World):Prop:=∃ A c,e = .returned (.tuple #[.slice A L.length c,.int .i64 n])/\Sl w' A c L/\iB w w'
def Tb(w:World):Prop:=TabAt 0 Lib.deBruijn32tab w
def Tb.below{w w':World}(h:Tb w)(hb:iB w w'):Tb w':=λj hj=>by
 have h1:=h j hj;rw[hb.cell (block_lt_of_cell h1)];exact h1
def Tb.alloc{w:World}(h:Tb w)(o:Obj):Tb (w.alloc o):=h.below (iB.alloc _ _)
def Tb.drew{w:World}(h:Tb w):Tb w.drew:=h.below (iB.drew _)
def aag(x:Nat)(h:x<4294967296):Lib.bitLen x=gZ x:=by
 induction x using Nat.strongRecOn with
 |_ x ih=>
  by_cases h0:x=0
  .subst h0;rfl
  .rw [Lib.bitLen_half x h0 aC,ih (x/2) aC aC];by_cases h1:x/2=0
   .have:x=1:= aC ;subst this;rfl
   .have e1:=rS h1;have e2:=qw (x/2);have e3:=nM h1;generalize gZ (x/2)=k at *
    obtain⟨j,rfl⟩:∃ j,k=j+1:=⟨k-1,aC⟩
    rw[ep]at e1;rw[Nat.add_comm];refine(xZ ?_ ?_).symm
    .rw [bC];omega
    .rw [bC];omega
def ach(x:Nat)(h0:x≠0)(h:x<4294967296):Lib.ctz 32 x=jj x:=by
 unfold Lib.ctz;rw[aY h0];obtain⟨m,hm,_⟩:=Lib.ctzFrom_spec 32 x aC h
 conv=>rhs;rw[hm,bD]
 exact(yh aC _).symm
def oe(L:List Nat):List Value:=L.map λ(n:Nat)=>Value.int .u32 (n:Int)
def ak5{L:List Nat}{j:Nat}{u:Value}(h:(oe L)[j]? = some u):∃ n,L[j]? = some n/\u = .int .u32 (n:Int):=by
 unfold oe at h;rw[cr]at h;obtain⟨n,hn,rfl⟩:=cG.1 h;exact⟨n,hn,rfl⟩
def ak4(L M:List Nat):oe (L++M)=oe L++oe M:=fD
def ak6(L:List Nat):∀ u ∈ oe L,u.oneCell'=true:=by
 intro u hu;obtain⟨n,_,rfl⟩:=dg.1 hu;rfl
structure Ow(w:World)(base:Nat)(v:Value)(L:List Nat):Prop where
 row:w.ownsRow base 96 1 v L.length (oe L)
 ok:iD L
def Ow.sl{w:World}{base:Nat}{v:Value}{L:List Nat}(h:Ow w base v L):∃ A c,v = .slice A L.length c/\Sl w A c L:=by
 have hr:=h.row;rcases hr.2 with⟨rfl,h0⟩|⟨g,cap,cur,rfl,hb,hg,oB,nG,mL,Fx⟩
 .have:L=[]:=dh h0;subst this;exact⟨none,0,rfl,Sl.nil w⟩
 .refine ⟨_,_,rfl,oB,(by simpa[maxLen]using nG),h.ok,(λh=>by cases h),λi x hx=>⟨_,_,rfl,(cR.1 hg).1,?_⟩⟩;have h:=hr.cells (g:=g) rfl i (.int .u32 (x:Int)) (by unfold oe;rw[cr,hx];rfl);rw[Be]at h;exact h
def Ow.nil(w:World)(base:Nat):Ow w base (.slice none 0 0) []:=⟨World.ownsRow_nil w base _ _,iD.nil⟩
def Ow.alloc{w:World}{base:Nat}{v:Value}{L:List Nat}(h:Ow w base v L)(o:Obj):Ow (w.alloc o) base v L:=⟨h.row.alloc o,h.ok⟩
def Ow.empty(w:World)(base:Nat)(hb:base<=w.heap.size):Ow (w.alloc (.cells #[] 96)) base (.slice (some ⟨w.heap.size,0,none⟩) 0 0) []:=
 ⟨World.ownsRow_made w #[] 0 hb aE rfl,iD.nil⟩
def wS{w:World}{n:Nat}(h:n<=w.heap.size)(o:Obj):n<=(w.alloc o).heap.size:= aN 
def Sl.one(w:World)(x:Nat)(hx:x<4294967296):Sl (w.alloc (.cells #[.int .u32 x] 96)) (some ⟨w.heap.size,0,none⟩) 1 [x]:=
 ⟨bc _,aE,iD.cons hx iD.nil,(λh=>by cases h),λi y hy=>by
  obtain⟨h1,h2⟩:=b5.1 hy;obtain rfl:i=0:=by simp at h1;omega
  simp at h2;subst h2;refine⟨_,_,rfl,aH,?_⟩;exact World.cell?_alloc_at _ _ _ _ rfl⟩
def Sl.DN(w:World)(y:Int)(x:Nat)(e:y=(x:Int))(hx:x<4294967296):Sl (w.alloc (.cells #[.int .u32 y] 96)) (some ⟨w.heap.size,0,none⟩) 1 [x]:=by
 subst e;exact Sl.one w x hx
def Na:(prog.info? 96).map (λi=>(i.zero,i.size,i.bytes))=some (some (.int .u32 0),1,4):= aF 
def zD{gS:Array Oper}{rest:List Oper}{o:Oper}{a:Act}{Q:Exit->Act->World->Prop}{w:World}(BF:o.guard=none)(s x:Operand)
 (ho:o.op = .call { callee:=.builtin .append,args:=#[s,x],argTypes:=#[29,29] })
 (base:Nat) (v:Value) (L:List Nat) (hs:a.eval s=v) (lh:Ow w base v L)
 (A:Option Addr) (m c:Nat) (M:List Nat) (hx:a.eval x = .slice A m c) (hm:m=M.length) (hr:Sl w A c M)
 (mo:L.length+M.length<=10000000000) (aeY:base<=w.heap.size)
 (h:∀ v' w',Ow w' base v' (L++M)->w.grownBy w' v.ownBlock->(v'.ownBlock=v.ownBlock\/v'.ownBlock=some w.heap.size)->wpList prog gS Q rest (a.put o.dst v') w'):
 wpList prog gS Q (o::rest) a w:=by
 obtain⟨i,hi,hz,h1,h2⟩:=info_parts Na;subst hm;rcases A with _|ad
 .have hc:=hr.xL rfl;subst hc;have hM:M=[]:=dh (by have:=hr.cap;omega);subst hM;refine wpList_append_own_none BF s x _ ho base _ i 1 underlying29 hi v _ _ hs lh.row hx ?_;have:=h v w (by rw[fE];exact lh) ⟨rfl,rfl,rfl,bc _,λ_ _ _=>rfl⟩ (.inl rfl);exact this
 .refine wpList_append_own_at w BF s x _ ho base _ i _ 1 4 underlying29 hi hz h1 h2 rfl aE v L.length (oe L) hs lh.row ad M.length c (oe M) hx (by simp[oe]) ?_ (ak6 M)
   (by simp only[maxLen];omega) aC aeY ?_
  .intro j u hu;obtain⟨n,hn,rfl⟩:=ak5 hu;obtain⟨b,o,e,_,hc⟩:=hr.cell j n hn;cases e;rw[Be];exact hc
  .intro v' w' afk hg _ ss;exact h v' w' ⟨by rw[cA,ak4];exact afk,lh.ok.append hr.ok⟩ hg ss
def Rw(w:World)(b:Nat)(L:List Nat):Prop:=w.heap[b]? = some (.cells (oe L).toArray 96 (0,0))
section
variable {w w':World} {b:Nat} {L:List Nat}
def Rw.lt(h:Rw w b L):b<w.heap.size:=(cR.1 h).1
def Rw.cell(h:Rw w b L){i x:Nat}(hx:L[i]? = some x):w.cell? ⟨b,i,none⟩=some (.int .u32 (x:Int)):=by
 unfold Rw at h;simp only[World.cell?,h];simp[oe,hx]
def Rw.frozen(h:Rw w b L)(i:Nat):w.frozen? ⟨b,i,none⟩=false:=by
 unfold Rw at h;simp[World.frozen?,h]
def Rw.set(h:Rw w b L)(i x:Nat):Rw (w.setCell ⟨b,i,none⟩ (.int .u32 (x:Int))) b (L.set i x):=by
 unfold Rw at h ⊢;simp only[World.setCell,eP,h];simp[oe,List.map_set]
def Rw.sl(h:Rw w b L)(hk:iD L)(hl:L.length<=10000000000):Sl w (some ⟨b,0,none⟩) L.length L:=
 ⟨bc _,aC,hk,(λh=>by cases h),λi x hx=>⟨_,_,rfl,h.lt,by
  rw[bY];exact h.cell hx⟩⟩
def Rw.AE(w:World)(n:Nat):Rw (w.alloc (.cells (oe (List.replicate n 0)).toArray 96)) w.heap.size (List.replicate n 0):=heap_alloc_new w _
end
def Zl(b i:Nat):(⟨b,0,none⟩:Addr).add i=⟨b,i,none⟩:=by
 unfold Addr.add;split
 .rename_i h0;rw[h0]
 .simp
def FT(n:Nat)(hn:n<=10000000000)(w:World):
 (Instr.makeSlice 29 (.int .i64 (n:Int)) (.int .i64 (n:Int))).run prog w = .ok (.slice (some ⟨w.heap.size,0,none⟩) n n) (w.alloc (.cells (oe (List.replicate n 0)).toArray 96)):=by
 obtain⟨i,hi,hz,h1,h2⟩:=info_parts Na;have hr:=run_make (P:=prog) w 29 96 i _ underlying29 hi hz .i64 .i64 n n aC aC (by rw[h2];omega) aC;rw[hr,fF,h1,bZ];refine congrArg (λcs=>Result.ok (Value.slice (some ⟨w.heap.size,0,none⟩) n n) (w.alloc (.cells cs 96))) ?_;apply Array.ext
 .simp [madeCells,oe]
 .intro i h1 h2;simp[madeCells,oe,Value.cells,dE]
def xV(w:World)(d:Dy)(e:Ending)(w':World):Prop:=
 ∃ A c,e = .returned (.agg #[.bool d.neg,.slice A (gR d.m).length c,.int .i64 d.e])/\Sl w' A c (gR d.m)/\iB w w'
def tC(w:World)(d:Dy)(n:Int)(e:Ending)(w':World):Prop:=
 ∃ A c,e = .returned (.tuple #[.agg #[.bool d.neg,.slice A (gR d.m).length c,.int .i64 d.e],.int .i64 n])/\Sl w' A c (gR d.m)/\iB w w'
def xU(w:World)(g:Nat):Prop:=∀ o x,w.cell? ⟨g,o,none⟩≠some (.int .u32 x)
def Sl.Bv{w:World}{A:Option Addr}{c:Nat}{L:List Nat}(h:Sl w A c L){g i:Nat}(hg:xU w g)(u:Value):Sl (w.setCell ⟨g,i,none⟩ u) A c L:=
 ⟨h.cap,h.qW,h.ok,h.xL,λj x hx=>by
  obtain⟨b,o,e,h1,h2⟩:=h.cell j x hx;refine⟨b,o,e,by simpa[World.setCell]using h1,?_⟩;rw[World.cell?_setCell_other w _ _ u]
  .exact h2
  .intro e';simp only[Addr.mk.injEq]at e';exact hg (o+j) x (by rw[e'.1];exact h2)⟩
def xU.DM{w:World}{g:Nat}{cs:Array Value}{t:TypeId}{fr:Nat×Nat}(h:w.heap[g]? = some (.cells cs t fr))(hc:∀ (i:Nat) (x:Int),cs[i]? ≠ some (.int .u32 x)):xU w g:=λo x e=>by
 simp only[World.cell?,h]at e;simp at e;exact hc o x (by simpa using e)
def je(w:World)(g:Nat)(s:Bool)(A:Option Addr)(n c:Nat)(e:Int):Prop:=w.heap[g]? = some (.cells #[.bool s,.slice A n c,.int .i64 e] 31 (0,0))
section
variable {w w':World} {g n c:Nat} {s:Bool} {A:Option Addr} {e:Int}
def je.new(W:World)(s:Bool)(A:Option Addr)(n c:Nat)(e:Int):je (W.alloc (.cells #[.bool s,.slice A n c,.int .i64 e] 31)) W.heap.size s A n c e:=heap_alloc_new W _
def je.rz{W:World}{g:Nat}(hg:W.heap.size=g)(s:Bool)(A:Option Addr)(n c:Nat)(e:Int):je (W.alloc (.cells #[.bool s,.slice A n c,.int .i64 e] 31)) g s A n c e:=hg▸heap_alloc_new W _
def je.lt(h:je w g s A n c e):g<w.heap.size:=(cR.1 h).1
def je.ext(h:je w g s A n c e)(hb:iB w w'):je w' g s A n c e:=(hb.block g h.lt).trans h
def je.alloc(h:je w g s A n c e)(o:Obj):je (w.alloc o) g s A n c e:=h.ext (iB.alloc _ _)
def je.drew(h:je w g s A n c e):je w.drew g s A n c e:=h
def je.mO(h:je w g s A n c e):xU w g:=xU.DM h (λi x=>by rcases i with _|_|_|i<;>simp)
def je.c0(h:je w g s A n c e):w.cell? ⟨g,0,none⟩=some (.bool s):=by unfold je at h;simp[World.cell?,h]
def je.c1(h:je w g s A n c e):w.cell? ⟨g,1,none⟩=some (.slice A n c):=by unfold je at h;simp[World.cell?,h]
def je.c2(h:je w g s A n c e):w.cell? ⟨g,2,none⟩=some (.int .i64 e):=by unfold je at h;simp[World.cell?,h]
def je.fr(h:je w g s A n c e)(i:Nat):w.frozen? ⟨g,i,none⟩=false:=by unfold je at h;simp[World.frozen?,h]
def je.set(h:je w g s A n c e)(s':Bool)(A':Option Addr)(n' c':Nat)(e':Int):
 je (((w.setCell ⟨g,0,none⟩ (.bool s')).setCell ⟨g,1,none⟩ (.slice A' n' c')).setCell ⟨g,2,none⟩ (.int .i64 e')) g s' A' n' c' e':=by
 have h1:=heap_setCell_same w g 0 _ _ (.bool s') h;have h2:=heap_setCell_same _ g 1 _ _ (.slice A' n' c') h1;have h3:=heap_setCell_same _ g 2 _ _ (.int .i64 e') h2;exact h3
def je.re{L:List Nat}{A':Option Addr}{c':Nat}(h:je w g s A n c e)(hs:Sl w A' c' L)(s':Bool)(e':Int)(n' c2:Nat)(A2:Option Addr):
 Sl (((w.setCell ⟨g,0,none⟩ (.bool s')).setCell ⟨g,1,none⟩ (.slice A2 n' c2)).setCell ⟨g,2,none⟩ (.int .i64 e')) A' c' L:=by
 have h1:=heap_setCell_same w g 0 _ _ (.bool s') h;have h2:=heap_setCell_same _ g 1 _ _ (.slice A2 n' c2) h1;have k1:xU (w.setCell ⟨g,0,none⟩ (.bool s')) g:=xU.DM h1 (λi x=>by rcases i with _|_|_|i<;>simp);have k2:xU ((w.setCell ⟨g,0,none⟩ (.bool s')).setCell ⟨g,1,none⟩ (.slice A2 n' c2)) g:=xU.DM h2 (λi x=>by rcases i with _|_|_|i<;>simp);exact((hs.Bv h.mO _).Bv k1 _).Bv k2 _
def je.qF{w0:World}(hb:iB w0 w)(hg:w0.heap.size<=g)(s':Bool)(A':Option Addr)(n' c':Nat)(e':Int):
 iB w0 (((w.setCell ⟨g,0,none⟩ (.bool s')).setCell ⟨g,1,none⟩ (.slice A' n' c')).setCell ⟨g,2,none⟩ (.int .i64 e')):=
 ((hb.setCell hg _).setCell hg _).setCell hg _
end
def RP:(prog.info? 31).map (·.size)=some 3:= aF 
def aiW{fn:Func}{p:Tmp}(h:fn.results = #[.cell p 31])(tmps:Array Value){w:World}{g n c:Nat}{s:Bool}{A:Option Addr}{e:Int}
 (hp:tmps.getD p undef = .pointer (some ⟨g,0,none⟩)) (hb:je w g s A n c e):
 (results fn tmps).run prog w = .ok (.agg #[.bool s,.slice A n c,.int .i64 e]) w:=
 results_cell_row h tmps w g _ _ _ _ hp hb underlying31 rfl RP
def aiX{fn:Func}{p t:Tmp}(h:fn.results = #[.cell p 31,.tmp t])(tmps:Array Value){w:World}{g n c:Nat}{s:Bool}{A:Option Addr}{e:Int}
 (hp:tmps.getD p undef = .pointer (some ⟨g,0,none⟩)) (hb:je w g s A n c e):
 (results fn tmps).run prog w = .ok (.tuple #[.agg #[.bool s,.slice A n c,.int .i64 e],tmps.getD t undef]) w:=by
 have hp':tmps[p]?.getD undef = .pointer (some ⟨g,0,none⟩):=by simpa using hp
 simp[results,h,hp',asAddr,run_loadVar_row w g _ _ _ _ _ hb underlying31 rfl RP]
def yl{fn:Func}{p:Tmp}(h:fn.results = #[.cell p 31]){a:Act}{w W:World}{d:Dy}{g:Nat}{A:Option Addr}{c n:Nat}
 (hp:a.tmps.getD p undef = .pointer (some ⟨g,0,none⟩)) (hd:a.defers=[]) (hb:je W g d.neg A n c d.e) (hn:n=(gR d.m).length) (hs:Sl W A c (gR d.m)) (he:iB w W):
 bodyPost prog fn (xV w d) .ret a W:=by
 subst hn;exact bodyPost_ret (aiW h _ hp hb) hd ⟨A,c,rfl,hs,he⟩
def vk{fn:Func}{p t:Tmp}(h:fn.results = #[.cell p 31,.tmp t]){a:Act}{w W:World}{d:Dy}{k:Int}{g:Nat}{A:Option Addr}{c n:Nat}
 (hp:a.tmps.getD p undef = .pointer (some ⟨g,0,none⟩)) (ht:a.tmps.getD t undef = .int .i64 k) (hd:a.defers=[]) (hb:je W g d.neg A n c d.e) (hn:n=(gR d.m).length) (hs:Sl W A c (gR d.m)) (he:iB w W):
 bodyPost prog fn (tC w d k) .ret a W:=by
 subst hn;exact bodyPost_ret ((aiX h _ hp hb).trans (by rw[ht])) hd ⟨A,c,rfl,hs,he⟩
open Go.ChangeShapes Go.WideShapes Go.ChangeAt
def own:ownKnob prog.godebug=none:= aF 
def Nn:laidOutB prog=true:= aF 
def SS:prog.globalNamed "math/bits.deBruijn32tab" = some 0:= aF 
def adW:(prog.globals[0]?).map (·.type)=some 175:= aF 
def abJ:prog.cellsOf 175=32:= aF 
def abI:prog.cellsOf 5=1:= aF 
def abH:prog.cellsOf 96=1:= aF 
def akM {l:List (String×DataW Unit)} (hl:l=[("math/bits.deBruijn32tab", Rows.laid_math_bits_deBruijn32tab)]) {W:World} (h:laidMet prog l W):Tb W:=by
 subst hl;have ht:Lib.TabIs prog W "math/bits.deBruijn32tab" .u8 (Lib.deBruijn32tab.map λ(n:Nat)=>(n:Int)):=
  Lib.tabIs_of_head (rest:=[]) SS adW underlying175 underlying5 abI abJ h
 intro j hj;have:=ht.cell SS j (by simpa using hj);rw[this];simp[bd];rw[bt hj];simp
def afs{n:Int}(h:(Lit.int .i64 n).wf=true):-9223372036854775808<=n/\n<=9223372036854775807:=by
 have h1:IntKind.i64.min = -9223372036854775808:=rfl;have h2:IntKind.i64.max=9223372036854775807:=rfl;simp[Lit.wf,h1,h2]at h;omega
def ahP{H:Type}{enc:TypeId×Value->H}{W:World}{fuel:Nat}{c:Value}{x:DataW H×List MemPlace}
 (h:DataW.trod enc prog W 0 (λ_=>true) true fuel 29 [c]=some x) (_hlt:∀ p ∈ x.2,p.block<W.heap.size):
 ∃ A L cap,c = .slice A L.length cap/\Sl W A cap L:=by
 rcases open_ints underlying29 underlying96 abH h with⟨mL,hx⟩|⟨a,len,cap,zs,mL,_,hl,hm,hz,hx,j8,hwz⟩
 .simp at mL;exact⟨none,[],0,mL,Sl.nil W⟩
 .simp at mL;simp only[bw]at hz;refine⟨some a,(zs.take len).map Int.toNat,cap,?_,?_⟩
  .rw [mL,ca,b8,dc aC]
  .have Ul:∀ n ∈ zs,0<=n/\n<4294967296:=λn hn=>by
    have:=hwz n hn;have h1:IntKind.u32.min=0:=rfl;have h2:IntKind.u32.max=4294967295:=rfl;simp[Lit.wf,h1,h2]at this;omega
   refine⟨by rw[ca,b8];omega,by simpa[maxLen]using hm,?_,(λh=>by cases h),?_⟩
   .intro y hy;obtain⟨z,xE,rfl⟩:=dg.1 hy;have:=Ul z (eo xE);omega
   .intro i y hy;rw[cr]at hy;obtain⟨z,xE,rfl⟩:=cG.1 hy;rw[dV]at xE;split at xE
    .rename_i hi;have hc:=j8 i aC;rw[bd,xE]at hc;obtain⟨b,off,spot⟩:=a;have hsp:spot=none:=by
      rcases spot with _|q
      .rfl
      .exfalso;have o0:=j8 0 aC;rw[show(⟨b,off,some q⟩:Addr).add 0=⟨b,off,some q⟩from rfl]at o0;unfold World.cell? at o0;split at o0<;>simp at o0
     subst hsp;refine⟨b,off,rfl,?_,?_⟩
     .have:=block_lt_of_cell hc;rwa[aar]at this
     .rw [Be]at hc;rw[hc];have:=Ul z (dF xE);simp;omega
    .cases xE
def Vn{α:Type}{l:List α}(h:l.length=3):∃ a b c,l=[a,b,c]:=by
 match l,h with
 | [a,b,c],_=>exact⟨a,b,c,rfl⟩
def agE{α:Type}{l:List α}(h:l.length=7):∃ a b c d e f g,l=[a,b,c,d,e,f,g]:=by
 match l,h with
 | [a,b,c,d,e,f,g],_=>exact⟨a,b,c,d,e,f,g,rfl⟩
def ahN{H:Type}{enc:TypeId×Value->H}{W:World}{fuel:Nat}{cs:List Value}{x:DataW H×List MemPlace}
 (h:DataW.trod enc prog W 0 (λ_=>true) true fuel 31 cs=some x) (im:∀ p ∈ x.2,p.block<W.heap.size):
 ∃ s A L cap e,cs=[.bool s,.slice A L.length cap,.int .i64 e]/\Sl W A cap L/\(-9223372036854775808<=e/\e<=9223372036854775807):=by
 obtain⟨xs,n,rfl,rfl,hl,mN,hf⟩:=DataW.trod_struct underlying31 h;have hC:prog.cellsOf 31=3:= aF ;have hB:prog.cellsOf 4=1:= aF ;have hS:prog.cellsOf 29=1:= aF ;have hI:prog.cellsOf 3=1:= aF ;rw[hC]at hl;obtain⟨a,b,c,rfl⟩:=Vn hl;have h0:=hf 0 _ rfl;have h1:=hf 1 _ rfl;have h2:=hf 2 _ rfl;simp only[et,eu,dC]at h0 h1 h2;simp only[hB,hS,hI,ev,ew,dR,ey]at h0 h1 h2;rw[bt (by rw[mN];decide)]at h0 h1 h2;obtain⟨s,hs,_⟩:=DataW.trod_bool underlying4 h0;obtain⟨A,L,cap,hc,vL⟩:=ahP h1 (λp hp=>im p (dG.2 ⟨_,cz _,hp⟩));obtain⟨e,he,_,hw⟩:=DataW.trod_int underlying3 h2;simp at hs he;subst hs he hc;exact⟨s,A,L,cap,e,rfl,vL,afs hw⟩
noncomputable def No(os:Os)(args:Array Value):World:=
 {World.holding prog os ⟨#[],args,[]⟩with heap:=(World.holding prog os ⟨#[],args,[]⟩).heap.modify 0 fun
   | .cells _ t frozen=>.cells (Lib.deBruijn32tab.map λ(n:Nat)=>Value.int .u8 (n:Int)).toArray t frozen
   |o=>o }
end Go.Proofs.YtkdddbdjilcofaaGreatDoor
namespace Go.Proofs.YtkdddbdjilcofaaGreatDoor.Pu
open Go.RowKit
inductive E where
 |any
 |v (x:Value)
 |agg (l:List E)
 |ie (l:List E)
 |sl (nl:Bool) (n sz:Nat) (el:Nat->Nat->E)
 |iM (m:Nat) (el:Nat->E)
 |fn (f:FuncId) (cap:List E)
 |mp (l:List (Int×FuncId×List FuncId))
 |mY (fl nl:Bool) (n sz:Nat) (el:Nat->Nat->E)
def qf:Value->Bool
 | .int .u32 _=>true
 |_=>false
def E.nr:Nat->E->Bool
 |_,.any=>true
 |_,.v _=>true
 |_,.sl ..=>true
 |_,.mp _=>true
 |d+1,.agg l=>l.all (E.nr d)
 |d+1,.ie l=>l.all (E.nr d)
 |d+1,.fn _ l=>l.all (E.nr d)
 |_,_=>false
def Bc(bs:Nat->Prop)(w:World):List (Int×FuncId×List FuncId)->List MapEntry->Prop
 | [],[]=>True
 |x::l,e::es=>(e.key = .int .i64 x.1/\∃ vs:List Value,e.val = .func (.func x.2.1) #[] vs.toArray/\vs.length=x.2.2.length /\
  ∀ (i:Nat) (g:FuncId) (v:Value),x.2.2[i]? = some g->vs[i]? = some v->∃ b,v = .pointer (some ⟨b,0,none⟩)/\¬bs b/\b<w.heap.size/\w.cell? ⟨b,0,none⟩=some (.func (.func g) #[] #[]))/\Bc bs w l es
 |_,_=>False
def Bc.mono{bs bs':Nat->Prop}{w w':World}(mo:w.heap.size<=w'.heap.size)(h1:∀ b,b<w.heap.size->bs' b->bs b)(hc:∀ b,b<w.heap.size->¬bs b->w'.heap[b]? = w.heap[b]?):
 ∀ {l:List (Int×FuncId×List FuncId)} {es:List MapEntry},Bc bs w l es->Bc bs' w' l es
 | [],[],_=>trivial
 | [],_::_,h=>h
 |_::_,[],h=>h
 |_::_,_::_,⟨⟨k1,vs,k2,k3,k4⟩,h⟩=>⟨⟨k1,vs,k2,k3,λi g v hg hv=>by
  obtain⟨b,q1,q2,q3,q4⟩:=k4 i g v hg hv;exact⟨b,q1,λx=>q2 (h1 b q3 x),bJ q3 mo,by rw[World.cell?_of_block (w:=w) (hc b q3 q2)];exact q4⟩⟩,Bc.mono mo h1 hc h⟩
inductive ix(bs br:Nat->Prop)(w:World):E->Value->Prop
 |any (x:Value):ix bs br w .any x
 |v (x:Value):ix bs br w (.v x) x
 |agg (l:List E) (vs:List Value) (h:vs.length=l.length) (k:∀ (i:Nat) (p:E) (x:Value),l[i]? = some p->vs[i]? = some x->ix bs br w p x):ix bs br w (.agg l) (.agg vs.toArray)
 |ie (l:List E) (vs:List Value) (h:vs.length=l.length) (k:∀ (i:Nat) (p:E) (x:Value),l[i]? = some p->vs[i]? = some x->ix bs br w p x):ix bs br w (.ie l) (.tuple vs.toArray)
 |sl (nl:Bool) (n sz:Nat) (el:Nat->Nat->E) (A:Option Addr) (c:Nat) (f:Nat->Nat->Value) (hc:n<=c) (hm:c<=9223372036854775807) (h0:A=none->c=0)
  (hl:∀ i j,i<n->j<sz->(f i j).oneCell'=true/\(nl=true->qf (f i j)=false))
  (hr:∀ i j,i<n->j<sz->(el i j).nr 2=true)
  (cell:∀ i j,i<n->j<sz->∃ b o,A=some ⟨b,o,none⟩/\¬bs b/\b<w.heap.size/\w.cell? ⟨b,o+(i*sz+j),none⟩=some (f i j))
  (k:∀ i j,i<n->j<sz->ix bs br w (el i j) (f i j)):ix bs br w (.sl nl n sz el) (.slice A n c)
 |iM (m:Nat) (el:Nat->E) (b o:Nat) (f:Nat->Value) (hb:¬br b) (im:b<w.heap.size) (hl:∀ j,j<m->(f j).oneCell'=true)
  (cell:∀ j,j<m->w.cell? ⟨b,o+j,none⟩=some (f j))
  (k:∀ j,j<m->ix bs br w (el j) (f j)):ix bs br w (.iM m el) (.pointer (some ⟨b,o,none⟩))
 |fn (f:FuncId) (l:List E) (vs:List Value) (h:vs.length=l.length) (k:∀ (i:Nat) (p:E) (x:Value),l[i]? = some p->vs[i]? = some x->ix bs br w p x):ix bs br w (.fn f l) (.func (.func f) #[] vs.toArray)
 |mp (l:List (Int×FuncId×List FuncId)) (b clk:Nat) (es:Array MapEntry) (hb:¬bs b) (im:b<w.heap.size) (hh:w.heap[b]? = some (.map es clk)) (ho:Bc bs w l es.toList):ix bs br w (.mp l) (.map (some b))
 |mY (fl nl:Bool) (n sz:Nat) (el:Nat->Nat->E) (A:Option Addr) (c:Nat) (f:Nat->Nat->Value) (hc:n<=c) (hm:c<=9223372036854775807) (h0:A=none->c=0)
  (hl:∀ i j,i<n->j<sz->(f i j).oneCell'=true/\(nl=true->qf (f i j)=false))
  (hr:fl=true->∀ i j,i<n->j<sz->(el i j).nr 2=true)
  (cell:∀ i j,i<n->j<sz->∃ b o,A=some ⟨b,o,none⟩/\¬br b/\b<w.heap.size/\w.cell? ⟨b,o+(i*sz+j),none⟩=some (f i j))
  (k:∀ i j,i<n->j<sz->ix bs br w (el i j) (f i j)):ix bs br w (.mY fl nl n sz el) (.slice A n c)
def ix.mono{bs br bs' br':Nat->Prop}{w w':World}(mo:w.heap.size<=w'.heap.size)
 (h1:∀ b,b<w.heap.size->bs' b->bs b) (h2:∀ b,b<w.heap.size->br' b->br b)
 (hc:∀ b,b<w.heap.size->(¬bs b\/¬br b)->w'.heap[b]? = w.heap[b]?)
 {e:E} {v:Value} (h:ix bs br w e v):ix bs' br' w' e v:=by
 induction h with
 |any x=>exact .any x
 |v x=>exact .v x
 |agg l vs h k ih=>exact .agg l vs h ih
 |ie l vs h k ih=>exact .ie l vs h ih
 |sl nl n sz el A c f hn hm h0 hl hr cell k ih=>
  refine .sl nl n sz el A c f hn hm h0 hl hr (λi j hi hj=>?_) ih;obtain⟨b,o,e,hb,im,j8⟩:=cell i j hi hj;exact⟨b,o,e,λhx=>hb (h1 b im hx),bJ im mo,by rw[World.cell?_of_block (w:=w) (hc b im (.inl hb))];exact j8⟩
 |iM m el b o f hb im hl cell k ih=>
  exact .iM m el b o f (λhx=>hb (h2 b im hx)) (bJ im mo) hl (λj hj=>by rw[World.cell?_of_block (w:=w) (hc b im (.inr hb))];exact cell j hj) ih
 |fn f l vs h k ih=>exact .fn f l vs h ih
 |mp l b clk es hb im hh ho=>exact .mp l b clk es (λx=>hb (h1 b im x)) (bJ im mo) (by rw[hc b im (.inl hb)];exact hh) (ho.mono mo h1 λb im hb=>hc b im (.inl hb))
 |mY fl nl n sz el A c f hn hm h0 hl hr cell k ih=>
  refine .mY fl nl n sz el A c f hn hm h0 hl hr (λi j hi hj=>?_) ih;obtain⟨b,o,e,hb,im,j8⟩:=cell i j hi hj;exact⟨b,o,e,λhx=>hb (h2 b im hx),bJ im mo,by rw[World.cell?_of_block (w:=w) (hc b im (.inr hb))];exact j8⟩
def ix.pT{bs br bs' br':Nat->Prop}{w:World}(h1:∀ b,bs' b->bs b)(h2:∀ b,br' b->br b){e:E}{v:Value}(h:ix bs br w e v):ix bs' br' w e v:=
 h.mono (bc _) (λb _=>h1 b) (λb _=>h2 b) (λ_ _ _=>rfl)
def E.plain:Nat->E->Bool
 |_,.any=>true
 |_,.v _=>true
 |d+1,.agg l=>l.all (E.plain d)
 |d+1,.ie l=>l.all (E.plain d)
 |_,_=>false
def ix.plain{bs br bs' br':Nat->Prop}{w w':World}{e:E}{v:Value}(h:ix bs br w e v):∀ d,e.plain d=true->ix bs' br' w' e v:=by
 induction h with
 |any x=>exact λ_ _=>.any x
 |v x=>exact λ_ _=>.v x
 |agg l vs h k ih=>
  intro d hd;cases d with
  |zero=>simp[E.plain]at hd
  |succ d=>
   simp only[E.plain,bN]at hd;exact .agg l vs h λi p x hp hx=>ih i p x hp hx d (hd p (dF hp))
 |ie l vs h k ih=>
  intro d hd;cases d with
  |zero=>simp[E.plain]at hd
  |succ d=>
   simp only[E.plain,bN]at hd;exact .ie l vs h λi p x hp hx=>ih i p x hp hx d (hd p (dF hp))
 |sl=>intro d hd;cases d<;>simp[E.plain]at hd
 |iM=>intro d hd;cases d<;>simp[E.plain]at hd
 |fn=>intro d hd;cases d<;>simp[E.plain]at hd
 |mp=>intro d hd;cases d<;>simp[E.plain]at hd
 |mY=>intro d hd;cases d<;>simp[E.plain]at hd
def ix.nr{bs br br':Nat->Prop}{w:World}{e:E}{v:Value}(h:ix bs br w e v):∀ d,e.nr d=true->ix bs br' w e v:=by
 induction h with
 |any x=>exact λ_ _=>.any x
 |v x=>exact λ_ _=>.v x
 |agg l vs h k ih=>
  intro d hd;cases d with
  |zero=>simp[E.nr]at hd
  |succ d=>
   simp only[E.nr,bN]at hd;exact .agg l vs h λi p x hp hx=>ih i p x hp hx d (hd p (dF hp))
 |ie l vs h k ih=>
  intro d hd;cases d with
  |zero=>simp[E.nr]at hd
  |succ d=>
   simp only[E.nr,bN]at hd;exact .ie l vs h λi p x hp hx=>ih i p x hp hx d (hd p (dF hp))
 |fn f l vs h k ih=>
  intro d hd;cases d with
  |zero=>simp[E.nr]at hd
  |succ d=>
   simp only[E.nr,bN]at hd;exact .fn f l vs h λi p x hp hx=>ih i p x hp hx d (hd p (dF hp))
 |iM=>intro d hd;cases d<;>simp[E.nr]at hd
 |mY=>intro d hd;cases d<;>simp[E.nr]at hd
 |mp l b clk es hb im hh ho=>exact λ_ _=>.mp l b clk es hb im hh ho
 |sl nl n sz el A c f hn hm h0 hl hr cell k ih=>
  exact λ_ _=>.sl nl n sz el A c f hn hm h0 hl hr cell λi j hi hj=>ih i j hi hj 2 (hr i j hi hj)
def E.one:E->Bool
 | .v x=>x.oneCell'
 | .sl ..=>true
 | .iM ..=>true
 | .fn ..=>true
 |_=>false
def E.mO:E->Bool
 | .v x=>!qf x
 | .sl ..=>true
 | .iM ..=>true
 | .fn ..=>true
 |_=>false
def ix.one{bs br:Nat->Prop}{w:World}{e:E}{v:Value}(h:ix bs br w e v)(h1:e.one=true):v.oneCell'=true:=by
 cases h<;>first|exact h1|rfl|(simp[E.one]at h1)
def ix.mO{bs br:Nat->Prop}{w:World}{e:E}{v:Value}(h:ix bs br w e v)(h1:e.mO=true):qf v=false:=by
 cases h with
 |v=>unfold E.mO at h1;cases hb:qf v<;>simp_all
 |any=>cases h1
 |agg=>cases h1
 |ie=>cases h1
 |sl=>rfl
 |iM=>rfl
 |fn=>rfl
 |mp=>cases h1
 |mY=>cases h1
structure jX(bs br:Nat->Prop)(w:World)(l:List E)(vs:List Value):Prop where
 len:vs.length=l.length
 kA:∀ (i:Nat) (p:E) (x:Value),l[i]? = some p->vs[i]? = some x->ix bs br w p x
def jX.nil(bs br:Nat->Prop)(w:World):jX bs br w [] []:=⟨rfl,λi p x h=>by simp at h⟩
def jX.cons{bs br:Nat->Prop}{w:World}{p:E}{x:Value}{l:List E}{vs:List Value}(h:ix bs br w p x)(k:jX bs br w l vs):jX bs br w (p::l) (x::vs):=
 ⟨by simp[k.len],λi q y hq hy=>by
  cases i with
  |zero=>simp at hq hy;subst hq hy;exact h
  |succ i=>simp at hq hy;exact k.kA i q y hq hy⟩
def jX.head{bs br:Nat->Prop}{w:World}{p:E}{x:Value}{l:List E}{vs:List Value}(h:jX bs br w (p::l) (x::vs)):ix bs br w p x:=h.kA 0 p x rfl rfl
def jX.tail{bs br:Nat->Prop}{w:World}{p:E}{x:Value}{l:List E}{vs:List Value}(h:jX bs br w (p::l) (x::vs)):jX bs br w l vs:=
 ⟨by have:=h.len;simpa using this,λi q y hq hy=>h.kA (i+1) q y (by simpa using hq) (by simpa using hy)⟩
def jX.nc{bs br:Nat->Prop}{w:World}{p:E}{l:List E}{vs:List Value}(h:jX bs br w (p::l) vs):∃ x ys,vs=x::ys/\ix bs br w p x/\jX bs br w l ys:=by
 cases vs with
 |nil=>have:=h.len;simp at this
 |cons x ys=>exact⟨x,ys,rfl,h.head,h.tail⟩
def jX.rM{bs br:Nat->Prop}{w:World}{vs:List Value}(h:jX bs br w [] vs):vs=[]:=dh h.len
def jX.mono{bs br bs' br':Nat->Prop}{w w':World}{l:List E}{vs:List Value}(h:jX bs br w l vs)(k:∀ e v,ix bs br w e v->ix bs' br' w' e v):jX bs' br' w' l vs:=
 ⟨h.len,λi p x hp hx=>k _ _ (h.kA i p x hp hx)⟩
def jX.take{bs br:Nat->Prop}{w:World}{l:List E}{vs:List Value}(h:jX bs br w l vs)(n:Nat):jX bs br w (l.take n) (vs.take n):=
 ⟨by simp[h.len],λi p x hp hx=>by
  rw[dV]at hp hx;split at hp
  .rename_i hi;rw[aZ hi]at hx;exact h.kA i p x hp hx
  .cases hp⟩
def jX.drop{bs br:Nat->Prop}{w:World}{l:List E}{vs:List Value}(h:jX bs br w l vs)(n:Nat):jX bs br w (l.drop n) (vs.drop n):=
 ⟨by simp[h.len],λi p x hp hx=>by
  rw[ez]at hp hx;exact h.kA _ p x hp hx⟩
def jX.app{bs br:Nat->Prop}{w:World}{l m:List E}{vs us:List Value}(h:jX bs br w l vs)(k:jX bs br w m us):jX bs br w (l++m) (vs++us):=
 ⟨by simp[h.len,k.len],λi p x hp hx=>by
  rw[eA]at hp hx;rw[h.len]at hx;split at hp
  .rename_i hi;rw[aZ hi]at hx;exact h.kA i p x hp hx
  .rename_i hi;rw[aY hi]at hx;exact k.kA _ p x hp hx⟩
def jX.acb(bs br:Nat->Prop)(w:World)(vs:List Value):jX bs br w (vs.map .v) vs:=
 ⟨aH,λi p x hp hx=>by
  rw[cr,hx]at hp;simp at hp;subst hp;exact .v x⟩
def ix.CQ{bs br:Nat->Prop}{w:World}{l:List E}{v:Value}(h:ix bs br w (.agg l) v):∃ vs:List Value,v = .agg vs.toArray/\jX bs br w l vs:=by
 cases h with
 |agg _ vs h k=>exact⟨vs,rfl,h,k⟩
def ix.YD{bs br:Nat->Prop}{w:World}{l:List E}{v:Value}(h:ix bs br w (.ie l) v):∃ vs:List Value,v = .tuple vs.toArray/\jX bs br w l vs:=by
 cases h with
 |ie _ vs h k=>exact⟨vs,rfl,h,k⟩
def ix.ku{bs br:Nat->Prop}{w:World}{x v:Value}(h:ix bs br w (.v x) v):v=x:=by cases h;rfl
def ix.SJ{bs br:Nat->Prop}{w:World}{f:FuncId}{l:List E}{v:Value}(h:ix bs br w (.fn f l) v):∃ vs:List Value,v = .func (.func f) #[] vs.toArray/\jX bs br w l vs:=by
 cases h with
 |fn _ _ vs h k=>exact⟨vs,rfl,h,k⟩
def jX.agg{bs br:Nat->Prop}{w:World}{l:List E}{vs:List Value}(h:jX bs br w l vs):ix bs br w (.agg l) (.agg vs.toArray):=.agg l vs h.len h.kA
def jX.ie{bs br:Nat->Prop}{w:World}{l:List E}{vs:List Value}(h:jX bs br w l vs):ix bs br w (.ie l) (.tuple vs.toArray):=.ie l vs h.len h.kA
def E.cells?:E->Option (List E)
 | .agg l=>if l.all E.one then some l else none
 | .v (.agg cs)=>if cs.toList.all Value.oneCell' then some (cs.toList.map .v)else none
 | .v x=>if x.oneCell' then some [.v x]else none
 | .sl nl n sz el=>some [.sl nl n sz el]
 | .iM m el=>some [.iM m el]
 | .fn f c=>some [.fn f c]
 |_=>none
def ix.cells{bs br:Nat->Prop}{w:World}{e:E}{v:Value}(h:ix bs br w e v){l:List E}(hl:e.cells? = some l):
 jX bs br w l v.cells.toList/\∀ u ∈ v.cells.toList,u.oneCell'=true:=by
 have single:∀ {e:E} {v:Value},ix bs br w e v->v.oneCell'=true->v.cells = #[v]->jX bs br w [e] v.cells.toList/\∀ u ∈ v.cells.toList,u.oneCell'=true:=by
  intro e v h h1 hc;rw[hc];exact⟨.cons h (.nil _ _ _),by simpa using h1⟩
 cases h with
 |any x=>simp[E.cells?]at hl
 |v=>
  by_cases ha:∃ cs,v = .agg cs
  .obtain ⟨cs,rfl⟩:=ha;simp only[E.cells?]at hl;split at hl
   .rename_i h1;cases hl;exact⟨jX.acb _ _ _ _,λu hu=>bN.1 h1 u hu⟩
   .cases hl
  .have hx:(E.v v).cells? = if v.oneCell' then some [.v v]else none:=by
    cases v<;>first|rfl|exact absurd ⟨_,rfl⟩ ha
   rw[hx]at hl;split at hl
   .rename_i h1;cases hl;exact single (.v v) h1 (by cases v<;>first|rfl|exact absurd ⟨_,rfl⟩ ha)
   .cases hl
 |agg l vs h k=>
  simp only[E.cells?]at hl;split at hl
  .rename_i h1;cases hl;refine⟨⟨h,k⟩,?_⟩;intro u hu;obtain⟨i,hi⟩:=dp.1 hu;have Ff:i<l.length:=by
    obtain⟨hi,_⟩:=b5.1 hi;simp[Value.cells]at hi;omega
   exact(k i _ u (bt Ff) (by simpa[Value.cells]using hi)).one (bN.1 h1 _ (cz Ff))
  .cases hl
 |ie=>simp[E.cells?]at hl
 |mp=>simp[E.cells?]at hl
 |mY=>simp[E.cells?]at hl
 |sl nl n sz el A c f hc hm h0 pZ hr cell k=>simp only[E.cells?]at hl;cases hl;exact single (.sl nl n sz el A c f hc hm h0 pZ hr cell k) rfl rfl
 |iM m el b o f hb im pZ cell k=>simp only[E.cells?]at hl;cases hl;exact single (.iM m el b o f hb im pZ cell k) rfl rfl
 |fn f l' vs h k=>simp only[E.cells?]at hl;cases hl;exact single (.fn f l' vs h k) rfl rfl
structure TI where
 id:TypeId
 d:TypeDesc
 i:TypeInfo
def lY(P:Program)(T:List TI):Prop:=∀ x,x ∈ T->P.underlying x.id=some x.d/\P.info? x.id=some x.i
def mj:List TI->TypeId->Option TI
 | [],_=>none
 |x::l,t=>if Nat.beq x.id t then some x else mj l t
def wu(T:List TI)(t:TypeId):Option TypeDesc:=match mj T t with
 |some x=>some x.d
 |none=>none
def TI.isAgg(x:TI):Bool:=match x.d with
 | .struct _ | .array _ _=>true
 |_=>false
inductive CV where
 |e (x:E)
 |box (id:Nat)
 |row (id:Nat)
inductive PV where
 |e (x:E)
 |box (id off:Nat)
 |own (id:Nat)
 |mP (id sz i j:Nat)
 |iC (id k:Nat)
 |qu (id sz k i j:Nat)
 |oP (f:FuncId) (cap:List CV)
def CV.lv:CV->List Nat
 | .e _=>[]
 | .box id=>[id]
 | .row id=>[id]
def PV.lv:PV->List Nat
 | .e _=>[]
 | .box id _ | .own id | .mP id _ _ _ | .iC id _ | .qu id _ _ _ _=>[id]
 | .oP _ cap=>cap.flatMap CV.lv
inductive Bx where
 |cells (T:TypeId) (l:List E)
 |row (nl:Bool) (T:TypeId) (n sz:Nat) (el:Nat->Nat->E)
 |jA (nl:Bool) (T1 T0:TypeId) (n sz:Nat) (len:Nat->Nat) (el:Nat->Nat->Nat->E) (pend:Option Nat)
def Bx.nl:Bx->Bool
 | .cells _ l=>l.all E.mO
 | .row nl ..=>nl
 | .jA nl ..=>nl
structure PS where
 n:Nat
 nl:Bool
 t:List (Nat×PV)
 b:List (Nat×Bx)
def look{α:Type}:List (Nat×α)->Nat->Option α
 | [],_=>none
 | (k,x)::l,t=>if Nat.beq k t then some x else look l t
def PS.get(σ:PS)(t:Nat):PV:=(look σ.t t).getD (.e .any)
def PS.bo(σ:PS)(id:Nat):Option Bx:=look σ.b id
def PS.op(σ:PS):Operand->PV
 | .tmp t=>σ.get t
 | .const v=>.e (.v v)
 | .global g=>.e (.v (.pointer (some ⟨g,0,none⟩)))
 | .func f=>.e (.fn f [])
inductive qj where
 |none
 |new (id:Nat) (b:Bx)
 |vc (id:Nat) (b:Bx)
 |qP (id:Nat) (b:Bx)
 |uw (id:Nat) (b:Bx)
 |fin (id:Nat)
 |qY (id r:Nat) (b:Bx)
 |AS (id:Nat) (b:Bx)
structure kp where
 r:PV
 f:qj:=.none
 rb:List Nat:=[]
 jo:List Prop:=[]
 rd:List PV:=[]
def CV.FG(id:Nat):CV->Bool
 | .row i=>Nat.beq i id
 |_=>false
def PV.mR:qj->PV->PV
 | .qP id _,.own i=>if Nat.beq i id then .e .any else .own i
 | .qP id _,.mP i s x j=>if Nat.beq i id then .e .any else .mP i s x j
 | .qP id _,.oP f cap=>if cap.any (CV.FG id)then .e .any else .oP f cap
 | .uw id _,.iC i k=>if Nat.beq i id then .e .any else .iC i k
 | .uw id _,.qu i s k x j=>if Nat.beq i id then .e .any else .qu i s k x j
 | .fin id,p=>if p.lv.any (Nat.beq id)then .e .any else p
 | .AS id _,p=>if p.lv.any (Nat.beq id)then .e .any else p
 | .qY id r _,.box i off=>if Nat.beq i id then(if Nat.beq off 0 then .mP id 1 0 0 else .e .any)else if Nat.beq i r then .e .any else .box i off
 | .qY id r _,p=>if p.lv.any (λx=>Nat.beq id x||Nat.beq r x)then .e .any else p
 |_,p=>p
def tw(l:List (Nat×Bx))(id:Nat)(b:Bx):List (Nat×Bx):=(id,b)::l.filter λx=>!Nat.beq x.1 id
def qj.K0:qj->List (Nat×Bx)->List (Nat×Bx)
 | .none,l=>l
 | .new id b,l | .vc id b,l | .qP id b,l | .uw id b,l | .AS id b,l=>tw l id b
 | .fin id,l=>l.filter λx=>!Nat.beq x.1 id
 | .qY id r b,l=>tw (l.filter λx=>!Nat.beq x.1 r) id b
def qj.Kx:qj->Bool
 | .qP .. | .uw .. | .fin .. | .qY .. | .AS ..=>true
 |_=>false
def PS.nE(σ:PS)(f:qj):PS:={ σ with t:=if f.Kx then σ.t.map λx=>(x.1,x.2.mR f)else σ.t,b:=f.K0 σ.b }
def PS.put(σ:PS)(d:Option Tmp)(p:PV):PS:=match d with
 |some d=>{ σ with t:=(d,p)::σ.t.filter λx=>!Nat.beq x.1 d }
 |none=>σ
def kP:IntKind->Int->Prop
 | .i8,z=>-128<=z/\z<=127
 | .i16,z=>-32768<=z/\z<=32767
 | .i32,z=>-2147483648<=z/\z<=2147483647
 | .i64,z=>-9223372036854775808<=z/\z<=9223372036854775807
 | .u8,z=>0<=z/\z<=255
 | .u16,z=>0<=z/\z<=65535
 | .u32,z=>0<=z/\z<=4294967295
 | .u64,z=>0<=z/\z<=18446744073709551615
def Xn(op:BinOp)(k k':IntKind):Bool:=match op with
 | .shl=>true
 | .shr=>true
 |_=>decide (k=k')
def KT(k:IntKind)(x y:Int):Int:=match k with
 | .u32=>IntKind.u32.wrap (x+y)
 |_=>x+y
def PR(k:IntKind)(x y:Int):List Prop:=match k with
 | .u32=>[]
 |_=>[kP k (x+y)]
def Lw(op:BinOp)(k:IntKind)(x:Int)(y:Int):Option (Value×List Prop):=match op with
 | .add=>some (.int k (KT k x y),PR k x y)
 | .sub=>some (.int k (x-y),[kP k (x-y)])
 | .mul=>some (.int k (x*y),[kP k (x*y)])
 | .quo=>some (.int k (x.tdiv y),[0<y,kP k x])
 | .rem=>some (.int k (x.tmod y),[0<y])
 | .and=>some (.int k (bits .and k x y),[])
 | .or=>some (.int k (bits .or k x y),[])
 | .shl=>some (.int k (k.wrap (x*2^y.toNat)),[0<=y/\y<=k.bits])
 | .shr=>some (.int k (x/2^y.toNat),[0<=y/\y<=k.bits])
 | .eql=>some (.bool (x==y),[])
 | .neq=>some (.bool (x != y),[])
 | .lss=>some (.bool (decide (x<y)),[])
 | .leq=>some (.bool (decide (x<=y)),[])
 | .gtr=>some (.bool (decide (y<x)),[])
 | .geq=>some (.bool (decide (y<=x)),[])
 |_=>none
def PS.read(σ:PS)(p:PV)(m:Nat):Option (List E×List Nat×List Prop):=match p with
 | .box id off=>match σ.bo id with
  |some (.cells _ l)=>if Nat.ble (off+m) l.length then some ((l.drop off).take m,[id],[])else none
  |_=>none
 | .mP id sz i j=>match σ.bo id with
  |some (.row _ _ n s el)=>if Nat.beq s sz&&Nat.ble (j+m) sz then some ((List.range m).map λq=>el i (j+q),[id],[i<n])else none
  |_=>none
 | .qu id sz k i j=>match σ.bo id with
  |some (.jA _ _ _ n s len el _)=>if Nat.beq s sz&&Nat.ble (j+m) sz then some ((List.range m).map λq=>el k i (j+q),[id],[k<n,i<len k])else none
  |_=>none
 | .e (.iM k el)=>if Nat.ble m k then some ((List.range m).map el,[],[])else none
 |_=>none
def CV.ext(σ:PS):CV->Option (E×List Nat)
 | .e x=>some (x,[])
 | .box id=>match σ.bo id with
  |some (.cells _ l)=>some (.iM l.length λj=>l.getD j .any,[id])
  |_=>none
 | .row id=>match σ.bo id with
  |some (.jA nl _ _ n sz len el none)=>if Nat.beq n 1 then some (.iM 1 λ_=>.sl nl (len 0) sz (el 0),[id])else none
  |_=>none
def CV.FF:CV->Bool
 | .row _=>true
 |_=>false
def uj(σ:PS):List CV->Option (List E×List Nat)
 | []=>some ([],[])
 |c::l=>match c.ext σ,uj σ l with
  |some (x,i),some (xs,is)=>some (x::xs,i++is)
  |_,_=>none
def PV.vO(σ:PS):PV->Bool
 | .own id=>match σ.bo id with
  |some (.jA ..)=>false
  |_=>true
 | .iC _ _=>true
 | .oP _ cap=>cap.any CV.FF
 |_=>false
def PV.ext(σ:PS):PV->Option (E×List Nat)
 | .e x=>some (x,[])
 | .own id=>match σ.bo id with
  |some (.row nl _ n sz el)=>some (.sl nl n sz el,[id])
  |some (.jA nl _ _ n sz len el none)=>some (.mY false true n 1 λk _=>.mY true nl (len k) sz (el k),[id])
  |_=>none
 | .box id 0=>match σ.bo id with
  |some (.cells _ l)=>some (.iM l.length λj=>l.getD j .any,[id])
  |_=>none
 | .iC id k=>match σ.bo id with
  |some (.jA nl _ _ n sz len el none)=>if Nat.blt k n then some (.sl nl (len k) sz (el k),[id])else none
  |_=>none
 | .oP f cap=>match uj σ cap with
  |some (xs,is)=>some (.fn f xs,is)
  |none=>none
 |_=>none
def tD(σ:PS):List Operand->Option (List E×List Nat)
 | []=>some ([],[])
 |o::l=>match(σ.op o).ext σ,tD σ l with
  |some (x,i),some (xs,is)=>some (x::xs,i++is)
  |_,_=>none
def wq:List PV->Option (List CV)
 | []=>some []
 | .e x::l=>(wq l).map (.e x :: ·)
 | .box id 0::l=>(wq l).map (.box id :: ·)
 | .mP id sz i j::l=>if Nat.beq sz 1&&Nat.beq i 0&&Nat.beq j 0 then(wq l).map (.row id :: ·)else none
 |_::_=>none
def oI(w:World)(b:Nat):Prop:=∀ o x,w.cell? ⟨b,o,none⟩≠some (.int .u32 x)
structure PC(P:Program)(K:World->Prop)(f:FuncId)(args:List E)(jP:E):Prop where
 call:∀ (vs:Array Value) (w:World),(callFunc f vs).run P w = .ok (.enter f vs) w
 run:∀ (w:World) (B:Nat->Prop) (vs:List Value),K w->(∀ b,B b->b<w.heap.size/\oI w b)->jX B (λ_=>False) w args vs ->
  Calls P f vs.toArray w (λe w'=>∃ v,e = .returned v/\Below w.heap.size w w'/\ix B (λ_=>True) w' jP v)
structure G3(P:Program)(K:World->Prop)(f:FuncId)(args:List E)(jP:E):Prop where
 call:∀ (vs:Array Value) (w:World),(callFunc f vs).run P w = .ok (.enter f vs) w
 run:∀ (w:World) (B:Nat->Prop) (vs:List Value),K w->(∀ b,B b->b<w.heap.size)->jX B (λ_=>False) w args vs ->
  Calls P f vs.toArray w (λe w'=>∃ v,e = .returned v/\Below w.heap.size w w'/\ix B (λ_=>True) w' jP v)
def ny(w:World)(v:Value)(T:TypeId)(n sz:Nat)(f:Nat->Nat->Value)(nl:Bool):Prop:=
 (v = .slice none 0 0/\n=0) \/
 ∃ (b c:Nat) (cur:Array Value),v = .slice (some ⟨b,0,none⟩) n c/\w.heap[b]? = some (.cells cur T (0,0))/\n<=c/\c<=maxLen/\cur.size=c*sz /\
  (∀ i j,i<n->j<sz->cur[i*sz+j]? = some (f i j)/\(f i j).oneCell'=true)/\(nl=true->∀ u,u ∈ cur->qf u=false)
structure vh(P:Program)(K:World->Prop)(f:FuncId)(args:List E)(nl:Bool)(T:TypeId)(n sz:Nat)(el:Nat->Nat->E):Prop where
 call:∀ (vs:Array Value) (w:World),(callFunc f vs).run P w = .ok (.enter f vs) w
 run:∀ (w:World) (B:Nat->Prop) (vs:List Value),K w->(∀ b,B b->b<w.heap.size/\oI w b)->jX B (λ_=>False) w args vs ->
  Calls P f vs.toArray w (λe w'=>∃ v,e = .returned v/\Below w.heap.size w w'/\∃ g,ny w' v T n sz g nl/\(∀ x,v.ownBlock=some x->w.heap.size<=x/\x<w'.heap.size) /\
   ∀ i j,i<n->j<sz->ix (λb=>B b\/v.ownBlock=some b) (λ_=>True) w' (el i j) (g i j)/\(el i j).nr 2=true)
structure pK where
 cl:List (Nat×E):=[]
 ov:List (Nat×PV):=[]
 nw:List (Nat×Bx):=[]
 gi:List (Nat×Value):=[]
def Gg(T:List TI):List Field->Option (List (Nat×Nat))
 | []=>some []
 |f::fs=>match mj T f.type,Gg T fs with
  |some ti,some l=>some ((f.offset,ti.i.size)::l)
  |_,_=>none
def AM(l:List E)(off:Nat)(m:List E):List E:=l.take off++m++l.drop (off+m.length)
def rW(σ:PS)(place:Nat->Option (Nat×Nat)):List E->List (Nat×Operand)->Option (List E)
 |l,[]=>some l
 |l,(i,x)::ps=>match place i,σ.op x with
  |some (off,size),.e e=>match e.cells? with
   |some m=>if Nat.beq m.length size&&Nat.ble (off+m.length) l.length then rW σ place (AM l off m) ps else none
   |none=>none
  |_,_=>none
def xR(ti:TI):Option (List E):=match ti.i.zero with
 |some z=>(E.v z).cells?
 |none=>none
def kA{α:Type}:Nat->List α->List α
 | 0,_=>[]
 |n+1,l=>l++kA n l
def qk(P:Program)(op:BinOp)(t:TypeId)(x y:E)(v:Value):Prop:=∀ (bs br:Nat->Prop) (w:World) (a b:Value) (ox oy:Operand),ix bs br w x a->ix bs br w y b->(eqGuard op t ox oy a b).run P w = .ok () w/\(binOp op t a b).run P w = .ok v w
def ad5(O:pK)(d:Option Tmp):Option Value:=match d with
 |some d=>match look O.cl d with
  |some (.v v)=>some v
  |_=>none
 |none=>none
def ad4(O:pK)(d:Option Tmp):Option Value:=match d with
 |some d=>look O.gi d
 |none=>none
def vf(e:E):Prop:=∀ (bs bs' br:Nat->Prop) (w:World) (v:Value),(∀ x,bs' x->bs x\/oI w x)->ix bs br w e v->ix bs' br w e v
def ub(σ:PS)(d:Nat)(b:Bx):qj:=match σ.bo d with
 |none=>.new d b
 |some _=>.AS d b
def y3(σ:PS)(d:Nat)(is:List Nat):List Nat:=match σ.bo d with
 |none=>is
 |some _=>d::is
def Eg(n sz:Nat)(el:Nat->Nat->E):Prop:=∀ i j,i<n->j<sz->vf (el i j)
def z8(P:Program)(K:World->Prop)(O:pK)(σ:PS)(d:Option Tmp)(f:FuncId)(xs:List E)(is:List Nat)(ow:Bool):Option kp:=
 match(match d with
  |some d=>look O.cl d
  |none=>some .any)with
 |some jP=>if jP.plain 3||(σ.nl && !ow)then some { r:=.e jP,rb:=is,jo:=[PC P K f xs jP] }else if !ow then some { r:=.e jP,rb:=is,jo:=[G3 P K f xs jP] }
  else if σ.nl then some { r:=.e jP,rb:=is,jo:=[PC P K f xs jP,vf jP] }else none
 |none=>match d with
  |some d=>match look O.nw d with
   |some (.row nl T n sz el)=>if σ.nl&&nl then some { r:=.own d,f:=ub σ d (.row nl T n sz el),rb:=y3 σ d is,jo:=vh P K f xs nl T n sz el::(if ow then[Eg n sz el]else[]) }else none
   |_=>none
  |none=>none
def yV(σ:PS)(d:Option Tmp)(b:Bx)(r:Nat->PV)(jo:List Prop):Option kp:=match d with
 |some d=>match σ.bo d with
  |none=>if !σ.nl||b.nl then some { r:=r d,f:=.new d b,jo:=jo }else none
  |some _=>none
 |none=>none
def PV.KV:PV->Option (Bool×Nat×Nat×(Nat->Nat->E))
 | .e (.sl nl n sz el)=>some (nl,n,sz,el)
 | .e (.mY true nl n sz el)=>some (nl,n,sz,el)
 |_=>none
def AG(σ:PS)(d:Option Tmp)(b:Bx)(r:Nat->PV):Option kp:=match d with
 |some d=>if !σ.nl||b.nl then some { r:=r d,f:=ub σ d b,rb:=y3 σ d [] }else none
 |none=>none
def zZ(T:List TI)(σ:PS)(d:Option Tmp)(t:TypeId)(s x:PV):Option kp:=match x.KV with
 |some (nl2,m,sz2,el2)=>match mj T t with
  |some tt=>match tt.d with
   | .slice e=>match mj T e with
    |some te=>match xR te with
     |some z=>if Nat.beq te.i.size sz2&&Nat.ble 1 sz2&&Nat.ble 1 te.i.bytes&&Nat.beq z.length sz2 then match s with
      | .own id=>match σ.bo id with
       |some (.row nl T1 n sz el)=>if Nat.beq T1 e&&Nat.beq sz sz2&&(!σ.nl||(nl&&(nl2&&z.all E.mO)))then
        some { r:=.own id,f:=.qP id (.row (nl&&(nl2&&z.all E.mO)) T1 (n+m) sz λi j=>if i<n then el i j else el2 (i-n) j),rb:=[id],jo:=[(n+m)*te.i.bytes<=140737488355328] }
        else none
       |_=>none
      | .iC id k=>match σ.bo id with
       |some (.jA nl T1 T0 n sz len el none)=>if Nat.beq T0 e&&Nat.beq sz sz2&&(!nl||(nl2&&z.all E.mO))then
        some { r:=.iC id k,f:=.uw id (.jA nl T1 T0 n sz (λq=>if q=k then len q+m else len q) (λq i j=>if q=k then(if i<len q then el q i j else el2 (i-len q) j)else el q i j) (some k)),rb:=[id],jo:=[k<n,(len k+m)*te.i.bytes<=140737488355328] }
        else none
       |_=>none
      | .e (.v (.slice none 0 0))=>yV σ d (.row (nl2&&z.all E.mO) e m sz2 el2) .own [m*te.i.bytes<=140737488355328]
      |_=>none
     else none
     |none=>none
    |none=>none
   |_=>none
  |none=>none
 |_=>none
def Bs(T:List TI)(σ:PS)(d:Option Tmp)(t:TypeId)(s x:PV):Option kp:=match zZ T { σ with nl:=false } d t s x with
 |some u=>match u.f,u.r with
  | .qP id (.row nl _ n sz el),.own id'=>if Nat.beq id' id then some { r:=.e (.sl nl n sz el),f:=.fin id,rb:=u.rb,jo:=True::u.jo }else none
  |_,_=>none
 |none=>none
def PV.DQ:PV->Option Nat
 | .own q=>some q
 |_=>none
def AL(σ:PS):List (Nat×Operand)->Option Nat
 | [(0,x)]=>(σ.op x).DQ
 |_=>none
def Ht(T:List TI)(t:TypeId):Option (TypeId×Nat):=match mj T t with
 |some tt=>match tt.d with
  | .slice e=>match mj T e with
   |some te=>match xR te with
    |some [z]=>if Nat.beq te.i.size 1&&Nat.ble 1 te.i.bytes&&z.mO then some (e,te.i.bytes)else none
    |_=>none
   |none=>none
  |_=>none
 |none=>none
def Bu(T:List TI)(σ:PS)(d:Option Tmp)(t:TypeId)(n q:Nat):Option kp:=match d with
 |some id=>match σ.bo id,σ.bo q,Ht T t with
  |none,some (.row nl T0 m sz el),some (e,_)=>if Nat.beq n 1 && !Nat.beq id q then
   some { r:=.own id,f:=.qY id q (.jA nl e T0 1 sz (λ_=>m) (λ_=>el) none),rb:=[id,q] }else none
  |_,_,_=>none
 |none=>none
def Bt(T:List TI)(σ:PS)(d:Option Tmp)(t:TypeId)(s:PV)(q:Nat):Option kp:=match σ.bo q,Ht T t with
 |some (.jA nl2 T2 T0 m sz len2 el2 none),some (e,by_)=>match s,d with
  | .own id,_=>match σ.bo id with
   |some (.jA nl T1 T0' n sz' len el none)=>if Nat.beq T1 e&&Nat.beq T2 e&&Nat.beq T0' T0&&Nat.beq sz' sz && !Nat.beq id q then
    some { r:=.own id,f:=.qY id q (.jA (nl&&nl2) T1 T0 (n+m) sz (λk=>if k<n then len k else len2 (k-n)) (λk=>if k<n then el k else el2 (k-n)) none),rb:=[id,q],jo:=[0<m,(n+m)*by_<=140737488355328] }else none
   |_=>none
  | .e (.v (.slice none 0 0)),some id=>match σ.bo id with
   |none=>if Nat.beq T2 e && !Nat.beq id q then
    some { r:=.own id,f:=.qY id q (.jA nl2 T2 T0 m sz len2 el2 none),rb:=[id,q],jo:=[0<m,m*by_<=140737488355328] }else none
   |_=>none
  |_,_=>none
 |_,_=>none
def Sa(T:List TI)(t:TypeId)(l c:PV):Option (Bx×List Prop):=match l,c with
 | .e (.v (.int _ l)),.e (.v (.int _ c))=>match mj T t with
  |some tt=>match tt.d with
   | .slice e=>match mj T e with
    |some te=>match xR te with
     |some z=>if Nat.beq te.i.size z.length&&Nat.ble 1 te.i.size then
      let jo:=[0<=l/\l<=c,(te.i.bytes:Int)*c<=281474976710656/\c<=9223372036854775807]
      match te.d with
      | .slice e0=>match mj T e0,z with
       |some t0,[.v (.slice none 0 0)]=>some (.jA true e e0 l.toNat t0.i.size (λ_=>0) (λ_ _ _=>.any) none,jo)
       |_,_=>none
      |_=>some (.row (z.all E.mO) e l.toNat te.i.size (λ_ j=>z.getD j .any),jo)
      else none
     |none=>none
    |none=>none
   |_=>none
  |none=>none
 |_,_=>none
def Im(T:List TI)(σ:PS)(d:Option Tmp)(t:TypeId)(l c:PV):Option kp:=match Sa T t l c with
 |some (b,jo)=>yV σ d b .own jo
 |none=>none
def Io(T:List TI)(t:TypeId)(x:PV)(lo hi:Option PV):Option kp:=match x with
 | .e (.sl nl n sz el)=>match mj T t with
  |some tt=>match tt.d with
   | .slice e=>match mj T e with
    |some te=>if Nat.beq te.i.size sz then match lo,hi with
     |none,some (.e (.v (.int _ h)))=>some { r:=.e (.sl nl h.toNat sz el),jo:=[0<=h/\h<=n] }
     |some (.e (.v (.int _ l))),none=>some { r:=.e (.sl nl (n-l.toNat) sz λi j=>el (l.toNat+i) j),jo:=[0<=l/\l<=n] }
     |some (.e (.v (.int _ l))),some (.e (.v (.int _ h)))=>some { r:=.e (.sl nl (h.toNat-l.toNat) sz λi j=>el (l.toNat+i) j),jo:=[0<=l/\l<=h/\h<=n] }
     |_,_=>none
     else none
    |none=>none
   |_=>none
  |none=>none
 | .e (.mY fl nl n sz el)=>match mj T t with
  |some tt=>match tt.d with
   | .slice e=>match mj T e with
    |some te=>if Nat.beq te.i.size sz then match lo,hi with
     |none,some (.e (.v (.int _ h)))=>some { r:=.e (.mY fl nl h.toNat sz el),jo:=[0<=h/\h<=n] }
     |some (.e (.v (.int _ l))),none=>some { r:=.e (.mY fl nl (n-l.toNat) sz λi j=>el (l.toNat+i) j),jo:=[0<=l/\l<=n] }
     |some (.e (.v (.int _ l))),some (.e (.v (.int _ h)))=>some { r:=.e (.mY fl nl (h.toNat-l.toNat) sz λi j=>el (l.toNat+i) j),jo:=[0<=l/\l<=h/\h<=n] }
     |_,_=>none
     else none
    |none=>none
   |_=>none
  |none=>none
 |_=>none
def Ik(T:List TI)(σ:PS)(t:TypeId)(x i:PV):Option kp:=match i with
 | .e (.v (.int _ z))=>match mj T t with
  |some tt=>match tt.d with
   | .slice e=>match mj T e with
    |some te=>match x with
     | .e (.sl _ n sz el)=>if Nat.beq te.i.size sz&&Nat.ble 1 sz then some { r:=.e (.iM sz (el z.toNat)),jo:=[0<=z/\z<n] }else none
     | .e (.mY _ _ n sz el)=>if Nat.beq te.i.size sz&&Nat.ble 1 sz then some { r:=.e (.iM sz (el z.toNat)),jo:=[0<=z/\z<n] }else none
     | .own id=>match σ.bo id with
      |some (.row _ _ n sz _)=>if Nat.beq te.i.size sz then some { r:=.mP id sz z.toNat 0,rb:=[id],jo:=[0<=z/\z<n] }else none
      |some (.jA _ _ _ n _ _ _ _)=>if Nat.beq te.i.size 1 then some { r:=.mP id 1 z.toNat 0,rb:=[id],jo:=[0<=z/\z<n] }else none
      |_=>none
     | .iC id k=>match σ.bo id with
      |some (.jA _ _ _ n sz len _ _)=>if Nat.beq te.i.size sz then some { r:=.qu id sz k z.toNat 0,rb:=[id],jo:=[k<n,0<=z/\z<len k] }else none
      |_=>none
     |_=>none
    |none=>none
   | .array n e=>match mj T e with
    |some te=>match x with
     | .box id off=>some { r:=.box id (off+z.toNat*te.i.size),jo:=[0<=z/\z<n] }
     | .e (.iM m el)=>if Nat.beq (n*te.i.size) m then some { r:=.e (.iM te.i.size λj=>el (z.toNat*te.i.size+j)),jo:=[0<=z/\z<n] }else none
     |_=>none
    |none=>none
   |_=>none
  |none=>none
 |_=>none
def Ip(T:List TI)(σ:PS)(t:TypeId)(a x:PV):Option kp:=match mj T t with
 |some ti=>match a,x with
  | .box id off,.e e=>match σ.bo id,e.cells? with
   |some (.cells T1 l),some m=>if Nat.beq m.length ti.i.size&&Nat.ble (off+m.length) l.length&&(!σ.nl||m.all E.mO)then
    some { r:=.e .any,f:=.vc id (.cells T1 (AM l off m)),rb:=[id] }else none
   |_,_=>none
  | .box id 0,.own q=>match σ.bo id,σ.bo q with
   |some (.cells T1 [_]),some (.row nl T0 n sz el)=>if !Nat.beq id q&&Nat.beq ti.i.size 1 then
    some { r:=.e .any,f:=.qY id q (.jA nl T1 T0 1 sz (λ_=>n) (λ_=>el) none),rb:=[id,q] }else none
   |_,_=>none
  | .mP id sz i j,.e e=>match σ.bo id,e.cells? with
   |some (.row nl T1 n s el),some m=>if Nat.beq m.length ti.i.size&&Nat.beq s sz&&Nat.ble (j+m.length) sz&&(!nl||m.all E.mO)&&m.all (E.nr 2)then
    some { r:=.e .any,f:=.vc id (.row nl T1 n s λi' j'=>if i'=i/\j<=j'/\j'<j+m.length then m.getD (j'-j) .any else el i' j'),rb:=[id],jo:=[i<n] }else none
   |_,_=>none
  | .mP id 1 i 0,.iC id' k=>match σ.bo id with
   |some (.jA nl T1 T0 n sz len el (some k'))=>if Nat.beq id id'&&Nat.beq ti.i.size 1 then
    some { r:=.e .any,f:=.vc id (.jA nl T1 T0 n sz len el none),rb:=[id],jo:=[i=k',k=k',k'<n] }else none
   |_=>none
  |_,_=>none
 |none=>none
def si:PV->PS->Option (Value×List Nat)
 | .e (.mY _ _ n _ _),_=>some (.int .i64 (n:Int),[])
 | .e (.sl _ n _ _),_=>some (.int .i64 (n:Int),[])
 | .e (.v (.slice _ n _)),_=>some (.int .i64 (n:Int),[])
 | .own id,σ=>match σ.bo id with
  |some (.row _ _ n _ _)=>some (.int .i64 (n:Int),[id])
  |some (.jA _ _ _ n _ _ _ _)=>some (.int .i64 (n:Int),[id])
  |_=>none
 | .iC id k,σ=>match σ.bo id with
  |some (.jA _ _ _ n _ len _ _)=>if Nat.blt k n then some (.int .i64 (len k:Int),[id])else none
  |_=>none
 |_,_=>none
def FO(ti:TI):Option (List E×List Nat×List Prop)->Option kp
 |some (l,is,jo)=>if ti.isAgg then some { r:=.e (.agg l),rb:=is,jo:=jo }else match l with
  | [e]=>some { r:=.e e,rb:=is,jo:=jo }
  |_=>none
 |none=>none
def Cx(σ:PS):PV->Option (Nat×Nat×Nat)
 | .mP id sz i j=>match σ.bo id with
  |some (.jA _ _ _ n _ _ _ none)=>if Nat.beq sz 1&&Nat.beq j 0 then some (id,i,n)else none
  |_=>none
 |_=>none
def Il(T:List TI)(σ:PS)(t:TypeId)(p:PV):Option kp:=match mj T t with
 |some ti=>match Cx σ p with
  |some (id,i,n)=>if ti.isAgg then none else some { r:=.iC id i,rb:=[id],jo:=[i<n] }
  |none=>FO ti (σ.read p ti.i.size)
 |none=>none
def Hd(O:pK):Option Tmp->Bool
 |some d=>(look O.nw d).isSome
 |none=>false
def Cj:List (Int×FuncId×List FuncId)->Int->Option E
 | [],_=>none
 |x::l,z=>if x.1=z then some (.fn x.2.1 (x.2.2.map λg=>.iM 1 λ_=>.fn g []))else Cj l z
def ad3(O:pK):Option Tmp->Option E
 |some d=>look O.cl d
 |none=>none
def jk(P:Program)(K:World->Prop)(T:List TI)(O:pK)(σ:PS)(o:Oper):Option kp:=match o.op with
 | .move x=>some { r:=σ.op x }
 | .assign x=>some { r:=σ.op x }
 | .pick c a b=>match σ.op c with
  | .e (.v (.bool true))=>some { r:=σ.op a }
  | .e (.v (.bool false))=>some { r:=σ.op b }
  |_=>none
 | .alloc t=>match mj T t with
  |some ti=>match xR ti with
   |some z=>AG σ o.dst (.cells t z) (.box · 0)
   |none=>none
  |none=>none
 | .box t x=>match σ.op x with
  | .e e=>match e.cells? with
   |some l=>AG σ o.dst (.cells t l) (.box · 0)
   |none=>none
  |_=>none
 | .build t ps=>match mj T t with
  |some ti=>match xR ti with
   |some z=>match ti.d with
    | .struct fs=>match Gg T fs.toList with
     |some pl=>(rW σ (λi=>pl[i]?) z ps.toList).map λl=>{ r:=.e (.agg l) }
     |none=>none
    | .array _ e=>match mj T e with
     |some te=>(rW σ (λi=>some (i*te.i.size,te.i.size)) z ps.toList).map λl=>{ r:=.e (.agg l) }
     |none=>none
    |_=>none
   |none=>none
  |none=>none
 | .buildSlice t n ps=>match AL σ ps.toList with|some q=>Bu T σ o.dst t n q|none=>match mj T t with
  |some tt=>match tt.d with
   | .slice e=>match mj T e with
    |some te=>match xR te with
     |some z=>if Nat.beq z.length te.i.size&&Nat.ble 1 te.i.size&&Nat.ble (n*te.i.size) 16777216 then
      (rW σ (λi=>some (i*te.i.size,te.i.size)) (kA n z) ps.toList).bind λl=>
       if !(l.all (E.nr 2))then none else if Hd O o.dst then yV σ o.dst (.row (l.all E.mO) e n te.i.size λi j=>l.getD (i*te.i.size+j) (.v (.bool false))) .own [True]
       else if l.all E.mO then some { r:=.e (.sl true n te.i.size λi j=>l.getD (i*te.i.size+j) (.v (.bool false))) }
       else some { r:=.e (.sl false n te.i.size λi j=>l.getD (i*te.i.size+j) (.v (.bool false))) }
      else none
     |none=>none
    |none=>none
   |_=>none
  |none=>none
 | .load t a=>Il T σ t (σ.op a)
 | .store t a x=>Ip T σ t (σ.op a) (σ.op x)
 | .nilCheck x=>match σ.op x with
  | .box id off=>some { r:=.box id off }
  | .e (.iM m el)=>some { r:=.e (.iM m el) }
  | .e (.fn f c)=>some { r:=.e (.fn f c) }
  | .oP f c=>some { r:=.oP f c }
  |_=>none
 | .binOp op t x y _=>match σ.op x,σ.op y with
  | .e (.v (.int k a)),.e (.v (.int k' b))=>
   match ad4 O o.dst with
   |some v=>some { r:=.e (.v v),jo:=[qk P op t (.v (.int k a)) (.v (.int k' b)) v] }
   |none=>if Xn op k k' then(Lw op k a b).map λr=>{ r:=.e (.v r.1),jo:=r.2 }else none
  | .e (.v (.bool a)),.e (.v (.bool b))=>match wu T t with
   |some .bool=>match op with
    | .eql=>some { r:=.e (.v (.bool (a==b))) }
    | .neq=>some { r:=.e (.v (.bool (!(a==b)))) }
    |_=>none
   |_=>none
  | .e (.sl _ n _ _),.e (.v (.slice none 0 0))=>match wu T t with
   |some (.slice _)=>match op with
    | .eql=>some { r:=.e (.v (.bool false)),jo:=[0<n] }
    | .neq=>some { r:=.e (.v (.bool true)),jo:=[0<n] }
    |_=>none
   |_=>none
  | .e a,.e b=>match ad5 O o.dst with
   |some v=>some { r:=.e (.v v),jo:=[qk P op t a b v] }
   |none=>none
  |_,_=>none
 | .unOp op _ x=>match op,σ.op x with
  | .not,.e (.v (.bool b))=>some { r:=.e (.v (.bool (!b))) }
  | .neg,.e (.v (.int k z))=>some { r:=.e (.v (.int k (0-z))),jo:=[kP k (0-z)] }
  |_,_=>none
 | .convert src dst x=>match wu T dst,mj T src,σ.op x with
  |some (.int k),some _,.e (.v (.int _ z))=>some { r:=.e (.v (.int k (k.wrap z))) }
  |_,_,_=>none
 | .makeFunc (.func f) first cap=>if first.isEmpty then match wq (cap.toList.map σ.op)with
  |some l=>some { r:=.oP f l }
  |none=>none
  else none
 | .makeSlice t l c=>Im T σ o.dst t (σ.op l) (σ.op c)
 | .slice t x lo hi none=>Io T t (σ.op x) (lo.map σ.op) (hi.map σ.op)
 | .fieldAddr t x f=>match wu T t with
  |some (.struct fs)=>match fs[f]? with
   |some fd=>match mj T fd.type with
    |some ft=>if Nat.beq ft.i.size 0 then none else match σ.op x with
     | .box id off=>some { r:=.box id (off+fd.offset) }
     | .mP id sz i j=>some { r:=.mP id sz i (j+fd.offset) }
     | .qu id sz k i j=>some { r:=.qu id sz k i (j+fd.offset) }
     | .e (.iM m el)=>if Nat.ble fd.offset m then some { r:=.e (.iM (m-fd.offset) λj=>el (fd.offset+j)) }else none
     |_=>none
    |none=>none
   |none=>none
  |_=>none
 | .indexAddr t x i=>Ik T σ t (σ.op x) (σ.op i)
 | .index t x i=>match σ.op x,σ.op i with
  | .e (.agg l),.e (.v (.int _ z))=>match mj T t with
   |some tt=>match tt.d with
    | .array n e=>match mj T e with
     |some te=>if te.isAgg&&Nat.beq (n*te.i.size) l.length then some { r:=.e (.agg ((l.drop (z.toNat*te.i.size)).take te.i.size)),jo:=[0<=z/\z<n] }else none
     |none=>none
    |_=>none
   |none=>none
  |_,_=>none
 | .field t x f=>match σ.op x,wu T t with
  | .e (.agg l),some (.struct fs)=>match fs[f]? with
   |some fd=>match mj T fd.type with
    |some ft=>if ft.isAgg then none else match l[fd.offset]? with
     |some e=>some { r:=.e e }
     |none=>none
    |none=>none
   |none=>none
  |_,_=>none
 | .lookup t x i false=>match σ.op x,σ.op i,wu T t with
  | .e (.mp l),.e (.v (.int .i64 z)),some (.map k _)=>match wu T k,ad3 O o.dst with
   |some (.int .i64),some e=>some { r:=.e e,jo:=[Cj l z=some e] }
   |_,_=>none
  |_,_,_=>none
 | .extract x i=>match σ.op x with
  | .e (.ie l)=>match l[i]? with
   |some e=>some { r:=.e e }
   |none=>none
  |_=>none
 | .call c=>match c.callee with
  | .builtin .len=>match c.args.toList,c.argTypes.toList with
   | [x],[t]=>match wu T t with
    |some (.slice _)=>(si (σ.op x) σ).map λr=>{ r:=.e (.v r.1),rb:=r.2 }
    |_=>none
   |_,_=>none
  | .builtin .append=>match c.args.toList,c.argTypes.toList with
   | [s,x],[t,t']=>if Nat.beq t t' then(match(σ.op x).DQ with|some q=>Bt T σ o.dst t (σ.op s) q|none=>if Hd O o.dst then Bs T σ o.dst t (σ.op s) (σ.op x)else zZ T σ o.dst t (σ.op s) (σ.op x))else none
   |_,_=>none
  | .builtin .max=>match c.args.toList.map σ.op with
   | [.e (.v (.int k a)),.e (.v (.int _ b))]=>some { r:=.e (.v (.int k (if b>a then b else a))) }
   | [.e (.v (.int k a)),.e (.v (.int _ b)),.e (.v (.int _ z))]=>some { r:=.e (.v (.int k (if z>(if b>a then b else a)then z else(if b>a then b else a)))) }
   |_=>none
  | .builtin .min=>match c.args.toList.map σ.op with
   | [.e (.v (.int k a)),.e (.v (.int _ b))]=>some { r:=.e (.v (.int k (if b<a then b else a))) }
   |_=>none
  | .value f=>match σ.op f,tD σ c.args.toList with
   | .e (.fn g cap),some (xs,is)=>z8 P K O σ o.dst g (xs++cap) is ((c.args.toList.map σ.op).any (PV.vO σ))
   | .oP g cap,some (xs,is)=>match uj σ cap with
    |some (ys,js)=>z8 P K O σ o.dst g (xs++ys) (is++js) ((c.args.toList.map σ.op).any (PV.vO σ)||cap.any CV.FF)
    |none=>none
   |_,_=>none
  |_=>none
 |_=>none
structure Lk where
 mf:Nat->Prop
 own:Nat->Nat->Prop
 val:Nat->Value
 iC:Nat->Nat->Value
def ju(L:Lk)(x:Nat):Prop:=∃ id,L.own id x
def iY(B:Nat->Prop)(L:Lk)(x:Nat):Prop:=B x\/ju L x
def wh(bs br:Nat->Prop)(L:Lk)(w:World):CV->Value->Prop
 | .e x,v=>ix bs br w x v
 | .box id,v=>L.mf id/\∃ b,L.val id = .pointer (some ⟨b,0,none⟩)/\v = .pointer (some ⟨b,0,none⟩)
 | .row id,v=>L.mf id/\∃ b n c,L.val id = .slice (some ⟨b,0,none⟩) n c/\v = .pointer (some ⟨b,0,none⟩)
def mS(bs br:Nat->Prop)(L:Lk)(w:World):PV->Value->Prop
 | .e x,v=>ix bs br w x v
 | .box id off,v=>L.mf id/\∃ b,L.val id = .pointer (some ⟨b,0,none⟩)/\v = .pointer (some ⟨b,off,none⟩)
 | .own id,v=>L.mf id/\v=L.val id
 | .mP id sz i j,v=>L.mf id/\∃ b n c,L.val id = .slice (some ⟨b,0,none⟩) n c/\v = .pointer (some ⟨b,i*sz+j,none⟩)
 | .iC id k,v=>L.mf id/\v=L.iC id k
 | .qu id sz k i j,v=>L.mf id/\∃ b n c,L.iC id k = .slice (some ⟨b,0,none⟩) n c/\v = .pointer (some ⟨b,i*sz+j,none⟩)
 | .oP f cap,v=>∃ vs:List Value,v = .func (.func f) #[] vs.toArray/\vs.length=cap.length/\∀ (i:Nat) (c:CV) (x:Value),cap[i]? = some c->vs[i]? = some x->wh bs br L w c x
def PV.le(p q:PV):Prop:=∀ (bs br:Nat->Prop) (L:Lk) (w:World) (v:Value),mS bs br L w p v->mS bs br L w q v
abbrev aj(a b:E):Prop:=PV.le (.e a) (.e b)
def ui(P:Program)(K:World->Prop)(T:List TI)(O:pK)(σ:PS)(o:Oper):Option kp:=match jk P K T O σ o with
 |some u=>match o.dst with
  |some d=>match look O.ov d with
   |some p=>some { u with r:=p,jo:=PV.le u.r p::u.jo }
   |none=>some u
  |none=>some u
 |none=>none
def zC(gS:Array Oper)(σ:PS)(o:Oper):Option Bool:=match o.guard with
 |none=>some true
 |some (j,want)=>match(gS[j]?).bind (·.dst)with
  |some t=>match σ.get t with
   | .e (.v (.bool true))=>some want
   | .e (.v (.bool false))=>some (!want)
   | .e (.v (.tuple _))=>some false
   |_=>none
  |none=>none
def PS.app(σ:PS)(d:Option Tmp)(u:kp):PS:=(σ.nE u.f).put d u.r
def vN(σ:PS):Option Tmp->Bool
 |some d=>Nat.blt d σ.n
 |none=>true
def Ga:Op->List Operand
 | .move x | .assign x | .box _ x | .load _ x | .nilCheck x | .unOp _ _ x | .convert _ _ x | .fieldAddr _ x _ | .field _ x _ | .extract x _=>[x]
 | .pick c a b=>[c,a,b]
 | .build _ ps | .buildSlice _ _ ps=>ps.toList.map (·.2)
 | .store _ a v | .binOp _ _ a v _ | .makeSlice _ a v | .indexAddr _ a v | .index _ a v | .lookup _ a v _=>[a,v]
 | .makeFunc _ first captured=>first.toList++captured.toList
 | .slice _ x l h m=>x::(l.toList++h.toList++m.toList)
 | .call c=>(match c.callee with | .value f=>[f] | .invoke r _=>[r] | .builtin _=>[])++c.args.toList
 |_=>[]
def D9:List Operand->List Tmp
 | []=>[]
 | .tmp t::l=>t::D9 l
 |_::l=>D9 l
def looks(gS:Array Oper)(o:Oper):List Tmp:=D9 (Ga o.op)++(match o.guard with
 |some (g,_)=>((gS[g]?).bind (·.dst)).toList
 |none=>[])
def rk(P:Program)(K:World->Prop)(T:List TI)(O:pK)(gS:Array Oper)(σ:PS)(o:Oper):Option kp:=
 if vN σ o.dst then match zC gS σ o with
  |some true=>match ui P K T O σ o with
   |some u=>some { u with rd:=(looks gS o).map σ.get }
   |none=>none
  |some false=>some { r:=.e (.v (.tuple #[])),rd:=(looks gS o).map σ.get }
  |none=>none
 else none
def Ml(l:List Nat)(n:Nat):Bool:=l.any (Nat.beq n)
def qj.id:qj->Option Nat
 | .none=>Option.none
 | .new i _ | .vc i _ | .qP i _ | .uw i _ | .fin i | .qY i _ _ | .AS i _=>some i
def qj.B9:qj->Bool
 | .qY ..=>true
 | .AS ..=>true
 |_=>false
def yT:qj->PV->Bool
 | .qP id _,.own i=>!Nat.beq i id
 | .qP id _,.mP i _ _ _=>!Nat.beq i id
 | .qP id _,.oP _ cap=>!cap.any (CV.FG id)
 | .uw id _,.iC i _=>!Nat.beq i id
 | .uw id _,.qu i _ _ _ _=>!Nat.beq i id
 | .fin id,p=>!p.lv.any (Nat.beq id)
 |_,_=>true
def DL(l:List Nat):Option Nat->Bool
 |some d=>!Ml l d
 |none=>true
def Kq:Option Nat->Option Nat->Bool
 |some a,some b=>!Nat.beq a b
 |_,_=>true
def NU:PV->Bool
 | .e .any=>false
 |_=>true
def B6(gS:Array Oper)(x y:Oper×kp):Bool:=
 DL (looks gS y.1) x.1.dst&&Kq x.1.dst y.1.dst&&DL (looks gS x.1) y.1.dst &&
 DL y.2.rb x.2.f.id&&DL x.2.rb y.2.f.id&&Kq x.2.f.id y.2.f.id&&yT x.2.f y.2.r&&yT y.2.f x.2.r &&
 (!x.2.f.Kx||y.2.rd.all NU)&&x.2.rd.all (yT y.2.f) && !x.2.f.B9 && !y.2.f.B9
def B8(o:Oper)(i:Nat):Bool:=o.after.toList.any λe=>Region.binds .any e&&Nat.beq e.on i
def AP(gS:Array Oper):Nat->Oper->Nat->Bool
 | 0,o,i=>B8 o i
 |n+1,o,i=>B8 o i||o.after.toList.any λe=>Region.binds .any e&&(match gS[e.on]? with
  |some z=>AP gS n z i
  |none=>false)
def DR(gS:Array Oper):Nat->List (Oper×kp)->Bool
 |_,[]=>true
 |i,x::l=>x.1.after.toList.all (λe=>!Region.binds .any e||Nat.blt e.on i)&&l.all (λy=>AP gS 3 y.1 i||B6 gS x y)&&DR gS (i+1) l
def GF(σ:PS):PV->Option E
 | .e x=>if x.nr 3 then some x else none
 | .own id=>match σ.bo id with
  |some (.row nl _ n sz el)=>some (.sl nl n sz el)
  |some (.jA nl _ _ n sz len el none)=>some (.sl true n 1 λk _=>.sl nl (len k) sz (el k))
  |_=>none
 | .iC id k=>match σ.bo id with
  |some (.jA nl _ _ n sz len el none)=>if Nat.blt k n then some (.sl nl (len k) sz (el k))else none
  |_=>none
 |_=>none
def OI(T:List TI)(σ:PS):ResultVar->Option E
 | .tmp t=>GF σ (σ.get t)
 | .cell a t=>match mj T t with
  |some ti=>match σ.read (σ.get a) ti.i.size with
   |some (l,_,[])=>if ti.isAgg then(if(E.agg l).nr 3 then some (.agg l)else none)else match l with
    | [e]=>if e.nr 3 then some e else none
    |_=>none
   |_=>none
  |none=>none
def DZ(T:List TI)(σ:PS):List ResultVar->Option (List E)
 | []=>some []
 |x::l=>match OI T σ x,DZ T σ l with
  |some e,some es=>some (e::es)
  |_,_=>none
def J0(T:List TI)(fn:Func)(σ:PS):Option E:=match DZ T σ fn.results.toList with
 |some [e]=>some e
 |some l=>some (.ie l)
 |none=>none
inductive Ex where
 |normal
 |exit (id:Nat)
 |ret
def EX:Code->Nat
 | .region id _ _=>id
 | .seq a _=>EX a
 | .cond _ a _=>EX a
 | .block _ b=>EX b
 | .loop b=>EX b
 |_=>0
def FE:Nat->List E->List (Nat×PV)
 |_,[]=>[]
 |i,x::l=>(i,.e x)::FE (i+1) l
def Aw(fn:Func)(nl:Bool)(args:List E):PS:={ n:=fn.ntmps,nl:=nl,t:=FE 0 args,b:=[] }
def kG{a b:Nat}:Nat.beq a b=true↔a=b:=⟨Nat.eq_of_beq_eq_true,λh=>by subst h;exact cg a⟩
def cI{a b:Nat}(h:a≠b):Nat.beq a b=false:=by
 cases hb:Nat.beq a b with
 |false=>rfl
 |true=>exact absurd (kG.1 hb) h
def tY{α:Type}(k:Nat)(x:α)(l:List (Nat×α))(t:Nat):look ((k,x)::l) t=if k=t then some x else look l t:=by
 by_cases h:k=t
 .subst h;simp[look]
 .simp [look,h,cI h]
def FQ{α:Type}(l:List (Nat×α))(d t:Nat)(h:d≠t):look (l.filter λx=>!Nat.beq x.1 d) t=look l t:=by
 induction l with
 |nil=>rfl
 |cons y l ih=>
  obtain⟨k,x⟩:=y;rw[List.filter_cons];by_cases hk:k=d
  .subst hk;simp only[cg,eR,bB,bj];rw[ih,tY,aY h]
  .simp only[cI hk,dW,bw];rw[tY,tY,ih]
def Vs{α:Type}(l:List (Nat×α))(f:α->α)(t:Nat):look (l.map λx=>(x.1,f x.2)) t=(look l t).map f:=by
 induction l with
 |nil=>rfl
 |cons y l ih=>
  obtain⟨k,x⟩:=y;rw[dX,tY,tY,ih];split<;>rfl
def PS.LW(σ:PS)(d:Nat)(p:PV)(t:Nat):(σ.put (some d) p).get t=if d=t then p else σ.get t:=by
 unfold PS.get PS.put;simp only[tY];by_cases h:d=t
 .rw [aZ h,aZ h];rfl
 .rw [aY h,aY h,FQ _ _ _ h]
def PS.aas(σ:PS)(d:Option Tmp)(p:PV)(id:Nat):(σ.put d p).bo id=σ.bo id:=by cases d<;>rfl
def PS.NK(σ:PS)(d:Option Tmp)(p:PV):(σ.put d p).n=σ.n:=by cases d<;>rfl
def PS.ahz(σ:PS)(d:Option Tmp)(p:PV):(σ.put d p).nl=σ.nl:=by cases d<;>rfl
def Cg(l:List (Nat×Bx))(id:Nat)(b:Bx)(t:Nat):look (tw l id b) t=if id=t then some b else look l t:=by
 unfold tw;rw[tY];by_cases h:id=t
 .rw [aZ h,aZ h]
 .rw [aY h,aY h,FQ _ _ _ h]
def Vr{α:Type}(l:List (Nat×α))(d:Nat):look (l.filter λx=>!Nat.beq x.1 d) d=none:=by
 induction l with
 |nil=>rfl
 |cons y l ih=>
  obtain⟨k,x⟩:=y;rw[List.filter_cons];by_cases hk:k=d
  .subst hk;simpa only[cg,eR,bB,bj]using ih
  .simp only[cI hk,dW,bw];rw[tY,aY hk,ih]
def Cf{α:Type}(l:List (Nat×α))(i id:Nat):look (l.filter λx=>!Nat.beq x.1 i) id=if i=id then none else look l id:=by
 by_cases h:i=id
 .subst h;rw[aZ rfl];exact Vr _ _
 .rw [aY h];exact FQ _ _ _ h
def PS.By(σ:PS)(f:qj)(t:Nat):(σ.nE f).get t=(σ.get t).mR f:=by
 unfold PS.get PS.nE;by_cases h:f.Kx=true
 .simp only[h,bw];rw[Vs];cases look σ.t t with
  |none=>cases f<;>rfl
  |some p=>rfl
 .have hv:∀ p:PV,p.mR f=p:=by
   intro p;cases f<;>first|exact absurd rfl h|(cases p<;>rfl)
  simp only[h,hv];rfl
def PG(bs br:Nat->Prop)(L:Lk)(w:World)(id:Nat)(nl:Bool)(T1 T0:TypeId)(n sz:Nat)(len:Nat->Nat)(el:Nat->Nat->Nat->E)(pend:Option Nat):Prop:=∃ (b c:Nat) (cur:Array Value) (f:Nat->Nat->Nat->Value),L.val id = .slice (some ⟨b,0,none⟩) n c/\w.heap[b]? = some (.cells cur T1 (0,0))/\n<=c/\c<=maxLen/\cur.size=c /\
 (∀ k,k<n->pend≠some k->cur[k]? = some (L.iC id k))/\(∀ u,u ∈ cur->qf u=false) /\
 (∀ k,k<n->ny w (L.iC id k) T0 (len k) sz (f k) nl/\∀ i j,i<len k->j<sz->ix bs br w (el k i j) (f k i j)/\(el k i j).nr 2=true) /\
 (∀ x,L.own id x↔x=b\/∃ k,k<n/\(L.iC id k).ownBlock=some x) /\
 (∀ k k' x,k<n->k'<n->(L.iC id k).ownBlock=some x->(L.iC id k').ownBlock=some x->k=k')/\(∀ k,k<n->(L.iC id k).ownBlock≠some b)
def qi(bs br:Nat->Prop)(L:Lk)(w:World)(id:Nat):Bx->Prop
 | .cells T l=>∃ b vs,L.val id = .pointer (some ⟨b,0,none⟩)/\(∀ x,L.own id x↔x=b)/\w.heap[b]? = some (.cells vs.toArray T (0,0))/\jX bs br w l vs/\∀ u,u ∈ vs->u.oneCell'=true
 | .row nl T n sz el=>∃ f:Nat->Nat->Value,ny w (L.val id) T n sz f nl/\(∀ x,L.own id x↔(L.val id).ownBlock=some x)/\∀ i j,i<n->j<sz->ix bs br w (el i j) (f i j)/\(el i j).nr 2=true
 | .jA nl T1 T0 n sz len el pend=>(L.val id = .slice none 0 0/\n=0/\∀ x,¬L.own id x)\/PG bs br L w id nl T1 T0 n sz len el pend
def qi.vZ{bs br:Nat->Prop}{L:Lk}{w:World}{id:Nat}{nl:Bool}{T1 T0 n sz:Nat}{len:Nat->Nat}{el:Nat->Nat->Nat->E}{pend:Option Nat}(h:qi bs br L w id (.jA nl T1 T0 n sz len el pend))(hn:0<n):
 PG bs br L w id nl T1 T0 n sz len el pend:=by
 rcases h with⟨_,h,_⟩|h
 .omega
 .exact h
structure iS(w0:World)(B:Nat->Prop)(σ:PS)(a:Act)(w:World)(L:Lk):Prop where
 hd:a.defers=[]
 hs:a.tmps.size=σ.n
 ht:∀ t,mS (iY B L) (ju L) L w (σ.get t) (a.tmps.getD t undef)
 hb:∀ id b,σ.bo id=some b->qi (iY B L) (ju L) L w id b
 hv:∀ id,L.mf id↔(σ.bo id).isSome=true
 hn:∀ id x,L.own id x->L.mf id
 hw:∀ id x,L.own id x->w0.heap.size<=x/\x<w.heap.size
 hi:∀ id id' x,L.own id x->L.own id' x->id=id'
 he:Below w0.heap.size w0 w
 hl:σ.nl=true->∀ id b,σ.bo id=some b->b.nl=true
structure rE(L:Lk)(w:World)(L':Lk)(w':World):Prop where
 size:w.heap.size<=w'.heap.size
 ju:∀ x,x<w.heap.size->Pu.ju L' x->Pu.ju L x
 oE:∀ x,x<w.heap.size->¬Pu.ju L x->w'.heap[x]? = w.heap[x]?
def rE.kA{B:Nat->Prop}{L L':Lk}{w w':World}(h:rE L w L' w'){e:E}{v:Value}(k:ix (iY B L) (Pu.ju L) w e v):ix (iY B L') (Pu.ju L') w' e v:=by
 refine k.mono h.size (λb hb hx=>?_) (λb hb hx=>h.ju b hb hx) (λb hb vI=>h.oE b hb ?_)
 .rcases hx with hx|hx
  .exact .inl hx
  .exact .inr (h.ju b hb hx)
 .rcases vI with vI|vI
  .exact λhm=>vI (.inr hm)
  .exact vI
def ny.block{w w':World}{v:Value}{T:TypeId}{n sz:Nat}{f:Nat->Nat->Value}{nl:Bool}(h:ny w v T n sz f nl)
 (hk:∀ x,v.ownBlock=some x->w'.heap[x]? = w.heap[x]?):ny w' v T n sz f nl:=by
 rcases h with h|⟨b,c,cur,rfl,hg,r⟩
 .exact .inl h
 .exact .inr ⟨b,c,cur,rfl,by rw[hk b rfl];exact hg,r⟩
def qi.later{B:Nat->Prop}{L L':Lk}{w w':World}(h:rE L w L' w'){id:Nat}{b:Bx}(k:qi (iY B L) (ju L) L w id b)
 (hv:L'.val id=L.val id) (ho:∀ x,L'.own id x↔L.own id x) (kY:∀ j,L'.iC id j=L.iC id j) (hk:∀ x,L.own id x->w'.heap[x]? = w.heap[x]?):qi (iY B L') (ju L') L' w' id b:=by
 cases b with
 |cells T l=>
  obtain⟨b,vs,h1,h2,h3,h4,h5⟩:=k;exact⟨b,vs,by rw[hv];exact h1,λx=>(ho x).trans (h2 x),by rw[hk b ((h2 b).2 rfl)];exact h3,h4.mono λ_ _=>h.kA,h5⟩
 |row nl T n sz el=>
  obtain⟨f,h1,h2,h3⟩:=k;exact⟨f,by rw[hv];exact h1.block λx hx=>hk x ((h2 x).2 hx),λx=>by rw[ho,hv];exact h2 x,λi j hi hj=>⟨h.kA (h3 i j hi hj).1,(h3 i j hi hj).2⟩⟩
 |jA nl T1 T0 n sz len el pend=>
  rcases k with⟨h1,h2,h3⟩|k
  .exact .inl ⟨by rw[hv];exact h1,h2,λx hx=>h3 x ((ho x).1 hx)⟩
  obtain⟨b,c,cur,f,h1,h2,h3,h4,h5,h6,h7,h8,h9,pM,rJ⟩:=k;have e:L'.iC id=L.iC id:=funext kY;refine .inr ⟨b,c,cur,f,by rw[hv];exact h1,by rw[hk b ((h9 b).2 (.inl rfl))];exact h2,h3,h4,h5,by rw[e];exact h6,h7,?_,?_,by rw[e];exact pM,by rw[e];exact rJ⟩
  .intro k IX;obtain⟨q1,q2⟩:=h8 k IX;rw[e];exact⟨q1.block λx hx=>hk x ((h9 x).2 (.inr ⟨k,IX,hx⟩)),λi j hi hj=>⟨h.kA (q2 i j hi hj).1,(q2 i j hi hj).2⟩⟩
  .intro x;rw[ho,e];exact h9 x
def wh.later{B:Nat->Prop}{L L':Lk}{w w':World}(h:rE L w L' w'){c:CV}{v:Value}(k:wh (iY B L) (ju L) L w c v)
 (hv:∀ id,L.mf id->L'.mf id/\L'.val id=L.val id):wh (iY B L') (ju L') L' w' c v:=by
 cases c with
 |e x=>exact h.kA k
 |box id=>obtain⟨k1,b,k2,k3⟩:=k;exact⟨(hv id k1).1,b,by rw[(hv id k1).2];exact k2,k3⟩
 |row id=>obtain⟨k1,b,n,c,k2,k3⟩:=k;exact⟨(hv id k1).1,b,n,c,by rw[(hv id k1).2];exact k2,k3⟩
def mS.later{B:Nat->Prop}{L L':Lk}{w w':World}(h:rE L w L' w'){p:PV}{v:Value}(k:mS (iY B L) (ju L) L w p v)
 (hv:∀ id,L.mf id->L'.mf id/\L'.val id=L.val id/\∀ j,L'.iC id j=L.iC id j):mS (iY B L') (ju L') L' w' p v:=by
 cases p with
 |e x=>exact h.kA k
 |box id off=>obtain⟨k1,b,k2,k3⟩:=k;exact⟨(hv id k1).1,b,by rw[(hv id k1).2.1];exact k2,k3⟩
 |own id=>obtain⟨k1,k2⟩:=k;exact⟨(hv id k1).1,by rw[(hv id k1).2.1];exact k2⟩
 |mP id sz i j=>obtain⟨k1,b,n,c,k2,k3⟩:=k;exact⟨(hv id k1).1,b,n,c,by rw[(hv id k1).2.1];exact k2,k3⟩
 |iC id q=>obtain⟨k1,k2⟩:=k;exact⟨(hv id k1).1,by rw[(hv id k1).2.2];exact k2⟩
 |qu id sz q i j=>obtain⟨k1,b,n,c,k2,k3⟩:=k;exact⟨(hv id k1).1,b,n,c,by rw[(hv id k1).2.2];exact k2,k3⟩
 |oP f cap=>
  obtain⟨vs,k1,k2,k3⟩:=k;exact⟨vs,k1,k2,λi c x hc hx=>(k3 i c x hc hx).later h λid hl=>⟨(hv id hl).1,(hv id hl).2.1⟩⟩
def iS.later{w0:World}{B:Nat->Prop}{σ:PS}{a:Act}{w w':World}{L:Lk}(r:iS w0 B σ a w L)(h:Below w.heap.size w w'):iS w0 B σ a w' L:=by
 have hl:rE L w L w':=⟨h.size,λ_ _ h=>h,λx hx _=>h.block x hx⟩
 refine⟨r.hd,r.hs,λt=>(r.ht t).later hl λid k=>⟨k,rfl,λ_=>rfl⟩,λid b hb=>(r.hb id b hb).later hl rfl (λ_=>Iff.rfl) (λ_=>rfl) λx hx=>h.block x (r.hw id x hx).2,r.hv,r.hn,
  λid x hx=>⟨(r.hw id x hx).1,bJ (r.hw id x hx).2 h.size⟩,r.hi,r.he.trans (h.mono r.he.size),r.hl⟩
def iS.drew{w0:World}{B:Nat->Prop}{σ:PS}{a:Act}{w:World}{L:Lk}(r:iS w0 B σ a w L):iS w0 B σ a w.drew L:=r.later (Below.refl _ _).drew
def iS.put{w0:World}{B:Nat->Prop}{σ:PS}{a:Act}{w:World}{L:Lk}(r:iS w0 B σ a w L)(d:Option Tmp)(p:PV)(v:Value)(hd:vN σ d=true)(hp:mS (iY B L) (ju L) L w p v):iS w0 B (σ.put d p) (a.put d v) w L:=by
 cases d with
 |none=>exact r
 |some d=>
  have Fa:d<σ.n:=by simpa[vN,fG]using hd
  refine⟨r.hd,by simp[Act.put,r.hs,PS.NK],λt=>?_,λid b hb=>r.hb id b hb,r.hv,r.hn,r.hw,r.hi,r.he,r.hl⟩;rw[PS.LW];by_cases h:d=t
  .subst h;rw[aZ rfl];have:(a.put (some d) v).tmps.getD d undef=v:=by
    simp[Act.put,Array.getElem?_setIfInBounds,r.hs,Fa]
   rw[this];exact hp
  .rw [aY h];have:(a.put (some d) v).tmps.getD t undef=a.tmps.getD t undef:=by
    simp[Act.put,amG h]
   rw[this];exact r.ht t
def iS.op{w0:World}{B:Nat->Prop}{σ:PS}{a:Act}{w:World}{L:Lk}(r:iS w0 B σ a w L)(x:Operand):mS (iY B L) (ju L) L w (σ.op x) (a.eval x):=by
 cases x with
 |tmp t=>exact r.ht t
 |const v=>exact .v v
 |global g=>exact .v _
 |func f=>exact .fn f [] [] rfl (λi p x h=>by simp at h)
def Lk.set(L:Lk)(id:Nat)(O:Nat->Prop)(v:Value)(iC:Nat->Value):Lk:=
 {mf:=λi=>i=id\/L.mf i
  own:=λi x=>if i=id then O x else L.own i x
  val:=λi=>if i=id then v else L.val i
  iC:=λi=>if i=id then iC else L.iC i }
section
variable {L:Lk} {id:Nat} {O:Nat->Prop} {v:Value} {iC:Nat->Value}
def Lk.sN(x:Nat):(L.set id O v iC).own id x↔O x:=by simp[Lk.set]
def Lk.ph:(L.set id O v iC).val id=v:=by simp[Lk.set]
def Lk.rP(k:Nat):(L.set id O v iC).iC id k=iC k:=by simp[Lk.set]
def Lk.AX:(L.set id O v iC).mf id:=.inl rfl
def Lk.AY{i:Nat}(h:i≠id)(x:Nat):(L.set id O v iC).own i x↔L.own i x:=by simp[Lk.set,h]
def Lk.zi{i:Nat}(h:i≠id):(L.set id O v iC).val i=L.val i:=by simp[Lk.set,h]
def Lk.D2{i:Nat}(h:i≠id)(k:Nat):(L.set id O v iC).iC i k=L.iC i k:=by simp[Lk.set,h]
end
structure rh(L:Lk)(w:World)(id:Nat)(O:Nat->Prop)(w':World):Prop where
 own:∀ x,O x->(L.own id x\/w.heap.size<=x)/\x<w'.heap.size
 size:w.heap.size<=w'.heap.size
 oE:∀ x,x<w.heap.size->¬L.own id x->w'.heap[x]? = w.heap[x]?
 os:w'.os=w.os
 tape:w'.tape=w.tape
 output:w'.output=w.output
def rh.later{L:Lk}{w:World}{id:Nat}{O:Nat->Prop}{w':World}(h:rh L w id O w')(v:Value)(iC:Nat->Value):rE L w (L.set id O v iC) w':=by
 refine⟨h.size,λx hx hm=>?_,λx hx hm=>h.oE x hx λho=>hm ⟨id,ho⟩⟩;obtain⟨i,hi⟩:=hm;by_cases e:i=id
 .subst e;rcases(h.own x ((Lk.sN x).1 hi)).1 with k|k
  .exact ⟨i,k⟩
  .omega
 .exact ⟨i,(Lk.AY e x).1 hi⟩
def iS.set{w0:World}{B:Nat->Prop}{σ:PS}{a:Act}{w:World}{L:Lk}(r:iS w0 B σ a w L)(id:Nat)(b':Bx)(O:Nat->Prop)(v:Value)(iC:Nat->Value)(w':World)(f:qj)
 (hf:f.K0 σ.b=tw σ.b id b') (ht:rh L w id O w')
 (hB:qi (iY B (L.set id O v iC)) (ju (L.set id O v iC)) (L.set id O v iC) w' id b')
 (hT:∀ p v0,mS (iY B L) (ju L) L w p v0->mS (iY B (L.set id O v iC)) (ju (L.set id O v iC)) (L.set id O v iC) w' (p.mR f) v0)
 (jx:σ.nl=true->b'.nl=true):iS w0 B (σ.nE f) a w' (L.set id O v iC):=by
 have hl:=ht.later v iC;have jd:∀ i,(σ.nE f).bo i=if id=i then some b' else σ.bo i:=by
  intro i;show look (f.K0 σ.b) i=_;rw[hf,Cg];rfl
 have Ai:Below w0.heap.size w w':=⟨ht.os,ht.tape,ht.output,ht.size,λx hx=>ht.oE x (bJ hx r.he.size) λho=>by have:=(r.hw id x ho).1;omega⟩
 refine⟨r.hd,r.hs,λt=>?_,λi b hb=>?_,λi=>?_,λi x hx=>?_,λi x hx=>?_,λi j x hi hj=>?_,r.he.trans Ai,λxD i b hb=>?_⟩
 .rw [PS.By];exact hT _ _ (r.ht t)
 .rw [jd]at hb;by_cases e:id=i
  .subst e;rw[aZ rfl]at hb;cases hb;exact hB
  .rw [aY e]at hb;have e':i≠id:=λh=>e h.symm
   exact(r.hb i b hb).later hl (Lk.zi e') (Lk.AY e') (Lk.D2 e') λx hx=>ht.oE x (r.hw i x hx).2 λho=>e (r.hi id i x ho hx)
 .rw [jd];by_cases e:id=i
  .subst e;rw[aZ rfl];simp[Lk.set]
  .rw [aY e];have e':i≠id:=λh=>e h.symm
   simp only[Lk.set,e',false_or];exact r.hv i
 .by_cases e:i=id
  .exact .inl e
  .exact .inr (r.hn i x ((Lk.AY e x).1 hx))
 .by_cases e:i=id
  .subst e;obtain⟨k1,k2⟩:=ht.own x ((Lk.sN x).1 hx);refine⟨?_,k2⟩;rcases k1 with k1|k1
   .exact (r.hw i x k1).1
   .exact bg r.he.size k1
  .have:=r.hw i x ((Lk.AY e x).1 hx);exact⟨this.1,bJ this.2 ht.size⟩
 .by_cases e1:i=id
  .by_cases e2:j=id
   .rw [e1,e2]
   .have k2:=(Lk.AY e2 x).1 hj;subst e1;rcases(ht.own x ((Lk.sN x).1 hi)).1 with k|k
    .exact r.hi _ _ x k k2
    .have:=(r.hw j x k2).2;omega
  .have k1:=(Lk.AY e1 x).1 hi;by_cases e2:j=id
   .subst e2;rcases(ht.own x ((Lk.sN x).1 hj)).1 with k|k
    .exact r.hi _ _ x k1 k
    .have:=(r.hw i x k1).2;omega
   .exact r.hi _ _ x k1 ((Lk.AY e2 x).1 hj)
 .rw [jd]at hb;by_cases e:id=i
  .rw [aZ e]at hb;cases hb;exact jx xD
  .rw [aY e]at hb;exact r.hl xD i b hb
def iS.new{w0:World}{B:Nat->Prop}{σ:PS}{a:Act}{w:World}{L:Lk}(r:iS w0 B σ a w L)(id:Nat)(b':Bx)(O:Nat->Prop)(v:Value)(iC:Nat->Value)(w':World)
 (kj:σ.bo id=none) (hO:∀ x,O x->w.heap.size<=x/\x<w'.heap.size) (hb:Below w.heap.size w w')
 (hB:qi (iY B (L.set id O v iC)) (ju (L.set id O v iC)) (L.set id O v iC) w' id b')
 (jx:(!σ.nl||b'.nl)=true):iS w0 B (σ.nE (.new id b')) a w' (L.set id O v iC):=by
 have TB:¬L.mf id:=λh=>by have:=(r.hv id).1 h;rw[kj]at this;simp at this
 have ht:rh L w id O w':=⟨λx hx=>⟨.inr (hO x hx).1,(hO x hx).2⟩,hb.size,λx hx _=>hb.block x hx,hb.os,hb.tape,hb.output⟩
 refine r.set id b' O v iC w' (.new id b') rfl ht hB (λp v0 hp=>?_) (λh=>by simpa[h]using jx);have jf:∀ {i},L.mf i->i≠id:=λh e=>TB (e▸h)
 have:p.mR (.new id b')=p:=by cases p<;>rfl
 rw[this];exact hp.later (ht.later v iC) λi hi=>⟨.inr hi,Lk.zi (jf hi),λj=>Lk.D2 (jf hi) j⟩
def iS.vc{w0:World}{B:Nat->Prop}{σ:PS}{a:Act}{w:World}{L:Lk}(r:iS w0 B σ a w L)(id:Nat)(b':Bx)(w':World)
 (rX:L.mf id) (ht:rh L w id (L.own id) w')
 (hB:qi (iY B (L.set id (L.own id) (L.val id) (L.iC id))) (ju (L.set id (L.own id) (L.val id) (L.iC id))) (L.set id (L.own id) (L.val id) (L.iC id)) w' id b')
 (jx:σ.nl=true->b'.nl=true):iS w0 B (σ.nE (.vc id b')) a w' (L.set id (L.own id) (L.val id) (L.iC id)):=by
 refine r.set id b' _ _ _ w' (.vc id b') rfl ht hB (λp v0 hp=>?_) jx;have:p.mR (.vc id b')=p:=by cases p<;>rfl
 rw[this];refine hp.later (ht.later _ _) λi hi=>⟨.inr hi,?_,λj=>?_⟩
 .by_cases e:i=id
  .subst e;exact Lk.ph
  .exact Lk.zi e
 .by_cases e:i=id
  .subst e;exact Lk.rP j
  .exact Lk.D2 e j
def iS.qP{w0:World}{B:Nat->Prop}{σ:PS}{a:Act}{w:World}{L:Lk}(r:iS w0 B σ a w L)(id:Nat)(b':Bx)(O:Nat->Prop)(v:Value)(w':World)
 (hp:∀ b,L.val id ≠ .pointer (some b)) (ht:rh L w id O w')
 (hB:qi (iY B (L.set id O v (L.iC id))) (ju (L.set id O v (L.iC id))) (L.set id O v (L.iC id)) w' id b')
 (jx:σ.nl=true->b'.nl=true):iS w0 B (σ.nE (.qP id b')) a w' (L.set id O v (L.iC id)):=by
 have hl:=ht.later v (L.iC id);refine r.set id b' O v (L.iC id) w' (.qP id b') rfl ht hB (λp v0 qb=>?_) jx;have Ao:∀ i j,(L.set id O v (L.iC id)).iC i j=L.iC i j:=λi j=>by
  by_cases e:i=id
  .subst e;exact Lk.rP j
  .exact Lk.D2 e j
 cases p with
 |e x=>exact hl.kA qb
 |box i off=>
  obtain⟨k1,b,k2,k3⟩:=qb;have e:i≠id:=λe=>by subst e;exact hp _ k2
  exact⟨.inr k1,b,by rw[Lk.zi e];exact k2,k3⟩
 |own i=>
  by_cases e:i=id
  .subst e;simp only[PV.mR,cg,bw];exact .any _
  .simp only[PV.mR,cI e,bB,bj];exact⟨.inr qb.1,by rw[Lk.zi e];exact qb.2⟩
 |mP i s x j=>
  by_cases e:i=id
  .subst e;simp only[PV.mR,cg,bw];exact .any _
  .simp only[PV.mR,cI e,bB,bj];obtain⟨k1,b,n,c,k2,k3⟩:=qb;exact⟨.inr k1,b,n,c,by rw[Lk.zi e];exact k2,k3⟩
 |iC i k=>exact⟨.inr qb.1,by rw[Ao];exact qb.2⟩
 |qu i s k x j=>obtain⟨k1,b,n,c,k2,k3⟩:=qb;exact⟨.inr k1,b,n,c,by rw[Ao];exact k2,k3⟩
 |oP f cap=>
  cases o0:cap.any (CV.FG id)with
  |true=>simp only[PV.mR,o0,bw];exact .any _
  |false=>
   simp only[PV.mR,o0,bB,bj];obtain⟨vs,k1,k2,k3⟩:=qb;refine⟨vs,k1,k2,λi c x hc hx=>?_⟩;have hk:=k3 i c x hc hx;cases c with
   |e y=>exact hl.kA hk
   |box q=>
    obtain⟨q1,b,q2,q3⟩:=hk;have e:q≠id:=λe=>by subst e;exact hp _ q2
    exact⟨.inr q1,b,by rw[Lk.zi e];exact q2,q3⟩
   |row q=>
    obtain⟨q1,b,n,c,q2,q3⟩:=hk;have e:q≠id:=λe=>by
     have:=cW.1 o0 (.row q) (dF hc);subst e;simp[CV.FG]at this
    exact⟨.inr q1,b,n,c,by rw[Lk.zi e];exact q2,q3⟩
def iS.uw{w0:World}{B:Nat->Prop}{σ:PS}{a:Act}{w:World}{L:Lk}(r:iS w0 B σ a w L)(id:Nat)(b':Bx)(O:Nat->Prop)(iC:Nat->Value)(w':World)
 (ht:rh L w id O w')
 (hB:qi (iY B (L.set id O (L.val id) iC)) (ju (L.set id O (L.val id) iC)) (L.set id O (L.val id) iC) w' id b')
 (jx:σ.nl=true->b'.nl=true):iS w0 B (σ.nE (.uw id b')) a w' (L.set id O (L.val id) iC):=by
 have hl:=ht.later (L.val id) iC;refine r.set id b' O (L.val id) iC w' (.uw id b') rfl ht hB (λp v0 qb=>?_) jx;have kF:∀ i,(L.set id O (L.val id) iC).val i=L.val i:=λi=>by
  by_cases e:i=id
  .subst e;exact Lk.ph
  .exact Lk.zi e
 cases p with
 |e x=>exact hl.kA qb
 |box i off=>obtain⟨k1,b,k2,k3⟩:=qb;exact⟨.inr k1,b,by rw[kF];exact k2,k3⟩
 |own i=>exact⟨.inr qb.1,by rw[kF];exact qb.2⟩
 |mP i s x j=>obtain⟨k1,b,n,c,k2,k3⟩:=qb;exact⟨.inr k1,b,n,c,by rw[kF];exact k2,k3⟩
 |iC i k=>
  by_cases e:i=id
  .subst e;simp only[PV.mR,cg,bw];exact .any _
  .simp only[PV.mR,cI e,bB,bj];exact⟨.inr qb.1,by rw[Lk.D2 e];exact qb.2⟩
 |qu i s k x j=>
  by_cases e:i=id
  .subst e;simp only[PV.mR,cg,bw];exact .any _
  .simp only[PV.mR,cI e,bB,bj];obtain⟨k1,b,n,c,k2,k3⟩:=qb;exact⟨.inr k1,b,n,c,by rw[Lk.D2 e];exact k2,k3⟩
 |oP f cap=>
  obtain⟨vs,k1,k2,k3⟩:=qb;refine⟨vs,k1,k2,λi c x hc hx=>(k3 i c x hc hx).later hl λj hj=>⟨.inr hj,kF j⟩⟩
structure KE(w:World)(v:Value)(T:TypeId)(n sz m:Nat)(f g:Nat->Nat->Value)(nl:Bool)(v':Value)(w':World):Prop where
 own:ny w' v' T (n+m) sz (λi j=>if i<n then f i j else g (i-n) j) nl
 Ev:∀ x,v'.ownBlock=some x->v.ownBlock=some x\/(w.heap.size<=x/\x<w'.heap.size)
 size:w.heap.size<=w'.heap.size
 oE:∀ x,x<w.heap.size->v.ownBlock≠some x->w'.heap[x]? = w.heap[x]?
 os:w'.os=w.os
 tape:w'.tape=w.tape
 output:w'.output=w.output
def og(n sz:Nat)(f:Nat->Nat->Value):List Value:=(List.range (n*sz)).map λq=>f (q/sz) (q%sz)
def vu(n sz:Nat)(f:Nat->Nat->Value):(og n sz f).length=n*sz:=by simp[og]
def LM{n sz:Nat}{f:Nat->Nat->Value}{i j:Nat}(hi:i<n)(hj:j<sz):(og n sz f)[i*sz+j]? = some (f i j):=by
 have h1:i*sz+j<n*sz:=by
  have:=bK sz (show i+1<=n from hi);rw[bS,bU]at this;omega
 have h2:(i*sz+j)/sz=i:=by rw[bD,amk aC,cO hj,bR]
 have h3:(i*sz+j)%sz=j:=by rw[bD,fH,bX hj]
 simp[og,h1,h2,h3]
def It{n sz:Nat}{f:Nat->Nat->Value}{q:Nat}{u:Value}(h:(og n sz f)[q]? = some u):q/sz<n/\q%sz<sz/\u=f (q/sz) (q%sz)/\q/sz*sz+q%sz=q:=by
 unfold og at h;rw[cr]at h;obtain⟨x,hx,rfl⟩:=cG.1 h;obtain⟨h1,h2⟩:=b5.1 hx;simp at h1 h2;subst h2;have hz:0<sz:=by
  rcases dY sz with h0|h0
  .subst h0;simp at h1
  .exact h0
 exact⟨(cv hz).2 h1,bF _ hz,rfl,by rw[bD];exact cB q sz⟩
def ny.row{w:World}{v:Value}{T:TypeId}{n sz:Nat}{f:Nat->Nat->Value}{nl:Bool}(h:ny w v T n sz f nl):w.ownsRow 0 T sz v n (og n sz f):=by
 rcases h with⟨rfl,rfl⟩|⟨b,c,cur,rfl,hg,oB,nG,mL,j8,_⟩
 .exact ⟨vu _ _ _,.inl ⟨rfl,rfl⟩⟩
 .refine ⟨vu _ _ _,.inr ⟨b,c,cur,rfl,bV _,hg,oB,nG,mL,?_⟩⟩;apply fI;intro q;by_cases hq:q<n*sz
  .have hz:0<sz:=by
    rcases dY sz with h0|h0
    .subst h0;simp at hq
    .exact h0
   have h1:q/sz<n:=(cv hz).2 hq;have h2:=bF q hz;have h3:q/sz*sz+q%sz=q:=by rw[bD];exact cB q sz
   have h4:=(j8 _ _ h1 h2).1;have h5:=LM (f:=f) h1 h2;rw[h3]at h4 h5;rw[dV,aZ hq,h5];simpa using h4
  .rw [dV,aY hq,b7 (by rw[vu];omega)]
def Xj(P:Program)(w:World)(t ty e:TypeId)(i:TypeInfo)(z:Value)(sz:Nat)(ht:P.underlying t=some (.slice e))(hi:P.info? e=some i)(hz:i.zero=some z)
 (s8:i.size=sz) (Uw:z.cells.size=sz) (mo:0<sz) (jg:1<=i.bytes) (amf:∀ u,u ∈ z.cells->u.oneCell'=true)
 (v:Value) (n:Nat) (f:Nat->Nat->Value) (nl:Bool) (lh:ny w v e n sz f nl)
 (A:Option Addr) (m c:Nat) (g:Nat->Nat->Value) (hA:∀ k j,k<m->j<sz->∃ b o,A=some ⟨b,o,none⟩/\w.cell? ⟨b,o+(k*sz+j),none⟩=some (g k j)) (ux:A=none->m=0)
 (h1:∀ k j,k<m->j<sz->(g k j).oneCell'=true/\(nl=true->qf (g k j)=false)) (Uv:nl=true->∀ u,u ∈ z.cells->qf u=false)
 (IL:(n+m)*i.bytes<=140737488355328):
 ∃ v' w',(Builtin.append_ #[t,t] ty #[v,.slice A m c]).run P w = .ok v' w'/\KE w v e n sz m f g nl v' w':=by
 have hle:n+m<=(n+m)*i.bytes:=fZ _ jg;have LZ:n+m<=maxLen:=by unfold maxLen;omega
 have xC:∀ i j,i<n+m->j<sz->(og n sz f++og m sz g)[i*sz+j]? = some (if i<n then f i j else g (i-n) j):=by
  intro i j hi hj;by_cases kY:i<n
  .rw [aZ kY,dw,LM kY hj];rw[vu];have:=bK sz (show i+1<=n from kY);rw[bS,bU]at this;omega
  .rw [aY kY,fJ,vu]
   .have:i*sz+j-n*sz=(i-n)*sz+j:=by
     have:=Nat.sub_mul i n sz;have:=bK sz (aC:n<=i);omega
    rw[this,LM aC hj]
   .rw [vu];have:=bK sz (aC:n<=i);omega
 have BO:∀ i j,i<n+m->j<sz->(if i<n then f i j else g (i-n) j).oneCell'=true:=by
  intro i j hi hj;split
  .rename_i kY;rcases lh with⟨_,h0⟩|⟨b,c,cur,_,_,_,_,_,hc,_⟩
   .omega
   .exact (hc i j kY hj).2
  .rename_i kY;exact(h1 (i-n) j aC hj).1
 have h1':∀ u ∈ og m sz g,u.oneCell'=true:=by
  intro u hu;obtain⟨q,hq⟩:=dp.1 hu;obtain⟨q1,q2,rfl,_⟩:=It hq;exact(h1 _ _ q1 q2).1
 have gnl:nl=true->∀ u,u ∈ og m sz g->qf u=false:=by
  intro hn u hu;obtain⟨q,hq⟩:=dp.1 hu;obtain⟨q1,q2,rfl,_⟩:=It hq;exact(h1 _ _ q1 q2).2 hn
 rcases A with _|ad
 .have hm:=ux rfl;subst hm;rcases lh with⟨rfl,rfl⟩|⟨b,cc,cur,rfl,hg,oB,nG,mL,j8,jx⟩
  .refine ⟨.slice none 0 0,w,?_,.inl ⟨rfl,rfl⟩,λx hx=>.inl hx,bc _,λ_ _ _=>rfl,rfl,rfl,rfl⟩;simp[Builtin.append_,run_underlying ht,sizeOf,typeInfo,hi,Builtin.lenOf,Builtin.firstCells,loadCells,loadCellsFrom]
  .refine ⟨.slice (some ⟨b,0,none⟩) n cc,w,?_,.inr ⟨b,cc,cur,rfl,hg,oB,nG,mL,?_,jx⟩,λx hx=>.inl hx,bc _,λ_ _ _=>rfl,rfl,rfl,rfl⟩
   .simp [Builtin.append_,run_underlying ht,sizeOf,typeInfo,hi,Builtin.lenOf,Builtin.firstCells,oB,storeCells]
   .intro i j hi hj;have kY:i<n:= aC ;simp only[kY,bw];exact j8 i j kY hj
 .have MJ:∀ j u,(og m sz g)[j]? = some u->w.cell? (ad.add j)=some u:=by
   intro q u hq;obtain⟨q1,q2,rfl,q4⟩:=It hq;obtain⟨b,o,e,hc⟩:=hA _ _ q1 q2;cases e;rw[q4]at hc;rw[show(⟨b,o,none⟩:Addr).add q=⟨b,o+q,none⟩from Addr.add_lit _ _ _];exact hc
  rcases lh with⟨rfl,rfl⟩|⟨b,cc,cur,rfl,hg,oB,nG,mL,j8,jx⟩
  .by_cases hm:m=0
   .subst hm;refine⟨.slice none 0 0,w,?_,.inl ⟨rfl,rfl⟩,λx hx=>.inl hx,bc _,λ_ _ _=>rfl,rfl,rfl,rfl⟩;simp[Builtin.append_,run_underlying ht,sizeOf,typeInfo,hi,Builtin.lenOf,Builtin.firstCells,loadCells,loadCellsFrom]
   .have hr:=run_append_nil (P:=P) w t ty e i z ht hi hz ad m c (og m sz g) (by rw[vu,s8]) MJ aC (by unfold maxLen at LZ;omega) (by have hb:=IL;simp only[bY]at hb;omega);have qS:=grownCap_ge w m 0 e;have nG:grownCap w m 0 e<=maxLen:=grownCap_le_maxLen w m 0 e aC;refine⟨_,_,hr,.inr ⟨w.heap.size,_,_,aH,heap_alloc_new w.drew _,aC,nG,?_,?_,?_⟩,λx hx=>.inr ?_,aH,λx hx _=>Below.heap_alloc w.drew _ x hx,rfl,rfl,rfl⟩
    .simp only[aml,fK,size_zeroCells,Uw,vu,<-bS];congr 1;omega
    .intro i j hi hj;have:=xC i j hi hj;refine⟨?_,BO i j hi hj⟩;simp only[og,cC,List.range_zero,List.map_nil,List.nil_append]at this;rw[<-this,amH]
     .simp [og]
     .obtain ⟨q,_⟩:=b5.1 this;simpa[og]using q
    .intro hn u hu;rcases eU.1 hu with hu|hu
     .exact gnl hn u (by simpa using hu)
     .simp only[Builtin.zeroCells,fL,fM]at hu;obtain⟨q,hq,rfl⟩:=hu;have im:q%z.cells.size<z.cells.size:=bF _ aC;rw[eV z.cells _ im];exact Uv hn _ (gh im)
    .simp [Value.ownBlock]at hx;subst hx;simp
  .by_cases MN:n+m<=cc
   .have Am:(og m sz g).length=m*i.size:=by rw[vu,s8]
    have qR:n*i.size+(og m sz g).length<=cur.size:=by rw[Am,mL,s8,<-bS];exact bK _ MN
    have hr:=run_append_room (P:=P) w t ty e i ht hi b n cc cur hg ad m c (og m sz g) Am MJ h1' MN qR;have Fx:cur.toList.take (n*i.size)=og n sz f:=by
     have MO:w.ownsRow 0 e sz (.slice (some ⟨b,0,none⟩) n cc) n (og n sz f):=ny.row (nl:=nl) (.inr ⟨b,cc,cur,rfl,hg,oB,nG,mL,j8,jx⟩);rcases MO.2 with⟨hh,_⟩|⟨b',c',cur',hh,_,TF,_,_,_,Jc⟩
     .cases hh
     .cases hh;rw[hg]at TF;cases TF;rw[s8];exact Jc
    refine⟨_,_,hr,.inr ⟨b,cc,_,rfl,setRow_heap w b cur _ e _ hg,MN,nG,?_,?_,?_⟩,λx hx=>.inl hx,aH,λx hx jf=>setRow_other w b x _ (λq=>jf (by simp[Value.ownBlock,q])),rfl,rfl,rfl⟩
    .simp only[fK,cA,b8,eB,dq];omega
    .intro k j hk hj;refine⟨?_,BO k j hk hj⟩;rw[Fx,<-xC k j hk hj];have hq:k*sz+j<(og n sz f++og m sz g).length:=by
      obtain⟨q,_⟩:=b5.1 (xC k j hk hj);exact q
     rw[gj,dw hq]
    .intro hn u hu;simp only[gl,dB]at hu;rcases hu with(hu|hu)|hu
     .exact jx hn u (by have:=eo hu;simpa using this)
     .exact gnl hn u hu
     .exact jx hn u (by have:=eK hu;simpa using this)
   .have MO:w.ownsRow 0 e sz (.slice (some ⟨b,0,none⟩) n cc) n (og n sz f):=ny.row (nl:=nl) (.inr ⟨b,cc,cur,rfl,hg,oB,nG,mL,j8,jx⟩);have holds:∀ j u,(og n sz f)[j]? = some u->w.cell? ((⟨b,0,none⟩:Addr).add j)=some u:=MO.cells (g:=b) rfl;have hr:=run_append_grow (P:=P) w t ty e i z ht hi hz ⟨b,0,none⟩ n cc (og n sz f) (by rw[vu,s8]) holds ad m c (og m sz g) (by rw[vu,s8]) MJ aC (by unfold maxLen at LZ;omega) (growslice_fits aC IL);have qS:=grownCap_ge w (n+m) cc e;have ae2:grownCap w (n+m) cc e<=maxLen:=grownCap_le_maxLen w (n+m) cc e LZ;refine⟨_,_,hr,.inr ⟨w.heap.size,_,_,aH,heap_alloc_new w.drew _,aC,ae2,?_,?_,?_⟩,λx hx=>.inr ?_,aH,λx hx _=>Below.heap_alloc w.drew _ x hx,rfl,rfl,rfl⟩
    .simp only[aml,fK,size_zeroCells,Uw,vu,<-bS];congr 1;omega
    .intro k j hk hj;refine⟨?_,BO k j hk hj⟩;rw[<-xC k j hk hj];have hq:k*sz+j<(og n sz f++og m sz g).length:=by
      obtain⟨q,_⟩:=b5.1 (xC k j hk hj);exact q
     rw[amH (by simpa using hq)];simp
    .intro hn u hu;rcases eU.1 hu with hu|hu
     .rcases eU.1 hu with hu|hu
      .obtain ⟨q,hq⟩:=dp.1 (show u ∈ og n sz f by simpa using hu);obtain⟨q1,q2,rfl,_⟩:=It hq;exact jx hn _ (dH (j8 _ _ q1 q2).1)
      .exact gnl hn u (by simpa using hu)
     .simp only[Builtin.zeroCells,fL,fM]at hu;obtain⟨q,hq,rfl⟩:=hu;have im:q%z.cells.size<z.cells.size:=bF _ aC;rw[eV z.cells _ im];exact Uv hn _ (gh im)
    .simp [Value.ownBlock]at hx;subst hx;simp
def mS.move{B:Nat->Prop}{L L':Lk}{w w':World}(h:rE L w L' w'){p:PV}{v:Value}(k:mS (iY B L) (ju L) L w p v)
 (hv:∀ id,id ∈ p.lv->L.mf id->L'.mf id/\L'.val id=L.val id/\∀ j,L'.iC id j=L.iC id j):mS (iY B L') (ju L') L' w' p v:=by
 cases p with
 |e x=>exact h.kA k
 |box id off=>obtain⟨k1,b,k2,k3⟩:=k;have q:=hv id (by simp[PV.lv]) k1;exact⟨q.1,b,by rw[q.2.1];exact k2,k3⟩
 |own id=>obtain⟨k1,k2⟩:=k;have q:=hv id (by simp[PV.lv]) k1;exact⟨q.1,by rw[q.2.1];exact k2⟩
 |mP id sz i j=>obtain⟨k1,b,n,c,k2,k3⟩:=k;have q:=hv id (by simp[PV.lv]) k1;exact⟨q.1,b,n,c,by rw[q.2.1];exact k2,k3⟩
 |iC id r=>obtain⟨k1,k2⟩:=k;have q:=hv id (by simp[PV.lv]) k1;exact⟨q.1,by rw[q.2.2];exact k2⟩
 |qu id sz r i j=>obtain⟨k1,b,n,c,k2,k3⟩:=k;have q:=hv id (by simp[PV.lv]) k1;exact⟨q.1,b,n,c,by rw[q.2.2];exact k2,k3⟩
 |oP f cap=>
  obtain⟨vs,k1,k2,k3⟩:=k;refine⟨vs,k1,k2,λi c x hc hx=>?_⟩;have q:=k3 i c x hc hx;cases c with
  |e y=>exact h.kA q
  |box id=>
   obtain⟨q1,b,q2,q3⟩:=q;have r:=hv id (by simp only[PV.lv,dG];exact⟨.box id,dF hc,by simp[CV.lv]⟩) q1;exact⟨r.1,b,by rw[r.2.1];exact q2,q3⟩
  |row id=>
   obtain⟨q1,b,n,c,q2,q3⟩:=q;have r:=hv id (by simp only[PV.lv,dG];exact⟨.row id,dF hc,by simp[CV.lv]⟩) q1;exact⟨r.1,b,n,c,by rw[r.2.1];exact q2,q3⟩
def alg{id:Nat}{b:Bx}{p:PV}(h:p.lv.any (Nat.beq id)=false):p.mR (.qP id b)=p:=by
 cases p with
 |own i=>
  have:Nat.beq i id=false:=by
   simp only[PV.lv,dZ,fN,eW]at h;exact cI λe=>by rw[e,cg]at h;cases h
  simp[PV.mR,this]
 |mP i s x j=>
  have:Nat.beq i id=false:=by
   simp only[PV.lv,dZ,fN,eW]at h;exact cI λe=>by rw[e,cg]at h;cases h
  simp[PV.mR,this]
 |oP f cap=>
  have:cap.any (CV.FG id)=false:=by
   rw[cW];intro c hc hr;cases c with
   |row i=>
    have hi:i=id:=kG.1 hr;have:=cW.1 h i (by simp only[PV.lv,dG];exact⟨.row i,hc,by simp[CV.lv]⟩);rw[hi,cg]at this;exact this rfl
   |_=>cases hr
  simp[PV.mR,this]
 |_=>rfl
def iS.fin{w0:World}{B:Nat->Prop}{σ:PS}{a:Act}{w:World}{L:Lk}{id:Nat}{nl:Bool}{T n sz:Nat}{el:Nat->Nat->E}(hB:∀ b,B b->b<w0.heap.size)
 (r:iS w0 B (σ.nE (.qP id (.row nl T n sz el))) a w L):∃ L',iS w0 B (σ.nE (.fin id)) a w L'/\ix (iY B L') (ju L') w (.sl nl n sz el) (L.val id):=by
 let L':Lk:=⟨λi=>L.mf i/\i≠id,λi x=>L.own i x/\i≠id,L.val,L.iC⟩
 have im:rE L w L' w:=⟨bc _,λx _ ⟨i,h,_⟩=>⟨i,h⟩,λ_ _ _=>rfl⟩
 have su:∀ i,(σ.nE (.fin id)).bo i=if i=id then none else(σ.nE (.qP id (.row nl T n sz el))).bo i:=by
  intro i;show look (σ.b.filter λx=>!Nat.beq x.1 id) i=if i=id then none else look (tw σ.b id (.row nl T n sz el)) i
  rw[Cf,Cg];by_cases h:i=id
  .subst h;simp
  .rw [aY h,aY (λe=>h e.symm),aY (λe=>h e.symm)]
 have aeZ:(σ.nE (.qP id (.row nl T n sz el))).bo id=some (.row nl T n sz el):=by
  show look (tw σ.b id (.row nl T n sz el)) id=_;rw[Cg,aZ rfl]
 have Ag:∀ x,L.own id x->¬iY B L' x:=by
  rintro x hx (h|⟨i,h1,h2⟩)
  .have:=hB x h;have:=(r.hw id x hx).1;omega
  .exact h2 (r.hi i id x h1 hx)
 have hold:ix (iY B L') (ju L') w (.sl nl n sz el) (L.val id):=by
  obtain⟨f,h1,h2,h3⟩:=r.hb id _ aeZ;rcases h1 with⟨h0,rfl⟩|⟨b,c,cur,h0,hg,oB,nG,mL,j8,jx⟩
  .rw [h0];exact .sl nl 0 sz el none 0 f (bc _) aE (λ_=>rfl) (λi j hi=>absurd hi (bk i)) (λi j hi=>absurd hi (bk i)) (λi j hi=>absurd hi (bk i)) (λi j hi=>absurd hi (bk i))
  .have sy:=(h2 b).2 (by rw[h0];rfl);rw[h0];refine .sl nl n sz el _ c f oB (by unfold maxLen at nG;omega) (λh=>by cases h) (λi j hi hj=>⟨(j8 i j hi hj).2,λhn=>jx hn _ (dH (j8 i j hi hj).1)⟩) (λi j hi hj=>(h3 i j hi hj).2)
    (λi j hi hj=>⟨b,0,rfl,Ag b sy,(r.hw id b sy).2,?_⟩) (λi j hi hj=>im.kA (h3 i j hi hj).1)
   rw[bY];simp only[World.cell?,hg];simpa using(j8 i j hi hj).1
 refine⟨L',⟨r.hd,r.hs,λt=>?_,λi b' h=>?_,λi=>?_,λi x h=>⟨r.hn i x h.1,h.2⟩,λi x h=>r.hw i x h.1,λi i' x h k=>r.hi i i' x h.1 k.1,r.he,λh i b' k=>?_⟩,hold⟩
 .have k:=r.ht t;rw[PS.By]at k ⊢;generalize σ.get t=p at k ⊢;show mS _ _ _ _ (if p.lv.any (Nat.beq id)then .e .any else p) _;cases hp:p.lv.any (Nat.beq id)with
  |true=>exact .any _
  |false=>
   rw[alg hp]at k;refine mS.move im k λi hi rX=>⟨⟨rX,?_⟩,rfl,λ_=>rfl⟩
   rintro rfl;have:=cW.1 hp i hi;simp at this
 .rw [su]at h;split at h
  .cases h
  .rename_i hi;exact(r.hb i b' h).later im rfl (λx=>⟨λq=>q.1,λq=>⟨q,hi⟩⟩) (λ_=>rfl) λ_ _=>rfl
 .rw [su];show L.mf i/\i≠id↔_;by_cases hi:i=id
  .subst hi;simp
  .simp only[hi,cS,ef,eX,bj];exact r.hv i
 .rw [su]at k;split at k
  .cases k
  .exact r.hl h i b' k
def YK{id q:Nat}{b:Bx}{p:PV}(h:p.lv.any (λx=>Nat.beq id x||Nat.beq q x)=false):p.mR (.qY id q b)=p:=by
 cases p with
 |box i off=>
  simp only[PV.lv,dZ,fN,eW,eC]at h;have h1:Nat.beq i id=false:=cI λe=>by rw[e,cg]at h;cases h.1
  have h2:Nat.beq i q=false:=cI λe=>by rw[e,cg]at h;cases h.2
  simp[PV.mR,h1,h2]
 |e x=>simp[PV.mR,PV.lv]
 |own i=>show(if(PV.lv (.own i)).any _=true then _ else _)=_;rw[h];rfl
 |mP i a b c=>show(if(PV.lv (.mP i a b c)).any _=true then _ else _)=_;rw[h];rfl
 |iC i k=>show(if(PV.lv (.iC i k)).any _=true then _ else _)=_;rw[h];rfl
 |qu i s k x j=>show(if(PV.lv (.qu i s k x j)).any _=true then _ else _)=_;rw[h];rfl
 |oP f cap=>show(if(PV.lv (.oP f cap)).any _=true then _ else _)=_;rw[h];rfl
def YJ{id q:Nat}{b:Bx}{p:PV}(h:p.lv.any (λx=>Nat.beq id x||Nat.beq q x)=true)(hb:∀ i off,p ≠ .box i off):p.mR (.qY id q b) = .e .any:=by
 cases p with
 |box i off=>exact absurd rfl (hb i off)
 |e x=>simp[PV.lv]at h
 |own i=>show(if(PV.lv (.own i)).any _=true then _ else _)=_;rw[h];rfl
 |mP i a b c=>show(if(PV.lv (.mP i a b c)).any _=true then _ else _)=_;rw[h];rfl
 |iC i k=>show(if(PV.lv (.iC i k)).any _=true then _ else _)=_;rw[h];rfl
 |qu i s k x j=>show(if(PV.lv (.qu i s k x j)).any _=true then _ else _)=_;rw[h];rfl
 |oP f cap=>show(if(PV.lv (.oP f cap)).any _=true then _ else _)=_;rw[h];rfl
def iS.qY{w0:World}{B:Nat->Prop}{σ:PS}{a:Act}{w:World}{L:Lk}(r:iS w0 B σ a w L){id q T1 T0 n sz:Nat}{nl:Bool}{el:Nat->Nat->E}{x:E}
 (hid:σ.bo id=some (.cells T1 [x])) (hq:σ.bo q=some (.row nl T0 n sz el)) (jf:id≠q) {b:Nat} (hv:L.val id = .pointer (some ⟨b,0,none⟩)) {w':World} (hw:w'.heap[b]? = some (.cells #[L.val q] T1 (0,0)))
 (ht:rh L w id (L.own id) w'):∃ L',iS w0 B (σ.nE (.qY id q (.jA nl T1 T0 1 sz (λ_=>n) (λ_=>el) none))) a w' L':=by
 let L':Lk:=⟨λi=>L.mf i/\i≠q,λi y=>if i=id then L.own id y\/L.own q y else L.own i y/\i≠q,λi=>if i=id then .slice (some ⟨b,0,none⟩) 1 1 else L.val i,λi j=>if i=id then L.val q else L.iC i j⟩
 have afc:∀ y,ju L' y->ju L y:=by
  rintro y ⟨i,hi⟩;by_cases e:i=id
  .have hi:L.own id y\/L.own q y:=by simpa[L',e]using hi
   rcases hi with h|h
   .exact ⟨id,h⟩
   .exact ⟨q,h⟩
  .have hi:L.own i y/\i≠q:=by simpa[L',e]using hi
   exact⟨i,hi.1⟩
 have al4:∀ y,ju L y->ju L' y:=by
  rintro y ⟨i,hi⟩;by_cases e:i=id\/i=q
  .refine ⟨id,?_⟩;show if id=id then L.own id y\/L.own q y else _
   rw[aZ rfl];rcases e with e|e<;>subst e
   .exact .inl hi
   .exact .inr hi
  .have e1:i≠id:=λh=>e (.inl h)
   have e2:i≠q:=λh=>e (.inr h)
   refine⟨i,?_⟩;show if i=id then _ else L.own i y/\i≠q
   rw[aY e1];exact⟨hi,e2⟩
 have im:rE L w L' w':=⟨ht.size,λy _ h=>afc y h,λy hy hm=>ht.oE y hy λho=>hm ⟨id,ho⟩⟩
 have kF:∀ i,i≠id->L'.val i=L.val i:=λi e=>by show(if i=id then _ else _)=_;rw[aY e]
 have Ao:∀ i,i≠id->∀ j,L'.iC i j=L.iC i j:=λi e j=>by show(if i=id then _ else _)=_;rw[aY e]
 have lh:∀ i,i≠id->∀ y,L'.own i y↔L.own i y/\i≠q:=λi e y=>by show(if i=id then _ else _)↔_;rw[aY e]
 have yH:∀ y,L'.own id y↔L.own id y\/L.own q y:=λy=>by show(if id=id then _ else _)↔_;rw[aZ rfl]
 obtain⟨b0,vs,i1,i2,i3,i4,i5⟩:=r.hb id _ hid;rw[hv]at i1;cases i1;obtain⟨f,q1,q2,q3⟩:=r.hb q _ hq;have rX:L.mf id:=(r.hv id).2 (by rw[hid];rfl);have I8:∀ i y,i≠id->L.own i y->w'.heap[y]? = w.heap[y]?:=λi y e hy=>ht.oE y (r.hw i y hy).2 λho=>e (r.hi i id y hy ho)
 have jd:∀ i,(σ.nE (.qY id q (.jA nl T1 T0 1 sz (λ_=>n) (λ_=>el) none))).bo i=if id=i then some (.jA nl T1 T0 1 sz (λ_=>n) (λ_=>el) none)else if i=q then none else σ.bo i:=by
  intro i;show look (tw (σ.b.filter λy=>!Nat.beq y.1 q) id _) i=_;rw[Cg];by_cases e:id=i
  .rw [aZ e,aZ e]
  .rw [aY e,aY e,Cf];by_cases e2:q=i
   .rw [aZ e2,aZ e2.symm]
   .rw [aY e2,aY λh=>e2 h.symm];rfl
 have Ai:Below w0.heap.size w w':=⟨ht.os,ht.tape,ht.output,ht.size,λy hy=>ht.oE y (bJ hy r.he.size) λho=>by have:=(r.hw id y ho).1;omega⟩
 have j8:(L.val q).oneCell'=true/\qf (L.val q)=false:=by
  rcases q1 with⟨h,_⟩|⟨b1,c1,cur,h,_⟩<;>rw[h]<;>exact⟨rfl,rfl⟩
 refine⟨L',r.hd,r.hs,λt=>?_,λi b' hb=>?_,λi=>?_,λi y hy=>?_,λi y hy=>?_,λi j y hi hj=>?_,r.he.trans Ai,λxD i b' hb=>?_⟩
 .rw [PS.By];have k:=r.ht t;generalize σ.get t=p at k ⊢;cases hp:p.lv.any (λy=>Nat.beq id y||Nat.beq q y)with
  |false=>
   rw[YK hp];refine k.move im λi hi hl=>?_
   have:=cW.1 hp i hi;simp only[dx,not_or]at this;have e1:i≠id:=λe=>this.1 (by rw[e];exact cg _)
   have e2:i≠q:=λe=>this.2 (by rw[e];exact cg _)
   exact⟨⟨hl,e2⟩,kF i e1,Ao i e1⟩
  |true=>
   by_cases iU:∃ i off,p = .box i off
   .obtain ⟨i,off,rfl⟩:=iU;obtain⟨k1,b1,k2,k3⟩:=k;by_cases e1:i=id
    .subst e1;by_cases e0:off=0
     .subst e0;simp only[PV.mR,cg,bw];rw[hv]at k2;cases k2;exact⟨⟨k1,jf⟩,b,1,1,by show(if i=i then _ else _)=_;rw[aZ rfl],k3⟩
     .simp only[PV.mR,cg,bw,cI e0,bB,bj];exact .any _
    .have e2:i=q:=by
      simp only[PV.lv,dZ,fN,eW,dx]at hp;rcases hp with hp|hp
      .exact absurd (kG.1 hp).symm e1
      .exact (kG.1 hp).symm
     simp only[PV.mR,cI e1,bB,bj,e2,cg,bw];have e3:Nat.beq q id=false:=cI λh=>jf h.symm
     simp only[e3,bB,bj];exact .any _
   .rw [YJ hp λi off h=>iU ⟨i,off,h⟩];exact .any _
 .rw [jd]at hb;by_cases e:id=i
  .subst e;rw[aZ rfl]at hb;cases hb;have Fg:∀ j,L'.iC id j=L.val q:=λj=>by show(if id=id then _ else _)=_;rw[aZ rfl]
   refine .inr ⟨b,1,#[L.val q],λ_=>f,by show(if id=id then _ else _)=_;rw[aZ rfl],hw,bc _,aE,rfl,λk hk _=>?_,λu hu=>?_,λk hk=>?_,λy=>?_,λk k' y hk Fi _ _=> aC,λk hk=>?_⟩
   .obtain rfl:k=0:= aC ;rw[Fg];rfl
   .have:u=L.val q:=by simpa using hu
    rw[this];exact j8.2
   .rw [Fg];exact⟨q1.block λy hy=>I8 q y (λh=>jf h.symm) ((q2 y).2 hy),λi j hi hj=>⟨im.kA (q3 i j hi hj).1,(q3 i j hi hj).2⟩⟩
   .rw [yH];constructor
    .rintro (h|h)
     .exact .inl ((i2 y).1 h)
     .exact .inr ⟨0,aE,by rw[Fg];exact(q2 y).1 h⟩
    .rintro (h|⟨k,_,h⟩)
     .exact .inl ((i2 y).2 h)
     .rw [Fg]at h;exact .inr ((q2 y).2 h)
   .rw [Fg];intro h;exact jf (r.hi id q b ((i2 b).2 rfl) ((q2 b).2 h))
  .rw [aY e]at hb;by_cases e2:i=q
   .rw [aZ e2]at hb;cases hb
   .rw [aY e2]at hb;have e':i≠id:=λh=>e h.symm
    exact(r.hb i b' hb).later im (kF i e') (λy=>(lh i e' y).trans ⟨λh=>h.1,λh=>⟨h,e2⟩⟩) (Ao i e') λy hy=>I8 i y e' hy
 .rw [jd];show L.mf i/\i≠q↔_;by_cases e:id=i
  .subst e;rw[aZ rfl];exact⟨λ_=>rfl,λ_=>⟨rX,jf⟩⟩
  .rw [aY e];by_cases e2:i=q
   .subst e2;simp
   .rw [aY e2];exact⟨λh=>(r.hv i).1 h.1,λh=>⟨(r.hv i).2 h,e2⟩⟩
 .by_cases e:i=id
  .subst e;exact⟨rX,jf⟩
  .have:=(lh i e y).1 hy;exact⟨r.hn i y this.1,this.2⟩
 .by_cases e:i=id
  .subst e;rcases(yH y).1 hy with h|h
   .exact ⟨(r.hw _ y h).1,bJ (r.hw _ y h).2 ht.size⟩
   .exact ⟨(r.hw _ y h).1,bJ (r.hw _ y h).2 ht.size⟩
  .have h:=((lh i e y).1 hy).1;exact⟨(r.hw _ y h).1,bJ (r.hw _ y h).2 ht.size⟩
 .by_cases e1:i=id
  .by_cases e2:j=id
   .rw [e1,e2]
   .exfalso;subst e1;have h2:=(lh j e2 y).1 hj;rcases(yH y).1 hi with h|h
    .exact e2 (r.hi j _ y h2.1 h)
    .exact h2.2 (r.hi j q y h2.1 h)
  .by_cases e2:j=id
   .exfalso;subst e2;have h1:=(lh i e1 y).1 hi;rcases(yH y).1 hj with h|h
    .exact e1 (r.hi i _ y h1.1 h)
    .exact h1.2 (r.hi i q y h1.1 h)
   .exact r.hi i j y ((lh i e1 y).1 hi).1 ((lh j e2 y).1 hj).1
 .rw [jd]at hb;by_cases e:id=i
  .rw [aZ e]at hb;cases hb;show nl=true;exact r.hl xD q (.row nl T0 n sz el) hq
  .rw [aY e]at hb;by_cases e2:i=q
   .rw [aZ e2]at hb;cases hb
   .rw [aY e2]at hb;exact r.hl xD i b' hb
def Lk.qv(L:Lk)(id q:Nat)(O:Nat->Prop)(v:Value)(iC:Nat->Value):Lk:=
 {mf:=λi=>(i=id\/L.mf i)/\i≠q
  own:=λi x=>if i=id then O x else L.own i x/\i≠q
  val:=λi=>if i=id then v else L.val i
  iC:=λi j=>if i=id then iC j else L.iC i j }
def iS.qv{w0:World}{B:Nat->Prop}{σ:PS}{a:Act}{w:World}{L:Lk}(r:iS w0 B σ a w L){id q:Nat}(jf:id≠q)(b':Bx)(O:Nat->Prop)(v:Value)(iC:Nat->Value)(w':World)
 (hO:∀ x,O x->(L.own id x\/L.own q x\/w.heap.size<=x)/\x<w'.heap.size) (mo:w.heap.size<=w'.heap.size) (wH:∀ x,x<w.heap.size->¬L.own id x->w'.heap[x]? = w.heap[x]?)
 (BP:w'.os=w.os) (MS:w'.tape=w.tape) (pr:w'.output=w.output)
 (hB:rE L w (L.qv id q O v iC) w'->qi (iY B (L.qv id q O v iC)) (ju (L.qv id q O v iC)) (L.qv id q O v iC) w' id b')
 (kj:L.mf id->∀ b,L.val id ≠ .pointer (some b)) (jx:σ.nl=true->b'.nl=true):iS w0 B (σ.nE (.qY id q b')) a w' (L.qv id q O v iC):=by
 have kF:∀ i,i≠id->(L.qv id q O v iC).val i=L.val i:=λi e=>by show(if i=id then _ else _)=_;rw[aY e]
 have Ao:∀ i,i≠id->∀ j,(L.qv id q O v iC).iC i j=L.iC i j:=λi e j=>by show(if i=id then _ else _)=_;rw[aY e]
 have lh:∀ i,i≠id->∀ y,(L.qv id q O v iC).own i y↔L.own i y/\i≠q:=λi e y=>by show(if i=id then _ else _)↔_;rw[aY e]
 have yH:∀ y,(L.qv id q O v iC).own id y↔O y:=λy=>by show(if id=id then _ else _)↔_;rw[aZ rfl]
 have im:rE L w (L.qv id q O v iC) w':=by
  refine⟨mo,λy hy h=>?_,λy hy hm=>wH y hy λho=>hm ⟨id,ho⟩⟩;obtain⟨i,hi⟩:=h;by_cases e:i=id
  .subst e;rcases(hO y ((yH y).1 hi)).1 with h|h|h
   .exact ⟨i,h⟩
   .exact ⟨q,h⟩
   .omega
  .exact ⟨i,((lh i e y).1 hi).1⟩
 have jd:∀ i,(σ.nE (.qY id q b')).bo i=if id=i then some b' else if i=q then none else σ.bo i:=by
  intro i;show look (tw (σ.b.filter λy=>!Nat.beq y.1 q) id _) i=_;rw[Cg];by_cases e:id=i
  .rw [aZ e,aZ e]
  .rw [aY e,aY e,Cf];by_cases e2:q=i
   .rw [aZ e2,aZ e2.symm]
   .rw [aY e2,aY λh=>e2 h.symm];rfl
 have Ai:Below w0.heap.size w w':=⟨BP,MS,pr,mo,λy hy=>wH y (bJ hy r.he.size) λho=>by have:=(r.hw id y ho).1;omega⟩
 have I8:∀ i y,i≠id->L.own i y->w'.heap[y]? = w.heap[y]?:=λi y e hy=>wH y (r.hw i y hy).2 λho=>e (r.hi i id y hy ho)
 have hwl:∀ i y,L.own i y->w0.heap.size<=y/\y<w'.heap.size:=λi y h=>⟨(r.hw i y h).1,bJ (r.hw i y h).2 mo⟩
 refine⟨r.hd,r.hs,λt=>?_,λi b hb=>?_,λi=>?_,λi y hy=>?_,λi y hy=>?_,λi j y hi hj=>?_,r.he.trans Ai,λxD i b hb=>?_⟩
 .rw [PS.By];have k:=r.ht t;generalize σ.get t=p at k ⊢;cases hp:p.lv.any (λy=>Nat.beq id y||Nat.beq q y)with
  |false=>
   rw[YK hp];refine k.move im λi hi hl=>?_
   have:=cW.1 hp i hi;simp only[dx,not_or]at this;have e1:i≠id:=λe=>this.1 (by rw[e];exact cg _)
   have e2:i≠q:=λe=>this.2 (by rw[e];exact cg _)
   exact⟨⟨.inr hl,e2⟩,kF i e1,Ao i e1⟩
  |true=>
   by_cases iU:∃ i off,p = .box i off
   .obtain ⟨i,off,rfl⟩:=iU;obtain⟨k1,b1,k2,k3⟩:=k;by_cases e1:i=id
    .subst e1;exact absurd k2 (kj k1 _)
    .have e2:i=q:=by
      simp only[PV.lv,dZ,fN,eW,dx]at hp;rcases hp with hp|hp
      .exact absurd (kG.1 hp).symm e1
      .exact (kG.1 hp).symm
     have e3:Nat.beq q id=false:=cI λh=>jf h.symm
     simp only[PV.mR,e2,e3,cg,bw,bB,bj];exact .any _
   .rw [YJ hp λi off h=>iU ⟨i,off,h⟩];exact .any _
 .rw [jd]at hb;by_cases e:id=i
  .subst e;rw[aZ rfl]at hb;cases hb;exact hB im
  .rw [aY e]at hb;by_cases e2:i=q
   .rw [aZ e2]at hb;cases hb
   .rw [aY e2]at hb;have e':i≠id:=λh=>e h.symm
    exact(r.hb i b hb).later im (kF i e') (λy=>(lh i e' y).trans ⟨λh=>h.1,λh=>⟨h,e2⟩⟩) (Ao i e') λy hy=>I8 i y e' hy
 .rw [jd];show(i=id\/L.mf i)/\i≠q↔_;by_cases e:id=i
  .subst e;rw[aZ rfl];exact⟨λ_=>rfl,λ_=>⟨.inl rfl,jf⟩⟩
  .rw [aY e];have e':i≠id:=λh=>e h.symm
   by_cases e2:i=q
   .subst e2;simp
   .rw [aY e2];exact⟨λh=>(r.hv i).1 (h.1.resolve_left e'),λh=>⟨.inr ((r.hv i).2 h),e2⟩⟩
 .by_cases e:i=id
  .subst e;exact⟨.inl rfl,jf⟩
  .have:=(lh i e y).1 hy;exact⟨.inr (r.hn i y this.1),this.2⟩
 .by_cases e:i=id
  .subst e;obtain⟨h,h2⟩:=hO y ((yH y).1 hy);rcases h with h|h|h
   .exact ⟨(r.hw _ y h).1,h2⟩
   .exact ⟨(r.hw _ y h).1,h2⟩
   .exact ⟨bg r.he.size h,h2⟩
  .exact hwl i y ((lh i e y).1 hy).1
 .have cross:∀ j,j≠id->L.own j y/\j≠q->O y->False:=by
   intro j e h2 h;rcases(hO y h).1 with h|h|h
   .exact e (r.hi j _ y h2.1 h)
   .exact h2.2 (r.hi j q y h2.1 h)
   .have:=(r.hw j y h2.1).2;omega
  by_cases e1:i=id
  .by_cases e2:j=id
   .rw [e1,e2]
   .subst e1;exact(cross j e2 ((lh j e2 y).1 hj) ((yH y).1 hi)).elim
  .by_cases e2:j=id
   .subst e2;exact(cross i e1 ((lh i e1 y).1 hi) ((yH y).1 hj)).elim
   .exact r.hi i j y ((lh i e1 y).1 hi).1 ((lh j e2 y).1 hj).1
 .rw [jd]at hb;by_cases e:id=i
  .rw [aZ e]at hb;cases hb;exact jx xD
  .rw [aY e]at hb;by_cases e2:i=q
   .rw [aZ e2]at hb;cases hb
   .rw [aY e2]at hb;exact r.hl xD i b hb
def Lk.U7{L:Lk}{id q:Nat}{O:Nat->Prop}{v:Value}{iC:Nat->Value}(x:Nat):(L.qv id q O v iC).own id x↔O x:=by simp[Lk.qv]
def Lk.FJ{L:Lk}{id q:Nat}{O:Nat->Prop}{v:Value}{iC:Nat->Value}:(L.qv id q O v iC).val id=v:=by simp[Lk.qv]
def Lk.xF{L:Lk}{id q:Nat}{O:Nat->Prop}{v:Value}{iC:Nat->Value}(k:Nat):(L.qv id q O v iC).iC id k=iC k:=by simp[Lk.qv]
def Lk.Nj{L:Lk}{id q:Nat}(jf:id≠q){O:Nat->Prop}{v:Value}{iC:Nat->Value}:(L.qv id q O v iC).mf id:=⟨.inl rfl,jf⟩
def iS.RL{w0:World}{B:Nat->Prop}{σ:PS}{a:Act}{w:World}{L:Lk}(r:iS w0 B σ a w L)(id:Nat):∃ L',iS w0 B (σ.nE (.fin id)) a w L'/\(∀ i x,L'.own i x->L.own i x)/\(σ.nE (.fin id)).bo id=none:=by
 let L':Lk:=⟨λi=>L.mf i/\i≠id,λi x=>L.own i x/\i≠id,L.val,L.iC⟩
 have im:rE L w L' w:=⟨bc _,λx _ ⟨i,h,_⟩=>⟨i,h⟩,λ_ _ _=>rfl⟩
 have su:∀ i,(σ.nE (.fin id)).bo i=if i=id then none else σ.bo i:=by
  intro i;show look (σ.b.filter λx=>!Nat.beq x.1 id) i=_;rw[Cf];by_cases h:i=id
  .rw [aZ h,aZ h.symm]
  .rw [aY h,aY (λe=>h e.symm)];rfl
 refine⟨L',⟨r.hd,r.hs,λt=>?_,λi b' h=>?_,λi=>?_,λi x h=>⟨r.hn i x h.1,h.2⟩,λi x h=>r.hw i x h.1,λi i' x h k=>r.hi i i' x h.1 k.1,r.he,λh i b' k=>?_⟩,λi x h=>h.1,by rw[su,aZ rfl]⟩
 .rw [PS.By];have k:=r.ht t;generalize σ.get t=p at k ⊢;show mS _ _ _ _ (if p.lv.any (Nat.beq id)then .e .any else p) _;cases hp:p.lv.any (Nat.beq id)with
  |true=>exact .any _
  |false=>
   refine mS.move im k λi hi rX=>⟨⟨rX,?_⟩,rfl,λ_=>rfl⟩
   rintro rfl;have:=cW.1 hp i hi;simp at this
 .rw [su]at h;split at h
  .cases h
  .rename_i hi;exact(r.hb i b' h).later im rfl (λx=>⟨λq=>q.1,λq=>⟨q,hi⟩⟩) (λ_=>rfl) λ_ _=>rfl
 .rw [su];show L.mf i/\i≠id↔_;by_cases hi:i=id
  .subst hi;simp
  .simp only[hi,cS,ef,eX,bj];exact r.hv i
 .rw [su]at k;split at k
  .cases k
  .exact r.hl h i b' k
def RV(σ:PS)(id:Nat)(b:Bx):(σ.nE (.fin id)).nE (.new id b)=σ.nE (.AS id b):=by
 have h:tw (σ.b.filter λx=>!Nat.beq x.1 id) id b=tw σ.b id b:=by
  unfold tw;rw[List.filter_filter];congr 2;funext x;cases Nat.beq x.1 id<;>rfl
 show PS.mk σ.n σ.nl (σ.t.map _) (tw (σ.b.filter λx=>!Nat.beq x.1 id) id b)=PS.mk σ.n σ.nl (σ.t.map _) (tw σ.b id b);rw[h];rfl
def YE{T:List TI}{t:TypeId}{x:TI}(h:mj T t=some x):x ∈ T/\x.id=t:=by
 induction T with
 |nil=>cases h
 |cons y l ih=>
  unfold mj at h;split at h
  .rename_i hb;cases h;exact⟨aH,kG.1 hb⟩
  .obtain ⟨h1,h2⟩:=ih h;exact⟨by simp[h1],h2⟩
def lY.qG{P:Program}{T:List TI}(hT:lY P T){t:TypeId}{x:TI}(h:mj T t=some x):P.underlying t=some x.d:=by
 obtain⟨h1,h2⟩:=YE h;rw[<-h2];exact(hT x h1).1
def lY.yO{P:Program}{T:List TI}(hT:lY P T){t:TypeId}{x:TI}(h:mj T t=some x):P.info? t=some x.i:=by
 obtain⟨h1,h2⟩:=YE h;rw[<-h2];exact(hT x h1).2
def zU{T:List TI}{t:TypeId}{d:TypeDesc}(h:wu T t=some d):∃ x,mj T t=some x/\x.d=d:=by
 unfold wu at h;split at h
 .rename_i x hx;exact⟨x,hx,by simpa using h⟩
 .cases h
section
variable {P:Program} {T:List TI} (hT:lY P T) (w:World)
include hT
def tu{t:TypeId}{x:TI}(h:mj T t=some x):(sizeOf t).run P w = .ok x.i.size w:=by
 simp[sizeOf,typeInfo,hT.yO h]
def OU{t:TypeId}{x:TI}(h:mj T t=some x){z:Value}(hz:x.i.zero=some z):(zeroValue t).run P w = .ok z w:=by
 simp[zeroValue,typeInfo,hT.yO h,hz]
def J5{t:TypeId}{x:TI}(h:mj T t=some x):(isAgg t).run P w = .ok x.isAgg w:=by
 unfold isAgg TI.isAgg;rw[Sem.run_bind,run_underlying (hT.qG h) w];cases x.d<;>simp
def Xk{t:TypeId}{x:TI}(h:mj T t=some x)(ha:x.isAgg=true)(b o:Nat)(vs:List Value)(hl:vs.length=x.i.size)
 (hc:∀ (j:Nat) (u:Value),vs[j]? = some u->w.cell? ⟨b,o+j,none⟩=some u):(loadVar t ⟨b,o,none⟩).run P w = .ok (.agg vs.toArray) w:=by
 have hr:=run_loadCells_list (P:=P) w ⟨b,o,none⟩ vs (λj v hv=>by rw[Addr.add_lit];exact hc j v hv);rw[hl]at hr;simp[loadVar,J5 hT w h,ha,tu hT w h,hr]
def OT{t:TypeId}{x:TI}(h:mj T t=some x)(ha:x.isAgg=false)(b o:Nat)(u:Value)(hc:w.cell? ⟨b,o,none⟩=some u):(loadVar t ⟨b,o,none⟩).run P w = .ok u w:=by
 simp[loadVar,J5 hT w h,ha,hc]
def J6{t:TypeId}{x:TI}(h:mj T t=some x)(b o:Nat)(E:TypeId)(cur:Array Value)(hg:w.heap[b]? = some (.cells cur E (0,0)))(v:Value)(hl:v.cells.toList.length=x.i.size)
 (qR:o+v.cells.toList.length<=cur.size) (h1:∀ u ∈ v.cells.toList,u.oneCell'=true):
 (storeVar t ⟨b,o,none⟩ v).run P w = .ok () (w.setRow b (cur.toList.take o++v.cells.toList++cur.toList.drop (o+v.cells.toList.length)).toArray):=by
 have hr:=run_storeCells_at P b o E v.cells.toList 0 cur w hg (by simpa using qR) h1;simp only[bR]at hr;have pZ:v.cells.size=x.i.size:=by simpa using hl
 simp only[storeVar,Sem.run_bind,tu hT w h,Result.andThen,pZ,cS,amm,bj,hr,Sem.run_ite,Sem.run_pure]
end
def rh.setRow{L:Lk}{w:World}{id b:Nat}(hb:L.own id b)(im:∀ x,L.own id x->x<w.heap.size)(cs:Array Value):rh L w id (L.own id) (w.setRow b cs):=
 ⟨λx hx=>⟨.inl hx,by simpa using im x hx⟩,aH,λx _ jf=>setRow_other w b x cs (λe=>jf (e▸hb)),rfl,rfl,rfl⟩
def jM(P:Program)(K:World->Prop)(w0:World)(B:Nat->Prop)(σ:PS)(o:Oper)(a:Act)(w:World)(u:kp):Prop:=
 ∃ v w' L',((execOp a.eval o).run P w = .ok (.value v) w'\/((execOp a.eval o).run P w = .ok .skip w'/\v=undef))/\iS w0 B (σ.nE u.f) a w' L'/\mS (iY B L') (ju L') L' w' u.r v
section
variable {P:Program} {K:World->Prop} {w0:World} {B:Nat->Prop} {σ:PS} {o:Oper} {a:Act} {w:World} {L:Lk} {u:kp}
def jM.pure(r:iS w0 B σ a w L){v:Value}(ky:(execOp a.eval o).run P w = .ok (.value v) w)(hf:u.f = .none)(hp:mS (iY B L) (ju L) L w u.r v):jM P K w0 B σ o a w u:=
 ⟨v,w,L,.inl ky,by rw[hf];exact r,hp⟩
def iS.read(r:iS w0 B σ a w L){p:PV}{v:Value}(hp:mS (iY B L) (ju L) L w p v){m:Nat}{l:List E}{is:List Nat}{jo:List Prop}(h:σ.read p m=some (l,is,jo))(ho:∀ q,q ∈ jo->q):
 ∃ b q vs,v = .pointer (some ⟨b,q,none⟩)/\jX (iY B L) (ju L) w l vs/\vs.length=m/\∀ (j:Nat) (u:Value),vs[j]? = some u->w.cell? ⟨b,q+j,none⟩=some u:=by
 have tab:∀ (b q:Nat) (g:Nat->E) (f:Nat->Value),(∀ j,j<m->w.cell? ⟨b,q+j,none⟩=some (f j)/\ix (iY B L) (ju L) w (g j) (f j)) ->
  ∃ vs:List Value,jX (iY B L) (ju L) w ((List.range m).map g) vs/\vs.length=m/\∀ (j:Nat) (u:Value),vs[j]? = some u->w.cell? ⟨b,q+j,none⟩=some u:=by
  intro b q g f hc;refine⟨(List.range m).map f,⟨aH,λi p x hp hx=>?_⟩,aH,λj u hu=>?_⟩
  .rw [cr]at hp hx;obtain⟨i1,yB,rfl⟩:=cG.1 hp;obtain⟨i2,Dd,rfl⟩:=cG.1 hx;rw[yB]at Dd;cases Dd;obtain⟨im,rfl⟩:=b5.1 yB;simp at im;simpa using(hc i im).2
  .rw [cr]at hu;obtain⟨i1,yB,rfl⟩:=cG.1 hu;obtain⟨im,rfl⟩:=b5.1 yB;simp at im;simpa using(hc j im).1
 cases p with
 |box id off=>
  simp only[PS.read]at h;split at h
  .rename_i T l0 jd;split at h
   .rename_i hle;simp only[bu,bL]at h;obtain⟨rfl,rfl,rfl⟩:=h;obtain⟨b,vs,h1,h2,h3,h4,h5⟩:=r.hb id _ jd;obtain⟨_,b',k2,rfl⟩:=hp;rw[h1]at k2;cases k2;have TU:=cE hle;refine⟨b,off,(vs.drop off).take m,rfl,(h4.drop off).take m,by simp[h4.len];omega,λj u hu=>?_⟩;rw[dV]at hu;split at hu
    .rw [ez]at hu;simp only[World.cell?,h3];simpa using hu
    .cases hu
   .cases h
  .cases h
 |mP id sz i j=>
  simp only[PS.read]at h;split at h
  .rename_i nl T n s el jd;split at h
   .rename_i hle;simp only[bu,bL]at h;obtain⟨rfl,rfl,rfl⟩:=h;simp only[bE]at hle;have e1:=kG.1 hle.1;have e2:=cE hle.2;subst e1;have hi:i<n:=ho _ aH;obtain⟨f,h1,h2,h3⟩:=r.hb id _ jd;obtain⟨_,b,n',c',k2,rfl⟩:=hp;rcases h1 with⟨h1,_⟩|⟨b',c,cur,h1,hg,oB,nG,mL,j8,jx⟩
    .rw [k2]at h1;cases h1
    .rw [k2]at h1;cases h1;obtain⟨vs,q1,q2,q3⟩:=tab b (i*s+j) (λq=>el i (j+q)) (λq=>f i (j+q)) (λq hq=>⟨by
      simp only[World.cell?,hg];have:=(j8 i (j+q) hi aC).1;rw[<-cQ]at this;simpa using this,(h3 i (j+q) hi aC).1⟩)
     exact⟨b,i*s+j,vs,rfl,q1,q2,q3⟩
   .cases h
  .cases h
 |qu id sz k i j=>
  simp only[PS.read]at h;split at h
  .rename_i nl T1 T0 n s len el pend jd;split at h
   .rename_i hle;simp only[bu,bL]at h;obtain⟨rfl,rfl,rfl⟩:=h;simp only[bE]at hle;have e1:=kG.1 hle.1;have e2:=cE hle.2;subst e1;have hk:k<n:=ho _ aH;have hi:i<len k:=ho _ aH;obtain⟨b0,c0,cur0,f,g1,g2,g3,g4,g5,g6,g7,g8,_⟩:=(r.hb id _ jd).vZ aC;obtain⟨h1,h3⟩:=g8 k hk;obtain⟨_,b,n',c',k2,rfl⟩:=hp;rcases h1 with⟨h1,_⟩|⟨b',c,cur,h1,hg,oB,nG,mL,j8,jx⟩
    .rw [k2]at h1;cases h1
    .rw [k2]at h1;cases h1;obtain⟨vs,q1,q2,q3⟩:=tab b (i*s+j) (λq=>el k i (j+q)) (λq=>f k i (j+q)) (λq hq=>⟨by
      simp only[World.cell?,hg];have:=(j8 i (j+q) hi aC).1;rw[<-cQ]at this;simpa using this,(h3 i (j+q) hi aC).1⟩)
     exact⟨b,i*s+j,vs,rfl,q1,q2,q3⟩
   .cases h
  .cases h
 |e x=>
  cases x with
  |iM k el=>
   simp only[PS.read]at h;split at h
   .rename_i hle;simp only[bu,bL]at h;obtain⟨rfl,rfl,rfl⟩:=h;have TU:=cE hle;cases hp with
    |iM _ _ b q f hb im hl cell kk=>
     obtain⟨vs,q1,q2,q3⟩:=tab b q el f (λj hj=>⟨cell j aC,kk j aC⟩);exact⟨b,q,vs,rfl,q1,q2,q3⟩
   .cases h
  |_=>cases h
 |_=>cases h
def Ee{ti:TI}{l:List E}(h:xR ti=some l):∃ z,ti.i.zero=some z/\∀ (bs br:Nat->Prop) (w:World),jX bs br w l z.cells.toList/\∀ u ∈ z.cells.toList,u.oneCell'=true:=by
 unfold xR at h;split at h
 .rename_i z hz;exact⟨z,hz,λbs br w=>(ix.v (bs:=bs) (br:=br) (w:=w) z).cells h⟩
 .cases h
def iS.Wi(r:iS w0 B σ a w L)(id:Nat)(T:TypeId)(l:List E)(v:Value)(kj:σ.bo id=none)(hv:jX (iY B L) (ju L) w l v.cells.toList)(h1:∀ u ∈ v.cells.toList,u.oneCell'=true)
 (jx:(!σ.nl||l.all E.mO)=true):
 ∃ L',iS w0 B (σ.nE (.new id (.cells T l))) a (w.alloc (.cells v.cells T)) L'/\mS (iY B L') (ju L') L' (w.alloc (.cells v.cells T)) (.box id 0) (.pointer (some ⟨w.heap.size,0,none⟩)):=by
 have hb:Below w.heap.size w (w.alloc (.cells v.cells T)):=(Below.refl _ _).alloc (bc _) _;have TB:∀ x,¬L.own id x:=λx hx=>by have:=(r.hv id).1 (r.hn id x hx);rw[kj]at this;simp at this
 have ht:rh L w id (λx=>x=w.heap.size) (w.alloc (.cells v.cells T)):=⟨λx hx=>⟨.inr aC,aN⟩,hb.size,λx hx _=>hb.block x hx,rfl,rfl,rfl⟩
 have hl:=ht.later (.pointer (some ⟨w.heap.size,0,none⟩)) (λ_=>undef);refine⟨_,r.new id (.cells T l) (λx=>x=w.heap.size) (.pointer (some ⟨w.heap.size,0,none⟩)) (λ_=>undef) _ kj (λx hx=>by subst hx;simp) hb
  ⟨w.heap.size,v.cells.toList,Lk.ph,λx=>Lk.sN x,by rw[Array.toArray_toList];exact heap_alloc_new w _,hv.mono λ_ _=>hl.kA,h1⟩ jx,Lk.AX,w.heap.size,Lk.ph,rfl⟩
def Jw{d:Option Tmp}{b:Bx}{rr:Nat->PV}(h:AG σ d b rr=some u):∃ id,d=some id/\(!σ.nl||b.nl)=true/\u={ r:=rr id,f:=ub σ id b,rb:=y3 σ id [] }:=by
 unfold AG at h;split at h
 .rename_i id;split at h
  .rename_i hc;cases h;exact⟨id,rfl,hc,rfl⟩
  .cases h
 .cases h
def iS.Wj(r:iS w0 B σ a w L)(id:Nat)(T:TypeId)(l:List E)(v:Value)(hv:jX (iY B L) (ju L) w l v.cells.toList)(h1:∀ u ∈ v.cells.toList,u.oneCell'=true)
 (jx:(!σ.nl||l.all E.mO)=true):
 ∃ L',iS w0 B (σ.nE (ub σ id (.cells T l))) a (w.alloc (.cells v.cells T)) L'/\mS (iY B L') (ju L') L' (w.alloc (.cells v.cells T)) (.box id 0) (.pointer (some ⟨w.heap.size,0,none⟩)):=by
 unfold ub;split
 .rename_i kj;exact r.Wi id T l v kj hv h1 jx
 .obtain ⟨L1,r1,ho,kj⟩:=r.RL id;have hm:∀ x,ju L1 x->ju L x:=λx ⟨i,hi⟩=>⟨i,ho i x hi⟩
  obtain⟨L',r',hp⟩:=r1.Wi id T l v kj (hv.mono λ_ _=>ix.pT (λx h=>h.elim .inl λh=>.inr (hm x h)) hm) h1 jx;rw[RV]at r';exact⟨L',r',hp⟩
def FV{d:Option Tmp}{b:Bx}{rr:Nat->PV}{jo:List Prop}(h:yV σ d b rr jo=some u):∃ id,d=some id/\σ.bo id=none/\(!σ.nl||b.nl)=true/\u={ r:=rr id,f:=.new id b,jo:=jo }:=by
 unfold yV at h;split at h
 .rename_i id;split at h
  .rename_i kj;split at h
   .rename_i hc;cases h;exact⟨id,rfl,kj,hc,rfl⟩
   .cases h
  .cases h
 .cases h
end
def GQ{k:IntKind}{z:Int}(h:kP k z):k.wrap z=z:=by
 cases k<;>simp only[kP]at h<;>simp only[IntKind.wrap,IntKind.bits,IntKind.signed]<;>simp<;>(try split)<;>omega
def aiZ{k:IntKind}{x y:Int}(h:kP k x)(hy:0<y):kP k (x.tdiv y):=by
 by_cases h0:0<=x
 .have h1:0<=x/y:=Int.ediv_nonneg h0 aC ;have h2:x/y<=x:=Int.ediv_le_self y h0;rw[gn h0];cases k<;>simp only[kP]at h ⊢ <;> omega
 .obtain ⟨z,rfl⟩:∃ z,x = -z:=⟨-x,aC⟩
  have h0:0<=z:= aC ;have h1:0<=z/y:=Int.ediv_nonneg h0 aC;have h2:z/y<=z:=Int.ediv_le_self y h0;rw[Int.neg_tdiv,gn h0];cases k<;>simp only[kP]at h ⊢ <;> omega
def ac7{P:Program}{op:BinOp}{k k':IntKind}{x y:Int}{v:Value}{jo:List Prop}(h:Lw op k x y=some (v,jo))(ho:∀ q,q ∈ jo->q)
 (hk:Xn op k k'=true) (t:TypeId) (w:World):(binOp op t (.int k x) (.int k' y)).run P w = .ok v w:=by
 cases op<;>simp only[Lw,bu,bL,reduceCtorEq]at h<;>(obtain⟨rfl,rfl⟩:=h)<;>(try (have Fi:=cJ hk;subst Fi))
 case add=>
  rw[binOp_add];by_cases IA:k = .u32
  .subst IA;simp[Op.intArith,KT]
  .have e:KT k x y=x+y:=by cases k<;>first|rfl|exact absurd rfl IA
   have e2:PR k x y=[kP k (x+y)]:=by cases k<;>first|rfl|exact absurd rfl IA
   rw[e];simp[Op.intArith,GQ (ho (kP k (x+y)) (by rw[e2];simp))]
 case sub=>rw[binOp_sub];simp[Op.intArith,GQ (ho (kP k (x-y)) aH)]
 case mul=>rw[binOp_mul];simp[Op.intArith,GQ (ho (kP k (x*y)) aH)]
 case quo=>
  have h1:=ho (0<y) aH;have h2:=ho (kP k x) aH;rw[binOp_quo];have hy:¬y=0:= aC ;simp[Op.intDiv,hy,GQ (aiZ h2 h1)]
 case rem=>
  have h1:=ho (0<y) aH;rw[binOp_rem];have hy:¬y=0:= aC ;simp[Op.intDiv,hy]
 case and=>rw[binOp_and,intBits_and];rfl
 case or=>rw[binOp_or,intBits_or];rfl
 case shl=>
  have h1:=ho (0<=y/\y<=k.bits) aH;rw[binOp_shl,shift_shl k k' x y h1.1 h1.2];rfl
 case shr=>
  have h1:=ho (0<=y/\y<=k.bits) aH;rw[binOp_shr,shift_shr k k' x y h1.1 h1.2];rfl
 case eql=>rw[binOp_eql];rfl
 case neq=>rw[binOp_neq];rfl
 case lss=>rw[binOp_lss];rfl
 case leq=>rw[binOp_leq];rfl
 case gtr=>rw[binOp_gtr];rfl
 case geq=>rw[binOp_geq];rfl
section
variable {P:Program} {K:World->Prop} {T:List TI} {O:pK} {w0:World} {B:Nat->Prop} {σ:PS} {o:Oper} {a:Act} {w:World} {L:Lk} {u:kp}
def aes{x:Operand}(ik:o.op = .move x)(r:iS w0 B σ a w L)(h:jk P K T O σ o=some u):jM P K w0 B σ o a w u:=by
 simp only[jk,ik]at h;cases h;exact jM.pure r (by simp only[execOp,ik];rfl) rfl (r.op x)
def ad8{x:Operand}(ik:o.op = .assign x)(r:iS w0 B σ a w L)(h:jk P K T O σ o=some u):jM P K w0 B σ o a w u:=by
 simp only[jk,ik]at h;cases h;exact jM.pure r (by simp only[execOp,ik];rfl) rfl (r.op x)
def aeu{c x y:Operand}(ik:o.op = .pick c x y)(r:iS w0 B σ a w L)(h:jk P K T O σ o=some u):jM P K w0 B σ o a w u:=by
 simp only[jk,ik]at h;have hc:=r.op c;split at h
 .rename_i hv;rw[hv]at hc;have hc:=ix.ku hc;cases h;exact jM.pure r (by simp[execOp,ik,hc,asBool]) rfl (r.op x)
 .rename_i hv;rw[hv]at hc;have hc:=ix.ku hc;cases h;exact jM.pure r (by simp[execOp,ik,hc,asBool]) rfl (r.op y)
 .cases h
def aet{x:Operand}(ik:o.op = .nilCheck x)(r:iS w0 B σ a w L)(h:jk P K T O σ o=some u):jM P K w0 B σ o a w u:=by
 simp only[jk,ik]at h;have hc:=r.op x;split at h
 .rename_i hv;rw[hv]at hc;cases h;obtain⟨k1,b,k2,k3⟩:=hc;exact jM.pure r (v:=a.eval x) (by simp[execOp,ik,k3]) rfl ⟨k1,b,k2,k3⟩
 .rename_i hv;rw[hv]at hc;cases h;generalize hq:a.eval x=q at hc;refine jM.pure r (v:=q) ?_ rfl hc;cases hc;simp only[execOp,ik,hq];rfl
 .rename_i hv;rw[hv]at hc;cases h;refine jM.pure r (v:=a.eval x) ?_ rfl hc;obtain⟨vs,e,_⟩:=ix.SJ hc;simp only[execOp,ik,e];rfl
 .rename_i hv;rw[hv]at hc;cases h;refine jM.pure r (v:=a.eval x) ?_ rfl hc;obtain⟨vs,e,_⟩:=hc;simp only[execOp,ik,e];rfl
 .cases h
def ad9(hT:lY P T){op:BinOp}{t yt:TypeId}{x y:Operand}(ik:o.op = .binOp op t x y yt)(r:iS w0 B σ a w L)(h:jk P K T O σ o=some u)(ho:∀ q,q ∈ u.jo->q):jM P K w0 B σ o a w u:=by
 simp only[jk,ik]at h;have hx:=r.op x;have hy:=r.op y;split at h
 .rename_i k z k' z' s9 B0;rw[s9]at hx;rw[B0]at hy;split at h
  .rename_i v hv;cases h;obtain⟨h1,h2⟩:=ho _ (gp.2 rfl) _ _ w _ _ x y hx hy;refine jM.pure r (v:=v) ?_ rfl (.v _);simp only[execOp,ik,Sem.run_bind,h1,Result.andThen_ok,h2,Sem.run_pure]
  have hx:=ix.ku hx;have hy:=ix.ku hy;split at h
  .rename_i hk;obtain⟨rr,hr,rfl⟩:=cG.1 h;have ky:=ac7 (P:=P) (k':=k') hr ho hk t w;refine jM.pure r (v:=rr.1) ?_ rfl (.v _);simp only[execOp,ik,hx,hy,Sem.run_bind,eqGuard_at_int,Sem.run_pure,Result.andThen_ok,ky]
  .cases h
 .rename_i z z' s9 B0;rw[s9]at hx;rw[B0]at hy;have hx:=ix.ku hx;have hy:=ix.ku hy;split at h
  .rename_i hd;obtain⟨ti,h1,h2⟩:=zU hd;have hu:P.underlying t=some .bool:=by rw[hT.qG h1,h2]
   split at h
   .cases h;refine jM.pure r (v:=.bool (z==z')) ?_ rfl (.v _);simp only[execOp,ik,hx,hy,Sem.run_bind,eqGuard_at_bool,Sem.run_pure,Result.andThen_ok,run_eql_bool w t z z' hu]
   .cases h;refine jM.pure r (v:=.bool (!(z==z'))) ?_ rfl (.v _);simp only[execOp,ik,hx,hy,Sem.run_bind,eqGuard_at_bool,Sem.run_pure,Result.andThen_ok];have:(binOp .neq t (.bool z) (.bool z')).run P w = .ok (.bool (!(z==z'))) w:=by
     simp only[binOp,Sem.run_bind,run_equal_bool w t z z' hu,Result.andThen_ok,Sem.run_pure]
    rw[this];rfl
   .cases h
  .cases h
 .rename_i nl n sz el s9 B0;rw[s9]at hx;rw[B0]at hy;have hy:=ix.ku hy;have hx:ix (iY B L) (ju L) w (.sl nl n sz el) (a.eval x):=hx;split at h
  .rename_i e hd;obtain⟨ti,h1,h2⟩:=zU hd;have hu:P.underlying t=some (.slice e):=by rw[hT.qG h1,h2]
   have key:∀ A c,0<n->a.eval x = .slice A n c->ix (iY B L) (ju L) w (.sl nl n sz el) (.slice A n c)->A.isNone=false:=by
    intro A c hn e1 hr;cases A with
    |some ad=>rfl
    |none=>
     cases hr with
     |sl _ _ _ _ _ _ f hc hm h0=>have:=h0 rfl;omega
   generalize hv:a.eval x=vx at hx;cases hx with
   |sl _ _ _ _ A c f hc hm h0 hl hr cell k=>
    have wO:ix (iY B L) (ju L) w (.sl nl n sz el) (.slice A n c):=.sl nl n sz el A c f hc hm h0 hl hr cell k;split at h
    .cases h;have hn:0<n:=ho _ aH;refine jM.pure r (v:=.bool false) ?_ rfl (.v _);simp only[execOp,ik,hv,hy,Sem.run_bind,eqGuard_at_slice,Sem.run_pure,Result.andThen_ok,Lib.run_eql_slice_nil w t e A n c 0 0 hu,key A c hn hv wO]
    .cases h;have hn:0<n:=ho _ aH;refine jM.pure r (v:=.bool true) ?_ rfl (.v _);simp only[execOp,ik,hv,hy,Sem.run_bind,eqGuard_at_slice,Sem.run_pure,Result.andThen_ok,run_neq_slice_nil_any w t e A n c 0 0 hu,key A c hn hv wO,dW]
    .cases h
  .cases h
 .rename_i xe ye s9 B0;rw[s9]at hx;rw[B0]at hy;split at h
  .rename_i v hv;cases h;obtain⟨h1,h2⟩:=ho _ (gp.2 rfl) _ _ w _ _ x y hx hy;refine jM.pure r (v:=v) ?_ rfl (.v _);simp only[execOp,ik,Sem.run_bind,h1,Result.andThen_ok,h2,Sem.run_pure]
  .cases h
 .cases h
def aex{op:UnOp}{t:TypeId}{x:Operand}(ik:o.op = .unOp op t x)(r:iS w0 B σ a w L)(h:jk P K T O σ o=some u)(ho:∀ q,q ∈ u.jo->q):jM P K w0 B σ o a w u:=by
 simp only[jk,ik]at h;have hx:=r.op x;split at h
 .rename_i z hv;rw[hv]at hx;have hx:=ix.ku hx;cases h;exact jM.pure r (v:=.bool (!z)) (by simp[execOp,ik,hx,Op.unary]) rfl (.v _)
 .rename_i k z hv;rw[hv]at hx;have hx:=ix.ku hx;cases h;have:=GQ (ho (kP k (0-z)) aH);refine jM.pure r (v:=.int k (0-z)) ?_ rfl (.v _);simp only[execOp,ik,hx,Op.unary,Op.intArith,this];rfl
 .cases h
def aed(hT:lY P T){src dst:TypeId}{x:Operand}(ik:o.op = .convert src dst x)(r:iS w0 B σ a w L)(h:jk P K T O σ o=some u):jM P K w0 B σ o a w u:=by
 simp only[jk,ik]at h;have hx:=r.op x;split at h
 .rename_i k ts k' z hd hs hv;rw[hv]at hx;have hx:=ix.ku hx;obtain⟨td,h1,h2⟩:=zU hd;have hu:P.underlying dst=some (.int k):=by rw[hT.qG h1,h2]
  have hk:P.intKind dst=k:=by simp[Program.intKind,hu]
  have ky:=run_convert_int (P:=P) w src dst k' z (by rw[hT.qG hs];rfl) (by rw[hk];exact hu);rw[hk]at ky;cases h;exact jM.pure r (v:=.int k (k.wrap z)) (by simp only[execOp,ik,hx,Sem.run_bind,ky];rfl) rfl (.v _)
 .cases h
def aee{x:Operand}{i:Nat}(ik:o.op = .extract x i)(r:iS w0 B σ a w L)(h:jk P K T O σ o=some u):jM P K w0 B σ o a w u:=by
 simp only[jk,ik]at h;have hx:=r.op x;split at h
 .rename_i l hv;rw[hv]at hx;obtain⟨vs,e,hr⟩:=ix.YD hx;split at h
  .rename_i y hy;cases h;have im:i<vs.length:=by rw[hr.len];exact(b5.1 hy).1
   have Dv:=bt im;refine jM.pure r (v:=vs[i]) ?_ rfl (hr.kA i y _ hy Dv);simp only[execOp,ik,e,Instr.extract,gj,Dv];rfl
  .cases h
 .cases h
def VM{bs:Nat->Prop}{z:Int}{e:E}:∀ {l:List (Int×FuncId×List FuncId)} {es:List MapEntry} (i:Nat),Bc bs w l es->Cj l z=some e->(∀ b,ju L b->bs b) ->
 ∃ j v,Instr.findNow (.int .i64) (.int .i64 z) es i=some (some (j,v))/\ix bs (ju L) w e v
 | [],_,_,_,h,_=>by cases h
 |_::_,[],_,k,_,_=>k.elim
 |x::l,y::es,i,⟨⟨k1,vs,k2,k3,k4⟩,k⟩,h,hm=>by
  unfold Cj at h;have e0:Instr.sameNow (.int .i64) (.int .i64 z) y.key=some (z==x.1):=by rw[k1];rfl
  by_cases hz:x.1=z
  .rw [aZ hz]at h;cases h;have e1:(z==x.1)=true:=by simp[hz]
   refine⟨i,y.val,?_,?_⟩
   .rw [Instr.findNow,e0,e1]
   .rw [k2];refine .fn _ _ vs (by simpa using k3) λj p v hp hv=>?_
    rw[cr]at hp;obtain⟨g,hg,rfl⟩:=cG.1 hp;obtain⟨b,rfl,q2,q3,q4⟩:=k4 j g v hg hv;have hc:∀ q,q<1->w.cell? ⟨b,0+q,none⟩=some (.func (.func g) #[] #[]):=λq hq=>by
     obtain rfl:q=0:= aC ;exact q4
    exact .iM 1 _ b 0 (λ_=>.func (.func g) #[] #[]) (λh=>q2 (hm b h)) q3 (λ_ _=>rfl) hc λ_ _=>.fn g [] [] rfl (λi p x h=>by simp at h)
  .rw [aY hz]at h;have e1:(z==x.1)=false:=by simp;exact λe=>hz e.symm
   obtain⟨j,v,q1,q2⟩:=VM (i+1) k h hm;exact⟨j,v,by rw[Instr.findNow,e0,e1];exact q1,q2⟩
def abZ{k:TypeId}(hk:P.underlying k=some (.int .i64))(e:Bool)(n:Nat)(z:Int):(Instr.checkKey e (n+1) k (.int .i64 z)).run P w = .ok () w:=by
 unfold Instr.checkKey;simp only[Sem.run_bind,run_underlying hk,Result.andThen];rfl
def aem(hT:lY P T){t:TypeId}{x i:Operand}{ok:Bool}(ik:o.op = .lookup t x i ok)(r:iS w0 B σ a w L)(h:jk P K T O σ o=some u)(ho:∀ q,q ∈ u.jo->q):jM P K w0 B σ o a w u:=by
 cases ok with
 |true=>simp[jk,ik]at h
 |false=>
 simp only[jk,ik]at h;have hx:=r.op x;have hi:=r.op i;split at h
 .rename_i l z k e0 hv hw hd;obtain⟨ti,h1,h2⟩:=zU hd;have hu:P.underlying t=some (.map k e0):=by rw[hT.qG h1,h2]
  rw[hv]at hx;rw[hw]at hi;have hi:=ix.ku hi;split at h
  .rename_i e Al hg;obtain⟨tk,h3,h4⟩:=zU Al;have hk:P.underlying k=some (.int .i64):=by rw[hT.qG h3,h4]
   cases h;have BG:Cj l z=some e:=ho _ aH;generalize hq:a.eval x=q at hx;cases hx with
   |mp _ b clk es hb im hh me=>
    obtain⟨j,v,q1,q2⟩:=VM (w:=w) (L:=L) 0 me BG λb h=>.inr h
    refine jM.pure r (v:=v) ?_ rfl q2;have uD:(getObj b).run P w = .ok (.map es clk) w:=by simp[getObj,Sem.run,hh]
    have hck:=abZ (P:=P) (w:=w) hk es.isEmpty 9999 z;have hfk:(Instr.findKey k (.int .i64 z) es.toList).run P w = .ok (some (j,v)) w:=by unfold Instr.findKey;simp[run_underlying hk,Result.andThen,q1]
    have hl:(Instr.lookup t (.map (some b)) (.int .i64 z) false).run P w = .ok v w:=by
     unfold Instr.lookup;simp[run_underlying hu,uD,hck,hfk,Result.andThen]
    simp only[execOp,ik,hq,hi,Sem.run_bind,hl,Result.andThen_ok,Sem.run_pure]
  .cases h
 .cases h
def aef(hT:lY P T){t:TypeId}{x:Operand}{f:Nat}(ik:o.op = .field t x f)(r:iS w0 B σ a w L)(h:jk P K T O σ o=some u):jM P K w0 B σ o a w u:=by
 simp only[jk,ik]at h;have hx:=r.op x;split at h
 .rename_i l fs hv hd;obtain⟨ti,h1,h2⟩:=zU hd;have hu:P.underlying t=some (.struct fs):=by rw[hT.qG h1,h2]
  rw[hv]at hx;obtain⟨vs,e,hr⟩:=ix.CQ hx;split at h
  .rename_i fd Mt;split at h
   .rename_i ft Mv;split at h
    .cases h
    .rename_i hag;split at h
     .rename_i y hy;cases h;have im:fd.offset<vs.length:=by rw[hr.len];exact(b5.1 hy).1
      have Dv:=bt im;refine jM.pure r (v:=vs[fd.offset]) ?_ rfl (hr.kA fd.offset y _ hy Dv);simp only[execOp,ik,e,Instr.field,asAgg,Sem.run_bind,Sem.run_pure,Result.andThen_ok,run_underlying hu,Mt,part,J5 hT w Mv,hag,gj,Dv];rfl
     .cases h
   .cases h
  .cases h
 .cases h
def abF{ps:List PV}{l:List CV}{vs:List Value}(h:wq ps=some l)(hlen:vs.length=ps.length)(hr:∀ (i:Nat) (p:PV) (x:Value),ps[i]? = some p->vs[i]? = some x->mS (iY B L) (ju L) L w p x):
 vs.length=l.length/\∀ (i:Nat) (c:CV) (x:Value),l[i]? = some c->vs[i]? = some x->wh (iY B L) (ju L) L w c x:=by
 induction ps generalizing l vs with
 |nil=>cases h;exact⟨hlen,λi c x hc=>by simp at hc⟩
 |cons p ps ih=>
  cases vs with
  |nil=>simp at hlen
  |cons y vs=>
   have step:∀ (c0:CV) (l':List CV),wq ps=some l'->wh (iY B L) (ju L) L w c0 y->l=c0::l' ->
    (y::vs).length=l.length/\∀ (i:Nat) (c:CV) (x:Value),l[i]? = some c->(y::vs)[i]? = some x->wh (iY B L) (ju L) L w c x:=by
    intro c0 l' pZ o0 hl;obtain⟨i1,i2⟩:=ih pZ (by simpa using hlen) (λi p x hp hx=>hr (i+1) p x (by simpa using hp) (by simpa using hx));subst hl;refine⟨by simp[i1],λi c x hc hx=>?_⟩;cases i with
    |zero=>simp at hc hx;subst hc hx;exact o0
    |succ i=>simp at hc hx;exact i2 i c x hc hx
   have h0:=hr 0 p y rfl rfl;cases p with
   |e x=>
    simp only[wq]at h;obtain⟨l',pZ,rfl⟩:=cG.1 h;exact step (.e x) l' pZ h0 rfl
   |box id off=>
    cases off with
    |zero=>
     simp only[wq]at h;obtain⟨l',pZ,rfl⟩:=cG.1 h;exact step (.box id) l' pZ h0 rfl
    |succ=>simp[wq]at h
   |mP id sz i j=>
    simp only[wq]at h;split at h
    .rename_i hc;simp only[bE]at hc;obtain rfl:=kG.1 hc.1.1;obtain rfl:=kG.1 hc.1.2;obtain rfl:=kG.1 hc.2;obtain⟨l',pZ,rfl⟩:=cG.1 h;obtain⟨k1,b,n,c,k2,k3⟩:=h0;exact step (.row id) l' pZ ⟨k1,b,n,c,k2,by simpa using k3⟩ rfl
    .cases h
   |_=>simp[wq]at h
def aen{fn:Fn}{first cap:Array Operand}(ik:o.op = .makeFunc fn first cap)(r:iS w0 B σ a w L)(h:jk P K T O σ o=some u):jM P K w0 B σ o a w u:=by
 cases fn with
 |func f=>
  simp only[jk,ik]at h;split at h
  .rename_i ae4;have hf:first = #[]:=by simpa using ae4
   subst hf;split at h
   .rename_i l hl;cases h;have hc:=abF (B:=B) (L:=L) (w:=w) (vs:=cap.toList.map a.eval) hl aH (λi p x hp hx=>by
     rw[cr]at hp hx;obtain⟨q,hq,rfl⟩:=cG.1 hp;rw[hq]at hx;simp at hx;subst hx;exact r.op q)
    refine jM.pure r (v:=.func (.func f) #[] (cap.toList.map a.eval).toArray) ?_ rfl ⟨cap.toList.map a.eval,rfl,hc.1,hc.2⟩;have e1:cap.map a.eval=(cap.toList.map a.eval).toArray:=by apply di;simp
    have e2:(#[]:Array Operand).map a.eval = #[]:= aH ;simp only[execOp,ik,Instr.makeFunc,e1,e2,Sem.run_bind,Sem.run_pure,Result.andThen_ok]
   .cases h
  .cases h
 |_=>simp[jk,ik]at h
def aeh(hT:lY P T){t:TypeId}{x i:Operand}(ik:o.op = .index t x i)(r:iS w0 B σ a w L)(h:jk P K T O σ o=some u)(ho:∀ q,q ∈ u.jo->q):jM P K w0 B σ o a w u:=by
 simp only[jk,ik]at h;have hx:=r.op x;have hi:=r.op i;split at h
 .rename_i l k z hv hw;rw[hv]at hx;rw[hw]at hi;have ei:=ix.ku hi;obtain⟨vs,e,hr⟩:=ix.CQ hx;split at h
  .rename_i tt qc;split at h
   .rename_i n e' hd;have hu:P.underlying t=some (.array n e'):=by rw[hT.qG qc,hd]
    split at h
    .rename_i te nf;split at h
     .rename_i hc;simp only[bE,kG]at hc;cases h;obtain⟨Av,yL⟩:=ho (0<=z/\z<n) aH;refine jM.pure r (v:=.agg ((vs.drop (z.toNat*te.i.size)).take te.i.size).toArray) ?_ rfl ((hr.drop _).take _).agg;simp only[execOp,ik,e,ei,Instr.index,asIntOf,Sem.run_bind,Sem.run_pure,Result.andThen_ok,run_underlying hu,Av,yL,and_self,bw,tu hT w nf,part,J5 hT w nf,hc.1];simp
     .cases h
    .cases h
   .cases h
  .cases h
 .cases h
def aeg(hT:lY P T){t:TypeId}{x:Operand}{f:Nat}(ik:o.op = .fieldAddr t x f)(r:iS w0 B σ a w L)(h:jk P K T O σ o=some u):jM P K w0 B σ o a w u:=by
 simp only[jk,ik]at h;have hx:=r.op x;split at h
 .rename_i fs hd;obtain⟨ti,h1,h2⟩:=zU hd;have hu:P.underlying t=some (.struct fs):=by rw[hT.qG h1,h2]
  split at h
  .rename_i fd Mt;split at h
   .rename_i ft Mv;split at h
    .cases h
    .rename_i jf;have afd:¬ft.i.size=0:=λe=>jf (kG.2 e)
     have ky:∀ b off,a.eval x = .pointer (some ⟨b,off,none⟩)->(execOp a.eval o).run P w = .ok (.value (.pointer (some ⟨b,off+fd.offset,none⟩))) w:=by
      intro b off e;simp only[execOp,ik,e,Instr.fieldAt,Instr.sureAddr,fieldPlace,Sem.run_bind,run_underlying hu,Result.andThen_ok,Mt,Sem.run_pure,tu hT w Mv,afd,bj,Addr.add_lit]
     split at h
     .rename_i id off hv;rw[hv]at hx;obtain⟨k1,b,k2,k3⟩:=hx;cases h;exact jM.pure r (ky b off k3) rfl ⟨k1,b,k2,rfl⟩
     .rename_i id sz i j hv;rw[hv]at hx;obtain⟨k1,b,n,c,k2,k3⟩:=hx;cases h;exact jM.pure r (ky b _ k3) rfl ⟨k1,b,n,c,k2,by rw[cQ]⟩
     .rename_i id sz k i j hv;rw[hv]at hx;obtain⟨k1,b,n,c,k2,k3⟩:=hx;cases h;exact jM.pure r (ky b _ k3) rfl ⟨k1,b,n,c,k2,by rw[cQ]⟩
     .rename_i m el hv;rw[hv]at hx;split at h
      .rename_i hle;have TU:=cE hle;cases h;generalize hq:a.eval x=q at hx;cases hx with
       |iM _ _ b off g hb im hl cell kk=>
        refine jM.pure r (ky b off hq) rfl (.iM _ _ b _ (λj=>g (fd.offset+j)) hb im (λj hj=>hl _ aC) (λj hj=>?_) (λj hj=>kk _ aC));have:=cell (fd.offset+j) aC;rwa[<-cQ]at this
      .cases h
     .cases h
   .cases h
  .cases h
 .cases h
end
section
variable {P:Program} {K:World->Prop} {T:List TI} {O:pK} {w0:World} {B:Nat->Prop} {σ:PS} {o:Oper} {a:Act} {w:World} {L:Lk} {u:kp}
def agG(hT:lY P T){t:TypeId}{x:Operand}{ti:TI}(qs:mj T t=some ti)(ik:o.op = .load t x)(r:iS w0 B σ a w L)(h:FO ti (σ.read (σ.op x) ti.i.size)=some u)(ho:∀ q,q ∈ u.jo->q):jM P K w0 B σ o a w u:=by
 cases hr:σ.read (σ.op x) ti.i.size with
 |none=>rw[hr]at h;cases h
 |some y=>
  obtain⟨l,is,jo⟩:=y;rw[hr]at h;simp only[FO]at h;by_cases ha:ti.isAgg=true
  .rw [aZ ha]at h;cases h;obtain⟨b,q,vs,e,h1,h2,h3⟩:=r.read (r.op x) hr ho;refine jM.pure r (v:=.agg vs.toArray) ?_ rfl h1.agg;simp only[execOp,ik,e,Instr.loadAt,Instr.sureAddr,Sem.run_bind,Sem.run_pure,Result.andThen_ok,Xk hT w qs ha b q vs h2 h3]
  .rw [aY ha]at h;have IG:ti.isAgg=false:=by simpa using ha
   split at h
   .rename_i p;cases h;obtain⟨b,q,vs,e,h1,h2,h3⟩:=r.read (r.op x) hr ho;obtain⟨y,ys,rfl,hy,B3⟩:=h1.nc;refine jM.pure r (v:=y) ?_ rfl hy;have hc:=h3 0 y rfl;simp only[execOp,ik,e,Instr.loadAt,Instr.sureAddr,Sem.run_bind,Sem.run_pure,Result.andThen_ok,OT hT w qs IG b q y (by simpa using hc)]
   .cases h
def ael(hT:lY P T){t:TypeId}{x:Operand}(ik:o.op = .load t x)(r:iS w0 B σ a w L)(h:jk P K T O σ o=some u)(ho:∀ q,q ∈ u.jo->q):jM P K w0 B σ o a w u:=by
 simp only[jk,ik,Il]at h;split at h
 .rename_i ti qs;split at h
  .rename_i id i n pE;by_cases ha:ti.isAgg=true
   .rw [aZ ha]at h;cases h
   .rw [aY ha]at h;have IG:ti.isAgg=false:=by simpa using ha
    cases h;have hx:=r.op x;cases hp:σ.op x with
    |mP id' sz i' j=>
     rw[hp]at pE hx;simp only[Cx]at pE;split at pE
     .rename_i nl T1 T0 n' sz' len el jd;split at pE
      .rename_i hc;simp only[bu,bL]at pE;obtain⟨rfl,rfl,rfl⟩:=pE;simp only[bE]at hc;have e1:=kG.1 hc.1;have e2:=kG.1 hc.2;subst e1 e2;have hi:i'<n':=ho _ aH;obtain⟨b,c,cur,f,h1,h2,h3,h4,h5,h6,h7,h8,h9,pM,rJ⟩:=(r.hb id' _ jd).vZ aC;obtain⟨k1,b',n2,c2,k2,k3⟩:=hx;rw[h1]at k2;cases k2;refine jM.pure r (v:=L.iC id' i') ?_ rfl ⟨k1,rfl⟩;have j8:w.cell? ⟨b,i'*1+0,none⟩=some (L.iC id' i'):=by
        simp only[World.cell?,h2];simpa using h6 i' hi aH 
       simp only[execOp,ik,k3,Instr.loadAt,Instr.sureAddr,Sem.run_bind,Sem.run_pure,Result.andThen_ok,OT hT w qs IG b _ _ j8]
      .cases pE
     .cases pE
    |_=>rw[hp]at pE;cases pE
  .exact agG hT qs ik r h ho
 .cases h
def WK{bs br:Nat->Prop}{l m:List E}{vs us:List Value}(h:jX bs br w l vs)(k:jX bs br w m us)(off:Nat):jX bs br w (AM l off m) (vs.take off++us++vs.drop (off+us.length)):=by
 unfold AM;rw[k.len];exact((h.take off).app k).app (h.drop _)
def aic{q:E->Bool}{l m:List E}(h:l.all q=true)(k:m.all q=true)(off:Nat):(AM l off m).all q=true:=by
 unfold AM;rw[List.all_append,List.all_append,k];have h1:(l.take off).all q=true:=bN.2 λx hx=>bN.1 h x (eo hx)
 have h2:(l.drop (off+m.length)).all q=true:=bN.2 λx hx=>bN.1 h x (eK hx)
 rw[h1,h2];rfl
def aew(hT:lY P T){t:TypeId}{x y:Operand}(ik:o.op = .store t x y)(r:iS w0 B σ a w L)(h:jk P K T O σ o=some u)(ho:∀ q,q ∈ u.jo->q):jM P K w0 B σ o a w u:=by
 simp only[jk,ik,Ip]at h;have hx:=r.op x;have hy:=r.op y;split at h
 .rename_i ti qs;split at h
  .
   rename_i id off e oC BS;rw[oC]at hx;rw[BS]at hy;split at h
   .rename_i T1 l m jd hm;split at h
    .rename_i hc;cases h;simp only[bE]at hc;have c1:=kG.1 hc.1.1;have c2:=cE hc.1.2;obtain⟨b,vs,h1,h2,h3,h4,h5⟩:=r.hb id _ jd;obtain⟨k1,b',k2,k3⟩:=hx;rw[h1]at k2;cases k2;obtain⟨q1,q2⟩:=hy.cells hm;have ht:=rh.setRow (L:=L) ((h2 b).2 rfl) (λx hx=>(r.hw id x hx).2) (vs.take off++(a.eval y).cells.toList++vs.drop (off+(a.eval y).cells.toList.length)).toArray;have hl:=ht.later (L.val id) (L.iC id);refine⟨undef,_,_,.inr ⟨?_,rfl⟩,r.vc id (.cells T1 (AM l off m)) _ k1 ht ⟨b,_,by rw[Lk.ph];exact h1,λx=>(Lk.sN x).trans (h2 x),setRow_heap w b _ _ T1 _ h3,(WK h4 q1 off).mono λ_ _=>hl.kA,?_⟩ ?_,.any _⟩
     .have hr:=J6 hT w qs b off T1 vs.toArray h3 (a.eval y) (by rw[q1.len,c1]) (by rw[q1.len,fK,h4.len];exact c2) q2;simp only[execOp,ik,k3,Instr.storeAt,Instr.sureAddr,Sem.run_bind,Sem.run_pure,Result.andThen_ok,hr]
     .intro v hv;simp only[dB]at hv;rcases hv with(hv|hv)|hv
      .exact h5 v (eo hv)
      .exact q2 v hv
      .exact h5 v (eK hv)
     .intro hn;have:=hc.2;rw[hn]at this;exact aic (r.hl hn id _ jd) (by simpa using this) off
    .cases h
   .cases h
  .
   rename_i id q oC BS;rw[oC]at hx;rw[BS]at hy;split at h
   .rename_i T1 x0 nl T0 n sz el jd uC;split at h
    .rename_i hc;cases h;simp only[bE,dI]at hc;have jf:id≠q:=λe=>by rw[e,cg]at hc;cases hc.1
     have c1:=kG.1 hc.2;obtain⟨b,vs,h1,h2,h3,h4,h5⟩:=r.hb id _ jd;obtain⟨k1,b',k2,k3⟩:=hx;rw[h1]at k2;cases k2;obtain⟨_,B4⟩:=hy;obtain⟨v0,rfl⟩:∃ v0,vs=[v0]:=by
      have:=h4.len;rcases vs with _|⟨v0,_|⟨v1,vs⟩⟩
      .simp at this
      .exact ⟨v0,rfl⟩
      .simp at this
     obtain⟨f,g1,_⟩:=r.hb q _ uC;have j8:(L.val q).cells.toList=[L.val q]/\(L.val q).oneCell'=true:=by
      rcases g1 with⟨g,_⟩|⟨b1,c1,cur,g,_⟩<;>rw[g]<;>exact⟨rfl,rfl⟩
     have ht:=rh.setRow (L:=L) ((h2 b).2 rfl) (λx hx=>(r.hw id x hx).2) #[L.val q];obtain⟨L',hr⟩:=r.qY jd uC jf h1 (setRow_heap w b _ _ T1 _ h3) ht;refine⟨undef,_,L',.inr ⟨?_,rfl⟩,hr,.any _⟩;have ky:=J6 hT w qs b 0 T1 #[v0] h3 (a.eval y) (by rw[B4,j8.1,c1];rfl) (by rw[B4,j8.1];exact bc 1) (by rw[B4,j8.1];exact λu hu=>by rw[gp.1 hu];exact j8.2);rw[B4,j8.1]at ky;simp only[execOp,ik,k3,Instr.storeAt,Instr.sureAddr,Sem.run_bind,Sem.run_pure,Result.andThen_ok,B4,ky];rfl
    .cases h
   .cases h
  .
   rename_i id sz i j e oC BS;rw[oC]at hx;rw[BS]at hy;split at h
   .rename_i nl T1 n s el m jd hm;split at h
    .rename_i hc;cases h;simp only[bE]at hc;have c1:=kG.1 hc.1.1.1.1;have c2:=kG.1 hc.1.1.1.2;have c3:=cE hc.1.1.2;subst c2;have hi:i<n:=ho _ aH;obtain⟨f,h1,h2,h3⟩:=r.hb id _ jd;obtain⟨k1,b',n',c',k2,k3⟩:=hx;rcases h1 with⟨h1,_⟩|⟨b,c,cur,h1,hg,oB,nG,mL,j8,jx⟩
     .rw [k2]at h1;cases h1
     .rw [k2]at h1;cases h1;obtain⟨q1,q2⟩:=hy.cells hm;have lh:L.own id b':=(h2 b').2 (by rw[k2];rfl);have alY:i*s+s<=cur.size:=by
       rw[mL];have:=bK s (aC:i+1<=c');rwa[bS,bU]at this
      have qR:i*s+j+(a.eval y).cells.toList.length<=cur.size:=by rw[q1.len];omega
      have ht:=rh.setRow (L:=L) lh (λx hx=>(r.hw id x hx).2) (cur.toList.take (i*s+j)++(a.eval y).cells.toList++cur.toList.drop (i*s+j+(a.eval y).cells.toList.length)).toArray;have hl:=ht.later (L.val id) (L.iC id);refine⟨undef,_,_,.inr ⟨?_,rfl⟩,r.vc id _ _ k1 ht ⟨λi' j'=>if i'=i/\j<=j'/\j'<j+m.length then(a.eval y).cells.toList.getD (j'-j) undef else f i' j',?_,λx=>?_,?_⟩ ?_,.any _⟩
      .have hr:=J6 hT w qs b' (i*s+j) T1 cur hg (a.eval y) (by rw[q1.len,c1]) qR q2;simp only[execOp,ik,k3,Instr.storeAt,Instr.sureAddr,Sem.run_bind,Sem.run_pure,Result.andThen_ok,hr]
      .rw [Lk.ph];refine .inr ⟨b',c',_,k2,setRow_heap w b' _ _ T1 _ hg,oB,nG,?_,?_,?_⟩
       .simp only[fK,cA,b8,eB,dq];have ae5:=qR;simp only[dq]at ae5;rw[dc aC];omega
       .intro i' j' mi sw;obtain⟨o1,o2⟩:=j8 i' j' mi sw;have hlen:i'*s+j'<cur.size:=by
         rw[mL];have:=bK s (aC:i'+1<=c');rw[bS,bU]at this;omega
        have pR:i'≠i->i'*s+j'<i*s\/i*s+s<=i'*s+j':=by
         intro jf;rcases Nat.lt_or_gt_of_ne jf with im|im
         .left;have:=bK s (show i'+1<=i from im);rw[bS,bU]at this;omega
         .right;have:=bK s (show i+1<=i' from im);rw[bS,bU]at this;omega
        simp only[gj];rw[amn,eA,b8,dq,dc aC];by_cases kY:i'=i/\j<=j'/\j'<j+m.length
        .obtain ⟨rfl,p1,p2⟩:=kY;rw[aY aC,dw (by rw[q1.len];omega)];have e1:i'*s+j'-(i'*s+j)=j'-j:= aC ;have im:j'-j<(a.eval y).cells.toList.length:=by rw[q1.len];omega
         rw[aZ ⟨rfl,p1,p2⟩,e1,bd,bt im];exact⟨rfl,q2 _ (cz im)⟩
        .rw [aY kY];refine⟨?_,o2⟩;by_cases iO:i'*s+j'<i*s+j
         .rw [aZ iO,dV,aZ iO];simpa using o1
         .rw [aY iO,fJ,ez]
          .have:i*s+j+(a.eval y).cells.toList.length+(i'*s+j'-(i*s+j)-(a.eval y).cells.toList.length)=i'*s+j':=by
            rw[q1.len];by_cases Fe:i'=i
            .subst Fe;omega
            .have:=pR Fe;omega
           rw[this];simpa using o1
          .rw [q1.len];by_cases Fe:i'=i
           .subst Fe;omega
           .have:=pR Fe;omega
       .intro hn v hv;simp only[gl,dB]at hv;rcases hv with(hv|hv)|hv
        .exact jx hn v (by have:=eo hv;simpa using this)
        .obtain ⟨q,hq⟩:=dp.1 hv;have wN:q<m.length:=by rw[<-q1.len];exact(b5.1 hq).1
         have MG:m.all E.mO=true:=by have:=hc.1.2;rw[hn]at this;simpa using this
         exact(q1.kA q _ v (bt wN) hq).mO (bN.1 MG _ (cz wN))
        .exact jx hn v (by have:=eK hv;simpa using this)
      .rw [Lk.ph];exact(Lk.sN x).trans (h2 x)
      .intro i' j' mi sw;refine(λ(q:ix _ _ _ _ _/\_)=>⟨hl.kA q.1,q.2⟩) (?_:_/\_);dsimp only;by_cases kY:i'=i/\j<=j'/\j'<j+m.length
       .rw [aZ kY,aZ kY];have Dk:j'-j<m.length:= aC ;have FA:j'-j<(a.eval y).cells.toList.length:=by rw[q1.len];omega
        rw[bd,bt Dk,bd,bt FA];exact⟨q1.kA _ _ _ (bt Dk) (bt FA),bN.1 hc.2 _ (cz Dk)⟩
       .rw [aY kY,aY kY];exact h3 i' j' mi sw
      .intro hn;have:=r.hl hn id _ jd;exact this
    .cases h
   .cases h
  .
   rename_i id i id' k oC BS;rw[oC]at hx;rw[BS]at hy;split at h
   .rename_i nl T1 T0 n sz len el k' jd;split at h
    .rename_i hc;cases h;simp only[bE]at hc;have c1:=kG.1 hc.1;have c2:=kG.1 hc.2;subst c1;have e1:i=k':=ho _ aH;have e2:k=k':=ho _ aH;have hk:k'<n:=ho _ aH;subst e1 e2;obtain⟨b,c,cur,f,h1,h2,h3,h4,h5,h6,h7,h8,h9,pM,rJ⟩:=(r.hb id _ jd).vZ aC;obtain⟨k1,b',n',c',k2,k3⟩:=hx;obtain⟨_,At⟩:=hy;rw[h1]at k2;cases k2;have BO:(L.iC id k).oneCell'=true/\qf (L.iC id k)=false/\(L.iC id k).cells = #[L.iC id k]:=by
      rcases(h8 k hk).1 with⟨e,_⟩|⟨_,_,_,e,_⟩<;>rw[e]<;>exact⟨rfl,rfl,rfl⟩
     have lh:L.own id b:=(h9 b).2 (.inl rfl);have ht:=rh.setRow (L:=L) lh (λx hx=>(r.hw id x hx).2) (cur.toList.take (k*1+0)++(a.eval y).cells.toList++cur.toList.drop (k*1+0+(a.eval y).cells.toList.length)).toArray;have hl:=ht.later (L.val id) (L.iC id);have xC:(a.eval y).cells.toList=[L.iC id k]:=by rw[At,BO.2.2]
     have TA:(cur.toList.take (k*1+0)++(a.eval y).cells.toList++cur.toList.drop (k*1+0+(a.eval y).cells.toList.length)).toArray=cur.setIfInBounds k (L.iC id k):=by
      rw[xC];apply di;simp only[bZ,bR,fz,amI];rw[List.set_eq_take_append_cons_drop,aZ (by simpa using(aC:k<cur.size))];simp
     rw[TA]at ht hl;have wH:∀ x,x≠b->(w.setRow b (cur.setIfInBounds k (L.iC id k))).heap[x]? = w.heap[x]?:=λx hx=>setRow_other w b x _ hx
     refine⟨undef,_,_,.inr ⟨?_,rfl⟩,r.vc id _ _ k1 ht (.inr ⟨b,c,cur.setIfInBounds k (L.iC id k),f,by rw[Lk.ph];exact h1,setRow_heap w b _ _ T1 _ h2,h3,h4,by simpa using h5,?_,?_,?_,?_,?_,?_⟩) ?_,.any _⟩
     .have hr:=J6 hT w qs b (k*1+0) T1 cur h2 (a.eval y) (by rw[xC];simpa using c2.symm) (by rw[xC];simp;omega) (by rw[xC];simpa using BO.1);rw[TA]at hr;simp only[execOp,ik,k3,Instr.storeAt,Instr.sureAddr,Sem.run_bind,Sem.run_pure,Result.andThen_ok,hr]
     .intro q hq _;rw[Lk.rP];by_cases tS:q=k
      .subst tS;have:q<cur.size:= aC ;simp[this]
      .rw [amG (λe=>tS e.symm)];exact h6 q hq (by simpa using λe=>tS e.symm)
     .intro v hv;rcases Array.mem_or_eq_of_mem_setIfInBounds hv with hv|hv
      .exact h7 v hv
      .subst hv;exact BO.2.1
     .intro q hq;obtain⟨p1,p2⟩:=h8 q hq;rw[Lk.rP];exact⟨p1.block λx hx=>wH x λe=>rJ q hq (e▸hx),λi j hi hj=>⟨hl.kA (p2 i j hi hj).1,(p2 i j hi hj).2⟩⟩
     .intro x;rw[Lk.sN];refine(h9 x).trans ?_;simp only[Lk.rP]
     .simp only[Lk.rP];exact pM
     .simp only[Lk.rP];exact rJ
     .intro hn;have:=r.hl hn id _ jd;exact this
    .cases h
   .cases h
  .cases h
 .cases h
def ad6(hT:lY P T){t:TypeId}(ik:o.op = .alloc t)(r:iS w0 B σ a w L)(h:jk P K T O σ o=some u):jM P K w0 B σ o a w u:=by
 simp only[jk,ik]at h;split at h
 .rename_i ti qs;split at h
  .rename_i z hz;obtain⟨id,hd,jx,rfl⟩:=Jw h;obtain⟨zv,sD,ru⟩:=Ee hz;obtain⟨q1,q2⟩:=ru (iY B L) (ju L) w;obtain⟨L',r',hp⟩:=r.Wj id t z zv q1 q2 (by simpa[Bx.nl]using jx);refine⟨_,_,L',.inl ?_,r',hp⟩;simp only[execOp,ik,Instr.alloc,Sem.run_bind,OU hT w qs sD,Result.andThen_ok,newVar,newRow,run_newObj_alloc,Sem.run_pure]
  .cases h
 .cases h
def aea{t:TypeId}{x:Operand}(ik:o.op = .box t x)(r:iS w0 B σ a w L)(h:jk P K T O σ o=some u):jM P K w0 B σ o a w u:=by
 simp only[jk,ik]at h;have hx:=r.op x;split at h
 .rename_i e hv;rw[hv]at hx;split at h
  .rename_i l hl;obtain⟨id,hd,jx,rfl⟩:=Jw h;obtain⟨q1,q2⟩:=hx.cells hl;obtain⟨L',r',hp⟩:=r.Wj id t l (a.eval x) q1 q2 (by simpa[Bx.nl]using jx);refine⟨_,_,L',.inl ?_,r',hp⟩;simp only[execOp,ik,Instr.box,Sem.run_bind,Result.andThen_ok,newVar,newRow,run_newObj_alloc,Sem.run_pure]
  .cases h
 .cases h
end
def adJ(us:List Value):∀ (off k:Nat) (cs:Array Value),off+k+us.length<=cs.size ->
 (us.zipIdx k).foldl (λcs (c:Value×Nat)=>cs.setIfInBounds (off+c.2) c.1) cs=(cs.toList.take (off+k)++us++cs.toList.drop (off+k+us.length)).toArray:=by
 induction us with
 |nil=>intro off k cs h;simp
 |cons x us ih=>
  intro off k cs h;simp only[List.zipIdx_cons,List.foldl_cons];rw[ih off (k+1) _ (by simp at h ⊢;omega)];apply di;simp only[cM]at h;obtain⟨A,y,D,mL,hA⟩:∃ A y D,cs.toList=A++y::D/\A.length=off+k:=by
   have im:off+k<cs.toList.length:= aN ;refine⟨cs.toList.take (off+k),cs.toList[off+k],cs.toList.drop (off+k+1),?_,by rw[b8];omega⟩;rw[<-eO im,gP]
  simp only[amI,cM,mL,<-hA];rw[List.set_append_right _ _ (bc _),cX,List.set_cons_zero,
   show off+(k+1)+us.length=A.length+(us.length+1)by omega,(aC:off+(k+1)=A.length+1),
   List.take_length_add_append,amJ,List.take_left,amJ]
  simp
def St(place:Nat->Option (Nat×Nat))(cs:Array Value)(i:Nat)(v:Value)(rest:List (Nat×Value))(off:Nat)(hp:place i=some (off,v.cells.toList.length))(qR:off+v.cells.toList.length<=cs.size):
 Instr.fill place cs ((i,v)::rest)=Instr.fill place (cs.toList.take off++v.cells.toList++cs.toList.drop (off+v.cells.toList.length)).toArray rest:=by
 have h1:¬(v.cells.size≠v.cells.toList.length\/off+v.cells.size>cs.size):=by simp at qR ⊢;omega
 have hf:=adJ v.cells.toList off 0 cs (by simpa using qR);simp only[bR]at hf;have h2:(v.cells.zipIdx.foldl (λcs (c,j)=>cs.setIfInBounds (off+j) c) cs)=(cs.toList.take off++v.cells.toList++cs.toList.drop (off+v.cells.toList.length)).toArray:=by
  rw[<-hf,<-Array.foldl_toList,Array.toList_zipIdx]
 rw[Instr.fill,hp];simp only;rw[aY (by simpa using h1),h2]
section
variable {P:Program} {K:World->Prop} {T:List TI} {O:pK} {w0:World} {B:Nat->Prop} {σ:PS} {o:Oper} {a:Act} {w:World} {L:Lk} {u:kp}
def LK(r:iS w0 B σ a w L){place:Nat->Option (Nat×Nat)}{ps:List (Nat×Operand)}{l m:List E}{cs:Array Value}(h:rW σ place l ps=some m)
 (hr:jX (iY B L) (ju L) w l cs.toList) (h1:∀ u ∈ cs,u.oneCell'=true):
 ∃ cs',Instr.fill place cs (ps.map λx=>(x.1,a.eval x.2))=some cs'/\jX (iY B L) (ju L) w m cs'.toList/\(∀ u ∈ cs',u.oneCell'=true):=by
 induction ps generalizing l cs with
 |nil=>
  simp only[rW]at h;cases h;exact⟨cs,rfl,hr,h1⟩
 |cons p ps ih=>
  obtain⟨i,x⟩:=p;simp only[rW]at h;have hx:=r.op x;split at h
  .rename_i off size e hp hv;rw[hv]at hx;split at h
   .rename_i q hq;split at h
    .rename_i hc;simp only[bE]at hc;have c1:=kG.1 hc.1;have c2:=cE hc.2;obtain⟨q1,q2⟩:=hx.cells hq;have hlen:(a.eval x).cells.toList.length=size:=by rw[q1.len,c1]
     have BC:=hr.len;rw[dX,St place cs i (a.eval x) _ off (by rw[hlen];exact hp) (by rw[q1.len];simp at BC;omega)];refine ih h (WK hr q1 off) λv hv=>?_
     simp only[gl,dB]at hv;rcases hv with(hv|hv)|hv
     .exact h1 v (by have:=eo hv;simpa using this)
     .exact q2 v hv
     .exact h1 v (by have:=eK hv;simpa using this)
    .cases h
   .cases h
  .cases h
def Oh(ps:Array (Nat×Operand))(a:Act):(ps.map λ(x:Nat×Operand)=>(x.1,a.eval x.2)).toList=ps.toList.map λx=>(x.1,a.eval x.2):= aH 
def ah5{P:Program}(hT:lY P T){fs:List Field}{pl:List (Nat×Nat)}(h:Gg T fs=some pl):fs.mapM (λf=>(P.info? f.type).map λi=>(f.offset,i.size))=some pl:=by
 induction fs generalizing pl with
 |nil=>simp only[Gg]at h;cases h;rfl
 |cons f fs ih=>
  simp only[Gg]at h;split at h
  .rename_i ti l h1 h2;cases h;simp[gq,hT.yO h1,ih h2]
  .cases h
def aeb(hT:lY P T){t:TypeId}{ps:Array (Nat×Operand)}(ik:o.op = .build t ps)(r:iS w0 B σ a w L)(h:jk P K T O σ o=some u):jM P K w0 B σ o a w u:=by
 simp only[jk,ik]at h;have main:∀ (l:List E) (cs:Array Value),P.built t (ps.toList.map λx=>(x.1,a.eval x.2))=some cs->jX (iY B L) (ju L) w l cs.toList->u={ r:=.e (.agg l) }->jM P K w0 B σ o a w u:=by
  intro l cs hb hr hu;subst hu;have ky:=run_build (P:=P) w t (ps.map λ(x:Nat×Operand)=>(x.1,a.eval x.2)) cs (by rw[Oh];exact hb);refine jM.pure r (v:=.agg cs) ?_ rfl (by have:=hr.agg;rwa[Array.toArray_toList]at this);simp only[execOp,ik,Sem.run_bind,ky,Result.andThen_ok,Sem.run_pure]
 split at h
 .rename_i ti qs;split at h
  .rename_i z hz;obtain⟨zv,sD,ru⟩:=Ee hz;obtain⟨q1,q2⟩:=ru (iY B L) (ju L) w;split at h
   .rename_i fs hd;split at h
    .rename_i pl BR;obtain⟨l,hl,rfl⟩:=cG.1 h;obtain⟨cs,p1,p2,_⟩:=LK r hl q1 (λu hu=>q2 u (by simpa using hu));refine main l cs ?_ p2 rfl;unfold Program.built;rw[hT.yO qs,hT.qG qs,hd];simp only[sD,ah5 hT BR];have:(λx:Nat=>pl.toArray[x]?)=λx=>pl[x]?:=by funext x;simp
     rw[this];exact p1
    .cases h
   .rename_i n e hd;split at h
    .rename_i te nf;obtain⟨l,hl,rfl⟩:=cG.1 h;obtain⟨cs,p1,p2,_⟩:=LK r hl q1 (λu hu=>q2 u (by simpa using hu));refine main l cs ?_ p2 rfl;unfold Program.built;rw[hT.yO qs,hT.qG qs,hd];simp only[sD,hT.yO nf];exact p1
    .cases h
   .cases h
  .cases h
 .cases h
def W4{α:Type}(n:Nat)(l:List α):(kA n l).length=n*l.length:=by
 induction n with
 |zero=>simp[kA]
 |succ n ih=>simp only[kA,cA,ih,bS,bU];omega
def aiQ{α:Type}(n:Nat)(l:List α)(q:Nat)(h:q<n*l.length):(kA n l)[q]? = l[q%l.length]?:=by
 induction n generalizing q with
 |zero=>simp at h
 |succ n ih=>
  simp only[kA];rw[bS,bU]at h;by_cases hq:q<l.length
  .rw [dw hq,bX hq]
  .rw [fJ aC,ih _ aC];congr 1;exact(Nat.mod_eq_sub_mod aC).symm
def aiR{bs br:Nat->Prop}{z:List E}{zs:Array Value}(h:jX bs br w z zs.toList)(n:Nat):jX bs br w (kA n z) ((Array.range (n*zs.size)).map (zs[· % zs.size]!)).toList:=by
 have hl:=h.len;simp only[dq]at hl;refine⟨by simp[W4,hl],λi p x hp hx=>?_⟩;have hi:i<n*zs.size:=by
  have:=(b5.1 hx).1;simpa using this
 have hz:0<zs.size:=by
  rcases dY zs.size with h0|h0
  .rw [h0]at hi;simp at hi
  .exact h0
 rw[aiQ _ _ _ (by rw[<-hl];exact hi),<-hl]at hp;have im:=bF i hz;simp[hi]at hx;subst hx;rw[eV zs _ im];exact h.kA _ p _ hp (by simp[im])
def X7(hB:∀ b,B b->b<w0.heap.size)(r:iS w0 B σ a w L)(e:TypeId)(n sz:Nat)(l:List E)(cs:Array Value)(nl:Bool)(hr:jX (iY B L) (ju L) w l cs.toList)(h1:∀ u ∈ cs,u.oneCell'=true)(hlen:cs.size=n*sz)
 (uF:n<=9223372036854775807) (jx:nl=true->l.all E.mO=true) (s6:l.all (E.nr 2)=true):
 iS w0 B σ a (w.alloc (.cells cs e)) L/\ix (iY B L) (ju L) (w.alloc (.cells cs e)) (.sl nl n sz λi j=>l.getD (i*sz+j) (.v (.bool false))) (.slice (some ⟨w.heap.size,0,none⟩) n n):=by
 have hb:Below w.heap.size w (w.alloc (.cells cs e)):=(Below.refl _ _).alloc (bc _) _;have hl:rE L w L (w.alloc (.cells cs e)):=⟨hb.size,λ_ _ h=>h,λx hx _=>hb.block x hx⟩
 refine⟨r.later hb,?_⟩;have kY:∀ i j,i<n->j<sz->i*sz+j<cs.size:=by
  intro i j hi hj;rw[hlen];have:=bK sz (show i+1<=n from hi);rw[bS,bU]at this;omega
 have rY:=hr.len;simp only[dq]at rY;refine .sl nl n sz _ _ n (λi j=>cs.getD (i*sz+j) undef) (bc _) uF (λh=>by cases h) (λi j hi hj=>?_) (λi j hi hj=>?_) (λi j hi hj=>?_) (λi j hi hj=>?_)
 .have hq:=kY i j hi hj;have e1:cs.getD (i*sz+j) undef=cs[i*sz+j]:=by simp[hq]
  rw[e1];refine⟨h1 _ (gh hq),λqq=>?_⟩;have uG:i*sz+j<l.length:= aC ;exact(hr.kA (i*sz+j) _ _ (bt uG) (by simp[hq])).mO (bN.1 (jx qq) _ (cz uG))
 .have hq:=kY i j hi hj;have uG:i*sz+j<l.length:= aC ;rw[bd,bt uG];exact bN.1 s6 _ (cz uG)
 .have hq:=kY i j hi hj;refine⟨w.heap.size,0,rfl,λAg=>?_,aH,?_⟩
  .rcases Ag with hx|⟨id,hx⟩
   .have:=hB _ hx;have:=r.he.size;omega
   .have:=(r.hw id _ hx).2;omega
  .rw [bY,World.cell?_alloc_new];simp[hq]
 .have hq:=kY i j hi hj;have uG:i*sz+j<l.length:= aC ;have e1:cs.getD (i*sz+j) undef=cs[i*sz+j]:=by simp[hq]
  rw[e1,bd,bt uG];exact hl.kA (hr.kA (i*sz+j) _ _ (bt uG) (by simp[hq]))
def agv{l:List E}{vs:List Value}{bs br:Nat->Prop}{w:World}(h:jX bs br w l vs)(hl:l.all E.mO=true):∀ v ∈ vs,qf v=false:=by
 intro v hv;obtain⟨i,hi⟩:=dp.1 hv;obtain⟨yB,_⟩:=b5.1 hi;have Ff:i<l.length:=by have:=h.len;omega
 exact(h.kA i _ v (bt Ff) hi).mO (bN.1 hl _ (cz Ff))
def QU(w:World)(hT:lY P T){t e:TypeId}{by_:Nat}(h:Ht T t=some (e,by_)):∃ te zv uz,P.underlying t=some (.slice e)/\mj T e=some te/\te.i.size=1/\te.i.bytes=by_/\1<=by_/\te.i.zero=some zv/\zv.cells = #[uz]/\uz.oneCell'=true/\qf uz=false:=by
 unfold Ht at h;split at h
 .rename_i tt qc;split at h
  .rename_i e' hd;split at h
   .rename_i te nf;split at h
    .rename_i z hz;split at h
     .rename_i hc;simp only[bu,bL]at h;obtain⟨rfl,rfl⟩:=h;simp only[bE]at hc;obtain⟨zv,sD,ru⟩:=Ee hz;obtain⟨q1,q2⟩:=ru (λ_=>False) (λ_=>False) w;have hl:=q1.len;simp only[dq,cM,amo]at hl;obtain⟨uz,Uj⟩:∃ uz,zv.cells = #[uz]:=by
       refine⟨zv.cells[0],?_⟩;apply Array.ext
       .simpa using hl
       .intro i h1 h2;obtain rfl:i=0:=by simp at h2;omega
        rfl
      rw[Uj]at q1 q2;exact⟨te,zv,uz,by rw[hT.qG qc,hd],nf,kG.1 hc.1.1,rfl,cE hc.1.2,sD,Uj,q2 uz aH,(q1.kA 0 z uz rfl rfl).mO hc.2⟩
     .cases h
    .cases h
   .cases h
  .cases h
 .cases h
def ny.head{v:Value}{T:TypeId}{n sz:Nat}{f:Nat->Nat->Value}{nl:Bool}(h:ny w v T n sz f nl):v.cells.toList=[v]/\v.oneCell'=true/\qf v=false:=by
 rcases h with⟨g,_⟩|⟨b1,c1,cur,g,_⟩<;>rw[g]<;>exact⟨rfl,rfl,rfl⟩
def aey(hT:lY P T){t:TypeId}{n q:Nat}{ps:Array (Nat×Operand)}(ik:o.op = .buildSlice t n ps)(sA:AL σ ps.toList=some q)(r:iS w0 B σ a w L)(h:Bu T σ o.dst t n q=some u):jM P K w0 B σ o a w u:=by
 obtain⟨x,oC,hx⟩:∃ x,ps.toList=[(0,x)]/\σ.op x = .own q:=by
  unfold AL at sA;split at sA
  .rename_i x oC;refine⟨x,oC,?_⟩;generalize σ.op x=p at sA ⊢;cases p<;>simp only[PV.DQ,reduceCtorEq,bu]at sA;rw[sA]
  .cases sA
 have Uo:=r.op x;rw[hx]at Uo;obtain⟨k1,k2⟩:=Uo;unfold Bu at h;split at h
 .rename_i id IN;split at h
  .rename_i nl T0 m sz el e by_ kj uC Aj;split at h
   .rename_i hc;cases h;simp only[bE,dI]at hc;obtain rfl:=kG.1 hc.1;have jf:id≠q:=λe=>by have:=hc.2;rw[e,cg]at this;cases this
    obtain⟨te,zv,uz,hu,nf,s8,_,_,sD,Av,_,_⟩:=QU w hT Aj;obtain⟨f,g1,g2,g3⟩:=r.hb q _ uC;obtain⟨d1,d2,d3⟩:=g1.head;have ky:(execOp a.eval o).run P w = .ok (.value (.slice (some ⟨w.heap.size,0,none⟩) 1 1)) (w.alloc (.cells #[L.val q] e)):=by
     have mL:(Array.range (1*te.i.size)).map (zv.cells[· % zv.cells.size]!) = #[uz]:=by
      rw[s8,Av];refine Array.ext aH λi h1 h2=>?_
      have:i=0:=by simp at h2;omega
      subst this;simp
     have IP:Instr.fill (λi=>some (i*te.i.size,te.i.size)) #[uz] (ps.map λ(x:Nat×Operand)=>(x.1,a.eval x.2)).toList=some #[L.val q]:=by
      rw[Oh,oC];simp only[dX,List.map_nil];rw[St _ _ _ _ _ 0 (by rw[k2,d1,s8];rfl) (by rw[k2,d1];simp)];rw[k2,d1];rfl
     have tN:¬(1*te.i.size>16777216):= aC ;have h0:¬(1*te.i.size=0):= aC ;simp only[execOp,ik,Instr.buildSlice,Sem.run_bind,run_underlying hu,Result.andThen_ok,tu hT w nf,tN,bj,h0,Sem.run_pure,OU hT w nf sD,mL,IP,newRow,run_newObj_alloc]
    have im:w.heap.size<(w.alloc (.cells #[L.val q] e)).heap.size:= aH ;have hb:Below w.heap.size w (w.alloc (.cells #[L.val q] e)):=(Below.refl _ _).alloc (bc _) _;refine⟨_,_,_,.inl ky,r.qv jf _ (λx=>x=w.heap.size\/L.own q x) (.slice (some ⟨w.heap.size,0,none⟩) 1 1) (λ_=>L.val q) _ (λy hy=>?_) hb.size (λy hy _=>hb.block y hy) rfl rfl rfl (λhl=>?_) (λMF=>?_) (λhn=>?_),Lk.Nj jf,Lk.FJ.symm⟩
    .rcases hy with rfl|hy
     .exact ⟨.inr (.inr (bc _)),im⟩
     .exact ⟨.inr (.inl hy),eZ (r.hw q y hy).2 im⟩
    .refine .inr ⟨w.heap.size,1,#[L.val q],λ_=>f,Lk.FJ,heap_alloc_new w _,bc _,aE,rfl,λk hk _=>?_,λv hv=>?_,λk hk=>?_,λy=>?_,λk k' y hk Fi _ _=> aC,λk hk=>?_⟩
     .obtain rfl:k=0:= aC ;rw[Lk.xF];rfl
     .have:v=L.val q:=by simpa using hv
      rw[this];exact d3
     .rw [Lk.xF];exact⟨g1.block λy hy=>hb.block y (r.hw q y ((g2 y).2 hy)).2,λi j hi hj=>⟨hl.kA (g3 i j hi hj).1,(g3 i j hi hj).2⟩⟩
     .rw [Lk.U7];constructor
      .rintro (h|h)
       .exact .inl h
       .exact .inr ⟨0,aE,by rw[Lk.xF];exact(g2 y).1 h⟩
      .rintro (h|⟨k,_,h⟩)
       .exact .inl h
       .rw [Lk.xF]at h;exact .inr ((g2 y).2 h)
     .rw [Lk.xF];intro h;have:=(r.hw q _ ((g2 _).2 h)).2;omega
    .have:=(r.hv id).1 MF;rw[kj]at this;cases this
    .have:=r.hl hn q _ uC;exact this
   .cases h
  .cases h
 .cases h
def aec(hT:lY P T)(hB:∀ b,B b->b<w0.heap.size){t:TypeId}{n:Nat}{ps:Array (Nat×Operand)}(ik:o.op = .buildSlice t n ps)(r:iS w0 B σ a w L)(h:jk P K T O σ o=some u):jM P K w0 B σ o a w u:=by
 simp only[jk,ik]at h;split at h
 .rename_i q hq;exact aey hT ik hq r h
 split at h
 .rename_i tt qc;split at h
  .rename_i e hd;split at h
   .rename_i te nf;split at h
    .rename_i z hz;split at h
     .rename_i hc;simp only[bE]at hc;have c1:=kG.1 hc.1.1;have c2:=cE hc.2;obtain⟨zv,sD,ru⟩:=Ee hz;obtain⟨q1,q2⟩:=ru (iY B L) (ju L) w;have hu:P.underlying t=some (.slice e):=by rw[hT.qG qc,hd]
      have B5:zv.cells.size=te.i.size:=by have:=q1.len;simp only[dq]at this;omega
      obtain⟨l,hl,h⟩:=gr.1 h;obtain⟨cs,p1,p2,p3⟩:=LK r hl (aiR q1 n) (λv hv=>by
       simp only[fL,fM]at hv;obtain⟨q,hq,rfl⟩:=hv;have Dz:0<zv.cells.size:=by
        rcases dY zv.cells.size with h0|h0
        .rw [h0]at hq;simp at hq
        .exact h0
       rw[eV zv.cells _ (bF q Dz)];exact q2 _ aH)
      have hlen:l.length=n*te.i.size:=by
       have:∀ (ps:List (Nat×Operand)) (l m:List E),rW σ (λi=>some (i*te.i.size,te.i.size)) l ps=some m->m.length=l.length:=by
        intro ps
        induction ps with
        |nil=>intro l m h;simp only[rW]at h;cases h;rfl
        |cons p ps ih=>
         intro l m h;obtain⟨i,x⟩:=p;simp only[rW]at h;split at h
         .split at h
          .split at h
           .rename_i hc;simp only[bE]at hc;have:=cE hc.2;rw[ih _ _ h];simp[AM];omega
           .cases h
          .cases h
         .cases h
       rw[this _ _ _ hl,W4,c1]
      have mL:cs.size=n*te.i.size:=by have:=p2.len;simp only[dq]at this;omega
      have IP:Instr.fill (λi=>some (i*te.i.size,te.i.size)) ((Array.range (n*te.i.size)).map (zv.cells[· % zv.cells.size]!)) (ps.map λ(x:Nat×Operand)=>(x.1,a.eval x.2)).toList=some cs:=by
       rw[Oh,<-B5];rw[<-B5]at p1;exact p1
      have ky:(execOp a.eval o).run P w = .ok (.value (.slice (some ⟨w.heap.size,0,none⟩) n n)) (w.alloc (.cells cs e)):=by
       have tN:¬(n*te.i.size>16777216):= aC ;by_cases h0:n*te.i.size=0
       .have e0:∀ g:Nat->Value,(Array.range 0).map g = #[]:=λg=>by simp[Array.range]
        have TD:=IP;rw[h0,e0]at TD;have z24:¬(0>2^24):= aE ;simp only[execOp,ik,Instr.buildSlice,Sem.run_bind,run_underlying hu,Result.andThen_ok,tu hT w nf,tN,bj,h0,z24,bw,Sem.run_pure,e0,TD,newRow,run_newObj_alloc]
       .simp only[execOp,ik,Instr.buildSlice,Sem.run_bind,run_underlying hu,Result.andThen_ok,tu hT w nf,tN,bj,h0,Sem.run_pure,OU hT w nf sD,IP,newRow,run_newObj_alloc]
      have mc:n<=9223372036854775807:=by
       have:=fZ n (cE hc.1.2);omega
      by_cases s6:l.all (E.nr 2)=true
      .simp only[s6,eR,bB,bj]at h;split at h
       .
        obtain⟨id,IN,kj,jx,rfl⟩:=FV h;have hb:Below w.heap.size w (w.alloc (.cells cs e)):=(Below.refl _ _).alloc (bc _) _;have ht:rh L w id (λx=>x=w.heap.size) (w.alloc (.cells cs e)):=⟨λx hx=>⟨.inr aC,aN⟩,hb.size,λx hx _=>hb.block x hx,rfl,rfl,rfl⟩
        have im:=ht.later (.slice (some ⟨w.heap.size,0,none⟩) n n) (λ_=>undef);have BJ:∀ i j,i<n->j<te.i.size->i*te.i.size+j<n*te.i.size:=by
         intro i j hi hj;have:=bK te.i.size (show i+1<=n from hi);rw[bS,bU]at this;omega
        refine⟨_,_,_,.inl ky,r.new id _ (λx=>x=w.heap.size) (.slice (some ⟨w.heap.size,0,none⟩) n n) (λ_=>undef) _ kj (λx hx=>by subst hx;simp) hb
         ⟨λi j=>cs.getD (i*te.i.size+j) undef,.inr ⟨w.heap.size,n,cs,Lk.ph,heap_alloc_new w _,bc _,by unfold maxLen;omega,mL,λi j hi hj=>?_,λhn u hu=>?_⟩,λx=>?_,λi j hi hj=>?_⟩ jx,Lk.AX,Lk.ph.symm⟩
        .have hq:i*te.i.size+j<cs.size:=by rw[mL];exact BJ i j hi hj
         have e1:cs.getD (i*te.i.size+j) undef=cs[i*te.i.size+j]:=by simp[hq]
         show cs[i*te.i.size+j]? = some (cs.getD (i*te.i.size+j) undef)/\(cs.getD (i*te.i.size+j) undef).oneCell'=true;rw[e1];exact⟨by simp[hq],p3 _ aH⟩
        .exact agv p2 hn u (by simpa using hu)
        .rw [Lk.sN,Lk.ph];simp only[Value.ownBlock,bu];exact eq_comm
        .have hq:i*te.i.size+j<cs.size:=by rw[mL];exact BJ i j hi hj
         have wN:i*te.i.size+j<l.length:=by rw[hlen];exact BJ i j hi hj
         have e1:cs.getD (i*te.i.size+j) undef=cs[i*te.i.size+j]:=by simp[hq]
         simp only[bd,bt wN,amp,e1];exact⟨im.kA (p2.kA _ _ _ (bt wN) (by simp[hq])),bN.1 s6 _ (cz wN)⟩
       split at h
       .rename_i II;cases h;obtain⟨r',hp⟩:=X7 hB r e n te.i.size l cs true p2 p3 mL mc (λ_=>II) s6;exact⟨_,_,L,.inl ky,r',hp⟩
       .cases h;obtain⟨r',hp⟩:=X7 hB r e n te.i.size l cs false p2 p3 mL mc (λh=>by cases h) s6;exact⟨_,_,L,.inl ky,r',hp⟩
      .simp [s6]at h
     .cases h
    .cases h
   .cases h
  .cases h
 .cases h
end
def Ij{P:Program}{t e:TypeId}(h:P.underlying t=some (.slice e)):P.elem t=e:=by simp[Program.elem,h]
def acY{P:Program}{t e:TypeId}{n:Nat}(h:P.underlying t=some (.array n e)):P.elem t=e/\P.arrayLen t=n:=by simp[Program.elem,Program.arrayLen,h]
section
variable {P:Program} {K:World->Prop} {T:List TI} {O:pK} {w0:World} {B:Nat->Prop} {σ:PS} {o:Oper} {a:Act} {w:World} {L:Lk} {u:kp}
def aei(hT:lY P T){t:TypeId}{x i:Operand}(ik:o.op = .indexAddr t x i)(r:iS w0 B σ a w L)(h:jk P K T O σ o=some u)(ho:∀ q,q ∈ u.jo->q):jM P K w0 B σ o a w u:=by
 simp only[jk,ik,Ik]at h;have hx:=r.op x;have hi:=r.op i;split at h
 .rename_i k z hpi;rw[hpi]at hi;have hi:=ix.ku hi;split at h
  .rename_i tt qc;split at h
   .
    rename_i e hd;have hu:P.underlying t=some (.slice e):=by rw[hT.qG qc,hd]
    have he:=Ij hu;split at h
    .rename_i te nf;have ky:∀ (ad:Addr) (n c:Nat),a.eval x = .slice (some ad) n c->0<=z->z<n->(execOp a.eval o).run P w = .ok (.value (.pointer (some (ad.add (z.toNat*te.i.size))))) w:=by
      intro ad n c e1 h0 h1;have hr:=run_indexAt_slice (P:=P) w t ad n c k z (by rw[he];exact hu);rw[aZ ⟨h0,h1⟩,he,tu hT w nf]at hr;simp only[execOp,ik,e1,hi,Sem.run_bind,hr,Result.andThen_ok,Sem.run_pure]
     split at h
     .rename_i nl n sz el oC;rw[oC]at hx;split at h
      .rename_i hs;simp only[bE]at hs;have s7:=cE hs.2;have hs:=kG.1 hs.1;cases h;have hz:0<=z/\z<n:=ho _ aH;have yM:z.toNat<n:= aC ;generalize hq:a.eval x=q at hx;cases hx with
       |sl _ _ _ _ A c f hc hm h0 hl s6 cell kk=>
        obtain⟨b,of,e1,hb,im,_⟩:=cell z.toNat 0 yM s7;subst e1;refine jM.pure r (ky ⟨b,of,none⟩ n c hq hz.1 hz.2) rfl ?_;rw[Addr.add_lit,hs];refine .iM sz _ b _ (λj=>f z.toNat j) (λhm=>hb (.inr hm)) im (λj hj=>(hl _ _ yM hj).1) (λj hj=>?_) (λj hj=>kk _ _ yM hj);obtain⟨b',of',e2,_,_,E9⟩:=cell z.toNat j yM hj;cases e2;rwa[<-cQ]at E9
      .cases h
     .rename_i fl nl n sz el oC;rw[oC]at hx;split at h
      .rename_i hs;simp only[bE]at hs;have s7:=cE hs.2;have hs:=kG.1 hs.1;cases h;have hz:0<=z/\z<n:=ho _ aH;have yM:z.toNat<n:= aC ;generalize hq:a.eval x=q at hx;cases hx with
       |mY _ _ _ _ _ A c f hc hm h0 hl s6 cell kk=>
        obtain⟨b,of,e1,hb,im,_⟩:=cell z.toNat 0 yM s7;subst e1;refine jM.pure r (ky ⟨b,of,none⟩ n c hq hz.1 hz.2) rfl ?_;rw[Addr.add_lit,hs];refine .iM sz _ b _ (λj=>f z.toNat j) hb im (λj hj=>(hl _ _ yM hj).1) (λj hj=>?_) (λj hj=>kk _ _ yM hj);obtain⟨b',of',e2,_,_,E9⟩:=cell z.toNat j yM hj;cases e2;rwa[<-cQ]at E9
      .cases h
     .rename_i id oC;rw[oC]at hx;split at h
      .rename_i nl T1 n sz el jd;split at h
       .rename_i hs;have hs:=kG.1 hs;cases h;have hz:0<=z/\z<n:=ho _ aH;obtain⟨f,h1,h2,h3⟩:=r.hb id _ jd;obtain⟨k1,k2⟩:=hx;rcases h1 with⟨h1,qq⟩|⟨b,c,cur,h1,hg,oB,nG,mL,j8,jx⟩
        .omega
        .rw [h1]at k2;refine jM.pure r (ky ⟨b,0,none⟩ n c k2 hz.1 hz.2) rfl ⟨k1,b,n,c,h1,?_⟩;rw[Addr.add_lit,hs,bY,bR]
       .cases h
      .rename_i nl T1 T0 n sz len el pend jd;split at h
       .rename_i hs;have hs:=kG.1 hs;cases h;have hz:0<=z/\z<n:=ho _ aH;obtain⟨b,c,cur,f,h1,h2,h3,h4,h5,h6,h7,h8,h9,pM,rJ⟩:=(r.hb id _ jd).vZ aC;obtain⟨k1,k2⟩:=hx;rw[h1]at k2;refine jM.pure r (ky ⟨b,0,none⟩ n c k2 hz.1 hz.2) rfl ⟨k1,b,n,c,h1,?_⟩;rw[Addr.add_lit,hs,bY,bR]
       .cases h
      .cases h
     .rename_i id k oC;rw[oC]at hx;split at h
      .rename_i nl T1 T0 n sz len el pend jd;split at h
       .rename_i hs;have hs:=kG.1 hs;cases h;have hk:k<n:=ho _ aH;have hz:0<=z/\z<len k:=ho _ aH;obtain⟨b0,c0,cur0,f,g1,g2,g3,g4,g5,g6,g7,g8,_⟩:=(r.hb id _ jd).vZ aC;obtain⟨k1,k2⟩:=hx;rcases(g8 k hk).1 with⟨h1,qq⟩|⟨b,c,cur,h1,hg,oB,nG,mL,j8,jx⟩
        .omega
        .rw [h1]at k2;refine jM.pure r (ky ⟨b,0,none⟩ (len k) c k2 hz.1 hz.2) rfl ⟨k1,b,len k,c,h1,?_⟩;rw[Addr.add_lit,hs,bY,bR]
       .cases h
      .cases h
     .cases h
    .cases h
   .
    rename_i n e hd;have hu:P.underlying t=some (.array n e):=by rw[hT.qG qc,hd]
    obtain⟨he,hn⟩:=acY hu;split at h
    .rename_i te nf;have ky:∀ (ad:Addr),a.eval x = .pointer (some ad)->0<=z->z<n->(execOp a.eval o).run P w = .ok (.value (.pointer (some (ad.add (z.toNat*te.i.size))))) w:=by
      intro ad e1 h0 h1;have hr:=run_indexAt_array (P:=P) w t ad k z (by rw[he,hn];exact hu);rw[hn,aZ ⟨h0,h1⟩,he,tu hT w nf]at hr;simp only[execOp,ik,e1,hi,Sem.run_bind,hr,Result.andThen_ok,Sem.run_pure]
     split at h
     .rename_i id off oC;rw[oC]at hx;cases h;have hz:0<=z/\z<n:=ho _ aH;obtain⟨k1,b,k2,k3⟩:=hx;refine jM.pure r (ky _ k3 hz.1 hz.2) rfl ⟨k1,b,k2,?_⟩;rw[Addr.add_lit]
     .rename_i m el oC;rw[oC]at hx;split at h
      .rename_i hs;have hs:=kG.1 hs;cases h;have hz:0<=z/\z<n:=ho _ aH;have kY:∀ j,j<te.i.size->z.toNat*te.i.size+j<m:=by
        intro j hj;rw[<-hs];have:=bK te.i.size (aC:z.toNat+1<=n);rw[bS,bU]at this;omega
       generalize hq:a.eval x=q at hx;cases hx with
       |iM _ _ b of f hb im hl cell kk=>
        refine jM.pure r (ky _ hq hz.1 hz.2) rfl ?_;rw[Addr.add_lit];refine .iM te.i.size _ b _ (λj=>f (z.toNat*te.i.size+j)) hb im (λj hj=>hl _ (kY j hj)) (λj hj=>?_) (λj hj=>kk _ (kY j hj));have:=cell _ (kY j hj);rwa[<-cQ]at this
      .cases h
     .cases h
    .cases h
   .cases h
  .cases h
 .cases h
def aev(hT:lY P T){t:TypeId}{x:Operand}{lo hi:Option Operand}(ik:o.op = .slice t x lo hi none)(r:iS w0 B σ a w L)(h:jk P K T O σ o=some u)(ho:∀ q,q ∈ u.jo->q):jM P K w0 B σ o a w u:=by
 simp only[jk,ik,Io]at h;have hx:=r.op x;split at h
 .rename_i nl n sz el oC;rw[oC]at hx;split at h
  .rename_i tt qc;split at h
   .rename_i e hd;have hu:P.underlying t=some (.slice e):=by rw[hT.qG qc,hd]
    have he:=Ij hu;have wP:P.underlying t=some (.slice (P.elem t)):=by rw[he];exact hu
    split at h
    .rename_i te nf;split at h
     .rename_i hs;have hs:=kG.1 hs;generalize hq:a.eval x=q at hx;cases hx with
      |sl _ _ _ _ A c f hc hm h0 hl s6 cell kk=>
       have fin:∀ l h':Nat,l<=h'->h'<=n->ix (iY B L) (ju L) w (.sl nl (h'-l) sz λi j=>el (l+i) j) (sliced A l h' c te.i.size):=by
        intro l h' hlh hhn;unfold sliced;refine .sl nl (h'-l) sz _ _ (c-l) (λi j=>f (l+i) j) aC aC (λhA=>?_) (λi j hi hj=>hl _ _ aC hj) (λi j hi hj=>s6 _ _ aC hj) (λi j hi hj=>?_) (λi j hi hj=>kk _ _ aC hj)
        .split at hA
         .have:=h0 hA;omega
         .have:=h0 (by simpa using hA);omega
        .obtain ⟨b,of,e1,hb,im,j8⟩:=cell (l+i) j aC hj;subst e1;rw[aY aC];refine⟨b,of+l*te.i.size,by rw[ct,Addr.add_lit],hb,im,?_⟩;rw[hs];rw[bS]at j8;rw[<-j8];congr 2;omega
       have run:∀ (l h':Nat) (lo' mi:Option Value),lo.map a.eval=lo'->hi.map a.eval=mi->(Instr.slice t (.slice A n c) lo' mi none).run P w = .ok (sliced A l h' c te.i.size) w ->
        (execOp a.eval o).run P w = .ok (.value (sliced A l h' c te.i.size)) w:=by
        intro l h' lo' mi e1 e2 hr;simp only[execOp,ik,Sem.run_bind,hq,e1,e2,Option.map_none,run_sliceAt_slice (P:=P) w t _ _ _ _ wP,hr,Result.andThen_ok,Sem.run_pure]
       split at h
       .rename_i kh hh qa rp;cases h;have hb:0<=hh/\hh<=n:=ho _ aH;cases lo with
        |some _=>simp at qa
        |none=>
         cases hi with
         |none=>simp at rp
         |some hi=>
          simp only[ct,bu]at rp;have hv:=r.op hi;rw[rp]at hv;have hv:=ix.ku hv;have hr:=run_slice_h (P:=P) w t A n c wP kh hh hb.1 aC;rw[he,tu hT w nf]at hr;have hf:=fin 0 hh.toNat (bV _) aC ;simp only[dr,bY]at hf;exact jM.pure r (run 0 hh.toNat none (some (.int kh hh)) rfl (by rw[ct,hv]) hr) rfl hf
       .rename_i kl ll qa rp;cases h;have hb:0<=ll/\ll<=n:=ho _ aH;cases hi with
        |some _=>simp at rp
        |none=>
         cases lo with
         |none=>simp at qa
         |some lo=>
          simp only[ct,bu]at qa;have hv:=r.op lo;rw[qa]at hv;have hv:=ix.ku hv;have hr:=run_slice_l (P:=P) w t A n c wP kl ll hb.1 hb.2;rw[he,tu hT w nf]at hr;exact jM.pure r (run ll.toNat n (some (.int kl ll)) none (by rw[ct,hv]) rfl hr) rfl (fin ll.toNat n aC (bc _))
       .rename_i kl ll kh hh qa rp;cases h;have hb:0<=ll/\ll<=hh/\hh<=n:=ho _ aH;cases hi with
        |none=>simp at rp
        |some hi=>
         cases lo with
         |none=>simp at qa
         |some lo=>
          simp only[ct,bu]at qa rp;have hv:=r.op lo;rw[qa]at hv;have hv:=ix.ku hv;have qT:=r.op hi;rw[rp]at qT;have qT:=ix.ku qT;have hr:=run_slice_lh (P:=P) w t A n c wP kl kh ll hh hb.1 hb.2.1 aC;rw[he,tu hT w nf]at hr;exact jM.pure r (run ll.toNat hh.toNat (some (.int kl ll)) (some (.int kh hh)) (by rw[ct,hv]) (by rw[ct,qT]) hr) rfl (fin ll.toNat hh.toNat aC aC)
       .cases h
     .cases h
    .cases h
   .cases h
  .cases h
 .rename_i fl nl n sz el oC;rw[oC]at hx;split at h
  .rename_i tt qc;split at h
   .rename_i e hd;have hu:P.underlying t=some (.slice e):=by rw[hT.qG qc,hd]
    have he:=Ij hu;have wP:P.underlying t=some (.slice (P.elem t)):=by rw[he];exact hu
    split at h
    .rename_i te nf;split at h
     .rename_i hs;have hs:=kG.1 hs;generalize hq:a.eval x=q at hx;cases hx with
      |mY _ _ _ _ _ A c f hc hm h0 hl s6 cell kk=>
       have fin:∀ l h':Nat,l<=h'->h'<=n->ix (iY B L) (ju L) w (.mY fl nl (h'-l) sz λi j=>el (l+i) j) (sliced A l h' c te.i.size):=by
        intro l h' hlh hhn;unfold sliced;refine .mY fl nl (h'-l) sz _ _ (c-l) (λi j=>f (l+i) j) aC aC (λhA=>?_) (λi j hi hj=>hl _ _ aC hj) (λhf i j hi hj=>s6 hf _ _ aC hj) (λi j hi hj=>?_) (λi j hi hj=>kk _ _ aC hj)
        .split at hA
         .have:=h0 hA;omega
         .have:=h0 (by simpa using hA);omega
        .obtain ⟨b,of,e1,hb,im,j8⟩:=cell (l+i) j aC hj;subst e1;rw[aY aC];refine⟨b,of+l*te.i.size,by rw[ct,Addr.add_lit],hb,im,?_⟩;rw[hs];rw[bS]at j8;rw[<-j8];congr 2;omega
       have run:∀ (l h':Nat) (lo' mi:Option Value),lo.map a.eval=lo'->hi.map a.eval=mi->(Instr.slice t (.slice A n c) lo' mi none).run P w = .ok (sliced A l h' c te.i.size) w ->
        (execOp a.eval o).run P w = .ok (.value (sliced A l h' c te.i.size)) w:=by
        intro l h' lo' mi e1 e2 hr;simp only[execOp,ik,Sem.run_bind,hq,e1,e2,Option.map_none,run_sliceAt_slice (P:=P) w t _ _ _ _ wP,hr,Result.andThen_ok,Sem.run_pure]
       split at h
       .rename_i kh hh qa rp;cases h;have hb:0<=hh/\hh<=n:=ho _ aH;cases lo with
        |some _=>simp at qa
        |none=>
         cases hi with
         |none=>simp at rp
         |some hi=>
          simp only[ct,bu]at rp;have hv:=r.op hi;rw[rp]at hv;have hv:=ix.ku hv;have hr:=run_slice_h (P:=P) w t A n c wP kh hh hb.1 aC;rw[he,tu hT w nf]at hr;have hf:=fin 0 hh.toNat (bV _) aC ;simp only[dr,bY]at hf;exact jM.pure r (run 0 hh.toNat none (some (.int kh hh)) rfl (by rw[ct,hv]) hr) rfl hf
       .rename_i kl ll qa rp;cases h;have hb:0<=ll/\ll<=n:=ho _ aH;cases hi with
        |some _=>simp at rp
        |none=>
         cases lo with
         |none=>simp at qa
         |some lo=>
          simp only[ct,bu]at qa;have hv:=r.op lo;rw[qa]at hv;have hv:=ix.ku hv;have hr:=run_slice_l (P:=P) w t A n c wP kl ll hb.1 hb.2;rw[he,tu hT w nf]at hr;exact jM.pure r (run ll.toNat n (some (.int kl ll)) none (by rw[ct,hv]) rfl hr) rfl (fin ll.toNat n aC (bc _))
       .rename_i kl ll kh hh qa rp;cases h;have hb:0<=ll/\ll<=hh/\hh<=n:=ho _ aH;cases hi with
        |none=>simp at rp
        |some hi=>
         cases lo with
         |none=>simp at qa
         |some lo=>
          simp only[ct,bu]at qa rp;have hv:=r.op lo;rw[qa]at hv;have hv:=ix.ku hv;have qT:=r.op hi;rw[rp]at qT;have qT:=ix.ku qT;have hr:=run_slice_lh (P:=P) w t A n c wP kl kh ll hh hb.1 hb.2.1 aC;rw[he,tu hT w nf]at hr;exact jM.pure r (run ll.toNat hh.toNat (some (.int kl ll)) (some (.int kh hh)) (by rw[ct,hv]) (by rw[ct,qT]) hr) rfl (fin ll.toNat hh.toNat aC aC)
       .cases h
     .cases h
    .cases h
   .cases h
  .cases h
 .cases h
end
section
variable {P:Program} {K:World->Prop} {T:List TI} {O:pK} {w0:World} {B:Nat->Prop} {σ:PS} {o:Oper} {a:Act} {w:World} {L:Lk} {u:kp}
def abK{x:Value}{l:List E}(h:(E.v x).cells? = some l):∀ e,e ∈ l->e.nr 2=true:=by
 intro e he;cases x<;>simp only[E.cells?]at h
 case agg cs=>
  split at h
  .cases h;obtain⟨q,_,rfl⟩:=dg.1 he;rfl
  .cases h
 all_goals
  split at h
  .cases h;simp only[gp]at he;subst he;rfl
  .cases h
def alN{ti:TI}{l:List E}(h:xR ti=some l):∀ e,e ∈ l->e.nr 2=true:=by
 unfold xR at h;split at h
 .exact abK h
 .cases h
def Ns{l:List E}{vs:List Value}{bs br:Nat->Prop}(h:jX bs br w l vs)(hl:l.all E.mO=true):∀ v ∈ vs,qf v=false:=by
 intro v hv;obtain⟨q,hq⟩:=dp.1 hv;have wN:q<l.length:=by rw[<-h.len];exact(b5.1 hq).1
 exact(h.kA q _ v (bt wN) hq).mO (bN.1 hl _ (cz wN))
def Vu{z:Array Value}{n q:Nat}(hz:0<z.size)(hq:q<n):(madeCells z n)[q]? = some (z[q%z.size]'(bF _ hz)):=by
 unfold madeCells;simp[hq];rw[eV z _ (bF _ hz)]
def Vv{z:Array Value}{n:Nat}(hz:0<z.size){v:Value}(hv:v ∈ madeCells z n):v ∈ z:=by
 unfold madeCells at hv;simp only[fL,fM]at hv;obtain⟨q,hq,rfl⟩:=hv;rw[eV z _ (bF _ hz)];exact gh _
def aeo(hT:lY P T){t:TypeId}{l c:Operand}(ik:o.op = .makeSlice t l c)(r:iS w0 B σ a w L)(h:jk P K T O σ o=some u)(ho:∀ q,q ∈ u.jo->q):jM P K w0 B σ o a w u:=by
 simp only[jk,ik,Im]at h;have hl:=r.op l;have hc:=r.op c;split at h
 .rename_i bx jo iU;obtain⟨id,IN,kj,jx,rfl⟩:=FV h;clear h;simp only[Sa]at iU;split at iU
  rotate_left
  .cases iU
  rename_i kl zl kc zc BR hpc;rw[BR]at hl;rw[hpc]at hc;have hl:=ix.ku hl;have hc:=ix.ku hc;split at iU
  .rename_i tt qc;split at iU
   .rename_i e hd;have hu:P.underlying t=some (.slice e):=by rw[hT.qG qc,hd]
    split at iU
    .rename_i te nf;split at iU
     .rename_i z hz;split at iU
      .rename_i yz;simp only[bE]at yz;have c1:=kG.1 yz.1;have c2:=cE yz.2;obtain⟨zv,sD,ru⟩:=Ee hz;obtain⟨q1,q2⟩:=ru (iY B L) (ju L) w;have B5:zv.cells.size=te.i.size:=by have:=q1.len;simp only[dq]at this;omega
       have Dz:0<zv.cells.size:= aC ;have key:∀ (h1:0<=zl/\zl<=zc) (h2:(te.i.bytes:Int)*zc<=281474976710656/\zc<=9223372036854775807),
        (execOp a.eval o).run P w = .ok (.value (.slice (some ⟨w.heap.size,0,none⟩) zl.toNat zc.toNat)) (w.alloc (.cells (madeCells zv.cells (zc.toNat*te.i.size)) e)):=by
        intro h1 h2;have hr:=run_make (P:=P) w t e te.i zv hu (hT.yO nf) sD kl kc zl zc h1.1 h1.2 h2.1 h2.2;simp only[execOp,ik,hl,hc,Sem.run_bind,hr,Result.andThen_ok,Sem.run_pure]
       have hb:∀ o':Obj,Below w.heap.size w (w.alloc o'):=λo'=>(Below.refl _ _).alloc (bc _) _
       have lens:zl<=zc->zc<=9223372036854775807->zl.toNat<=zc.toNat/\zc.toNat<=maxLen:=by intro h1 h2;unfold maxLen;omega
       split at iU
       .
        rename_i e0 hd0;split at iU
        .rename_i t0 MQ;obtain⟨y,ys,B3,hy,BM⟩:=q1.nc;have hy:=ix.ku hy;have BM:=BM.rM;subst hy BM;have Uu:zv.cells = #[.slice none 0 0]:=by apply di;rw[B3]
         have mo:te.i.size=1:=by rw[<-B5,Uu];rfl
         cases iU;have h1:0<=zl/\zl<=zc:=ho _ aH;have h2:(te.i.bytes:Int)*zc<=281474976710656/\zc<=9223372036854775807:=ho _ aH;have hlen:=lens h1.2 h2.2;have II:∀ v,v ∈ madeCells zv.cells (zc.toNat*te.i.size)->v = .slice none 0 0:=λv hv=>by
          have:=Vv Dz hv;rw[Uu]at this;simpa using this
         refine⟨_,_,_,.inl (key h1 h2),r.new id _ (λx=>x=w.heap.size) (.slice (some ⟨w.heap.size,0,none⟩) zl.toNat zc.toNat) (λ_=>.slice none 0 0) _ kj (λx hx=>by subst hx;simp) (hb _)
          (.inr ⟨w.heap.size,zc.toNat,_,λ_ _ _=>undef,Lk.ph,heap_alloc_new w _,hlen.1,hlen.2,by rw[size_madeCells,mo,bZ],λk hk _=>?_,λv hv=>?_,λk hk=>?_,λx=>?_,λk k' x hk Fi h1=>?_,λk hk=>?_⟩) jx,Lk.AX,Lk.ph.symm⟩
         .rw [Lk.rP];have hq:k<zc.toNat*te.i.size:=by rw[mo];omega
          have hg:=Vu Dz hq;rw[hg];exact congrArg some (II _ (dH hg))
         .rw [II v hv];rfl
         .rw [Lk.rP];exact⟨.inl ⟨rfl,rfl⟩,λi j hi=>absurd hi (bk i)⟩
         .rw [Lk.sN];simp only[Lk.rP,Value.ownBlock];simp
         .rw [Lk.rP]at h1;simp[Value.ownBlock]at h1
         .rw [Lk.rP];simp[Value.ownBlock]
        .cases iU
       .cases iU;have h1:0<=zl/\zl<=zc:=ho _ aH;have h2:(te.i.bytes:Int)*zc<=281474976710656/\zc<=9223372036854775807:=ho _ aH;have hlen:=lens h1.2 h2.2;refine⟨_,_,_,.inl (key h1 h2),r.new id _ (λx=>x=w.heap.size) (.slice (some ⟨w.heap.size,0,none⟩) zl.toNat zc.toNat) (λ_=>undef) _ kj (λx hx=>by subst hx;simp) (hb _)
         ⟨λ_ j=>zv.cells.getD j undef,.inr ⟨w.heap.size,zc.toNat,_,Lk.ph,heap_alloc_new w _,hlen.1,hlen.2,size_madeCells _ _,λi j hi hj=>?_,λhn v hv=>?_⟩,λx=>?_,λi j hi hj=>?_⟩ jx,Lk.AX,Lk.ph.symm⟩
        .have hq:i*te.i.size+j<zc.toNat*te.i.size:=by
          have:=bK te.i.size (aC:i+1<=zc.toNat);rw[bS,bU]at this;omega
         have MH:(i*te.i.size+j)%zv.cells.size=j:=by rw[B5,bD,fH,bX hj]
         have sw:j<zv.cells.size:= aC ;rw[Vu Dz hq];simp only[MH];have e1:zv.cells.getD j undef=zv.cells[j]:=by simp[sw]
         rw[e1];exact⟨rfl,q2 _ aH⟩
        .exact Ns q1 hn v (by have:=Vv Dz hv;simpa using this)
        .rw [Lk.sN,Lk.ph];simp only[Value.ownBlock,bu];exact eq_comm
        .have sw:j<zv.cells.size:= aC ;have MA:j<z.length:= aC ;have e1:zv.cells.getD j undef=zv.cells[j]:=by simp[sw]
         simp only[e1];rw[bd,bt MA];obtain⟨p1,_⟩:=ru (iY B (L.set id (λx=>x=w.heap.size) (.slice (some ⟨w.heap.size,0,none⟩) zl.toNat zc.toNat) (λ_=>undef))) (ju (L.set id (λx=>x=w.heap.size) (.slice (some ⟨w.heap.size,0,none⟩) zl.toNat zc.toNat) (λ_=>undef))) (w.alloc (.cells (madeCells zv.cells (zc.toNat*te.i.size)) e));exact⟨p1.kA j _ _ (bt MA) (by simp[sw]),alN hz _ (cz MA)⟩
      .cases iU
     .cases iU
    .cases iU
   .cases iU
  .cases iU
 .cases h
def aek(hT:lY P T){x:Operand}{t:TypeId}{c:Call}(hc:c={ callee:=.builtin .len,args:=#[x],argTypes:=#[t] })(ik:o.op = .call c){e:TypeId}(hd:wu T t=some (.slice e))(r:iS w0 B σ a w L){rr:Value×List Nat}(h:si (σ.op x) σ=some rr)(hu:u={ r:=.e (.v rr.1),rb:=rr.2 }):jM P K w0 B σ o a w u:=by
 obtain⟨ti,h1,h2⟩:=zU hd;have Ui:P.underlying t=some (.slice e):=by rw[hT.qG h1,h2]
 have he:=Ij Ui;have hx:=r.op x;have key:∀ (A:Option Addr) (n cp:Nat),a.eval x = .slice A n cp->rr.1 = .int .i64 (n:Int)->jM P K w0 B σ o a w u:=by
  intro A n cp e1 e2;have hr:=run_len_slice (P:=P) w t o.type A n cp (by rw[he];exact Ui);subst hu;refine jM.pure r (v:=.int .i64 (n:Int)) ?_ rfl (by rw[e2];exact .v _);subst hc;have em:(#[x]:Array Operand).map a.eval = #[a.eval x]:= aH ;simp only[execOp,ik,resolve,em,e1,Sem.run_bind,Sem.run_pure,Result.andThen_ok,invoke,builtin,hr];rfl
 cases hp:σ.op x with
 |e y=>
  rw[hp]at h hx;cases y with
  |sl nl n sz el=>
   simp only[si,bu]at h;generalize hq:a.eval x=q at hx;cases hx with
   |sl _ _ _ _ A c f hc hm h0 hl s6 cell kk=>exact key A n c hq (by rw[<-h])
  |mY fl nl n sz el=>
   simp only[si,bu]at h;generalize hq:a.eval x=q at hx;cases hx with
   |mY _ _ _ _ _ A c f hc hm h0 hl s6 cell kk=>exact key A n c hq (by rw[<-h])
  |v y=>
   have hx:=ix.ku hx;cases y with
   |slice A n cp=>
    simp only[si,bu]at h;exact key A n cp hx (by rw[<-h])
   |_=>simp[si]at h
  |_=>simp[si]at h
 |own id=>
  rw[hp]at h hx;obtain⟨_,k2⟩:=hx;simp only[si]at h;split at h
  .rename_i nl T1 n sz el jd;simp only[bu]at h;obtain⟨f,q1,_,_⟩:=r.hb id _ jd;rcases q1 with⟨q1,q0⟩|⟨b,c,cur,q1,_⟩
   .rw [q1]at k2;exact key none 0 0 k2 (by rw[<-h,q0])
   .rw [q1]at k2;exact key _ n c k2 (by rw[<-h])
  .rename_i nl T1 T0 n sz len el pend jd;simp only[bu]at h;rcases r.hb id _ jd with⟨q1,q0,_⟩|⟨b,c,cur,f,q1,_⟩
   .rw [q1]at k2;exact key none 0 0 k2 (by rw[<-h,q0])
   rw[q1]at k2;exact key _ n c k2 (by rw[<-h])
  .cases h
 |iC id k=>
  rw[hp]at h hx;obtain⟨_,k2⟩:=hx;simp only[si]at h;split at h
  .rename_i nl T1 T0 n sz len el pend jd;split at h
   .rename_i hk;have hk:k<n:=by simpa[fG]using hk
    simp only[bu]at h;obtain⟨b0,c0,cur0,f,g1,g2,g3,g4,g5,g6,g7,g8,_⟩:=(r.hb id _ jd).vZ aC;rcases(g8 k hk).1 with⟨q1,q0⟩|⟨b,c,cur,q1,_⟩
    .rw [q1]at k2;exact key none 0 0 k2 (by rw[<-h,q0])
    .rw [q1]at k2;exact key _ (len k) c k2 (by rw[<-h])
   .cases h
  .cases h
 |_=>rw[hp]at h;simp[si]at h
end
section
variable {P:Program} {K:World->Prop} {T:List TI} {O:pK} {w0:World} {B:Nat->Prop} {σ:PS} {o:Oper} {a:Act} {w:World} {L:Lk} {u:kp}
def ny.pT{v:Value}{T:TypeId}{n sz:Nat}{f:Nat->Nat->Value}{nl nl':Bool}(h:ny w v T n sz f nl)(k:nl'=true->nl=true):ny w v T n sz f nl':=by
 rcases h with h|⟨b,c,cur,h1,h2,h3,h4,h5,h6,h7⟩
 .exact .inl h
 .exact .inr ⟨b,c,cur,h1,h2,h3,h4,h5,h6,λq=>h7 (k q)⟩
def Zw{p:PV}{nl:Bool}{n sz:Nat}{el:Nat->Nat->E}(h:p.KV=some (nl,n,sz,el)){v:Value}(hv:mS (iY B L) (ju L) L w p v):∃ (A:Option Addr) (c:Nat) (f:Nat->Nat->Value),v = .slice A n c/\(A=none->c=0)/\n<=c /\
 (∀ i j,i<n->j<sz->(f i j).oneCell'=true/\(nl=true->qf (f i j)=false))/\(∀ i j,i<n->j<sz->∃ b o,A=some ⟨b,o,none⟩/\w.cell? ⟨b,o+(i*sz+j),none⟩=some (f i j)) /\
 ∀ i j,i<n->j<sz->ix (iY B L) (ju L) w (el i j) (f i j)/\(el i j).nr 2=true:=by
 unfold PV.KV at h;split at h
 .cases h;cases hv with
  |sl _ _ _ _ A c f hc hm h0 hl hr cell k=>exact⟨A,c,f,rfl,h0,hc,hl,λi j hi hj=>by obtain⟨b,o,e,_,_,oh⟩:=cell i j hi hj;exact⟨b,o,e,oh⟩,λi j hi hj=>⟨k i j hi hj,hr i j hi hj⟩⟩
 .cases h;cases hv with
  |mY _ _ _ _ _ A c f hc hm h0 hl hr cell k=>exact⟨A,c,f,rfl,h0,hc,hl,λi j hi hj=>by obtain⟨b,o,e,_,_,oh⟩:=cell i j hi hj;exact⟨b,o,e,oh⟩,λi j hi hj=>⟨k i j hi hj,hr rfl i j hi hj⟩⟩
 .cases h
def SY(hT:lY P T){s x:Operand}{t:TypeId}{c:Call}(hc:c={ callee:=.builtin .append,args:=#[s,x],argTypes:=#[t,t] })(ik:o.op = .call c)(r:iS w0 B σ a w L)
 (h:zZ T σ o.dst t (σ.op s) (σ.op x)=some u) (ho:∀ q,q ∈ u.jo->q):jM P K w0 B σ o a w u:=by
 have hs:=r.op s;have hx:=r.op x;simp only[zZ]at h;split at h
 .rename_i nl2 m sz2 el2 oC;obtain⟨A,cx,g,hqx,hg0,hgc,TK,gcell,gk⟩:=Zw oC hx;split at h
  .rename_i tt qc;split at h
   .rename_i e hd;have hu:P.underlying t=some (.slice e):=by rw[hT.qG qc,hd]
    split at h
    .rename_i te nf;split at h
     .rename_i z hz;split at h
      .rename_i yz;simp only[bE]at yz;have c1:=kG.1 yz.1.1.1;have c2:=cE yz.1.1.2;have c3:=cE yz.1.2;have c4:=kG.1 yz.2;obtain⟨zv,sD,ru⟩:=Ee hz;obtain⟨q1,q2⟩:=ru (iY B L) (ju L) w;have B5:zv.cells.size=sz2:=by have:=q1.len;simp only[dq]at this;omega
       have key:∀ (v:Value) (n:Nat) (f:Nat->Nat->Value) (nl:Bool),a.eval s=v->ny w v e n sz2 f nl->(nl=true->nl2=true/\z.all E.mO=true)->(n+m)*te.i.bytes<=140737488355328 ->
        ∃ v' w',(execOp a.eval o).run P w = .ok (.value v') w'/\KE w v e n sz2 m f g nl v' w':=by
        intro v n f nl hv lh jx jg;obtain⟨v',w',hr,lK⟩:=Xj P w t o.type e te.i zv sz2 hu (hT.yO nf) sD c1 B5 aC c3 (λu hu=>q2 u (by simpa using hu)) v n f nl lh A m cx g
         gcell (λhA=>by have:=hg0 hA;omega)
         (λk j hk hj=>⟨(TK k j hk hj).1,λhn=>(TK k j hk hj).2 (jx hn).1⟩) (λhn u hu=>Ns q1 (jx hn).2 u (by simpa using hu)) jg
        refine⟨v',w',?_,lK⟩;subst hc;have em:(#[s,x]:Array Operand).map a.eval = #[a.eval s,a.eval x]:= aH ;simp only[execOp,ik,resolve,em,hv,hqx,Sem.run_bind,Sem.run_pure,Result.andThen_ok,invoke,builtin,hr]
       split at h
       .
        rename_i id sA;rw[sA]at hs;split at h
        .rename_i nl T1 n sz el jd;split at h
         .rename_i oh;simp only[bE]at oh;have d1:=kG.1 oh.1.1;have d2:=kG.1 oh.1.2;subst d1 d2;cases h;have jg:(n+m)*te.i.bytes<=140737488355328:=ho _ aH;obtain⟨f,p1,p2,p3⟩:=r.hb id _ jd;obtain⟨k1,k2⟩:=hs;have jx:(nl&&(nl2&&z.all E.mO))=true->nl2=true/\z.all E.mO=true:=λhn=>by simp only[bE]at hn;exact hn.2
          obtain⟨v',w',ky,lK⟩:=key (L.val id) n f _ k2 (p1.pT λhn=>by simp only[bE]at hn;exact hn.1) jx jg;have ht:rh L w id (λy=>v'.ownBlock=some y) w':=by
           refine⟨λy hy=>?_,lK.size,λy hy kj=>lK.oE y hy λe1=>kj ((p2 y).2 e1),lK.os,lK.tape,lK.output⟩;rcases lK.Ev y hy with e1|⟨e1,e2⟩
           .have:=(p2 y).2 e1;exact⟨.inl this,bJ (r.hw id y this).2 lK.size⟩
           .exact ⟨.inr e1,e2⟩
          have hl:=ht.later v' (L.iC id);have hpt:∀ b,L.val id ≠ .pointer (some b):=λb e1=>by
           rcases p1 with⟨e2,_⟩|⟨_,_,_,e2,_⟩<;>rw[e1]at e2<;>cases e2
          refine⟨v',w',_,.inl ky,r.qP id _ _ v' w' hpt ht ⟨λi j=>if i<n then f i j else g (i-n) j,by rw[Lk.ph];exact lK.own,λy=>by rw[Lk.sN,Lk.ph],λi j hi hj=>(λ(q:ix _ _ _ _ _/\_)=>⟨hl.kA q.1,q.2⟩) (?_:_/\_)⟩ (λhn=>?_),Lk.AX,Lk.ph.symm⟩
          .by_cases kY:i<n
           .simp only[kY,bw];exact p3 i j kY hj
           .simp only[kY,bj];exact gk _ _ aC hj
          .have:=oh.2;rw[hn]at this;simpa[Bx.nl]using this
         .cases h
        .cases h
       .
        rename_i id k sA;rw[sA]at hs;split at h
        .rename_i nl T1 T0 n sz len el jd;split at h
         .rename_i oh;simp only[bE]at oh;have d1:=kG.1 oh.1.1;have d2:=kG.1 oh.1.2;subst d1 d2;cases h;have hk:k<n:=ho _ aH;have jg:(len k+m)*te.i.bytes<=140737488355328:=ho _ aH;obtain⟨b,cp,cur,f,p1,p2,p3,p4,p5,p6,p7,p8,p9,p10,p11⟩:=(r.hb id _ jd).vZ aC;obtain⟨k1,k2⟩:=hs;have jx:nl=true->nl2=true/\z.all E.mO=true:=λhn=>by have:=oh.2;rw[hn]at this;simpa using this
          obtain⟨v',w',ky,lK⟩:=key (L.iC id k) (len k) (f k) nl k2 (p8 k hk).1 jx jg;have uB:∀ y,v'.ownBlock=some y->(L.iC id k).ownBlock=some y\/(w.heap.size<=y/\y<w'.heap.size):=lK.Ev;have tJ:b<w.heap.size:=(r.hw id b ((p9 b).2 (.inl rfl))).2;have An:∀ q y,q<n->(L.iC id q).ownBlock=some y->y<w.heap.size:=λq y hq hy=>(r.hw id y ((p9 y).2 (.inr ⟨q,hq,hy⟩))).2
          have ht:rh L w id (λy=>y=b\/∃ q,q<n/\(if q=k then v' else L.iC id q).ownBlock=some y) w':=by
           refine⟨λy hy=>?_,lK.size,λy hy kj=>lK.oE y hy λe1=>kj ((p9 y).2 (.inr ⟨k,hk,e1⟩)),lK.os,lK.tape,lK.output⟩;rcases hy with rfl|⟨q,hq,hy⟩
           .exact ⟨.inl ((p9 y).2 (.inl rfl)),bJ tJ lK.size⟩
           .by_cases tS:q=k
            .subst tS;rw[aZ rfl]at hy;rcases uB y hy with e1|⟨e1,e2⟩
             .have:=(p9 y).2 (.inr ⟨q,hq,e1⟩);exact⟨.inl this,bJ (r.hw id y this).2 lK.size⟩
             .exact ⟨.inr e1,e2⟩
            .rw [aY tS]at hy;have:=(p9 y).2 (.inr ⟨q,hq,hy⟩);exact⟨.inl this,bJ (r.hw id y this).2 lK.size⟩
          have hl:=ht.later (L.val id) (λq=>if q=k then v' else L.iC id q);have wH:∀ y,y<w.heap.size->(L.iC id k).ownBlock≠some y->w'.heap[y]? = w.heap[y]?:=lK.oE;refine⟨v',w',_,.inl ky,r.uw id _ _ (λq=>if q=k then v' else L.iC id q) w' ht
           (.inr ⟨b,cp,cur,λq i j=>if q=k then(if i<len q then f q i j else g (i-len q) j)else f q i j,by rw[Lk.ph];exact p1,by rw[wH b tJ (p11 k hk)];exact p2,p3,p4,p5,λq hq tS=>?_,p7,λq hq=>?_,λy=>?_,λq q' y hq uG hy rL=>?_,λq hq hy=>?_⟩) (λhn=>?_),Lk.AX,?_⟩
          .have jf:q≠k:=λe1=>tS (by rw[e1])
           rw[Lk.rP,aY jf];exact p6 q hq aH 
          .rw [Lk.rP];by_cases tS:q=k
           .subst tS;simp only[bw];refine⟨lK.own,λi j hi hj=>(λ(q:ix _ _ _ _ _/\_)=>⟨hl.kA q.1,q.2⟩) (?_:_/\_)⟩;by_cases kY:i<len q
            .simp only[kY,bw];exact(p8 q hq).2 i j kY hj
            .simp only[kY,bj];exact gk _ _ aC hj
           .simp only[tS,bj];obtain⟨s1,s2⟩:=p8 q hq;exact⟨s1.block λy hy=>wH y (An q y hq hy) λe1=>tS (p10 q k y hq hk hy e1),λi j hi hj=>⟨hl.kA (s2 i j hi hj).1,(s2 i j hi hj).2⟩⟩
          .rw [Lk.sN];simp only[Lk.rP]
          .simp only[Lk.rP]at hy rL;by_cases h1:q=k
           .subst h1;by_cases h2:q'=q
            .exact h2.symm
            .rw [aZ rfl]at hy;rw[aY h2]at rL;rcases uB y hy with e1|⟨e1,_⟩
             .exact p10 q q' y hq uG e1 rL
             .have:=An q' y uG rL;omega
           .rw [aY h1]at hy;by_cases h2:q'=k
            .subst h2;rw[aZ rfl]at rL;rcases uB y rL with e1|⟨e1,_⟩
             .exact p10 q q' y hq uG hy e1
             .have:=An q y hq hy;omega
            .rw [aY h2]at rL;exact p10 q q' y hq uG hy rL
          .simp only[Lk.rP]at hy;by_cases h1:q=k
           .subst h1;rw[aZ rfl]at hy;rcases uB b hy with e1|⟨e1,_⟩
            .exact p11 q hq e1
            .omega
           .rw [aY h1]at hy;exact p11 q hq hy
          .have:=r.hl hn id _ jd;exact this
          .rw [Lk.rP,aZ rfl]
         .cases h
        .cases h
       .
        rename_i sA;rw[sA]at hs;have hs:=ix.ku hs;obtain⟨id,IN,kj,xD,rfl⟩:=FV h;have jg:m*te.i.bytes<=140737488355328:=ho _ aH;obtain⟨v',w',ky,lK⟩:=key _ 0 g (nl2&&z.all E.mO) hs (.inl ⟨rfl,rfl⟩) (λhn=>by simpa using hn) (by simpa using jg);have hb:Below w.heap.size w w':=⟨lK.os,lK.tape,lK.output,lK.size,λy hy=>lK.oE y hy (by simp[Value.ownBlock])⟩
        have hO:∀ y,v'.ownBlock=some y->w.heap.size<=y/\y<w'.heap.size:=λy hy=>by
         rcases lK.Ev y hy with e1|e1
         .simp [Value.ownBlock]at e1
         .exact e1
        have ht:rh L w id (λy=>v'.ownBlock=some y) w':=⟨λy hy=>⟨.inr (hO y hy).1,(hO y hy).2⟩,hb.size,λy hy _=>hb.block y hy,hb.os,hb.tape,hb.output⟩
        have hl:=ht.later v' (λ_=>undef);have lh:=lK.own;rw[bY]at lh;refine⟨v',w',_,.inl ky,r.new id _ (λy=>v'.ownBlock=some y) v' (λ_=>undef) w' kj hO hb ⟨λi j=>if i<0 then g i j else g (i-0) j,by rw[Lk.ph];exact lh,λy=>by rw[Lk.sN,Lk.ph],λi j hi hj=>(λ(q:ix _ _ _ _ _/\_)=>⟨hl.kA q.1,q.2⟩) (?_:_/\_)⟩ xD,Lk.AX,Lk.ph.symm⟩;simp only[bk,bj,dr];exact gk i j hi hj
       .cases h
      .cases h
     .cases h
    .cases h
   .cases h
  .cases h
 .cases h
def U6{id q T0 T1 n m sz:Nat}{nl nl2:Bool}{len len2:Nat->Nat}{el el2:Nat->Nat->Nat->E}(jf:id≠q)(r:iS w0 B σ a w L){v':Value}{w':World}(hm:0<m)
 (hq:qi (iY B L) (ju L) L w q (.jA nl2 T1 T0 m sz len2 el2 none))
 (f1:Nat->Nat->Nat->Value)
 (h8:∀ k,k<n->ny w (L.iC id k) T0 (len k) sz (f1 k) nl/\∀ i j,i<len k->j<sz->ix (iY B L) (ju L) w (el k i j) (f1 k i j)/\(el k i j).nr 2=true)
 (h9:∀ k x,k<n->(L.iC id k).ownBlock=some x->L.own id x) (pM:∀ k k' x,k<n->k'<n->(L.iC id k).ownBlock=some x->(L.iC id k').ownBlock=some x->k=k')
 {v:Value} (Du:∀ y,v.ownBlock=some y->L.own id y) (rJ:∀ k y,k<n->(L.iC id k).ownBlock=some y->v.ownBlock≠some y)
 (lh:ny w' v' T1 (n+m) 1 (λk _=>if k<n then L.iC id k else L.iC q (k-n)) true)
 (uB:∀ y,v'.ownBlock=some y->v.ownBlock=some y\/(w.heap.size<=y/\y<w'.heap.size))
 (mo:w.heap.size<=w'.heap.size) (wH:∀ y,y<w.heap.size->v.ownBlock≠some y->w'.heap[y]? = w.heap[y]?) (BP:w'.os=w.os) (MS:w'.tape=w.tape) (pr:w'.output=w.output)
 (kj:L.mf id->∀ b,L.val id ≠ .pointer (some b)) (jx:σ.nl=true->(nl&&nl2)=true):
 iS w0 B (σ.nE (.qY id q (.jA (nl&&nl2) T1 T0 (n+m) sz (λk=>if k<n then len k else len2 (k-n)) (λk=>if k<n then el k else el2 (k-n)) none))) a w'
  (L.qv id q (λy=>v'.ownBlock=some y\/∃ k,k<n+m/\(if k<n then L.iC id k else L.iC q (k-n)).ownBlock=some y) v' (λk=>if k<n then L.iC id k else L.iC q (k-n))):=by
 obtain⟨b,c,cur,f,g1,g2,g3,g4,g5,g6,g7,g8,g9,g10,g11⟩:=hq.vZ hm;have MK:∀ k x,k<m->(L.iC q k).ownBlock=some x->L.own q x:=λk x hk hx=>(g9 x).2 (.inr ⟨k,hk,hx⟩)
 have An:∀ k y,k<n+m->(if k<n then L.iC id k else L.iC q (k-n)).ownBlock=some y->(L.own id y\/L.own q y)/\v.ownBlock≠some y:=by
  intro k y hk hy;by_cases e:k<n
  .rw [aZ e]at hy;exact⟨.inl (h9 k y e hy),rJ k y e hy⟩
  .rw [aY e]at hy;have:=MK _ _ aC hy;exact⟨.inr this,λh=>jf (r.hi id q y (Du y h) this)⟩
 have im:∀ y,L.own id y\/L.own q y->y<w.heap.size:=λy h=>by
  rcases h with h|h
  .exact (r.hw id y h).2
  .exact (r.hw q y h).2
 refine r.qv jf _ _ v' _ w' (λy hy=>?_) mo (λy hy aff=>wH y hy λh=>aff (Du y h)) BP MS pr (λhl=>?_) kj jx
 .rcases hy with hy|⟨k,hk,hy⟩
  .rcases uB y hy with h|⟨h1,h2⟩
   .exact ⟨.inl (Du y h),bJ (r.hw id y (Du y h)).2 mo⟩
   .exact ⟨.inr (.inr h1),h2⟩
  .have h:=(An k y hk hy).1;exact⟨h.elim .inl λh=>.inr (.inl h),bJ (im y h) mo⟩
 .rcases lh with⟨_,h0⟩|⟨b',c',cur',k1,k2,k3,k4,k5,k6,k7⟩
  .omega
  .have TP:∀ k y,k<n+m->(if k<n then L.iC id k else L.iC q (k-n)).ownBlock=some y->w'.heap[y]? = w.heap[y]?:=λk y hk hy=>wH y (im y (An k y hk hy).1) (An k y hk hy).2
   refine .inr ⟨b',c',cur',λk=>if k<n then f1 k else f (k-n),by rw[Lk.FJ];exact k1,k2,k3,k4,aC,λk hk _=>?_,λu hu=>?_,λk hk=>?_,λy=>?_,λk k' y hk Fi hy rL=>?_,λk hk hy=>?_⟩
   .rw [Lk.xF];have:=(k6 k 0 hk aE).1;rwa[bZ,bR]at this
   .exact k7 rfl u hu
   .rw [Lk.xF];by_cases e:k<n
    .simp only[e,bw];obtain⟨s1,s2⟩:=h8 k e;refine⟨(s1.pT λh=>?_).block λy hy=>TP k y hk (by rw[aZ e];exact hy),λi j hi hj=>⟨hl.kA (s2 i j hi hj).1,(s2 i j hi hj).2⟩⟩;simp only[bE]at h;exact h.1
    .simp only[e,bj];obtain⟨s1,s2⟩:=g8 (k-n) aC;refine⟨(s1.pT λh=>?_).block λy hy=>TP k y hk (by rw[aY e];exact hy),λi j hi hj=>⟨hl.kA (s2 i j hi hj).1,(s2 i j hi hj).2⟩⟩;simp only[bE]at h;exact h.2
   .rw [Lk.U7,k1];simp only[Lk.xF,Value.ownBlock,bu];constructor
    .rintro (h|h)
     .exact .inl h.symm
     .exact .inr h
    .rintro (h|h)
     .exact .inl h.symm
     .exact .inr h
   .simp only[Lk.xF]at hy rL;by_cases e:k<n
    .rw [aZ e]at hy;by_cases e':k'<n
     .rw [aZ e']at rL;exact pM k k' y e e' hy rL
     .rw [aY e']at rL;exact absurd (r.hi id q y (h9 k y e hy) (MK _ _ aC rL)) jf
    .rw [aY e]at hy;by_cases e':k'<n
     .rw [aZ e']at rL;exact absurd (r.hi id q y (h9 k' y e' rL) (MK _ _ aC hy)) jf
     .rw [aY e']at rL;have:=g10 (k-n) (k'-n) y aC aC hy rL;omega
   .rw [Lk.xF]at hy;have h:=An k b' hk hy;rcases uB b' (by rw[k1];rfl)with h2|⟨h2,_⟩
    .exact h.2 h2
    .have:=im b' h.1;omega
def ahY{p:PV}{q:Nat}(h:p.DQ=some q):p = .own q:=by
 cases p<;>simp only[PV.DQ,reduceCtorEq,bu]at h;rw[h]
def aej(hT:lY P T){s x:Operand}{t:TypeId}{q:Nat}{c:Call}(hc:c={ callee:=.builtin .append,args:=#[s,x],argTypes:=#[t,t] })(ik:o.op = .call c)(r:iS w0 B σ a w L)
  (hq:(σ.op x).DQ=some q) (h:Bt T σ o.dst t (σ.op s) q=some u) (ho:∀ q,q ∈ u.jo->q):jM P K w0 B σ o a w u:=by
 have hx:=r.op x;rw[ahY hq]at hx;obtain⟨kx,kv⟩:=hx;have hs:=r.op s;unfold Bt at h;split at h
 .rename_i nl2 T2 T0 m sz len2 el2 e by_ uC Aj;obtain⟨te,zv,uz,hu,nf,s8,IL,iO,sD,Av,yL,FB⟩:=QU w hT Aj;have Ux:∀ v,v ∈ zv.cells->v.oneCell'=true/\qf v=false:=λv hv=>by
   rw[Av]at hv;have:v=uz:=by simpa using hv
   rw[this];exact⟨yL,FB⟩
  have key:∀ (v:Value) (n:Nat) (f:Nat->Nat->Value),0<m->a.eval s=v->ny w v e n 1 f true->(n+m)*by_<=140737488355328 ->
    ∃ v' w',(execOp a.eval o).run P w = .ok (.value v') w'/\KE w v e n 1 m f (λk _=>L.iC q k) true v' w':=by
   intro v n f hm hv lh jg;obtain⟨bq,cq,curq,fq,g1,g2,g3,g4,g5,g6,g7,g8,g9,g10,g11⟩:=(r.hb q _ uC).vZ hm;have Dw:a.eval x = .slice (some ⟨bq,0,none⟩) m cq:=by rw[kv,g1]
   obtain⟨v',w',hr,lK⟩:=Xj P w t o.type e te.i zv 1 hu (hT.yO nf) sD s8 (by rw[Av];rfl) aE aC (λv hv=>(Ux v hv).1) v n f true lh (some ⟨bq,0,none⟩) m cq (λk _=>L.iC q k)
    (λk j hk hj=>⟨bq,0,rfl,by
     obtain rfl:j=0:= aC ;have:=g6 k hk aH;simp only[World.cell?,g2];simpa using this⟩) (λhA=>by cases hA)
    (λk j hk hj=>⟨(g8 k hk).1.head.2.1,λ_=>(g8 k hk).1.head.2.2⟩) (λ_ v hv=>(Ux v hv).2) (by rw[IL];exact jg)
   refine⟨v',w',?_,lK⟩;subst hc;have em:(#[s,x]:Array Operand).map a.eval = #[a.eval s,a.eval x]:= aH ;simp only[execOp,ik,resolve,em,hv,Dw,Sem.run_bind,Sem.run_pure,Result.andThen_ok,invoke,builtin,hr]
  split at h
  .
   rename_i id sA;rw[sA]at hs;obtain⟨ks,ks2⟩:=hs;split at h
   .rename_i nl T1 T0' n sz' len el jd;split at h
    .rename_i oh;cases h;simp only[bE,dI]at oh;obtain rfl:=kG.1 oh.1.1.1.1;obtain rfl:=kG.1 oh.1.1.1.2;obtain rfl:=kG.1 oh.1.1.2;obtain rfl:=kG.1 oh.1.2;have jf:id≠q:=λe=>by have:=oh.2;rw[e,cg]at this;cases this
     have hm:0<m:=ho _ aH;have jg:(n+m)*by_<=140737488355328:=ho _ aH;obtain⟨f,pown,p8,p9,p10,Du,p11,pno⟩:∃ f:Nat->Nat->Nat->Value,ny w (L.val id) _ n 1 (λk _=>L.iC id k) true /\
       (∀ k,k<n->ny w (L.iC id k) T0' (len k) sz' (f k) nl/\∀ i j,i<len k->j<sz'->ix (iY B L) (ju L) w (el k i j) (f k i j)/\(el k i j).nr 2=true) /\
       (∀ k x,k<n->(L.iC id k).ownBlock=some x->L.own id x)/\(∀ k k' x,k<n->k'<n->(L.iC id k).ownBlock=some x->(L.iC id k').ownBlock=some x->k=k') /\
       (∀ y,(L.val id).ownBlock=some y->L.own id y)/\(∀ k y,k<n->(L.iC id k).ownBlock=some y->(L.val id).ownBlock≠some y)/\∀ b,L.val id ≠ .pointer (some b):=by
      rcases r.hb id _ jd with⟨h1,h2,h3⟩|⟨b,cp,cur,f,p1,p2,p3,p4,p5,p6,p7,p8,p9,p10,p11⟩
      .refine ⟨λ_ _ _=>undef,.inl ⟨h1,h2⟩,λk hk=> aC,λk x hk=> aC,λk k' x hk=> aC,λy hy=>?_,λk y hk=> aC,λb hb=>?_⟩
       .rw [h1]at hy;simp[Value.ownBlock]at hy
       .rw [h1]at hb;cases hb
      .refine ⟨f,.inr ⟨b,cp,cur,p1,p2,p3,p4,aC,λk j hk hj=>?_,λ_=>p7⟩,p8,λk y hk hy=>(p9 y).2 (.inr ⟨k,hk,hy⟩),p10,λy hy=>?_,λk y hk hy At=>?_,λb1 iO=>?_⟩
       .obtain rfl:j=0:= aC ;rw[bZ,bR];exact⟨p6 k hk aH,(p8 k hk).1.head.2.1⟩
       .rw [p1]at hy;simp only[Value.ownBlock,bu]at hy;exact(p9 y).2 (.inl hy.symm)
       .rw [p1]at At;simp only[Value.ownBlock,bu]at At;exact p11 k hk (At▸hy)
       .rw [p1]at iO;cases iO
     obtain⟨v',w',ky,lK⟩:=key (L.val id) n (λk _=>L.iC id k) hm ks2 pown jg;refine⟨v',w',_,.inl ky,U6 jf r hm (r.hb q _ uC) f p8 p9 p10 Du p11 lK.own lK.Ev lK.size lK.oE lK.os lK.tape lK.output (λ_=>pno) (λhn=>?_),Lk.Nj jf,Lk.FJ.symm⟩
     .have h1:nl=true:=r.hl hn id _ jd;have h2:nl2=true:=r.hl hn q _ uC;rw[h1,h2];rfl
    .cases h
   .cases h
  .
   rename_i id sA IN;rw[sA]at hs;have hs:=ix.ku hs;split at h
   .rename_i kj;split at h
    .rename_i oh;cases h;simp only[bE,dI]at oh;obtain rfl:=kG.1 oh.1;have jf:id≠q:=λe=>by have:=oh.2;rw[e,cg]at this;cases this
     have hm:0<m:=ho _ aH;have jg:m*by_<=140737488355328:=ho _ aH;obtain⟨v',w',ky,lK⟩:=key _ 0 (λk _=>L.iC id k) hm hs (.inl ⟨rfl,rfl⟩) (by simpa using jg);have MF:¬L.mf id:=λh=>by have:=(r.hv id).1 h;rw[kj]at this;cases this
     have hj:=U6 (n:=0) (nl:=true) (len:=λ_=>0) (el:=λ_ _ _=>.any) jf r hm (r.hb q _ uC) (λ_ _ _=>undef) (λk hk=>absurd hk (bk k)) (λk y hk=>absurd hk (bk k)) (λk k' y hk=>absurd hk (bk k))
      (v:=.slice none 0 0) (λy hy=>by simp[Value.ownBlock]at hy) (λk y hk=>absurd hk (bk k)) lK.own lK.Ev lK.size lK.oE lK.os lK.tape lK.output (λh=>absurd h MF) (λhn=>r.hl hn q _ uC)
     simp only[bk,bj,dr,bY,e9]at hj;exact⟨v',w',_,.inl ky,hj,Lk.Nj jf,Lk.FJ.symm⟩
    .cases h
   .cases h
  .cases h
 .cases h
def ad7(hT:lY P T)(hB:∀ b,B b->b<w0.heap.size){s x:Operand}{t:TypeId}{c:Call}(hc:c={ callee:=.builtin .append,args:=#[s,x],argTypes:=#[t,t] })(ik:o.op = .call c)(r:iS w0 B σ a w L)
 (h:Bs T σ o.dst t (σ.op s) (σ.op x)=some u) (ho:∀ q,q ∈ u.jo->q):jM P K w0 B σ o a w u:=by
 unfold Bs at h;split at h
 .rename_i u0 h0;split at h
  .rename_i id nl T1 n sz el id' hf hr;split at h
   .rename_i hid;have hid:=kG.1 hid;subst hid;cases h;have r2:iS w0 B { σ with nl:=false } a w L:=⟨r.hd,r.hs,r.ht,r.hb,r.hv,r.hn,r.hw,r.hi,r.he,λh=>by cases h⟩
    obtain⟨v,w',L1,ky,hrel,ru⟩:=SY (K:=K) hT hc ik r2 h0 λq hq=>ho q (List.mem_cons_of_mem _ hq)
    rw[hf]at hrel;rw[hr]at ru;obtain⟨L',k1,k2⟩:=iS.fin hB hrel;refine⟨v,w',L',ky,⟨k1.hd,k1.hs,k1.ht,k1.hb,k1.hv,k1.hn,k1.hw,k1.hi,k1.he,λhn i b hb=>r.hl hn i b ?_⟩,?_⟩
    .have hb:look (σ.b.filter λx=>!Nat.beq x.1 id') i=some b:=hb;rw[Cf]at hb;split at hb
     .cases hb
     .exact hb
    rw[ru.2];exact k2
   .cases h
  .cases h
 .cases h
def aep{x y:Operand}{c:Call}(hc:c.callee = .builtin .max/\c.args = #[x,y])(ik:o.op = .call c)(r:iS w0 B σ a w L){k k':IntKind}{p q:Int}(hx:σ.op x = .e (.v (.int k p)))(hy:σ.op y = .e (.v (.int k' q)))
 (hu:u={ r:=.e (.v (.int k (if q>p then q else p))) }):jM P K w0 B σ o a w u:=by
 have h1:=r.op x;have h2:=r.op y;rw[hx]at h1;rw[hy]at h2;have h1:=ix.ku h1;have h2:=ix.ku h2;subst hu;refine jM.pure r (v:=.int k (if q>p then q else p)) ?_ rfl (.v _);have em:(#[x,y]:Array Operand).map a.eval = #[.int k p,.int k' q]:=by simp[h1,h2]
 simp only[execOp,ik,resolve,hc.1,hc.2,em,Sem.run_bind,Sem.run_pure,Result.andThen_ok,invoke,builtin,run_max_int2]
def aeq{x y z:Operand}{c:Call}(hc:c.callee = .builtin .max/\c.args = #[x,y,z])(ik:o.op = .call c)(r:iS w0 B σ a w L){k k' k'':IntKind}{p q s:Int}(hx:σ.op x = .e (.v (.int k p)))(hy:σ.op y = .e (.v (.int k' q)))(hz:σ.op z = .e (.v (.int k'' s)))
 (hu:u={ r:=.e (.v (.int k (if s>(if q>p then q else p)then s else(if q>p then q else p)))) }):jM P K w0 B σ o a w u:=by
 have h1:=r.op x;have h2:=r.op y;have h3:=r.op z;rw[hx]at h1;rw[hy]at h2;rw[hz]at h3;have h1:=ix.ku h1;have h2:=ix.ku h2;have h3:=ix.ku h3;subst hu;refine jM.pure r (v:=.int k (if s>(if q>p then q else p)then s else(if q>p then q else p))) ?_ rfl (.v _);have em:(#[x,y,z]:Array Operand).map a.eval = #[.int k p,.int k' q,.int k'' s]:=by simp[h1,h2,h3]
 simp only[execOp,ik,resolve,hc.1,hc.2,em,Sem.run_bind,Sem.run_pure,Result.andThen_ok,invoke,builtin,run_max_int3]
def aer{x y:Operand}{c:Call}(hc:c.callee = .builtin .min/\c.args = #[x,y])(ik:o.op = .call c)(r:iS w0 B σ a w L){k k':IntKind}{p q:Int}(hx:σ.op x = .e (.v (.int k p)))(hy:σ.op y = .e (.v (.int k' q)))
 (hu:u={ r:=.e (.v (.int k (if q<p then q else p))) }):jM P K w0 B σ o a w u:=by
 have h1:=r.op x;have h2:=r.op y;rw[hx]at h1;rw[hy]at h2;have h1:=ix.ku h1;have h2:=ix.ku h2;subst hu;refine jM.pure r (v:=.int k (if q<p then q else p)) ?_ rfl (.v _);have em:(#[x,y]:Array Operand).map a.eval = #[.int k p,.int k' q]:=by simp[h1,h2]
 simp only[execOp,ik,resolve,hc.1,hc.2,em,Sem.run_bind,Sem.run_pure,Result.andThen_ok,invoke,builtin,run_min_int2]
end
structure Gd(P:Program)(K:World->Prop)(w0:World)(B:Nat->Prop):Prop where
 k:K w0
 JR:∀ w w',K w->Below w.heap.size w w'->K w'
 hB:∀ b,B b->b<w0.heap.size/\oI w0 b
def oI.DM{w w':World}{b:Nat}(h:oI w b)(hb:w'.heap[b]? = w.heap[b]?):oI w' b:=by
 intro o x e;exact h o x (by rw[<-e];exact(World.cell?_of_block (w:=w) (w':=w') hb).symm)
def oI.N4{w:World}{b:Nat}{cs:Array Value}{T:TypeId}{fr:Nat×Nat}(hg:w.heap[b]? = some (.cells cs T fr))(h:∀ v,v ∈ cs->qf v=false):oI w b:=by
 intro o x e;simp only[World.cell?,hg]at e;simp only[Option.isSome_none,bB,bj]at e;have:=h _ (dH e);cases this
section
variable {P:Program} {K:World->Prop} {T:List TI} {O:pK} {w0:World} {B:Nat->Prop} {σ:PS} {o:Oper} {a:Act} {w:World} {L:Lk} {u:kp}
def ny.JE{v:Value}{T:TypeId}{n sz:Nat}{f:Nat->Nat->Value}(h:ny w v T n sz f true){x:Nat}(hx:v.ownBlock=some x):oI w x:=by
 rcases h with⟨rfl,_⟩|⟨b,c,cur,rfl,hg,_,_,_,_,jx⟩
 .simp [Value.ownBlock]at hx
 .simp [Value.ownBlock]at hx;subst hx;exact oI.N4 hg (jx rfl)
def qi.JE{id:Nat}{b:Bx}(h:qi (iY B L) (ju L) L w id b)(hn:b.nl=true){x:Nat}(hx:L.own id x):oI w x:=by
 cases b with
 |cells T l=>
  obtain⟨b,vs,h1,h2,h3,h4,h5⟩:=h;obtain rfl:=(h2 x).1 hx;exact oI.N4 h3 λv hv=>Ns h4 hn v (by simpa using hv)
 |row nl T n sz el=>
  obtain⟨f,h1,h2,h3⟩:=h;have hn:nl=true:=hn;subst hn;exact h1.JE ((h2 x).1 hx)
 |jA nl T1 T0 n sz len el pend=>
  rcases h with⟨_,_,h⟩|h
  .exact absurd hx (h x)
  obtain⟨b,c,cur,f,h1,h2,h3,h4,h5,h6,h7,h8,h9,pM,rJ⟩:=h;have hn:nl=true:=hn;subst hn;rcases(h9 x).1 hx with rfl|⟨k,hk,hkx⟩
  .exact oI.N4 h2 λv hv=>h7 v hv
  .exact (h8 k hk).1.JE hkx
def iS.Hm(g:Gd P K w0 B)(r:iS w0 B σ a w L)(hn:σ.nl=true):∀ b,iY B L b->b<w.heap.size/\oI w b:=by
 intro b hb;rcases hb with hb|⟨id,hb⟩
 .obtain ⟨h1,h2⟩:=g.hB b hb;exact⟨bJ h1 r.he.size,h2.DM (r.he.block b h1)⟩
 .refine ⟨(r.hw id b hb).2,?_⟩;have hl:=(r.hv id).1 (r.hn id b hb);obtain⟨bx,iU⟩:=fc.1 hl;exact(r.hb id bx iU).JE (r.hl hn id bx iU) hb
def qi.iM{id:Nat}{Tt:TypeId}{l:List E}(h:qi (iY B L) (ju L) L w id (.cells Tt l)){b:Nat}(hv:L.val id = .pointer (some ⟨b,0,none⟩))(im:∀ x,L.own id x->x<w.heap.size):
 ix (iY B L) (λ_=>False) w (.iM l.length λj=>l.getD j .any) (.pointer (some ⟨b,0,none⟩)):=by
 obtain⟨b',vs,h1,h2,h3,h4,h5⟩:=h;rw[hv]at h1;cases h1;refine .iM _ _ b 0 (λj=>vs.getD j undef) (λh=>h) (im b ((h2 b).2 rfl)) (λj hj=>?_) (λj hj=>?_) (λj hj=>?_)
 .have sw:j<vs.length:=by rw[h4.len];exact hj
  rw[bd,bt sw];exact h5 _ (cz sw)
 .have sw:j<vs.length:=by rw[h4.len];exact hj
  simp only[World.cell?,h3];simp[sw]
 .have sw:j<vs.length:=by rw[h4.len];exact hj
  rw[bd,bt hj,bd,bt sw];exact(h4.kA j _ _ (bt hj) (bt sw)).pT (λ_ h=>h) (λ_ h=>h.elim)
def ny.W3{v:Value}{T:TypeId}{n sz:Nat}{f:Nat->Nat->Value}{nl:Bool}{el:Nat->Nat->E}{bs br:Nat->Prop}(h1:ny w v T n sz f nl)(im:∀ x,v.ownBlock=some x->x<w.heap.size)
 (h3:∀ i j,i<n->j<sz->ix bs br w (el i j) (f i j)/\(el i j).nr 2=true):ix (λ_=>False) (λ_=>False) w (.sl nl n sz el) v:=by
 rcases h1 with⟨rfl,rfl⟩|⟨b,c,cur,rfl,hg,oB,nG,mL,j8,jx⟩
 .exact .sl nl 0 sz el none 0 f (bc _) aE (λ_=>rfl) (λi j hi=>absurd hi (bk i)) (λi j hi=>absurd hi (bk i)) (λi j hi=>absurd hi (bk i)) (λi j hi=>absurd hi (bk i))
 .refine .sl nl n sz el _ c f oB (by unfold maxLen at nG;omega) (λh=>by cases h) (λi j hi hj=>⟨(j8 i j hi hj).2,λhn=>jx hn _ (dH (j8 i j hi hj).1)⟩) (λi j hi hj=>(h3 i j hi hj).2)
   (λi j hi hj=>⟨b,0,rfl,λh=>h,im b rfl,?_⟩) (λi j hi hj=>(ix.nr ((h3 i j hi hj).1.pT (λ_ h=>h.elim) (λ_ h=>h)) 2 (h3 i j hi hj).2))
  rw[bY];simp only[World.cell?,hg];simpa using(j8 i j hi hj).1
def iS.UB(r:iS w0 B σ a w L){id T1 T0 n sz k:Nat}{nl:Bool}{len:Nat->Nat}{el:Nat->Nat->Nat->E}{pend:Option Nat}(jd:σ.bo id=some (.jA nl T1 T0 n sz len el pend))(hk:k<n):
 ix (λ_=>False) (λ_=>False) w (.sl nl (len k) sz (el k)) (L.iC id k):=by
 obtain⟨b,c,cur,f,h1,h2,h3,h4,h5,h6,h7,h8,h9,pM,rJ⟩:=(r.hb id _ jd).vZ aC;exact(h8 k hk).1.W3 (λx hx=>(r.hw id x ((h9 x).2 (.inr ⟨k,hk,hx⟩))).2) (h8 k hk).2
def CV.ET(r:iS w0 B σ a w L){c:CV}{e:E}{is:List Nat}(h:c.ext σ=some (e,is))(kj:c.FF=false){v:Value}(hv:wh (iY B L) (ju L) L w c v):ix (iY B L) (λ_=>False) w e v:=by
 cases c with
 |e x=>simp only[CV.ext,bu,bL]at h;obtain⟨rfl,_⟩:=h;exact hv.pT (λ_ h=>h) (λ_ h=>h.elim)
 |box id=>
  simp only[CV.ext]at h;split at h
  .rename_i Tt l jd;simp only[bu,bL]at h;obtain⟨rfl,_⟩:=h;obtain⟨_,b,k2,rfl⟩:=hv;exact(r.hb id _ jd).iM k2 λx hx=>(r.hw id x hx).2
  .cases h
 |row id=>cases kj
def CV.LF(r:iS w0 B σ a w L){c:CV}{e:E}{is:List Nat}(h:c.ext σ=some (e,is)){v:Value}(hv:wh (iY B L) (ju L) L w c v):ix (λ_=>False) (λ_=>False) w e v:=by
 cases kj:c.FF with
 |false=>exact(CV.ET r h kj hv).pT (λ_ h=>h.elim) (λ_ h=>h)
 |true=>
  cases c with
  |row id=>
   simp only[CV.ext]at h;split at h
   .rename_i nl T1 T0 n sz len el jd;split at h
    .rename_i hn;have hn:=kG.1 hn;subst hn;simp only[bu,bL]at h;obtain⟨rfl,_⟩:=h;obtain⟨_,b,n',c,k2,rfl⟩:=hv;have kY:=r.UB jd (eh 0);obtain⟨b',c',cur,f,h1,h2,h3,h4,h5,h6,h7,h8,h9,pM,rJ⟩:=(r.hb id _ jd).vZ aE;rw[k2]at h1;cases h1;have o0:=h6 0 (eh 0) aH;refine .iM 1 _ b 0 (λ_=>L.iC id 0) (λh=>h) (r.hw id b ((h9 b).2 (.inl rfl))).2 (λj hj=>(h8 0 (eh 0)).1.head.2.1) (λj hj=>?_) (λj hj=>kY);obtain rfl:j=0:= aC ;simp only[World.cell?,h2];simpa using o0
    .cases h
   .cases h
  |_=>cases kj
def Se(r:iS w0 B σ a w L){l:List CV}{es:List E}{is:List Nat}(h:uj σ l=some (es,is))(kj:l.any CV.FF=false){vs:List Value}(hlen:vs.length=l.length)
 (hv:∀ (i:Nat) (c:CV) (x:Value),l[i]? = some c->vs[i]? = some x->wh (iY B L) (ju L) L w c x):jX (iY B L) (λ_=>False) w es vs:=by
 induction l generalizing es is vs with
 |nil=>simp only[uj,bu,bL]at h;obtain⟨rfl,_⟩:=h;obtain rfl:=dh hlen;exact .nil _ _ _
 |cons c l ih=>
  cases vs with
  |nil=>simp at hlen
  |cons v vs=>
   simp only[uj]at h;split at h
   .rename_i x i xs js h1 h2;simp only[bu,bL]at h;obtain⟨rfl,_⟩:=h;simp only[dZ,eC]at kj;exact .cons (CV.ET r h1 kj.1 (hv 0 c v rfl rfl)) (ih h2 kj.2 (by simpa using hlen) λi c x hc hx=>hv (i+1) c x (by simpa using hc) (by simpa using hx))
   .cases h
def Sf(r:iS w0 B σ a w L){l:List CV}{es:List E}{is:List Nat}(h:uj σ l=some (es,is)){vs:List Value}(hlen:vs.length=l.length)
 (hv:∀ (i:Nat) (c:CV) (x:Value),l[i]? = some c->vs[i]? = some x->wh (iY B L) (ju L) L w c x):jX (λ_=>False) (λ_=>False) w es vs:=by
 induction l generalizing es is vs with
 |nil=>simp only[uj,bu,bL]at h;obtain⟨rfl,_⟩:=h;obtain rfl:=dh hlen;exact .nil _ _ _
 |cons c l ih=>
  cases vs with
  |nil=>simp at hlen
  |cons v vs=>
   simp only[uj]at h;split at h
   .rename_i x i xs js h1 h2;simp only[bu,bL]at h;obtain⟨rfl,_⟩:=h;exact .cons (CV.LF r h1 (hv 0 c v rfl rfl)) (ih h2 (by simpa using hlen) λi c x hc hx=>hv (i+1) c x (by simpa using hc) (by simpa using hx))
   .cases h
def ny.ago{v:Value}{T:TypeId}{n sz:Nat}{f:Nat->Nat->Value}{nl:Bool}{el:Nat->Nat->E}{bs br:Nat->Prop}(h1:ny w v T n sz f nl)(im:∀ x,v.ownBlock=some x->x<w.heap.size)
 (h3:∀ i j,i<n->j<sz->ix bs br w (el i j) (f i j)/\(el i j).nr 2=true):ix bs (λ_=>False) w (.mY true nl n sz el) v:=by
 rcases h1 with⟨rfl,rfl⟩|⟨b,c,cur,rfl,hg,oB,nG,mL,j8,jx⟩
 .exact .mY true nl 0 sz el none 0 f (bc _) aE (λ_=>rfl) (λi j hi=>absurd hi (bk i)) (λ_ i j hi=>absurd hi (bk i)) (λi j hi=>absurd hi (bk i)) (λi j hi=>absurd hi (bk i))
 .refine .mY true nl n sz el _ c f oB (by unfold maxLen at nG;omega) (λh=>by cases h) (λi j hi hj=>⟨(j8 i j hi hj).2,λhn=>jx hn _ (dH (j8 i j hi hj).1)⟩) (λ_ i j hi hj=>(h3 i j hi hj).2)
   (λi j hi hj=>⟨b,0,rfl,λh=>h,im b rfl,?_⟩) (λi j hi hj=>ix.nr (h3 i j hi hj).1 2 (h3 i j hi hj).2)
  rw[bY];simp only[World.cell?,hg];simpa using(j8 i j hi hj).1
def PV.ET(r:iS w0 B σ a w L){p:PV}{e:E}{is:List Nat}(h:p.ext σ=some (e,is))(kj:p.vO σ=false){v:Value}(hv:mS (iY B L) (ju L) L w p v):ix (iY B L) (λ_=>False) w e v:=by
 cases p with
 |e x=>simp only[PV.ext,bu,bL]at h;obtain⟨rfl,_⟩:=h;exact ix.pT (λ_ h=>h) (λ_ h=>h.elim) hv
 |box id off=>
  cases off with
  |succ=>simp[PV.ext]at h
  |zero=>
   simp only[PV.ext]at h;split at h
   .rename_i Tt l jd;simp only[bu,bL]at h;obtain⟨rfl,_⟩:=h;obtain⟨_,b,k2,rfl⟩:=hv;exact(r.hb id _ jd).iM k2 λx hx=>(r.hw id x hx).2
   .cases h
 |oP f cap=>
  simp only[PV.ext]at h;split at h
  .rename_i xs js h1;simp only[bu,bL]at h;obtain⟨rfl,_⟩:=h;obtain⟨vs,rfl,k2,k3⟩:=hv;have:=Se r h1 kj k2 k3;exact .fn f xs vs this.len this.kA
  .cases h
 |own id=>
  obtain⟨_,rfl⟩:=hv;simp only[PV.vO]at kj;split at kj
  .rename_i nl T1 T0 n sz len el pend jd;simp only[PV.ext,jd]at h;cases pend with
   |some k=>cases h
   |none=>
    simp only[bu,bL]at h;obtain⟨rfl,_⟩:=h;rcases r.hb id _ jd with⟨h1,h2,_⟩|⟨b,c,cur,f,h1,h2,h3,h4,h5,h6,h7,h8,h9,pM,rJ⟩
    .subst h2;rw[h1];exact .mY false true 0 1 _ none 0 (λ_ _=>undef) (bc _) aE (λ_=>rfl) (λi j hi=>absurd hi (bk i)) (λh=>by cases h) (λi j hi=>absurd hi (bk i)) (λi j hi=>absurd hi (bk i))
    .rw [h1];refine .mY false true n 1 _ _ c (λk _=>L.iC id k) h3 (by unfold maxLen at h4;omega) (λh=>by cases h) (λk j hk hj=>⟨(h8 k hk).1.head.2.1,λ_=>(h8 k hk).1.head.2.2⟩) (λh=>by cases h)
      (λk j hk hj=>⟨b,0,rfl,λh=>h,(r.hw id b ((h9 b).2 (.inl rfl))).2,?_⟩) (λk j hk hj=>(h8 k hk).1.ago (λx hx=>(r.hw id x ((h9 x).2 (.inr ⟨k,hk,hx⟩))).2) (h8 k hk).2)
     rw[bY,bZ];obtain rfl:j=0:= aC ;simp only[World.cell?,h2];simpa using h6 k hk aH 
  .cases kj
 |iC id k=>cases kj
 |mP=>simp[PV.ext]at h
 |qu=>simp[PV.ext]at h
def PV.LF(r:iS w0 B σ a w L){p:PV}{e:E}{is:List Nat}(h:p.ext σ=some (e,is)){v:Value}(hv:mS (iY B L) (ju L) L w p v):ix (λ_=>False) (λ_=>False) w e v:=by
 by_cases kj:p.vO σ=false
 .exact (PV.ET r h kj hv).pT (λ_ h=>h.elim) (λ_ h=>h)
 .cases p with
  |own id=>
   obtain⟨_,rfl⟩:=hv;simp only[PV.ext]at h;split at h
   .rename_i nl T n sz el jd;simp only[bu,bL]at h;obtain⟨rfl,_⟩:=h;obtain⟨f,h1,h2,h3⟩:=r.hb id _ jd;exact h1.W3 (λx hx=>(r.hw id x ((h2 x).2 hx)).2) h3
   .rename_i nl T1 T0 n sz len el jd;exact absurd (by simp only[PV.vO,jd]) kj
   .cases h
  |iC id k=>
   obtain⟨_,rfl⟩:=hv;simp only[PV.ext]at h;split at h
   .rename_i nl T1 T0 n sz len el jd;split at h
    .rename_i hk;simp only[bu,bL]at h;obtain⟨rfl,_⟩:=h;exact r.UB jd (by simpa[fG]using hk)
    .cases h
   .cases h
  |oP f cap=>
   simp only[PV.ext]at h;split at h
   .rename_i xs js h1;simp only[bu,bL]at h;obtain⟨rfl,_⟩:=h;obtain⟨vs,rfl,k2,k3⟩:=hv;have:=Sf r h1 k2 k3;exact .fn f xs vs this.len this.kA
   .cases h
  |e x=>exact absurd rfl kj
  |box id off=>exact absurd rfl kj
  |mP id sz i j=>exact absurd rfl kj
  |qu id sz k i j=>exact absurd rfl kj
def P8(r:iS w0 B σ a w L){l:List Operand}{es:List E}{is:List Nat}(h:tD σ l=some (es,is)):jX (λ_=>False) (λ_=>False) w es (l.map a.eval):=by
 induction l generalizing es is with
 |nil=>simp only[tD,bu,bL]at h;obtain⟨rfl,_⟩:=h;exact .nil _ _ _
 |cons x l ih=>
  simp only[tD]at h;split at h
  .rename_i y i xs js h1 h2;simp only[bu,bL]at h;obtain⟨rfl,_⟩:=h;exact .cons (PV.LF r h1 (r.op x)) (ih h2)
  .cases h
def P7(r:iS w0 B σ a w L){l:List Operand}{es:List E}{is:List Nat}(h:tD σ l=some (es,is))(kj:(l.map σ.op).any (PV.vO σ)=false):jX (iY B L) (λ_=>False) w es (l.map a.eval):=by
 induction l generalizing es is with
 |nil=>simp only[tD,bu,bL]at h;obtain⟨rfl,_⟩:=h;exact .nil _ _ _
 |cons x l ih=>
  simp only[tD]at h;split at h
  .rename_i y i xs js h1 h2;simp only[bu,bL]at h;obtain⟨rfl,_⟩:=h;simp only[dX,dZ,eC]at kj;exact .cons (PV.ET r h1 kj.1 (r.op x)) (ih h2 kj.2)
  .cases h
def GX(P:Program)(K:World->Prop)(w0:World)(B:Nat->Prop)(σ:PS)(o:Oper)(a:Act)(w:World)(u:kp):Prop:=
 ∀ (Kc:Act->World->Prop) (Q:Exit->Act->World->Prop),(∀ v w' L',iS w0 B (σ.nE u.f) a w' L'->mS (iY B L') (ju L') L' w' u.r v->Kc (a.put o.dst v) w')->o.wp P a w Kc Q
def jM.oz(h:jM P K w0 B σ o a w u):GX P K w0 B σ o a w u:=by
 intro Kc Q hk;obtain⟨v,w',L',ky,hr,hp⟩:=h;unfold Oper.wp;rcases ky with ky|⟨ky,rfl⟩
 .rw [ky];exact hk v w' L' hr hp
 .rw [ky];exact hk _ w' L' hr hp
def RG(g:Gd P K w0 B)(r:iS w0 B σ a w L){c:Call}{f:Operand}(ik:o.op = .call c)(hf:c.callee = .value f){gf:FuncId}{xs ys:List E}{is:List Nat}{us:List Value}
 {ow:Bool} (yA:a.eval f = .func (.func gf) #[] us.toArray) (MY:jX (λ_=>False) (λ_=>False) w xs (c.args.toList.map a.eval)) (py:ow=false->jX (iY B L) (λ_=>False) w xs (c.args.toList.map a.eval)) (MT:jX (λ_=>False) (λ_=>False) w ys us) (yK:ow=false->jX (iY B L) (λ_=>False) w ys us)
 (h:z8 P K O σ o.dst gf (xs++ys) is ow=some u) (ho:∀ q,q ∈ u.jo->q):GX P K w0 B σ o a w u:=by
 intro Kc Q hk;simp only[z8]at h;split at h
 .rename_i jP Ft;split at h
  .rename_i hc;cases h;have pc:PC P K gf (xs++ys) jP:=ho _ aH;have Mj:=MY.app MT;have ky:(execOp a.eval o).run P w = .ok (.enter gf ((c.args.toList.map a.eval)++us).toArray) w:=by
    have e1:c.args.map a.eval=(c.args.toList.map a.eval).toArray:=by apply di;simp
    have e2:#[]++(c.args.toList.map a.eval).toArray++us.toArray=((c.args.toList.map a.eval)++us).toArray:= aH ;simp only[execOp,ik,resolve,hf,yA,Deferred.ofValue,Sem.run_bind,Sem.run_pure,Result.andThen_ok,invoke,e1,e2,pc.call]
   unfold Oper.wp;rw[ky];show Calls P gf _ w _;have hK:K w:=g.JR _ _ g.k r.he;by_cases BR:jP.plain 3=true
   .refine (pc.run w (λ_=>False) _ hK (λ_ h=>h.elim) Mj).mono ?_;rintro e w' ⟨v,rfl,hb,hv⟩;exact hk v w' L (r.later hb) (ix.plain (w:=w') hv 3 BR)
   .have hn:σ.nl=true/\ow=false:=by simpa[BR]using hc
    refine(pc.run w (iY B L) _ hK (r.Hm g hn.1) ((py hn.2).app (yK hn.2))).mono ?_;rintro e w' ⟨v,rfl,hb,hv⟩;exact hk v w' L (r.later hb) (ix.pT (λ_ h=>h) (λ_ _=>trivial) hv)
  .split at h
   .rename_i hc;cases h;have pc:G3 P K gf (xs++ys) jP:=ho _ aH;have ky:(execOp a.eval o).run P w = .ok (.enter gf ((c.args.toList.map a.eval)++us).toArray) w:=by
     have e1:c.args.map a.eval=(c.args.toList.map a.eval).toArray:=by apply di;simp
     have e2:#[]++(c.args.toList.map a.eval).toArray++us.toArray=((c.args.toList.map a.eval)++us).toArray:= aH ;simp only[execOp,ik,resolve,hf,yA,Deferred.ofValue,Sem.run_bind,Sem.run_pure,Result.andThen_ok,invoke,e1,e2,pc.call]
    unfold Oper.wp;rw[ky];show Calls P gf _ w _;have hK:K w:=g.JR _ _ g.k r.he;have hn:ow=false:=by simpa using hc
    refine(pc.run w (iY B L) _ hK (λb hb=>?_) ((py hn).app (yK hn))).mono ?_
    .rcases hb with hb|⟨id,hb⟩
     .exact bJ (g.hB b hb).1 r.he.size
     .exact (r.hw id b hb).2
    .rintro e w' ⟨v,rfl,hb,hv⟩;exact hk v w' L (r.later hb) (ix.pT (λ_ h=>h) (λ_ _=>trivial) hv)
   .split at h
    .rename_i jx;cases h;have pc:PC P K gf (xs++ys) jP:=ho _ aH;have tN:vf jP:=ho _ aH;have Mj:=MY.app MT;have ky:(execOp a.eval o).run P w = .ok (.enter gf ((c.args.toList.map a.eval)++us).toArray) w:=by
      have e1:c.args.map a.eval=(c.args.toList.map a.eval).toArray:=by apply di;simp
      have e2:#[]++(c.args.toList.map a.eval).toArray++us.toArray=((c.args.toList.map a.eval)++us).toArray:= aH ;simp only[execOp,ik,resolve,hf,yA,Deferred.ofValue,Sem.run_bind,Sem.run_pure,Result.andThen_ok,invoke,e1,e2,pc.call]
     unfold Oper.wp;rw[ky];show Calls P gf _ w _;have hK:K w:=g.JR _ _ g.k r.he;refine(pc.run w (λ_=>False) _ hK (λ_ h=>h.elim) Mj).mono ?_;rintro e w' ⟨v,rfl,hb,hv⟩;have r':=r.later hb;exact hk v w' L r' (ix.pT (λ_ h=>h) (λ_ _=>trivial) (tN _ _ _ _ _ (λx hx=>.inr (r'.Hm g jx x hx).2) hv))
    .cases h
 .split at h
  .rename_i d hd;split at h
   .rename_i nl T n sz el hnw;split at h
    .rename_i hc;cases h;simp only[bE]at hc;have pc:vh P K gf (xs++ys) nl T n sz el:=ho _ aH;have ky:(execOp a.eval o).run P w = .ok (.enter gf ((c.args.toList.map a.eval)++us).toArray) w:=by
      have e1:c.args.map a.eval=(c.args.toList.map a.eval).toArray:=by apply di;simp
      have e2:#[]++(c.args.toList.map a.eval).toArray++us.toArray=((c.args.toList.map a.eval)++us).toArray:= aH ;simp only[execOp,ik,resolve,hf,yA,Deferred.ofValue,Sem.run_bind,Sem.run_pure,Result.andThen_ok,invoke,e1,e2,pc.call]
     unfold Oper.wp;rw[ky];show Calls P gf _ w _;have hK:K w:=g.JR _ _ g.k r.he;have fin:∀ (v:Value) (w':World) (gg:Nat->Nat->Value),Below w.heap.size w w'->ny w' v T n sz gg nl->(∀ x,v.ownBlock=some x->w.heap.size<=x/\x<w'.heap.size) ->
      (∀ i j,i<n->j<sz->ix (λb=>iY B L b\/v.ownBlock=some b) (λ_=>True) w' (el i j) (gg i j)/\(el i j).nr 2=true)->Kc (a.put o.dst v) w':=by
      intro v w' gg hb lh uB BD;have key:∀ (σ1:PS) (L1:Lk),iS w0 B σ1 a w L1->(∀ i x,L1.own i x->L.own i x)->σ1.bo d=none->σ1.nl=σ.nl->∃ L',iS w0 B (σ1.nE (.new d (.row nl T n sz el))) a w' L'/\mS (iY B L') (ju L') L' w' (.own d) v:=by
       intro σ1 L1 r1 Aq kj al6;have afe:=r1.new d (.row nl T n sz el) (λx=>v.ownBlock=some x) v (λ_=>undef) w' kj uB hb
        ⟨gg,by rw[Lk.ph];exact lh,λx=>by rw[Lk.sN,Lk.ph],λi j hi hj=>⟨?_,(BD i j hi hj).2⟩⟩ (by simp[Bx.nl,hc.2])
       .exact ⟨_,afe,Lk.AX,Lk.ph.symm⟩
       .refine (BD i j hi hj).1.pT (λb h=>?_) (λ_ _=>trivial);rcases h with h|⟨id,h⟩
        .exact .inl (.inl h)
        .by_cases e:id=d
         .subst e;exact .inr ((Lk.sN b).1 h)
         .exact .inl (.inr ⟨id,Aq _ _ ((Lk.AY e b).1 h)⟩)
      cases jd:σ.bo d with
      |none=>
       obtain⟨L',k1,k2⟩:=key σ L r (λ_ _ h=>h) jd rfl;exact hk v w' L' (by simpa only[ub,jd]using k1) k2
      |some b=>
       obtain⟨L1,r1,Aq,kj⟩:=r.RL d;obtain⟨L',k1,k2⟩:=key _ L1 r1 Aq kj rfl;rw[RV]at k1;exact hk v w' L' (by simpa only[ub,jd]using k1) k2
     cases oi:ow with
     |false=>
      refine(pc.run w (iY B L) _ hK (r.Hm g hc.1) ((py oi).app (yK oi))).mono ?_;rintro e w' ⟨v,rfl,hb,gg,lh,uB,BD⟩;exact fin v w' gg hb lh uB BD
     |true=>
      have tN:Eg n sz el:=ho _ (by simp[oi]);refine(pc.run w (λ_=>False) _ hK (λ_ h=>h.elim) (MY.app MT)).mono ?_;rintro e w' ⟨v,rfl,hb,gg,lh,uB,BD⟩;have r':=r.later hb;refine fin v w' gg hb lh uB λi j hi hj=>⟨tN i j hi hj _ _ _ _ _ (λx hx=>?_) (BD i j hi hj).1,(BD i j hi hj).2⟩
      rcases hx with hx|hx
      .exact .inr (r'.Hm g hc.1 x hx).2
      .exact .inl (.inr hx)
    .cases h
   .cases h
  .cases h
def Ly(hT:lY P T)(g:Gd P K w0 B)(r:iS w0 B σ a w L)(h:jk P K T O σ o=some u)(ho:∀ q,q ∈ u.jo->q):GX P K w0 B σ o a w u:=by
 cases ik:o.op with
 |move x=>exact(aes (P:=P) (K:=K) ik r h).oz
 |assign x=>exact(ad8 (P:=P) (K:=K) ik r h).oz
 |pick c x y=>exact(aeu (P:=P) (K:=K) ik r h).oz
 |alloc t=>exact(ad6 hT ik r h).oz
 |box t x=>exact(aea (P:=P) (K:=K) ik r h).oz
 |build t ps=>exact(aeb hT ik r h).oz
 |buildSlice t n ps=>exact(aec hT (λb hb=>(g.hB b hb).1) ik r h).oz
 |load t x=>exact(ael hT ik r h ho).oz
 |store t x y=>exact(aew hT ik r h ho).oz
 |nilCheck x=>exact(aet (P:=P) (K:=K) ik r h).oz
 |binOp op t x y yt=>exact(ad9 hT ik r h ho).oz
 |unOp op t x=>exact(aex (P:=P) (K:=K) ik r h ho).oz
 |convert s d x=>exact(aed hT ik r h).oz
 |makeFunc fn first cap=>exact(aen (P:=P) (K:=K) ik r h).oz
 |makeSlice t l c=>exact(aeo hT ik r h ho).oz
 |slice t x lo hi mx=>
  cases mx with
  |none=>exact(aev hT ik r h ho).oz
  |some=>simp[jk,ik]at h
 |fieldAddr t x f=>exact(aeg hT ik r h).oz
 |indexAddr t x i=>exact(aei hT ik r h ho).oz
 |index t x i=>exact(aeh hT ik r h ho).oz
 |field t x f=>exact(aef hT ik r h).oz
 |lookup t x i ok=>exact(aem hT ik r h ho).oz
 |extract x i=>exact(aee (P:=P) (K:=K) ik r h).oz
 |call c=>
  obtain⟨callee,args,ats⟩:=c;cases callee with
  |builtin b=>
   simp only[jk,ik]at h;cases b
   case len=>
    dsimp only at h;split at h
    .rename_i x t hx ht;have ha:args = #[x]:=by apply di;simpa using hx
     have BX:ats = #[t]:=by apply di;simpa using ht
     split at h
     .rename_i e hd;obtain⟨rr,hr,rfl⟩:=cG.1 h;exact(aek hT (by rw[ha,BX]) ik hd r hr rfl).oz
     .cases h
    .cases h
   case append=>
    dsimp only at h;split at h
    .rename_i s x t t' hx ht;have ha:args = #[s,x]:=by apply di;simpa using hx
     have BX:ats = #[t,t']:=by apply di;simpa using ht
     split at h
     .rename_i qc;have qc:=kG.1 qc;subst qc;split at h
      .rename_i q hq;exact(aej hT (by rw[ha,BX]) ik r hq h ho).oz
      split at h
      .exact (ad7 hT (λb hb=>(g.hB b hb).1) (by rw[ha,BX]) ik r h ho).oz
      .exact (SY hT (by rw[ha,BX]) ik r h ho).oz
     .cases h
    .cases h
   case max=>
    dsimp only at h;split at h
    .rename_i k p k' q hx;rcases args with⟨l⟩
     rcases l with _|⟨x,_|⟨y,_|⟨z,l⟩⟩⟩<;>simp at hx
     cases h;exact(aep (P:=P) (K:=K) ⟨rfl,rfl⟩ ik r hx.1 hx.2 rfl).oz
    .rename_i k p k' q k'' s hx;rcases args with⟨l⟩
     rcases l with _|⟨x,_|⟨y,_|⟨z,_|⟨z',l⟩⟩⟩⟩<;>simp at hx
     cases h;exact(aeq (P:=P) (K:=K) ⟨rfl,rfl⟩ ik r hx.1 hx.2.1 hx.2.2 rfl).oz
    .cases h
   case min=>
    dsimp only at h;split at h
    .rename_i k p k' q hx;rcases args with⟨l⟩
     rcases l with _|⟨x,_|⟨y,_|⟨z,l⟩⟩⟩<;>simp at hx
     cases h;exact(aer (P:=P) (K:=K) ⟨rfl,rfl⟩ ik r hx.1 hx.2 rfl).oz
    .cases h
   all_goals cases h
  |value f=>
   simp only[jk,ik]at h;have yA:=r.op f;split at h
   .rename_i gf cap xs is BQ py;rw[BQ]at yA;obtain⟨us,e1,yK⟩:=ix.SJ yA;exact RG g r ik rfl e1 (P8 r py) (λkj=>P7 r py kj) (yK.mono λ_ _=>ix.pT (λ_ h=>h.elim) (λ_ h=>h.elim)) (λ_=>yK.mono λ_ _=>ix.pT (λ_ h=>h) (λ_ h=>h.elim)) h ho
   .rename_i gf cap xs is BQ py;rw[BQ]at yA;obtain⟨us,e1,k2,k3⟩:=yA;split at h
    .rename_i ys js B3;exact RG g r ik rfl e1 (P8 r py) (λkj=>P7 r py (eC.1 kj).1) (Sf r B3 k2 k3) (λkj=>Se r B3 (eC.1 kj).2 k2 k3) h ho
    .cases h
   .cases h
  |invoke _ _=>simp[jk,ik]at h
 |_=>simp[jk,ik]at h
def adh(hT:lY P T)(g:Gd P K w0 B)(r:iS w0 B σ a w L)(h:ui P K T O σ o=some u)(ho:∀ q,q ∈ u.jo->q):GX P K w0 B σ o a w u:=by
 unfold ui at h;split at h
 .rename_i u0 h0;split at h
  .split at h
   .rename_i p hp;cases h;have he:PV.le u0.r p:=ho _ aH;have:=Ly hT g r h0 (λq hq=>ho q (by simp[hq]));intro Kc Q hk;exact this Kc Q λv w' L' hr hv=>hk v w' L' hr (he _ _ _ _ _ hv)
   .cases h;exact Ly hT g r h0 ho
  .cases h;exact Ly hT g r h0 ho
 .cases h
end
section
variable {P:Program} {K:World->Prop} {T:List TI} {O:pK} {σ τ:PS} {o:Oper} {u:kp}
def ahL{x:Operand}(h:∀ t,x = .tmp t->σ.get t=τ.get t):τ.op x=σ.op x:=by
 cases x with
 |tmp t=>exact(h t rfl).symm
 |_=>rfl
def aiu{p:PV}{m:Nat}{l:List E}{is:List Nat}{jo:List Prop}(h:σ.read p m=some (l,is,jo))(hb:∀ id,id ∈ is->σ.bo id=τ.bo id):τ.read p m=some (l,is,jo):=by
 cases p with
 |box id off=>
  have h0:=h;simp only[PS.read]at h;split at h
  .split at h
   .simp only[bu,bL]at h;obtain⟨_,rfl,_⟩:=h;simp only[PS.read,<-hb id aH];exact h0
   .cases h
  .cases h
 |mP id sz i j=>
  have h0:=h;simp only[PS.read]at h;split at h
  .split at h
   .simp only[bu,bL]at h;obtain⟨_,rfl,_⟩:=h;simp only[PS.read,<-hb id aH];exact h0
   .cases h
  .cases h
 |qu id sz k i j=>
  have h0:=h;simp only[PS.read]at h;split at h
  .split at h
   .simp only[bu,bL]at h;obtain⟨_,rfl,_⟩:=h;simp only[PS.read,<-hb id aH];exact h0
   .cases h
  .cases h
 |e x=>cases x<;>exact h
 |_=>exact h
def abL{c:CV}{e:E}{is:List Nat}(h:c.ext σ=some (e,is))(hb:∀ id,id ∈ is->σ.bo id=τ.bo id):c.ext τ=some (e,is):=by
 cases c with
 |e x=>exact h
 |box id=>
  have h0:=h;simp only[CV.ext]at h;split at h
  .simp only[bu,bL]at h;obtain⟨_,rfl⟩:=h;simp only[CV.ext,<-hb id aH];exact h0
  .cases h
 |row id=>
  have h0:=h;simp only[CV.ext]at h;split at h
  .split at h
   .simp only[bu,bL]at h;obtain⟨_,rfl⟩:=h;simp only[CV.ext,<-hb id aH];exact h0
   .cases h
  .cases h
def Sd{l:List CV}{es:List E}{is:List Nat}(h:uj σ l=some (es,is))(hb:∀ id,id ∈ is->σ.bo id=τ.bo id):uj τ l=some (es,is):=by
 induction l generalizing es is with
 |nil=>exact h
 |cons c l ih=>
  simp only[uj]at h;split at h
  .rename_i x i xs js h1 h2;simp only[bu,bL]at h;obtain⟨rfl,rfl⟩:=h;simp only[uj,abL h1 λid hi=>hb id (by simp[hi]),ih h2 λid hi=>hb id (by simp[hi])]
  .cases h
def ah3{p:PV}{e:E}{is:List Nat}(h:p.ext σ=some (e,is))(hb:∀ id,id ∈ is->σ.bo id=τ.bo id):p.ext τ=some (e,is):=by
 cases p with
 |e x=>exact h
 |box id off=>
  cases off with
  |succ=>exact h
  |zero=>
   have h0:=h;simp only[PV.ext]at h;split at h
   .simp only[bu,bL]at h;obtain⟨_,rfl⟩:=h;simp only[PV.ext,<-hb id aH];exact h0
   .cases h
 |oP f cap=>
  simp only[PV.ext]at h;split at h
  .rename_i xs js h1;simp only[bu,bL]at h;obtain⟨rfl,rfl⟩:=h;simp only[PV.ext,Sd h1 hb]
  .cases h
 |own id=>
  have h0:=h;simp only[PV.ext]at h;split at h
  .simp only[bu,bL]at h;obtain⟨_,rfl⟩:=h;simp only[PV.ext,<-hb id aH];exact h0
  .simp only[bu,bL]at h;obtain⟨_,rfl⟩:=h;simp only[PV.ext,<-hb id aH];exact h0
  .cases h
 |iC id k=>
  have h0:=h;simp only[PV.ext]at h;split at h
  .split at h
   .simp only[bu,bL]at h;obtain⟨_,rfl⟩:=h;simp only[PV.ext,<-hb id aH];exact h0
   .cases h
  .cases h
 |_=>exact h
def P6{l:List Operand}{es:List E}{is:List Nat}(h:tD σ l=some (es,is))(hg:∀ x,x ∈ l->τ.op x=σ.op x)(hb:∀ id,id ∈ is->σ.bo id=τ.bo id):tD τ l=some (es,is):=by
 induction l generalizing es is with
 |nil=>exact h
 |cons c l ih=>
  simp only[tD]at h;split at h
  .rename_i x i xs js h1 h2;simp only[bu,bL]at h;obtain⟨rfl,rfl⟩:=h;simp only[tD,hg c aH,ah3 h1 λid hi=>hb id (by simp[hi]),ih h2 (λx hx=>hg x (by simp[hx])) λid hi=>hb id (by simp[hi])]
  .cases h
def afM{p:PV}{e:E}{is:List Nat}(h:p.ext σ=some (e,is))(hb:∀ id,id ∈ is->σ.bo id=τ.bo id):p.vO τ=p.vO σ:=by
 cases p with
 |own id=>
  have hid:σ.bo id=τ.bo id:=by
   simp only[PV.ext]at h;split at h
   .simp only[bu,bL]at h;obtain⟨_,rfl⟩:=h;exact hb id aH 
   .simp only[bu,bL]at h;obtain⟨_,rfl⟩:=h;exact hb id aH 
   .cases h
  simp only[PV.vO,hid]
 |_=>rfl
def PZ{l:List Operand}{es:List E}{is:List Nat}(h:tD σ l=some (es,is))(hg:∀ x,x ∈ l->τ.op x=σ.op x)(hb:∀ id,id ∈ is->σ.bo id=τ.bo id):(l.map τ.op).any (PV.vO τ)=(l.map σ.op).any (PV.vO σ):=by
 induction l generalizing es is with
 |nil=>rfl
 |cons c l ih=>
  simp only[tD]at h;split at h
  .rename_i x i xs js h1 h2;simp only[bu,bL]at h;obtain⟨rfl,rfl⟩:=h;simp only[dX,dZ,hg c aH,afM h1 λid hi=>hb id (by simp[hi]),ih h2 (λx hx=>hg x (by simp[hx])) λid hi=>hb id (by simp[hi])]
  .cases h
def Ss{place:Nat->Option (Nat×Nat)}{ps:List (Nat×Operand)}(hg:∀ x,x ∈ ps.map (·.2)->τ.op x=σ.op x):∀ l,rW τ place l ps=rW σ place l ps:=by
 induction ps with
 |nil=>intro l;rfl
 |cons p ps ih=>
  intro l;obtain⟨i,x⟩:=p;simp only[rW,hg x aH,ih λx hx=>hg x (by simp only[dX,cV];exact .inr hx)]
def Ny{d:Option Tmp}{b:Bx}{rr:Nat->PV}{jo:List Prop}(h:yV σ d b rr jo=some u)(jx:σ.nl=τ.nl)(hn:∀ id b,u.f = .new id b->τ.bo id=none):yV τ d b rr jo=some u:=by
 obtain⟨id,rfl,kj,hc,rfl⟩:=FV h;rw[jx]at hc;simp only[yV,hn id b rfl,hc,bw]
def Wk{d:Nat}{b:Bx}(h:σ.bo d=τ.bo d):ub τ d b=ub σ d b:=by unfold ub;rw[h]
def Wm{d:Nat}{is:List Nat}(h:σ.bo d=τ.bo d):y3 τ d is=y3 σ d is:=by unfold y3;rw[h]
def Wn{d:Nat}{b:Bx}{is:List Nat}{u:kp}(hf:u.f=ub σ d b)(hr:u.rb=y3 σ d is)(hb:∀ id,id ∈ u.rb->σ.bo id=τ.bo id)(hn:∀ id b,u.f = .new id b->τ.bo id=none):σ.bo d=τ.bo d:=by
 cases jd:σ.bo d with
 |none=>exact(hn d b (by rw[hf,ub,jd])).symm
 |some x=>rw[<-jd];exact hb d (by rw[hr,y3,jd];simp)
def VH{d:Option Tmp}{b:Bx}{rr:Nat->PV}(h:AG σ d b rr=some u)(hb:∀ id,id ∈ u.rb->σ.bo id=τ.bo id)(jx:σ.nl=τ.nl)(hn:∀ id b,u.f = .new id b->τ.bo id=none):AG τ d b rr=some u:=by
 obtain⟨id,rfl,hc,rfl⟩:=Jw h;have e:σ.bo id=τ.bo id:=Wn (b:=b) (is:=[]) rfl rfl hb hn;rw[jx]at hc;simp only[AG,hc,bw,Wk e,Wm e]
def R9{d:Option Tmp}{t:TypeId}{s x:PV}{u:kp}(h:zZ T σ d t s x=some u)(hb:∀ id,id ∈ u.rb->σ.bo id=τ.bo id)(jx:σ.nl=τ.nl)(hn:∀ id b,u.f = .new id b->τ.bo id=none):zZ T τ d t s x=some u:=by
 simp only[zZ]at h ⊢;split at h
 .split at h
  .split at h
   .split at h
    .split at h
     .split at h
      .rename_i hc;simp only[hc,bw];split at h
       .rename_i id;split at h
        .rename_i jd;split at h
         .rename_i oh;cases h;simp only[<-hb id aH,<-jx,jd,oh,bw]
         .cases h
        .cases h
       .rename_i id k;split at h
        .rename_i jd;split at h
         .rename_i oh;cases h;simp only[<-hb id aH,jd,oh,bw]
         .cases h
        .cases h
       .exact Ny h jx hn
       .cases h
      .cases h
     .cases h
    .cases h
   .cases h
  .cases h
 .cases h
def ac6{d:Option Tmp}{t:TypeId}{s x:PV}{u:kp}(h:Bs T σ d t s x=some u)(hb:∀ id,id ∈ u.rb->σ.bo id=τ.bo id)(jx:σ.nl=τ.nl):Bs T τ d t s x=some u:=by
 unfold Bs at h ⊢;split at h
 .rename_i u0 h0;split at h
  .rename_i id nl T1 n sz el id' hf hr;split at h
   .rename_i hid;cases h;have:=R9 (σ:={ σ with nl:=false }) (τ:={ τ with nl:=false }) h0 hb rfl λi b e=>by rw[hf]at e;cases e
    rw[this];simp only[hf,hr,hid,bw]
   .cases h
  .cases h
 .cases h
def ac9{d:Option Tmp}{t:TypeId}{n q:Nat}{u:kp}(h:Bu T σ d t n q=some u)(hb:∀ id,id ∈ u.rb->σ.bo id=τ.bo id):Bu T τ d t n q=some u:=by
 unfold Bu at h ⊢;split at h
 .rename_i id;have h0:=h;split at h
  .rename_i h1 h2 h3;split at h
   .rename_i hc;cases h;simp only[<-hb id aH,<-hb q aH];exact h0
   .cases h
  .cases h
 .cases h
def ac8{d:Option Tmp}{t:TypeId}{s:PV}{q:Nat}{u:kp}(h:Bt T σ d t s q=some u)(hb:∀ id,id ∈ u.rb->σ.bo id=τ.bo id):Bt T τ d t s q=some u:=by
 unfold Bt at h ⊢;have h0:=h;split at h
 .rename_i h1 h2;split at h
  .rename_i id;split at h
   .rename_i h3;split at h
    .rename_i hc;cases h;simp only[<-hb id aH,<-hb q aH];exact h0
    .cases h
   .cases h
  .rename_i id;split at h
   .rename_i h3;split at h
    .rename_i hc;cases h;simp only[<-hb id aH,<-hb q aH];exact h0
    .cases h
   .cases h
  .cases h
 .cases h
def ahZ{ps:List (Nat×Operand)}(hg:∀ x,x ∈ ps.map (·.2)->τ.op x=σ.op x):AL τ ps=AL σ ps:=by
 unfold AL;split
 .rw [hg _ aH]
 .rfl
def ada(h:jk P K T O σ o=some u)(hg:∀ x,x ∈ o.op.operands->τ.op x=σ.op x)(hb:∀ id,id ∈ u.rb->σ.bo id=τ.bo id)(jx:σ.nl=τ.nl)(hn:∀ id b,u.f = .new id b->τ.bo id=none):
 jk P K T O τ o=some u:=by
 cases ik:o.op with
 |move x=>rw[ik]at hg;simp only[jk,ik]at h ⊢;rw[hg x aP];exact h
 |assign x=>rw[ik]at hg;simp only[jk,ik]at h ⊢;rw[hg x aP];exact h
 |pick c x y=>rw[ik]at hg;simp only[jk,ik]at h ⊢;rw[hg c aP,hg x aP,hg y aP];exact h
 |nilCheck x=>rw[ik]at hg;simp only[jk,ik]at h ⊢;rw[hg x aP];exact h
 |binOp op t x y yt=>rw[ik]at hg;simp only[jk,ik]at h ⊢;rw[hg x aP,hg y aP];exact h
 |unOp op t x=>rw[ik]at hg;simp only[jk,ik]at h ⊢;rw[hg x aP];exact h
 |convert s d x=>rw[ik]at hg;simp only[jk,ik]at h ⊢;rw[hg x aP];exact h
 |index t x i=>rw[ik]at hg;simp only[jk,ik]at h ⊢;rw[hg x aP,hg i aP];exact h
 |extract x i=>rw[ik]at hg;simp only[jk,ik]at h ⊢;rw[hg x aP];exact h
 |fieldAddr t x f=>rw[ik]at hg;simp only[jk,ik]at h ⊢;rw[hg x aP];exact h
 |field t x f=>rw[ik]at hg;simp only[jk,ik]at h ⊢;rw[hg x aP];exact h
 |lookup t x i ok=>
  rw[ik]at hg;cases ok with
  |true=>simp[jk,ik]at h
  |false=>simp only[jk,ik]at h ⊢;rw[hg x aP,hg i aP];exact h
 |makeFunc fn first cap=>
  rw[ik]at hg;cases fn with
  |func f=>
   simp only[jk,ik]at h ⊢;have:cap.toList.map τ.op=cap.toList.map σ.op:=fe λx hx=>hg x (by simp only[Op.operands,eU];exact .inr (by simpa using hx))
   rw[this];exact h
  |_=>simp[jk,ik]at h
 |slice t x lo hi mx=>
  rw[ik]at hg;cases mx with
  |some=>simp[jk,ik]at h
  |none=>
   simp only[jk,ik]at h ⊢;have e1:lo.map τ.op=lo.map σ.op:=by cases lo with
    |none=>rfl
    |some y=>simp only[ct];rw[hg y aP]
   have e2:hi.map τ.op=hi.map σ.op:=by cases hi with
    |none=>rfl
    |some y=>simp only[ct];rw[hg y aP]
   rw[hg x aP,e1,e2];exact h
 |alloc t=>
  simp only[jk,ik]at h ⊢;split at h
  .split at h
   .exact VH h hb jx hn
   .cases h
  .cases h
 |box t x=>
  rw[ik]at hg;simp only[jk,ik]at h ⊢;rw[hg x aP];split at h
  .split at h
   .exact VH h hb jx hn
   .cases h
  .cases h
 |build t ps=>
  rw[ik]at hg;simp only[jk,ik]at h ⊢;have hf:∀ place l,rW τ place l ps.toList=rW σ place l ps.toList:=λplace=>Ss λx hx=>hg x (by simpa[Op.operands]using hx)
  simp only[hf];exact h
 |buildSlice t n ps=>
  rw[ik]at hg;simp only[jk,ik]at h ⊢;have hf:∀ place l,rW τ place l ps.toList=rW σ place l ps.toList:=λplace=>Ss λx hx=>hg x (by simpa[Op.operands]using hx)
  have ho:AL τ ps.toList=AL σ ps.toList:=ahZ λx hx=>hg x (by simpa[Op.operands]using hx)
  simp only[hf,ho];split at h
  .exact ac9 h hb
  split at h
  .split at h
   .split at h
    .split at h
     .split at h
      .rename_i hif;rw[aZ hif];obtain⟨l,hl,h⟩:=gr.1 h;refine gr.2 ⟨l,hl,?_⟩;split at h
       .cases h
       .rename_i h1;rw[aY h1];split at h
        .rename_i h2;rw[aZ h2];exact Ny h jx hn
        .rename_i h2;rw[aY h2];exact h
      .cases h
     .cases h
    .cases h
   .cases h
  .cases h
 |load t x=>
  rw[ik]at hg;simp only[jk,ik,Il]at h ⊢;rw[hg x aP];split at h
  .rename_i ti qs;split at h
   .rename_i id i n pE;have afm:Cx τ (σ.op x)=some (id,i,n):=by
     have hid:σ.bo id=τ.bo id:=by
      split at h
      .cases h
      .cases h;exact hb id aH 
     cases hp:σ.op x with
     |mP id' sz i' j=>
      rw[hp]at pE;have h0:=pE;simp only[Cx]at pE;split at pE
      .split at pE
       .simp only[bu,bL]at pE;obtain⟨rfl,_,_⟩:=pE;simp only[Cx,<-hid];exact h0
       .cases pE
      .cases pE
     |_=>rw[hp]at pE;cases pE
    simp only[afm];exact h
   .rename_i pE;have key:∀ is,(∃ l jo,σ.read (σ.op x) ti.i.size=some (l,is,jo))->(∀ id,id ∈ is->σ.bo id=τ.bo id)->Cx τ (σ.op x)=none:=by
     rintro is ⟨l,jo,hr⟩ nF;cases hp:σ.op x with
     |mP id sz i j=>
      rw[hp]at hr pE;simp only[PS.read]at hr;split at hr
      .rename_i jd;split at hr
       .simp only[bu,bL]at hr;obtain⟨_,rfl,_⟩:=hr;simp only[Cx,<-nF id aH,jd]
       .cases hr
      .cases hr
     |_=>rfl
    cases hr:σ.read (σ.op x) ti.i.size with
    |none=>rw[hr]at h;cases h
    |some y=>
     obtain⟨l,is,jo⟩:=y;have BV:u.rb=is:=by
      rw[hr]at h;simp only[FO]at h;split at h
      .cases h;rfl
      .split at h
       .cases h;rfl
       .cases h
     have nF:∀ id,id ∈ is->σ.bo id=τ.bo id:=λid hi=>hb id (by rw[BV];exact hi)
     rw[key is ⟨l,jo,hr⟩ nF];simp only;rw[aiu hr nF];rw[hr]at h;exact h
  .cases h
 |store t x y=>
  rw[ik]at hg;simp only[jk,ik,Ip]at h ⊢;rw[hg x aP,hg y aP];split at h
  .split at h
   .rename_i id off e _ _;split at h
    .rename_i jd hm;split at h
     .rename_i hc;cases h;rw[jx]at hc;simp only[<-hb id aH,jd,hm,hc,bw]
     .cases h
    .cases h
   .rename_i id q _ _;split at h
    .rename_i jd hm;split at h
     .rename_i hc;cases h;simp only[<-hb id aH,<-hb q aH,jd,hm,hc,bw]
     .cases h
    .cases h
   .rename_i id sz i j e _ _;split at h
    .rename_i jd hm;split at h
     .rename_i hc;cases h;simp only[<-hb id aH,jd,hm,hc,bw]
     .cases h
    .cases h
   .rename_i id i id' k _ _;split at h
    .rename_i jd;split at h
     .rename_i hc;cases h;simp only[<-hb id aH,jd,hc,bw]
     .cases h
    .cases h
   .cases h
  .cases h
 |makeSlice t l c=>
  rw[ik]at hg;simp only[jk,ik,Im]at h ⊢;rw[hg l aP,hg c aP];split at h
  .exact Ny h jx hn
  .cases h
 |indexAddr t x i=>
  rw[ik]at hg;simp only[jk,ik,Ik]at h ⊢;rw[hg x aP,hg i aP];split at h
  .split at h
   .split at h
    .split at h
     .split at h
      .exact h
      .exact h
      .rename_i id _;split at h
       .rename_i jd;split at h
        .rename_i hc;cases h;simp only[<-hb id aH,jd,hc,bw]
        .cases h
       .rename_i jd;split at h
        .rename_i hc;cases h;simp only[<-hb id aH,jd,hc,bw]
        .cases h
       .cases h
      .rename_i id _ _;split at h
       .rename_i jd;split at h
        .rename_i hc;cases h;simp only[<-hb id aH,jd,hc,bw]
        .cases h
       .cases h
      .cases h
     .cases h
    .exact h
    .cases h
   .cases h
  .cases h
 |call c=>
  rw[ik]at hg;obtain⟨callee,args,ats⟩:=c;have ha:∀ x,x ∈ args.toList->τ.op x=σ.op x:=λx hx=>hg x (by simp only[Op.operands,Call.operands,eU];exact .inr (by simpa using hx))
  have TY:args.toList.map τ.op=args.toList.map σ.op:=fe ha;cases callee with
  |builtin b=>
   simp only[jk,ik]at h ⊢;cases b
   case len=>
    dsimp only at h ⊢;split at h
    .rename_i x t hx ht;split at h
     .obtain ⟨rr,hr,rfl⟩:=cG.1 h;rw[ha x (by rw[hx];simp)];have:si (σ.op x) τ=some rr:=by
       cases hp:σ.op x with
       |own id=>
        rw[hp]at hr;have h0:=hr;simp only[si]at hr;split at hr
        .simp only[bu]at hr;subst hr;simp only[si,<-hb id aH];exact h0
        .simp only[bu]at hr;subst hr;simp only[si,<-hb id aH];exact h0
        .cases hr
       |iC id k=>
        rw[hp]at hr;have h0:=hr;simp only[si]at hr;split at hr
        .split at hr
         .simp only[bu]at hr;subst hr;simp only[si,<-hb id aH];exact h0
         .cases hr
        .cases hr
       |e y=>
        rw[hp]at hr;cases y with
        |v z=>cases z<;>exact hr
        |_=>exact hr
       |_=>rw[hp]at hr;exact hr
      rw[this];rfl
     .cases h
    .cases h
   case append=>
    dsimp only at h ⊢;split at h
    .rename_i s x t t' hx ht;split at h
     .rename_i qc;simp only[qc,bw];rw[ha x (by rw[hx];simp),ha s (by rw[hx];simp)];have o0:Hd O o.dst=Hd O o.dst:=rfl;split at h
      .exact ac8 h hb
      split at h
      .rename_i Mi;simp only[Mi,bw];exact ac6 h hb jx
      .rename_i Mi;simp only[Mi,bj,bB];exact R9 h hb jx hn
     .cases h
    .cases h
   case max=>dsimp only at h ⊢;rw[TY];exact h
   case min=>dsimp only at h ⊢;rw[TY];exact h
   all_goals cases h
  |value f=>
   have hf:τ.op f=σ.op f:=hg f (by simp[Op.operands,Call.operands]);simp only[jk,ik]at h ⊢;rw[hf];have ec:∀ {gf:FuncId} {zs:List E} {is:List Nat} {ow:Bool},z8 P K O σ o.dst gf zs is ow=some u->(∀ id,id ∈ is->id ∈ u.rb)/\z8 P K O τ o.dst gf zs is ow=some u:=by
    intro gf zs is ow hh;simp only[z8]at hh ⊢;rw[jx]at hh;split at hh
    .rename_i jP Ft;refine⟨?_,hh⟩;split at hh
     .cases hh;exact λ_ h=>h
     .split at hh
      .cases hh;exact λ_ h=>h
      .split at hh
       .cases hh;exact λ_ h=>h
       .cases hh
    .split at hh
     .rename_i d hd;split at hh
      .rename_i nl T n sz el h1;split at hh
       .rename_i hc;cases hh;have e:=Wn (σ:=σ) (τ:=τ) (b:=.row nl T n sz el) (is:=is) rfl rfl hb hn;refine⟨λid hid=>?_,?_⟩
        .unfold y3;split
         .exact hid
         .simp [hid]
        .simp only[hc,bw,Wk e,Wm e]
       .cases hh
      .cases hh
     .cases hh
   split at h
   .rename_i gf cap xs is BQ py;obtain⟨e1,e2⟩:=ec h;rw[PZ py ha λid hi=>hb id (e1 id hi),P6 py ha λid hi=>hb id (e1 id hi),BQ];exact e2
   .rename_i gf cap xs is BQ py;split at h
    .rename_i ys js B3;obtain⟨e1,e2⟩:=ec h;rw[PZ py ha λid hi=>hb id (e1 id (by simp[hi])),P6 py ha λid hi=>hb id (e1 id (by simp[hi])),BQ];simp only;rw[Sd B3 λid hi=>hb id (e1 id (by simp[hi]))];exact e2
    .cases h
   .cases h
  |invoke _ _=>simp[jk,ik]at h
 |_=>simp[jk,ik]at h
end
def agZ{l:List Operand}{t:Tmp}(h:Operand.tmp t ∈ l):t ∈ D9 l:=by
 induction l with
 |nil=>simp at h
 |cons x l ih=>
  rcases cV.1 h with h|h
  .subst h;simp[D9]
  .have:=ih h;cases x<;>simp[D9,this]
def aeV{l:List Nat}{n:Nat}:Ml l n=true↔n ∈ l:=by
 unfold Ml;rw[dJ];constructor
 .rintro ⟨x,hx,hb⟩;have:=kG.1 hb;subst this;exact hx
 .intro h;exact⟨n,h,cg n⟩
def JF{l:List Nat}{d:Option Nat}(h:DL l d=true){x:Nat}(hx:d=some x):x ∉ l:=by
 subst hx;simp only[DL,dI]at h;intro hm;rw[aeV.2 hm]at h;cases h
def Kr{a b:Option Nat}(h:Kq a b=true){x y:Nat}(hx:a=some x)(hy:b=some y):x≠y:=by
 subst hx hy;simp only[Kq,dI]at h;intro e;rw[kG.2 e]at h;cases h
def Ed{f:qj}(hf:f.B9=false)(p:PV):p.mR f=if yT f p then p else .e .any:=by
 cases f<;>first|(cases hf;done)|skip
 all_goals (cases p<;>simp only[PV.mR,yT,bw])
 all_goals (split<;>rename_i h<;>simp[h])
def Nk{f:qj}(hf:f.B9=false){p:PV}(h:yT f p=true):p.mR f=p:=by rw[Ed hf,aZ h]
def agi(f:qj):yT f (.e .any)=true:=by cases f<;>rfl
def alh(p:PV){f g:qj}(hf:f.B9=false)(hg:g.B9=false):(p.mR f).mR g=(p.mR g).mR f:=by
 rw[Ed hf p,Ed hg p];cases h1:yT f p<;>cases h2:yT g p<;>simp only[bw,bB,bj,Ed hf,Ed hg,agi,h1,h2]
structure rU(σ τ:PS):Prop where
 n:σ.n=τ.n
 nl:σ.nl=τ.nl
 get:∀ t,σ.get t=τ.get t
 bo:∀ id,σ.bo id=τ.bo id
def rU.refl(σ:PS):rU σ σ:=⟨rfl,rfl,λ_=>rfl,λ_=>rfl⟩
def rU.symm{σ τ:PS}(h:rU σ τ):rU τ σ:=⟨h.n.symm,h.nl.symm,λt=>(h.get t).symm,λi=>(h.bo i).symm⟩
def rU.trans{σ τ υ:PS}(h:rU σ τ)(k:rU τ υ):rU σ υ:=⟨h.n.trans k.n,h.nl.trans k.nl,λt=>(h.get t).trans (k.get t),λi=>(h.bo i).trans (k.bo i)⟩
def iS.pR{w0:World}{B:Nat->Prop}{σ τ:PS}{a:Act}{w:World}{L:Lk}(r:iS w0 B σ a w L)(h:rU σ τ):iS w0 B τ a w L:=
 ⟨r.hd,r.hs.trans h.n,λt=>by rw[<-h.get];exact r.ht t,λid b hb=>r.hb id b (by rw[h.bo];exact hb),λid=>by rw[<-h.bo];exact r.hv id,r.hn,r.hw,r.hi,r.he,λhn id b hb=>r.hl (by rw[h.nl];exact hn) id b (by rw[h.bo];exact hb)⟩
def Bi(σ:PS)(f:qj)(id:Nat):(σ.nE f).bo id=match f with
 | .none=>σ.bo id
 | .new i b | .vc i b | .qP i b | .uw i b | .AS i b=>if i=id then some b else σ.bo id
 | .fin i=>if i=id then none else σ.bo id
 | .qY i r b=>if i=id then some b else if r=id then none else σ.bo id:=by
 cases f<;>first|rfl|exact Cg _ _ _ _|exact Cf _ _ _|skip
 rename_i i r b;show look (tw (σ.b.filter λx=>!Nat.beq x.1 r) i b) id=_;rw[Cg,Cf];rfl
def E5(σ:PS)(d:Option Tmp)(u:kp)(t:Nat):(σ.app d u).get t=if d=some t then u.r else(σ.get t).mR u.f:=by
 unfold PS.app;cases d with
 |none=>
  rw[aY aH];exact PS.By σ u.f t
 |some d=>
  rw[PS.LW,PS.By];simp only[bu]
def Bh(σ:PS)(d:Option Tmp)(u:kp)(id:Nat):(σ.app d u).bo id=(σ.nE u.f).bo id:=PS.aas _ _ _ _
def F1(σ:PS)(d:Option Tmp)(u:kp):(σ.app d u).n=σ.n:=by unfold PS.app;rw[PS.NK];rfl
def F5(σ:PS)(d:Option Tmp)(u:kp):(σ.app d u).nl=σ.nl:=by unfold PS.app;rw[PS.ahz];rfl
def zL(σ:PS)(d:Option Tmp)(u:kp)(id:Nat)(hm:u.f.B9=false)(h:u.f.id≠some id):(σ.app d u).bo id=σ.bo id:=by
 rw[Bh,Bi];cases hf:u.f<;>rw[hf]at h hm<;>simp only[qj.id,cS,bu]at h<;>first|rfl|exact aY h|cases hm
section
variable {P:Program} {K:World->Prop} {T:List TI} {O:pK} {gS:Array Oper} {σ τ:PS} {o:Oper} {u:kp}
def ade(h:jk P K T O σ o=some u){x:Operand}(hx:x ∈ o.op.operands):x ∈ Ga o.op:=by
 obtain⟨dst,op,ty,pos,after,guard⟩:=o;simp only at hx ⊢;cases op<;>first
  | (simp only[jk]at h;cases h;done)
  | (exfalso;simp[Op.operands]at hx;done)
  | (simpa[Op.operands,Ga]using hx)
  | (simpa[Op.operands,Ga,or_assoc]using hx)
  |skip
 case call c=>
  obtain⟨callee,args,ats⟩:=c;cases callee<;>simpa[Op.operands,Ga,Call.operands]using hx
def Nz{d:Option Tmp}{b:Bx}{rr:Nat->PV}{jo:List Prop}(h:yV σ d b rr jo=some u){id:Nat}{b':Bx}(hf:u.f = .new id b'):σ.bo id=none:=by
 obtain⟨i,_,kj,_,rfl⟩:=FV h;cases hf;exact kj
def Wl{d:Nat}{b:Bx}{id:Nat}{b':Bx}(hf:ub σ d b = .new id b'):σ.bo id=none:=by
 unfold ub at hf;split at hf
 .rename_i h;cases hf;exact h
 .cases hf
def VI{d:Option Tmp}{b:Bx}{rr:Nat->PV}(h:AG σ d b rr=some u){id:Nat}{b':Bx}(hf:u.f = .new id b'):σ.bo id=none:=by
 obtain⟨i,_,_,rfl⟩:=Jw h;exact Wl hf
def adb(h:jk P K T O σ o=some u){id:Nat}{b:Bx}(hf:u.f = .new id b):σ.bo id=none:=by
 cases ik:o.op
 case alloc=>
  simp only[jk,ik]at h;split at h
  .split at h
   .exact VI h hf
   .cases h
  .cases h
 case box=>
  simp only[jk,ik]at h;split at h
  .split at h
   .exact VI h hf
   .cases h
  .cases h
 case makeSlice=>
  simp only[jk,ik,Im]at h;split at h
  .exact Nz h hf
  .cases h
 case makeFunc fn first cap=>
  cases fn with
  |func f=>
   simp only[jk,ik]at h
   repeat' split at h
   all_goals first
    | (cases h;done)
    | (cases h;cases hf;done)
  |_=>simp[jk,ik]at h
 case lookup t x i ok=>
  cases ok with
  |true=>simp[jk,ik]at h
  |false=>
   simp only[jk,ik]at h
   repeat' split at h
   all_goals first
    | (cases h;done)
    | (cases h;cases hf;done)
 case slice t x lo hi mx=>
  cases mx with
  |none=>
   simp only[jk,ik,Io]at h
   repeat' split at h
   all_goals first
    | (cases h;done)
    | (cases h;cases hf;done)
  |some=>simp[jk,ik]at h
 case call c=>
  obtain⟨callee,args,ats⟩:=c;cases callee with
  |builtin b=>
   simp only[jk,ik]at h;cases b
   case append=>
    dsimp only at h;split at h
    .split at h
     .split at h
      .unfold Bt at h
       repeat' split at h
       all_goals first
        | (cases h;done)
        | (cases h;cases hf;done)
      split at h
      .unfold Bs at h;split at h
       .split at h
        .split at h
         .cases h;cases hf
         .cases h
        .cases h
       .cases h
      .simp only[zZ]at h
       repeat' split at h
       all_goals first
        | (cases h;done)
        |exact Nz h hf
        | (cases h;cases hf;done)
     .cases h
    .cases h
   all_goals
    dsimp only at h
    repeat' split at h
    all_goals first
     | (cases h;done)
     | (cases h;cases hf;done)
     | (obtain⟨_,_,rfl⟩:=cG.1 h;cases hf)
  |value f=>
   simp only[jk,ik]at h
   repeat' split at h
   all_goals first
    | (cases h;done)
    | (simp only[z8]at h;repeat' split at h)
   all_goals first
    | (cases h;done)
    | (cases h;cases hf;done)
    | (cases h;cases hf;assumption)
    | (cases h;exact Wl hf)
  |invoke _ _=>simp[jk,ik]at h
 all_goals
  simp only[jk,ik,Ip,Ik,Io,Il,FO,Bu]at h
  repeat' split at h
  all_goals first
   | (cases h;done)
   | (cases h;cases hf;done)
   | (obtain⟨_,_,rfl⟩:=cG.1 h;cases hf)
   |skip
 all_goals first
  | (obtain⟨_,_,h⟩:=gr.1 h;repeat' split at h)
  |skip
 all_goals first
  |exact Nz h hf
  | (cases h;done)
  | (cases h;cases hf;done)
def LB(h:ui P K T O σ o=some u):∃ u0,jk P K T O σ o=some u0/\u0.rb=u.rb/\u0.f=u.f:=by
 unfold ui at h;split at h
 .rename_i u0 h0;split at h
  .split at h
   .cases h;exact⟨u0,h0,rfl,rfl⟩
   .cases h;exact⟨_,h0,rfl,rfl⟩
  .cases h;exact⟨_,h0,rfl,rfl⟩
 .cases h
def adg(h:ui P K T O σ o=some u)(hg:∀ x,x ∈ o.op.operands->τ.op x=σ.op x)(hb:∀ id,id ∈ u.rb->σ.bo id=τ.bo id)(jx:σ.nl=τ.nl)(hn:∀ id b,u.f = .new id b->τ.bo id=none):
 ui P K T O τ o=some u:=by
 obtain⟨u0,h0,e1,e2⟩:=LB h;have:=ada (τ:=τ) h0 hg (by rw[e1];exact hb) jx (by rw[e2];exact hn);unfold ui at h ⊢;rw[h0]at h;rw[this];exact h
def ES(h:rk P K T O gS σ o=some u):vN σ o.dst=true/\u.rd=(looks gS o).map σ.get/\((zC gS σ o=some true/\∃ u0,ui P K T O σ o=some u0/\u={ u0 with rd:=(looks gS o).map σ.get })\/(zC gS σ o=some false/\u={ r:=.e (.v (.tuple #[])),rd:=(looks gS o).map σ.get })):=by
 unfold rk at h;split at h
 .rename_i hi;split at h
  .rename_i hw;split at h
   .rename_i u0 h0;cases h;exact⟨hi,rfl,.inl ⟨hw,u0,h0,rfl⟩⟩
   .cases h
  .rename_i hw;cases h;exact⟨hi,rfl,.inr ⟨hw,rfl⟩⟩
  .cases h
 .cases h
def Lz(h:rk P K T O gS σ o=some u)(hg:∀ t,t ∈ looks gS o->σ.get t=τ.get t)(hb:∀ id,id ∈ u.rb->σ.bo id=τ.bo id)(jx:σ.nl=τ.nl)(mo:σ.n=τ.n)(hn:∀ id b,u.f = .new id b->τ.bo id=none):
 rk P K T O gS τ o=some u:=by
 obtain⟨hi,_,hw⟩:=ES h;have kY:vN τ o.dst=vN σ o.dst:=by cases o.dst<;>simp[vN,mo]
 have MX:zC gS τ o=zC gS σ o:=by
  unfold zC;cases BF:o.guard with
  |none=>rfl
  |some jw=>
   obtain⟨j,want⟩:=jw;cases hd:(gS[j]?).bind (·.dst)with
   |none=>simp[hd]
   |some t=>
    simp only[hd];rw[hg t (by unfold looks;rw[BF];simp[hd])]
 have MM:(looks gS o).map τ.get=(looks gS o).map σ.get:=fe λt ht=>(hg t ht).symm
 unfold rk;rw[kY,hi,MX,MM];simp only[bw];rcases hw with⟨hw,u0,h0,rfl⟩|⟨hw,rfl⟩
 .rw [hw];have ik:∀ x,x ∈ o.op.operands->τ.op x=σ.op x:=by
   intro x hx;obtain⟨u1,h1,_,_⟩:=LB h0;have hm:=ade h1 hx;refine ahL λt ht=>hg t ?_
   subst ht;unfold looks;exact List.mem_append_left _ (agZ hm)
  simp only[adg h0 ik hb jx hn]
 .rw [hw]
def LA(h:rk P K T O gS σ o=some u){id:Nat}{b:Bx}(hf:u.f = .new id b):σ.bo id=none:=by
 obtain⟨_,_,⟨_,u0,h0,rfl⟩|⟨_,rfl⟩⟩:=ES h
 .obtain ⟨u1,h1,_,e2⟩:=LB h0;exact adb h1 (by rw[e2];exact hf)
 .cases hf
def adf(h:rk P K T O gS σ o=some u)(hs:rU σ τ):rk P K T O gS τ o=some u:=
 Lz h (λt _=>hs.get t) (λid _=>hs.bo id) hs.nl hs.n λid b hf=>by rw[<-hs.bo];exact LA h hf
def Zv(hs:rU σ τ)(d:Option Tmp)(u:kp):rU (σ.app d u) (τ.app d u):=
 ⟨by rw[F1,F1];exact hs.n,by rw[F5,F5];exact hs.nl,λt=>by rw[E5,E5,hs.get],λid=>by rw[Bh,Bh,Bi,Bi,hs.bo]⟩
def akm{O':pK}{x y:Oper×kp}(hi:B6 gS x y=true)(h1:rk P K T O gS σ x.1=some x.2)(h2:rk P K T O' gS (σ.app x.1.dst x.2) y.1=some y.2):
 rk P K T O' gS σ y.1=some y.2/\rk P K T O gS (σ.app y.1.dst y.2) x.1=some x.2/\rU ((σ.app x.1.dst x.2).app y.1.dst y.2) ((σ.app y.1.dst y.2).app x.1.dst x.2):=by
 simp only[B6,bE]at hi;obtain⟨⟨⟨⟨⟨⟨⟨⟨⟨⟨⟨i1,i2⟩,i3⟩,i4⟩,i5⟩,i6⟩,i7⟩,i8⟩,i9⟩,i10⟩,m1⟩,m2⟩:=hi;simp only[dI]at m1 m2;obtain⟨_,rx,_⟩:=ES h1;obtain⟨_,ry,_⟩:=ES h2;have r1:rk P K T O' gS σ y.1=some y.2:=by
  refine Lz h2 (λt ht=>?_) (λid hid=>zL _ _ _ _ m1 λe=>JF i4 e hid) (F5 _ _ _) (F1 _ _ _) λid b hf=>?_
  .have hg:(σ.app x.1.dst x.2).get t=(σ.get t).mR x.2.f:=by
    rw[E5,aY λe=>JF i1 e ht]
   rw[hg];by_cases hv:x.2.f.Kx=true
   .have BL:NU ((σ.get t).mR x.2.f)=true:=by
     have h9:y.2.rd.all NU=true:=by simpa[hv]using i9
     rw[ry]at h9;exact bN.1 h9 _ (dg.2 ⟨t,ht,hg⟩)
    rw[Ed m1]at BL ⊢;split at BL
    .rename_i hk;rw[aZ hk]
    .cases BL
   .cases hf:x.2.f<;>rw[hf]at hv<;>first|exact absurd rfl hv|(cases σ.get t<;>rfl)
  .have:=LA h2 hf;rwa[zL _ _ _ _ m1 λe=>Kr i6 e (by rw[hf];rfl) rfl]at this
 refine⟨r1,?_,?_⟩
 .refine Lz h1 (λt ht=>?_) (λid hid=>(zL _ _ _ _ m2 λe=>JF i5 e hid).symm) (F5 _ _ _).symm (F1 _ _ _).symm λid b hf=>?_
  .rw [E5,aY λe=>JF i3 e ht];rw[rx]at i10;exact(Nk m2 (bN.1 i10 _ (dg.2 ⟨t,ht,rfl⟩))).symm
  .rw [zL _ _ _ _ m2 λe=>Kr i6 (by rw[hf];rfl) e rfl];exact LA h1 hf
 .refine ⟨by simp only[F1],by simp only[F5],λt=>?_,λid=>?_⟩
  .simp only[E5];by_cases hx:x.1.dst=some t
   .have hy:¬y.1.dst=some t:=λe=>Kr i2 hx e rfl
    rw[aY hy,aZ hx,aZ hx,Nk m2 i8]
   .by_cases hy:y.1.dst=some t
    .rw [aZ hy,aY hx,aZ hy,Nk m1 i7]
    .rw [aY hy,aY hx,aY hx,aY hy,alh _ m1 m2]
  .by_cases hx:x.2.f.id=some id
   .have hy:y.2.f.id≠some id:=λe=>Kr i6 hx e rfl
    rw[zL _ _ _ _ m2 hy,Bh,Bh,Bi,Bi,zL _ _ _ _ m2 hy]
   .rw [zL _ _ x.2 _ m1 hx];rw[Bh,Bh,Bi,Bi,zL _ _ _ _ m1 hx]
end
section
variable {P:Program} {K:World->Prop} {T:List TI} {O:pK} {gS:Array Oper}
def wi(P:Program)(K:World->Prop)(T:List TI)(gS:Array Oper):List (Oper×kp)->PS->PS->Prop
 | [],σ,τ=>rU σ τ
 |x::l,σ,τ=>(∃ O,rk P K T O gS σ x.1=some x.2)/\wi P K T gS l (σ.app x.1.dst x.2) τ
def wi.pR{l:List (Oper×kp)}{σ σ2 τ:PS}(h:wi P K T gS l σ τ)(hs:rU σ σ2):wi P K T gS l σ2 τ:=by
 induction l generalizing σ σ2 with
 |nil=>exact hs.symm.trans h
 |cons x l ih=>exact⟨h.1.imp λ_ h=>adf h hs,ih h.2 (Zv hs _ _)⟩
def wi.adK{A C:List (Oper×kp)}{y:Oper×kp}{σ τ:PS}(h:wi P K T gS (A++y::C) σ τ)(hi:∀ x,x ∈ A->B6 gS x y=true):
 (∃ O,rk P K T O gS σ y.1=some y.2)/\wi P K T gS (A++C) (σ.app y.1.dst y.2) τ:=by
 induction A generalizing σ with
 |nil=>exact h
 |cons x A ih=>
  obtain⟨⟨O1,h1⟩,h2⟩:=h;obtain⟨⟨O2,k1⟩,k2⟩:=ih h2 λz hz=>hi z (by simp[hz])
  obtain⟨s1,s2,s3⟩:=akm (hi x aH) h1 k1;exact⟨⟨O2,s1⟩,⟨O1,s2⟩,k2.pR s3⟩
end
end Go.Proofs.YtkdddbdjilcofaaGreatDoor.Pu
