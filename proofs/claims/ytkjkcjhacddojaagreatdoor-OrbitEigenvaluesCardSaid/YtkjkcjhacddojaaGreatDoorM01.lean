/- Lemmas that the last file uses. -/
import Derived.Test.YtkjkcjhacddojaaGreatDoorProg
import Derived.WalkKit
import Derived.BigQuiet
import Derived.WalkSpells
import Derived.WalkLawsBesides
import Derived.Lib.Hide
import Derived.Deep.RegionHeld3
import Derived.Maps.AppendAt
import Derived.Deep.AppendLies
import Derived.Deep.Draws
import Derived.Deep.DeepFit
import Derived.Laws.AppendOwnNone
import Derived.Shelf.Small.Bits
import Derived.Shelf.Spec.TrailingZeros
import Derived.Test.YtkjkcjhacddojaaGreatDoorCards
import Derived.Test.YtkjkcjhacddojaaGreatDoorTie
import Derived.ProofKit
import Derived.OpenShut
import Derived.Deep.DeepHandedRow
import Derived.Lib.LaidTab
import Derived.Laws.AppendOwn
import Derived.Laws.MakeOwn
import Derived.Laws.Slices
import Derived.Orders
import Derived.Laws.Build
set_option linter.unusedSimpArgs false
set_option linter.unusedVariables false
set_option linter.defProp false
set_option maxHeartbeats 4000000
open Go.Proofs.Tryz
namespace Go.Proofs.YtkjkcjhacddojaaGreatDoor
theorem aC{p:Prop}(h:p:=by omega):p:=h
theorem aD{p:Prop}(h:p:=by assumption):p:=h
theorem aE{p:Prop}(h:p:=by decide):p:=h
theorem aF{p:Prop}(h:p:=by kernel_rfl):p:=h
theorem aG{p:Prop}(h:p:=by rfl):p:=h
theorem aH{p:Prop}(h:p:=by simp):p:=h
theorem aI{p:Prop}(h:p:=by nofun):p:=h
theorem aJ{p:Prop}(h:p:=by simp<;>omega):p:=h
theorem aK{p:Prop}(h:p:=by grind):p:=h
theorem aL{p:Prop}(h:p:=by decide +kernel):p:=h
theorem aM{p:Prop}(h:p:=by split<;>omega):p:=h
theorem aN{p:Prop}(h:p:=by simp;omega):p:=h
theorem aO{p:Prop}(h:p:=by first|rfl|omega|(simp only[Nat.add_mul,Nat.one_mul];omega)):p:=h
theorem aP{p:Prop}(h:p:=by simp[Op.operands]):p:=h
theorem aQ{p:Prop}(h:p:=by unfold jY;omega):p:=h
theorem aR{p:Prop}(h:p:=by rw[List.length_append,List.length_singleton];omega):p:=h
theorem aS{p:Prop}(h:p:=by rw[List.length_take];omega):p:=h
theorem aT{α:Type _}[BEq α][LawfulBEq α]{a b:α}(h:a≠b):(a==b)=false:=beq_eq_false_iff_ne.2 h
theorem aU{α:Type _}[BEq α][LawfulBEq α]{a b:α}(h:a=b):(a==b)=true:=beq_iff_eq.2 h
theorem aV{b:Bool}(h:¬b=true):b=false:=Bool.eq_false_iff.2 h
theorem aW{α:Type _}[BEq α][LawfulBEq α]{a b:α}(h:a=b):(a != b)=false:=bne_eq_false_iff_eq.2 h
theorem aX{α:Type _}[BEq α][LawfulBEq α]{a b:α}(h:a≠b):(a != b)=true:=bne_iff_ne.2 h
def aY:=@if_neg
def aZ:=@if_pos
def bc:=@List.getD_eq_getElem?_getD
def bd:=@Nat.le_refl
def bg:=@decide_eq_false
def bh:=@decide_eq_true
def bj:=@Nat.le_trans
def bk:=@Nat.pow_add
def bn:=@Nat.pow_pos
def bq:=@if_false
def bt:=@List.getElem?_eq_getElem
def bu:=@Nat.mul_assoc
def bw:=@Nat.pow_succ
def bA:=@Bool.false_eq_true
def bB:=@Nat.mul_comm
def bC:=@Nat.mod_lt
def bD:=@if_true
def bE:=@Nat.not_lt_zero
def bF:=@Rat.le_trans
def bG:=@Rat.le_of_lt
def bH:=@Nat.pow_le_pow_right
def bI:=@Nat.mul_le_mul_right
def bJ:=@Nat.mul_add
def bK:=@Option.some.injEq
def bL:=@Nat.add_zero
def bM:=@Nat.lt_of_lt_of_le
def bN:=@Classical.byContradiction
def bO:=@Nat.zero_le
def bQ:=@Rat.mul_nonneg
def bR:=@Nat.add_mul
def bS:=@Bool.and_eq_true
def bT:=@Nat.one_mul
def bU:=@Nat.div_le_self
def bV:=@Rat.le_refl
def bW:=@Nat.zero_add
def bX:=@List.length_append
def bY:=@List.all_eq_true
def bZ:=@Nat.mod_eq_of_lt
def b9:=@List.getElem?_eq_some_iff
def ca:=@Prod.mk.injEq
def cg:=@Rat.mul_le_mul_of_nonneg_right
def ch:=@Nat.mul_one
def cj:=@Int.le_refl
def ck:=@List.getElem_mem
def cr:=@Nat.lt_of_le_of_lt
def ct:=@List.getElem?_eq_none
def cv:=@List.length_take
def cw:=@Nat.div_lt_iff_lt_mul
def cz:=@List.mem_range
def cA:=@Nat.mul_zero
def cB:=@Nat.pow_zero
def cC:=@Nat.div_add_mod
def cD:=@List.getElem?_map
def cE:=@Rat.mul_le_mul_of_nonneg_left
def cF:=@Nat.mul_le_mul_left
def cG:=@List.take_of_length_le
def cH:=@Nat.zero_mul
def cI:=@decide_eq_true_eq
def cJ:=@Option.map_eq_some_iff
def cK:=@Nat.le_of_ble_eq_true
def cL:=@Option.map_some
def cM:=@Rat.natCast_nonneg
def cN:=@Rat.div_def
def cO:=@Array.getElem?_modify
def cP:=@ne_eq
def cQ:=@of_decide_eq_true
def cR:=@List.length_cons
def cS:=@Array.getElem?_eq_some_iff
def cT:=@Classical.choose_spec
def cU:=@List.mem_cons
def cV:=@Nat.div_eq_of_lt
def cW:=@Nat.mul_le_mul
def cX:=@List.length_set
def cY:=@Nat.le_div_iff_mul_le
def c9:=@Rat.natCast_mul
def dc:=@Rat.intCast_le_intCast
def de:=@Nat.div_mul_le_self
def df:=@Rat.not_lt
def dg:=@Rat.le_antisymm
def dh:=@Nat.min_eq_left
def di:=@Nat.mul_lt_mul_of_pos_right
def dj:=@Nat.add_assoc
def dk:=@List.mem_map
def dm:=@List.getElem?_append_left
def dp:=@List.any_eq_false
def dq:=@Nat.le_of_lt
def dr:=@Rat.natCast_le_natCast
def dt:=@Nat.div_div_eq_div_mul
def du:=@List.eq_nil_of_length_eq_zero
def dv:=@List.mem_iff_getElem?
def dw:=@Array.ext'
def dx:=@Nat.sub_self
def dz:=@Array.size_push
def dA:=@Array.getElem?_push
def dB:=@Nat.mul_ne_zero
def dC:=@Nat.beq_refl
def dD:=@beq_false
def dE:=@Array.length_toList
def dF:=@Array.mem_of_getElem?
def dG:=@Rat.div_mul_cancel
def dH:=@List.mem_append
def dI:=@Nat.mul_div_cancel
def dJ:=@Nat.mod_one
def dK:=@List.length_map
def dL:=@Nat.mul_left_comm
def dM:=@Nat.pos_of_ne_zero
def dN:=@Rat.intCast_natCast
def dO:=@Rat.natCast_add
def dP:=@Rat.mul_lt_mul_of_pos_right
def dQ:=@Array.size_modify
def dR:=@Nat.add_mul_mod_self_left
def dU:=@List.drop_eq_nil_of_le
def dV:=@Nat.mod_add_div
def dW:=@Nat.ne_of_gt
def dX:=@List.getElem?_take
def dY:=@Nat.eq_zero_or_pos
def dZ:=@List.any_eq_true
def ef:=@List.length_pos_iff
def eh:=@Rat.mul_pos
def ej:=@Rat.mul_comm
def ek:=@Nat.mod_le
def en:=@List.mem_of_mem_take
def eo:=@Nat.add_sub_cancel
def ep:=@List.mem_of_getElem?
def er:=@List.getElem?_drop
def eu:=@Bool.not_false
def ev:=@List.length_drop
def ew:=@not_false_eq_true
def ey:=@Nat.sub_zero
def ez:=@Bool.or_eq_false_iff
def eA:=@Nat.sub_le
def eB:=@Int.natCast_mul
def eC:=@Nat.xor_lt_two_pow
def eD:=@Bool.false_or
def eE:=@Rat.mul_assoc
def eF:=@Rat.intCast_add
def eG:=@Rat.neg_neg
def eH:=@Rat.one_mul
def eI:=@List.mem_of_mem_drop
def eJ:=@Nat.add_mul_div_left
def eK:=@List.drop_eq_getElem_cons
def eN:=@Bool.not_true
def eO:=@List.map_cons
def eP:=@Array.mem_append
def eR:=@getElem!_pos
def eU:=@List.mapM_cons
def eV:=@Bool.not_eq_true'
def eW:=@Bool.or_eq_true
def eX:=@Nat.and_lt_two_pow
def eZ:=@BitVec.toNat_ofInt
def e9:=@Bool.true_and
def fc:=@Nat.div_one
def fe:=@Bool.eq_iff_iff
def ff:=@Rat.le_of_mul_le_mul_right
def fg:=@Rat.intCast_neg
def fh:=@Rat.inv_pos
def fi:=@of_decide_eq_false
def fj:=@List.take_succ_eq_append_getElem
def fk:=@List.length_singleton
def fl:=@Nat.mul_pos
def fm:=@Int.toNat_natCast
def fo:=@List.mem_flatMap
def fp:=@List.getElem?_append
def fu:=@Nat.mul_add_mod
def fv:=@List.getElem?_append_right
def fw:=@List.size_toArray
def fz:=@Array.mem_map
def fA:=@Array.mem_range
def fB:=@List.map_congr_left
def fC:=@List.getElem?_replicate
def fD:=@Int.natCast_add
def fE:=@Int.natAbs_natCast
def fF:=@decide_true
def fG:=@Rat.natCast_pos
def fH:=@Rat.zero_mul
def fI:=@Nat.lt_trans
def fJ:=@Nat.div_lt_self
def fK:=@List.getElem_cons_succ
def fL:=@Nat.le_mul_of_pos_left
def fM:=@Nat.lt_or_ge
def fN:=@Nat.mul_right_comm
def fO:=@Nat.sub_add_cancel
def fP:=@Nat.mul_mod_left
def fQ:=@List.ext_getElem?
def fR:=@Nat.le_mul_of_pos_right
def fS:=@Array.getElem_mem
def fT:=@List.getElem?_toArray
def fU:=@List.mem_toArray
def fV:=@Bool.or_false
def fW:=@Option.bind_eq_some_iff
def fX:=@Option.isSome_iff_exists
def fY:=@BitVec.ofInt_natCast
def fZ:=@BitVec.toNat_ofNat
def gh:=@Nat.pow_lt_pow_right
def gi:=@decide_eq_true_iff
def gj:=@Int.eq_ofNat_of_zero_le
def gl:=@List.take_length
def gn:=@Nat.le_of_eq
def gp:=@Bool.or_self
def gq:=@Rat.neg_mul
def gv:=@Rat.inv_mul_cancel
def gw:=@Nat.succ_mul
def gy:=@Nat.div_le_div_left
def gz:=@Bool.not_eq_true
def gE:=@Nat.one_ne_zero
def gF:=@Rat.zero_add
def gG:=@List.length_nil
def gH:=@Int.not_lt
def gI:=@List.cons_append
def gJ:=@List.take_append_drop
def gK:=@List.take_succ_cons
def gL:=@List.eq_nil_or_concat
def gM:=@List.concat_eq_append
def gN:=@List.getElem_of_mem
def gO:=@List.map_append
def gP:=@Array.getElem?_setIfInBounds_ne
def gQ:=@Nat.mul_add_div
def gR:=@Array.size_append
def gS:=@List.any_cons
def gT:=@not_true_eq_false
def ado:=@Option.getD_some
def ag9:=@List.pairwise_cons
def aha:=@List.pairwise_append
def ahb:=@Option.some.inj
def ahc:=@Array.getElem_setIfInBounds_ne
def ahd:=@Nat.or_lt_two_pow
def ahe:=@decide_eq_decide
def ahf:=@Int.natAbs_neg
def ahg:=@Nat.testBit_xor
def ahh:=@List.length_eq_zero_iff
def ahi:=@Rat.intCast_mul
def ahj:=@Rat.mul_div_cancel
def ahk:=@List.ext_getElem
def ahl:=@not_not_intro
def ahm:=@Bool.not_eq_false'
def ahn:=@List.length_range
def aho:=@List.getElem?_cons_succ
def ahp:=@Array.getElem?_setIfInBounds
def ahq:=@Array.getElem?_append_left
def ahr:=@Int.tdiv_eq_ediv_of_nonneg
def ahs:=@Array.toList_setIfInBounds
def aht:=@List.drop_length_add_append
def ahu:=@Array.all_eq_true_iff_forall_mem
def ahv:=@Array.mapM_eq_mapM_toList
def ahw:=@Nat.and_two_pow_sub_one_eq_mod
def ahx:=@Nat.eq_of_mul_eq_mul_right
def ahy:=@Nat.lt_of_mul_lt_mul_right
def ahz:=@Rat.lt_of_mul_lt_mul_right
def ahA:=@Int.tmod_eq_emod_of_nonneg
def ahB:=@Int.mul_tdiv_cancel_left
def ahC:=@Nat.mul_div_cancel_left
def ahD:=@Nat.mod_two_eq_zero_or_one
def ahE:=@Nat.mul_lt_mul_of_lt_of_lt
def ahF:=@Lib.hid
end Go.Proofs.YtkjkcjhacddojaaGreatDoor
namespace Go.Proofs.YtkjkcjhacddojaaGreatDoor.Fp
def val:List Nat->Nat
 | []=>0
 |x::l=>x+4294967296*val l
def iD(L:List Nat):Prop:=∀ x,x ∈ L->x<4294967296
def iD.nil:iD []:=by intro x h;cases h
def iD.cons{x:Nat}{l:List Nat}(hx:x<4294967296)(h:iD l):iD (x::l):=by
 intro y hy;rcases cU.1 hy with rfl|hy;exact hx;exact h _ hy
def iD.head{x:Nat}{l:List Nat}(h:iD (x::l)):x<4294967296:=h x aH 
def iD.tail{x:Nat}{l:List Nat}(h:iD (x::l)):iD l:=λy hy=>h y (by simp[hy])
def iD.append{l m:List Nat}(h:iD l)(k:iD m):iD (l++m):=by
 intro x hx;rcases dH.1 hx with hx|hx;exact h _ hx;exact k _ hx
def iD.take{l:List Nat}(h:iD l)(n:Nat):iD (l.take n):=λx hx=>h x (en hx)
def iD.drop{l:List Nat}(h:iD l)(n:Nat):iD (l.drop n):=λx hx=>h x (eI hx)
def iD.get{l:List Nat}(h:iD l){i:Nat}(hi:i<l.length):l[i]<4294967296:=h _ (ck hi)
def iD.getD{l:List Nat}(h:iD l)(i:Nat):l.getD i 0<4294967296:=by
 rw[bc];by_cases hi:i<l.length
 .rw [bt hi];exact h.get hi
 .rw [ct aC];decide
def iD.B2(n:Nat):iD (List.replicate n 0):=by
 intro x hx;rw[List.mem_replicate]at hx;rw[hx.2];decide
@[simp] theorem xx:val []=0:=rfl
@[simp] theorem pf (x:Nat) (l:List Nat):val (x::l)=x+4294967296*val l:=rfl
def sU(l m:List Nat):val (l++m)=val l+4294967296^l.length*val m:=by
 induction l with
 |nil=>simp
 |cons x l ih=>
  simp only[gI,pf,ih,cR,bw];rw[bJ,bB (4294967296^l.length) 4294967296,bu];omega
def mQ{l:List Nat}(h:iD l):val l<4294967296^l.length:=by
 induction l with
 |nil=>simp
 |cons x l ih=>
  have h1:=h.head;have h2:=ih h.tail;simp only[pf,cR,bw];have:val l+1<=4294967296^l.length:=h2;have:=cF 4294967296 this;rw[bB (4294967296^l.length)];omega
def yZ(n:Nat):val (List.replicate n 0)=0:=by
 induction n with
 |zero=>rfl
 |succ n ih=>simp[List.replicate_succ,ih]
def Ci(l:List Nat)(n:Nat)(hn:n<=l.length):val l=val (l.take n)+4294967296^n*val (l.drop n):=by
 conv=>lhs;rw[<-gJ n l,sU]
 rw[cv,dh hn]
def y3(l:List Nat)(n:Nat)(hn:n<l.length):val (l.take (n+1))=val (l.take n)+4294967296^n*l[n]:=by
 rw[fj hn,sU,cv,dh aC];simp
def agi{l:List Nat}(h:iD l)(n:Nat):val (l.take n)=val l%4294967296^n:=by
 by_cases hn:n<=l.length
 .rw [Ci l n hn,dR,bZ];have:=mQ (h.take n);rwa[cv,dh hn]at this
 .rw [cG aC,bZ];refine bM (mQ h) (bH aE aC)
def Ep{l:List Nat}(h:iD l)(n:Nat):val (l.drop n)=val l/4294967296^n:=by
 by_cases hn:n<=l.length
 .rw [Ci l n hn];have:=mQ (h.take n);rw[cv,dh hn]at this;rw[eJ _ _ (bn aE),cV this,bW]
 .rw [dU aC,cV];rfl;exact bM (mQ h) (bH aE aC)
def ix:List Nat->List Nat
 | []=>[]
 |x::l=>match ix l with
  | []=>if x=0 then[]else[x]
  |y::m=>x::y::m
def lu(L:List Nat):Nat:=(ix L).length
def TJ(l:List Nat):ix (l++[0])=ix l:=by
 induction l with
 |nil=>rfl
 |cons x l ih=>simp only[gI,ix,ih]
def TH(l:List Nat)(x:Nat)(hx:x≠0):ix (l++[x])=l++[x]:=by
 induction l with
 |nil=>simp[ix,hx]
 |cons y l ih=>
  simp only[gI,ix,ih];cases l<;>rfl
def G6(L:List Nat):ix L=L.take (lu L):=by
 unfold lu
 induction L with
 |nil=>rfl
 |cons x l ih=>
  simp only[ix];cases h:ix l with
  |nil=>by_cases hx:x=0<;>simp[hx]
  |cons y m=>
   rw[h]at ih;simp only[cR,gK];rw[cR]at ih;rw[<-ih]
def nX(L:List Nat):lu L<=L.length:=by
 have h:=congrArg List.length (G6 L);rw[cv]at h;unfold lu at h ⊢;omega
def oD(L:List Nat):val (ix L)=val L:=by
 induction L with
 |nil=>rfl
 |cons x l ih=>
  simp only[ix];cases h:ix l with
  |nil=>rw[h]at ih;by_cases hx:x=0<;>simp[hx,<-ih]
  |cons y m=>rw[h]at ih;simp only[pf]at ih ⊢;rw[ih]
def iD.ix{L:List Nat}(h:iD L):iD (Fp.ix L):=by rw[G6];exact h.take _
def mB(L:List Nat):Prop:=ix L=L
def xv(L:List Nat):mB (ix L):=by
 unfold mB
 induction L with
 |nil=>rfl
 |cons x l ih=>
  simp only[ix];cases h:ix l with
  |nil=>by_cases hx:x=0<;>simp[hx,ix]
  |cons y m=>rw[h]at ih;simp only[ix]at ih ⊢;rw[ih]
def mB.nil:mB []:=rfl
def yY(L:List Nat):mB L↔∀ h:0<L.length,L[L.length-1]≠0:=by
 rcases gL L with rfl|⟨l,x,rfl⟩
 .simp [mB,ix]
 .simp only[gM,bX,fk,eo,List.getElem_concat_length];constructor
  .intro h _ hx;subst hx;have:=congrArg List.length h;rw[TJ]at this;have h2:=nX l;unfold lu at h2;rw[bX]at this;simp at this;omega
  .intro h;exact TH l x (h aC)
def LM(L:List Nat)(n:Nat)(hn:n<L.length)(h0:L[n]=0):lu (L.take (n+1))=lu (L.take n):=by
 unfold lu;rw[fj hn,h0,TJ]
def LL(L:List Nat)(n:Nat)(hn:n<L.length)(h0:L[n]≠0):lu (L.take (n+1))=n+1:=by
 unfold lu;rw[fj hn,TH _ _ h0];simp;omega
def mB.Iz{x:Nat}{l:List Nat}(h:mB (x::l)):mB l:=by
 rw[yY]at h ⊢;intro hl;have:=h aH;simp only[cR,eo]at this;have e:(x::l)[l.length]'(aH)=l[l.length-1]:=by
  rw[List.getElem_cons];rw[dif_neg aC]
 rwa[e]at this
def mB.xy{L:List Nat}(h:mB L)(hl:L≠[]):0<val L:=by
 induction L with
 |nil=>exact absurd rfl hl
 |cons x l ih=>
  simp only[pf];by_cases pJ:l=[]
  .subst pJ;have:=(yY _).1 h aH;simp at this;simp;omega
  .have:=ih h.Iz pJ;omega
def mB.ext{L M:List Nat}(hL:mB L)(hM:mB M)(kL:iD L)(kM:iD M)(h:val L=val M):L=M:=by
 induction L generalizing M with
 |nil=>
  by_cases hm:M=[]
  .exact hm.symm
  .have:=hM.xy hm;rw[<-h]at this;simp at this
 |cons x l ih=>
  cases M with
  |nil=>have:=hL.xy aH;rw[h]at this;simp at this
  |cons y m=>
   simp only[pf]at h;have h1:=kL.head;have h2:=kM.head;have e:x=y:= aC ;subst e;rw[ih hL.Iz hM.Iz kL.tail kM.tail aC]
def gV(n:Nat):List Nat:=if n=0 then[]else n%4294967296::gV (n/4294967296)
termination_by n
decreasing_by exact fJ aC aE 
def nI:gV 0=[]:=by rw[gV];rfl
def BL{n:Nat}(h:n≠0):gV n=n%4294967296::gV (n/4294967296):=by rw[gV,aY h]
def jM(n:Nat):val (gV n)=n:=by
 induction n using Nat.strongRecOn with
 |_ n ih=>
  by_cases h:n=0
  .subst h;rw[nI];rfl
  .rw [BL h,pf,ih _ (fJ aC aE)];exact dV n 4294967296
def kZ(n:Nat):iD (gV n):=by
 induction n using Nat.strongRecOn with
 |_ n ih=>
  by_cases h:n=0
  .subst h;rw[nI];exact iD.nil
  .rw [BL h];exact iD.cons (bC _ aE) (ih _ (fJ aC aE))
def vd(n:Nat):mB (gV n):=by
 induction n using Nat.strongRecOn with
 |_ n ih=>
  by_cases h:n=0
  .subst h;rw[nI];exact mB.nil
  .rw [BL h];have h1:=ih _ (fJ aC (aE:1<4294967296));unfold mB at h1 ⊢;simp only[ix,h1];by_cases h2:n/4294967296=0
   .rw [h2,nI];have:n%4294967296≠0:= aC ;simp[this]
   .rw [BL h2]
def pO{L:List Nat}(h:iD L):ix L=gV (val L):=
 mB.ext (xv L) (vd _) h.ix (kZ _) (by rw[oD,jM])
def mB.CI{L:List Nat}(h:mB L)(k:iD L):L=gV (val L):=by
 rw[<-pO k];exact h.symm
def QR{n:Nat}:gV n=[]↔n=0:=by
 constructor
 .intro h;have:=jM n;rw[h]at this;exact this.symm
 .rintro rfl;exact nI
def tG{n k:Nat}(h:n<4294967296^k):(gV n).length<=k:=by
 induction k generalizing n with
 |zero=>simp at h;subst h;rw[nI];simp
 |succ k ih=>
  by_cases h0:n=0
  .subst h0;rw[nI];simp
  .rw [BL h0,cR];have:n/4294967296<4294967296^k:=by
    rw[cw aE];rwa[bw]at h
   have:=ih this;omega
def DC{n k:Nat}(h:(gV n).length<=k):n<4294967296^k:=by
 have h1:=mQ (kZ n);rw[jM]at h1;exact bM h1 (bH aE h)
def ib(n:Nat):Nat:=if n=0 then 0 else n.log2+1
def qO:ib 0=0:=rfl
def kV{n k:Nat}:ib n<=k↔n<2^k:=by
 unfold ib;by_cases h:n=0
 .subst h;simp[bn]
 .rw [aY h,<-Nat.log2_lt h];omega
def uR{n k:Nat}:k<ib n↔2^k<=n:=by
 have:=@kV n k;omega
def wH{n k:Nat}(h1:2^k<=n)(h2:n<2^(k+1)):ib n=k+1:=by
 have a:=uR.2 h1;have b:=kV.2 h2;omega
def qH(n:Nat):n<2^ib n:=kV.1 (bd _)
def rZ{n:Nat}(h:n≠0):2^(ib n-1)<=n:=by
 have:ib n-1<ib n:=by
  have:ib n≠0:=by unfold ib;simp[h]
  omega
 exact uR.1 this
def np{n:Nat}(h:n≠0):0<ib n:=by unfold ib;simp[h]
def ui{m n:Nat}(h:m<=n):ib m<=ib n:=kV.2 (cr h (qH n))
def qh{n:Nat}(h:n≠0)(k:Nat):ib (n*2^k)=ib n+k:=by
 have h1:=qH n;have h2:=rZ h;have h3:=np h;have e:ib n+k=(ib n-1+k)+1:= aC ;rw[e];apply wH
 .rw [bk];exact bI _ h2
 .rw [<-e,bk];exact di h1 (bn aE)
def qV(k:Nat):(4294967296:Nat)^k=2^(32*k):=by
 rw[Nat.pow_mul]
def Vv{l:List Nat}{x:Nat}(h:iD (l++[x]))(hx:x≠0):ib (val (l++[x]))=32*l.length+ib x:=by
 rw[sU];simp only[pf,xx,cA,bL];have hl:val l<4294967296^l.length:=mQ (λy hy=>h y (by simp[hy]));rw[qV]at hl ⊢;have h1:=qH x;have h2:=rZ hx;have h3:=np hx;have e:32*l.length+ib x=(32*l.length+(ib x-1))+1:= aC ;rw[e];apply wH
 .rw [bk];have:=cF (2^(32*l.length)) h2;omega
 .rw [<-e,bk];have:=cF (2^(32*l.length)) (show x+1<=2^ib x from h1);rw[bJ]at this;omega
def jZ(a b:Nat):Int:=if a<b then -1 else if b<a then 1 else 0
def Hc{L M:List Nat}(kL:iD L)(hM:mB M)(h:L.length<M.length):val L<val M:=by
 rcases gL M with rfl|⟨m,x,rfl⟩
 .simp at h
 .simp only[gM,bX,fk]at h hM ⊢;have hx:x≠0:=by
   have:=(yY _).1 hM aH;simpa using this
  have h1:=mQ kL;rw[sU];have h2:(4294967296:Nat)^L.length<=4294967296^m.length:=bH aE aC;have h3:(4294967296:Nat)^m.length*1<=4294967296^m.length*val [x]:=cF _ aN;omega
def agd{L M:List Nat}(kL:iD L)(i:Nat)(hi:i<L.length)(hlen:L.length=M.length)(aav:L.drop (i+1)=M.drop (i+1))(iA:L[i]<M[i]'(aC)):val L<val M:=by
 rw[Ci L (i+1) aC,Ci M (i+1) aC,aav,y3 L i hi,y3 M i aC];have h1:=mQ (kL.take i);rw[cv,dh aC]at h1;have h2:=cF (4294967296^i) (show L[i]+1<=M[i]'(aC)from iA);rw[bJ]at h2;omega
def agf(L:List Nat)(k:Nat)(h:iD L):val (L.drop k)=val L/2^(32*k):=by
 rw[Ep h,qV]
def pe(s:Nat):List Nat->List Nat
 | []=>[]
 |x::l=>((x+4294967296*l.getD 0 0)/2^s)%4294967296::pe s l
def GS(s:Nat)(L:List Nat):(pe s L).length=L.length:=by
 induction L with
 |nil=>rfl
 |cons x l ih=>simp[pe,ih]
def S4(s:Nat)(L:List Nat)(i:Nat)(h:i<L.length):(pe s L)[i]? = some (((L[i]+4294967296*L.getD (i+1) 0)/2^s)%4294967296):=by
 induction L generalizing i with
 |nil=>simp at h
 |cons x l ih=>
  cases i with
  |zero=>simp[pe]
  |succ i=>
   simp only[cR]at h;simp only[pe,aho,ih i aC,fK];congr 1
def yI(s:Nat)(L:List Nat):iD (pe s L):=by
 induction L with
 |nil=>exact iD.nil
 |cons x l ih=>exact iD.cons (bC _ aE) ih
def agh{L:List Nat}(h:iD L)(s:Nat)(hs:s<32):val (pe s L)=val L/2^s:=by
 induction L with
 |nil=>simp[pe]
 |cons x l ih=>
  have e:32=s+(32-s):= aC ;have e2:(4294967296:Nat)=2^s*2^(32-s):=by rw[<-bk,<-e]
  have hp:0<2^s:=bn aE;have hx:=h.head;simp only[pe,pf,ih h.tail];generalize hv:val l=v;have hh:l.getD 0 0=v%4294967296:=by
   rw[<-hv];cases l with
   |nil=>simp
   |cons y m=>
    have:=h.tail.head;simp[pf];omega
  rw[hh];have f1:(x+4294967296*(v%4294967296))/2^s=x/2^s+2^(32-s)*(v%4294967296):=by
   rw[show x+4294967296*(v%4294967296)=x+2^s*(2^(32-s)*(v%4294967296))by rw[<-bu,<-e2],eJ _ _ hp]
  have f2:(x+4294967296*v)/2^s=x/2^s+2^(32-s)*v:=by
   rw[show x+4294967296*v=x+2^s*(2^(32-s)*v)by rw[<-bu,<-e2],eJ _ _ hp]
  rw[f1,f2];have oJ:x/2^s<2^(32-s):=by
   rw[cw hp,bB,<-e2];exact hx
  generalize x/2^s=q at oJ ⊢;have g1:(4294967296:Nat)=2^(32-s)*2^s:=by rw[bB];exact e2
  have g2:v=2^s*(v/2^s)+v%2^s:=(cC v (2^s)).symm;have g3:(q+2^(32-s)*(v%4294967296))%4294967296=q+2^(32-s)*(v%2^s):=by
   have k1:v%4294967296%2^s=v%2^s:=by
    rw[e2,Nat.mod_mul_right_mod]
   have k2:(v%4294967296)=2^s*(v%4294967296/2^s)+v%2^s:=by
    rw[<-k1];exact(cC _ _).symm
   conv=>lhs;rw[k2]
   rw[bJ,<-bu,<-g1];rw[(aC:q+(4294967296*(v%4294967296/2^s)+2^(32-s)*(v%2^s))=(q+2^(32-s)*(v%2^s))+4294967296*(v%4294967296/2^s)),dR];apply bZ;have:v%2^s+1<=2^s:=bC _ hp;have:=cF (2^(32-s)) this;rw[<-g1,bJ]at this;omega
  rw[g3]
  conv=>rhs;rw[g2,bJ,<-bu,<-g1]
  omega
def Hd{L:List Nat}(h:iD L)(n:Nat):val (pe (n%32) (L.drop (n/32)))=val L/2^n:=by
 rw[agh (h.drop _) _ (bC _ aE),agf _ _ h,dt,<-bk];congr 2;omega
def Lz{out a:List Nat}{i c s n0:Nat}(hi:i<a.length)(hlen:out.length=n0+i)
 (h:val out+4294967296^(n0+i)*c=val (a.take i)*2^s*4294967296^n0):
 val (out++[(a[i]*2^s+c)%4294967296])+4294967296^(n0+(i+1))*((a[i]*2^s+c)/4294967296)=val (a.take (i+1))*2^s*4294967296^n0:=by
 rw[sU,y3 a i hi,hlen];simp only[pf,xx,cA,bL];generalize hx:a[i]*2^s+c=x;have e:=dV x 4294967296;have p:4294967296^(n0+(i+1))=4294967296^(n0+i)*4294967296:=by rw[<-dj,bw]
 rw[p,dj,bu (4294967296^(n0+i)),<-bJ,e,<-hx,bJ,<-dj,Nat.add_right_comm,h,bR,bR];congr 1;rw[bk]
 ac_rfl
def uc(b:List Nat)(i:Nat):val (b.take (i+1))=val (b.take i)+4294967296^i*b.getD i 0:=by
 by_cases hi:i<b.length
 .rw [y3 b i hi,bc,bt hi];rfl
 .rw [cG aC,cG aC,bc,ct aC];simp
def ag2{out a b:List Nat}{i c y d c':Nat}(hi:i<a.length)(hlen:out.length=i)
 (hb:val (b.take (i+1))=val (b.take i)+4294967296^i*y)
 (hd:d+y+c=a[i]+4294967296*c')
 (h:val out+val (b.take i)=val (a.take i)+4294967296^i*c):
 val (out++[d])+val (b.take (i+1))=val (a.take (i+1))+4294967296^(i+1)*c':=by
 rw[sU,y3 a i hi,hb,hlen];simp only[pf,xx,cA,bL];have e:=congrArg (4294967296^i * ·) hd;simp only[bJ,<-bu]at e;rw[bw];omega
def jq(n:Nat):Nat:=if n=0 then 0 else(Nat.gcd n (2^(Nat.log2 n+1))).log2
def IB{m:Nat}(hm:m%2=1)(k:Nat):jq (m*2^k)=k:=by
 have h0:m*2^k≠0:=dB aC (dW (bn aE));unfold jq;rw[aY h0];have hk:k<=Nat.log2 (m*2^k):=by
  apply bN;intro h;have h1:m*2^k<2^k:=(Nat.log2_lt h0).1 aC;have:1*2^k<=m*2^k:=bI _ aC;omega
 obtain⟨j,hj⟩:∃ j,Nat.log2 (m*2^k)+1=j+k:=⟨Nat.log2 (m*2^k)+1-k,aC⟩
 rw[hj,bk,Nat.gcd_mul_right];have hg:Nat.gcd m (2^j)=1:=by
  have hc:Nat.Coprime m 2:=by
   unfold Nat.Coprime;rw[Nat.gcd_comm,Nat.gcd_rec,hm];rfl
  exact Nat.Coprime.pow_right j hc
 rw[hg,bT,Nat.log2_two_pow]
def IC{n:Nat}(h:n%2=1):jq n=0:=by have:=IB h 0;simpa using this
def afX{n:Nat}(h:n≠0):∃ m k,m%2=1/\n=m*2^k:=by
 induction n using Nat.strongRecOn with
 |_ n ih=>
  by_cases h2:n%2=1
  .exact ⟨n,0,h2,aH⟩
  .obtain ⟨m,k,hm,he⟩:=ih (n/2) aC aC ;exact⟨m,k+1,hm,by rw[bw,<-bu,<-he];omega⟩
def Nn{n:Nat}(h:n≠0)(h2:n%2=0):jq n=jq (n/2)+1:=by
 obtain⟨m,k,hm,he⟩:=afX (n:=n/2) aC;have e:n=m*2^(k+1):=by rw[bw,<-bu,<-he];omega
 rw[he,IB hm]
 conv=>lhs;rw[e]
 exact IB hm _
def zo{n:Nat}(h:n≠0):∃ m,m%2=1/\n=m*2^jq n:=by
 induction n using Nat.strongRecOn with
 |_ n ih=>
  by_cases h2:n%2=1
  .exact ⟨n,h2,by rw[IC h2];omega⟩
  .obtain ⟨m,hm,he⟩:=ih (n/2) aC aC ;refine⟨m,hm,?_⟩;rw[Nn h aC,bw,<-bu,<-he];omega
def wK{m:Nat}(hm:m%2=1)(k:Nat):jq (m*2^k)=k:=by
 induction k with
 |zero=>rw[cB,ch,IC hm]
 |succ k ih=>
  have hp:0<m*2^k:=fl aC (bn aE);have e:m*2^(k+1)=m*2^k*2:=by rw[bw,bu]
  rw[e,Nn aC aC,dI _ aE,ih]
def BR{n:Nat}(h:n≠0):(n/2^jq n)%2=1:=by
 obtain⟨m,hm,he⟩:=zo h;have:n/2^jq n=m:=by conv=>lhs;rw[he,wK hm];rw[dI _ (bn aE)]
 rw[this];exact hm
def CE{n:Nat}(h:n≠0):(n/2^jq n)*2^jq n=n:=by
 obtain⟨m,hm,he⟩:=zo h;have:n/2^jq n=m:=by conv=>lhs;rw[he,wK hm];rw[dI _ (bn aE)]
 rw[this];exact he.symm
def Gu{n:Nat}(h:n≠0):2^jq n<=n:=by
 obtain⟨m,hm,he⟩:=zo h
 conv=>rhs;rw[he]
 exact fL _ aC 
def WI{x v:Nat}(hx:x≠0)(iA:x<4294967296):jq (x+4294967296*v)=jq x:=by
 obtain⟨m,hm,he⟩:=zo hx;have hk:jq x<32:=by
  have h1:=Gu hx;rcases fM (jq x) 32 with h|h
  .exact h
  .have:=bH (n:=2) aE h;have e:(2:Nat)^32=4294967296:= aE ;omega
 have e:x+4294967296*v=(m+2^(32-jq x)*v)*2^jq x:=by
  rw[bR,<-he,fN,<-bk,fO aC]
 conv=>lhs;rw[e]
 apply wK;have:2^(32-jq x)=2*2^(31-jq x):=by rw[(aC:32-jq x=(31-jq x)+1),bw,bB]
 rw[this,bu,dR];exact hm
def WJ{v:Nat}(hv:v≠0)(k:Nat):jq (2^k*v)=k+jq v:=by
 obtain⟨m,hm,he⟩:=zo hv
 conv=>lhs;rw[he,<-bu,bB (2^k),bu,<-bk]
 exact wK hm _
def Er{L:List Nat}:val L=0↔∀ x,x ∈ L->x=0:=by
 induction L with
 |nil=>simp
 |cons x l ih=>
  simp only[pf,cU];constructor
  .intro h y hy;rcases hy with rfl|hy
   .omega
   .exact ih.1 aC y hy
  .intro h;have h1:=h x (.inl rfl);have h2:=ih.2 (λy hy=>h y (.inr hy));omega
def WK{L:List Nat}(h:iD L)(i:Nat)(hi:i<L.length)(h0:∀ j,(hj:j<i)->L[j]=0)(hx:L[i]≠0):jq (val L)=32*i+jq L[i]:=by
 rw[Ci L i aC];have:val (L.take i)=0:=by
  rw[Er];intro y hy;obtain⟨j,hj,rfl⟩:=gN hy;rw[cv]at hj;rw[List.getElem_take];exact h0 j aC 
 rw[this,bW,qV,eK hi,pf];rw[WJ aC,WI hx (h.get hi)]
def LS{L:List Nat}{k x:Nat}(hk:k<L.length):val (L.set k x)+4294967296^k*L[k]=val L+4294967296^k*x:=by
 induction L generalizing k with
 |nil=>simp at hk
 |cons y l ih=>
  cases k with
  |zero=>simp;omega
  |succ k=>
   simp only[cR]at hk;have:=ih (k:=k) aC;simp only[List.set_cons_succ,pf,fK,bw];have e1:(4294967296^k*4294967296*l[k])=4294967296*(4294967296^k*l[k]):=by ac_rfl
   have e2:(4294967296^k*4294967296*x)=4294967296*(4294967296^k*x):=by ac_rfl
   rw[e1,e2];omega
def iD.set{L:List Nat}(h:iD L)(k:Nat){x:Nat}(hx:x<4294967296):iD (L.set k x):=by
 intro y hy;rcases List.mem_or_eq_of_mem_set hy with hy|rfl
 .exact h _ hy
 .exact hx
structure Dy where
 neg:Bool
 m:Nat
 e:Int
def Dy.mf(d:Dy):Prop:=(d.m=0/\d.neg=false/\d.e=0)\/d.m%2=1
def canon(neg:Bool)(m:Nat)(e:Int):Dy:=if m=0 then⟨false,0,0⟩else⟨neg,m/2^jq m,e+jq m⟩
def sf(neg:Bool)(m:Nat)(e:Int):(canon neg m e).mf:=by
 unfold canon;split
 .exact .inl ⟨rfl,rfl,rfl⟩
 .rename_i h;exact .inr (BR h)
def Dy.mf.E3{d:Dy}(h:d.mf):canon d.neg d.m d.e=d:=by
 obtain⟨s,m,e⟩:=d;rcases h with⟨h1,h2,h3⟩|h
 .simp only at h1 h2 h3;subst h1 h2 h3;rfl
 .simp only at h ⊢;unfold canon;rw[aY aC,IC h];simp
def mN(d:Dy):Prop:=d.m=0\/ib d.m<=4096 /\ -16384<=d.e/\d.e<=16384/\(ib d.m:Int)+d.e<=16384
instance (d:Dy):Decidable (mN d):=by unfold mN;infer_instance
structure Dy.gX(d:Dy):Prop where
 canon:d.mf
 range:mN d
def jt:Dy:=⟨false,0,0⟩
def qe:jt.gX:=⟨.inl ⟨rfl,rfl,rfl⟩,.inl rfl⟩
def Dy.iJ(d:Dy):Int:=if d.m=0 then 0 else if d.neg then -1 else 1
def Dy.ij(d:Dy):Int:=if d.m=0 then 0 else ib d.m+d.e
def Dy.jD(d:Dy)(e:Int):Nat:=d.m*2^(d.e-e).toNat
def Dy.num(d:Dy)(e:Int):Int:=if d.neg then -(d.jD e:Int)else d.jD e
def jj(a b:Dy):Int:=
 if a.num (min a.e b.e)<b.num (min a.e b.e)then -1 else if b.num (min a.e b.e)<a.num (min a.e b.e)then 1 else 0
def xg{d:Dy}(h:d.m≠0)(e:Int):0<d.jD e:=fl aC (bn aE)
def Q5{d:Dy}(h:d.m=0)(e:Int):d.jD e=0:=by unfold Dy.jD;rw[h,cH]
def ML{d:Dy}(h:d.m≠0){e:Int}(he:e<=d.e):(ib (d.jD e):Int)=ib d.m+d.e-e:=by
 unfold Dy.jD;rw[qh h];omega
def Q4{a b:Dy}(ha:a.m≠0)(hb:b.m≠0){e:Int}(h1:e<=a.e)(h2:e<=b.e)(h:a.ij<b.ij):a.jD e<b.jD e:=by
 have k1:=ML ha h1;have k2:=ML hb h2;unfold Dy.ij at h;rw[aY ha,aY hb]at h;rcases fM (a.jD e) (b.jD e)with h'|h'
 .exact h'
 .have:=ui h';omega
def qZ(a b:Dy):Int:=jZ (a.jD (min a.e b.e)) (b.jD (min a.e b.e))
def Ni{a b:Dy}(ha:a.m≠0)(hb:b.m≠0)(h:a.ij<b.ij):qZ a b = -1:=by
 unfold qZ jZ;rw[aZ (Q4 ha hb (Int.min_le_left _ _) (Int.min_le_right _ _) h)]
def Nh{a b:Dy}(ha:a.m≠0)(hb:b.m≠0)(h:b.ij<a.ij):qZ a b=1:=by
 have:=Q4 hb ha (Int.min_le_right a.e b.e) (Int.min_le_left _ _) h;unfold qZ jZ;rw[aY aC,aZ this]
def B8(d:Dy):(d.m=0/\d.iJ=0)\/(d.m≠0/\d.neg=true/\d.iJ = -1)\/(d.m≠0/\d.neg=false/\d.iJ=1):=by
 unfold Dy.iJ;by_cases h:d.m=0
 .exact .inl ⟨h,aZ h⟩
 .cases hn:d.neg
  .exact .inr (.inr ⟨h,rfl,by simp[h]⟩)
  .exact .inr (.inl ⟨h,rfl,by simp[h]⟩)
def RQ{d:Dy}(e:Int):(d.iJ=0->d.num e=0)/\(d.iJ = -1->d.num e<0/\d.num e = -(d.jD e))/\(d.iJ=1->0<d.num e/\d.num e=d.jD e):=by
 unfold Dy.num;rcases B8 d with⟨h1,h2⟩|⟨h1,h2,h3⟩|⟨h1,h2,h3⟩
 .rw [h2,Q5 h1];simp
 .have:=xg h1 e;rw[h3,h2];simp;omega
 .have:=xg h1 e;rw[h3,h2];simp;omega
def AY(a b:Dy):jj a b=if a.iJ<b.iJ then -1 else if b.iJ<a.iJ then 1 else if a.iJ=0 then 0 else a.iJ*qZ a b:=by
 unfold jj qZ jZ;generalize min a.e b.e=e;obtain⟨p1,p2,p3⟩:=RQ (d:=a) e;obtain⟨q1,q2,q3⟩:=RQ (d:=b) e;generalize a.num e=x at *
 generalize b.num e=y at *
 generalize a.jD e=x' at *
 generalize b.jD e=y' at *
 have ha:a.iJ=0\/a.iJ = -1\/a.iJ=1:=by rcases B8 a with⟨_,h⟩|⟨_,_,h⟩|⟨_,_,h⟩<;>simp[h]
 have hb:b.iJ=0\/b.iJ = -1\/b.iJ=1:=by rcases B8 b with⟨_,h⟩|⟨_,_,h⟩|⟨_,_,h⟩<;>simp[h]
 generalize a.iJ=s at *
 generalize b.iJ=t at *
 rcases ha with rfl|rfl|rfl<;>rcases hb with rfl|rfl|rfl<;>simp at p1 p2 p3 q1 q2 q3<;>(repeat' split)<;>omega
def nL(z:Int)(e:Int):Dy:=canon (decide (z<0)) z.natAbs e
def iN(a b:Dy):Dy:=
 if a.m=0 then b else if b.m=0 then a else nL (a.num (min a.e b.e)+b.num (min a.e b.e)) (min a.e b.e)
def jv(d:Dy):Dy:=⟨!d.neg&&decide (d.m≠0),d.m,d.e⟩
def Gk{d:Dy}(h:d.mf):(jv d).mf:=by
 rcases h with⟨h1,h2,h3⟩|h
 .exact .inl ⟨h1,by simp[jv,h1],h3⟩
 .exact .inr h
def yG{d:Dy}(h:d.gX):(jv d).gX:=⟨Gk h.canon,h.range⟩
def aeY(n:Bool)(m:Nat)(e:Int):(canon n m e).iJ=if m=0 then 0 else if n then -1 else 1:=by
 unfold canon;by_cases h:m=0
 .simp [h,Dy.iJ]
 .have:(canon n m e).m≠0:=by unfold canon;rw[aY h];have:=BR h;simp only;omega
  unfold canon at this;rw[aY h]at this ⊢;unfold Dy.iJ;rw[aY this,aY h]
def aeZ(z e:Int):(nL z e).iJ=if z<0 then -1 else if 0<z then 1 else 0:=by
 unfold nL;rw[aeY];by_cases h:z<0
 .rw [aY aC,aZ h];simp[h]
 .rw [aY h];by_cases h0:0<z
  .rw [aY aC,aZ h0];simp[h]
  .rw [aY h0,aZ aC]
def RP(d:Dy)(e:Int)(hd:d.m≠0):(jv d).num e = -(d.num e):=by
 unfold Dy.num jv Dy.jD;cases d.neg<;>simp[hd]
def Wx{a b:Dy}(ha:a.m≠0)(hb:b.m≠0):(iN a (jv b)).iJ=jj a b:=by
 unfold iN;rw[aY ha,aY (by simpa[jv]using hb),aeZ];have e1:(jv b).e=b.e:=rfl;rw[e1,RP _ _ hb];unfold jj;generalize a.num _=x;generalize b.num _=y
 repeat' split
 all_goals omega
def Wz{a b:Dy}(ha:a.m≠0)(hb:b.m≠0)(hs:a.iJ=b.iJ)(h:a.ij<b.ij):jj a b = -a.iJ:=by
 rw[AY,aY aC,aY aC,Ni ha hb h];split<;>omega
def Wy{a b:Dy}(ha:a.m≠0)(hb:b.m≠0)(hs:a.iJ=b.iJ)(h:b.ij<a.ij):jj a b=a.iJ:=by
 rw[AY,aY aC,aY aC,Nh ha hb h];split<;>omega
def A0(a b:Dy):jj a b=if a.iJ≠b.iJ then(if a.iJ<b.iJ then -1 else 1)else if a.iJ=0 then 0 else
 if a.ij≠b.ij then(if(a.ij<b.ij)=(0<a.iJ)then -1 else 1)else(iN a (jv b)).iJ:=by
 by_cases hs:a.iJ=b.iJ
 .rw [aY (by simpa using hs)];by_cases h0:a.iJ=0
  .rw [aZ h0,AY,aY aC,aY aC,aZ h0]
  .rw [aY h0];have ha:a.m≠0:=by intro h;exact h0 (by unfold Dy.iJ;rw[aZ h])
   have hb:b.m≠0:=by intro h;exact h0 (by rw[hs];unfold Dy.iJ;rw[aZ h])
   have hc:a.iJ = -1\/a.iJ=1:=by rcases B8 a with⟨_,h⟩|⟨_,_,h⟩|⟨_,_,h⟩<;>simp_all
   by_cases ht:a.ij=b.ij
   .rw [aY (by simpa using ht),Wx ha hb]
   .rw [aZ (by simpa using ht)];rcases Int.lt_or_gt_of_ne ht with h|h
    .rw [Wz ha hb hs h];rcases hc with h'|h'<;>rw[h']<;>simp[h]
    .rw [Wy ha hb hs h];rcases hc with h'|h'<;>rw[h']<;>simp[(aC:¬a.ij<b.ij)]
 .rw [aZ (by simpa using hs),AY];by_cases h:a.iJ<b.iJ
  .rw [aZ h,aZ h]
  .rw [aY h,aY h,aZ aC]
def UB{out:List Nat}{k c x y P Q P' Q':Nat}(hlen:out.length=k)(h:val out+4294967296^k*c=P+Q)
 (hP:P'=P+4294967296^k*x) (hQ:Q'=Q+4294967296^k*y):
 val (out++[(c+x+y)%4294967296])+4294967296^(k+1)*((c+x+y)/4294967296)=P'+Q':=by
 rw[sU,hlen,hP,hQ];simp only[pf,xx,cA,bL];generalize hx:c+x+y=z;have e:=dV z 4294967296;rw[bw,dj,bu,<-bJ,e,<-hx,bJ,bJ];omega
def afn{out:List Nat}{k c x y d c' P Q P' Q':Nat}(hlen:out.length=k)(h:val out+Q=P+4294967296^k*c)
 (hP:P'=P+4294967296^k*x) (hQ:Q'=Q+4294967296^k*y) (hd:d+y+c=x+4294967296*c'):
 val (out++[d])+Q'=P'+4294967296^(k+1)*c':=by
 rw[sU,hlen,hP,hQ];simp only[pf,xx,cA,bL];have e:=congrArg (4294967296^k * ·) hd;simp only[bJ,<-bu]at e;rw[bw];omega
def Tk{out:List Nat}{n c P Q:Nat}(ho:iD out)(hlen:out.length=n)(h:val out+Q=P+4294967296^n*c)(hle:Q<=P):c=0/\val out=P-Q:=by
 have h1:=mQ ho;rw[hlen]at h1;rcases c with _|c
 .exact ⟨rfl,aC⟩
 .exfalso;have:4294967296^n*1<=4294967296^n*(c+1):=cF _ aC;omega
def Vr{L:List Nat}(h:iD L)(k:Nat)(hk:k/32<L.length):val L/2^k%2=L[k/32]/2^(k%32)%2:=by
 have e:k=32*(k/32)+k%32:= aC 
 conv=>lhs;rw[e,bk,<-dt,<-qV,<-Ep h,eK hk,pf]
 have hs:k%32<32:=bC _ aE;have e2:(4294967296:Nat)=2^(k%32)*(2*2^(31-k%32)):=by
  rw[<-Nat.pow_succ',<-bk,(aC:k%32+(31-k%32).succ=32)]
 conv=>lhs;rw[e2,bu,eJ _ _ (bn aE),bu,dR]
def Vq{n k:Nat}(h:n≠0)(hk:k<jq n):n/2^k%2=0:=by
 obtain⟨m,hm,he⟩:=zo h;generalize jq n=c at *
 rw[he,(aC:c=k+(c-k)),bk,<-bu,fN,dI _ (bn aE),(aC:c-k=(c-k-1)+1),bw,<-bu,fP]
def Vp{n:Nat}(h:n≠0):n/2^jq n%2=1:=BR h
def Cw{L:List Nat}(h:iD L)(h0:val L≠0):jq (val L)/32<L.length:=by
 have h1:=Gu h0;have h2:=mQ h;rw[qV]at h2;have h3:2^jq (val L)<2^(32*L.length):=cr h1 h2;have:=(Nat.pow_lt_pow_iff_right (aE:1<2)).1 h3;omega
end Go.Proofs.YtkjkcjhacddojaaGreatDoor.Fp
namespace Go.Proofs.YtkjkcjhacddojaaGreatDoor
open Go.RowKit Fp
structure Sl(w:World)(A:Option Addr)(c:Nat)(L:List Nat):Prop where
 cap:L.length<=c
 pq:c<=9223372036854775807
 ok:iD L
 vY:A=none->c=0
 cell:∀ (i x:Nat),L[i]? = some x->∃ b o,A=some ⟨b,o,none⟩/\b<w.heap.size/\w.cell? ⟨b,o+i,none⟩=some (.int .u32 (x:Int))
def Vy(a:Addr)(n:Nat):(a.add n).block=a.block:=by unfold Addr.add;split<;>rfl
section
variable {w w':World} {A:Option Addr} {c:Nat} {L:List Nat}
def Sl.kD(h:Sl w A c L){i:Nat}(hi:i<L.length):∃ b o,A=some ⟨b,o,none⟩/\b<w.heap.size/\w.cell? ⟨b,o+i,none⟩=some (.int .u32 (L[i]:Int)):=
 h.cell i _ (bt hi)
def Sl.nil(w:World):Sl w none 0 []:=⟨bd _,aE,iD.nil,λ_=>rfl,λi x h=>by simp at h⟩
def Sl.below(h:Sl w A c L)(hb:Below w.heap.size w w'):Sl w' A c L:=
 ⟨h.cap,h.pq,h.ok,h.vY,λi x hx=>by
  obtain⟨b,o,e,h1,h2⟩:=h.cell i x hx;exact⟨b,o,e,bM h1 hb.size,(hb.cell h1).trans h2⟩⟩
def Sl.alloc(h:Sl w A c L)(o:Obj):Sl (w.alloc o) A c L:=h.below ((Below.refl _ _).alloc (bd _) _)
def Sl.drew(h:Sl w A c L):Sl w.drew A c L:=h.below ((Below.refl _ _).drew)
def Sl.take(h:Sl w A c L)(n:Nat):Sl w A c (L.take n):=
 ⟨by have:=h.cap;rw[cv];omega,h.pq,h.ok.take n,h.vY,λi x hx=>h.cell i x (by
  rw[dX]at hx;split at hx
  .exact hx
  .cases hx)⟩
def Sl.len(h:Sl w A c L):L.length<=9223372036854775807:=bj h.cap h.pq
def Sl.XF{L':List Nat}(h:Sl w A c L)(e:L=L'):Sl w A c L':=e▸h
end
def zf(b o i:Nat):(⟨b,o,none⟩:Addr).add i=⟨b,o+i,none⟩:=by
 unfold Addr.add;split
 .rename_i h0;rw[h0];rfl
 .simp
abbrev iz(w w':World):Prop:=Below w.heap.size w w'
def iz.trans{a b c:World}(h:iz a b)(k:iz b c):iz a c:=Below.trans h (k.mono h.size)
def iz.alloc(w:World)(o:Obj):iz w (w.alloc o):=(Below.refl _ _).alloc (bd _) _
def iz.drew(w:World):iz w w.drew:=(Below.refl _ _).drew
def iz.refl(w:World):iz w w:=Below.refl _ _
def GL{A:Option Addr}{n m c:Nat}(h:n=m):Ending.returned (.slice A n c) = .returned (.slice A m c):=by rw[h]
def nd{k:IntKind}{a b:Int}(h:a=b):Ending.returned (.int k a) = .returned (.int k b):=by rw[h]
def Sy{a b:Bool}(h:a=b):Ending.returned (.bool a) = .returned (.bool b):=by rw[h]
def r9(w:World)(L:List Nat)(e:Ending)(w':World):Prop:=∃ A c,e = .returned (.slice A L.length c)/\Sl w' A c L/\iz w w'
def AN(w:World)(L:List Nat)(n:Int)(e:Ending)(w':World):Prop:=∃ A c,e = .returned (.tuple #[.slice A L.length c,.int .i64 n])/\Sl w' A c L/\iz w w'
def Tb(w:World):Prop:=TabAt 0 Lib.deBruijn32tab w
def Tb.below{w w':World}(h:Tb w)(hb:iz w w'):Tb w':=λj hj=>by
 have h1:=h j hj;rw[hb.cell (block_lt_of_cell h1)];exact h1
def Tb.alloc{w:World}(h:Tb w)(o:Obj):Tb (w.alloc o):=h.below (iz.alloc _ _)
def Vo(x:Nat)(h:x<4294967296):Lib.bitLen x=ib x:=by
 induction x using Nat.strongRecOn with
 |_ x ih=>
  by_cases h0:x=0
  .subst h0;rfl
  .rw [Lib.bitLen_half x h0 aC,ih (x/2) aC aC];by_cases h1:x/2=0
   .have:x=1:= aC ;subst this;rfl
   .have e1:=rZ h1;have e2:=qH (x/2);have e3:=np h1;generalize ib (x/2)=k at *
    obtain⟨j,rfl⟩:∃ j,k=j+1:=⟨k-1,aC⟩
    rw[eo]at e1;rw[Nat.add_comm];refine(wH ?_ ?_).symm
    .rw [bw];omega
    .rw [bw];omega
def WL(x:Nat)(h0:x≠0)(h:x<4294967296):Lib.ctz 32 x=jq x:=by
 unfold Lib.ctz;rw[aY h0];obtain⟨m,hm,_⟩:=Lib.ctzFrom_spec 32 x aC h
 conv=>rhs;rw[hm,bB]
 exact(wK aC _).symm
def mX(L:List Nat):List Value:=L.map λ(n:Nat)=>Value.int .u32 (n:Int)
def af4{L:List Nat}{j:Nat}{u:Value}(h:(mX L)[j]? = some u):∃ n,L[j]? = some n/\u = .int .u32 (n:Int):=by
 unfold mX at h;rw[cD]at h;obtain⟨n,hn,rfl⟩:=cJ.1 h;exact⟨n,hn,rfl⟩
def af3(L M:List Nat):mX (L++M)=mX L++mX M:=gO
def af5(L:List Nat):∀ u ∈ mX L,u.oneCell'=true:=by
 intro u hu;obtain⟨n,_,rfl⟩:=dk.1 hu;rfl
structure Ow(w:World)(base:Nat)(v:Value)(L:List Nat):Prop where
 row:w.ownsRow base 150 1 v L.length (mX L)
 ok:iD L
def Ow.sl{w:World}{base:Nat}{v:Value}{L:List Nat}(h:Ow w base v L):∃ A c,v = .slice A L.length c/\Sl w A c L:=by
 have hr:=h.row;rcases hr.2 with⟨rfl,h0⟩|⟨g,cap,cur,rfl,hb,hg,oI,nG,mJ,Df⟩
 .have:L=[]:=du h0;subst this;exact⟨none,0,rfl,Sl.nil w⟩
 .refine ⟨_,_,rfl,oI,(by simpa[maxLen]using nG),h.ok,(λh=>by cases h),λi x hx=>⟨_,_,rfl,(cS.1 hg).1,?_⟩⟩;have h:=hr.cells (g:=g) rfl i (.int .u32 (x:Int)) (by unfold mX;rw[cD,hx];rfl);rw[zf]at h;exact h
def Ow.nil(w:World)(base:Nat):Ow w base (.slice none 0 0) []:=⟨World.ownsRow_nil w base _ _,iD.nil⟩
def Ow.alloc{w:World}{base:Nat}{v:Value}{L:List Nat}(h:Ow w base v L)(o:Obj):Ow (w.alloc o) base v L:=⟨h.row.alloc o,h.ok⟩
def Ow.empty(w:World)(base:Nat)(hb:base<=w.heap.size):Ow (w.alloc (.cells #[] 150)) base (.slice (some ⟨w.heap.size,0,none⟩) 0 0) []:=
 ⟨World.ownsRow_made w #[] 0 hb aE rfl,iD.nil⟩
def qa{w:World}{n:Nat}(h:n<=w.heap.size)(o:Obj):n<=(w.alloc o).heap.size:= aN 
def Sl.one(w:World)(x:Nat)(hx:x<4294967296):Sl (w.alloc (.cells #[.int .u32 x] 150)) (some ⟨w.heap.size,0,none⟩) 1 [x]:=
 ⟨bd _,aE,iD.cons hx iD.nil,(λh=>by cases h),λi y hy=>by
  obtain⟨h1,h2⟩:=b9.1 hy;obtain rfl:i=0:=by simp at h1;omega
  simp at h2;subst h2;refine⟨_,_,rfl,aH,?_⟩;exact World.cell?_alloc_at _ _ _ _ rfl⟩
def Sl.rU(w:World)(y:Int)(x:Nat)(e:y=(x:Int))(hx:x<4294967296):Sl (w.alloc (.cells #[.int .u32 y] 150)) (some ⟨w.heap.size,0,none⟩) 1 [x]:=by
 subst e;exact Sl.one w x hx
def J8:(prog.info? 150).map (λi=>(i.zero,i.size,i.bytes))=some (some (.int .u32 0),1,4):= aF 
def qL{ops:Array Oper}{rest:List Oper}{o:Oper}{a:Act}{Q:Exit->Act->World->Prop}{w:World}(zG:o.guard=none)(s x:Operand)
 (ho:o.op = .call { callee:=.builtin .append,args:=#[s,x],argTypes:=#[37,37] })
 (base:Nat) (v:Value) (L:List Nat) (hs:a.eval s=v) (oe:Ow w base v L)
 (A:Option Addr) (m c:Nat) (M:List Nat) (hx:a.eval x = .slice A m c) (hm:m=M.length) (hr:Sl w A c M)
 (kQ:L.length+M.length<=10000000000) (Z8:base<=w.heap.size)
 (h:∀ v' w',Ow w' base v' (L++M)->w.grownBy w' v.ownBlock->(v'.ownBlock=v.ownBlock\/v'.ownBlock=some w.heap.size)->wpList prog ops Q rest (a.put o.dst v') w'):
 wpList prog ops Q (o::rest) a w:=by
 obtain⟨i,hi,hz,h1,h2⟩:=info_parts J8;subst hm;rcases A with _|ad
 .have hc:=hr.vY rfl;subst hc;have hM:M=[]:=du (by have:=hr.cap;omega);subst hM;refine wpList_append_own_none zG s x _ ho base _ i 1 underlying37 hi v _ _ hs oe.row hx ?_;have:=h v w (by rw[List.append_nil];exact oe) ⟨rfl,rfl,rfl,bd _,λ_ _ _=>rfl⟩ (.inl rfl);exact this
 .refine wpList_append_own_at w zG s x _ ho base _ i _ 1 4 underlying37 hi hz h1 h2 rfl aE v L.length (mX L) hs oe.row ad M.length c (mX M) hx (by simp[mX]) ?_ (af5 M)
   (by simp only[maxLen];omega) aC Z8 ?_
  .intro j u hu;obtain⟨n,hn,rfl⟩:=af4 hu;obtain⟨b,o,e,_,hc⟩:=hr.cell j n hn;cases e;rw[zf];exact hc
  .intro v' w' aaq hg _ om;exact h v' w' ⟨by rw[bX,af3];exact aaq,oe.ok.append hr.ok⟩ hg om
def Rw(w:World)(b:Nat)(L:List Nat):Prop:=w.heap[b]? = some (.cells (mX L).toArray 150 (0,0))
section
variable {w w':World} {b:Nat} {L:List Nat}
def Rw.lt(h:Rw w b L):b<w.heap.size:=(cS.1 h).1
def Rw.cell(h:Rw w b L){i x:Nat}(hx:L[i]? = some x):w.cell? ⟨b,i,none⟩=some (.int .u32 (x:Int)):=by
 unfold Rw at h;simp only[World.cell?,h];simp[mX,hx]
def Rw.frozen(h:Rw w b L)(i:Nat):w.frozen? ⟨b,i,none⟩=false:=by
 unfold Rw at h;simp[World.frozen?,h]
def Rw.set(h:Rw w b L)(i x:Nat):Rw (w.setCell ⟨b,i,none⟩ (.int .u32 (x:Int))) b (L.set i x):=by
 unfold Rw at h ⊢;simp only[World.setCell,cO,h];simp[mX,List.map_set]
def Rw.sl(h:Rw w b L)(hk:iD L)(hl:L.length<=10000000000):Sl w (some ⟨b,0,none⟩) L.length L:=
 ⟨bd _,aC,hk,(λh=>by cases h),λi x hx=>⟨_,_,rfl,h.lt,by
  rw[bW];exact h.cell hx⟩⟩
def Rw.xf(w:World)(n:Nat):Rw (w.alloc (.cells (mX (List.replicate n 0)).toArray 150)) w.heap.size (List.replicate n 0):=heap_alloc_new w _
end
def UA(b i:Nat):(⟨b,0,none⟩:Addr).add i=⟨b,i,none⟩:=by
 unfold Addr.add;split
 .rename_i h0;rw[h0]
 .simp
def DE(n:Nat)(hn:n<=10000000000)(w:World):
 (Instr.makeSlice 37 (.int .i64 (n:Int)) (.int .i64 (n:Int))).run prog w = .ok (.slice (some ⟨w.heap.size,0,none⟩) n n) (w.alloc (.cells (mX (List.replicate n 0)).toArray 150)):=by
 obtain⟨i,hi,hz,h1,h2⟩:=info_parts J8;have hr:=run_make (P:=prog) w 37 150 i _ underlying37 hi hz .i64 .i64 n n aC aC (by rw[h2];omega) aC;rw[hr,fm,h1,ch];refine congrArg (λcs=>Result.ok (Value.slice (some ⟨w.heap.size,0,none⟩) n n) (w.alloc (.cells cs 150))) ?_;apply Array.ext
 .simp [madeCells,mX]
 .intro i h1 h2;simp[madeCells,mX,Value.cells,dJ]
def vj(w:World)(d:Dy)(e:Ending)(w':World):Prop:=
 ∃ A c,e = .returned (.agg #[.bool d.neg,.slice A (gV d.m).length c,.int .i64 d.e])/\Sl w' A c (gV d.m)/\iz w w'
def wB(w:World)(d:Dy)(n:Int)(e:Ending)(w':World):Prop:=
 ∃ A c,e = .returned (.tuple #[.agg #[.bool d.neg,.slice A (gV d.m).length c,.int .i64 d.e],.int .i64 n])/\Sl w' A c (gV d.m)/\iz w w'
def wu(w:World)(g:Nat):Prop:=∀ o x,w.cell? ⟨g,o,none⟩≠some (.int .u32 x)
def Sl.zC{w:World}{A:Option Addr}{c:Nat}{L:List Nat}(h:Sl w A c L){g i:Nat}(hg:wu w g)(u:Value):Sl (w.setCell ⟨g,i,none⟩ u) A c L:=
 ⟨h.cap,h.pq,h.ok,h.vY,λj x hx=>by
  obtain⟨b,o,e,h1,h2⟩:=h.cell j x hx;refine⟨b,o,e,by simpa[World.setCell]using h1,?_⟩;rw[World.cell?_setCell_other w _ _ u]
  .exact h2
  .intro e';simp only[Addr.mk.injEq]at e';exact hg (o+j) x (by rw[e'.1];exact h2)⟩
def wu.BS{w:World}{g:Nat}{cs:Array Value}{t:TypeId}{fr:Nat×Nat}(h:w.heap[g]? = some (.cells cs t fr))(hc:∀ (i:Nat) (x:Int),cs[i]? ≠ some (.int .u32 x)):wu w g:=λo x e=>by
 simp only[World.cell?,h]at e;simp at e;exact hc o x (by simpa using e)
def ji(w:World)(g:Nat)(s:Bool)(A:Option Addr)(n c:Nat)(e:Int):Prop:=w.heap[g]? = some (.cells #[.bool s,.slice A n c,.int .i64 e] 39 (0,0))
section
variable {w w':World} {g n c:Nat} {s:Bool} {A:Option Addr} {e:Int}
def ji.new(W:World)(s:Bool)(A:Option Addr)(n c:Nat)(e:Int):ji (W.alloc (.cells #[.bool s,.slice A n c,.int .i64 e] 39)) W.heap.size s A n c e:=heap_alloc_new W _
def ji.rS{W:World}{g:Nat}(hg:W.heap.size=g)(s:Bool)(A:Option Addr)(n c:Nat)(e:Int):ji (W.alloc (.cells #[.bool s,.slice A n c,.int .i64 e] 39)) g s A n c e:=hg▸heap_alloc_new W _
def ji.lt(h:ji w g s A n c e):g<w.heap.size:=(cS.1 h).1
def ji.ext(h:ji w g s A n c e)(hb:iz w w'):ji w' g s A n c e:=(hb.block g h.lt).trans h
def ji.alloc(h:ji w g s A n c e)(o:Obj):ji (w.alloc o) g s A n c e:=h.ext (iz.alloc _ _)
def ji.drew(h:ji w g s A n c e):ji w.drew g s A n c e:=h
def ji.mv(h:ji w g s A n c e):wu w g:=wu.BS h (λi x=>by rcases i with _|_|_|i<;>simp)
def ji.c0(h:ji w g s A n c e):w.cell? ⟨g,0,none⟩=some (.bool s):=by unfold ji at h;simp[World.cell?,h]
def ji.c1(h:ji w g s A n c e):w.cell? ⟨g,1,none⟩=some (.slice A n c):=by unfold ji at h;simp[World.cell?,h]
def ji.c2(h:ji w g s A n c e):w.cell? ⟨g,2,none⟩=some (.int .i64 e):=by unfold ji at h;simp[World.cell?,h]
def ji.fr(h:ji w g s A n c e)(i:Nat):w.frozen? ⟨g,i,none⟩=false:=by unfold ji at h;simp[World.frozen?,h]
def ji.set(h:ji w g s A n c e)(s':Bool)(A':Option Addr)(n' c':Nat)(e':Int):
 ji (((w.setCell ⟨g,0,none⟩ (.bool s')).setCell ⟨g,1,none⟩ (.slice A' n' c')).setCell ⟨g,2,none⟩ (.int .i64 e')) g s' A' n' c' e':=by
 have h1:=heap_setCell_same w g 0 _ _ (.bool s') h;have h2:=heap_setCell_same _ g 1 _ _ (.slice A' n' c') h1;have h3:=heap_setCell_same _ g 2 _ _ (.int .i64 e') h2;exact h3
def ji.sP{L:List Nat}{A':Option Addr}{c':Nat}(h:ji w g s A n c e)(hs:Sl w A' c' L)(s':Bool)(e':Int)(n' c2:Nat)(A2:Option Addr):
 Sl (((w.setCell ⟨g,0,none⟩ (.bool s')).setCell ⟨g,1,none⟩ (.slice A2 n' c2)).setCell ⟨g,2,none⟩ (.int .i64 e')) A' c' L:=by
 have h1:=heap_setCell_same w g 0 _ _ (.bool s') h;have h2:=heap_setCell_same _ g 1 _ _ (.slice A2 n' c2) h1;have k1:wu (w.setCell ⟨g,0,none⟩ (.bool s')) g:=wu.BS h1 (λi x=>by rcases i with _|_|_|i<;>simp);have k2:wu ((w.setCell ⟨g,0,none⟩ (.bool s')).setCell ⟨g,1,none⟩ (.slice A2 n' c2)) g:=wu.BS h2 (λi x=>by rcases i with _|_|_|i<;>simp);exact((hs.zC h.mv _).zC k1 _).zC k2 _
def ji.rX{w0:World}(hb:iz w0 w)(hg:w0.heap.size<=g)(s':Bool)(A':Option Addr)(n' c':Nat)(e':Int):
 iz w0 (((w.setCell ⟨g,0,none⟩ (.bool s')).setCell ⟨g,1,none⟩ (.slice A' n' c')).setCell ⟨g,2,none⟩ (.int .i64 e')):=
 ((hb.setCell hg _).setCell hg _).setCell hg _
end
def NT:(prog.info? 39).map (·.size)=some 3:= aF 
def ad8{fn:Func}{p:Tmp}(h:fn.results = #[.cell p 39])(tmps:Array Value){w:World}{g n c:Nat}{s:Bool}{A:Option Addr}{e:Int}
 (hp:tmps.getD p undef = .pointer (some ⟨g,0,none⟩)) (hb:ji w g s A n c e):
 (results fn tmps).run prog w = .ok (.agg #[.bool s,.slice A n c,.int .i64 e]) w:=
 results_cell_row h tmps w g _ _ _ _ hp hb underlying39 rfl NT
def ad9{fn:Func}{p t:Tmp}(h:fn.results = #[.cell p 39,.tmp t])(tmps:Array Value){w:World}{g n c:Nat}{s:Bool}{A:Option Addr}{e:Int}
 (hp:tmps.getD p undef = .pointer (some ⟨g,0,none⟩)) (hb:ji w g s A n c e):
 (results fn tmps).run prog w = .ok (.tuple #[.agg #[.bool s,.slice A n c,.int .i64 e],tmps.getD t undef]) w:=by
 have hp':tmps[p]?.getD undef = .pointer (some ⟨g,0,none⟩):=by simpa using hp
 simp[results,h,hp',asAddr,run_loadVar_row w g _ _ _ _ _ hb underlying39 rfl NT]
def sr{fn:Func}{p:Tmp}(h:fn.results = #[.cell p 39]){a:Act}{w W:World}{d:Dy}{g:Nat}{A:Option Addr}{c n:Nat}
 (hp:a.tmps.getD p undef = .pointer (some ⟨g,0,none⟩)) (hd:a.defers=[]) (hb:ji W g d.neg A n c d.e) (hn:n=(gV d.m).length) (hs:Sl W A c (gV d.m)) (he:iz w W):
 bodyPost prog fn (vj w d) .ret a W:=by
 subst hn;exact bodyPost_ret (ad8 h _ hp hb) hd ⟨A,c,rfl,hs,he⟩
def A6{fn:Func}{p t:Tmp}(h:fn.results = #[.cell p 39,.tmp t]){a:Act}{w W:World}{d:Dy}{k:Int}{g:Nat}{A:Option Addr}{c n:Nat}
 (hp:a.tmps.getD p undef = .pointer (some ⟨g,0,none⟩)) (ht:a.tmps.getD t undef = .int .i64 k) (hd:a.defers=[]) (hb:ji W g d.neg A n c d.e) (hn:n=(gV d.m).length) (hs:Sl W A c (gV d.m)) (he:iz w W):
 bodyPost prog fn (wB w d k) .ret a W:=by
 subst hn;exact bodyPost_ret ((ad9 h _ hp hb).trans (by rw[ht])) hd ⟨A,c,rfl,hs,he⟩
open Go.ChangeShapes Go.WideShapes Go.ChangeAt
def own:ownKnob prog.godebug=none:= aF 
def Dv:laidOutB prog=true:= aF 
def OF:prog.globalNamed "math/bits.deBruijn32tab" = some 0:= aF 
def YS:(prog.globals[0]?).map (·.type)=some 248:= aF 
def Wp:prog.cellsOf 248=32:= aF 
def Wo:prog.cellsOf 5=1:= aF 
def Wn:prog.cellsOf 150=1:= aF 
def afL {l:List (String×DataW Unit)} (hl:l=[("math/bits.deBruijn32tab", Rows.laid_math_bits_deBruijn32tab)]) {W:World} (h:laidMet prog l W):Tb W:=by
 subst hl;have ht:Lib.TabIs prog W "math/bits.deBruijn32tab" .u8 (Lib.deBruijn32tab.map λ(n:Nat)=>(n:Int)):=
  Lib.tabIs_of_head (rest:=[]) OF YS underlying248 underlying5 Wo Wp h
 intro j hj;have:=ht.cell OF j (by simpa using hj);rw[this];simp[bc];rw[bt hj];simp
def aaz{n:Int}(h:(Lit.int .i64 n).wf=true):-9223372036854775808<=n/\n<=9223372036854775807:=by
 have h1:IntKind.i64.min = -9223372036854775808:=rfl;have h2:IntKind.i64.max=9223372036854775807:=rfl;simp[Lit.wf,h1,h2]at h;omega
def acW{H:Type}{enc:TypeId×Value->H}{W:World}{fuel:Nat}{c:Value}{x:DataW H×List MemPlace}
 (h:DataW.trod enc prog W 0 (λ_=>true) true fuel 37 [c]=some x) (_hlt:∀ p ∈ x.2,p.block<W.heap.size):
 ∃ A L cap,c = .slice A L.length cap/\Sl W A cap L:=by
 rcases open_ints underlying37 underlying150 Wn h with⟨mJ,hx⟩|⟨a,len,cap,zs,mJ,_,hl,hm,hz,hx,kF,hwz⟩
 .simp at mJ;exact⟨none,[],0,mJ,Sl.nil W⟩
 .simp at mJ;simp only[bD]at hz;refine⟨some a,(zs.take len).map Int.toNat,cap,?_,?_⟩
  .rw [mJ,dK,cv,dh aC]
  .have Qc:∀ n ∈ zs,0<=n/\n<4294967296:=λn hn=>by
    have:=hwz n hn;have h1:IntKind.u32.min=0:=rfl;have h2:IntKind.u32.max=4294967295:=rfl;simp[Lit.wf,h1,h2]at this;omega
   refine⟨by rw[dK,cv];omega,by simpa[maxLen]using hm,?_,(λh=>by cases h),?_⟩
   .intro y hy;obtain⟨z,vP,rfl⟩:=dk.1 hy;have:=Qc z (en vP);omega
   .intro i y hy;rw[cD]at hy;obtain⟨z,vP,rfl⟩:=cJ.1 hy;rw[dX]at vP;split at vP
    .rename_i hi;have hc:=kF i aC;rw[bc,vP]at hc;obtain⟨b,off,spot⟩:=a;have hsp:spot=none:=by
      rcases spot with _|q
      .rfl
      .exfalso;have qA:=kF 0 aC;rw[show(⟨b,off,some q⟩:Addr).add 0=⟨b,off,some q⟩from rfl]at qA;unfold World.cell? at qA;split at qA<;>simp at qA
     subst hsp;refine⟨b,off,rfl,?_,?_⟩
     .have:=block_lt_of_cell hc;rwa[Vy]at this
     .rw [zf]at hc;rw[hc];have:=Qc z (ep vP);simp;omega
    .cases vP
def abv{α:Type}{l:List α}(h:l.length=3):∃ a b c,l=[a,b,c]:=by
 match l,h with
 | [a,b,c],_=>exact⟨a,b,c,rfl⟩
def abw{α:Type}{l:List α}(h:l.length=7):∃ a b c d e f g,l=[a,b,c,d,e,f,g]:=by
 match l,h with
 | [a,b,c,d,e,f,g],_=>exact⟨a,b,c,d,e,f,g,rfl⟩
def acV{H:Type}{enc:TypeId×Value->H}{W:World}{fuel:Nat}{cs:List Value}{x:DataW H×List MemPlace}
 (h:DataW.trod enc prog W 0 (λ_=>true) true fuel 39 cs=some x) (iA:∀ p ∈ x.2,p.block<W.heap.size):
 ∃ s A L cap e,cs=[.bool s,.slice A L.length cap,.int .i64 e]/\Sl W A cap L/\(-9223372036854775808<=e/\e<=9223372036854775807):=by
 obtain⟨xs,n,rfl,rfl,hl,qF,hf⟩:=DataW.trod_struct underlying39 h;have hC:prog.cellsOf 39=3:= aF ;have hB:prog.cellsOf 4=1:= aF ;have hS:prog.cellsOf 37=1:= aF ;have hI:prog.cellsOf 3=1:= aF ;rw[hC]at hl;obtain⟨a,b,c,rfl⟩:=abv hl;have h0:=hf 0 _ rfl;have h1:=hf 1 _ rfl;have h2:=hf 2 _ rfl;simp only[List.getElem_toArray,List.getElem_cons_zero,fK]at h0 h1 h2;simp only[hB,hS,hI,List.drop_zero,List.drop_succ_cons,gK,List.take_zero]at h0 h1 h2;rw[bt (by rw[qF];decide)]at h0 h1 h2;obtain⟨s,hs,_⟩:=DataW.trod_bool underlying4 h0;obtain⟨A,L,cap,hc,tz⟩:=acW h1 (λp hp=>iA p (fo.2 ⟨_,ck _,hp⟩));obtain⟨e,he,_,hw⟩:=DataW.trod_int underlying3 h2;simp at hs he;subst hs he hc;exact⟨s,A,L,cap,e,rfl,tz,aaz hw⟩
noncomputable def Kl(os:Os)(args:Array Value):World:=
 {World.holding prog os ⟨#[],args,[]⟩with heap:=(World.holding prog os ⟨#[],args,[]⟩).heap.modify 0 fun
   | .cells _ t frozen=>.cells (Lib.deBruijn32tab.map λ(n:Nat)=>Value.int .u8 (n:Int)).toArray t frozen
   |o=>o }
end Go.Proofs.YtkjkcjhacddojaaGreatDoor
namespace Go.Proofs.YtkjkcjhacddojaaGreatDoor.Pu
open Go.RowKit
inductive E where
 |any
 |v (x:Value)
 |agg (l:List E)
 |ik (l:List E)
 |sl (nl:Bool) (n sz:Nat) (el:Nat->Nat->E)
 |jG (m:Nat) (el:Nat->E)
 |fn (f:FuncId) (cap:List E)
 |mp (l:List (Int×FuncId×List FuncId))
def rI:Value->Bool
 | .int .u32 _=>true
 |_=>false
def E.nr:Nat->E->Bool
 |_,.any=>true
 |_,.v _=>true
 |_,.sl ..=>true
 |_,.mp _=>true
 |d+1,.agg l=>l.all (E.nr d)
 |d+1,.ik l=>l.all (E.nr d)
 |d+1,.fn _ l=>l.all (E.nr d)
 |_,_=>false
def y7(bs:Nat->Prop)(w:World):List (Int×FuncId×List FuncId)->List MapEntry->Prop
 | [],[]=>True
 |x::l,e::es=>(e.key = .int .i64 x.1/\∃ vs:List Value,e.val = .func (.func x.2.1) #[] vs.toArray/\vs.length=x.2.2.length /\
  ∀ (i:Nat) (g:FuncId) (v:Value),x.2.2[i]? = some g->vs[i]? = some v->∃ b,v = .pointer (some ⟨b,0,none⟩)/\¬bs b/\b<w.heap.size/\w.cell? ⟨b,0,none⟩=some (.func (.func g) #[] #[]))/\y7 bs w l es
 |_,_=>False
def y7.mono{bs bs':Nat->Prop}{w w':World}(kQ:w.heap.size<=w'.heap.size)(h1:∀ b,b<w.heap.size->bs' b->bs b)(hc:∀ b,b<w.heap.size->¬bs b->w'.heap[b]? = w.heap[b]?):
 ∀ {l:List (Int×FuncId×List FuncId)} {es:List MapEntry},y7 bs w l es->y7 bs' w' l es
 | [],[],_=>trivial
 | [],_::_,h=>h
 |_::_,[],h=>h
 |_::_,_::_,⟨⟨k1,vs,k2,k3,k4⟩,h⟩=>⟨⟨k1,vs,k2,k3,λi g v hg hv=>by
  obtain⟨b,q1,q2,q3,q4⟩:=k4 i g v hg hv;exact⟨b,q1,λx=>q2 (h1 b q3 x),bM q3 kQ,by rw[World.cell?_of_block (w:=w) (hc b q3 q2)];exact q4⟩⟩,y7.mono kQ h1 hc h⟩
inductive iB(bs br:Nat->Prop)(w:World):E->Value->Prop
 |any (x:Value):iB bs br w .any x
 |v (x:Value):iB bs br w (.v x) x
 |agg (l:List E) (vs:List Value) (h:vs.length=l.length) (k:∀ (i:Nat) (p:E) (x:Value),l[i]? = some p->vs[i]? = some x->iB bs br w p x):iB bs br w (.agg l) (.agg vs.toArray)
 |ik (l:List E) (vs:List Value) (h:vs.length=l.length) (k:∀ (i:Nat) (p:E) (x:Value),l[i]? = some p->vs[i]? = some x->iB bs br w p x):iB bs br w (.ik l) (.tuple vs.toArray)
 |sl (nl:Bool) (n sz:Nat) (el:Nat->Nat->E) (A:Option Addr) (c:Nat) (f:Nat->Nat->Value) (hc:n<=c) (hm:c<=9223372036854775807) (h0:A=none->c=0)
  (hl:∀ i j,i<n->j<sz->(f i j).oneCell'=true/\(nl=true->rI (f i j)=false))
  (hr:∀ i j,i<n->j<sz->(el i j).nr 2=true)
  (cell:∀ i j,i<n->j<sz->∃ b o,A=some ⟨b,o,none⟩/\¬bs b/\b<w.heap.size/\w.cell? ⟨b,o+(i*sz+j),none⟩=some (f i j))
  (k:∀ i j,i<n->j<sz->iB bs br w (el i j) (f i j)):iB bs br w (.sl nl n sz el) (.slice A n c)
 |jG (m:Nat) (el:Nat->E) (b o:Nat) (f:Nat->Value) (hb:¬br b) (iA:b<w.heap.size) (hl:∀ j,j<m->(f j).oneCell'=true)
  (cell:∀ j,j<m->w.cell? ⟨b,o+j,none⟩=some (f j))
  (k:∀ j,j<m->iB bs br w (el j) (f j)):iB bs br w (.jG m el) (.pointer (some ⟨b,o,none⟩))
 |fn (f:FuncId) (l:List E) (vs:List Value) (h:vs.length=l.length) (k:∀ (i:Nat) (p:E) (x:Value),l[i]? = some p->vs[i]? = some x->iB bs br w p x):iB bs br w (.fn f l) (.func (.func f) #[] vs.toArray)
 |mp (l:List (Int×FuncId×List FuncId)) (b clk:Nat) (es:Array MapEntry) (hb:¬bs b) (iA:b<w.heap.size) (hh:w.heap[b]? = some (.map es clk)) (ho:y7 bs w l es.toList):iB bs br w (.mp l) (.map (some b))
def iB.mono{bs br bs' br':Nat->Prop}{w w':World}(kQ:w.heap.size<=w'.heap.size)
 (h1:∀ b,b<w.heap.size->bs' b->bs b) (h2:∀ b,b<w.heap.size->br' b->br b)
 (hc:∀ b,b<w.heap.size->(¬bs b\/¬br b)->w'.heap[b]? = w.heap[b]?)
 {e:E} {v:Value} (h:iB bs br w e v):iB bs' br' w' e v:=by
 induction h with
 |any x=>exact .any x
 |v x=>exact .v x
 |agg l vs h k ih=>exact .agg l vs h ih
 |ik l vs h k ih=>exact .ik l vs h ih
 |sl nl n sz el A c f hn hm h0 hl hr cell k ih=>
  refine .sl nl n sz el A c f hn hm h0 hl hr (λi j hi hj=>?_) ih;obtain⟨b,o,e,hb,iA,kF⟩:=cell i j hi hj;exact⟨b,o,e,λhx=>hb (h1 b iA hx),bM iA kQ,by rw[World.cell?_of_block (w:=w) (hc b iA (.inl hb))];exact kF⟩
 |jG m el b o f hb iA hl cell k ih=>
  exact .jG m el b o f (λhx=>hb (h2 b iA hx)) (bM iA kQ) hl (λj hj=>by rw[World.cell?_of_block (w:=w) (hc b iA (.inr hb))];exact cell j hj) ih
 |fn f l vs h k ih=>exact .fn f l vs h ih
 |mp l b clk es hb iA hh ho=>exact .mp l b clk es (λx=>hb (h1 b iA x)) (bM iA kQ) (by rw[hc b iA (.inl hb)];exact hh) (ho.mono kQ h1 λb iA hb=>hc b iA (.inl hb))
def iB.qt{bs br bs' br':Nat->Prop}{w:World}(h1:∀ b,bs' b->bs b)(h2:∀ b,br' b->br b){e:E}{v:Value}(h:iB bs br w e v):iB bs' br' w e v:=
 h.mono (bd _) (λb _=>h1 b) (λb _=>h2 b) (λ_ _ _=>rfl)
def E.plain:Nat->E->Bool
 |_,.any=>true
 |_,.v _=>true
 |d+1,.agg l=>l.all (E.plain d)
 |d+1,.ik l=>l.all (E.plain d)
 |_,_=>false
def iB.plain{bs br bs' br':Nat->Prop}{w w':World}{e:E}{v:Value}(h:iB bs br w e v):∀ d,e.plain d=true->iB bs' br' w' e v:=by
 induction h with
 |any x=>exact λ_ _=>.any x
 |v x=>exact λ_ _=>.v x
 |agg l vs h k ih=>
  intro d hd;cases d with
  |zero=>simp[E.plain]at hd
  |succ d=>
   simp only[E.plain,bY]at hd;exact .agg l vs h λi p x hp hx=>ih i p x hp hx d (hd p (ep hp))
 |ik l vs h k ih=>
  intro d hd;cases d with
  |zero=>simp[E.plain]at hd
  |succ d=>
   simp only[E.plain,bY]at hd;exact .ik l vs h λi p x hp hx=>ih i p x hp hx d (hd p (ep hp))
 |sl=>intro d hd;cases d<;>simp[E.plain]at hd
 |jG=>intro d hd;cases d<;>simp[E.plain]at hd
 |fn=>intro d hd;cases d<;>simp[E.plain]at hd
 |mp=>intro d hd;cases d<;>simp[E.plain]at hd
def iB.nr{bs br br':Nat->Prop}{w:World}{e:E}{v:Value}(h:iB bs br w e v):∀ d,e.nr d=true->iB bs br' w e v:=by
 induction h with
 |any x=>exact λ_ _=>.any x
 |v x=>exact λ_ _=>.v x
 |agg l vs h k ih=>
  intro d hd;cases d with
  |zero=>simp[E.nr]at hd
  |succ d=>
   simp only[E.nr,bY]at hd;exact .agg l vs h λi p x hp hx=>ih i p x hp hx d (hd p (ep hp))
 |ik l vs h k ih=>
  intro d hd;cases d with
  |zero=>simp[E.nr]at hd
  |succ d=>
   simp only[E.nr,bY]at hd;exact .ik l vs h λi p x hp hx=>ih i p x hp hx d (hd p (ep hp))
 |fn f l vs h k ih=>
  intro d hd;cases d with
  |zero=>simp[E.nr]at hd
  |succ d=>
   simp only[E.nr,bY]at hd;exact .fn f l vs h λi p x hp hx=>ih i p x hp hx d (hd p (ep hp))
 |jG=>intro d hd;cases d<;>simp[E.nr]at hd
 |mp l b clk es hb iA hh ho=>exact λ_ _=>.mp l b clk es hb iA hh ho
 |sl nl n sz el A c f hn hm h0 hl hr cell k ih=>
  exact λ_ _=>.sl nl n sz el A c f hn hm h0 hl hr cell λi j hi hj=>ih i j hi hj 2 (hr i j hi hj)
def E.one:E->Bool
 | .v x=>x.oneCell'
 | .sl ..=>true
 | .jG ..=>true
 | .fn ..=>true
 |_=>false
def E.mv:E->Bool
 | .v x=>!rI x
 | .sl ..=>true
 | .jG ..=>true
 | .fn ..=>true
 |_=>false
def iB.one{bs br:Nat->Prop}{w:World}{e:E}{v:Value}(h:iB bs br w e v)(h1:e.one=true):v.oneCell'=true:=by
 cases h<;>first|exact h1|rfl|(simp[E.one]at h1)
def iB.mv{bs br:Nat->Prop}{w:World}{e:E}{v:Value}(h:iB bs br w e v)(h1:e.mv=true):rI v=false:=by
 cases h with
 |v=>unfold E.mv at h1;cases hb:rI v<;>simp_all
 |any=>cases h1
 |agg=>cases h1
 |ik=>cases h1
 |sl=>rfl
 |jG=>rfl
 |fn=>rfl
 |mp=>cases h1
structure jJ(bs br:Nat->Prop)(w:World)(l:List E)(vs:List Value):Prop where
 len:vs.length=l.length
 ko:∀ (i:Nat) (p:E) (x:Value),l[i]? = some p->vs[i]? = some x->iB bs br w p x
def jJ.nil(bs br:Nat->Prop)(w:World):jJ bs br w [] []:=⟨rfl,λi p x h=>by simp at h⟩
def jJ.cons{bs br:Nat->Prop}{w:World}{p:E}{x:Value}{l:List E}{vs:List Value}(h:iB bs br w p x)(k:jJ bs br w l vs):jJ bs br w (p::l) (x::vs):=
 ⟨by simp[k.len],λi q y hq hy=>by
  cases i with
  |zero=>simp at hq hy;subst hq hy;exact h
  |succ i=>simp at hq hy;exact k.ko i q y hq hy⟩
def jJ.head{bs br:Nat->Prop}{w:World}{p:E}{x:Value}{l:List E}{vs:List Value}(h:jJ bs br w (p::l) (x::vs)):iB bs br w p x:=h.ko 0 p x rfl rfl
def jJ.tail{bs br:Nat->Prop}{w:World}{p:E}{x:Value}{l:List E}{vs:List Value}(h:jJ bs br w (p::l) (x::vs)):jJ bs br w l vs:=
 ⟨by have:=h.len;simpa using this,λi q y hq hy=>h.ko (i+1) q y (by simpa using hq) (by simpa using hy)⟩
def jJ.lp{bs br:Nat->Prop}{w:World}{p:E}{l:List E}{vs:List Value}(h:jJ bs br w (p::l) vs):∃ x ys,vs=x::ys/\iB bs br w p x/\jJ bs br w l ys:=by
 cases vs with
 |nil=>have:=h.len;simp at this
 |cons x ys=>exact⟨x,ys,rfl,h.head,h.tail⟩
def jJ.o0{bs br:Nat->Prop}{w:World}{vs:List Value}(h:jJ bs br w [] vs):vs=[]:=du h.len
def jJ.mono{bs br bs' br':Nat->Prop}{w w':World}{l:List E}{vs:List Value}(h:jJ bs br w l vs)(k:∀ e v,iB bs br w e v->iB bs' br' w' e v):jJ bs' br' w' l vs:=
 ⟨h.len,λi p x hp hx=>k _ _ (h.ko i p x hp hx)⟩
def jJ.take{bs br:Nat->Prop}{w:World}{l:List E}{vs:List Value}(h:jJ bs br w l vs)(n:Nat):jJ bs br w (l.take n) (vs.take n):=
 ⟨by simp[h.len],λi p x hp hx=>by
  rw[dX]at hp hx;split at hp
  .rename_i hi;rw[aZ hi]at hx;exact h.ko i p x hp hx
  .cases hp⟩
def jJ.drop{bs br:Nat->Prop}{w:World}{l:List E}{vs:List Value}(h:jJ bs br w l vs)(n:Nat):jJ bs br w (l.drop n) (vs.drop n):=
 ⟨by simp[h.len],λi p x hp hx=>by
  rw[er]at hp hx;exact h.ko _ p x hp hx⟩
def jJ.app{bs br:Nat->Prop}{w:World}{l m:List E}{vs us:List Value}(h:jJ bs br w l vs)(k:jJ bs br w m us):jJ bs br w (l++m) (vs++us):=
 ⟨by simp[h.len,k.len],λi p x hp hx=>by
  rw[fp]at hp hx;rw[h.len]at hx;split at hp
  .rename_i hi;rw[aZ hi]at hx;exact h.ko i p x hp hx
  .rename_i hi;rw[aY hi]at hx;exact k.ko _ p x hp hx⟩
def jJ.WG(bs br:Nat->Prop)(w:World)(vs:List Value):jJ bs br w (vs.map .v) vs:=
 ⟨aH,λi p x hp hx=>by
  rw[cD,hx]at hp;simp at hp;subst hp;exact .v x⟩
def iB.AR{bs br:Nat->Prop}{w:World}{l:List E}{v:Value}(h:iB bs br w (.agg l) v):∃ vs:List Value,v = .agg vs.toArray/\jJ bs br w l vs:=by
 cases h with
 |agg _ vs h k=>exact⟨vs,rfl,h,k⟩
def iB.TN{bs br:Nat->Prop}{w:World}{l:List E}{v:Value}(h:iB bs br w (.ik l) v):∃ vs:List Value,v = .tuple vs.toArray/\jJ bs br w l vs:=by
 cases h with
 |ik _ vs h k=>exact⟨vs,rfl,h,k⟩
def iB.jX{bs br:Nat->Prop}{w:World}{x v:Value}(h:iB bs br w (.v x) v):v=x:=by cases h;rfl
def iB.Ot{bs br:Nat->Prop}{w:World}{f:FuncId}{l:List E}{v:Value}(h:iB bs br w (.fn f l) v):∃ vs:List Value,v = .func (.func f) #[] vs.toArray/\jJ bs br w l vs:=by
 cases h with
 |fn _ _ vs h k=>exact⟨vs,rfl,h,k⟩
def jJ.agg{bs br:Nat->Prop}{w:World}{l:List E}{vs:List Value}(h:jJ bs br w l vs):iB bs br w (.agg l) (.agg vs.toArray):=.agg l vs h.len h.ko
def jJ.ik{bs br:Nat->Prop}{w:World}{l:List E}{vs:List Value}(h:jJ bs br w l vs):iB bs br w (.ik l) (.tuple vs.toArray):=.ik l vs h.len h.ko
def E.cells?:E->Option (List E)
 | .agg l=>if l.all E.one then some l else none
 | .v (.agg cs)=>if cs.toList.all Value.oneCell' then some (cs.toList.map .v)else none
 | .v x=>if x.oneCell' then some [.v x]else none
 | .sl nl n sz el=>some [.sl nl n sz el]
 | .jG m el=>some [.jG m el]
 | .fn f c=>some [.fn f c]
 |_=>none
def iB.cells{bs br:Nat->Prop}{w:World}{e:E}{v:Value}(h:iB bs br w e v){l:List E}(hl:e.cells? = some l):
 jJ bs br w l v.cells.toList/\∀ u ∈ v.cells.toList,u.oneCell'=true:=by
 have single:∀ {e:E} {v:Value},iB bs br w e v->v.oneCell'=true->v.cells = #[v]->jJ bs br w [e] v.cells.toList/\∀ u ∈ v.cells.toList,u.oneCell'=true:=by
  intro e v h h1 hc;rw[hc];exact⟨.cons h (.nil _ _ _),by simpa using h1⟩
 cases h with
 |any x=>simp[E.cells?]at hl
 |v=>
  by_cases ha:∃ cs,v = .agg cs
  .obtain ⟨cs,rfl⟩:=ha;simp only[E.cells?]at hl;split at hl
   .rename_i h1;cases hl;exact⟨jJ.WG _ _ _ _,λu hu=>bY.1 h1 u hu⟩
   .cases hl
  .have hx:(E.v v).cells? = if v.oneCell' then some [.v v]else none:=by
    cases v<;>first|rfl|exact absurd ⟨_,rfl⟩ ha
   rw[hx]at hl;split at hl
   .rename_i h1;cases hl;exact single (.v v) h1 (by cases v<;>first|rfl|exact absurd ⟨_,rfl⟩ ha)
   .cases hl
 |agg l vs h k=>
  simp only[E.cells?]at hl;split at hl
  .rename_i h1;cases hl;refine⟨⟨h,k⟩,?_⟩;intro u hu;obtain⟨i,hi⟩:=dv.1 hu;have C1:i<l.length:=by
    obtain⟨hi,_⟩:=b9.1 hi;simp[Value.cells]at hi;omega
   exact(k i _ u (bt C1) (by simpa[Value.cells]using hi)).one (bY.1 h1 _ (ck C1))
  .cases hl
 |ik=>simp[E.cells?]at hl
 |mp=>simp[E.cells?]at hl
 |sl nl n sz el A c f hc hm h0 pJ hr cell k=>simp only[E.cells?]at hl;cases hl;exact single (.sl nl n sz el A c f hc hm h0 pJ hr cell k) rfl rfl
 |jG m el b o f hb iA pJ cell k=>simp only[E.cells?]at hl;cases hl;exact single (.jG m el b o f hb iA pJ cell k) rfl rfl
 |fn f l' vs h k=>simp only[E.cells?]at hl;cases hl;exact single (.fn f l' vs h k) rfl rfl
structure TI where
 id:TypeId
 d:TypeDesc
 i:TypeInfo
def lE(P:Program)(T:List TI):Prop:=∀ x,x ∈ T->P.underlying x.id=some x.d/\P.info? x.id=some x.i
def lv:List TI->TypeId->Option TI
 | [],_=>none
 |x::l,t=>if Nat.beq x.id t then some x else lv l t
def uk(T:List TI)(t:TypeId):Option TypeDesc:=match lv T t with
 |some x=>some x.d
 |none=>none
def TI.isAgg(x:TI):Bool:=match x.d with
 | .struct _ | .array _ _=>true
 |_=>false
inductive CV where
 |e (x:E)
 |box (id:Nat)
inductive PV where
 |e (x:E)
 |box (id off:Nat)
 |own (id:Nat)
 |oL (id sz i j:Nat)
 |iW (id k:Nat)
 |sj (f:FuncId) (cap:List CV)
def CV.pz:CV->List Nat
 | .e _=>[]
 | .box id=>[id]
def PV.pz:PV->List Nat
 | .e _=>[]
 | .box id _ | .own id | .oL id _ _ _ | .iW id _=>[id]
 | .sj _ cap=>cap.flatMap CV.pz
inductive Bx where
 |cells (T:TypeId) (l:List E)
 |row (nl:Bool) (T:TypeId) (n sz:Nat) (el:Nat->Nat->E)
 |lf (nl:Bool) (T1 T0:TypeId) (n sz:Nat) (len:Nat->Nat) (el:Nat->Nat->Nat->E) (pend:Option Nat)
def Bx.nl:Bx->Bool
 | .cells _ l=>l.all E.mv
 | .row nl ..=>nl
 | .lf nl ..=>nl
structure PS where
 n:Nat
 nl:Bool
 t:List (Nat×PV)
 b:List (Nat×Bx)
def look{α:Type}:List (Nat×α)->Nat->Option α
 | [],_=>none
 | (k,x)::l,t=>if Nat.beq k t then some x else look l t
def PS.get(σ:PS)(t:Nat):PV:=(look σ.t t).getD (.e .any)
def PS.bo(σ:PS)(id:Nat):Option Bx:=look σ.b id
def PS.op(σ:PS):Operand->PV
 | .tmp t=>σ.get t
 | .const v=>.e (.v v)
 | .global g=>.e (.v (.pointer (some ⟨g,0,none⟩)))
 | .func f=>.e (.fn f [])
inductive qf where
 |none
 |new (id:Nat) (b:Bx)
 |sT (id:Nat) (b:Bx)
 |qi (id:Nat) (b:Bx)
 |uw (id:Nat) (b:Bx)
 |fin (id:Nat)
structure jV where
 r:PV
 f:qf:=.none
 rb:List Nat:=[]
 jo:List Prop:=[]
 rd:List PV:=[]
def PV.og:qf->PV->PV
 | .qi id _,.own i=>if Nat.beq i id then .e .any else .own i
 | .qi id _,.oL i s x j=>if Nat.beq i id then .e .any else .oL i s x j
 | .uw id _,.iW i k=>if Nat.beq i id then .e .any else .iW i k
 | .fin id,p=>if p.pz.any (Nat.beq id)then .e .any else p
 |_,p=>p
def B7(l:List (Nat×Bx))(id:Nat)(b:Bx):List (Nat×Bx):=(id,b)::l.filter λx=>!Nat.beq x.1 id
def qf.Ik:qf->List (Nat×Bx)->List (Nat×Bx)
 | .none,l=>l
 | .new id b,l | .sT id b,l | .qi id b,l | .uw id b,l=>B7 l id b
 | .fin id,l=>l.filter λx=>!Nat.beq x.1 id
def qf.Hf:qf->Bool
 | .qi .. | .uw .. | .fin ..=>true
 |_=>false
def PS.pG(σ:PS)(f:qf):PS:={ σ with t:=if f.Hf then σ.t.map λx=>(x.1,x.2.og f)else σ.t,b:=f.Ik σ.b }
def PS.put(σ:PS)(d:Option Tmp)(p:PV):PS:=match d with
 |some d=>{ σ with t:=(d,p)::σ.t.filter λx=>!Nat.beq x.1 d }
 |none=>σ
def jY:IntKind->Int->Prop
 | .i8,z=>-128<=z/\z<=127
 | .i16,z=>-32768<=z/\z<=32767
 | .i32,z=>-2147483648<=z/\z<=2147483647
 | .i64,z=>-9223372036854775808<=z/\z<=9223372036854775807
 | .u8,z=>0<=z/\z<=255
 | .u16,z=>0<=z/\z<=65535
 | .u32,z=>0<=z/\z<=4294967295
 | .u64,z=>0<=z/\z<=18446744073709551615
def SM(op:BinOp)(k k':IntKind):Bool:=match op with
 | .shl=>true
 | .shr=>true
 |_=>decide (k=k')
def H9(k:IntKind)(x y:Int):Int:=match k with
 | .u32=>IntKind.u32.wrap (x+y)
 |_=>x+y
def nn(k:IntKind)(x y:Int):List Prop:=match k with
 | .u32=>[]
 |_=>[jY k (x+y)]
def IU(op:BinOp)(k:IntKind)(x:Int)(y:Int):Option (Value×List Prop):=match op with
 | .add=>some (.int k (H9 k x y),nn k x y)
 | .sub=>some (.int k (x-y),[jY k (x-y)])
 | .mul=>some (.int k (x*y),[jY k (x*y)])
 | .quo=>some (.int k (x.tdiv y),[0<y,jY k x])
 | .rem=>some (.int k (x.tmod y),[0<y])
 | .and=>some (.int k (bits .and k x y),[])
 | .or=>some (.int k (bits .or k x y),[])
 | .shl=>some (.int k (k.wrap (x*2^y.toNat)),[0<=y/\y<=k.bits])
 | .shr=>some (.int k (x/2^y.toNat),[0<=y/\y<=k.bits])
 | .eql=>some (.bool (x==y),[])
 | .neq=>some (.bool (x != y),[])
 | .lss=>some (.bool (decide (x<y)),[])
 | .leq=>some (.bool (decide (x<=y)),[])
 | .gtr=>some (.bool (decide (y<x)),[])
 | .geq=>some (.bool (decide (y<=x)),[])
 |_=>none
def PS.read(σ:PS)(p:PV)(m:Nat):Option (List E×List Nat×List Prop):=match p with
 | .box id off=>match σ.bo id with
  |some (.cells _ l)=>if Nat.ble (off+m) l.length then some ((l.drop off).take m,[id],[])else none
  |_=>none
 | .oL id sz i j=>match σ.bo id with
  |some (.row _ _ n s el)=>if Nat.beq s sz&&Nat.ble (j+m) sz then some ((List.range m).map λq=>el i (j+q),[id],[i<n])else none
  |_=>none
 | .e (.jG k el)=>if Nat.ble m k then some ((List.range m).map el,[],[])else none
 |_=>none
def CV.ext(σ:PS):CV->Option (E×List Nat)
 | .e x=>some (x,[])
 | .box id=>match σ.bo id with
  |some (.cells _ l)=>some (.jG l.length λj=>l.getD j .any,[id])
  |_=>none
def vv(σ:PS):List CV->Option (List E×List Nat)
 | []=>some ([],[])
 |c::l=>match c.ext σ,vv σ l with
  |some (x,i),some (xs,is)=>some (x::xs,i++is)
  |_,_=>none
def PV.Ac:PV->Bool
 | .own _=>true
 |_=>false
def PV.ext(σ:PS):PV->Option (E×List Nat)
 | .e x=>some (x,[])
 | .own id=>match σ.bo id with
  |some (.row nl _ n sz el)=>some (.sl nl n sz el,[id])
  |_=>none
 | .box id 0=>match σ.bo id with
  |some (.cells _ l)=>some (.jG l.length λj=>l.getD j .any,[id])
  |_=>none
 | .sj f cap=>match vv σ cap with
  |some (xs,is)=>some (.fn f xs,is)
  |none=>none
 |_=>none
def sY(σ:PS):List Operand->Option (List E×List Nat)
 | []=>some ([],[])
 |o::l=>match(σ.op o).ext σ,sY σ l with
  |some (x,i),some (xs,is)=>some (x::xs,i++is)
  |_,_=>none
def wJ:List PV->Option (List CV)
 | []=>some []
 | .e x::l=>(wJ l).map (.e x :: ·)
 | .box id 0::l=>(wJ l).map (.box id :: ·)
 |_::_=>none
def nC(w:World)(b:Nat):Prop:=∀ o x,w.cell? ⟨b,o,none⟩≠some (.int .u32 x)
structure PC(P:Program)(K:World->Prop)(f:FuncId)(args:List E)(jL:E):Prop where
 call:∀ (vs:Array Value) (w:World),(callFunc f vs).run P w = .ok (.enter f vs) w
 run:∀ (w:World) (B:Nat->Prop) (vs:List Value),K w->(∀ b,B b->b<w.heap.size/\nC w b)->jJ B (λ_=>False) w args vs ->
  Calls P f vs.toArray w (λe w'=>∃ v,e = .returned v/\Below w.heap.size w w'/\iB B (λ_=>True) w' jL v)
structure ED(P:Program)(K:World->Prop)(f:FuncId)(args:List E)(jL:E):Prop where
 call:∀ (vs:Array Value) (w:World),(callFunc f vs).run P w = .ok (.enter f vs) w
 run:∀ (w:World) (B:Nat->Prop) (vs:List Value),K w->(∀ b,B b->b<w.heap.size)->jJ B (λ_=>False) w args vs ->
  Calls P f vs.toArray w (λe w'=>∃ v,e = .returned v/\Below w.heap.size w w'/\iB B (λ_=>True) w' jL v)
def pg(w:World)(v:Value)(T:TypeId)(n sz:Nat)(f:Nat->Nat->Value)(nl:Bool):Prop:=
 (v = .slice none 0 0/\n=0) \/
 ∃ (b c:Nat) (cur:Array Value),v = .slice (some ⟨b,0,none⟩) n c/\w.heap[b]? = some (.cells cur T (0,0))/\n<=c/\c<=maxLen/\cur.size=c*sz /\
  (∀ i j,i<n->j<sz->cur[i*sz+j]? = some (f i j)/\(f i j).oneCell'=true)/\(nl=true->∀ u,u ∈ cur->rI u=false)
structure sW(P:Program)(K:World->Prop)(f:FuncId)(args:List E)(nl:Bool)(T:TypeId)(n sz:Nat)(el:Nat->Nat->E):Prop where
 call:∀ (vs:Array Value) (w:World),(callFunc f vs).run P w = .ok (.enter f vs) w
 run:∀ (w:World) (B:Nat->Prop) (vs:List Value),K w->(∀ b,B b->b<w.heap.size/\nC w b)->jJ B (λ_=>False) w args vs ->
  Calls P f vs.toArray w (λe w'=>∃ v,e = .returned v/\Below w.heap.size w w'/\∃ g,pg w' v T n sz g nl/\(∀ x,v.ownBlock=some x->w.heap.size<=x/\x<w'.heap.size) /\
   ∀ i j,i<n->j<sz->iB (λb=>B b\/v.ownBlock=some b) (λ_=>True) w' (el i j) (g i j)/\(el i j).nr 2=true)
structure oR where
 cl:List (Nat×E):=[]
 ov:List (Nat×PV):=[]
 nw:List (Nat×Bx):=[]
def D2(T:List TI):List Field->Option (List (Nat×Nat))
 | []=>some []
 |f::fs=>match lv T f.type,D2 T fs with
  |some ti,some l=>some ((f.offset,ti.i.size)::l)
  |_,_=>none
def yK(l:List E)(off:Nat)(m:List E):List E:=l.take off++m++l.drop (off+m.length)
def qy(σ:PS)(place:Nat->Option (Nat×Nat)):List E->List (Nat×Operand)->Option (List E)
 |l,[]=>some l
 |l,(i,x)::ps=>match place i,σ.op x with
  |some (off,size),.e e=>match e.cells? with
   |some m=>if Nat.beq m.length size&&Nat.ble (off+m.length) l.length then qy σ place (yK l off m) ps else none
   |none=>none
  |_,_=>none
def xA(ti:TI):Option (List E):=match ti.i.zero with
 |some z=>(E.v z).cells?
 |none=>none
def ko{α:Type}:Nat->List α->List α
 | 0,_=>[]
 |n+1,l=>l++ko n l
def mA(P:Program)(op:BinOp)(t:TypeId)(x y:E)(v:Value):Prop:=∀ (bs br:Nat->Prop) (w:World) (a b:Value) (ox oy:Operand),iB bs br w x a->iB bs br w y b->(eqGuard op t ox oy a b).run P w = .ok () w/\(binOp op t a b).run P w = .ok v w
def YX(O:oR)(d:Option Tmp):Option Value:=match d with
 |some d=>match look O.cl d with
  |some (.v v)=>some v
  |_=>none
 |none=>none
def xR(P:Program)(K:World->Prop)(O:oR)(σ:PS)(d:Option Tmp)(f:FuncId)(xs:List E)(is:List Nat)(ow:Bool):Option jV:=
 match(match d with
  |some d=>look O.cl d
  |none=>some .any)with
 |some jL=>if jL.plain 3||(σ.nl && !ow)then some { r:=.e jL,rb:=is,jo:=[PC P K f xs jL] }else if !ow then some { r:=.e jL,rb:=is,jo:=[ED P K f xs jL] }else none
 |none=>match d with
  |some d=>match look O.nw d,σ.bo d with
   |some (.row nl T n sz el),none=>if(σ.nl&&nl) && !ow then some { r:=.own d,f:=.new d (.row nl T n sz el),rb:=is,jo:=[sW P K f xs nl T n sz el] }else none
   |_,_=>none
  |none=>none
def uU(σ:PS)(d:Option Tmp)(b:Bx)(r:Nat->PV)(jo:List Prop):Option jV:=match d with
 |some d=>match σ.bo d with
  |none=>if !σ.nl||b.nl then some { r:=r d,f:=.new d b,jo:=jo }else none
  |some _=>none
 |none=>none
def xQ(T:List TI)(σ:PS)(d:Option Tmp)(t:TypeId)(s x:PV):Option jV:=match x with
 | .e (.sl nl2 m sz2 el2)=>match lv T t with
  |some tt=>match tt.d with
   | .slice e=>match lv T e with
    |some te=>match xA te with
     |some z=>if Nat.beq te.i.size sz2&&Nat.ble 1 sz2&&Nat.ble 1 te.i.bytes&&Nat.beq z.length sz2 then match s with
      | .own id=>match σ.bo id with
       |some (.row nl T1 n sz el)=>if Nat.beq T1 e&&Nat.beq sz sz2&&(!σ.nl||(nl&&(nl2&&z.all E.mv)))then
        some { r:=.own id,f:=.qi id (.row (nl&&(nl2&&z.all E.mv)) T1 (n+m) sz λi j=>if i<n then el i j else el2 (i-n) j),rb:=[id],jo:=[(n+m)*te.i.bytes<=140737488355328] }
        else none
       |_=>none
      | .iW id k=>match σ.bo id with
       |some (.lf nl T1 T0 n sz len el none)=>if Nat.beq T0 e&&Nat.beq sz sz2&&(!nl||(nl2&&z.all E.mv))then
        some { r:=.iW id k,f:=.uw id (.lf nl T1 T0 n sz (λq=>if q=k then len q+m else len q) (λq i j=>if q=k then(if i<len q then el q i j else el2 (i-len q) j)else el q i j) (some k)),rb:=[id],jo:=[k<n,(len k+m)*te.i.bytes<=140737488355328] }
        else none
       |_=>none
      | .e (.v (.slice none 0 0))=>uU σ d (.row (nl2&&z.all E.mv) e m sz2 el2) .own [m*te.i.bytes<=140737488355328]
      |_=>none
     else none
     |none=>none
    |none=>none
   |_=>none
  |none=>none
 |_=>none
def zz(T:List TI)(σ:PS)(d:Option Tmp)(t:TypeId)(s x:PV):Option jV:=match xQ T { σ with nl:=false } d t s x with
 |some u=>match u.f,u.r with
  | .qi id (.row nl _ n sz el),.own id'=>if Nat.beq id' id then some { r:=.e (.sl nl n sz el),f:=.fin id,rb:=u.rb,jo:=True::u.jo }else none
  |_,_=>none
 |none=>none
def N7(T:List TI)(t:TypeId)(l c:PV):Option (Bx×List Prop):=match l,c with
 | .e (.v (.int _ l)),.e (.v (.int _ c))=>match lv T t with
  |some tt=>match tt.d with
   | .slice e=>match lv T e with
    |some te=>match xA te with
     |some z=>if Nat.beq te.i.size z.length&&Nat.ble 1 te.i.size then
      let jo:=[0<=l/\l<=c,(te.i.bytes:Int)*c<=281474976710656/\c<=9223372036854775807]
      match te.d with
      | .slice e0=>match lv T e0,z with
       |some t0,[.v (.slice none 0 0)]=>some (.lf true e e0 l.toNat t0.i.size (λ_=>0) (λ_ _ _=>.any) none,jo)
       |_,_=>none
      |_=>some (.row (z.all E.mv) e l.toNat te.i.size (λ_ j=>z.getD j .any),jo)
      else none
     |none=>none
    |none=>none
   |_=>none
  |none=>none
 |_,_=>none
def Fj(T:List TI)(σ:PS)(d:Option Tmp)(t:TypeId)(l c:PV):Option jV:=match N7 T t l c with
 |some (b,jo)=>uU σ d b .own jo
 |none=>none
def Fk(T:List TI)(t:TypeId)(x:PV)(lo hi:Option PV):Option jV:=match x with
 | .e (.sl nl n sz el)=>match lv T t with
  |some tt=>match tt.d with
   | .slice e=>match lv T e with
    |some te=>if Nat.beq te.i.size sz then match lo,hi with
     |none,some (.e (.v (.int _ h)))=>some { r:=.e (.sl nl h.toNat sz el),jo:=[0<=h/\h<=n] }
     |some (.e (.v (.int _ l))),none=>some { r:=.e (.sl nl (n-l.toNat) sz λi j=>el (l.toNat+i) j),jo:=[0<=l/\l<=n] }
     |some (.e (.v (.int _ l))),some (.e (.v (.int _ h)))=>some { r:=.e (.sl nl (h.toNat-l.toNat) sz λi j=>el (l.toNat+i) j),jo:=[0<=l/\l<=h/\h<=n] }
     |_,_=>none
     else none
    |none=>none
   |_=>none
  |none=>none
 |_=>none
def Fh(T:List TI)(σ:PS)(t:TypeId)(x i:PV):Option jV:=match i with
 | .e (.v (.int _ z))=>match lv T t with
  |some tt=>match tt.d with
   | .slice e=>match lv T e with
    |some te=>match x with
     | .e (.sl _ n sz el)=>if Nat.beq te.i.size sz&&Nat.ble 1 sz then some { r:=.e (.jG sz (el z.toNat)),jo:=[0<=z/\z<n] }else none
     | .own id=>match σ.bo id with
      |some (.row _ _ n sz _)=>if Nat.beq te.i.size sz then some { r:=.oL id sz z.toNat 0,rb:=[id],jo:=[0<=z/\z<n] }else none
      |some (.lf _ _ _ n _ _ _ _)=>if Nat.beq te.i.size 1 then some { r:=.oL id 1 z.toNat 0,rb:=[id],jo:=[0<=z/\z<n] }else none
      |_=>none
     |_=>none
    |none=>none
   | .array n e=>match lv T e with
    |some te=>match x with
     | .box id off=>some { r:=.box id (off+z.toNat*te.i.size),jo:=[0<=z/\z<n] }
     | .e (.jG m el)=>if Nat.beq (n*te.i.size) m then some { r:=.e (.jG te.i.size λj=>el (z.toNat*te.i.size+j)),jo:=[0<=z/\z<n] }else none
     |_=>none
    |none=>none
   |_=>none
  |none=>none
 |_=>none
def Fl(T:List TI)(σ:PS)(t:TypeId)(a x:PV):Option jV:=match lv T t with
 |some ti=>match a,x with
  | .box id off,.e e=>match σ.bo id,e.cells? with
   |some (.cells T1 l),some m=>if Nat.beq m.length ti.i.size&&Nat.ble (off+m.length) l.length&&(!σ.nl||m.all E.mv)then
    some { r:=.e .any,f:=.sT id (.cells T1 (yK l off m)),rb:=[id] }else none
   |_,_=>none
  | .oL id sz i j,.e e=>match σ.bo id,e.cells? with
   |some (.row nl T1 n s el),some m=>if Nat.beq m.length ti.i.size&&Nat.beq s sz&&Nat.ble (j+m.length) sz&&(!nl||m.all E.mv)&&m.all (E.nr 2)then
    some { r:=.e .any,f:=.sT id (.row nl T1 n s λi' j'=>if i'=i/\j<=j'/\j'<j+m.length then m.getD (j'-j) .any else el i' j'),rb:=[id],jo:=[i<n] }else none
   |_,_=>none
  | .oL id 1 i 0,.iW id' k=>match σ.bo id with
   |some (.lf nl T1 T0 n sz len el (some k'))=>if Nat.beq id id'&&Nat.beq ti.i.size 1 then
    some { r:=.e .any,f:=.sT id (.lf nl T1 T0 n sz len el none),rb:=[id],jo:=[i=k',k=k',k'<n] }else none
   |_=>none
  |_,_=>none
 |none=>none
def s8:PV->PS->Option (Value×List Nat)
 | .e (.sl _ n _ _),_=>some (.int .i64 (n:Int),[])
 | .e (.v (.slice _ n _)),_=>some (.int .i64 (n:Int),[])
 | .own id,σ=>match σ.bo id with
  |some (.row _ _ n _ _)=>some (.int .i64 (n:Int),[id])
  |some (.lf _ _ _ n _ _ _ _)=>some (.int .i64 (n:Int),[id])
  |_=>none
 |_,_=>none
def DA(ti:TI):Option (List E×List Nat×List Prop)->Option jV
 |some (l,is,jo)=>if ti.isAgg then some { r:=.e (.agg l),rb:=is,jo:=jo }else match l with
  | [e]=>some { r:=.e e,rb:=is,jo:=jo }
  |_=>none
 |none=>none
def Av(σ:PS):PV->Option (Nat×Nat×Nat)
 | .oL id sz i j=>match σ.bo id with
  |some (.lf _ _ _ n _ _ _ none)=>if Nat.beq sz 1&&Nat.beq j 0 then some (id,i,n)else none
  |_=>none
 |_=>none
def Fi(T:List TI)(σ:PS)(t:TypeId)(p:PV):Option jV:=match lv T t with
 |some ti=>match Av σ p with
  |some (id,i,n)=>if ti.isAgg then none else some { r:=.iW id i,rb:=[id],jo:=[i<n] }
  |none=>DA ti (σ.read p ti.i.size)
 |none=>none
def EO(O:oR):Option Tmp->Bool
 |some d=>(look O.nw d).isSome
 |none=>false
def vW:List (Int×FuncId×List FuncId)->Int->Option E
 | [],_=>none
 |x::l,z=>if x.1=z then some (.fn x.2.1 (x.2.2.map λg=>.jG 1 λ_=>.fn g []))else vW l z
def YW(O:oR):Option Tmp->Option E
 |some d=>look O.cl d
 |none=>none
def jb(P:Program)(K:World->Prop)(T:List TI)(O:oR)(σ:PS)(o:Oper):Option jV:=match o.op with
 | .move x=>some { r:=σ.op x }
 | .assign x=>some { r:=σ.op x }
 | .pick c a b=>match σ.op c with
  | .e (.v (.bool true))=>some { r:=σ.op a }
  | .e (.v (.bool false))=>some { r:=σ.op b }
  |_=>none
 | .alloc t=>match lv T t with
  |some ti=>match xA ti with
   |some z=>uU σ o.dst (.cells t z) (.box · 0) []
   |none=>none
  |none=>none
 | .box t x=>match σ.op x with
  | .e e=>match e.cells? with
   |some l=>uU σ o.dst (.cells t l) (.box · 0) []
   |none=>none
  |_=>none
 | .build t ps=>match lv T t with
  |some ti=>match xA ti with
   |some z=>match ti.d with
    | .struct fs=>match D2 T fs.toList with
     |some pl=>(qy σ (λi=>pl[i]?) z ps.toList).map λl=>{ r:=.e (.agg l) }
     |none=>none
    | .array _ e=>match lv T e with
     |some te=>(qy σ (λi=>some (i*te.i.size,te.i.size)) z ps.toList).map λl=>{ r:=.e (.agg l) }
     |none=>none
    |_=>none
   |none=>none
  |none=>none
 | .buildSlice t n ps=>match lv T t with
  |some tt=>match tt.d with
   | .slice e=>match lv T e with
    |some te=>match xA te with
     |some z=>if Nat.beq z.length te.i.size&&Nat.ble 1 te.i.size&&Nat.ble (n*te.i.size) 16777216 then
      (qy σ (λi=>some (i*te.i.size,te.i.size)) (ko n z) ps.toList).bind λl=>
       if !(l.all (E.nr 2))then none else if EO O o.dst then uU σ o.dst (.row (l.all E.mv) e n te.i.size λi j=>l.getD (i*te.i.size+j) (.v (.bool false))) .own [True]
       else if l.all E.mv then some { r:=.e (.sl true n te.i.size λi j=>l.getD (i*te.i.size+j) (.v (.bool false))) }
       else some { r:=.e (.sl false n te.i.size λi j=>l.getD (i*te.i.size+j) (.v (.bool false))) }
      else none
     |none=>none
    |none=>none
   |_=>none
  |none=>none
 | .load t a=>Fi T σ t (σ.op a)
 | .store t a x=>Fl T σ t (σ.op a) (σ.op x)
 | .nilCheck x=>match σ.op x with
  | .box id off=>some { r:=.box id off }
  | .e (.jG m el)=>some { r:=.e (.jG m el) }
  | .e (.fn f c)=>some { r:=.e (.fn f c) }
  | .sj f c=>some { r:=.sj f c }
  |_=>none
 | .binOp op t x y _=>match σ.op x,σ.op y with
  | .e (.v (.int k a)),.e (.v (.int k' b))=>
   if SM op k k' then(IU op k a b).map λr=>{ r:=.e (.v r.1),jo:=r.2 }else none
  | .e (.v (.bool a)),.e (.v (.bool b))=>match uk T t with
   |some .bool=>match op with
    | .eql=>some { r:=.e (.v (.bool (a==b))) }
    | .neq=>some { r:=.e (.v (.bool (!(a==b)))) }
    |_=>none
   |_=>none
  | .e (.sl _ n _ _),.e (.v (.slice none 0 0))=>match uk T t with
   |some (.slice _)=>match op with
    | .eql=>some { r:=.e (.v (.bool false)),jo:=[0<n] }
    | .neq=>some { r:=.e (.v (.bool true)),jo:=[0<n] }
    |_=>none
   |_=>none
  | .e a,.e b=>match YX O o.dst with
   |some v=>some { r:=.e (.v v),jo:=[mA P op t a b v] }
   |none=>none
  |_,_=>none
 | .unOp op _ x=>match op,σ.op x with
  | .not,.e (.v (.bool b))=>some { r:=.e (.v (.bool (!b))) }
  | .neg,.e (.v (.int k z))=>some { r:=.e (.v (.int k (0-z))),jo:=[jY k (0-z)] }
  |_,_=>none
 | .convert src dst x=>match uk T dst,lv T src,σ.op x with
  |some (.int k),some _,.e (.v (.int _ z))=>some { r:=.e (.v (.int k (k.wrap z))) }
  |_,_,_=>none
 | .makeFunc (.func f) first cap=>if first.isEmpty then match wJ (cap.toList.map σ.op)with
  |some l=>some { r:=.sj f l }
  |none=>none
  else none
 | .makeSlice t l c=>Fj T σ o.dst t (σ.op l) (σ.op c)
 | .slice t x lo hi none=>Fk T t (σ.op x) (lo.map σ.op) (hi.map σ.op)
 | .fieldAddr t x f=>match uk T t with
  |some (.struct fs)=>match fs[f]? with
   |some fd=>match lv T fd.type with
    |some ft=>if Nat.beq ft.i.size 0 then none else match σ.op x with
     | .box id off=>some { r:=.box id (off+fd.offset) }
     | .oL id sz i j=>some { r:=.oL id sz i (j+fd.offset) }
     | .e (.jG m el)=>if Nat.ble fd.offset m then some { r:=.e (.jG (m-fd.offset) λj=>el (fd.offset+j)) }else none
     |_=>none
    |none=>none
   |none=>none
  |_=>none
 | .indexAddr t x i=>Fh T σ t (σ.op x) (σ.op i)
 | .index t x i=>match σ.op x,σ.op i with
  | .e (.agg l),.e (.v (.int _ z))=>match lv T t with
   |some tt=>match tt.d with
    | .array n e=>match lv T e with
     |some te=>if te.isAgg&&Nat.beq (n*te.i.size) l.length then some { r:=.e (.agg ((l.drop (z.toNat*te.i.size)).take te.i.size)),jo:=[0<=z/\z<n] }else none
     |none=>none
    |_=>none
   |none=>none
  |_,_=>none
 | .field t x f=>match σ.op x,uk T t with
  | .e (.agg l),some (.struct fs)=>match fs[f]? with
   |some fd=>match lv T fd.type with
    |some ft=>if ft.isAgg then none else match l[fd.offset]? with
     |some e=>some { r:=.e e }
     |none=>none
    |none=>none
   |none=>none
  |_,_=>none
 | .lookup t x i false=>match σ.op x,σ.op i,uk T t with
  | .e (.mp l),.e (.v (.int .i64 z)),some (.map k _)=>match uk T k,YW O o.dst with
   |some (.int .i64),some e=>some { r:=.e e,jo:=[vW l z=some e] }
   |_,_=>none
  |_,_,_=>none
 | .extract x i=>match σ.op x with
  | .e (.ik l)=>match l[i]? with
   |some e=>some { r:=.e e }
   |none=>none
  |_=>none
 | .call c=>match c.callee with
  | .builtin .len=>match c.args.toList,c.argTypes.toList with
   | [x],[t]=>match uk T t with
    |some (.slice _)=>(s8 (σ.op x) σ).map λr=>{ r:=.e (.v r.1),rb:=r.2 }
    |_=>none
   |_,_=>none
  | .builtin .append=>match c.args.toList,c.argTypes.toList with
   | [s,x],[t,t']=>if Nat.beq t t' then(if EO O o.dst then zz T σ o.dst t (σ.op s) (σ.op x)else xQ T σ o.dst t (σ.op s) (σ.op x))else none
   |_,_=>none
  | .builtin .max=>match c.args.toList.map σ.op with
   | [.e (.v (.int k a)),.e (.v (.int _ b))]=>some { r:=.e (.v (.int k (if b>a then b else a))) }
   | [.e (.v (.int k a)),.e (.v (.int _ b)),.e (.v (.int _ z))]=>some { r:=.e (.v (.int k (if z>(if b>a then b else a)then z else(if b>a then b else a)))) }
   |_=>none
  | .builtin .min=>match c.args.toList.map σ.op with
   | [.e (.v (.int k a)),.e (.v (.int _ b))]=>some { r:=.e (.v (.int k (if b<a then b else a))) }
   |_=>none
  | .value f=>match σ.op f,sY σ c.args.toList with
   | .e (.fn g cap),some (xs,is)=>xR P K O σ o.dst g (xs++cap) is ((c.args.toList.map σ.op).any PV.Ac)
   | .sj g cap,some (xs,is)=>match vv σ cap with
    |some (ys,js)=>xR P K O σ o.dst g (xs++ys) (is++js) ((c.args.toList.map σ.op).any PV.Ac)
    |none=>none
   |_,_=>none
  |_=>none
 |_=>none
structure Lk where
 na:Nat->Prop
 own:Nat->Nat->Prop
 val:Nat->Value
 iW:Nat->Nat->Value
def jF(L:Lk)(x:Nat):Prop:=∃ id,L.own id x
def ja(B:Nat->Prop)(L:Lk)(x:Nat):Prop:=B x\/jF L x
def wA(bs br:Nat->Prop)(L:Lk)(w:World):CV->Value->Prop
 | .e x,v=>iB bs br w x v
 | .box id,v=>L.na id/\∃ b,L.val id = .pointer (some ⟨b,0,none⟩)/\v = .pointer (some ⟨b,0,none⟩)
def mH(bs br:Nat->Prop)(L:Lk)(w:World):PV->Value->Prop
 | .e x,v=>iB bs br w x v
 | .box id off,v=>L.na id/\∃ b,L.val id = .pointer (some ⟨b,0,none⟩)/\v = .pointer (some ⟨b,off,none⟩)
 | .own id,v=>L.na id/\v=L.val id
 | .oL id sz i j,v=>L.na id/\∃ b n c,L.val id = .slice (some ⟨b,0,none⟩) n c/\v = .pointer (some ⟨b,i*sz+j,none⟩)
 | .iW id k,v=>L.na id/\v=L.iW id k
 | .sj f cap,v=>∃ vs:List Value,v = .func (.func f) #[] vs.toArray/\vs.length=cap.length/\∀ (i:Nat) (c:CV) (x:Value),cap[i]? = some c->vs[i]? = some x->wA bs br L w c x
def PV.le(p q:PV):Prop:=∀ (bs br:Nat->Prop) (L:Lk) (w:World) (v:Value),mH bs br L w p v->mH bs br L w q v
abbrev aj(a b:E):Prop:=PV.le (.e a) (.e b)
def su(P:Program)(K:World->Prop)(T:List TI)(O:oR)(σ:PS)(o:Oper):Option jV:=match jb P K T O σ o with
 |some u=>match o.dst with
  |some d=>match look O.ov d with
   |some p=>some { u with r:=p,jo:=PV.le u.r p::u.jo }
   |none=>some u
  |none=>some u
 |none=>none
def xz(ops:Array Oper)(σ:PS)(o:Oper):Option Bool:=match o.guard with
 |none=>some true
 |some (j,want)=>match(ops[j]?).bind (·.dst)with
  |some t=>match σ.get t with
   | .e (.v (.bool true))=>some want
   | .e (.v (.bool false))=>some (!want)
   | .e (.v (.tuple _))=>some false
   |_=>none
  |none=>none
def PS.app(σ:PS)(d:Option Tmp)(u:jV):PS:=(σ.pG u.f).put d u.r
def tC(σ:PS):Option Tmp->Bool
 |some d=>Nat.blt d σ.n
 |none=>true
def DX:Op->List Operand
 | .move x | .assign x | .box _ x | .load _ x | .nilCheck x | .unOp _ _ x | .convert _ _ x | .fieldAddr _ x _ | .field _ x _ | .extract x _=>[x]
 | .pick c a b=>[c,a,b]
 | .build _ ps | .buildSlice _ _ ps=>ps.toList.map (·.2)
 | .store _ a v | .binOp _ _ a v _ | .makeSlice _ a v | .indexAddr _ a v | .index _ a v | .lookup _ a v _=>[a,v]
 | .makeFunc _ first captured=>first.toList++captured.toList
 | .slice _ x l h m=>x::(l.toList++h.toList++m.toList)
 | .call c=>(match c.callee with | .value f=>[f] | .invoke r _=>[r] | .builtin _=>[])++c.args.toList
 |_=>[]
def Cf:List Operand->List Tmp
 | []=>[]
 | .tmp t::l=>t::Cf l
 |_::l=>Cf l
def looks(ops:Array Oper)(o:Oper):List Tmp:=Cf (DX o.op)++(match o.guard with
 |some (g,_)=>((ops[g]?).bind (·.dst)).toList
 |none=>[])
def pQ(P:Program)(K:World->Prop)(T:List TI)(O:oR)(ops:Array Oper)(σ:PS)(o:Oper):Option jV:=
 if tC σ o.dst then match xz ops σ o with
  |some true=>match su P K T O σ o with
   |some u=>some { u with rd:=(looks ops o).map σ.get }
   |none=>none
  |some false=>some { r:=.e (.v (.tuple #[])),rd:=(looks ops o).map σ.get }
  |none=>none
 else none
def Jx(l:List Nat)(n:Nat):Bool:=l.any (Nat.beq n)
def qf.id:qf->Option Nat
 | .none=>Option.none
 | .new i _ | .sT i _ | .qi i _ | .uw i _ | .fin i=>some i
def xd:qf->PV->Bool
 | .qi id _,.own i=>!Nat.beq i id
 | .qi id _,.oL i _ _ _=>!Nat.beq i id
 | .uw id _,.iW i _=>!Nat.beq i id
 | .fin id,p=>!p.pz.any (Nat.beq id)
 |_,_=>true
def BQ(l:List Nat):Option Nat->Bool
 |some d=>!Jx l d
 |none=>true
def G9:Option Nat->Option Nat->Bool
 |some a,some b=>!Nat.beq a b
 |_,_=>true
def KH:PV->Bool
 | .e .any=>false
 |_=>true
def z8(ops:Array Oper)(x y:Oper×jV):Bool:=
 BQ (looks ops y.1) x.1.dst&&G9 x.1.dst y.1.dst&&BQ (looks ops x.1) y.1.dst &&
 BQ y.2.rb x.2.f.id&&BQ x.2.rb y.2.f.id&&G9 x.2.f.id y.2.f.id&&xd x.2.f y.2.r&&xd y.2.f x.2.r &&
 (!x.2.f.Hf||y.2.rd.all KH)&&x.2.rd.all (xd y.2.f)
def Ab(o:Oper)(i:Nat):Bool:=o.after.toList.any λe=>Region.binds .any e&&Nat.beq e.on i
def yO(ops:Array Oper):Nat->Oper->Nat->Bool
 | 0,o,i=>Ab o i
 |n+1,o,i=>Ab o i||o.after.toList.any λe=>Region.binds .any e&&(match ops[e.on]? with
  |some z=>yO ops n z i
  |none=>false)
def BT(ops:Array Oper):Nat->List (Oper×jV)->Bool
 |_,[]=>true
 |i,x::l=>x.1.after.toList.all (λe=>!Region.binds .any e||Nat.blt e.on i)&&l.all (λy=>yO ops 3 y.1 i||z8 ops x y)&&BT ops (i+1) l
def G4(σ:PS):PV->Option E
 | .e x=>if x.nr 3 then some x else none
 | .own id=>match σ.bo id with
  |some (.row nl _ n sz el)=>some (.sl nl n sz el)
  |some (.lf nl _ _ n sz len el none)=>some (.sl true n 1 λk _=>.sl nl (len k) sz (el k))
  |_=>none
 |_=>none
def Lh(T:List TI)(σ:PS):ResultVar->Option E
 | .tmp t=>G4 σ (σ.get t)
 | .cell a t=>match lv T t with
  |some ti=>match σ.read (σ.get a) ti.i.size with
   |some (l,_,[])=>if ti.isAgg then(if(E.agg l).nr 3 then some (.agg l)else none)else match l with
    | [e]=>if e.nr 3 then some e else none
    |_=>none
   |_=>none
  |none=>none
def B3(T:List TI)(σ:PS):List ResultVar->Option (List E)
 | []=>some []
 |x::l=>match Lh T σ x,B3 T σ l with
  |some e,some es=>some (e::es)
  |_,_=>none
def GK(T:List TI)(fn:Func)(σ:PS):Option E:=match B3 T σ fn.results.toList with
 |some [e]=>some e
 |some l=>some (.ik l)
 |none=>none
inductive Ex where
 |normal
 |exit (id:Nat)
 |ret
def CM:Code->Nat
 | .region id _ _=>id
 | .seq a _=>CM a
 | .cond _ a _=>CM a
 | .block _ b=>CM b
 | .loop b=>CM b
 |_=>0
def Dp:Nat->List E->List (Nat×PV)
 |_,[]=>[]
 |i,x::l=>(i,.e x)::Dp (i+1) l
def yy(fn:Func)(nl:Bool)(args:List E):PS:={ n:=fn.ntmps,nl:=nl,t:=Dp 0 args,b:=[] }
def lQ{a b:Nat}:Nat.beq a b=true↔a=b:=⟨Nat.eq_of_beq_eq_true,λh=>by subst h;exact dC a⟩
def dD{a b:Nat}(h:a≠b):Nat.beq a b=false:=by
 cases hb:Nat.beq a b with
 |false=>rfl
 |true=>exact absurd (lQ.1 hb) h
def rM{α:Type}(k:Nat)(x:α)(l:List (Nat×α))(t:Nat):look ((k,x)::l) t=if k=t then some x else look l t:=by
 by_cases h:k=t
 .subst h;simp[look]
 .simp [look,h,dD h]
def DB{α:Type}(l:List (Nat×α))(d t:Nat)(h:d≠t):look (l.filter λx=>!Nat.beq x.1 d) t=look l t:=by
 induction l with
 |nil=>rfl
 |cons y l ih=>
  obtain⟨k,x⟩:=y;rw[List.filter_cons];by_cases hk:k=d
  .subst hk;simp only[dC,eN,bA,bq];rw[ih,rM,aY h]
  .simp only[dD hk,eu,bD];rw[rM,rM,ih]
def QY{α:Type}(l:List (Nat×α))(f:α->α)(t:Nat):look (l.map λx=>(x.1,f x.2)) t=(look l t).map f:=by
 induction l with
 |nil=>rfl
 |cons y l ih=>
  obtain⟨k,x⟩:=y;rw[eO,rM,rM,ih];split<;>rfl
def PS.Jf(σ:PS)(d:Nat)(p:PV)(t:Nat):(σ.put (some d) p).get t=if d=t then p else σ.get t:=by
 unfold PS.get PS.put;simp only[rM];by_cases h:d=t
 .rw [aZ h,aZ h];rfl
 .rw [aY h,aY h,DB _ _ _ h]
def PS.Vz(σ:PS)(d:Option Tmp)(p:PV)(id:Nat):(σ.put d p).bo id=σ.bo id:=by cases d<;>rfl
def PS.Kz(σ:PS)(d:Option Tmp)(p:PV):(σ.put d p).n=σ.n:=by cases d<;>rfl
def PS.acp(σ:PS)(d:Option Tmp)(p:PV):(σ.put d p).nl=σ.nl:=by cases d<;>rfl
def Gf(l:List (Nat×Bx))(id:Nat)(b:Bx)(t:Nat):look (B7 l id b) t=if id=t then some b else look l t:=by
 unfold B7;rw[rM];by_cases h:id=t
 .rw [aZ h,aZ h]
 .rw [aY h,aY h,DB _ _ _ h]
def QX{α:Type}(l:List (Nat×α))(d:Nat):look (l.filter λx=>!Nat.beq x.1 d) d=none:=by
 induction l with
 |nil=>rfl
 |cons y l ih=>
  obtain⟨k,x⟩:=y;rw[List.filter_cons];by_cases hk:k=d
  .subst hk;simpa only[dC,eN,bA,bq]using ih
  .simp only[dD hk,eu,bD];rw[rM,aY hk,ih]
def Kr{α:Type}(l:List (Nat×α))(i id:Nat):look (l.filter λx=>!Nat.beq x.1 i) id=if i=id then none else look l id:=by
 by_cases h:i=id
 .subst h;rw[aZ rfl];exact QX _ _
 .rw [aY h];exact DB _ _ _ h
def PS.Fx(σ:PS)(f:qf)(t:Nat):(σ.pG f).get t=(σ.get t).og f:=by
 unfold PS.get PS.pG;by_cases h:f.Hf=true
 .simp only[h,bD];rw[QY];cases look σ.t t with
  |none=>cases f<;>rfl
  |some p=>rfl
 .have hv:∀ p:PV,p.og f=p:=by
   intro p;cases f<;>first|exact absurd rfl h|(cases p<;>rfl)
  simp only[h,hv];rfl
def qu(bs br:Nat->Prop)(L:Lk)(w:World)(id:Nat):Bx->Prop
 | .cells T l=>∃ b vs,L.val id = .pointer (some ⟨b,0,none⟩)/\(∀ x,L.own id x↔x=b)/\w.heap[b]? = some (.cells vs.toArray T (0,0))/\jJ bs br w l vs/\∀ u,u ∈ vs->u.oneCell'=true
 | .row nl T n sz el=>∃ f:Nat->Nat->Value,pg w (L.val id) T n sz f nl/\(∀ x,L.own id x↔(L.val id).ownBlock=some x)/\∀ i j,i<n->j<sz->iB bs br w (el i j) (f i j)/\(el i j).nr 2=true
 | .lf nl T1 T0 n sz len el pend=>∃ (b c:Nat) (cur:Array Value) (f:Nat->Nat->Nat->Value),L.val id = .slice (some ⟨b,0,none⟩) n c/\w.heap[b]? = some (.cells cur T1 (0,0))/\n<=c/\c<=maxLen/\cur.size=c /\
  (∀ k,k<n->pend≠some k->cur[k]? = some (L.iW id k))/\(∀ u,u ∈ cur->u.oneCell'=true/\rI u=false) /\
  (∀ k,k<n->pg w (L.iW id k) T0 (len k) sz (f k) nl/\∀ i j,i<len k->j<sz->iB bs br w (el k i j) (f k i j)/\(el k i j).nr 2=true) /\
  (∀ x,L.own id x↔x=b\/∃ k,k<n/\(L.iW id k).ownBlock=some x) /\
  (∀ k k' x,k<n->k'<n->(L.iW id k).ownBlock=some x->(L.iW id k').ownBlock=some x->k=k')/\(∀ k,k<n->(L.iW id k).ownBlock≠some b)
structure iZ(w0:World)(B:Nat->Prop)(σ:PS)(a:Act)(w:World)(L:Lk):Prop where
 hd:a.defers=[]
 hs:a.tmps.size=σ.n
 ht:∀ t,mH (ja B L) (jF L) L w (σ.get t) (a.tmps.getD t undef)
 hb:∀ id b,σ.bo id=some b->qu (ja B L) (jF L) L w id b
 hv:∀ id,L.na id↔(σ.bo id).isSome=true
 hn:∀ id x,L.own id x->L.na id
 hw:∀ id x,L.own id x->w0.heap.size<=x/\x<w.heap.size
 hi:∀ id id' x,L.own id x->L.own id' x->id=id'
 he:Below w0.heap.size w0 w
 hl:σ.nl=true->∀ id b,σ.bo id=some b->b.nl=true
structure rp(L:Lk)(w:World)(L':Lk)(w':World):Prop where
 size:w.heap.size<=w'.heap.size
 jF:∀ x,x<w.heap.size->Pu.jF L' x->Pu.jF L x
 oA:∀ x,x<w.heap.size->¬Pu.jF L x->w'.heap[x]? = w.heap[x]?
def rp.ko{B:Nat->Prop}{L L':Lk}{w w':World}(h:rp L w L' w'){e:E}{v:Value}(k:iB (ja B L) (Pu.jF L) w e v):iB (ja B L') (Pu.jF L') w' e v:=by
 refine k.mono h.size (λb hb hx=>?_) (λb hb hx=>h.jF b hb hx) (λb hb tp=>h.oA b hb ?_)
 .rcases hx with hx|hx
  .exact .inl hx
  .exact .inr (h.jF b hb hx)
 .rcases tp with tp|tp
  .exact λhm=>tp (.inr hm)
  .exact tp
def pg.block{w w':World}{v:Value}{T:TypeId}{n sz:Nat}{f:Nat->Nat->Value}{nl:Bool}(h:pg w v T n sz f nl)
 (hk:∀ x,v.ownBlock=some x->w'.heap[x]? = w.heap[x]?):pg w' v T n sz f nl:=by
 rcases h with h|⟨b,c,cur,rfl,hg,r⟩
 .exact .inl h
 .exact .inr ⟨b,c,cur,rfl,by rw[hk b rfl];exact hg,r⟩
def qu.later{B:Nat->Prop}{L L':Lk}{w w':World}(h:rp L w L' w'){id:Nat}{b:Bx}(k:qu (ja B L) (jF L) L w id b)
 (hv:L'.val id=L.val id) (ho:∀ x,L'.own id x↔L.own id x) (lj:∀ j,L'.iW id j=L.iW id j) (hk:∀ x,L.own id x->w'.heap[x]? = w.heap[x]?):qu (ja B L') (jF L') L' w' id b:=by
 cases b with
 |cells T l=>
  obtain⟨b,vs,h1,h2,h3,h4,h5⟩:=k;exact⟨b,vs,by rw[hv];exact h1,λx=>(ho x).trans (h2 x),by rw[hk b ((h2 b).2 rfl)];exact h3,h4.mono λ_ _=>h.ko,h5⟩
 |row nl T n sz el=>
  obtain⟨f,h1,h2,h3⟩:=k;exact⟨f,by rw[hv];exact h1.block λx hx=>hk x ((h2 x).2 hx),λx=>by rw[ho,hv];exact h2 x,λi j hi hj=>⟨h.ko (h3 i j hi hj).1,(h3 i j hi hj).2⟩⟩
 |lf nl T1 T0 n sz len el pend=>
  obtain⟨b,c,cur,f,h1,h2,h3,h4,h5,h6,h7,h8,h9,sw,tf⟩:=k;have e:L'.iW id=L.iW id:=funext lj;refine⟨b,c,cur,f,by rw[hv];exact h1,by rw[hk b ((h9 b).2 (.inl rfl))];exact h2,h3,h4,h5,by rw[e];exact h6,h7,?_,?_,by rw[e];exact sw,by rw[e];exact tf⟩
  .intro k FM;obtain⟨q1,q2⟩:=h8 k FM;rw[e];exact⟨q1.block λx hx=>hk x ((h9 x).2 (.inr ⟨k,FM,hx⟩)),λi j hi hj=>⟨h.ko (q2 i j hi hj).1,(q2 i j hi hj).2⟩⟩
  .intro x;rw[ho,e];exact h9 x
def wA.later{B:Nat->Prop}{L L':Lk}{w w':World}(h:rp L w L' w'){c:CV}{v:Value}(k:wA (ja B L) (jF L) L w c v)
 (hv:∀ id,L.na id->L'.na id/\L'.val id=L.val id):wA (ja B L') (jF L') L' w' c v:=by
 cases c with
 |e x=>exact h.ko k
 |box id=>obtain⟨k1,b,k2,k3⟩:=k;exact⟨(hv id k1).1,b,by rw[(hv id k1).2];exact k2,k3⟩
def mH.later{B:Nat->Prop}{L L':Lk}{w w':World}(h:rp L w L' w'){p:PV}{v:Value}(k:mH (ja B L) (jF L) L w p v)
 (hv:∀ id,L.na id->L'.na id/\L'.val id=L.val id/\∀ j,L'.iW id j=L.iW id j):mH (ja B L') (jF L') L' w' p v:=by
 cases p with
 |e x=>exact h.ko k
 |box id off=>obtain⟨k1,b,k2,k3⟩:=k;exact⟨(hv id k1).1,b,by rw[(hv id k1).2.1];exact k2,k3⟩
 |own id=>obtain⟨k1,k2⟩:=k;exact⟨(hv id k1).1,by rw[(hv id k1).2.1];exact k2⟩
 |oL id sz i j=>obtain⟨k1,b,n,c,k2,k3⟩:=k;exact⟨(hv id k1).1,b,n,c,by rw[(hv id k1).2.1];exact k2,k3⟩
 |iW id q=>obtain⟨k1,k2⟩:=k;exact⟨(hv id k1).1,by rw[(hv id k1).2.2];exact k2⟩
 |sj f cap=>
  obtain⟨vs,k1,k2,k3⟩:=k;exact⟨vs,k1,k2,λi c x hc hx=>(k3 i c x hc hx).later h λid hl=>⟨(hv id hl).1,(hv id hl).2.1⟩⟩
def iZ.later{w0:World}{B:Nat->Prop}{σ:PS}{a:Act}{w w':World}{L:Lk}(r:iZ w0 B σ a w L)(h:Below w.heap.size w w'):iZ w0 B σ a w' L:=by
 have hl:rp L w L w':=⟨h.size,λ_ _ h=>h,λx hx _=>h.block x hx⟩
 refine⟨r.hd,r.hs,λt=>(r.ht t).later hl λid k=>⟨k,rfl,λ_=>rfl⟩,λid b hb=>(r.hb id b hb).later hl rfl (λ_=>Iff.rfl) (λ_=>rfl) λx hx=>h.block x (r.hw id x hx).2,r.hv,r.hn,
  λid x hx=>⟨(r.hw id x hx).1,bM (r.hw id x hx).2 h.size⟩,r.hi,r.he.trans (h.mono r.he.size),r.hl⟩
def iZ.drew{w0:World}{B:Nat->Prop}{σ:PS}{a:Act}{w:World}{L:Lk}(r:iZ w0 B σ a w L):iZ w0 B σ a w.drew L:=r.later (Below.refl _ _).drew
def iZ.put{w0:World}{B:Nat->Prop}{σ:PS}{a:Act}{w:World}{L:Lk}(r:iZ w0 B σ a w L)(d:Option Tmp)(p:PV)(v:Value)(hd:tC σ d=true)(hp:mH (ja B L) (jF L) L w p v):iZ w0 B (σ.put d p) (a.put d v) w L:=by
 cases d with
 |none=>exact r
 |some d=>
  have zF:d<σ.n:=by simpa[tC,Nat.blt_eq]using hd
  refine⟨r.hd,by simp[Act.put,r.hs,PS.Kz],λt=>?_,λid b hb=>r.hb id b hb,r.hv,r.hn,r.hw,r.hi,r.he,r.hl⟩;rw[PS.Jf];by_cases h:d=t
  .subst h;rw[aZ rfl];have:(a.put (some d) v).tmps.getD d undef=v:=by
    simp[Act.put,ahp,r.hs,zF]
   rw[this];exact hp
  .rw [aY h];have:(a.put (some d) v).tmps.getD t undef=a.tmps.getD t undef:=by
    simp[Act.put,gP h]
   rw[this];exact r.ht t
def iZ.op{w0:World}{B:Nat->Prop}{σ:PS}{a:Act}{w:World}{L:Lk}(r:iZ w0 B σ a w L)(x:Operand):mH (ja B L) (jF L) L w (σ.op x) (a.eval x):=by
 cases x with
 |tmp t=>exact r.ht t
 |const v=>exact .v v
 |global g=>exact .v _
 |func f=>exact .fn f [] [] rfl (λi p x h=>by simp at h)
def Lk.set(L:Lk)(id:Nat)(O:Nat->Prop)(v:Value)(iW:Nat->Value):Lk:=
 {na:=λi=>i=id\/L.na i
  own:=λi x=>if i=id then O x else L.own i x
  val:=λi=>if i=id then v else L.val i
  iW:=λi=>if i=id then iW else L.iW i }
section
variable {L:Lk} {id:Nat} {O:Nat->Prop} {v:Value} {iW:Nat->Value}
def Lk.qW(x:Nat):(L.set id O v iW).own id x↔O x:=by simp[Lk.set]
def Lk.nW:(L.set id O v iW).val id=v:=by simp[Lk.set]
def Lk.qs(k:Nat):(L.set id O v iW).iW id k=iW k:=by simp[Lk.set]
def Lk.yS:(L.set id O v iW).na id:=.inl rfl
def Lk.yT{i:Nat}(h:i≠id)(x:Nat):(L.set id O v iW).own i x↔L.own i x:=by simp[Lk.set,h]
def Lk.yU{i:Nat}(h:i≠id):(L.set id O v iW).val i=L.val i:=by simp[Lk.set,h]
def Lk.Ee{i:Nat}(h:i≠id)(k:Nat):(L.set id O v iW).iW i k=L.iW i k:=by simp[Lk.set,h]
end
structure qw(L:Lk)(w:World)(id:Nat)(O:Nat->Prop)(w':World):Prop where
 own:∀ x,O x->(L.own id x\/w.heap.size<=x)/\x<w'.heap.size
 size:w.heap.size<=w'.heap.size
 oA:∀ x,x<w.heap.size->¬L.own id x->w'.heap[x]? = w.heap[x]?
 os:w'.os=w.os
 tape:w'.tape=w.tape
 output:w'.output=w.output
def qw.later{L:Lk}{w:World}{id:Nat}{O:Nat->Prop}{w':World}(h:qw L w id O w')(v:Value)(iW:Nat->Value):rp L w (L.set id O v iW) w':=by
 refine⟨h.size,λx hx hm=>?_,λx hx hm=>h.oA x hx λho=>hm ⟨id,ho⟩⟩;obtain⟨i,hi⟩:=hm;by_cases e:i=id
 .subst e;rcases(h.own x ((Lk.qW x).1 hi)).1 with k|k
  .exact ⟨i,k⟩
  .omega
 .exact ⟨i,(Lk.yT e x).1 hi⟩
def iZ.set{w0:World}{B:Nat->Prop}{σ:PS}{a:Act}{w:World}{L:Lk}(r:iZ w0 B σ a w L)(id:Nat)(b':Bx)(O:Nat->Prop)(v:Value)(iW:Nat->Value)(w':World)(f:qf)
 (hf:f.Ik σ.b=B7 σ.b id b') (ht:qw L w id O w')
 (hB:qu (ja B (L.set id O v iW)) (jF (L.set id O v iW)) (L.set id O v iW) w' id b')
 (hT:∀ p v0,mH (ja B L) (jF L) L w p v0->mH (ja B (L.set id O v iW)) (jF (L.set id O v iW)) (L.set id O v iW) w' (p.og f) v0)
 (jE:σ.nl=true->b'.nl=true):iZ w0 B (σ.pG f) a w' (L.set id O v iW):=by
 have hl:=ht.later v iW;have jO:∀ i,(σ.pG f).bo i=if id=i then some b' else σ.bo i:=by
  intro i;show look (f.Ik σ.b) i=_;rw[hf,Gf];rfl
 have Ph:Below w0.heap.size w w':=⟨ht.os,ht.tape,ht.output,ht.size,λx hx=>ht.oA x (bM hx r.he.size) λho=>by have:=(r.hw id x ho).1;omega⟩
 refine⟨r.hd,r.hs,λt=>?_,λi b hb=>?_,λi=>?_,λi x hx=>?_,λi x hx=>?_,λi j x hi hj=>?_,r.he.trans Ph,λFT i b hb=>?_⟩
 .rw [PS.Fx];exact hT _ _ (r.ht t)
 .rw [jO]at hb;by_cases e:id=i
  .subst e;rw[aZ rfl]at hb;cases hb;exact hB
  .rw [aY e]at hb;have e':i≠id:=λh=>e h.symm
   exact(r.hb i b hb).later hl (Lk.yU e') (Lk.yT e') (Lk.Ee e') λx hx=>ht.oA x (r.hw i x hx).2 λho=>e (r.hi id i x ho hx)
 .rw [jO];by_cases e:id=i
  .subst e;rw[aZ rfl];simp[Lk.set]
  .rw [aY e];have e':i≠id:=λh=>e h.symm
   simp only[Lk.set,e',false_or];exact r.hv i
 .by_cases e:i=id
  .exact .inl e
  .exact .inr (r.hn i x ((Lk.yT e x).1 hx))
 .by_cases e:i=id
  .subst e;obtain⟨k1,k2⟩:=ht.own x ((Lk.qW x).1 hx);refine⟨?_,k2⟩;rcases k1 with k1|k1
   .exact (r.hw i x k1).1
   .exact bj r.he.size k1
  .have:=r.hw i x ((Lk.yT e x).1 hx);exact⟨this.1,bM this.2 ht.size⟩
 .by_cases e1:i=id
  .by_cases e2:j=id
   .rw [e1,e2]
   .have k2:=(Lk.yT e2 x).1 hj;subst e1;rcases(ht.own x ((Lk.qW x).1 hi)).1 with k|k
    .exact r.hi _ _ x k k2
    .have:=(r.hw j x k2).2;omega
  .have k1:=(Lk.yT e1 x).1 hi;by_cases e2:j=id
   .subst e2;rcases(ht.own x ((Lk.qW x).1 hj)).1 with k|k
    .exact r.hi _ _ x k1 k
    .have:=(r.hw i x k1).2;omega
   .exact r.hi _ _ x k1 ((Lk.yT e2 x).1 hj)
 .rw [jO]at hb;by_cases e:id=i
  .rw [aZ e]at hb;cases hb;exact jE FT
  .rw [aY e]at hb;exact r.hl FT i b hb
def iZ.new{w0:World}{B:Nat->Prop}{σ:PS}{a:Act}{w:World}{L:Lk}(r:iZ w0 B σ a w L)(id:Nat)(b':Bx)(O:Nat->Prop)(v:Value)(iW:Nat->Value)(w':World)
 (lM:σ.bo id=none) (hO:∀ x,O x->w.heap.size<=x/\x<w'.heap.size) (hb:Below w.heap.size w w')
 (hB:qu (ja B (L.set id O v iW)) (jF (L.set id O v iW)) (L.set id O v iW) w' id b')
 (jE:(!σ.nl||b'.nl)=true):iZ w0 B (σ.pG (.new id b')) a w' (L.set id O v iW):=by
 have Pr:¬L.na id:=λh=>by have:=(r.hv id).1 h;rw[lM]at this;simp at this
 have ht:qw L w id O w':=⟨λx hx=>⟨.inr (hO x hx).1,(hO x hx).2⟩,hb.size,λx hx _=>hb.block x hx,hb.os,hb.tape,hb.output⟩
 refine r.set id b' O v iW w' (.new id b') rfl ht hB (λp v0 hp=>?_) (λh=>by simpa[h]using jE);have kG:∀ {i},L.na i->i≠id:=λh e=>Pr (e▸h)
 have:p.og (.new id b')=p:=by cases p<;>rfl
 rw[this];exact hp.later (ht.later v iW) λi hi=>⟨.inr hi,Lk.yU (kG hi),λj=>Lk.Ee (kG hi) j⟩
def iZ.sT{w0:World}{B:Nat->Prop}{σ:PS}{a:Act}{w:World}{L:Lk}(r:iZ w0 B σ a w L)(id:Nat)(b':Bx)(w':World)
 (tn:L.na id) (ht:qw L w id (L.own id) w')
 (hB:qu (ja B (L.set id (L.own id) (L.val id) (L.iW id))) (jF (L.set id (L.own id) (L.val id) (L.iW id))) (L.set id (L.own id) (L.val id) (L.iW id)) w' id b')
 (jE:σ.nl=true->b'.nl=true):iZ w0 B (σ.pG (.sT id b')) a w' (L.set id (L.own id) (L.val id) (L.iW id)):=by
 refine r.set id b' _ _ _ w' (.sT id b') rfl ht hB (λp v0 hp=>?_) jE;have:p.og (.sT id b')=p:=by cases p<;>rfl
 rw[this];refine hp.later (ht.later _ _) λi hi=>⟨.inr hi,?_,λj=>?_⟩
 .by_cases e:i=id
  .subst e;exact Lk.nW
  .exact Lk.yU e
 .by_cases e:i=id
  .subst e;exact Lk.qs j
  .exact Lk.Ee e j
def iZ.qi{w0:World}{B:Nat->Prop}{σ:PS}{a:Act}{w:World}{L:Lk}(r:iZ w0 B σ a w L)(id:Nat)(b':Bx)(O:Nat->Prop)(v:Value)(w':World)
 (hp:∀ b,L.val id ≠ .pointer (some b)) (ht:qw L w id O w')
 (hB:qu (ja B (L.set id O v (L.iW id))) (jF (L.set id O v (L.iW id))) (L.set id O v (L.iW id)) w' id b')
 (jE:σ.nl=true->b'.nl=true):iZ w0 B (σ.pG (.qi id b')) a w' (L.set id O v (L.iW id)):=by
 have hl:=ht.later v (L.iW id);refine r.set id b' O v (L.iW id) w' (.qi id b') rfl ht hB (λp v0 pK=>?_) jE;have aak:∀ i j,(L.set id O v (L.iW id)).iW i j=L.iW i j:=λi j=>by
  by_cases e:i=id
  .subst e;exact Lk.qs j
  .exact Lk.Ee e j
 cases p with
 |e x=>exact hl.ko pK
 |box i off=>
  obtain⟨k1,b,k2,k3⟩:=pK;have e:i≠id:=λe=>by subst e;exact hp _ k2
  exact⟨.inr k1,b,by rw[Lk.yU e];exact k2,k3⟩
 |own i=>
  by_cases e:i=id
  .subst e;simp only[PV.og,dC,bD];exact .any _
  .simp only[PV.og,dD e,bA,bq];exact⟨.inr pK.1,by rw[Lk.yU e];exact pK.2⟩
 |oL i s x j=>
  by_cases e:i=id
  .subst e;simp only[PV.og,dC,bD];exact .any _
  .simp only[PV.og,dD e,bA,bq];obtain⟨k1,b,n,c,k2,k3⟩:=pK;exact⟨.inr k1,b,n,c,by rw[Lk.yU e];exact k2,k3⟩
 |iW i k=>exact⟨.inr pK.1,by rw[aak];exact pK.2⟩
 |sj f cap=>
  obtain⟨vs,k1,k2,k3⟩:=pK;refine⟨vs,k1,k2,λi c x hc hx=>?_⟩;have hk:=k3 i c x hc hx;cases c with
  |e y=>exact hl.ko hk
  |box q=>
   obtain⟨q1,b,q2,q3⟩:=hk;have e:q≠id:=λe=>by subst e;exact hp _ q2
   exact⟨.inr q1,b,by rw[Lk.yU e];exact q2,q3⟩
def iZ.uw{w0:World}{B:Nat->Prop}{σ:PS}{a:Act}{w:World}{L:Lk}(r:iZ w0 B σ a w L)(id:Nat)(b':Bx)(O:Nat->Prop)(iW:Nat->Value)(w':World)
 (ht:qw L w id O w')
 (hB:qu (ja B (L.set id O (L.val id) iW)) (jF (L.set id O (L.val id) iW)) (L.set id O (L.val id) iW) w' id b')
 (jE:σ.nl=true->b'.nl=true):iZ w0 B (σ.pG (.uw id b')) a w' (L.set id O (L.val id) iW):=by
 have hl:=ht.later (L.val id) iW;refine r.set id b' O (L.val id) iW w' (.uw id b') rfl ht hB (λp v0 pK=>?_) jE;have j9:∀ i,(L.set id O (L.val id) iW).val i=L.val i:=λi=>by
  by_cases e:i=id
  .subst e;exact Lk.nW
  .exact Lk.yU e
 cases p with
 |e x=>exact hl.ko pK
 |box i off=>obtain⟨k1,b,k2,k3⟩:=pK;exact⟨.inr k1,b,by rw[j9];exact k2,k3⟩
 |own i=>exact⟨.inr pK.1,by rw[j9];exact pK.2⟩
 |oL i s x j=>obtain⟨k1,b,n,c,k2,k3⟩:=pK;exact⟨.inr k1,b,n,c,by rw[j9];exact k2,k3⟩
 |iW i k=>
  by_cases e:i=id
  .subst e;simp only[PV.og,dC,bD];exact .any _
  .simp only[PV.og,dD e,bA,bq];exact⟨.inr pK.1,by rw[Lk.Ee e];exact pK.2⟩
 |sj f cap=>
  obtain⟨vs,k1,k2,k3⟩:=pK;refine⟨vs,k1,k2,λi c x hc hx=>(k3 i c x hc hx).later hl λj hj=>⟨.inr hj,j9 j⟩⟩
structure L5(w:World)(v:Value)(T:TypeId)(n sz m:Nat)(f g:Nat->Nat->Value)(nl:Bool)(v':Value)(w':World):Prop where
 own:pg w' v' T (n+m) sz (λi j=>if i<n then f i j else g (i-n) j) nl
 Ij:∀ x,v'.ownBlock=some x->v.ownBlock=some x\/(w.heap.size<=x/\x<w'.heap.size)
 size:w.heap.size<=w'.heap.size
 oA:∀ x,x<w.heap.size->v.ownBlock≠some x->w'.heap[x]? = w.heap[x]?
 os:w'.os=w.os
 tape:w'.tape=w.tape
 output:w'.output=w.output
def mY(n sz:Nat)(f:Nat->Nat->Value):List Value:=(List.range (n*sz)).map λq=>f (q/sz) (q%sz)
def tc(n sz:Nat)(f:Nat->Nat->Value):(mY n sz f).length=n*sz:=by simp[mY]
def I9{n sz:Nat}{f:Nat->Nat->Value}{i j:Nat}(hi:i<n)(hj:j<sz):(mY n sz f)[i*sz+j]? = some (f i j):=by
 have h1:i*sz+j<n*sz:=by
  have:=bI sz (show i+1<=n from hi);rw[bR,bT]at this;omega
 have h2:(i*sz+j)/sz=i:=by rw[bB,gQ aC,cV hj,bL]
 have h3:(i*sz+j)%sz=j:=by rw[bB,fu,bZ hj]
 simp[mY,h1,h2,h3]
def Fs{n sz:Nat}{f:Nat->Nat->Value}{q:Nat}{u:Value}(h:(mY n sz f)[q]? = some u):q/sz<n/\q%sz<sz/\u=f (q/sz) (q%sz)/\q/sz*sz+q%sz=q:=by
 unfold mY at h;rw[cD]at h;obtain⟨x,hx,rfl⟩:=cJ.1 h;obtain⟨h1,h2⟩:=b9.1 hx;simp at h1 h2;subst h2;have hz:0<sz:=by
  rcases dY sz with h0|h0
  .subst h0;simp at h1
  .exact h0
 exact⟨(cw hz).2 h1,bC _ hz,rfl,by rw[bB];exact cC q sz⟩
def pg.row{w:World}{v:Value}{T:TypeId}{n sz:Nat}{f:Nat->Nat->Value}{nl:Bool}(h:pg w v T n sz f nl):w.ownsRow 0 T sz v n (mY n sz f):=by
 rcases h with⟨rfl,rfl⟩|⟨b,c,cur,rfl,hg,oI,nG,mJ,kF,_⟩
 .exact ⟨tc _ _ _,.inl ⟨rfl,rfl⟩⟩
 .refine ⟨tc _ _ _,.inr ⟨b,c,cur,rfl,bO _,hg,oI,nG,mJ,?_⟩⟩;apply fQ;intro q;by_cases hq:q<n*sz
  .have hz:0<sz:=by
    rcases dY sz with h0|h0
    .subst h0;simp at hq
    .exact h0
   have h1:q/sz<n:=(cw hz).2 hq;have h2:=bC q hz;have h3:q/sz*sz+q%sz=q:=by rw[bB];exact cC q sz
   have h4:=(kF _ _ h1 h2).1;have h5:=I9 (f:=f) h1 h2;rw[h3]at h4 h5;rw[dX,aZ hq,h5];simpa using h4
  .rw [dX,aY hq,ct (by rw[tc];omega)]
def aeI(P:Program)(w:World)(t ty e:TypeId)(i:TypeInfo)(z:Value)(sz:Nat)(ht:P.underlying t=some (.slice e))(hi:P.info? e=some i)(hz:i.zero=some z)
 (vN:i.size=sz) (Qm:z.cells.size=sz) (kQ:0<sz) (jc:1<=i.bytes) (agY:∀ u,u ∈ z.cells->u.oneCell'=true)
 (v:Value) (n:Nat) (f:Nat->Nat->Value) (nl:Bool) (oe:pg w v e n sz f nl)
 (A:Option Addr) (m c:Nat) (g:Nat->Nat->Value) (hA:∀ k j,k<m->j<sz->∃ b o,A=some ⟨b,o,none⟩/\w.cell? ⟨b,o+(k*sz+j),none⟩=some (g k j)) (sx:A=none->m=0)
 (h1:∀ k j,k<m->j<sz->(g k j).oneCell'=true/\(nl=true->rI (g k j)=false)) (Ql:nl=true->∀ u,u ∈ z.cells->rI u=false)
 (Pm:(n+m)*i.bytes<=140737488355328):
 ∃ v' w',(Builtin.append_ #[t,t] ty #[v,.slice A m c]).run P w = .ok v' w'/\L5 w v e n sz m f g nl v' w':=by
 have hle:n+m<=(n+m)*i.bytes:=fR _ jc;have Jg:n+m<=maxLen:=by unfold maxLen;omega
 have vH:∀ i j,i<n+m->j<sz->(mY n sz f++mY m sz g)[i*sz+j]? = some (if i<n then f i j else g (i-n) j):=by
  intro i j hi hj;by_cases lj:i<n
  .rw [aZ lj,dm,I9 lj hj];rw[tc];have:=bI sz (show i+1<=n from lj);rw[bR,bT]at this;omega
  .rw [aY lj,fv,tc]
   .have:i*sz+j-n*sz=(i-n)*sz+j:=by
     have:=Nat.sub_mul i n sz;have:=bI sz (aC:n<=i);omega
    rw[this,I9 aC hj]
   .rw [tc];have:=bI sz (aC:n<=i);omega
 have yl:∀ i j,i<n+m->j<sz->(if i<n then f i j else g (i-n) j).oneCell'=true:=by
  intro i j hi hj;split
  .rename_i lj;rcases oe with⟨_,h0⟩|⟨b,c,cur,_,_,_,_,_,hc,_⟩
   .omega
   .exact (hc i j lj hj).2
  .rename_i lj;exact(h1 (i-n) j aC hj).1
 have Zy:∀ u ∈ mY m sz g,u.oneCell'=true:=by
  intro u hu;obtain⟨q,hq⟩:=dv.1 hu;obtain⟨q1,q2,rfl,_⟩:=Fs hq;exact(h1 _ _ q1 q2).1
 have gnl:nl=true->∀ u,u ∈ mY m sz g->rI u=false:=by
  intro hn u hu;obtain⟨q,hq⟩:=dv.1 hu;obtain⟨q1,q2,rfl,_⟩:=Fs hq;exact(h1 _ _ q1 q2).2 hn
 rcases A with _|ad
 .have hm:=sx rfl;subst hm;rcases oe with⟨rfl,rfl⟩|⟨b,cc,cur,rfl,hg,oI,nG,mJ,kF,jE⟩
  .refine ⟨.slice none 0 0,w,?_,.inl ⟨rfl,rfl⟩,λx hx=>.inl hx,bd _,λ_ _ _=>rfl,rfl,rfl,rfl⟩;simp[Builtin.append_,run_underlying ht,sizeOf,typeInfo,hi,Builtin.lenOf,Builtin.firstCells,loadCells,loadCellsFrom]
  .refine ⟨.slice (some ⟨b,0,none⟩) n cc,w,?_,.inr ⟨b,cc,cur,rfl,hg,oI,nG,mJ,?_,jE⟩,λx hx=>.inl hx,bd _,λ_ _ _=>rfl,rfl,rfl,rfl⟩
   .simp [Builtin.append_,run_underlying ht,sizeOf,typeInfo,hi,Builtin.lenOf,Builtin.firstCells,oI,storeCells]
   .intro i j hi hj;have lj:i<n:= aC ;simp only[lj,bD];exact kF i j lj hj
 .have JR:∀ j u,(mY m sz g)[j]? = some u->w.cell? (ad.add j)=some u:=by
   intro q u hq;obtain⟨q1,q2,rfl,q4⟩:=Fs hq;obtain⟨b,o,e,hc⟩:=hA _ _ q1 q2;cases e;rw[q4]at hc;rw[show(⟨b,o,none⟩:Addr).add q=⟨b,o+q,none⟩from Addr.add_lit _ _ _];exact hc
  rcases oe with⟨rfl,rfl⟩|⟨b,cc,cur,rfl,hg,oI,nG,mJ,kF,jE⟩
  .by_cases hm:m=0
   .subst hm;refine⟨.slice none 0 0,w,?_,.inl ⟨rfl,rfl⟩,λx hx=>.inl hx,bd _,λ_ _ _=>rfl,rfl,rfl,rfl⟩;simp[Builtin.append_,run_underlying ht,sizeOf,typeInfo,hi,Builtin.lenOf,Builtin.firstCells,loadCells,loadCellsFrom]
   .have hr:=run_append_nil (P:=P) w t ty e i z ht hi hz ad m c (mY m sz g) (by rw[tc,vN]) JR aC (by unfold maxLen at Jg;omega) (by have hb:=Pm;simp only[bW]at hb;omega);have qQ:=grownCap_ge w m 0 e;have nG:grownCap w m 0 e<=maxLen:=grownCap_le_maxLen w m 0 e aC;refine⟨_,_,hr,.inr ⟨w.heap.size,_,_,aH,heap_alloc_new w.drew _,aC,nG,?_,?_,?_⟩,λx hx=>.inr ?_,aH,λx hx _=>Below.heap_alloc w.drew _ x hx,rfl,rfl,rfl⟩
    .simp only[gR,fw,size_zeroCells,Qm,tc,<-bR];congr 1;omega
    .intro i j hi hj;have:=vH i j hi hj;refine⟨?_,yl i j hi hj⟩;simp only[mY,cH,List.range_zero,List.map_nil,List.nil_append]at this;rw[<-this,ahq]
     .simp [mY]
     .obtain ⟨q,_⟩:=b9.1 this;simpa[mY]using q
    .intro hn u hu;rcases eP.1 hu with hu|hu
     .exact gnl hn u (by simpa using hu)
     .simp only[Builtin.zeroCells,fz,fA]at hu;obtain⟨q,hq,rfl⟩:=hu;have iA:q%z.cells.size<z.cells.size:=bC _ aC;rw[eR z.cells _ iA];exact Ql hn _ (fS iA)
    .simp [Value.ownBlock]at hx;subst hx;simp
  .by_cases JU:n+m<=cc
   .have CY:(mY m sz g).length=m*i.size:=by rw[tc,vN]
    have pH:n*i.size+(mY m sz g).length<=cur.size:=by rw[CY,mJ,vN,<-bR];exact bI _ JU
    have hr:=run_append_room (P:=P) w t ty e i ht hi b n cc cur hg ad m c (mY m sz g) CY JR Zy JU pH;have Df:cur.toList.take (n*i.size)=mY n sz f:=by
     have uN:w.ownsRow 0 e sz (.slice (some ⟨b,0,none⟩) n cc) n (mY n sz f):=pg.row (nl:=nl) (.inr ⟨b,cc,cur,rfl,hg,oI,nG,mJ,kF,jE⟩);rcases uN.2 with⟨hh,_⟩|⟨b',c',cur',hh,_,Py,_,_,_,FZ⟩
     .cases hh
     .cases hh;rw[hg]at Py;cases Py;rw[vN];exact FZ
    refine⟨_,_,hr,.inr ⟨b,cc,_,rfl,setRow_heap w b cur _ e _ hg,JU,nG,?_,?_,?_⟩,λx hx=>.inl hx,aH,λx hx kG=>setRow_other w b x _ (λq=>kG (by simp[Value.ownBlock,q])),rfl,rfl,rfl⟩
    .simp only[fw,bX,cv,ev,dE];omega
    .intro k j hk hj;refine⟨?_,yl k j hk hj⟩;rw[Df,<-vH k j hk hj];have hq:k*sz+j<(mY n sz f++mY m sz g).length:=by
      obtain⟨q,_⟩:=b9.1 (vH k j hk hj);exact q
     rw[fT,dm hq]
    .intro hn u hu;simp only[fU,dH]at hu;rcases hu with(hu|hu)|hu
     .exact jE hn u (by have:=en hu;simpa using this)
     .exact gnl hn u hu
     .exact jE hn u (by have:=eI hu;simpa using this)
   .have uN:w.ownsRow 0 e sz (.slice (some ⟨b,0,none⟩) n cc) n (mY n sz f):=pg.row (nl:=nl) (.inr ⟨b,cc,cur,rfl,hg,oI,nG,mJ,kF,jE⟩);have holds:∀ j u,(mY n sz f)[j]? = some u->w.cell? ((⟨b,0,none⟩:Addr).add j)=some u:=uN.cells (g:=b) rfl;have hr:=run_append_grow (P:=P) w t ty e i z ht hi hz ⟨b,0,none⟩ n cc (mY n sz f) (by rw[tc,vN]) holds ad m c (mY m sz g) (by rw[tc,vN]) JR aC (by unfold maxLen at Jg;omega) (growslice_fits aC Pm);have qQ:=grownCap_ge w (n+m) cc e;have aad:grownCap w (n+m) cc e<=maxLen:=grownCap_le_maxLen w (n+m) cc e Jg;refine⟨_,_,hr,.inr ⟨w.heap.size,_,_,aH,heap_alloc_new w.drew _,aC,aad,?_,?_,?_⟩,λx hx=>.inr ?_,aH,λx hx _=>Below.heap_alloc w.drew _ x hx,rfl,rfl,rfl⟩
    .simp only[gR,fw,size_zeroCells,Qm,tc,<-bR];congr 1;omega
    .intro k j hk hj;refine⟨?_,yl k j hk hj⟩;rw[<-vH k j hk hj];have hq:k*sz+j<(mY n sz f++mY m sz g).length:=by
      obtain⟨q,_⟩:=b9.1 (vH k j hk hj);exact q
     rw[ahq (by simpa using hq)];simp
    .intro hn u hu;rcases eP.1 hu with hu|hu
     .rcases eP.1 hu with hu|hu
      .obtain ⟨q,hq⟩:=dv.1 (show u ∈ mY n sz f by simpa using hu);obtain⟨q1,q2,rfl,_⟩:=Fs hq;exact jE hn _ (dF (kF _ _ q1 q2).1)
      .exact gnl hn u (by simpa using hu)
     .simp only[Builtin.zeroCells,fz,fA]at hu;obtain⟨q,hq,rfl⟩:=hu;have iA:q%z.cells.size<z.cells.size:=bC _ aC;rw[eR z.cells _ iA];exact Ql hn _ (fS iA)
    .simp [Value.ownBlock]at hx;subst hx;simp
def mH.move{B:Nat->Prop}{L L':Lk}{w:World}(h:rp L w L' w){p:PV}{v:Value}(k:mH (ja B L) (jF L) L w p v)
 (hv:∀ id,id ∈ p.pz->L.na id->L'.na id/\L'.val id=L.val id/\∀ j,L'.iW id j=L.iW id j):mH (ja B L') (jF L') L' w p v:=by
 cases p with
 |e x=>exact h.ko k
 |box id off=>obtain⟨k1,b,k2,k3⟩:=k;have q:=hv id (by simp[PV.pz]) k1;exact⟨q.1,b,by rw[q.2.1];exact k2,k3⟩
 |own id=>obtain⟨k1,k2⟩:=k;have q:=hv id (by simp[PV.pz]) k1;exact⟨q.1,by rw[q.2.1];exact k2⟩
 |oL id sz i j=>obtain⟨k1,b,n,c,k2,k3⟩:=k;have q:=hv id (by simp[PV.pz]) k1;exact⟨q.1,b,n,c,by rw[q.2.1];exact k2,k3⟩
 |iW id r=>obtain⟨k1,k2⟩:=k;have q:=hv id (by simp[PV.pz]) k1;exact⟨q.1,by rw[q.2.2];exact k2⟩
 |sj f cap=>
  obtain⟨vs,k1,k2,k3⟩:=k;refine⟨vs,k1,k2,λi c x hc hx=>?_⟩;have q:=k3 i c x hc hx;cases c with
  |e y=>exact h.ko q
  |box id=>
   obtain⟨q1,b,q2,q3⟩:=q;have r:=hv id (by simp only[PV.pz,fo];exact⟨.box id,ep hc,by simp[CV.pz]⟩) q1;exact⟨r.1,b,by rw[r.2.1];exact q2,q3⟩
def agl{id:Nat}{b:Bx}{p:PV}(h:p.pz.any (Nat.beq id)=false):p.og (.qi id b)=p:=by
 cases p with
 |own i=>
  have:Nat.beq i id=false:=by
   simp only[PV.pz,gS,List.any_nil,fV]at h;exact dD λe=>by rw[e,dC]at h;cases h
  simp[PV.og,this]
 |oL i s x j=>
  have:Nat.beq i id=false:=by
   simp only[PV.pz,gS,List.any_nil,fV]at h;exact dD λe=>by rw[e,dC]at h;cases h
  simp[PV.og,this]
 |_=>rfl
def iZ.fin{w0:World}{B:Nat->Prop}{σ:PS}{a:Act}{w:World}{L:Lk}{id:Nat}{nl:Bool}{T n sz:Nat}{el:Nat->Nat->E}(hB:∀ b,B b->b<w0.heap.size)
 (r:iZ w0 B (σ.pG (.qi id (.row nl T n sz el))) a w L):∃ L',iZ w0 B (σ.pG (.fin id)) a w L'/\iB (ja B L') (jF L') w (.sl nl n sz el) (L.val id):=by
 let L':Lk:=⟨λi=>L.na i/\i≠id,λi x=>L.own i x/\i≠id,L.val,L.iW⟩
 have iA:rp L w L' w:=⟨bd _,λx _ ⟨i,h,_⟩=>⟨i,h⟩,λ_ _ _=>rfl⟩
 have uz:∀ i,(σ.pG (.fin id)).bo i=if i=id then none else(σ.pG (.qi id (.row nl T n sz el))).bo i:=by
  intro i;show look (σ.b.filter λx=>!Nat.beq x.1 id) i=if i=id then none else look (B7 σ.b id (.row nl T n sz el)) i
  rw[Kr,Gf];by_cases h:i=id
  .subst h;simp
  .rw [aY h,aY (λe=>h e.symm),aY (λe=>h e.symm)]
 have aaa:(σ.pG (.qi id (.row nl T n sz el))).bo id=some (.row nl T n sz el):=by
  show look (B7 σ.b id (.row nl T n sz el)) id=_;rw[Gf,aZ rfl]
 have xZ:∀ x,L.own id x->¬ja B L' x:=by
  rintro x hx (h|⟨i,h1,h2⟩)
  .have:=hB x h;have:=(r.hw id x hx).1;omega
  .exact h2 (r.hi i id x h1 hx)
 have hold:iB (ja B L') (jF L') w (.sl nl n sz el) (L.val id):=by
  obtain⟨f,h1,h2,h3⟩:=r.hb id _ aaa;rcases h1 with⟨h0,rfl⟩|⟨b,c,cur,h0,hg,oI,nG,mJ,kF,jE⟩
  .rw [h0];exact .sl nl 0 sz el none 0 f (bd _) aE (λ_=>rfl) (λi j hi=>absurd hi (bE i)) (λi j hi=>absurd hi (bE i)) (λi j hi=>absurd hi (bE i)) (λi j hi=>absurd hi (bE i))
  .have qj:=(h2 b).2 (by rw[h0];rfl);rw[h0];refine .sl nl n sz el _ c f oI (by unfold maxLen at nG;omega) (λh=>by cases h) (λi j hi hj=>⟨(kF i j hi hj).2,λhn=>jE hn _ (dF (kF i j hi hj).1)⟩) (λi j hi hj=>(h3 i j hi hj).2)
    (λi j hi hj=>⟨b,0,rfl,xZ b qj,(r.hw id b qj).2,?_⟩) (λi j hi hj=>iA.ko (h3 i j hi hj).1)
   rw[bW];simp only[World.cell?,hg];simpa using(kF i j hi hj).1
 refine⟨L',⟨r.hd,r.hs,λt=>?_,λi b' h=>?_,λi=>?_,λi x h=>⟨r.hn i x h.1,h.2⟩,λi x h=>r.hw i x h.1,λi i' x h k=>r.hi i i' x h.1 k.1,r.he,λh i b' k=>?_⟩,hold⟩
 .have k:=r.ht t;rw[PS.Fx]at k ⊢;generalize σ.get t=p at k ⊢;show mH _ _ _ _ (if p.pz.any (Nat.beq id)then .e .any else p) _;cases hp:p.pz.any (Nat.beq id)with
  |true=>exact .any _
  |false=>
   rw[agl hp]at k;refine mH.move iA k λi hi tn=>⟨⟨tn,?_⟩,rfl,λ_=>rfl⟩
   rintro rfl;have:=dp.1 hp i hi;simp at this
 .rw [uz]at h;split at h
  .cases h
  .rename_i hi;exact(r.hb i b' h).later iA rfl (λx=>⟨λq=>q.1,λq=>⟨q,hi⟩⟩) (λ_=>rfl) λ_ _=>rfl
 .rw [uz];show L.na i/\i≠id↔_;by_cases hi:i=id
  .subst hi;simp
  .simp only[hi,cP,ew,and_true,bq];exact r.hv i
 .rw [uz]at k;split at k
  .cases k
  .exact r.hl h i b' k
def TO{T:List TI}{t:TypeId}{x:TI}(h:lv T t=some x):x ∈ T/\x.id=t:=by
 induction T with
 |nil=>cases h
 |cons y l ih=>
  unfold lv at h;split at h
  .rename_i hb;cases h;exact⟨aH,lQ.1 hb⟩
  .obtain ⟨h1,h2⟩:=ih h;exact⟨by simp[h1],h2⟩
def lE.pC{P:Program}{T:List TI}(hT:lE P T){t:TypeId}{x:TI}(h:lv T t=some x):P.underlying t=some x.d:=by
 obtain⟨h1,h2⟩:=TO h;rw[<-h2];exact(hT x h1).1
def lE.yx{P:Program}{T:List TI}(hT:lE P T){t:TypeId}{x:TI}(h:lv T t=some x):P.info? t=some x.i:=by
 obtain⟨h1,h2⟩:=TO h;rw[<-h2];exact(hT x h1).2
def xO{T:List TI}{t:TypeId}{d:TypeDesc}(h:uk T t=some d):∃ x,lv T t=some x/\x.d=d:=by
 unfold uk at h;split at h
 .rename_i x hx;exact⟨x,hx,by simpa using h⟩
 .cases h
section
variable {P:Program} {T:List TI} (hT:lE P T) (w:World)
include hT
def uY{t:TypeId}{x:TI}(h:lv T t=some x):(sizeOf t).run P w = .ok x.i.size w:=by
 simp[sizeOf,typeInfo,hT.yx h]
def Lu{t:TypeId}{x:TI}(h:lv T t=some x){z:Value}(hz:x.i.zero=some z):(zeroValue t).run P w = .ok z w:=by
 simp[zeroValue,typeInfo,hT.yx h,hz]
def GP{t:TypeId}{x:TI}(h:lv T t=some x):(isAgg t).run P w = .ok x.isAgg w:=by
 unfold isAgg TI.isAgg;rw[Sem.run_bind,run_underlying (hT.pC h) w];cases x.d<;>simp
def SK{t:TypeId}{x:TI}(h:lv T t=some x)(ha:x.isAgg=true)(b o:Nat)(vs:List Value)(hl:vs.length=x.i.size)
 (hc:∀ (j:Nat) (u:Value),vs[j]? = some u->w.cell? ⟨b,o+j,none⟩=some u):(loadVar t ⟨b,o,none⟩).run P w = .ok (.agg vs.toArray) w:=by
 have hr:=run_loadCells_list (P:=P) w ⟨b,o,none⟩ vs (λj v hv=>by rw[Addr.add_lit];exact hc j v hv);rw[hl]at hr;simp[loadVar,GP hT w h,ha,uY hT w h,hr]
def Lt{t:TypeId}{x:TI}(h:lv T t=some x)(ha:x.isAgg=false)(b o:Nat)(u:Value)(hc:w.cell? ⟨b,o,none⟩=some u):(loadVar t ⟨b,o,none⟩).run P w = .ok u w:=by
 simp[loadVar,GP hT w h,ha,hc]
def GQ{t:TypeId}{x:TI}(h:lv T t=some x)(b o:Nat)(E:TypeId)(cur:Array Value)(hg:w.heap[b]? = some (.cells cur E (0,0)))(v:Value)(hl:v.cells.toList.length=x.i.size)
 (pH:o+v.cells.toList.length<=cur.size) (h1:∀ u ∈ v.cells.toList,u.oneCell'=true):
 (storeVar t ⟨b,o,none⟩ v).run P w = .ok () (w.setRow b (cur.toList.take o++v.cells.toList++cur.toList.drop (o+v.cells.toList.length)).toArray):=by
 have hr:=run_storeCells_at P b o E v.cells.toList 0 cur w hg (by simpa using pH) h1;simp only[bL]at hr;have pJ:v.cells.size=x.i.size:=by simpa using hl
 simp only[storeVar,Sem.run_bind,uY hT w h,Result.andThen,pJ,cP,gT,bq,hr,Sem.run_ite,Sem.run_pure]
end
def qw.setRow{L:Lk}{w:World}{id b:Nat}(hb:L.own id b)(iA:∀ x,L.own id x->x<w.heap.size)(cs:Array Value):qw L w id (L.own id) (w.setRow b cs):=
 ⟨λx hx=>⟨.inl hx,by simpa using iA x hx⟩,aH,λx _ kG=>setRow_other w b x cs (λe=>kG (e▸hb)),rfl,rfl,rfl⟩
def jH(P:Program)(K:World->Prop)(w0:World)(B:Nat->Prop)(σ:PS)(o:Oper)(a:Act)(w:World)(u:jV):Prop:=
 ∃ v w' L',((execOp a.eval o).run P w = .ok (.value v) w'\/((execOp a.eval o).run P w = .ok .skip w'/\v=undef))/\iZ w0 B (σ.pG u.f) a w' L'/\mH (ja B L') (jF L') L' w' u.r v
section
variable {P:Program} {K:World->Prop} {w0:World} {B:Nat->Prop} {σ:PS} {o:Oper} {a:Act} {w:World} {L:Lk} {u:jV}
def jH.pure(r:iZ w0 B σ a w L){v:Value}(kP:(execOp a.eval o).run P w = .ok (.value v) w)(hf:u.f = .none)(hp:mH (ja B L) (jF L) L w u.r v):jH P K w0 B σ o a w u:=
 ⟨v,w,L,.inl kP,by rw[hf];exact r,hp⟩
def iZ.read(r:iZ w0 B σ a w L){p:PV}{v:Value}(hp:mH (ja B L) (jF L) L w p v){m:Nat}{l:List E}{is:List Nat}{jo:List Prop}(h:σ.read p m=some (l,is,jo))(ho:∀ q,q ∈ jo->q):
 ∃ b q vs,v = .pointer (some ⟨b,q,none⟩)/\jJ (ja B L) (jF L) w l vs/\vs.length=m/\∀ (j:Nat) (u:Value),vs[j]? = some u->w.cell? ⟨b,q+j,none⟩=some u:=by
 have tab:∀ (b q:Nat) (g:Nat->E) (f:Nat->Value),(∀ j,j<m->w.cell? ⟨b,q+j,none⟩=some (f j)/\iB (ja B L) (jF L) w (g j) (f j)) ->
  ∃ vs:List Value,jJ (ja B L) (jF L) w ((List.range m).map g) vs/\vs.length=m/\∀ (j:Nat) (u:Value),vs[j]? = some u->w.cell? ⟨b,q+j,none⟩=some u:=by
  intro b q g f hc;refine⟨(List.range m).map f,⟨aH,λi p x hp hx=>?_⟩,aH,λj u hu=>?_⟩
  .rw [cD]at hp hx;obtain⟨i1,wU,rfl⟩:=cJ.1 hp;obtain⟨i2,oo,rfl⟩:=cJ.1 hx;rw[wU]at oo;cases oo;obtain⟨iA,rfl⟩:=b9.1 wU;simp at iA;simpa using(hc i iA).2
  .rw [cD]at hu;obtain⟨i1,wU,rfl⟩:=cJ.1 hu;obtain⟨iA,rfl⟩:=b9.1 wU;simp at iA;simpa using(hc j iA).1
 cases p with
 |box id off=>
  simp only[PS.read]at h;split at h
  .rename_i T l0 jO;split at h
   .rename_i hle;simp only[bK,ca]at h;obtain⟨rfl,rfl,rfl⟩:=h;obtain⟨b,vs,h1,h2,h3,h4,h5⟩:=r.hb id _ jO;obtain⟨_,b',k2,rfl⟩:=hp;rw[h1]at k2;cases k2;have PK:=cK hle;refine⟨b,off,(vs.drop off).take m,rfl,(h4.drop off).take m,by simp[h4.len];omega,λj u hu=>?_⟩;rw[dX]at hu;split at hu
    .rw [er]at hu;simp only[World.cell?,h3];simpa using hu
    .cases hu
   .cases h
  .cases h
 |oL id sz i j=>
  simp only[PS.read]at h;split at h
  .rename_i nl T n s el jO;split at h
   .rename_i hle;simp only[bK,ca]at h;obtain⟨rfl,rfl,rfl⟩:=h;simp only[bS]at hle;have e1:=lQ.1 hle.1;have e2:=cK hle.2;subst e1;have hi:i<n:=ho _ aH;obtain⟨f,h1,h2,h3⟩:=r.hb id _ jO;obtain⟨_,b,n',c',k2,rfl⟩:=hp;rcases h1 with⟨h1,_⟩|⟨b',c,cur,h1,hg,oI,nG,mJ,kF,jE⟩
    .rw [k2]at h1;cases h1
    .rw [k2]at h1;cases h1;obtain⟨vs,q1,q2,q3⟩:=tab b (i*s+j) (λq=>el i (j+q)) (λq=>f i (j+q)) (λq hq=>⟨by
      simp only[World.cell?,hg];have:=(kF i (j+q) hi aC).1;rw[<-dj]at this;simpa using this,(h3 i (j+q) hi aC).1⟩)
     exact⟨b,i*s+j,vs,rfl,q1,q2,q3⟩
   .cases h
  .cases h
 |e x=>
  cases x with
  |jG k el=>
   simp only[PS.read]at h;split at h
   .rename_i hle;simp only[bK,ca]at h;obtain⟨rfl,rfl,rfl⟩:=h;have PK:=cK hle;cases hp with
    |jG _ _ b q f hb iA hl cell kk=>
     obtain⟨vs,q1,q2,q3⟩:=tab b q el f (λj hj=>⟨cell j aC,kk j aC⟩);exact⟨b,q,vs,rfl,q1,q2,q3⟩
   .cases h
  |_=>cases h
 |_=>cases h
def Ez{ti:TI}{l:List E}(h:xA ti=some l):∃ z,ti.i.zero=some z/\∀ (bs br:Nat->Prop) (w:World),jJ bs br w l z.cells.toList/\∀ u ∈ z.cells.toList,u.oneCell'=true:=by
 unfold xA at h;split at h
 .rename_i z hz;exact⟨z,hz,λbs br w=>(iB.v (bs:=bs) (br:=br) (w:=w) z).cells h⟩
 .cases h
def iZ.RB(r:iZ w0 B σ a w L)(id:Nat)(T:TypeId)(l:List E)(v:Value)(lM:σ.bo id=none)(hv:jJ (ja B L) (jF L) w l v.cells.toList)(h1:∀ u ∈ v.cells.toList,u.oneCell'=true)
 (jE:(!σ.nl||l.all E.mv)=true):
 ∃ L',iZ w0 B (σ.pG (.new id (.cells T l))) a (w.alloc (.cells v.cells T)) L'/\mH (ja B L') (jF L') L' (w.alloc (.cells v.cells T)) (.box id 0) (.pointer (some ⟨w.heap.size,0,none⟩)):=by
 have hb:Below w.heap.size w (w.alloc (.cells v.cells T)):=(Below.refl _ _).alloc (bd _) _;have Pr:∀ x,¬L.own id x:=λx hx=>by have:=(r.hv id).1 (r.hn id x hx);rw[lM]at this;simp at this
 have ht:qw L w id (λx=>x=w.heap.size) (w.alloc (.cells v.cells T)):=⟨λx hx=>⟨.inr aC,aN⟩,hb.size,λx hx _=>hb.block x hx,rfl,rfl,rfl⟩
 have hl:=ht.later (.pointer (some ⟨w.heap.size,0,none⟩)) (λ_=>undef);refine⟨_,r.new id (.cells T l) (λx=>x=w.heap.size) (.pointer (some ⟨w.heap.size,0,none⟩)) (λ_=>undef) _ lM (λx hx=>by subst hx;simp) hb
  ⟨w.heap.size,v.cells.toList,Lk.nW,λx=>Lk.qW x,by rw[Array.toArray_toList];exact heap_alloc_new w _,hv.mono λ_ _=>hl.ko,h1⟩ jE,Lk.yS,w.heap.size,Lk.nW,rfl⟩
def Aj{d:Option Tmp}{b:Bx}{rr:Nat->PV}{jo:List Prop}(h:uU σ d b rr jo=some u):∃ id,d=some id/\σ.bo id=none/\(!σ.nl||b.nl)=true/\u={ r:=rr id,f:=.new id b,jo:=jo }:=by
 unfold uU at h;split at h
 .rename_i id;split at h
  .rename_i lM;split at h
   .rename_i hc;cases h;exact⟨id,rfl,lM,hc,rfl⟩
   .cases h
  .cases h
 .cases h
end
def Ev{k:IntKind}{z:Int}(h:jY k z):k.wrap z=z:=by
 cases k<;>simp only[jY]at h<;>simp only[IntKind.wrap,IntKind.bits,IntKind.signed]<;>simp<;>(try split)<;>omega
def aeb{k:IntKind}{x y:Int}(h:jY k x)(hy:0<y):jY k (x.tdiv y):=by
 by_cases h0:0<=x
 .have h1:0<=x/y:=Int.ediv_nonneg h0 aC ;have h2:x/y<=x:=Int.ediv_le_self y h0;rw[ahr h0];cases k<;>simp only[jY]at h ⊢ <;> omega
 .obtain ⟨z,rfl⟩:∃ z,x = -z:=⟨-x,aC⟩
  have h0:0<=z:= aC ;have h1:0<=z/y:=Int.ediv_nonneg h0 aC;have h2:z/y<=z:=Int.ediv_le_self y h0;rw[Int.neg_tdiv,ahr h0];cases k<;>simp only[jY]at h ⊢ <;> omega
def XI{P:Program}{op:BinOp}{k k':IntKind}{x y:Int}{v:Value}{jo:List Prop}(h:IU op k x y=some (v,jo))(ho:∀ q,q ∈ jo->q)
 (hk:SM op k k'=true) (t:TypeId) (w:World):(binOp op t (.int k x) (.int k' y)).run P w = .ok v w:=by
 cases op<;>simp only[IU,bK,ca,reduceCtorEq]at h<;>(obtain⟨rfl,rfl⟩:=h)<;>(try (have PF:=cQ hk;subst PF))
 case add=>
  rw[binOp_add];by_cases Fy:k = .u32
  .subst Fy;simp[Op.intArith,H9]
  .have e:H9 k x y=x+y:=by cases k<;>first|rfl|exact absurd rfl Fy
   have e2:nn k x y=[jY k (x+y)]:=by cases k<;>first|rfl|exact absurd rfl Fy
   rw[e];simp[Op.intArith,Ev (ho (jY k (x+y)) (by rw[e2];simp))]
 case sub=>rw[binOp_sub];simp[Op.intArith,Ev (ho (jY k (x-y)) aH)]
 case mul=>rw[binOp_mul];simp[Op.intArith,Ev (ho (jY k (x*y)) aH)]
 case quo=>
  have h1:=ho (0<y) aH;have h2:=ho (jY k x) aH;rw[binOp_quo];have hy:¬y=0:= aC ;simp[Op.intDiv,hy,Ev (aeb h2 h1)]
 case rem=>
  have h1:=ho (0<y) aH;rw[binOp_rem];have hy:¬y=0:= aC ;simp[Op.intDiv,hy]
 case and=>rw[binOp_and,intBits_and];rfl
 case or=>rw[binOp_or,intBits_or];rfl
 case shl=>
  have h1:=ho (0<=y/\y<=k.bits) aH;rw[binOp_shl,shift_shl k k' x y h1.1 h1.2];rfl
 case shr=>
  have h1:=ho (0<=y/\y<=k.bits) aH;rw[binOp_shr,shift_shr k k' x y h1.1 h1.2];rfl
 case eql=>rw[binOp_eql];rfl
 case neq=>rw[binOp_neq];rfl
 case lss=>rw[binOp_lss];rfl
 case leq=>rw[binOp_leq];rfl
 case gtr=>rw[binOp_gtr];rfl
 case geq=>rw[binOp_geq];rfl
section
variable {P:Program} {K:World->Prop} {T:List TI} {O:oR} {w0:World} {B:Nat->Prop} {σ:PS} {o:Oper} {a:Act} {w:World} {L:Lk} {u:jV}
def Zj{x:Operand}(il:o.op = .move x)(r:iZ w0 B σ a w L)(h:jb P K T O σ o=some u):jH P K w0 B σ o a w u:=by
 simp only[jb,il]at h;cases h;exact jH.pure r (by simp only[execOp,il];rfl) rfl (r.op x)
def Y0{x:Operand}(il:o.op = .assign x)(r:iZ w0 B σ a w L)(h:jb P K T O σ o=some u):jH P K w0 B σ o a w u:=by
 simp only[jb,il]at h;cases h;exact jH.pure r (by simp only[execOp,il];rfl) rfl (r.op x)
def Zl{c x y:Operand}(il:o.op = .pick c x y)(r:iZ w0 B σ a w L)(h:jb P K T O σ o=some u):jH P K w0 B σ o a w u:=by
 simp only[jb,il]at h;have hc:=r.op c;split at h
 .rename_i hv;rw[hv]at hc;have hc:=iB.jX hc;cases h;exact jH.pure r (by simp[execOp,il,hc,asBool]) rfl (r.op x)
 .rename_i hv;rw[hv]at hc;have hc:=iB.jX hc;cases h;exact jH.pure r (by simp[execOp,il,hc,asBool]) rfl (r.op y)
 .cases h
def Zk{x:Operand}(il:o.op = .nilCheck x)(r:iZ w0 B σ a w L)(h:jb P K T O σ o=some u):jH P K w0 B σ o a w u:=by
 simp only[jb,il]at h;have hc:=r.op x;split at h
 .rename_i hv;rw[hv]at hc;cases h;obtain⟨k1,b,k2,k3⟩:=hc;exact jH.pure r (v:=a.eval x) (by simp[execOp,il,k3]) rfl ⟨k1,b,k2,k3⟩
 .rename_i hv;rw[hv]at hc;cases h;generalize hq:a.eval x=q at hc;refine jH.pure r (v:=q) ?_ rfl hc;cases hc;simp only[execOp,il,hq];rfl
 .rename_i hv;rw[hv]at hc;cases h;refine jH.pure r (v:=a.eval x) ?_ rfl hc;obtain⟨vs,e,_⟩:=iB.Ot hc;simp only[execOp,il,e];rfl
 .rename_i hv;rw[hv]at hc;cases h;refine jH.pure r (v:=a.eval x) ?_ rfl hc;obtain⟨vs,e,_⟩:=hc;simp only[execOp,il,e];rfl
 .cases h
def Y1(hT:lE P T){op:BinOp}{t yt:TypeId}{x y:Operand}(il:o.op = .binOp op t x y yt)(r:iZ w0 B σ a w L)(h:jb P K T O σ o=some u)(ho:∀ q,q ∈ u.jo->q):jH P K w0 B σ o a w u:=by
 simp only[jb,il]at h;have hx:=r.op x;have hy:=r.op y;split at h
 .rename_i k z k' z' vO zW;rw[vO]at hx;rw[zW]at hy;have hx:=iB.jX hx;have hy:=iB.jX hy;split at h
  .rename_i hk;obtain⟨rr,hr,rfl⟩:=cJ.1 h;have kP:=XI (P:=P) (k':=k') hr ho hk t w;refine jH.pure r (v:=rr.1) ?_ rfl (.v _);simp only[execOp,il,hx,hy,Sem.run_bind,eqGuard_at_int,Sem.run_pure,Result.andThen_ok,kP]
  .cases h
 .rename_i z z' vO zW;rw[vO]at hx;rw[zW]at hy;have hx:=iB.jX hx;have hy:=iB.jX hy;split at h
  .rename_i hd;obtain⟨ti,h1,h2⟩:=xO hd;have hu:P.underlying t=some .bool:=by rw[hT.pC h1,h2]
   split at h
   .cases h;refine jH.pure r (v:=.bool (z==z')) ?_ rfl (.v _);simp only[execOp,il,hx,hy,Sem.run_bind,eqGuard_at_bool,Sem.run_pure,Result.andThen_ok,run_eql_bool w t z z' hu]
   .cases h;refine jH.pure r (v:=.bool (!(z==z'))) ?_ rfl (.v _);simp only[execOp,il,hx,hy,Sem.run_bind,eqGuard_at_bool,Sem.run_pure,Result.andThen_ok];have:(binOp .neq t (.bool z) (.bool z')).run P w = .ok (.bool (!(z==z'))) w:=by
     simp only[binOp,Sem.run_bind,run_equal_bool w t z z' hu,Result.andThen_ok,Sem.run_pure]
    rw[this];rfl
   .cases h
  .cases h
 .rename_i nl n sz el vO zW;rw[vO]at hx;rw[zW]at hy;have hy:=iB.jX hy;have hx:iB (ja B L) (jF L) w (.sl nl n sz el) (a.eval x):=hx;split at h
  .rename_i e hd;obtain⟨ti,h1,h2⟩:=xO hd;have hu:P.underlying t=some (.slice e):=by rw[hT.pC h1,h2]
   have key:∀ A c,0<n->a.eval x = .slice A n c->iB (ja B L) (jF L) w (.sl nl n sz el) (.slice A n c)->A.isNone=false:=by
    intro A c hn e1 hr;cases A with
    |some ad=>rfl
    |none=>
     cases hr with
     |sl _ _ _ _ _ _ f hc hm h0=>have:=h0 rfl;omega
   generalize hv:a.eval x=vx at hx;cases hx with
   |sl _ _ _ _ A c f hc hm h0 hl hr cell k=>
    have uM:iB (ja B L) (jF L) w (.sl nl n sz el) (.slice A n c):=.sl nl n sz el A c f hc hm h0 hl hr cell k;split at h
    .cases h;have hn:0<n:=ho _ aH;refine jH.pure r (v:=.bool false) ?_ rfl (.v _);simp only[execOp,il,hv,hy,Sem.run_bind,eqGuard_at_slice,Sem.run_pure,Result.andThen_ok,Lib.run_eql_slice_nil w t e A n c 0 0 hu,key A c hn hv uM]
    .cases h;have hn:0<n:=ho _ aH;refine jH.pure r (v:=.bool true) ?_ rfl (.v _);simp only[execOp,il,hv,hy,Sem.run_bind,eqGuard_at_slice,Sem.run_pure,Result.andThen_ok,run_neq_slice_nil_any w t e A n c 0 0 hu,key A c hn hv uM,eu]
    .cases h
  .cases h
 .rename_i xe ye vO zW;rw[vO]at hx;rw[zW]at hy;split at h
  .rename_i v hv;cases h;obtain⟨h1,h2⟩:=ho _ (List.mem_singleton.2 rfl) _ _ w _ _ x y hx hy;refine jH.pure r (v:=v) ?_ rfl (.v _);simp only[execOp,il,Sem.run_bind,h1,Result.andThen_ok,h2,Sem.run_pure]
  .cases h
 .cases h
def Zo{op:UnOp}{t:TypeId}{x:Operand}(il:o.op = .unOp op t x)(r:iZ w0 B σ a w L)(h:jb P K T O σ o=some u)(ho:∀ q,q ∈ u.jo->q):jH P K w0 B σ o a w u:=by
 simp only[jb,il]at h;have hx:=r.op x;split at h
 .rename_i z hv;rw[hv]at hx;have hx:=iB.jX hx;cases h;exact jH.pure r (v:=.bool (!z)) (by simp[execOp,il,hx,Op.unary]) rfl (.v _)
 .rename_i k z hv;rw[hv]at hx;have hx:=iB.jX hx;cases h;have:=Ev (ho (jY k (0-z)) aH);refine jH.pure r (v:=.int k (0-z)) ?_ rfl (.v _);simp only[execOp,il,hx,Op.unary,Op.intArith,this];rfl
 .cases h
def Y5(hT:lE P T){src dst:TypeId}{x:Operand}(il:o.op = .convert src dst x)(r:iZ w0 B σ a w L)(h:jb P K T O σ o=some u):jH P K w0 B σ o a w u:=by
 simp only[jb,il]at h;have hx:=r.op x;split at h
 .rename_i k ts k' z hd hs hv;rw[hv]at hx;have hx:=iB.jX hx;obtain⟨td,h1,h2⟩:=xO hd;have hu:P.underlying dst=some (.int k):=by rw[hT.pC h1,h2]
  have hk:P.intKind dst=k:=by simp[Program.intKind,hu]
  have kP:=run_convert_int (P:=P) w src dst k' z (by rw[hT.pC hs];rfl) (by rw[hk];exact hu);rw[hk]at kP;cases h;exact jH.pure r (v:=.int k (k.wrap z)) (by simp only[execOp,il,hx,Sem.run_bind,kP];rfl) rfl (.v _)
 .cases h
def Y6{x:Operand}{i:Nat}(il:o.op = .extract x i)(r:iZ w0 B σ a w L)(h:jb P K T O σ o=some u):jH P K w0 B σ o a w u:=by
 simp only[jb,il]at h;have hx:=r.op x;split at h
 .rename_i l hv;rw[hv]at hx;obtain⟨vs,e,hr⟩:=iB.TN hx;split at h
  .rename_i y hy;cases h;have iA:i<vs.length:=by rw[hr.len];exact(b9.1 hy).1
   have Bz:=bt iA;refine jH.pure r (v:=vs[i]) ?_ rfl (hr.ko i y _ hy Bz);simp only[execOp,il,e,Instr.extract,fT,Bz];rfl
  .cases h
 .cases h
def Rb{bs:Nat->Prop}{z:Int}{e:E}:∀ {l:List (Int×FuncId×List FuncId)} {es:List MapEntry} (i:Nat),y7 bs w l es->vW l z=some e->(∀ b,jF L b->bs b) ->
 ∃ j v,Instr.findNow (.int .i64) (.int .i64 z) es i=some (some (j,v))/\iB bs (jF L) w e v
 | [],_,_,_,h,_=>by cases h
 |_::_,[],_,k,_,_=>k.elim
 |x::l,y::es,i,⟨⟨k1,vs,k2,k3,k4⟩,k⟩,h,hm=>by
  unfold vW at h;have e0:Instr.sameNow (.int .i64) (.int .i64 z) y.key=some (z==x.1):=by rw[k1];rfl
  by_cases hz:x.1=z
  .rw [aZ hz]at h;cases h;have e1:(z==x.1)=true:=by simp[hz]
   refine⟨i,y.val,?_,?_⟩
   .rw [Instr.findNow,e0,e1]
   .rw [k2];refine .fn _ _ vs (by simpa using k3) λj p v hp hv=>?_
    rw[cD]at hp;obtain⟨g,hg,rfl⟩:=cJ.1 hp;obtain⟨b,rfl,q2,q3,q4⟩:=k4 j g v hg hv;have hc:∀ q,q<1->w.cell? ⟨b,0+q,none⟩=some (.func (.func g) #[] #[]):=λq hq=>by
     obtain rfl:q=0:= aC ;exact q4
    exact .jG 1 _ b 0 (λ_=>.func (.func g) #[] #[]) (λh=>q2 (hm b h)) q3 (λ_ _=>rfl) hc λ_ _=>.fn g [] [] rfl (λi p x h=>by simp at h)
  .rw [aY hz]at h;have e1:(z==x.1)=false:=by simp;exact λe=>hz e.symm
   obtain⟨j,v,q1,q2⟩:=Rb (i+1) k h hm;exact⟨j,v,by rw[Instr.findNow,e0,e1];exact q1,q2⟩
def Ws{k:TypeId}(hk:P.underlying k=some (.int .i64))(e:Bool)(n:Nat)(z:Int):(Instr.checkKey e (n+1) k (.int .i64 z)).run P w = .ok () w:=by
 unfold Instr.checkKey;simp only[Sem.run_bind,run_underlying hk,Result.andThen];rfl
def Zd(hT:lE P T){t:TypeId}{x i:Operand}{ok:Bool}(il:o.op = .lookup t x i ok)(r:iZ w0 B σ a w L)(h:jb P K T O σ o=some u)(ho:∀ q,q ∈ u.jo->q):jH P K w0 B σ o a w u:=by
 cases ok with
 |true=>simp[jb,il]at h
 |false=>
 simp only[jb,il]at h;have hx:=r.op x;have hi:=r.op i;split at h
 .rename_i l z k e0 hv hw hd;obtain⟨ti,h1,h2⟩:=xO hd;have hu:P.underlying t=some (.map k e0):=by rw[hT.pC h1,h2]
  rw[hv]at hx;rw[hw]at hi;have hi:=iB.jX hi;split at h
  .rename_i e yd hg;obtain⟨tk,h3,h4⟩:=xO yd;have hk:P.underlying k=some (.int .i64):=by rw[hT.pC h3,h4]
   cases h;have JF:vW l z=some e:=ho _ aH;generalize hq:a.eval x=q at hx;cases hx with
   |mp _ b clk es hb iA hh j8=>
    obtain⟨j,v,q1,q2⟩:=Rb (w:=w) (L:=L) 0 j8 JF λb h=>.inr h
    refine jH.pure r (v:=v) ?_ rfl q2;have JG:(getObj b).run P w = .ok (.map es clk) w:=by simp[getObj,Sem.run,hh]
    have hck:=Ws (P:=P) (w:=w) hk es.isEmpty 9999 z;have hfk:(Instr.findKey k (.int .i64 z) es.toList).run P w = .ok (some (j,v)) w:=by unfold Instr.findKey;simp[run_underlying hk,Result.andThen,q1]
    have hl:(Instr.lookup t (.map (some b)) (.int .i64 z) false).run P w = .ok v w:=by
     unfold Instr.lookup;simp[run_underlying hu,JG,hck,hfk,Result.andThen]
    simp only[execOp,il,hq,hi,Sem.run_bind,hl,Result.andThen_ok,Sem.run_pure]
  .cases h
 .cases h
def Y7(hT:lE P T){t:TypeId}{x:Operand}{f:Nat}(il:o.op = .field t x f)(r:iZ w0 B σ a w L)(h:jb P K T O σ o=some u):jH P K w0 B σ o a w u:=by
 simp only[jb,il]at h;have hx:=r.op x;split at h
 .rename_i l fs hv hd;obtain⟨ti,h1,h2⟩:=xO hd;have hu:P.underlying t=some (.struct fs):=by rw[hT.pC h1,h2]
  rw[hv]at hx;obtain⟨vs,e,hr⟩:=iB.AR hx;split at h
  .rename_i fd JD;split at h
   .rename_i ft JE;split at h
    .cases h
    .rename_i ZY;split at h
     .rename_i y hy;cases h;have iA:fd.offset<vs.length:=by rw[hr.len];exact(b9.1 hy).1
      have Bz:=bt iA;refine jH.pure r (v:=vs[fd.offset]) ?_ rfl (hr.ko fd.offset y _ hy Bz);simp only[execOp,il,e,Instr.field,asAgg,Sem.run_bind,Sem.run_pure,Result.andThen_ok,run_underlying hu,JD,part,GP hT w JE,ZY,fT,Bz];rfl
     .cases h
   .cases h
  .cases h
 .cases h
def Wl{ps:List PV}{l:List CV}{vs:List Value}(h:wJ ps=some l)(hlen:vs.length=ps.length)(hr:∀ (i:Nat) (p:PV) (x:Value),ps[i]? = some p->vs[i]? = some x->mH (ja B L) (jF L) L w p x):
 vs.length=l.length/\∀ (i:Nat) (c:CV) (x:Value),l[i]? = some c->vs[i]? = some x->wA (ja B L) (jF L) L w c x:=by
 induction ps generalizing l vs with
 |nil=>cases h;exact⟨hlen,λi c x hc=>by simp at hc⟩
 |cons p ps ih=>
  cases vs with
  |nil=>simp at hlen
  |cons y vs=>
   have step:∀ (c0:CV) (l':List CV),wJ ps=some l'->wA (ja B L) (jF L) L w c0 y->l=c0::l' ->
    (y::vs).length=l.length/\∀ (i:Nat) (c:CV) (x:Value),l[i]? = some c->(y::vs)[i]? = some x->wA (ja B L) (jF L) L w c x:=by
    intro c0 l' pJ qA hl;obtain⟨i1,i2⟩:=ih pJ (by simpa using hlen) (λi p x hp hx=>hr (i+1) p x (by simpa using hp) (by simpa using hx));subst hl;refine⟨by simp[i1],λi c x hc hx=>?_⟩;cases i with
    |zero=>simp at hc hx;subst hc hx;exact qA
    |succ i=>simp at hc hx;exact i2 i c x hc hx
   have h0:=hr 0 p y rfl rfl;cases p with
   |e x=>
    simp only[wJ]at h;obtain⟨l',pJ,rfl⟩:=cJ.1 h;exact step (.e x) l' pJ h0 rfl
   |box id off=>
    cases off with
    |zero=>
     simp only[wJ]at h;obtain⟨l',pJ,rfl⟩:=cJ.1 h;exact step (.box id) l' pJ h0 rfl
    |succ=>simp[wJ]at h
   |_=>simp[wJ]at h
def Ze{fn:Fn}{first cap:Array Operand}(il:o.op = .makeFunc fn first cap)(r:iZ w0 B σ a w L)(h:jb P K T O σ o=some u):jH P K w0 B σ o a w u:=by
 cases fn with
 |func f=>
  simp only[jb,il]at h;split at h
  .rename_i aaf;have hf:first = #[]:=by simpa using aaf
   subst hf;split at h
   .rename_i l hl;cases h;have hc:=Wl (B:=B) (L:=L) (w:=w) (vs:=cap.toList.map a.eval) hl aH (λi p x hp hx=>by
     rw[cD]at hp hx;obtain⟨q,hq,rfl⟩:=cJ.1 hp;rw[hq]at hx;simp at hx;subst hx;exact r.op q)
    refine jH.pure r (v:=.func (.func f) #[] (cap.toList.map a.eval).toArray) ?_ rfl ⟨cap.toList.map a.eval,rfl,hc.1,hc.2⟩;have e1:cap.map a.eval=(cap.toList.map a.eval).toArray:=by apply dw;simp
    have e2:(#[]:Array Operand).map a.eval = #[]:= aH ;simp only[execOp,il,Instr.makeFunc,e1,e2,Sem.run_bind,Sem.run_pure,Result.andThen_ok]
   .cases h
  .cases h
 |_=>simp[jb,il]at h
def Y9(hT:lE P T){t:TypeId}{x i:Operand}(il:o.op = .index t x i)(r:iZ w0 B σ a w L)(h:jb P K T O σ o=some u)(ho:∀ q,q ∈ u.jo->q):jH P K w0 B σ o a w u:=by
 simp only[jb,il]at h;have hx:=r.op x;have hi:=r.op i;split at h
 .rename_i l k z hv hw;rw[hv]at hx;rw[hw]at hi;have ei:=iB.jX hi;obtain⟨vs,e,hr⟩:=iB.AR hx;split at h
  .rename_i tt qk;split at h
   .rename_i n e' hd;have hu:P.underlying t=some (.array n e'):=by rw[hT.pC qk,hd]
    split at h
    .rename_i te ou;split at h
     .rename_i hc;simp only[bS,lQ]at hc;cases h;obtain⟨Dj,vQ⟩:=ho (0<=z/\z<n) aH;refine jH.pure r (v:=.agg ((vs.drop (z.toNat*te.i.size)).take te.i.size).toArray) ?_ rfl ((hr.drop _).take _).agg;simp only[execOp,il,e,ei,Instr.index,asIntOf,Sem.run_bind,Sem.run_pure,Result.andThen_ok,run_underlying hu,Dj,vQ,and_self,bD,uY hT w ou,part,GP hT w ou,hc.1];simp
     .cases h
    .cases h
   .cases h
  .cases h
 .cases h
def Y8(hT:lE P T){t:TypeId}{x:Operand}{f:Nat}(il:o.op = .fieldAddr t x f)(r:iZ w0 B σ a w L)(h:jb P K T O σ o=some u):jH P K w0 B σ o a w u:=by
 simp only[jb,il]at h;have hx:=r.op x;split at h
 .rename_i fs hd;obtain⟨ti,h1,h2⟩:=xO hd;have hu:P.underlying t=some (.struct fs):=by rw[hT.pC h1,h2]
  split at h
  .rename_i fd JD;split at h
   .rename_i ft JE;split at h
    .cases h
    .rename_i kG;have aao:¬ft.i.size=0:=λe=>kG (lQ.2 e)
     have kP:∀ b off,a.eval x = .pointer (some ⟨b,off,none⟩)->(execOp a.eval o).run P w = .ok (.value (.pointer (some ⟨b,off+fd.offset,none⟩))) w:=by
      intro b off e;simp only[execOp,il,e,Instr.fieldAt,Instr.sureAddr,fieldPlace,Sem.run_bind,run_underlying hu,Result.andThen_ok,JD,Sem.run_pure,uY hT w JE,aao,bq,Addr.add_lit]
     split at h
     .rename_i id off hv;rw[hv]at hx;obtain⟨k1,b,k2,k3⟩:=hx;cases h;exact jH.pure r (kP b off k3) rfl ⟨k1,b,k2,rfl⟩
     .rename_i id sz i j hv;rw[hv]at hx;obtain⟨k1,b,n,c,k2,k3⟩:=hx;cases h;exact jH.pure r (kP b _ k3) rfl ⟨k1,b,n,c,k2,by rw[dj]⟩
     .rename_i m el hv;rw[hv]at hx;split at h
      .rename_i hle;have PK:=cK hle;cases h;generalize hq:a.eval x=q at hx;cases hx with
       |jG _ _ b off g hb iA hl cell kk=>
        refine jH.pure r (kP b off hq) rfl (.jG _ _ b _ (λj=>g (fd.offset+j)) hb iA (λj hj=>hl _ aC) (λj hj=>?_) (λj hj=>kk _ aC));have:=cell (fd.offset+j) aC;rwa[<-dj]at this
      .cases h
     .cases h
   .cases h
  .cases h
 .cases h
end
section
variable {P:Program} {K:World->Prop} {T:List TI} {O:oR} {w0:World} {B:Nat->Prop} {σ:PS} {o:Oper} {a:Act} {w:World} {L:Lk} {u:jV}
def abx(hT:lE P T){t:TypeId}{x:Operand}{ti:TI}(nR:lv T t=some ti)(il:o.op = .load t x)(r:iZ w0 B σ a w L)(h:DA ti (σ.read (σ.op x) ti.i.size)=some u)(ho:∀ q,q ∈ u.jo->q):jH P K w0 B σ o a w u:=by
 cases hr:σ.read (σ.op x) ti.i.size with
 |none=>rw[hr]at h;cases h
 |some y=>
  obtain⟨l,is,jo⟩:=y;rw[hr]at h;simp only[DA]at h;by_cases ha:ti.isAgg=true
  .rw [aZ ha]at h;cases h;obtain⟨b,q,vs,e,h1,h2,h3⟩:=r.read (r.op x) hr ho;refine jH.pure r (v:=.agg vs.toArray) ?_ rfl h1.agg;simp only[execOp,il,e,Instr.loadAt,Instr.sureAddr,Sem.run_bind,Sem.run_pure,Result.andThen_ok,SK hT w nR ha b q vs h2 h3]
  .rw [aY ha]at h;have CW:ti.isAgg=false:=by simpa using ha
   split at h
   .rename_i p;cases h;obtain⟨b,q,vs,e,h1,h2,h3⟩:=r.read (r.op x) hr ho;obtain⟨y,ys,rfl,hy,BA⟩:=h1.lp;refine jH.pure r (v:=y) ?_ rfl hy;have hc:=h3 0 y rfl;simp only[execOp,il,e,Instr.loadAt,Instr.sureAddr,Sem.run_bind,Sem.run_pure,Result.andThen_ok,Lt hT w nR CW b q y (by simpa using hc)]
   .cases h
def Zc(hT:lE P T){t:TypeId}{x:Operand}(il:o.op = .load t x)(r:iZ w0 B σ a w L)(h:jb P K T O σ o=some u)(ho:∀ q,q ∈ u.jo->q):jH P K w0 B σ o a w u:=by
 simp only[jb,il,Fi]at h;split at h
 .rename_i ti nR;split at h
  .rename_i id i n ot;by_cases ha:ti.isAgg=true
   .rw [aZ ha]at h;cases h
   .rw [aY ha]at h;have CW:ti.isAgg=false:=by simpa using ha
    cases h;have hx:=r.op x;cases hp:σ.op x with
    |oL id' sz i' j=>
     rw[hp]at ot hx;simp only[Av]at ot;split at ot
     .rename_i nl T1 T0 n' sz' len el jO;split at ot
      .rename_i hc;simp only[bK,ca]at ot;obtain⟨rfl,rfl,rfl⟩:=ot;simp only[bS]at hc;have e1:=lQ.1 hc.1;have e2:=lQ.1 hc.2;subst e1 e2;have hi:i'<n':=ho _ aH;obtain⟨b,c,cur,f,h1,h2,h3,h4,h5,h6,h7,h8,h9,sw,tf⟩:=r.hb id' _ jO;obtain⟨k1,b',n2,c2,k2,k3⟩:=hx;rw[h1]at k2;cases k2;refine jH.pure r (v:=L.iW id' i') ?_ rfl ⟨k1,rfl⟩;have kF:w.cell? ⟨b,i'*1+0,none⟩=some (L.iW id' i'):=by
        simp only[World.cell?,h2];simpa using h6 i' hi aH 
       simp only[execOp,il,k3,Instr.loadAt,Instr.sureAddr,Sem.run_bind,Sem.run_pure,Result.andThen_ok,Lt hT w nR CW b _ _ kF]
      .cases ot
     .cases ot
    |_=>rw[hp]at ot;cases ot
  .exact abx hT nR il r h ho
 .cases h
def R7{bs br:Nat->Prop}{l m:List E}{vs us:List Value}(h:jJ bs br w l vs)(k:jJ bs br w m us)(off:Nat):jJ bs br w (yK l off m) (vs.take off++us++vs.drop (off+us.length)):=by
 unfold yK;rw[k.len];exact((h.take off).app k).app (h.drop _)
def adi{q:E->Bool}{l m:List E}(h:l.all q=true)(k:m.all q=true)(off:Nat):(yK l off m).all q=true:=by
 unfold yK;rw[List.all_append,List.all_append,k];have h1:(l.take off).all q=true:=bY.2 λx hx=>bY.1 h x (en hx)
 have h2:(l.drop (off+m.length)).all q=true:=bY.2 λx hx=>bY.1 h x (eI hx)
 rw[h1,h2];rfl
def Zn(hT:lE P T){t:TypeId}{x y:Operand}(il:o.op = .store t x y)(r:iZ w0 B σ a w L)(h:jb P K T O σ o=some u)(ho:∀ q,q ∈ u.jo->q):jH P K w0 B σ o a w u:=by
 simp only[jb,il,Fl]at h;have hx:=r.op x;have hy:=r.op y;split at h
 .rename_i ti nR;split at h
  .
   rename_i id off e qC C8;rw[qC]at hx;rw[C8]at hy;split at h
   .rename_i T1 l m jO hm;split at h
    .rename_i hc;cases h;simp only[bS]at hc;have c1:=lQ.1 hc.1.1;have c2:=cK hc.1.2;obtain⟨b,vs,h1,h2,h3,h4,h5⟩:=r.hb id _ jO;obtain⟨k1,b',k2,k3⟩:=hx;rw[h1]at k2;cases k2;obtain⟨q1,q2⟩:=hy.cells hm;have ht:=qw.setRow (L:=L) ((h2 b).2 rfl) (λx hx=>(r.hw id x hx).2) (vs.take off++(a.eval y).cells.toList++vs.drop (off+(a.eval y).cells.toList.length)).toArray;have hl:=ht.later (L.val id) (L.iW id);refine⟨undef,_,_,.inr ⟨?_,rfl⟩,r.sT id (.cells T1 (yK l off m)) _ k1 ht ⟨b,_,by rw[Lk.nW];exact h1,λx=>(Lk.qW x).trans (h2 x),setRow_heap w b _ _ T1 _ h3,(R7 h4 q1 off).mono λ_ _=>hl.ko,?_⟩ ?_,.any _⟩
     .have hr:=GQ hT w nR b off T1 vs.toArray h3 (a.eval y) (by rw[q1.len,c1]) (by rw[q1.len,fw,h4.len];exact c2) q2;simp only[execOp,il,k3,Instr.storeAt,Instr.sureAddr,Sem.run_bind,Sem.run_pure,Result.andThen_ok,hr]
     .intro v hv;simp only[dH]at hv;rcases hv with(hv|hv)|hv
      .exact h5 v (en hv)
      .exact q2 v hv
      .exact h5 v (eI hv)
     .intro hn;have:=hc.2;rw[hn]at this;exact adi (r.hl hn id _ jO) (by simpa using this) off
    .cases h
   .cases h
  .
   rename_i id sz i j e qC C8;rw[qC]at hx;rw[C8]at hy;split at h
   .rename_i nl T1 n s el m jO hm;split at h
    .rename_i hc;cases h;simp only[bS]at hc;have c1:=lQ.1 hc.1.1.1.1;have c2:=lQ.1 hc.1.1.1.2;have c3:=cK hc.1.1.2;subst c2;have hi:i<n:=ho _ aH;obtain⟨f,h1,h2,h3⟩:=r.hb id _ jO;obtain⟨k1,b',n',c',k2,k3⟩:=hx;rcases h1 with⟨h1,_⟩|⟨b,c,cur,h1,hg,oI,nG,mJ,kF,jE⟩
     .rw [k2]at h1;cases h1
     .rw [k2]at h1;cases h1;obtain⟨q1,q2⟩:=hy.cells hm;have oe:L.own id b':=(h2 b').2 (by rw[k2];rfl);have agV:i*s+s<=cur.size:=by
       rw[mJ];have:=bI s (aC:i+1<=c');rwa[bR,bT]at this
      have pH:i*s+j+(a.eval y).cells.toList.length<=cur.size:=by rw[q1.len];omega
      have ht:=qw.setRow (L:=L) oe (λx hx=>(r.hw id x hx).2) (cur.toList.take (i*s+j)++(a.eval y).cells.toList++cur.toList.drop (i*s+j+(a.eval y).cells.toList.length)).toArray;have hl:=ht.later (L.val id) (L.iW id);refine⟨undef,_,_,.inr ⟨?_,rfl⟩,r.sT id _ _ k1 ht ⟨λi' j'=>if i'=i/\j<=j'/\j'<j+m.length then(a.eval y).cells.toList.getD (j'-j) undef else f i' j',?_,λx=>?_,?_⟩ ?_,.any _⟩
      .have hr:=GQ hT w nR b' (i*s+j) T1 cur hg (a.eval y) (by rw[q1.len,c1]) pH q2;simp only[execOp,il,k3,Instr.storeAt,Instr.sureAddr,Sem.run_bind,Sem.run_pure,Result.andThen_ok,hr]
      .rw [Lk.nW];refine .inr ⟨b',c',_,k2,setRow_heap w b' _ _ T1 _ hg,oI,nG,?_,?_,?_⟩
       .simp only[fw,bX,cv,ev,dE];have aag:=pH;simp only[dE]at aag;rw[dh aC];omega
       .intro i' j' lR pU;obtain⟨o1,o2⟩:=kF i' j' lR pU;have hlen:i'*s+j'<cur.size:=by
         rw[mJ];have:=bI s (aC:i'+1<=c');rw[bR,bT]at this;omega
        have oP:i'≠i->i'*s+j'<i*s\/i*s+s<=i'*s+j':=by
         intro kG;rcases Nat.lt_or_gt_of_ne kG with iA|iA
         .left;have:=bI s (show i'+1<=i from iA);rw[bR,bT]at this;omega
         .right;have:=bI s (show i+1<=i' from iA);rw[bR,bT]at this;omega
        simp only[fT];rw[List.append_assoc,fp,cv,dE,dh aC];by_cases lj:i'=i/\j<=j'/\j'<j+m.length
        .obtain ⟨rfl,p1,p2⟩:=lj;rw[aY aC,dm (by rw[q1.len];omega)];have e1:i'*s+j'-(i'*s+j)=j'-j:= aC ;have iA:j'-j<(a.eval y).cells.toList.length:=by rw[q1.len];omega
         rw[aZ ⟨rfl,p1,p2⟩,e1,bc,bt iA];exact⟨rfl,q2 _ (ck iA)⟩
        .rw [aY lj];refine⟨?_,o2⟩;by_cases jW:i'*s+j'<i*s+j
         .rw [aZ jW,dX,aZ jW];simpa using o1
         .rw [aY jW,fv,er]
          .have:i*s+j+(a.eval y).cells.toList.length+(i'*s+j'-(i*s+j)-(a.eval y).cells.toList.length)=i'*s+j':=by
            rw[q1.len];by_cases C0:i'=i
            .subst C0;omega
            .have:=oP C0;omega
           rw[this];simpa using o1
          .rw [q1.len];by_cases C0:i'=i
           .subst C0;omega
           .have:=oP C0;omega
       .intro hn v hv;simp only[fU,dH]at hv;rcases hv with(hv|hv)|hv
        .exact jE hn v (by have:=en hv;simpa using this)
        .obtain ⟨q,hq⟩:=dv.1 hv;have uK:q<m.length:=by rw[<-q1.len];exact(b9.1 hq).1
         have hmn:m.all E.mv=true:=by have:=hc.1.2;rw[hn]at this;simpa using this
         exact(q1.ko q _ v (bt uK) hq).mv (bY.1 hmn _ (ck uK))
        .exact jE hn v (by have:=eI hv;simpa using this)
      .rw [Lk.nW];exact(Lk.qW x).trans (h2 x)
      .intro i' j' lR pU;refine(λ(q:iB _ _ _ _ _/\_)=>⟨hl.ko q.1,q.2⟩) (?_:_/\_);dsimp only;by_cases lj:i'=i/\j<=j'/\j'<j+m.length
       .rw [aZ lj,aZ lj];have FQ:j'-j<m.length:= aC ;have zV:j'-j<(a.eval y).cells.toList.length:=by rw[q1.len];omega
        rw[bc,bt FQ,bc,bt zV];exact⟨q1.ko _ _ _ (bt FQ) (bt zV),bY.1 hc.2 _ (ck FQ)⟩
       .rw [aY lj,aY lj];exact h3 i' j' lR pU
      .intro hn;have:=r.hl hn id _ jO;exact this
    .cases h
   .cases h
  .
   rename_i id i id' k qC C8;rw[qC]at hx;rw[C8]at hy;split at h
   .rename_i nl T1 T0 n sz len el k' jO;split at h
    .rename_i hc;cases h;simp only[bS]at hc;have c1:=lQ.1 hc.1;have c2:=lQ.1 hc.2;subst c1;have e1:i=k':=ho _ aH;have e2:k=k':=ho _ aH;have hk:k'<n:=ho _ aH;subst e1 e2;obtain⟨b,c,cur,f,h1,h2,h3,h4,h5,h6,h7,h8,h9,sw,tf⟩:=r.hb id _ jO;obtain⟨k1,b',n',c',k2,k3⟩:=hx;obtain⟨_,Qh⟩:=hy;rw[h1]at k2;cases k2;have yl:(L.iW id k).oneCell'=true/\rI (L.iW id k)=false/\(L.iW id k).cells = #[L.iW id k]:=by
      rcases(h8 k hk).1 with⟨e,_⟩|⟨_,_,_,e,_⟩<;>rw[e]<;>exact⟨rfl,rfl,rfl⟩
     have oe:L.own id b:=(h9 b).2 (.inl rfl);have ht:=qw.setRow (L:=L) oe (λx hx=>(r.hw id x hx).2) (cur.toList.take (k*1+0)++(a.eval y).cells.toList++cur.toList.drop (k*1+0+(a.eval y).cells.toList.length)).toArray;have hl:=ht.later (L.val id) (L.iW id);have vH:(a.eval y).cells.toList=[L.iW id k]:=by rw[Qh,yl.2.2]
     have Pp:(cur.toList.take (k*1+0)++(a.eval y).cells.toList++cur.toList.drop (k*1+0+(a.eval y).cells.toList.length)).toArray=cur.setIfInBounds k (L.iW id k):=by
      rw[vH];apply dw;simp only[ch,bL,fk,ahs];rw[List.set_eq_take_append_cons_drop,aZ (by simpa using(aC:k<cur.size))];simp
     rw[Pp]at ht hl;have FL:∀ x,x≠b->(w.setRow b (cur.setIfInBounds k (L.iW id k))).heap[x]? = w.heap[x]?:=λx hx=>setRow_other w b x _ hx
     refine⟨undef,_,_,.inr ⟨?_,rfl⟩,r.sT id _ _ k1 ht ⟨b,c,cur.setIfInBounds k (L.iW id k),f,by rw[Lk.nW];exact h1,setRow_heap w b _ _ T1 _ h2,h3,h4,by simpa using h5,?_,?_,?_,?_,?_,?_⟩ ?_,.any _⟩
     .have hr:=GQ hT w nR b (k*1+0) T1 cur h2 (a.eval y) (by rw[vH];simpa using c2.symm) (by rw[vH];simp;omega) (by rw[vH];simpa using yl.1);rw[Pp]at hr;simp only[execOp,il,k3,Instr.storeAt,Instr.sureAddr,Sem.run_bind,Sem.run_pure,Result.andThen_ok,hr]
     .intro q hq _;rw[Lk.qs];by_cases rG:q=k
      .subst rG;have:q<cur.size:= aC ;simp[this]
      .rw [gP (λe=>rG e.symm)];exact h6 q hq (by simpa using λe=>rG e.symm)
     .intro v hv;rcases Array.mem_or_eq_of_mem_setIfInBounds hv with hv|hv
      .exact h7 v hv
      .subst hv;exact⟨yl.1,yl.2.1⟩
     .intro q hq;obtain⟨p1,p2⟩:=h8 q hq;rw[Lk.qs];exact⟨p1.block λx hx=>FL x λe=>tf q hq (e▸hx),λi j hi hj=>⟨hl.ko (p2 i j hi hj).1,(p2 i j hi hj).2⟩⟩
     .intro x;rw[Lk.qW];refine(h9 x).trans ?_;simp only[Lk.qs]
     .simp only[Lk.qs];exact sw
     .simp only[Lk.qs];exact tf
     .intro hn;have:=r.hl hn id _ jO;exact this
    .cases h
   .cases h
  .cases h
 .cases h
def YY(hT:lE P T){t:TypeId}(il:o.op = .alloc t)(r:iZ w0 B σ a w L)(h:jb P K T O σ o=some u):jH P K w0 B σ o a w u:=by
 simp only[jb,il]at h;split at h
 .rename_i ti nR;split at h
  .rename_i z hz;obtain⟨id,hd,lM,jE,rfl⟩:=Aj h;obtain⟨zv,vR,qD⟩:=Ez hz;obtain⟨q1,q2⟩:=qD (ja B L) (jF L) w;obtain⟨L',r',hp⟩:=r.RB id t z zv lM q1 q2 (by simpa[Bx.nl]using jE);refine⟨_,_,L',.inl ?_,r',hp⟩;simp only[execOp,il,Instr.alloc,Sem.run_bind,Lu hT w nR vR,Result.andThen_ok,newVar,newRow,run_newObj_alloc,Sem.run_pure]
  .cases h
 .cases h
def Y2{t:TypeId}{x:Operand}(il:o.op = .box t x)(r:iZ w0 B σ a w L)(h:jb P K T O σ o=some u):jH P K w0 B σ o a w u:=by
 simp only[jb,il]at h;have hx:=r.op x;split at h
 .rename_i e hv;rw[hv]at hx;split at h
  .rename_i l hl;obtain⟨id,hd,lM,jE,rfl⟩:=Aj h;obtain⟨q1,q2⟩:=hx.cells hl;obtain⟨L',r',hp⟩:=r.RB id t l (a.eval x) lM q1 q2 (by simpa[Bx.nl]using jE);refine⟨_,_,L',.inl ?_,r',hp⟩;simp only[execOp,il,Instr.box,Sem.run_bind,Result.andThen_ok,newVar,newRow,run_newObj_alloc,Sem.run_pure]
  .cases h
 .cases h
end
def YE(us:List Value):∀ (off k:Nat) (cs:Array Value),off+k+us.length<=cs.size ->
 (us.zipIdx k).foldl (λcs (c:Value×Nat)=>cs.setIfInBounds (off+c.2) c.1) cs=(cs.toList.take (off+k)++us++cs.toList.drop (off+k+us.length)).toArray:=by
 induction us with
 |nil=>intro off k cs h;simp
 |cons x us ih=>
  intro off k cs h;simp only[List.zipIdx_cons,List.foldl_cons];rw[ih off (k+1) _ (by simp at h ⊢;omega)];apply dw;simp only[cR]at h;obtain⟨A,y,D,mJ,hA⟩:∃ A y D,cs.toList=A++y::D/\A.length=off+k:=by
   have iA:off+k<cs.toList.length:= aN ;refine⟨cs.toList.take (off+k),cs.toList[off+k],cs.toList.drop (off+k+1),?_,by rw[cv];omega⟩;rw[<-eK iA,gJ]
  simp only[ahs,cR,mJ,<-hA];rw[List.set_append_right _ _ (bd _),dx,List.set_cons_zero,
   show off+(k+1)+us.length=A.length+(us.length+1)by omega,(aC:off+(k+1)=A.length+1),
   List.take_length_add_append,aht,List.take_left,aht]
  simp
def YC(place:Nat->Option (Nat×Nat))(cs:Array Value)(i:Nat)(v:Value)(rest:List (Nat×Value))(off:Nat)(hp:place i=some (off,v.cells.toList.length))(pH:off+v.cells.toList.length<=cs.size):
 Instr.fill place cs ((i,v)::rest)=Instr.fill place (cs.toList.take off++v.cells.toList++cs.toList.drop (off+v.cells.toList.length)).toArray rest:=by
 have h1:¬(v.cells.size≠v.cells.toList.length\/off+v.cells.size>cs.size):=by simp at pH ⊢;omega
 have hf:=YE v.cells.toList off 0 cs (by simpa using pH);simp only[bL]at hf;have h2:(v.cells.zipIdx.foldl (λcs (c,j)=>cs.setIfInBounds (off+j) c) cs)=(cs.toList.take off++v.cells.toList++cs.toList.drop (off+v.cells.toList.length)).toArray:=by
  rw[<-hf,<-Array.foldl_toList,Array.toList_zipIdx]
 rw[Instr.fill,hp];simp only;rw[aY (by simpa using h1),h2]
section
variable {P:Program} {K:World->Prop} {T:List TI} {O:oR} {w0:World} {B:Nat->Prop} {σ:PS} {o:Oper} {a:Act} {w:World} {L:Lk} {u:jV}
def I7(r:iZ w0 B σ a w L){place:Nat->Option (Nat×Nat)}{ps:List (Nat×Operand)}{l m:List E}{cs:Array Value}(h:qy σ place l ps=some m)
 (hr:jJ (ja B L) (jF L) w l cs.toList) (h1:∀ u ∈ cs,u.oneCell'=true):
 ∃ cs',Instr.fill place cs (ps.map λx=>(x.1,a.eval x.2))=some cs'/\jJ (ja B L) (jF L) w m cs'.toList/\(∀ u ∈ cs',u.oneCell'=true):=by
 induction ps generalizing l cs with
 |nil=>
  simp only[qy]at h;cases h;exact⟨cs,rfl,hr,h1⟩
 |cons p ps ih=>
  obtain⟨i,x⟩:=p;simp only[qy]at h;have hx:=r.op x;split at h
  .rename_i off size e hp hv;rw[hv]at hx;split at h
   .rename_i q hq;split at h
    .rename_i hc;simp only[bS]at hc;have c1:=lQ.1 hc.1;have c2:=cK hc.2;obtain⟨q1,q2⟩:=hx.cells hq;have hlen:(a.eval x).cells.toList.length=size:=by rw[q1.len,c1]
     have Po:=hr.len;rw[eO,YC place cs i (a.eval x) _ off (by rw[hlen];exact hp) (by rw[q1.len];simp at Po;omega)];refine ih h (R7 hr q1 off) λv hv=>?_
     simp only[fU,dH]at hv;rcases hv with(hv|hv)|hv
     .exact h1 v (by have:=en hv;simpa using this)
     .exact q2 v hv
     .exact h1 v (by have:=eI hv;simpa using this)
    .cases h
   .cases h
  .cases h
def R2(ps:Array (Nat×Operand))(a:Act):(ps.map λ(x:Nat×Operand)=>(x.1,a.eval x.2)).toList=ps.toList.map λx=>(x.1,a.eval x.2):= aH 
def ac8{P:Program}(hT:lE P T){fs:List Field}{pl:List (Nat×Nat)}(h:D2 T fs=some pl):fs.mapM (λf=>(P.info? f.type).map λi=>(f.offset,i.size))=some pl:=by
 induction fs generalizing pl with
 |nil=>simp only[D2]at h;cases h;rfl
 |cons f fs ih=>
  simp only[D2]at h;split at h
  .rename_i ti l h1 h2;cases h;simp[eU,hT.yx h1,ih h2]
  .cases h
def Y3(hT:lE P T){t:TypeId}{ps:Array (Nat×Operand)}(il:o.op = .build t ps)(r:iZ w0 B σ a w L)(h:jb P K T O σ o=some u):jH P K w0 B σ o a w u:=by
 simp only[jb,il]at h;have main:∀ (l:List E) (cs:Array Value),P.built t (ps.toList.map λx=>(x.1,a.eval x.2))=some cs->jJ (ja B L) (jF L) w l cs.toList->u={ r:=.e (.agg l) }->jH P K w0 B σ o a w u:=by
  intro l cs hb hr hu;subst hu;have kP:=run_build (P:=P) w t (ps.map λ(x:Nat×Operand)=>(x.1,a.eval x.2)) cs (by rw[R2];exact hb);refine jH.pure r (v:=.agg cs) ?_ rfl (by have:=hr.agg;rwa[Array.toArray_toList]at this);simp only[execOp,il,Sem.run_bind,kP,Result.andThen_ok,Sem.run_pure]
 split at h
 .rename_i ti nR;split at h
  .rename_i z hz;obtain⟨zv,vR,qD⟩:=Ez hz;obtain⟨q1,q2⟩:=qD (ja B L) (jF L) w;split at h
   .rename_i fs hd;split at h
    .rename_i pl zP;obtain⟨l,hl,rfl⟩:=cJ.1 h;obtain⟨cs,p1,p2,_⟩:=I7 r hl q1 (λu hu=>q2 u (by simpa using hu));refine main l cs ?_ p2 rfl;unfold Program.built;rw[hT.yx nR,hT.pC nR,hd];simp only[vR,ac8 hT zP];have:(λx:Nat=>pl.toArray[x]?)=λx=>pl[x]?:=by funext x;simp
     rw[this];exact p1
    .cases h
   .rename_i n e hd;split at h
    .rename_i te ou;obtain⟨l,hl,rfl⟩:=cJ.1 h;obtain⟨cs,p1,p2,_⟩:=I7 r hl q1 (λu hu=>q2 u (by simpa using hu));refine main l cs ?_ p2 rfl;unfold Program.built;rw[hT.yx nR,hT.pC nR,hd];simp only[vR,hT.yx ou];exact p1
    .cases h
   .cases h
  .cases h
 .cases h
def Sw{α:Type}(n:Nat)(l:List α):(ko n l).length=n*l.length:=by
 induction n with
 |zero=>simp[ko]
 |succ n ih=>simp only[ko,bX,ih,bR,bT];omega
def ad2{α:Type}(n:Nat)(l:List α)(q:Nat)(h:q<n*l.length):(ko n l)[q]? = l[q%l.length]?:=by
 induction n generalizing q with
 |zero=>simp at h
 |succ n ih=>
  simp only[ko];rw[bR,bT]at h;by_cases hq:q<l.length
  .rw [dm hq,bZ hq]
  .rw [fv aC,ih _ aC];congr 1;exact(Nat.mod_eq_sub_mod aC).symm
def ad3{bs br:Nat->Prop}{z:List E}{zs:Array Value}(h:jJ bs br w z zs.toList)(n:Nat):jJ bs br w (ko n z) ((Array.range (n*zs.size)).map (zs[· % zs.size]!)).toList:=by
 have hl:=h.len;simp only[dE]at hl;refine⟨by simp[Sw,hl],λi p x hp hx=>?_⟩;have hi:i<n*zs.size:=by
  have:=(b9.1 hx).1;simpa using this
 have hz:0<zs.size:=by
  rcases dY zs.size with h0|h0
  .rw [h0]at hi;simp at hi
  .exact h0
 rw[ad2 _ _ _ (by rw[<-hl];exact hi),<-hl]at hp;have iA:=bC i hz;simp[hi]at hx;subst hx;rw[eR zs _ iA];exact h.ko _ p _ hp (by simp[iA])
def Tc(hB:∀ b,B b->b<w0.heap.size)(r:iZ w0 B σ a w L)(e:TypeId)(n sz:Nat)(l:List E)(cs:Array Value)(nl:Bool)(hr:jJ (ja B L) (jF L) w l cs.toList)(h1:∀ u ∈ cs,u.oneCell'=true)(hlen:cs.size=n*sz)
 (uF:n<=9223372036854775807) (jE:nl=true->l.all E.mv=true) (uH:l.all (E.nr 2)=true):
 iZ w0 B σ a (w.alloc (.cells cs e)) L/\iB (ja B L) (jF L) (w.alloc (.cells cs e)) (.sl nl n sz λi j=>l.getD (i*sz+j) (.v (.bool false))) (.slice (some ⟨w.heap.size,0,none⟩) n n):=by
 have hb:Below w.heap.size w (w.alloc (.cells cs e)):=(Below.refl _ _).alloc (bd _) _;have hl:rp L w L (w.alloc (.cells cs e)):=⟨hb.size,λ_ _ h=>h,λx hx _=>hb.block x hx⟩
 refine⟨r.later hb,?_⟩;have lj:∀ i j,i<n->j<sz->i*sz+j<cs.size:=by
  intro i j hi hj;rw[hlen];have:=bI sz (show i+1<=n from hi);rw[bR,bT]at this;omega
 have hll:=hr.len;simp only[dE]at hll;refine .sl nl n sz _ _ n (λi j=>cs.getD (i*sz+j) undef) (bd _) uF (λh=>by cases h) (λi j hi hj=>?_) (λi j hi hj=>?_) (λi j hi hj=>?_) (λi j hi hj=>?_)
 .have hq:=lj i j hi hj;have e1:cs.getD (i*sz+j) undef=cs[i*sz+j]:=by simp[hq]
  rw[e1];refine⟨h1 _ (fS hq),λpV=>?_⟩;have sE:i*sz+j<l.length:= aC ;exact(hr.ko (i*sz+j) _ _ (bt sE) (by simp[hq])).mv (bY.1 (jE pV) _ (ck sE))
 .have hq:=lj i j hi hj;have sE:i*sz+j<l.length:= aC ;rw[bc,bt sE];exact bY.1 uH _ (ck sE)
 .have hq:=lj i j hi hj;refine⟨w.heap.size,0,rfl,λxZ=>?_,aH,?_⟩
  .rcases xZ with hx|⟨id,hx⟩
   .have:=hB _ hx;have:=r.he.size;omega
   .have:=(r.hw id _ hx).2;omega
  .rw [bW,World.cell?_alloc_new];simp[hq]
 .have hq:=lj i j hi hj;have sE:i*sz+j<l.length:= aC ;have e1:cs.getD (i*sz+j) undef=cs[i*sz+j]:=by simp[hq]
  rw[e1,bc,bt sE];exact hl.ko (hr.ko (i*sz+j) _ _ (bt sE) (by simp[hq]))
def abn{l:List E}{vs:List Value}{bs br:Nat->Prop}{w:World}(h:jJ bs br w l vs)(hl:l.all E.mv=true):∀ v ∈ vs,rI v=false:=by
 intro v hv;obtain⟨i,hi⟩:=dv.1 hv;obtain⟨wU,_⟩:=b9.1 hi;have C1:i<l.length:=by have:=h.len;omega
 exact(h.ko i _ v (bt C1) hi).mv (bY.1 hl _ (ck C1))
def Y4(hT:lE P T)(hB:∀ b,B b->b<w0.heap.size){t:TypeId}{n:Nat}{ps:Array (Nat×Operand)}(il:o.op = .buildSlice t n ps)(r:iZ w0 B σ a w L)(h:jb P K T O σ o=some u):jH P K w0 B σ o a w u:=by
 simp only[jb,il]at h;split at h
 .rename_i tt qk;split at h
  .rename_i e hd;split at h
   .rename_i te ou;split at h
    .rename_i z hz;split at h
     .rename_i hc;simp only[bS]at hc;have c1:=lQ.1 hc.1.1;have c2:=cK hc.2;obtain⟨zv,vR,qD⟩:=Ez hz;obtain⟨q1,q2⟩:=qD (ja B L) (jF L) w;have hu:P.underlying t=some (.slice e):=by rw[hT.pC qk,hd]
      have zZ:zv.cells.size=te.i.size:=by have:=q1.len;simp only[dE]at this;omega
      obtain⟨l,hl,h⟩:=fW.1 h;obtain⟨cs,p1,p2,p3⟩:=I7 r hl (ad3 q1 n) (λv hv=>by
       simp only[fz,fA]at hv;obtain⟨q,hq,rfl⟩:=hv;have BB:0<zv.cells.size:=by
        rcases dY zv.cells.size with h0|h0
        .rw [h0]at hq;simp at hq
        .exact h0
       rw[eR zv.cells _ (bC q BB)];exact q2 _ aH)
      have hlen:l.length=n*te.i.size:=by
       have:∀ (ps:List (Nat×Operand)) (l m:List E),qy σ (λi=>some (i*te.i.size,te.i.size)) l ps=some m->m.length=l.length:=by
        intro ps
        induction ps with
        |nil=>intro l m h;simp only[qy]at h;cases h;rfl
        |cons p ps ih=>
         intro l m h;obtain⟨i,x⟩:=p;simp only[qy]at h;split at h
         .split at h
          .split at h
           .rename_i hc;simp only[bS]at hc;have:=cK hc.2;rw[ih _ _ h];simp[yK];omega
           .cases h
          .cases h
         .cases h
       rw[this _ _ _ hl,Sw,c1]
      have mJ:cs.size=n*te.i.size:=by have:=p2.len;simp only[dE]at this;omega
      have Pw:Instr.fill (λi=>some (i*te.i.size,te.i.size)) ((Array.range (n*te.i.size)).map (zv.cells[· % zv.cells.size]!)) (ps.map λ(x:Nat×Operand)=>(x.1,a.eval x.2)).toList=some cs:=by
       rw[R2,<-zZ];rw[<-zZ]at p1;exact p1
      have kP:(execOp a.eval o).run P w = .ok (.value (.slice (some ⟨w.heap.size,0,none⟩) n n)) (w.alloc (.cells cs e)):=by
       have yh:¬(n*te.i.size>16777216):= aC ;by_cases h0:n*te.i.size=0
       .have e0:∀ g:Nat->Value,(Array.range 0).map g = #[]:=λg=>by simp[Array.range]
        have Px:=Pw;rw[h0,e0]at Px;have z24:¬(0>2^24):= aE ;simp only[execOp,il,Instr.buildSlice,Sem.run_bind,run_underlying hu,Result.andThen_ok,uY hT w ou,yh,bq,h0,z24,bD,Sem.run_pure,e0,Px,newRow,run_newObj_alloc]
       .simp only[execOp,il,Instr.buildSlice,Sem.run_bind,run_underlying hu,Result.andThen_ok,uY hT w ou,yh,bq,h0,Sem.run_pure,Lu hT w ou vR,Pw,newRow,run_newObj_alloc]
      have kz:n<=9223372036854775807:=by
       have:=fR n (cK hc.1.2);omega
      by_cases uH:l.all (E.nr 2)=true
      .simp only[uH,eN,bA,bq]at h;split at h
       .
        obtain⟨id,Ps,lM,jE,rfl⟩:=Aj h;have hb:Below w.heap.size w (w.alloc (.cells cs e)):=(Below.refl _ _).alloc (bd _) _;have ht:qw L w id (λx=>x=w.heap.size) (w.alloc (.cells cs e)):=⟨λx hx=>⟨.inr aC,aN⟩,hb.size,λx hx _=>hb.block x hx,rfl,rfl,rfl⟩
        have iA:=ht.later (.slice (some ⟨w.heap.size,0,none⟩) n n) (λ_=>undef);have JN:∀ i j,i<n->j<te.i.size->i*te.i.size+j<n*te.i.size:=by
         intro i j hi hj;have:=bI te.i.size (show i+1<=n from hi);rw[bR,bT]at this;omega
        refine⟨_,_,_,.inl kP,r.new id _ (λx=>x=w.heap.size) (.slice (some ⟨w.heap.size,0,none⟩) n n) (λ_=>undef) _ lM (λx hx=>by subst hx;simp) hb
         ⟨λi j=>cs.getD (i*te.i.size+j) undef,.inr ⟨w.heap.size,n,cs,Lk.nW,heap_alloc_new w _,bd _,by unfold maxLen;omega,mJ,λi j hi hj=>?_,λhn u hu=>?_⟩,λx=>?_,λi j hi hj=>?_⟩ jE,Lk.yS,Lk.nW.symm⟩
        .have hq:i*te.i.size+j<cs.size:=by rw[mJ];exact JN i j hi hj
         have e1:cs.getD (i*te.i.size+j) undef=cs[i*te.i.size+j]:=by simp[hq]
         show cs[i*te.i.size+j]? = some (cs.getD (i*te.i.size+j) undef)/\(cs.getD (i*te.i.size+j) undef).oneCell'=true;rw[e1];exact⟨by simp[hq],p3 _ aH⟩
        .exact abn p2 hn u (by simpa using hu)
        .rw [Lk.qW,Lk.nW];simp only[Value.ownBlock,bK];exact eq_comm
        .have hq:i*te.i.size+j<cs.size:=by rw[mJ];exact JN i j hi hj
         have uK:i*te.i.size+j<l.length:=by rw[hlen];exact JN i j hi hj
         have e1:cs.getD (i*te.i.size+j) undef=cs[i*te.i.size+j]:=by simp[hq]
         simp only[bc,bt uK,ado,e1];exact⟨iA.ko (p2.ko _ _ _ (bt uK) (by simp[hq])),bY.1 uH _ (ck uK)⟩
       split at h
       .rename_i FE;cases h;obtain⟨r',hp⟩:=Tc hB r e n te.i.size l cs true p2 p3 mJ kz (λ_=>FE) uH;exact⟨_,_,L,.inl kP,r',hp⟩
       .cases h;obtain⟨r',hp⟩:=Tc hB r e n te.i.size l cs false p2 p3 mJ kz (λh=>by cases h) uH;exact⟨_,_,L,.inl kP,r',hp⟩
      .simp [uH]at h
     .cases h
    .cases h
   .cases h
  .cases h
 .cases h
end
def IS{P:Program}{t e:TypeId}(h:P.underlying t=some (.slice e)):P.elem t=e:=by simp[Program.elem,h]
def XC{P:Program}{t e:TypeId}{n:Nat}(h:P.underlying t=some (.array n e)):P.elem t=e/\P.arrayLen t=n:=by simp[Program.elem,Program.arrayLen,h]
section
variable {P:Program} {K:World->Prop} {T:List TI} {O:oR} {w0:World} {B:Nat->Prop} {σ:PS} {o:Oper} {a:Act} {w:World} {L:Lk} {u:jV}
def Za(hT:lE P T){t:TypeId}{x i:Operand}(il:o.op = .indexAddr t x i)(r:iZ w0 B σ a w L)(h:jb P K T O σ o=some u)(ho:∀ q,q ∈ u.jo->q):jH P K w0 B σ o a w u:=by
 simp only[jb,il,Fh]at h;have hx:=r.op x;have hi:=r.op i;split at h
 .rename_i k z hpi;rw[hpi]at hi;have hi:=iB.jX hi;split at h
  .rename_i tt qk;split at h
   .
    rename_i e hd;have hu:P.underlying t=some (.slice e):=by rw[hT.pC qk,hd]
    have he:=IS hu;split at h
    .rename_i te ou;have kP:∀ (ad:Addr) (n c:Nat),a.eval x = .slice (some ad) n c->0<=z->z<n->(execOp a.eval o).run P w = .ok (.value (.pointer (some (ad.add (z.toNat*te.i.size))))) w:=by
      intro ad n c e1 h0 h1;have hr:=run_indexAt_slice (P:=P) w t ad n c k z (by rw[he];exact hu);rw[aZ ⟨h0,h1⟩,he,uY hT w ou]at hr;simp only[execOp,il,e1,hi,Sem.run_bind,hr,Result.andThen_ok,Sem.run_pure]
     split at h
     .rename_i nl n sz el qC;rw[qC]at hx;split at h
      .rename_i hs;simp only[bS]at hs;have tv:=cK hs.2;have hs:=lQ.1 hs.1;cases h;have hz:0<=z/\z<n:=ho _ aH;have F5:z.toNat<n:= aC ;generalize hq:a.eval x=q at hx;cases hx with
       |sl _ _ _ _ A c f hc hm h0 hl uH cell kk=>
        obtain⟨b,of,e1,hb,iA,_⟩:=cell z.toNat 0 F5 tv;subst e1;refine jH.pure r (kP ⟨b,of,none⟩ n c hq hz.1 hz.2) rfl ?_;rw[Addr.add_lit,hs];refine .jG sz _ b _ (λj=>f z.toNat j) (λhm=>hb (.inr hm)) iA (λj hj=>(hl _ _ F5 hj).1) (λj hj=>?_) (λj hj=>kk _ _ F5 hj);obtain⟨b',of',e2,_,_,Jz⟩:=cell z.toNat j F5 hj;cases e2;rwa[<-dj]at Jz
      .cases h
     .rename_i id qC;rw[qC]at hx;split at h
      .rename_i nl T1 n sz el jO;split at h
       .rename_i hs;have hs:=lQ.1 hs;cases h;have hz:0<=z/\z<n:=ho _ aH;obtain⟨f,h1,h2,h3⟩:=r.hb id _ jO;obtain⟨k1,k2⟩:=hx;rcases h1 with⟨h1,pV⟩|⟨b,c,cur,h1,hg,oI,nG,mJ,kF,jE⟩
        .omega
        .rw [h1]at k2;refine jH.pure r (kP ⟨b,0,none⟩ n c k2 hz.1 hz.2) rfl ⟨k1,b,n,c,h1,?_⟩;rw[Addr.add_lit,hs,bW,bL]
       .cases h
      .rename_i nl T1 T0 n sz len el pend jO;split at h
       .rename_i hs;have hs:=lQ.1 hs;cases h;have hz:0<=z/\z<n:=ho _ aH;obtain⟨b,c,cur,f,h1,h2,h3,h4,h5,h6,h7,h8,h9,sw,tf⟩:=r.hb id _ jO;obtain⟨k1,k2⟩:=hx;rw[h1]at k2;refine jH.pure r (kP ⟨b,0,none⟩ n c k2 hz.1 hz.2) rfl ⟨k1,b,n,c,h1,?_⟩;rw[Addr.add_lit,hs,bW,bL]
       .cases h
      .cases h
     .cases h
    .cases h
   .
    rename_i n e hd;have hu:P.underlying t=some (.array n e):=by rw[hT.pC qk,hd]
    obtain⟨he,hn⟩:=XC hu;split at h
    .rename_i te ou;have kP:∀ (ad:Addr),a.eval x = .pointer (some ad)->0<=z->z<n->(execOp a.eval o).run P w = .ok (.value (.pointer (some (ad.add (z.toNat*te.i.size))))) w:=by
      intro ad e1 h0 h1;have hr:=run_indexAt_array (P:=P) w t ad k z (by rw[he,hn];exact hu);rw[hn,aZ ⟨h0,h1⟩,he,uY hT w ou]at hr;simp only[execOp,il,e1,hi,Sem.run_bind,hr,Result.andThen_ok,Sem.run_pure]
     split at h
     .rename_i id off qC;rw[qC]at hx;cases h;have hz:0<=z/\z<n:=ho _ aH;obtain⟨k1,b,k2,k3⟩:=hx;refine jH.pure r (kP _ k3 hz.1 hz.2) rfl ⟨k1,b,k2,?_⟩;rw[Addr.add_lit]
     .rename_i m el qC;rw[qC]at hx;split at h
      .rename_i hs;have hs:=lQ.1 hs;cases h;have hz:0<=z/\z<n:=ho _ aH;have lj:∀ j,j<te.i.size->z.toNat*te.i.size+j<m:=by
        intro j hj;rw[<-hs];have:=bI te.i.size (aC:z.toNat+1<=n);rw[bR,bT]at this;omega
       generalize hq:a.eval x=q at hx;cases hx with
       |jG _ _ b of f hb iA hl cell kk=>
        refine jH.pure r (kP _ hq hz.1 hz.2) rfl ?_;rw[Addr.add_lit];refine .jG te.i.size _ b _ (λj=>f (z.toNat*te.i.size+j)) hb iA (λj hj=>hl _ (lj j hj)) (λj hj=>?_) (λj hj=>kk _ (lj j hj));have:=cell _ (lj j hj);rwa[<-dj]at this
      .cases h
     .cases h
    .cases h
   .cases h
  .cases h
 .cases h
def Zm(hT:lE P T){t:TypeId}{x:Operand}{lo hi:Option Operand}(il:o.op = .slice t x lo hi none)(r:iZ w0 B σ a w L)(h:jb P K T O σ o=some u)(ho:∀ q,q ∈ u.jo->q):jH P K w0 B σ o a w u:=by
 simp only[jb,il,Fk]at h;have hx:=r.op x;split at h
 .rename_i nl n sz el qC;rw[qC]at hx;split at h
  .rename_i tt qk;split at h
   .rename_i e hd;have hu:P.underlying t=some (.slice e):=by rw[hT.pC qk,hd]
    have he:=IS hu;have Bw:P.underlying t=some (.slice (P.elem t)):=by rw[he];exact hu
    split at h
    .rename_i te ou;split at h
     .rename_i hs;have hs:=lQ.1 hs;generalize hq:a.eval x=q at hx;cases hx with
      |sl _ _ _ _ A c f hc hm h0 hl uH cell kk=>
       have fin:∀ l h':Nat,l<=h'->h'<=n->iB (ja B L) (jF L) w (.sl nl (h'-l) sz λi j=>el (l+i) j) (sliced A l h' c te.i.size):=by
        intro l h' hlh hhn;unfold sliced;refine .sl nl (h'-l) sz _ _ (c-l) (λi j=>f (l+i) j) aC aC (λhA=>?_) (λi j hi hj=>hl _ _ aC hj) (λi j hi hj=>uH _ _ aC hj) (λi j hi hj=>?_) (λi j hi hj=>kk _ _ aC hj)
        .split at hA
         .have:=h0 hA;omega
         .have:=h0 (by simpa using hA);omega
        .obtain ⟨b,of,e1,hb,iA,kF⟩:=cell (l+i) j aC hj;subst e1;rw[aY aC];refine⟨b,of+l*te.i.size,by rw[cL,Addr.add_lit],hb,iA,?_⟩;rw[hs];rw[bR]at kF;rw[<-kF];congr 2;omega
       have run:∀ (l h':Nat) (lo' lR:Option Value),lo.map a.eval=lo'->hi.map a.eval=lR->(Instr.slice t (.slice A n c) lo' lR none).run P w = .ok (sliced A l h' c te.i.size) w ->
        (execOp a.eval o).run P w = .ok (.value (sliced A l h' c te.i.size)) w:=by
        intro l h' lo' lR e1 e2 hr;simp only[execOp,il,Sem.run_bind,hq,e1,e2,Option.map_none,run_sliceAt_slice (P:=P) w t _ _ _ _ Bw,hr,Result.andThen_ok,Sem.run_pure]
       split at h
       .rename_i kh hh tl wT;cases h;have hb:0<=hh/\hh<=n:=ho _ aH;cases lo with
        |some _=>simp at tl
        |none=>
         cases hi with
         |none=>simp at wT
         |some hi=>
          simp only[cL,bK]at wT;have hv:=r.op hi;rw[wT]at hv;have hv:=iB.jX hv;have hr:=run_slice_h (P:=P) w t A n c Bw kh hh hb.1 aC;rw[he,uY hT w ou]at hr;have hf:=fin 0 hh.toNat (bO _) aC ;simp only[ey,bW]at hf;exact jH.pure r (run 0 hh.toNat none (some (.int kh hh)) rfl (by rw[cL,hv]) hr) rfl hf
       .rename_i kl ll tl wT;cases h;have hb:0<=ll/\ll<=n:=ho _ aH;cases hi with
        |some _=>simp at wT
        |none=>
         cases lo with
         |none=>simp at tl
         |some lo=>
          simp only[cL,bK]at tl;have hv:=r.op lo;rw[tl]at hv;have hv:=iB.jX hv;have hr:=run_slice_l (P:=P) w t A n c Bw kl ll hb.1 hb.2;rw[he,uY hT w ou]at hr;exact jH.pure r (run ll.toNat n (some (.int kl ll)) none (by rw[cL,hv]) rfl hr) rfl (fin ll.toNat n aC (bd _))
       .rename_i kl ll kh hh tl wT;cases h;have hb:0<=ll/\ll<=hh/\hh<=n:=ho _ aH;cases hi with
        |none=>simp at wT
        |some hi=>
         cases lo with
         |none=>simp at tl
         |some lo=>
          simp only[cL,bK]at tl wT;have hv:=r.op lo;rw[tl]at hv;have hv:=iB.jX hv;have tA:=r.op hi;rw[wT]at tA;have tA:=iB.jX tA;have hr:=run_slice_lh (P:=P) w t A n c Bw kl kh ll hh hb.1 hb.2.1 aC;rw[he,uY hT w ou]at hr;exact jH.pure r (run ll.toNat hh.toNat (some (.int kl ll)) (some (.int kh hh)) (by rw[cL,hv]) (by rw[cL,tA]) hr) rfl (fin ll.toNat hh.toNat aC aC)
       .cases h
     .cases h
    .cases h
   .cases h
  .cases h
 .cases h
end
section
variable {P:Program} {K:World->Prop} {T:List TI} {O:oR} {w0:World} {B:Nat->Prop} {σ:PS} {o:Oper} {a:Act} {w:World} {L:Lk} {u:jV}
def Wq{x:Value}{l:List E}(h:(E.v x).cells? = some l):∀ e,e ∈ l->e.nr 2=true:=by
 intro e he;cases x<;>simp only[E.cells?]at h
 case agg cs=>
  split at h
  .cases h;obtain⟨q,_,rfl⟩:=dk.1 he;rfl
  .cases h
 all_goals
  split at h
  .cases h;simp only[List.mem_singleton]at he;subst he;rfl
  .cases h
def agO{ti:TI}{l:List E}(h:xA ti=some l):∀ e,e ∈ l->e.nr 2=true:=by
 unfold xA at h;split at h
 .exact Wq h
 .cases h
def Ko{l:List E}{vs:List Value}{bs br:Nat->Prop}(h:jJ bs br w l vs)(hl:l.all E.mv=true):∀ v ∈ vs,rI v=false:=by
 intro v hv;obtain⟨q,hq⟩:=dv.1 hv;have uK:q<l.length:=by rw[<-h.len];exact(b9.1 hq).1
 exact(h.ko q _ v (bt uK) hq).mv (bY.1 hl _ (ck uK))
def Q0{z:Array Value}{n q:Nat}(hz:0<z.size)(hq:q<n):(madeCells z n)[q]? = some (z[q%z.size]'(bC _ hz)):=by
 unfold madeCells;simp[hq];rw[eR z _ (bC _ hz)]
def Q1{z:Array Value}{n:Nat}(hz:0<z.size){v:Value}(hv:v ∈ madeCells z n):v ∈ z:=by
 unfold madeCells at hv;simp only[fz,fA]at hv;obtain⟨q,hq,rfl⟩:=hv;rw[eR z _ (bC _ hz)];exact fS _
def Zf(hT:lE P T){t:TypeId}{l c:Operand}(il:o.op = .makeSlice t l c)(r:iZ w0 B σ a w L)(h:jb P K T O σ o=some u)(ho:∀ q,q ∈ u.jo->q):jH P K w0 B σ o a w u:=by
 simp only[jb,il,Fj]at h;have hl:=r.op l;have hc:=r.op c;split at h
 .rename_i bx jo iV;obtain⟨id,Ps,lM,jE,rfl⟩:=Aj h;clear h;simp only[N7]at iV;split at iV
  rotate_left
  .cases iV
  rename_i kl zl kc zc zP hpc;rw[zP]at hl;rw[hpc]at hc;have hl:=iB.jX hl;have hc:=iB.jX hc;split at iV
  .rename_i tt qk;split at iV
   .rename_i e hd;have hu:P.underlying t=some (.slice e):=by rw[hT.pC qk,hd]
    split at iV
    .rename_i te ou;split at iV
     .rename_i z hz;split at iV
      .rename_i wS;simp only[bS]at wS;have c1:=lQ.1 wS.1;have c2:=cK wS.2;obtain⟨zv,vR,qD⟩:=Ez hz;obtain⟨q1,q2⟩:=qD (ja B L) (jF L) w;have zZ:zv.cells.size=te.i.size:=by have:=q1.len;simp only[dE]at this;omega
       have BB:0<zv.cells.size:= aC ;have key:∀ (h1:0<=zl/\zl<=zc) (h2:(te.i.bytes:Int)*zc<=281474976710656/\zc<=9223372036854775807),
        (execOp a.eval o).run P w = .ok (.value (.slice (some ⟨w.heap.size,0,none⟩) zl.toNat zc.toNat)) (w.alloc (.cells (madeCells zv.cells (zc.toNat*te.i.size)) e)):=by
        intro h1 h2;have hr:=run_make (P:=P) w t e te.i zv hu (hT.yx ou) vR kl kc zl zc h1.1 h1.2 h2.1 h2.2;simp only[execOp,il,hl,hc,Sem.run_bind,hr,Result.andThen_ok,Sem.run_pure]
       have hb:∀ o':Obj,Below w.heap.size w (w.alloc o'):=λo'=>(Below.refl _ _).alloc (bd _) _
       have lens:zl<=zc->zc<=9223372036854775807->zl.toNat<=zc.toNat/\zc.toNat<=maxLen:=by intro h1 h2;unfold maxLen;omega
       split at iV
       .
        rename_i e0 hd0;split at iV
        .rename_i t0 JW;obtain⟨y,ys,BA,hy,zJ⟩:=q1.lp;have hy:=iB.jX hy;have zJ:=zJ.o0;subst hy zJ;have Qk:zv.cells = #[.slice none 0 0]:=by apply dw;rw[BA]
         have kQ:te.i.size=1:=by rw[<-zZ,Qk];rfl
         cases iV;have h1:0<=zl/\zl<=zc:=ho _ aH;have h2:(te.i.bytes:Int)*zc<=281474976710656/\zc<=9223372036854775807:=ho _ aH;have hlen:=lens h1.2 h2.2;have FE:∀ v,v ∈ madeCells zv.cells (zc.toNat*te.i.size)->v = .slice none 0 0:=λv hv=>by
          have:=Q1 BB hv;rw[Qk]at this;simpa using this
         refine⟨_,_,_,.inl (key h1 h2),r.new id _ (λx=>x=w.heap.size) (.slice (some ⟨w.heap.size,0,none⟩) zl.toNat zc.toNat) (λ_=>.slice none 0 0) _ lM (λx hx=>by subst hx;simp) (hb _)
          ⟨w.heap.size,zc.toNat,_,λ_ _ _=>undef,Lk.nW,heap_alloc_new w _,hlen.1,hlen.2,by rw[size_madeCells,kQ,ch],λk hk _=>?_,λv hv=>?_,λk hk=>?_,λx=>?_,λk k' x hk PF h1=>?_,λk hk=>?_⟩ jE,Lk.yS,Lk.nW.symm⟩
         .rw [Lk.qs];have hq:k<zc.toNat*te.i.size:=by rw[kQ];omega
          have hg:=Q0 BB hq;rw[hg];exact congrArg some (FE _ (dF hg))
         .rw [FE v hv];exact⟨rfl,rfl⟩
         .rw [Lk.qs];exact⟨.inl ⟨rfl,rfl⟩,λi j hi=>absurd hi (bE i)⟩
         .rw [Lk.qW];simp only[Lk.qs,Value.ownBlock];simp
         .rw [Lk.qs]at h1;simp[Value.ownBlock]at h1
         .rw [Lk.qs];simp[Value.ownBlock]
        .cases iV
       .cases iV;have h1:0<=zl/\zl<=zc:=ho _ aH;have h2:(te.i.bytes:Int)*zc<=281474976710656/\zc<=9223372036854775807:=ho _ aH;have hlen:=lens h1.2 h2.2;refine⟨_,_,_,.inl (key h1 h2),r.new id _ (λx=>x=w.heap.size) (.slice (some ⟨w.heap.size,0,none⟩) zl.toNat zc.toNat) (λ_=>undef) _ lM (λx hx=>by subst hx;simp) (hb _)
         ⟨λ_ j=>zv.cells.getD j undef,.inr ⟨w.heap.size,zc.toNat,_,Lk.nW,heap_alloc_new w _,hlen.1,hlen.2,size_madeCells _ _,λi j hi hj=>?_,λhn v hv=>?_⟩,λx=>?_,λi j hi hj=>?_⟩ jE,Lk.yS,Lk.nW.symm⟩
        .have hq:i*te.i.size+j<zc.toNat*te.i.size:=by
          have:=bI te.i.size (aC:i+1<=zc.toNat);rw[bR,bT]at this;omega
         have JP:(i*te.i.size+j)%zv.cells.size=j:=by rw[zZ,bB,fu,bZ hj]
         have pU:j<zv.cells.size:= aC ;rw[Q0 BB hq];simp only[JP];have e1:zv.cells.getD j undef=zv.cells[j]:=by simp[pU]
         rw[e1];exact⟨rfl,q2 _ aH⟩
        .exact Ko q1 hn v (by have:=Q1 BB hv;simpa using this)
        .rw [Lk.qW,Lk.nW];simp only[Value.ownBlock,bK];exact eq_comm
        .have pU:j<zv.cells.size:= aC ;have JJ:j<z.length:= aC ;have e1:zv.cells.getD j undef=zv.cells[j]:=by simp[pU]
         simp only[e1];rw[bc,bt JJ];obtain⟨p1,_⟩:=qD (ja B (L.set id (λx=>x=w.heap.size) (.slice (some ⟨w.heap.size,0,none⟩) zl.toNat zc.toNat) (λ_=>undef))) (jF (L.set id (λx=>x=w.heap.size) (.slice (some ⟨w.heap.size,0,none⟩) zl.toNat zc.toNat) (λ_=>undef))) (w.alloc (.cells (madeCells zv.cells (zc.toNat*te.i.size)) e));exact⟨p1.ko j _ _ (bt JJ) (by simp[pU]),agO hz _ (ck JJ)⟩
      .cases iV
     .cases iV
    .cases iV
   .cases iV
  .cases iV
 .cases h
def Zb(hT:lE P T){x:Operand}{t:TypeId}{c:Call}(hc:c={ callee:=.builtin .len,args:=#[x],argTypes:=#[t] })(il:o.op = .call c){e:TypeId}(hd:uk T t=some (.slice e))(r:iZ w0 B σ a w L){rr:Value×List Nat}(h:s8 (σ.op x) σ=some rr)(hu:u={ r:=.e (.v rr.1),rb:=rr.2 }):jH P K w0 B σ o a w u:=by
 obtain⟨ti,h1,h2⟩:=xO hd;have P7:P.underlying t=some (.slice e):=by rw[hT.pC h1,h2]
 have he:=IS P7;have hx:=r.op x;have key:∀ (A:Option Addr) (n cp:Nat),a.eval x = .slice A n cp->rr.1 = .int .i64 (n:Int)->jH P K w0 B σ o a w u:=by
  intro A n cp e1 e2;have hr:=run_len_slice (P:=P) w t o.type A n cp (by rw[he];exact P7);subst hu;refine jH.pure r (v:=.int .i64 (n:Int)) ?_ rfl (by rw[e2];exact .v _);subst hc;have em:(#[x]:Array Operand).map a.eval = #[a.eval x]:= aH ;simp only[execOp,il,resolve,em,e1,Sem.run_bind,Sem.run_pure,Result.andThen_ok,invoke,builtin,hr];rfl
 cases hp:σ.op x with
 |e y=>
  rw[hp]at h hx;cases y with
  |sl nl n sz el=>
   simp only[s8,bK]at h;generalize hq:a.eval x=q at hx;cases hx with
   |sl _ _ _ _ A c f hc hm h0 hl uH cell kk=>exact key A n c hq (by rw[<-h])
  |v y=>
   have hx:=iB.jX hx;cases y with
   |slice A n cp=>
    simp only[s8,bK]at h;exact key A n cp hx (by rw[<-h])
   |_=>simp[s8]at h
  |_=>simp[s8]at h
 |own id=>
  rw[hp]at h hx;obtain⟨_,k2⟩:=hx;simp only[s8]at h;split at h
  .rename_i nl T1 n sz el jO;simp only[bK]at h;obtain⟨f,q1,_,_⟩:=r.hb id _ jO;rcases q1 with⟨q1,q0⟩|⟨b,c,cur,q1,_⟩
   .rw [q1]at k2;exact key none 0 0 k2 (by rw[<-h,q0])
   .rw [q1]at k2;exact key _ n c k2 (by rw[<-h])
  .rename_i nl T1 T0 n sz len el pend jO;simp only[bK]at h;obtain⟨b,c,cur,f,q1,_⟩:=r.hb id _ jO;rw[q1]at k2;exact key _ n c k2 (by rw[<-h])
  .cases h
 |_=>rw[hp]at h;simp[s8]at h
end
section
variable {P:Program} {K:World->Prop} {T:List TI} {O:oR} {w0:World} {B:Nat->Prop} {σ:PS} {o:Oper} {a:Act} {w:World} {L:Lk} {u:jV}
def pg.qt{v:Value}{T:TypeId}{n sz:Nat}{f:Nat->Nat->Value}{nl nl':Bool}(h:pg w v T n sz f nl)(k:nl'=true->nl=true):pg w v T n sz f nl':=by
 rcases h with h|⟨b,c,cur,h1,h2,h3,h4,h5,h6,h7⟩
 .exact .inl h
 .exact .inr ⟨b,c,cur,h1,h2,h3,h4,h5,h6,λq=>h7 (k q)⟩
def OM(hT:lE P T){s x:Operand}{t:TypeId}{c:Call}(hc:c={ callee:=.builtin .append,args:=#[s,x],argTypes:=#[t,t] })(il:o.op = .call c)(r:iZ w0 B σ a w L)
 (h:xQ T σ o.dst t (σ.op s) (σ.op x)=some u) (ho:∀ q,q ∈ u.jo->q):jH P K w0 B σ o a w u:=by
 have hs:=r.op s;have hx:=r.op x;simp only[xQ]at h;split at h
 .rename_i nl2 m sz2 el2 qC;rw[qC]at hx;split at h
  .rename_i tt qk;split at h
   .rename_i e hd;have hu:P.underlying t=some (.slice e):=by rw[hT.pC qk,hd]
    split at h
    .rename_i te ou;split at h
     .rename_i z hz;split at h
      .rename_i wS;simp only[bS]at wS;have c1:=lQ.1 wS.1.1.1;have c2:=cK wS.1.1.2;have c3:=cK wS.1.2;have c4:=lQ.1 wS.2;obtain⟨zv,vR,qD⟩:=Ez hz;obtain⟨q1,q2⟩:=qD (ja B L) (jF L) w;have zZ:zv.cells.size=sz2:=by have:=q1.len;simp only[dE]at this;omega
       generalize hqx:a.eval x=vx at hx;cases hx with
       |sl _ _ _ _ A cx g hgc hgm hg0 PD gnr gcell gk0=>
       have gk:=λi j hi hj=>And.intro (gk0 i j hi hj) (gnr i j hi hj)
       have key:∀ (v:Value) (n:Nat) (f:Nat->Nat->Value) (nl:Bool),a.eval s=v->pg w v e n sz2 f nl->(nl=true->nl2=true/\z.all E.mv=true)->(n+m)*te.i.bytes<=140737488355328 ->
        ∃ v' w',(execOp a.eval o).run P w = .ok (.value v') w'/\L5 w v e n sz2 m f g nl v' w':=by
        intro v n f nl hv oe jE jc;obtain⟨v',w',hr,mD⟩:=aeI P w t o.type e te.i zv sz2 hu (hT.yx ou) vR c1 zZ aC c3 (λu hu=>q2 u (by simpa using hu)) v n f nl oe A m cx g
         (λk j hk hj=>by obtain⟨b,of,e1,_,_,qB⟩:=gcell k j hk hj;exact⟨b,of,e1,qB⟩) (λhA=>by have:=hg0 hA;omega)
         (λk j hk hj=>⟨(PD k j hk hj).1,λhn=>(PD k j hk hj).2 (jE hn).1⟩) (λhn u hu=>Ko q1 (jE hn).2 u (by simpa using hu)) jc
        refine⟨v',w',?_,mD⟩;subst hc;have em:(#[s,x]:Array Operand).map a.eval = #[a.eval s,a.eval x]:= aH ;simp only[execOp,il,resolve,em,hv,hqx,Sem.run_bind,Sem.run_pure,Result.andThen_ok,invoke,builtin,hr]
       split at h
       .
        rename_i id C7;rw[C7]at hs;split at h
        .rename_i nl T1 n sz el jO;split at h
         .rename_i qB;simp only[bS]at qB;have d1:=lQ.1 qB.1.1;have d2:=lQ.1 qB.1.2;subst d1 d2;cases h;have jc:(n+m)*te.i.bytes<=140737488355328:=ho _ aH;obtain⟨f,p1,p2,p3⟩:=r.hb id _ jO;obtain⟨k1,k2⟩:=hs;have jE:(nl&&(nl2&&z.all E.mv))=true->nl2=true/\z.all E.mv=true:=λhn=>by simp only[bS]at hn;exact hn.2
          obtain⟨v',w',kP,mD⟩:=key (L.val id) n f _ k2 (p1.qt λhn=>by simp only[bS]at hn;exact hn.1) jE jc;have ht:qw L w id (λy=>v'.ownBlock=some y) w':=by
           refine⟨λy hy=>?_,mD.size,λy hy lM=>mD.oA y hy λe1=>lM ((p2 y).2 e1),mD.os,mD.tape,mD.output⟩;rcases mD.Ij y hy with e1|⟨e1,e2⟩
           .have:=(p2 y).2 e1;exact⟨.inl this,bM (r.hw id y this).2 mD.size⟩
           .exact ⟨.inr e1,e2⟩
          have hl:=ht.later v' (L.iW id);have hpt:∀ b,L.val id ≠ .pointer (some b):=λb e1=>by
           rcases p1 with⟨e2,_⟩|⟨_,_,_,e2,_⟩<;>rw[e1]at e2<;>cases e2
          refine⟨v',w',_,.inl kP,r.qi id _ _ v' w' hpt ht ⟨λi j=>if i<n then f i j else g (i-n) j,by rw[Lk.nW];exact mD.own,λy=>by rw[Lk.qW,Lk.nW],λi j hi hj=>(λ(q:iB _ _ _ _ _/\_)=>⟨hl.ko q.1,q.2⟩) (?_:_/\_)⟩ (λhn=>?_),Lk.yS,Lk.nW.symm⟩
          .by_cases lj:i<n
           .simp only[lj,bD];exact p3 i j lj hj
           .simp only[lj,bq];exact gk _ _ aC hj
          .have:=qB.2;rw[hn]at this;simpa[Bx.nl]using this
         .cases h
        .cases h
       .
        rename_i id k C7;rw[C7]at hs;split at h
        .rename_i nl T1 T0 n sz len el jO;split at h
         .rename_i qB;simp only[bS]at qB;have d1:=lQ.1 qB.1.1;have d2:=lQ.1 qB.1.2;subst d1 d2;cases h;have hk:k<n:=ho _ aH;have jc:(len k+m)*te.i.bytes<=140737488355328:=ho _ aH;obtain⟨b,cp,cur,f,p1,p2,p3,p4,p5,p6,p7,p8,p9,p10,p11⟩:=r.hb id _ jO;obtain⟨k1,k2⟩:=hs;have jE:nl=true->nl2=true/\z.all E.mv=true:=λhn=>by have:=qB.2;rw[hn]at this;simpa using this
          obtain⟨v',w',kP,mD⟩:=key (L.iW id k) (len k) (f k) nl k2 (p8 k hk).1 jE jc;have Bk:∀ y,v'.ownBlock=some y->(L.iW id k).ownBlock=some y\/(w.heap.size<=y/\y<w'.heap.size):=mD.Ij;have Pj:b<w.heap.size:=(r.hw id b ((p9 b).2 (.inl rfl))).2;have JH:∀ q y,q<n->(L.iW id q).ownBlock=some y->y<w.heap.size:=λq y hq hy=>(r.hw id y ((p9 y).2 (.inr ⟨q,hq,hy⟩))).2
          have ht:qw L w id (λy=>y=b\/∃ q,q<n/\(if q=k then v' else L.iW id q).ownBlock=some y) w':=by
           refine⟨λy hy=>?_,mD.size,λy hy lM=>mD.oA y hy λe1=>lM ((p9 y).2 (.inr ⟨k,hk,e1⟩)),mD.os,mD.tape,mD.output⟩;rcases hy with rfl|⟨q,hq,hy⟩
           .exact ⟨.inl ((p9 y).2 (.inl rfl)),bM Pj mD.size⟩
           .by_cases rG:q=k
            .subst rG;rw[aZ rfl]at hy;rcases Bk y hy with e1|⟨e1,e2⟩
             .have:=(p9 y).2 (.inr ⟨q,hq,e1⟩);exact⟨.inl this,bM (r.hw id y this).2 mD.size⟩
             .exact ⟨.inr e1,e2⟩
            .rw [aY rG]at hy;have:=(p9 y).2 (.inr ⟨q,hq,hy⟩);exact⟨.inl this,bM (r.hw id y this).2 mD.size⟩
          have hl:=ht.later (L.val id) (λq=>if q=k then v' else L.iW id q);have FL:∀ y,y<w.heap.size->(L.iW id k).ownBlock≠some y->w'.heap[y]? = w.heap[y]?:=mD.oA;refine⟨v',w',_,.inl kP,r.uw id _ _ (λq=>if q=k then v' else L.iW id q) w' ht
           ⟨b,cp,cur,λq i j=>if q=k then(if i<len q then f q i j else g (i-len q) j)else f q i j,by rw[Lk.nW];exact p1,by rw[FL b Pj (p11 k hk)];exact p2,p3,p4,p5,λq hq rG=>?_,p7,λq hq=>?_,λy=>?_,λq q' y hq sE hy yp=>?_,λq hq hy=>?_⟩ (λhn=>?_),Lk.yS,?_⟩
          .have kG:q≠k:=λe1=>rG (by rw[e1])
           rw[Lk.qs,aY kG];exact p6 q hq aH 
          .rw [Lk.qs];by_cases rG:q=k
           .subst rG;simp only[bD];refine⟨mD.own,λi j hi hj=>(λ(q:iB _ _ _ _ _/\_)=>⟨hl.ko q.1,q.2⟩) (?_:_/\_)⟩;by_cases lj:i<len q
            .simp only[lj,bD];exact(p8 q hq).2 i j lj hj
            .simp only[lj,bq];exact gk _ _ aC hj
           .simp only[rG,bq];obtain⟨s1,s2⟩:=p8 q hq;exact⟨s1.block λy hy=>FL y (JH q y hq hy) λe1=>rG (p10 q k y hq hk hy e1),λi j hi hj=>⟨hl.ko (s2 i j hi hj).1,(s2 i j hi hj).2⟩⟩
          .rw [Lk.qW];simp only[Lk.qs]
          .simp only[Lk.qs]at hy yp;by_cases h1:q=k
           .subst h1;by_cases h2:q'=q
            .exact h2.symm
            .rw [aZ rfl]at hy;rw[aY h2]at yp;rcases Bk y hy with e1|⟨e1,_⟩
             .exact p10 q q' y hq sE e1 yp
             .have:=JH q' y sE yp;omega
           .rw [aY h1]at hy;by_cases h2:q'=k
            .subst h2;rw[aZ rfl]at yp;rcases Bk y yp with e1|⟨e1,_⟩
             .exact p10 q q' y hq sE hy e1
             .have:=JH q y hq hy;omega
            .rw [aY h2]at yp;exact p10 q q' y hq sE hy yp
          .simp only[Lk.qs]at hy;by_cases h1:q=k
           .subst h1;rw[aZ rfl]at hy;rcases Bk b hy with e1|⟨e1,_⟩
            .exact p11 q hq e1
            .omega
           .rw [aY h1]at hy;exact p11 q hq hy
          .have:=r.hl hn id _ jO;exact this
          .rw [Lk.qs,aZ rfl]
         .cases h
        .cases h
       .
        rename_i C7;rw[C7]at hs;have hs:=iB.jX hs;obtain⟨id,Ps,lM,FT,rfl⟩:=Aj h;have jc:m*te.i.bytes<=140737488355328:=ho _ aH;obtain⟨v',w',kP,mD⟩:=key _ 0 g (nl2&&z.all E.mv) hs (.inl ⟨rfl,rfl⟩) (λhn=>by simpa using hn) (by simpa using jc);have hb:Below w.heap.size w w':=⟨mD.os,mD.tape,mD.output,mD.size,λy hy=>mD.oA y hy (by simp[Value.ownBlock])⟩
        have hO:∀ y,v'.ownBlock=some y->w.heap.size<=y/\y<w'.heap.size:=λy hy=>by
         rcases mD.Ij y hy with e1|e1
         .simp [Value.ownBlock]at e1
         .exact e1
        have ht:qw L w id (λy=>v'.ownBlock=some y) w':=⟨λy hy=>⟨.inr (hO y hy).1,(hO y hy).2⟩,hb.size,λy hy _=>hb.block y hy,hb.os,hb.tape,hb.output⟩
        have hl:=ht.later v' (λ_=>undef);have oe:=mD.own;rw[bW]at oe;refine⟨v',w',_,.inl kP,r.new id _ (λy=>v'.ownBlock=some y) v' (λ_=>undef) w' lM hO hb ⟨λi j=>if i<0 then g i j else g (i-0) j,by rw[Lk.nW];exact oe,λy=>by rw[Lk.qW,Lk.nW],λi j hi hj=>(λ(q:iB _ _ _ _ _/\_)=>⟨hl.ko q.1,q.2⟩) (?_:_/\_)⟩ FT,Lk.yS,Lk.nW.symm⟩;simp only[bE,bq,ey];exact gk i j hi hj
       .cases h
      .cases h
     .cases h
    .cases h
   .cases h
  .cases h
 .cases h
def YZ(hT:lE P T)(hB:∀ b,B b->b<w0.heap.size){s x:Operand}{t:TypeId}{c:Call}(hc:c={ callee:=.builtin .append,args:=#[s,x],argTypes:=#[t,t] })(il:o.op = .call c)(r:iZ w0 B σ a w L)
 (h:zz T σ o.dst t (σ.op s) (σ.op x)=some u) (ho:∀ q,q ∈ u.jo->q):jH P K w0 B σ o a w u:=by
 unfold zz at h;split at h
 .rename_i u0 h0;split at h
  .rename_i id nl T1 n sz el id' hf hr;split at h
   .rename_i hid;have hid:=lQ.1 hid;subst hid;cases h;have r2:iZ w0 B { σ with nl:=false } a w L:=⟨r.hd,r.hs,r.ht,r.hb,r.hv,r.hn,r.hw,r.hi,r.he,λh=>by cases h⟩
    obtain⟨v,w',L1,kP,hrel,qD⟩:=OM (K:=K) hT hc il r2 h0 λq hq=>ho q (List.mem_cons_of_mem _ hq)
    rw[hf]at hrel;rw[hr]at qD;obtain⟨L',k1,k2⟩:=iZ.fin hB hrel;refine⟨v,w',L',kP,⟨k1.hd,k1.hs,k1.ht,k1.hb,k1.hv,k1.hn,k1.hw,k1.hi,k1.he,λhn i b hb=>r.hl hn i b ?_⟩,?_⟩
    .have hb:look (σ.b.filter λx=>!Nat.beq x.1 id') i=some b:=hb;rw[Kr]at hb;split at hb
     .cases hb
     .exact hb
    rw[qD.2];exact k2
   .cases h
  .cases h
 .cases h
def Zg{x y:Operand}{c:Call}(hc:c.callee = .builtin .max/\c.args = #[x,y])(il:o.op = .call c)(r:iZ w0 B σ a w L){k k':IntKind}{p q:Int}(hx:σ.op x = .e (.v (.int k p)))(hy:σ.op y = .e (.v (.int k' q)))
 (hu:u={ r:=.e (.v (.int k (if q>p then q else p))) }):jH P K w0 B σ o a w u:=by
 have h1:=r.op x;have h2:=r.op y;rw[hx]at h1;rw[hy]at h2;have h1:=iB.jX h1;have h2:=iB.jX h2;subst hu;refine jH.pure r (v:=.int k (if q>p then q else p)) ?_ rfl (.v _);have em:(#[x,y]:Array Operand).map a.eval = #[.int k p,.int k' q]:=by simp[h1,h2]
 simp only[execOp,il,resolve,hc.1,hc.2,em,Sem.run_bind,Sem.run_pure,Result.andThen_ok,invoke,builtin,run_max_int2]
def Zh{x y z:Operand}{c:Call}(hc:c.callee = .builtin .max/\c.args = #[x,y,z])(il:o.op = .call c)(r:iZ w0 B σ a w L){k k' k'':IntKind}{p q s:Int}(hx:σ.op x = .e (.v (.int k p)))(hy:σ.op y = .e (.v (.int k' q)))(hz:σ.op z = .e (.v (.int k'' s)))
 (hu:u={ r:=.e (.v (.int k (if s>(if q>p then q else p)then s else(if q>p then q else p)))) }):jH P K w0 B σ o a w u:=by
 have h1:=r.op x;have h2:=r.op y;have h3:=r.op z;rw[hx]at h1;rw[hy]at h2;rw[hz]at h3;have h1:=iB.jX h1;have h2:=iB.jX h2;have h3:=iB.jX h3;subst hu;refine jH.pure r (v:=.int k (if s>(if q>p then q else p)then s else(if q>p then q else p))) ?_ rfl (.v _);have em:(#[x,y,z]:Array Operand).map a.eval = #[.int k p,.int k' q,.int k'' s]:=by simp[h1,h2,h3]
 simp only[execOp,il,resolve,hc.1,hc.2,em,Sem.run_bind,Sem.run_pure,Result.andThen_ok,invoke,builtin,run_max_int3]
def Zi{x y:Operand}{c:Call}(hc:c.callee = .builtin .min/\c.args = #[x,y])(il:o.op = .call c)(r:iZ w0 B σ a w L){k k':IntKind}{p q:Int}(hx:σ.op x = .e (.v (.int k p)))(hy:σ.op y = .e (.v (.int k' q)))
 (hu:u={ r:=.e (.v (.int k (if q<p then q else p))) }):jH P K w0 B σ o a w u:=by
 have h1:=r.op x;have h2:=r.op y;rw[hx]at h1;rw[hy]at h2;have h1:=iB.jX h1;have h2:=iB.jX h2;subst hu;refine jH.pure r (v:=.int k (if q<p then q else p)) ?_ rfl (.v _);have em:(#[x,y]:Array Operand).map a.eval = #[.int k p,.int k' q]:=by simp[h1,h2]
 simp only[execOp,il,resolve,hc.1,hc.2,em,Sem.run_bind,Sem.run_pure,Result.andThen_ok,invoke,builtin,run_min_int2]
end
structure Gd(P:Program)(K:World->Prop)(w0:World)(B:Nat->Prop):Prop where
 k:K w0
 KZ:∀ w w',K w->Below w.heap.size w w'->K w'
 hB:∀ b,B b->b<w0.heap.size/\nC w0 b
def nC.BS{w w':World}{b:Nat}(h:nC w b)(hb:w'.heap[b]? = w.heap[b]?):nC w' b:=by
 intro o x e;exact h o x (by rw[<-e];exact(World.cell?_of_block (w:=w) (w':=w') hb).symm)
def nC.KP{w:World}{b:Nat}{cs:Array Value}{T:TypeId}{fr:Nat×Nat}(hg:w.heap[b]? = some (.cells cs T fr))(h:∀ v,v ∈ cs->rI v=false):nC w b:=by
 intro o x e;simp only[World.cell?,hg]at e;simp only[Option.isSome_none,bA,bq]at e;have:=h _ (dF e);cases this
section
variable {P:Program} {K:World->Prop} {T:List TI} {O:oR} {w0:World} {B:Nat->Prop} {σ:PS} {o:Oper} {a:Act} {w:World} {L:Lk} {u:jV}
def pg.Gl{v:Value}{T:TypeId}{n sz:Nat}{f:Nat->Nat->Value}(h:pg w v T n sz f true){x:Nat}(hx:v.ownBlock=some x):nC w x:=by
 rcases h with⟨rfl,_⟩|⟨b,c,cur,rfl,hg,_,_,_,_,jE⟩
 .simp [Value.ownBlock]at hx
 .simp [Value.ownBlock]at hx;subst hx;exact nC.KP hg (jE rfl)
def qu.Gl{id:Nat}{b:Bx}(h:qu (ja B L) (jF L) L w id b)(hn:b.nl=true){x:Nat}(hx:L.own id x):nC w x:=by
 cases b with
 |cells T l=>
  obtain⟨b,vs,h1,h2,h3,h4,h5⟩:=h;obtain rfl:=(h2 x).1 hx;exact nC.KP h3 λv hv=>Ko h4 hn v (by simpa using hv)
 |row nl T n sz el=>
  obtain⟨f,h1,h2,h3⟩:=h;have hn:nl=true:=hn;subst hn;exact h1.Gl ((h2 x).1 hx)
 |lf nl T1 T0 n sz len el pend=>
  obtain⟨b,c,cur,f,h1,h2,h3,h4,h5,h6,h7,h8,h9,sw,tf⟩:=h;have hn:nl=true:=hn;subst hn;rcases(h9 x).1 hx with rfl|⟨k,hk,hkx⟩
  .exact nC.KP h2 λv hv=>(h7 v hv).2
  .exact (h8 k hk).1.Gl hkx
def iZ.MJ(g:Gd P K w0 B)(r:iZ w0 B σ a w L)(hn:σ.nl=true):∀ b,ja B L b->b<w.heap.size/\nC w b:=by
 intro b hb;rcases hb with hb|⟨id,hb⟩
 .obtain ⟨h1,h2⟩:=g.hB b hb;exact⟨bM h1 r.he.size,h2.BS (r.he.block b h1)⟩
 .refine ⟨(r.hw id b hb).2,?_⟩;have hl:=(r.hv id).1 (r.hn id b hb);obtain⟨bx,iV⟩:=fX.1 hl;exact(r.hb id bx iV).Gl (r.hl hn id bx iV) hb
def qu.jG{id:Nat}{Tt:TypeId}{l:List E}(h:qu (ja B L) (jF L) L w id (.cells Tt l)){b:Nat}(hv:L.val id = .pointer (some ⟨b,0,none⟩))(iA:∀ x,L.own id x->x<w.heap.size):
 iB (ja B L) (λ_=>False) w (.jG l.length λj=>l.getD j .any) (.pointer (some ⟨b,0,none⟩)):=by
 obtain⟨b',vs,h1,h2,h3,h4,h5⟩:=h;rw[hv]at h1;cases h1;refine .jG _ _ b 0 (λj=>vs.getD j undef) (λh=>h) (iA b ((h2 b).2 rfl)) (λj hj=>?_) (λj hj=>?_) (λj hj=>?_)
 .have pU:j<vs.length:=by rw[h4.len];exact hj
  rw[bc,bt pU];exact h5 _ (ck pU)
 .have pU:j<vs.length:=by rw[h4.len];exact hj
  simp only[World.cell?,h3];simp[pU]
 .have pU:j<vs.length:=by rw[h4.len];exact hj
  rw[bc,bt hj,bc,bt pU];exact(h4.ko j _ _ (bt hj) (bt pU)).qt (λ_ h=>h) (λ_ h=>h.elim)
def CV.Fo(r:iZ w0 B σ a w L){c:CV}{e:E}{is:List Nat}(h:c.ext σ=some (e,is)){v:Value}(hv:wA (ja B L) (jF L) L w c v):iB (ja B L) (λ_=>False) w e v:=by
 cases c with
 |e x=>simp only[CV.ext,bK,ca]at h;obtain⟨rfl,_⟩:=h;exact hv.qt (λ_ h=>h) (λ_ h=>h.elim)
 |box id=>
  simp only[CV.ext]at h;split at h
  .rename_i Tt l jO;simp only[bK,ca]at h;obtain⟨rfl,_⟩:=h;obtain⟨_,b,k2,rfl⟩:=hv;exact(r.hb id _ jO).jG k2 λx hx=>(r.hw id x hx).2
  .cases h
def Od(r:iZ w0 B σ a w L){l:List CV}{es:List E}{is:List Nat}(h:vv σ l=some (es,is)){vs:List Value}(hlen:vs.length=l.length)
 (hv:∀ (i:Nat) (c:CV) (x:Value),l[i]? = some c->vs[i]? = some x->wA (ja B L) (jF L) L w c x):jJ (ja B L) (λ_=>False) w es vs:=by
 induction l generalizing es is vs with
 |nil=>simp only[vv,bK,ca]at h;obtain⟨rfl,_⟩:=h;obtain rfl:=du hlen;exact .nil _ _ _
 |cons c l ih=>
  cases vs with
  |nil=>simp at hlen
  |cons v vs=>
   simp only[vv]at h;split at h
   .rename_i x i xs js h1 h2;simp only[bK,ca]at h;obtain⟨rfl,_⟩:=h;exact .cons (CV.Fo r h1 (hv 0 c v rfl rfl)) (ih h2 (by simpa using hlen) λi c x hc hx=>hv (i+1) c x (by simpa using hc) (by simpa using hx))
   .cases h
def PV.Fo(r:iZ w0 B σ a w L){p:PV}{e:E}{is:List Nat}(h:p.ext σ=some (e,is))(lM:p.Ac=false){v:Value}(hv:mH (ja B L) (jF L) L w p v):iB (ja B L) (λ_=>False) w e v:=by
 cases p with
 |e x=>simp only[PV.ext,bK,ca]at h;obtain⟨rfl,_⟩:=h;exact iB.qt (λ_ h=>h) (λ_ h=>h.elim) hv
 |box id off=>
  cases off with
  |succ=>simp[PV.ext]at h
  |zero=>
   simp only[PV.ext]at h;split at h
   .rename_i Tt l jO;simp only[bK,ca]at h;obtain⟨rfl,_⟩:=h;obtain⟨_,b,k2,rfl⟩:=hv;exact(r.hb id _ jO).jG k2 λx hx=>(r.hw id x hx).2
   .cases h
 |sj f cap=>
  simp only[PV.ext]at h;split at h
  .rename_i xs js h1;simp only[bK,ca]at h;obtain⟨rfl,_⟩:=h;obtain⟨vs,rfl,k2,k3⟩:=hv;have:=Od r h1 k2 k3;exact .fn f xs vs this.len this.ko
  .cases h
 |own id=>cases lM
 |_=>simp[PV.ext]at h
def PV.Ym(r:iZ w0 B σ a w L){p:PV}{e:E}{is:List Nat}(h:p.ext σ=some (e,is)){v:Value}(hv:mH (ja B L) (jF L) L w p v):iB (λ_=>False) (λ_=>False) w e v:=by
 by_cases lM:p.Ac=false
 .exact (PV.Fo r h lM hv).qt (λ_ h=>h.elim) (λ_ h=>h)
 .cases p with
  |own id=>
   obtain⟨_,rfl⟩:=hv;simp only[PV.ext]at h;split at h
   .rename_i nl T n sz el jO;simp only[bK,ca]at h;obtain⟨rfl,_⟩:=h;obtain⟨f,h1,h2,h3⟩:=r.hb id _ jO;generalize Qb:L.val id=v at *
    rcases h1 with⟨rfl,rfl⟩|⟨b,c,cur,rfl,hg,oI,nG,mJ,kF,jE⟩
    .exact .sl nl 0 sz el none 0 f (bd _) aE (λ_=>rfl) (λi j hi=>absurd hi (bE i)) (λi j hi=>absurd hi (bE i)) (λi j hi=>absurd hi (bE i)) (λi j hi=>absurd hi (bE i))
    .have qj:=(h2 b).2 rfl;refine .sl nl n sz el _ c f oI (by unfold maxLen at nG;omega) (λh=>by cases h) (λi j hi hj=>⟨(kF i j hi hj).2,λhn=>jE hn _ (dF (kF i j hi hj).1)⟩) (λi j hi hj=>(h3 i j hi hj).2)
      (λi j hi hj=>⟨b,0,rfl,λh=>h,(r.hw id b qj).2,?_⟩) (λi j hi hj=>((h3 i j hi hj).1.qt (λ_ h=>h.elim) (λ_ h=>h)).nr 2 (h3 i j hi hj).2)
     rw[bW];simp only[World.cell?,hg];simpa using(kF i j hi hj).1
   .cases h
  |_=>exact absurd rfl lM
def Mt(r:iZ w0 B σ a w L){l:List Operand}{es:List E}{is:List Nat}(h:sY σ l=some (es,is)):jJ (λ_=>False) (λ_=>False) w es (l.map a.eval):=by
 induction l generalizing es is with
 |nil=>simp only[sY,bK,ca]at h;obtain⟨rfl,_⟩:=h;exact .nil _ _ _
 |cons x l ih=>
  simp only[sY]at h;split at h
  .rename_i y i xs js h1 h2;simp only[bK,ca]at h;obtain⟨rfl,_⟩:=h;exact .cons (PV.Ym r h1 (r.op x)) (ih h2)
  .cases h
def Ms(r:iZ w0 B σ a w L){l:List Operand}{es:List E}{is:List Nat}(h:sY σ l=some (es,is))(lM:(l.map σ.op).any PV.Ac=false):jJ (ja B L) (λ_=>False) w es (l.map a.eval):=by
 induction l generalizing es is with
 |nil=>simp only[sY,bK,ca]at h;obtain⟨rfl,_⟩:=h;exact .nil _ _ _
 |cons x l ih=>
  simp only[sY]at h;split at h
  .rename_i y i xs js h1 h2;simp only[bK,ca]at h;obtain⟨rfl,_⟩:=h;simp only[eO,gS,ez]at lM;exact .cons (PV.Fo r h1 lM.1 (r.op x)) (ih h2 lM.2)
  .cases h
def EB(P:Program)(K:World->Prop)(w0:World)(B:Nat->Prop)(σ:PS)(o:Oper)(a:Act)(w:World)(u:jV):Prop:=
 ∀ (Kc:Act->World->Prop) (Q:Exit->Act->World->Prop),(∀ v w' L',iZ w0 B (σ.pG u.f) a w' L'->mH (ja B L') (jF L') L' w' u.r v->Kc (a.put o.dst v) w')->o.wp P a w Kc Q
def jH.nv(h:jH P K w0 B σ o a w u):EB P K w0 B σ o a w u:=by
 intro Kc Q hk;obtain⟨v,w',L',kP,hr,hp⟩:=h;unfold Oper.wp;rcases kP with kP|⟨kP,rfl⟩
 .rw [kP];exact hk v w' L' hr hp
 .rw [kP];exact hk _ w' L' hr hp
def NO(g:Gd P K w0 B)(r:iZ w0 B σ a w L){c:Call}{f:Operand}(il:o.op = .call c)(hf:c.callee = .value f){gf:FuncId}{xs ys:List E}{is:List Nat}{us:List Value}
 {ow:Bool} (yg:a.eval f = .func (.func gf) #[] us.toArray) (aax:jJ (λ_=>False) (λ_=>False) w xs (c.args.toList.map a.eval)) (oJ:ow=false->jJ (ja B L) (λ_=>False) w xs (c.args.toList.map a.eval)) (w8:jJ (ja B L) (λ_=>False) w ys us)
 (h:xR P K O σ o.dst gf (xs++ys) is ow=some u) (ho:∀ q,q ∈ u.jo->q):EB P K w0 B σ o a w u:=by
 intro Kc Q hk;simp only[xR]at h;split at h
 .rename_i jL Da;split at h
  .rename_i hc;cases h;have pc:PC P K gf (xs++ys) jL:=ho _ aH;have Z3:=aax.app (w8.mono λ_ _=>iB.qt (bs':=λ_=>False) (λ_ h=>h.elim) (λ_ h=>h));have kP:(execOp a.eval o).run P w = .ok (.enter gf ((c.args.toList.map a.eval)++us).toArray) w:=by
    have e1:c.args.map a.eval=(c.args.toList.map a.eval).toArray:=by apply dw;simp
    have e2:#[]++(c.args.toList.map a.eval).toArray++us.toArray=((c.args.toList.map a.eval)++us).toArray:= aH ;simp only[execOp,il,resolve,hf,yg,Deferred.ofValue,Sem.run_bind,Sem.run_pure,Result.andThen_ok,invoke,e1,e2,pc.call]
   unfold Oper.wp;rw[kP];show Calls P gf _ w _;have hK:K w:=g.KZ _ _ g.k r.he;by_cases zP:jL.plain 3=true
   .refine (pc.run w (λ_=>False) _ hK (λ_ h=>h.elim) Z3).mono ?_;rintro e w' ⟨v,rfl,hb,hv⟩;exact hk v w' L (r.later hb) (iB.plain (w:=w') hv 3 zP)
   .have hn:σ.nl=true/\ow=false:=by simpa[zP]using hc
    refine(pc.run w (ja B L) _ hK (r.MJ g hn.1) ((oJ hn.2).app w8)).mono ?_;rintro e w' ⟨v,rfl,hb,hv⟩;exact hk v w' L (r.later hb) (iB.qt (λ_ h=>h) (λ_ _=>trivial) hv)
  .split at h
   .rename_i hc;cases h;have pc:ED P K gf (xs++ys) jL:=ho _ aH;have kP:(execOp a.eval o).run P w = .ok (.enter gf ((c.args.toList.map a.eval)++us).toArray) w:=by
     have e1:c.args.map a.eval=(c.args.toList.map a.eval).toArray:=by apply dw;simp
     have e2:#[]++(c.args.toList.map a.eval).toArray++us.toArray=((c.args.toList.map a.eval)++us).toArray:= aH ;simp only[execOp,il,resolve,hf,yg,Deferred.ofValue,Sem.run_bind,Sem.run_pure,Result.andThen_ok,invoke,e1,e2,pc.call]
    unfold Oper.wp;rw[kP];show Calls P gf _ w _;have hK:K w:=g.KZ _ _ g.k r.he;have hn:ow=false:=by simpa using hc
    refine(pc.run w (ja B L) _ hK (λb hb=>?_) ((oJ hn).app w8)).mono ?_
    .rcases hb with hb|⟨id,hb⟩
     .exact bM (g.hB b hb).1 r.he.size
     .exact (r.hw id b hb).2
    .rintro e w' ⟨v,rfl,hb,hv⟩;exact hk v w' L (r.later hb) (iB.qt (λ_ h=>h) (λ_ _=>trivial) hv)
   .cases h
 .split at h
  .rename_i d hd;split at h
   .rename_i nl T n sz el hnw lM;split at h
    .rename_i hc;cases h;simp only[bS]at hc;have pc:sW P K gf (xs++ys) nl T n sz el:=ho _ aH;have kP:(execOp a.eval o).run P w = .ok (.enter gf ((c.args.toList.map a.eval)++us).toArray) w:=by
      have e1:c.args.map a.eval=(c.args.toList.map a.eval).toArray:=by apply dw;simp
      have e2:#[]++(c.args.toList.map a.eval).toArray++us.toArray=((c.args.toList.map a.eval)++us).toArray:= aH ;simp only[execOp,il,resolve,hf,yg,Deferred.ofValue,Sem.run_bind,Sem.run_pure,Result.andThen_ok,invoke,e1,e2,pc.call]
     unfold Oper.wp;rw[kP];show Calls P gf _ w _;have hK:K w:=g.KZ _ _ g.k r.he;have hn:ow=false:=by simpa using hc.2
     refine(pc.run w (ja B L) _ hK (r.MJ g hc.1.1) ((oJ hn).app w8)).mono ?_
     .rintro e w' ⟨v,rfl,hb,gg,oe,Bk,Pv⟩;have hl:=(r.later hb)
      have aap:=r.new d (.row nl T n sz el) (λx=>v.ownBlock=some x) v (λ_=>undef) w' lM Bk hb
       ⟨gg,by rw[Lk.nW];exact oe,λx=>by rw[Lk.qW,Lk.nW],λi j hi hj=>⟨?_,(Pv i j hi hj).2⟩⟩ (by simp[Bx.nl,hc.1.2])
      .exact hk v w' _ aap ⟨Lk.yS,Lk.nW.symm⟩
      .refine (Pv i j hi hj).1.qt (λb h=>?_) (λ_ _=>trivial);rcases h with h|⟨id,h⟩
       .exact .inl (.inl h)
       .by_cases e:id=d
        .subst e;exact .inr ((Lk.qW b).1 h)
        .exact .inl (.inr ⟨id,(Lk.yT e b).1 h⟩)
    .cases h
   .cases h
  .cases h
def IW(hT:lE P T)(g:Gd P K w0 B)(r:iZ w0 B σ a w L)(h:jb P K T O σ o=some u)(ho:∀ q,q ∈ u.jo->q):EB P K w0 B σ o a w u:=by
 cases il:o.op with
 |move x=>exact(Zj (P:=P) (K:=K) il r h).nv
 |assign x=>exact(Y0 (P:=P) (K:=K) il r h).nv
 |pick c x y=>exact(Zl (P:=P) (K:=K) il r h).nv
 |alloc t=>exact(YY hT il r h).nv
 |box t x=>exact(Y2 (P:=P) (K:=K) il r h).nv
 |build t ps=>exact(Y3 hT il r h).nv
 |buildSlice t n ps=>exact(Y4 hT (λb hb=>(g.hB b hb).1) il r h).nv
 |load t x=>exact(Zc hT il r h ho).nv
 |store t x y=>exact(Zn hT il r h ho).nv
 |nilCheck x=>exact(Zk (P:=P) (K:=K) il r h).nv
 |binOp op t x y yt=>exact(Y1 hT il r h ho).nv
 |unOp op t x=>exact(Zo (P:=P) (K:=K) il r h ho).nv
 |convert s d x=>exact(Y5 hT il r h).nv
 |makeFunc fn first cap=>exact(Ze (P:=P) (K:=K) il r h).nv
 |makeSlice t l c=>exact(Zf hT il r h ho).nv
 |slice t x lo hi mx=>
  cases mx with
  |none=>exact(Zm hT il r h ho).nv
  |some=>simp[jb,il]at h
 |fieldAddr t x f=>exact(Y8 hT il r h).nv
 |indexAddr t x i=>exact(Za hT il r h ho).nv
 |index t x i=>exact(Y9 hT il r h ho).nv
 |field t x f=>exact(Y7 hT il r h).nv
 |lookup t x i ok=>exact(Zd hT il r h ho).nv
 |extract x i=>exact(Y6 (P:=P) (K:=K) il r h).nv
 |call c=>
  obtain⟨callee,args,ats⟩:=c;cases callee with
  |builtin b=>
   simp only[jb,il]at h;cases b
   case len=>
    dsimp only at h;split at h
    .rename_i x t hx ht;have ha:args = #[x]:=by apply dw;simpa using hx
     have F0:ats = #[t]:=by apply dw;simpa using ht
     split at h
     .rename_i e hd;obtain⟨rr,hr,rfl⟩:=cJ.1 h;exact(Zb hT (by rw[ha,F0]) il hd r hr rfl).nv
     .cases h
    .cases h
   case append=>
    dsimp only at h;split at h
    .rename_i s x t t' hx ht;have ha:args = #[s,x]:=by apply dw;simpa using hx
     have F0:ats = #[t,t']:=by apply dw;simpa using ht
     split at h
     .rename_i qk;have qk:=lQ.1 qk;subst qk;split at h
      .exact (YZ hT (λb hb=>(g.hB b hb).1) (by rw[ha,F0]) il r h ho).nv
      .exact (OM hT (by rw[ha,F0]) il r h ho).nv
     .cases h
    .cases h
   case max=>
    dsimp only at h;split at h
    .rename_i k p k' q hx;rcases args with⟨l⟩
     rcases l with _|⟨x,_|⟨y,_|⟨z,l⟩⟩⟩<;>simp at hx
     cases h;exact(Zg (P:=P) (K:=K) ⟨rfl,rfl⟩ il r hx.1 hx.2 rfl).nv
    .rename_i k p k' q k'' s hx;rcases args with⟨l⟩
     rcases l with _|⟨x,_|⟨y,_|⟨z,_|⟨z',l⟩⟩⟩⟩<;>simp at hx
     cases h;exact(Zh (P:=P) (K:=K) ⟨rfl,rfl⟩ il r hx.1 hx.2.1 hx.2.2 rfl).nv
    .cases h
   case min=>
    dsimp only at h;split at h
    .rename_i k p k' q hx;rcases args with⟨l⟩
     rcases l with _|⟨x,_|⟨y,_|⟨z,l⟩⟩⟩<;>simp at hx
     cases h;exact(Zi (P:=P) (K:=K) ⟨rfl,rfl⟩ il r hx.1 hx.2 rfl).nv
    .cases h
   all_goals cases h
  |value f=>
   simp only[jb,il]at h;have yg:=r.op f;split at h
   .rename_i gf cap xs is zO oJ;rw[zO]at yg;obtain⟨us,e1,w8⟩:=iB.Ot yg;exact NO g r il rfl e1 (Mt r oJ) (λlM=>Ms r oJ lM) (w8.mono λ_ _=>iB.qt (λ_ h=>h) (λ_ h=>h.elim)) h ho
   .rename_i gf cap xs is zO oJ;rw[zO]at yg;obtain⟨us,e1,k2,k3⟩:=yg;split at h
    .rename_i ys js BA;exact NO g r il rfl e1 (Mt r oJ) (λlM=>Ms r oJ lM) (Od r BA k2 k3) h ho
    .cases h
   .cases h
  |invoke _ _=>simp[jb,il]at h
 |_=>simp[jb,il]at h
def XO(hT:lE P T)(g:Gd P K w0 B)(r:iZ w0 B σ a w L)(h:su P K T O σ o=some u)(ho:∀ q,q ∈ u.jo->q):EB P K w0 B σ o a w u:=by
 unfold su at h;split at h
 .rename_i u0 h0;split at h
  .split at h
   .rename_i p hp;cases h;have he:PV.le u0.r p:=ho _ aH;have:=IW hT g r h0 (λq hq=>ho q (by simp[hq]));intro Kc Q hk;exact this Kc Q λv w' L' hr hv=>hk v w' L' hr (he _ _ _ _ _ hv)
   .cases h;exact IW hT g r h0 ho
  .cases h;exact IW hT g r h0 ho
 .cases h
end
section
variable {P:Program} {K:World->Prop} {T:List TI} {O:oR} {σ τ:PS} {o:Oper} {u:jV}
def acU{x:Operand}(h:∀ t,x = .tmp t->σ.get t=τ.get t):τ.op x=σ.op x:=by
 cases x with
 |tmp t=>exact(h t rfl).symm
 |_=>rfl
def adB{p:PV}{m:Nat}{l:List E}{is:List Nat}{jo:List Prop}(h:σ.read p m=some (l,is,jo))(hb:∀ id,id ∈ is->σ.bo id=τ.bo id):τ.read p m=some (l,is,jo):=by
 cases p with
 |box id off=>
  have h0:=h;simp only[PS.read]at h;split at h
  .split at h
   .simp only[bK,ca]at h;obtain⟨_,rfl,_⟩:=h;simp only[PS.read,<-hb id aH];exact h0
   .cases h
  .cases h
 |oL id sz i j=>
  have h0:=h;simp only[PS.read]at h;split at h
  .split at h
   .simp only[bK,ca]at h;obtain⟨_,rfl,_⟩:=h;simp only[PS.read,<-hb id aH];exact h0
   .cases h
  .cases h
 |e x=>cases x<;>exact h
 |_=>exact h
def Wr{c:CV}{e:E}{is:List Nat}(h:c.ext σ=some (e,is))(hb:∀ id,id ∈ is->σ.bo id=τ.bo id):c.ext τ=some (e,is):=by
 cases c with
 |e x=>exact h
 |box id=>
  have h0:=h;simp only[CV.ext]at h;split at h
  .simp only[bK,ca]at h;obtain⟨_,rfl⟩:=h;simp only[CV.ext,<-hb id aH];exact h0
  .cases h
def Ob{l:List CV}{es:List E}{is:List Nat}(h:vv σ l=some (es,is))(hb:∀ id,id ∈ is->σ.bo id=τ.bo id):vv τ l=some (es,is):=by
 induction l generalizing es is with
 |nil=>exact h
 |cons c l ih=>
  simp only[vv]at h;split at h
  .rename_i x i xs js h1 h2;simp only[bK,ca]at h;obtain⟨rfl,rfl⟩:=h;simp only[vv,Wr h1 λid hi=>hb id (by simp[hi]),ih h2 λid hi=>hb id (by simp[hi])]
  .cases h
def ac4{p:PV}{e:E}{is:List Nat}(h:p.ext σ=some (e,is))(hb:∀ id,id ∈ is->σ.bo id=τ.bo id):p.ext τ=some (e,is):=by
 cases p with
 |e x=>exact h
 |box id off=>
  cases off with
  |succ=>exact h
  |zero=>
   have h0:=h;simp only[PV.ext]at h;split at h
   .simp only[bK,ca]at h;obtain⟨_,rfl⟩:=h;simp only[PV.ext,<-hb id aH];exact h0
   .cases h
 |sj f cap=>
  simp only[PV.ext]at h;split at h
  .rename_i xs js h1;simp only[bK,ca]at h;obtain⟨rfl,rfl⟩:=h;simp only[PV.ext,Ob h1 hb]
  .cases h
 |own id=>
  have h0:=h;simp only[PV.ext]at h;split at h
  .simp only[bK,ca]at h;obtain⟨_,rfl⟩:=h;simp only[PV.ext,<-hb id aH];exact h0
  .cases h
 |_=>exact h
def Mr{l:List Operand}{es:List E}{is:List Nat}(h:sY σ l=some (es,is))(hg:∀ x,x ∈ l->τ.op x=σ.op x)(hb:∀ id,id ∈ is->σ.bo id=τ.bo id):sY τ l=some (es,is):=by
 induction l generalizing es is with
 |nil=>exact h
 |cons c l ih=>
  simp only[sY]at h;split at h
  .rename_i x i xs js h1 h2;simp only[bK,ca]at h;obtain⟨rfl,rfl⟩:=h;simp only[sY,hg c aH,ac4 h1 λid hi=>hb id (by simp[hi]),ih h2 (λx hx=>hg x (by simp[hx])) λid hi=>hb id (by simp[hi])]
  .cases h
def Om{place:Nat->Option (Nat×Nat)}{ps:List (Nat×Operand)}(hg:∀ x,x ∈ ps.map (·.2)->τ.op x=σ.op x):∀ l,qy τ place l ps=qy σ place l ps:=by
 induction ps with
 |nil=>intro l;rfl
 |cons p ps ih=>
  intro l;obtain⟨i,x⟩:=p;simp only[qy,hg x aH,ih λx hx=>hg x (by simp only[eO,cU];exact .inr hx)]
def DH{d:Option Tmp}{b:Bx}{rr:Nat->PV}{jo:List Prop}(h:uU σ d b rr jo=some u)(jE:σ.nl=τ.nl)(hn:∀ id b,u.f = .new id b->τ.bo id=none):uU τ d b rr jo=some u:=by
 obtain⟨id,rfl,lM,hc,rfl⟩:=Aj h;rw[jE]at hc;simp only[uU,hn id b rfl,hc,bD]
def N6{d:Option Tmp}{t:TypeId}{s x:PV}{u:jV}(h:xQ T σ d t s x=some u)(hb:∀ id,id ∈ u.rb->σ.bo id=τ.bo id)(jE:σ.nl=τ.nl)(hn:∀ id b,u.f = .new id b->τ.bo id=none):xQ T τ d t s x=some u:=by
 simp only[xQ]at h ⊢;split at h
 .split at h
  .split at h
   .split at h
    .split at h
     .split at h
      .rename_i hc;simp only[hc,bD];split at h
       .rename_i id;split at h
        .rename_i jO;split at h
         .rename_i qB;cases h;simp only[<-hb id aH,<-jE,jO,qB,bD]
         .cases h
        .cases h
       .rename_i id k;split at h
        .rename_i jO;split at h
         .rename_i qB;cases h;simp only[<-hb id aH,jO,qB,bD]
         .cases h
        .cases h
       .exact DH h jE hn
       .cases h
      .cases h
     .cases h
    .cases h
   .cases h
  .cases h
 .cases h
def XH{d:Option Tmp}{t:TypeId}{s x:PV}{u:jV}(h:zz T σ d t s x=some u)(hb:∀ id,id ∈ u.rb->σ.bo id=τ.bo id)(jE:σ.nl=τ.nl):zz T τ d t s x=some u:=by
 unfold zz at h ⊢;split at h
 .rename_i u0 h0;split at h
  .rename_i id nl T1 n sz el id' hf hr;split at h
   .rename_i hid;cases h;have:=N6 (σ:={ σ with nl:=false }) (τ:={ τ with nl:=false }) h0 hb rfl λi b e=>by rw[hf]at e;cases e
    rw[this];simp only[hf,hr,hid,bD]
   .cases h
  .cases h
 .cases h
def XJ(h:jb P K T O σ o=some u)(hg:∀ x,x ∈ o.op.operands->τ.op x=σ.op x)(hb:∀ id,id ∈ u.rb->σ.bo id=τ.bo id)(jE:σ.nl=τ.nl)(hn:∀ id b,u.f = .new id b->τ.bo id=none):
 jb P K T O τ o=some u:=by
 cases il:o.op with
 |move x=>rw[il]at hg;simp only[jb,il]at h ⊢;rw[hg x aP];exact h
 |assign x=>rw[il]at hg;simp only[jb,il]at h ⊢;rw[hg x aP];exact h
 |pick c x y=>rw[il]at hg;simp only[jb,il]at h ⊢;rw[hg c aP,hg x aP,hg y aP];exact h
 |nilCheck x=>rw[il]at hg;simp only[jb,il]at h ⊢;rw[hg x aP];exact h
 |binOp op t x y yt=>rw[il]at hg;simp only[jb,il]at h ⊢;rw[hg x aP,hg y aP];exact h
 |unOp op t x=>rw[il]at hg;simp only[jb,il]at h ⊢;rw[hg x aP];exact h
 |convert s d x=>rw[il]at hg;simp only[jb,il]at h ⊢;rw[hg x aP];exact h
 |index t x i=>rw[il]at hg;simp only[jb,il]at h ⊢;rw[hg x aP,hg i aP];exact h
 |extract x i=>rw[il]at hg;simp only[jb,il]at h ⊢;rw[hg x aP];exact h
 |fieldAddr t x f=>rw[il]at hg;simp only[jb,il]at h ⊢;rw[hg x aP];exact h
 |field t x f=>rw[il]at hg;simp only[jb,il]at h ⊢;rw[hg x aP];exact h
 |lookup t x i ok=>
  rw[il]at hg;cases ok with
  |true=>simp[jb,il]at h
  |false=>simp only[jb,il]at h ⊢;rw[hg x aP,hg i aP];exact h
 |makeFunc fn first cap=>
  rw[il]at hg;cases fn with
  |func f=>
   simp only[jb,il]at h ⊢;have:cap.toList.map τ.op=cap.toList.map σ.op:=fB λx hx=>hg x (by simp only[Op.operands,eP];exact .inr (by simpa using hx))
   rw[this];exact h
  |_=>simp[jb,il]at h
 |slice t x lo hi mx=>
  rw[il]at hg;cases mx with
  |some=>simp[jb,il]at h
  |none=>
   simp only[jb,il]at h ⊢;have e1:lo.map τ.op=lo.map σ.op:=by cases lo with
    |none=>rfl
    |some y=>simp only[cL];rw[hg y aP]
   have e2:hi.map τ.op=hi.map σ.op:=by cases hi with
    |none=>rfl
    |some y=>simp only[cL];rw[hg y aP]
   rw[hg x aP,e1,e2];exact h
 |alloc t=>
  simp only[jb,il]at h ⊢;split at h
  .split at h
   .exact DH h jE hn
   .cases h
  .cases h
 |box t x=>
  rw[il]at hg;simp only[jb,il]at h ⊢;rw[hg x aP];split at h
  .split at h
   .exact DH h jE hn
   .cases h
  .cases h
 |build t ps=>
  rw[il]at hg;simp only[jb,il]at h ⊢;have hf:∀ place l,qy τ place l ps.toList=qy σ place l ps.toList:=λplace=>Om λx hx=>hg x (by simpa[Op.operands]using hx)
  simp only[hf];exact h
 |buildSlice t n ps=>
  rw[il]at hg;simp only[jb,il]at h ⊢;have hf:∀ place l,qy τ place l ps.toList=qy σ place l ps.toList:=λplace=>Om λx hx=>hg x (by simpa[Op.operands]using hx)
  simp only[hf];split at h
  .split at h
   .split at h
    .split at h
     .split at h
      .rename_i hif;rw[aZ hif];obtain⟨l,hl,h⟩:=fW.1 h;refine fW.2 ⟨l,hl,?_⟩;split at h
       .cases h
       .rename_i h1;rw[aY h1];split at h
        .rename_i h2;rw[aZ h2];exact DH h jE hn
        .rename_i h2;rw[aY h2];exact h
      .cases h
     .cases h
    .cases h
   .cases h
  .cases h
 |load t x=>
  rw[il]at hg;simp only[jb,il,Fi]at h ⊢;rw[hg x aP];split at h
  .rename_i ti nR;split at h
   .rename_i id i n ot;have aar:Av τ (σ.op x)=some (id,i,n):=by
     have hid:σ.bo id=τ.bo id:=by
      split at h
      .cases h
      .cases h;exact hb id aH 
     cases hp:σ.op x with
     |oL id' sz i' j=>
      rw[hp]at ot;have h0:=ot;simp only[Av]at ot;split at ot
      .split at ot
       .simp only[bK,ca]at ot;obtain⟨rfl,_,_⟩:=ot;simp only[Av,<-hid];exact h0
       .cases ot
      .cases ot
     |_=>rw[hp]at ot;cases ot
    simp only[aar];exact h
   .rename_i ot;have key:∀ is,(∃ l jo,σ.read (σ.op x) ti.i.size=some (l,is,jo))->(∀ id,id ∈ is->σ.bo id=τ.bo id)->Av τ (σ.op x)=none:=by
     rintro is ⟨l,jo,hr⟩ mo;cases hp:σ.op x with
     |oL id sz i j=>
      rw[hp]at hr ot;simp only[PS.read]at hr;split at hr
      .rename_i jO;split at hr
       .simp only[bK,ca]at hr;obtain⟨_,rfl,_⟩:=hr;simp only[Av,<-mo id aH,jO]
       .cases hr
      .cases hr
     |_=>rfl
    cases hr:σ.read (σ.op x) ti.i.size with
    |none=>rw[hr]at h;cases h
    |some y=>
     obtain⟨l,is,jo⟩:=y;have zS:u.rb=is:=by
      rw[hr]at h;simp only[DA]at h;split at h
      .cases h;rfl
      .split at h
       .cases h;rfl
       .cases h
     have mo:∀ id,id ∈ is->σ.bo id=τ.bo id:=λid hi=>hb id (by rw[zS];exact hi)
     rw[key is ⟨l,jo,hr⟩ mo];simp only;rw[adB hr mo];rw[hr]at h;exact h
  .cases h
 |store t x y=>
  rw[il]at hg;simp only[jb,il,Fl]at h ⊢;rw[hg x aP,hg y aP];split at h
  .split at h
   .rename_i id off e _ _;split at h
    .rename_i jO hm;split at h
     .rename_i hc;cases h;rw[jE]at hc;simp only[<-hb id aH,jO,hm,hc,bD]
     .cases h
    .cases h
   .rename_i id sz i j e _ _;split at h
    .rename_i jO hm;split at h
     .rename_i hc;cases h;simp only[<-hb id aH,jO,hm,hc,bD]
     .cases h
    .cases h
   .rename_i id i id' k _ _;split at h
    .rename_i jO;split at h
     .rename_i hc;cases h;simp only[<-hb id aH,jO,hc,bD]
     .cases h
    .cases h
   .cases h
  .cases h
 |makeSlice t l c=>
  rw[il]at hg;simp only[jb,il,Fj]at h ⊢;rw[hg l aP,hg c aP];split at h
  .exact DH h jE hn
  .cases h
 |indexAddr t x i=>
  rw[il]at hg;simp only[jb,il,Fh]at h ⊢;rw[hg x aP,hg i aP];split at h
  .split at h
   .split at h
    .split at h
     .split at h
      .exact h
      .rename_i id _;split at h
       .rename_i jO;split at h
        .rename_i hc;cases h;simp only[<-hb id aH,jO,hc,bD]
        .cases h
       .rename_i jO;split at h
        .rename_i hc;cases h;simp only[<-hb id aH,jO,hc,bD]
        .cases h
       .cases h
      .cases h
     .cases h
    .exact h
    .cases h
   .cases h
  .cases h
 |call c=>
  rw[il]at hg;obtain⟨callee,args,ats⟩:=c;have ha:∀ x,x ∈ args.toList->τ.op x=σ.op x:=λx hx=>hg x (by simp only[Op.operands,Call.operands,eP];exact .inr (by simpa using hx))
  have JO:args.toList.map τ.op=args.toList.map σ.op:=fB ha;cases callee with
  |builtin b=>
   simp only[jb,il]at h ⊢;cases b
   case len=>
    dsimp only at h ⊢;split at h
    .rename_i x t hx ht;split at h
     .obtain ⟨rr,hr,rfl⟩:=cJ.1 h;rw[ha x (by rw[hx];simp)];have:s8 (σ.op x) τ=some rr:=by
       cases hp:σ.op x with
       |own id=>
        rw[hp]at hr;have h0:=hr;simp only[s8]at hr;split at hr
        .simp only[bK]at hr;subst hr;simp only[s8,<-hb id aH];exact h0
        .simp only[bK]at hr;subst hr;simp only[s8,<-hb id aH];exact h0
        .cases hr
       |e y=>
        rw[hp]at hr;cases y with
        |v z=>cases z<;>exact hr
        |_=>exact hr
       |_=>rw[hp]at hr;exact hr
      rw[this];rfl
     .cases h
    .cases h
   case append=>
    dsimp only at h ⊢;split at h
    .rename_i s x t t' hx ht;split at h
     .rename_i qk;simp only[qk,bD];rw[ha x (by rw[hx];simp),ha s (by rw[hx];simp)];have qA:EO O o.dst=EO O o.dst:=rfl;split at h
      .rename_i Jv;simp only[Jv,bD];exact XH h hb jE
      .rename_i Jv;simp only[Jv,bq,bA];exact N6 h hb jE hn
     .cases h
    .cases h
   case max=>dsimp only at h ⊢;rw[JO];exact h
   case min=>dsimp only at h ⊢;rw[JO];exact h
   all_goals cases h
  |value f=>
   have hf:τ.op f=σ.op f:=hg f (by simp[Op.operands,Call.operands]);simp only[jb,il]at h ⊢;have ku:(args.toList.map τ.op).any PV.Ac=(args.toList.map σ.op).any PV.Ac:=by rw[JO]
   rw[hf,ku];have ec:∀ {gf:FuncId} {zs:List E} {is:List Nat} {ow:Bool},xR P K O σ o.dst gf zs is ow=some u->u.rb=is/\xR P K O τ o.dst gf zs is ow=some u:=by
    intro gf zs is ow hh;simp only[xR]at hh ⊢;rw[jE]at hh;split at hh
    .rename_i jL Da;refine⟨?_,hh⟩;split at hh
     .cases hh;rfl
     .split at hh
      .cases hh;rfl
      .cases hh
    .split at hh
     .rename_i d hd;split at hh
      .rename_i nl T n sz el h1 h2;split at hh
       .rename_i hc;cases hh;have h3:=hn _ _ rfl;rw[h1,h3];simp only[hc,bD];constructor<;>first|rfl|trivial
       .cases hh
      .cases hh
     .cases hh
   split at h
   .rename_i gf cap xs is zO oJ;obtain⟨e1,e2⟩:=ec h;rw[Mr oJ ha λid hi=>hb id (by rw[e1];exact hi),zO];exact e2
   .rename_i gf cap xs is zO oJ;split at h
    .rename_i ys js BA;obtain⟨e1,e2⟩:=ec h;rw[Mr oJ ha λid hi=>hb id (by rw[e1];simp[hi]),zO];simp only;rw[Ob BA λid hi=>hb id (by rw[e1];simp[hi])];exact e2
    .cases h
   .cases h
  |invoke _ _=>simp[jb,il]at h
 |_=>simp[jb,il]at h
end
def abS{l:List Operand}{t:Tmp}(h:Operand.tmp t ∈ l):t ∈ Cf l:=by
 induction l with
 |nil=>simp at h
 |cons x l ih=>
  rcases cU.1 h with h|h
  .subst h;simp[Cf]
  .have:=ih h;cases x<;>simp[Cf,this]
def Z5{l:List Nat}{n:Nat}:Jx l n=true↔n ∈ l:=by
 unfold Jx;rw[dZ];constructor
 .rintro ⟨x,hx,hb⟩;have:=lQ.1 hb;subst this;exact hx
 .intro h;exact⟨n,h,dC n⟩
def Gm{l:List Nat}{d:Option Nat}(h:BQ l d=true){x:Nat}(hx:d=some x):x ∉ l:=by
 subst hx;simp only[BQ,eV]at h;intro hm;rw[Z5.2 hm]at h;cases h
def Ha{a b:Option Nat}(h:G9 a b=true){x y:Nat}(hx:a=some x)(hy:b=some y):x≠y:=by
 subst hx hy;simp only[G9,eV]at h;intro e;rw[lQ.2 e]at h;cases h
def Et(f:qf)(p:PV):p.og f=if xd f p then p else .e .any:=by
 cases f<;>cases p<;>simp only[PV.og,xd,bD]
 all_goals (split<;>rename_i h<;>simp[h])
def Kk{f:qf}{p:PV}(h:xd f p=true):p.og f=p:=by rw[Et,aZ h]
def aa6(f:qf):xd f (.e .any)=true:=by cases f<;>rfl
def agm(p:PV)(f g:qf):(p.og f).og g=(p.og g).og f:=by
 rw[Et f p,Et g p];cases h1:xd f p<;>cases h2:xd g p<;>simp only[bD,bA,bq,Et,aa6,h1,h2]
structure qv(σ τ:PS):Prop where
 n:σ.n=τ.n
 nl:σ.nl=τ.nl
 get:∀ t,σ.get t=τ.get t
 bo:∀ id,σ.bo id=τ.bo id
def qv.refl(σ:PS):qv σ σ:=⟨rfl,rfl,λ_=>rfl,λ_=>rfl⟩
def qv.symm{σ τ:PS}(h:qv σ τ):qv τ σ:=⟨h.n.symm,h.nl.symm,λt=>(h.get t).symm,λi=>(h.bo i).symm⟩
def qv.trans{σ τ υ:PS}(h:qv σ τ)(k:qv τ υ):qv σ υ:=⟨h.n.trans k.n,h.nl.trans k.nl,λt=>(h.get t).trans (k.get t),λi=>(h.bo i).trans (k.bo i)⟩
def iZ.oP{w0:World}{B:Nat->Prop}{σ τ:PS}{a:Act}{w:World}{L:Lk}(r:iZ w0 B σ a w L)(h:qv σ τ):iZ w0 B τ a w L:=
 ⟨r.hd,r.hs.trans h.n,λt=>by rw[<-h.get];exact r.ht t,λid b hb=>r.hb id b (by rw[h.bo];exact hb),λid=>by rw[<-h.bo];exact r.hv id,r.hn,r.hw,r.hi,r.he,λhn id b hb=>r.hl (by rw[h.nl];exact hn) id b (by rw[h.bo];exact hb)⟩
def zi(σ:PS)(f:qf)(id:Nat):(σ.pG f).bo id=match f with
 | .none=>σ.bo id
 | .new i b | .sT i b | .qi i b | .uw i b=>if i=id then some b else σ.bo id
 | .fin i=>if i=id then none else σ.bo id:=by
 cases f<;>first|rfl|exact Gf _ _ _ _|exact Kr _ _ _
def CP(σ:PS)(d:Option Tmp)(u:jV)(t:Nat):(σ.app d u).get t=if d=some t then u.r else(σ.get t).og u.f:=by
 unfold PS.app;cases d with
 |none=>
  rw[aY aH];exact PS.Fx σ u.f t
 |some d=>
  rw[PS.Jf,PS.Fx];simp only[bK]
def zh(σ:PS)(d:Option Tmp)(u:jV)(id:Nat):(σ.app d u).bo id=(σ.pG u.f).bo id:=PS.Vz _ _ _ _
def DL(σ:PS)(d:Option Tmp)(u:jV):(σ.app d u).n=σ.n:=by unfold PS.app;rw[PS.Kz];rfl
def DP(σ:PS)(d:Option Tmp)(u:jV):(σ.app d u).nl=σ.nl:=by unfold PS.app;rw[PS.acp];rfl
def xI(σ:PS)(d:Option Tmp)(u:jV)(id:Nat)(h:u.f.id≠some id):(σ.app d u).bo id=σ.bo id:=by
 rw[zh,zi];cases hf:u.f<;>rw[hf]at h<;>simp only[qf.id,cP,bK]at h<;>first|rfl|exact aY h
section
variable {P:Program} {K:World->Prop} {T:List TI} {O:oR} {ops:Array Oper} {σ τ:PS} {o:Oper} {u:jV}
def XL(h:jb P K T O σ o=some u){x:Operand}(hx:x ∈ o.op.operands):x ∈ DX o.op:=by
 obtain⟨dst,op,ty,pos,after,guard⟩:=o;simp only at hx ⊢;cases op<;>first
  | (simp only[jb]at h;cases h;done)
  | (exfalso;simp[Op.operands]at hx;done)
  | (simpa[Op.operands,DX]using hx)
  | (simpa[Op.operands,DX,or_assoc]using hx)
  |skip
 case call c=>
  obtain⟨callee,args,ats⟩:=c;cases callee<;>simpa[Op.operands,DX,Call.operands]using hx
def DI{d:Option Tmp}{b:Bx}{rr:Nat->PV}{jo:List Prop}(h:uU σ d b rr jo=some u){id:Nat}{b':Bx}(hf:u.f = .new id b'):σ.bo id=none:=by
 obtain⟨i,_,lM,_,rfl⟩:=Aj h;cases hf;exact lM
def XK(h:jb P K T O σ o=some u){id:Nat}{b:Bx}(hf:u.f = .new id b):σ.bo id=none:=by
 cases il:o.op
 case alloc=>
  simp only[jb,il]at h;split at h
  .split at h
   .exact DI h hf
   .cases h
  .cases h
 case box=>
  simp only[jb,il]at h;split at h
  .split at h
   .exact DI h hf
   .cases h
  .cases h
 case makeSlice=>
  simp only[jb,il,Fj]at h;split at h
  .exact DI h hf
  .cases h
 case makeFunc fn first cap=>
  cases fn with
  |func f=>
   simp only[jb,il]at h
   repeat' split at h
   all_goals first
    | (cases h;done)
    | (cases h;cases hf;done)
  |_=>simp[jb,il]at h
 case lookup t x i ok=>
  cases ok with
  |true=>simp[jb,il]at h
  |false=>
   simp only[jb,il]at h
   repeat' split at h
   all_goals first
    | (cases h;done)
    | (cases h;cases hf;done)
 case slice t x lo hi mx=>
  cases mx with
  |none=>
   simp only[jb,il,Fk]at h
   repeat' split at h
   all_goals first
    | (cases h;done)
    | (cases h;cases hf;done)
  |some=>simp[jb,il]at h
 case call c=>
  obtain⟨callee,args,ats⟩:=c;cases callee with
  |builtin b=>
   simp only[jb,il]at h;cases b
   case append=>
    dsimp only at h;split at h
    .split at h
     .split at h
      .unfold zz at h;split at h
       .split at h
        .split at h
         .cases h;cases hf
         .cases h
        .cases h
       .cases h
      .simp only[xQ]at h
       repeat' split at h
       all_goals first
        | (cases h;done)
        |exact DI h hf
        | (cases h;cases hf;done)
     .cases h
    .cases h
   all_goals
    dsimp only at h
    repeat' split at h
    all_goals first
     | (cases h;done)
     | (cases h;cases hf;done)
     | (obtain⟨_,_,rfl⟩:=cJ.1 h;cases hf)
  |value f=>
   simp only[jb,il]at h
   repeat' split at h
   all_goals first
    | (cases h;done)
    | (simp only[xR]at h;repeat' split at h)
   all_goals first
    | (cases h;done)
    | (cases h;cases hf;done)
    | (cases h;cases hf;assumption)
  |invoke _ _=>simp[jb,il]at h
 all_goals
  simp only[jb,il,Fl,Fh,Fk,Fi,DA]at h
  repeat' split at h
  all_goals first
   | (cases h;done)
   | (cases h;cases hf;done)
   | (obtain⟨_,_,rfl⟩:=cJ.1 h;cases hf)
   |skip
 all_goals first
  | (obtain⟨_,_,h⟩:=fW.1 h;repeat' split at h)
  |skip
 all_goals first
  |exact DI h hf
  | (cases h;done)
  | (cases h;cases hf;done)
def IZ(h:su P K T O σ o=some u):∃ u0,jb P K T O σ o=some u0/\u0.rb=u.rb/\u0.f=u.f:=by
 unfold su at h;split at h
 .rename_i u0 h0;split at h
  .split at h
   .cases h;exact⟨u0,h0,rfl,rfl⟩
   .cases h;exact⟨_,h0,rfl,rfl⟩
  .cases h;exact⟨_,h0,rfl,rfl⟩
 .cases h
def XN(h:su P K T O σ o=some u)(hg:∀ x,x ∈ o.op.operands->τ.op x=σ.op x)(hb:∀ id,id ∈ u.rb->σ.bo id=τ.bo id)(jE:σ.nl=τ.nl)(hn:∀ id b,u.f = .new id b->τ.bo id=none):
 su P K T O τ o=some u:=by
 obtain⟨u0,h0,e1,e2⟩:=IZ h;have:=XJ (τ:=τ) h0 hg (by rw[e1];exact hb) jE (by rw[e2];exact hn);unfold su at h ⊢;rw[h0]at h;rw[this];exact h
def CJ(h:pQ P K T O ops σ o=some u):tC σ o.dst=true/\u.rd=(looks ops o).map σ.get/\((xz ops σ o=some true/\∃ u0,su P K T O σ o=some u0/\u={ u0 with rd:=(looks ops o).map σ.get })\/(xz ops σ o=some false/\u={ r:=.e (.v (.tuple #[])),rd:=(looks ops o).map σ.get })):=by
 unfold pQ at h;split at h
 .rename_i hi;split at h
  .rename_i hw;split at h
   .rename_i u0 h0;cases h;exact⟨hi,rfl,.inl ⟨hw,u0,h0,rfl⟩⟩
   .cases h
  .rename_i hw;cases h;exact⟨hi,rfl,.inr ⟨hw,rfl⟩⟩
  .cases h
 .cases h
def IX(h:pQ P K T O ops σ o=some u)(hg:∀ t,t ∈ looks ops o->σ.get t=τ.get t)(hb:∀ id,id ∈ u.rb->σ.bo id=τ.bo id)(jE:σ.nl=τ.nl)(kQ:σ.n=τ.n)(hn:∀ id b,u.f = .new id b->τ.bo id=none):
 pQ P K T O ops τ o=some u:=by
 obtain⟨hi,_,hw⟩:=CJ h;have lj:tC τ o.dst=tC σ o.dst:=by cases o.dst<;>simp[tC,kQ]
 have Qe:xz ops τ o=xz ops σ o:=by
  unfold xz;cases zG:o.guard with
  |none=>rfl
  |some jw=>
   obtain⟨j,want⟩:=jw;cases hd:(ops[j]?).bind (·.dst)with
   |none=>simp[hd]
   |some t=>
    simp only[hd];rw[hg t (by unfold looks;rw[zG];simp[hd])]
 have JT:(looks ops o).map τ.get=(looks ops o).map σ.get:=fB λt ht=>(hg t ht).symm
 unfold pQ;rw[lj,hi,Qe,JT];simp only[bD];rcases hw with⟨hw,u0,h0,rfl⟩|⟨hw,rfl⟩
 .rw [hw];have il:∀ x,x ∈ o.op.operands->τ.op x=σ.op x:=by
   intro x hx;obtain⟨u1,h1,_,_⟩:=IZ h0;have hm:=XL h1 hx;refine acU λt ht=>hg t ?_
   subst ht;unfold looks;exact List.mem_append_left _ (abS hm)
  simp only[XN h0 il hb jE hn]
 .rw [hw]
def IY(h:pQ P K T O ops σ o=some u){id:Nat}{b:Bx}(hf:u.f = .new id b):σ.bo id=none:=by
 obtain⟨_,_,⟨_,u0,h0,rfl⟩|⟨_,rfl⟩⟩:=CJ h
 .obtain ⟨u1,h1,_,e2⟩:=IZ h0;exact XK h1 (by rw[e2];exact hf)
 .cases hf
def XM(h:pQ P K T O ops σ o=some u)(hs:qv σ τ):pQ P K T O ops τ o=some u:=
 IX h (λt _=>hs.get t) (λid _=>hs.bo id) hs.nl hs.n λid b hf=>by rw[<-hs.bo];exact IY h hf
def UI(hs:qv σ τ)(d:Option Tmp)(u:jV):qv (σ.app d u) (τ.app d u):=
 ⟨by rw[DL,DL];exact hs.n,by rw[DP,DP];exact hs.nl,λt=>by rw[CP,CP,hs.get],λid=>by rw[zh,zh,zi,zi,hs.bo]⟩
def aft{O':oR}{x y:Oper×jV}(hi:z8 ops x y=true)(h1:pQ P K T O ops σ x.1=some x.2)(h2:pQ P K T O' ops (σ.app x.1.dst x.2) y.1=some y.2):
 pQ P K T O' ops σ y.1=some y.2/\pQ P K T O ops (σ.app y.1.dst y.2) x.1=some x.2/\qv ((σ.app x.1.dst x.2).app y.1.dst y.2) ((σ.app y.1.dst y.2).app x.1.dst x.2):=by
 simp only[z8,bS]at hi;obtain⟨⟨⟨⟨⟨⟨⟨⟨⟨i1,i2⟩,i3⟩,i4⟩,i5⟩,i6⟩,i7⟩,i8⟩,i9⟩,i10⟩:=hi;obtain⟨_,rx,_⟩:=CJ h1;obtain⟨_,ry,_⟩:=CJ h2;have r1:pQ P K T O' ops σ y.1=some y.2:=by
  refine IX h2 (λt ht=>?_) (λid hid=>xI _ _ _ _ λe=>Gm i4 e hid) (DP _ _ _) (DL _ _ _) λid b hf=>?_
  .have hg:(σ.app x.1.dst x.2).get t=(σ.get t).og x.2.f:=by
    rw[CP,aY λe=>Gm i1 e ht]
   rw[hg];by_cases hv:x.2.f.Hf=true
   .have uG:KH ((σ.get t).og x.2.f)=true:=by
     have h9:y.2.rd.all KH=true:=by simpa[hv]using i9
     rw[ry]at h9;exact bY.1 h9 _ (dk.2 ⟨t,ht,hg⟩)
    rw[Et]at uG ⊢;split at uG
    .rename_i hk;rw[aZ hk]
    .cases uG
   .cases hf:x.2.f<;>rw[hf]at hv<;>first|exact absurd rfl hv|(cases σ.get t<;>rfl)
  .have:=IY h2 hf;rwa[xI _ _ _ _ λe=>Ha i6 e (by rw[hf];rfl) rfl]at this
 refine⟨r1,?_,?_⟩
 .refine IX h1 (λt ht=>?_) (λid hid=>(xI _ _ _ _ λe=>Gm i5 e hid).symm) (DP _ _ _).symm (DL _ _ _).symm λid b hf=>?_
  .rw [CP,aY λe=>Gm i3 e ht];rw[rx]at i10;exact(Kk (bY.1 i10 _ (dk.2 ⟨t,ht,rfl⟩))).symm
  .rw [xI _ _ _ _ λe=>Ha i6 (by rw[hf];rfl) e rfl];exact IY h1 hf
 .refine ⟨by simp only[DL],by simp only[DP],λt=>?_,λid=>?_⟩
  .simp only[CP];by_cases hx:x.1.dst=some t
   .have hy:¬y.1.dst=some t:=λe=>Ha i2 hx e rfl
    rw[aY hy,aZ hx,aZ hx,Kk i8]
   .by_cases hy:y.1.dst=some t
    .rw [aZ hy,aY hx,aZ hy,Kk i7]
    .rw [aY hy,aY hx,aY hx,aY hy,agm]
  .by_cases hx:x.2.f.id=some id
   .have hy:y.2.f.id≠some id:=λe=>Ha i6 hx e rfl
    rw[xI _ _ _ _ hy,zh,zh,zi,zi,xI _ _ _ _ hy]
   .rw [xI _ _ x.2 _ hx];rw[zh,zh,zi,zi,xI _ _ _ _ hx]
end
section
variable {P:Program} {K:World->Prop} {T:List TI} {O:oR} {ops:Array Oper}
def ug(P:Program)(K:World->Prop)(T:List TI)(ops:Array Oper):List (Oper×jV)->PS->PS->Prop
 | [],σ,τ=>qv σ τ
 |x::l,σ,τ=>(∃ O,pQ P K T O ops σ x.1=some x.2)/\ug P K T ops l (σ.app x.1.dst x.2) τ
def ug.oP{l:List (Oper×jV)}{σ σ2 τ:PS}(h:ug P K T ops l σ τ)(hs:qv σ σ2):ug P K T ops l σ2 τ:=by
 induction l generalizing σ σ2 with
 |nil=>exact hs.symm.trans h
 |cons x l ih=>exact⟨h.1.imp λ_ h=>XM h hs,ih h.2 (UI hs _ _)⟩
def ug.YF{A C:List (Oper×jV)}{y:Oper×jV}{σ τ:PS}(h:ug P K T ops (A++y::C) σ τ)(hi:∀ x,x ∈ A->z8 ops x y=true):
 (∃ O,pQ P K T O ops σ y.1=some y.2)/\ug P K T ops (A++C) (σ.app y.1.dst y.2) τ:=by
 induction A generalizing σ with
 |nil=>exact h
 |cons x A ih=>
  obtain⟨⟨O1,h1⟩,h2⟩:=h;obtain⟨⟨O2,k1⟩,k2⟩:=ih h2 λz hz=>hi z (by simp[hz])
  obtain⟨s1,s2,s3⟩:=aft (hi x aH) h1 k1;exact⟨⟨O2,s1⟩,⟨O1,s2⟩,k2.oP s3⟩
end
section
variable {P:Program} {K:World->Prop} {T:List TI} {O:oR} {w0:World} {B:Nat->Prop} {σ τ:PS} {o:Oper} {a:Act} {w:World} {L:Lk} {u:jV} {ops:Array Oper}
def T5(r:iZ w0 B σ a w L){b:Bool}(h:xz ops σ o=some b):Region.wanted o (yielded ops a.tmps)=b:=by
 unfold xz at h;unfold Region.wanted;split at h
 .rename_i hg;rw[hg];simpa using h
 .rename_i j want hg;rw[hg];simp only;split at h
  .rename_i t ht;have hv:=r.ht t;have key:∀ q:Bool,σ.get t = .e (.v (.bool q))->yielded ops a.tmps j=some q:=by
    intro q hq;rw[hq]at hv;have hv:=iB.jX hv;unfold yielded;rw[ht];simp only[Option.bind_some];have iA:a.tmps[t]? = some (.bool q):=by
     by_cases hs:t<a.tmps.size
     .simpa [hs]using hv
     .simp [hs,undef]at hv
    rw[iA]
   split at h
   .rename_i hq;rw[key true hq];simp only[bK]at h;subst h;cases want<;>rfl
   .rename_i hq;rw[key false hq];simp only[bK]at h;subst h;cases want<;>rfl
   .rename_i q hq;rw[hq]at hv;have hv:=iB.jX hv;have hn:yielded ops a.tmps j=none:=by
     unfold yielded;rw[ht];simp only[Option.bind_some];by_cases hs:t<a.tmps.size
     .rw [show a.tmps[t]? = some (.tuple q)by simpa[hs]using hv]
     .simp [hs]
    rw[hn];simp only[bK]at h;subst h;cases want<;>rfl
   .cases h
  .cases h
def N8(hT:lE P T)(g:Gd P K w0 B)(r:iZ w0 B σ a w L)(h:pQ P K T O ops σ o=some u)(ho:∀ q,q ∈ u.jo->q)(Kc:Act->World->Prop)(Q:Exit->Act->World->Prop)
 (hk:∀ a' w' L',iZ w0 B (σ.app o.dst u) a' w' L'->Kc a' w'):
 (Region.wanted o (yielded ops a.tmps)=true/\o.wp P a w Kc Q)\/(Region.wanted o (yielded ops a.tmps)=false/\Kc (a.put o.dst undef) w):=by
 obtain⟨hi,_,⟨hw,u0,h0,rfl⟩|⟨hw,rfl⟩⟩:=CJ h
 .refine .inl ⟨T5 r hw,XO hT g r h0 ho Kc Q λv w' L' hr hp=>hk _ w' L' ?_⟩;have lR:tC (σ.pG u0.f) o.dst=true:=by cases hd:o.dst<;>rw[hd]at hi<;>exact hi
  exact hr.put o.dst u0.r v lR hp
 .exact .inr ⟨T5 r hw,hk _ w L (r.put o.dst (.e (.v (.tuple #[]))) undef hi (.v _))⟩
structure Left(ops:Array Oper)(listed:Array Bool)(R:List (Nat×Oper×jV)):Prop where
 kD:∀ x,x ∈ R->ops[x.1]? = some x.2.1/\listed.getD x.1 true=false
 all:∀ i,i<ops.size->listed.getD i true=false->∃ x,x ∈ R/\x.1=i
 pw:R.Pairwise λx y=>x.1<y.1/\(yO ops 3 y.2.1 x.1||z8 ops x.2 y.2)=true
 ed:∀ x,x ∈ R->∀ e,e ∈ x.2.1.after->Region.binds .any e=true->e.on<x.1
 up:∀ x,x ∈ R->∀ j z,ops[j]? = some z->Ab z x.1=true->listed.getD j true=false
def Left.yO{listed:Array Bool}{R:List (Nat×Oper×jV)}(h:Left ops listed R){x:Nat×Oper×jV}(hx:x ∈ R):∀ (n:Nat) (j:Nat) (z:Oper),ops[j]? = some z->Pu.yO ops n z x.1=true ->
 listed.getD j true=false/\∃ e,e ∈ z.after/\Region.binds .any e=true/\listed.getD e.on true=false/\e.on<ops.size:=by
 have direct:∀ (j:Nat) (z:Oper),ops[j]? = some z->Ab z x.1=true->listed.getD j true=false/\∃ e,e ∈ z.after/\Region.binds .any e=true/\listed.getD e.on true=false/\e.on<ops.size:=by
  intro j z hz he;refine⟨h.up x hx j z hz he,?_⟩;unfold Ab at he;obtain⟨e,lh,kx⟩:=dZ.1 he;simp only[bS]at kx;have om:=h.kD x hx;refine⟨e,by simpa using lh,kx.1,?_,?_⟩
  .rw [lQ.1 kx.2];exact om.2
  .rw [lQ.1 kx.2];exact(cS.1 om.1).1
 intro n
 induction n with
 |zero=>exact direct
 |succ n ih=>
  intro j z hz hr;simp only[Pu.yO,eW]at hr;rcases hr with hr|hr
  .exact direct j z hz hr
  .obtain ⟨e,lh,kx⟩:=dZ.1 hr;simp only[bS]at kx;obtain⟨kx,JB⟩:=kx;split at JB
   .rename_i z' vP;obtain⟨k1,_⟩:=ih e.on z' vP JB;have iA:=(cS.1 vP).1;obtain⟨x',yo,F3⟩:=h.all e.on iA k1;refine⟨h.up x' yo j z hz ?_,e,by simpa using lh,kx,k1,iA⟩;unfold Ab;refine dZ.2 ⟨e,lh,?_⟩;rw[kx,F3];simp
   .cases JB
def Ld{md:Region.Mode}{listed:Array Bool}{i:Nat}:i ∈ Region.ready md ops listed↔i<ops.size/\listed.getD i true=false/\∃ o,ops[i]? = some o/\∀ e,e ∈ o.after->Region.binds md e=true->listed.getD e.on false=true:=by
 unfold Region.ready;rw[List.mem_filter];simp only[cz,bS,eV];constructor
 .rintro ⟨h1,h2,h3⟩;refine⟨h1,h2,ops[i],by simp[h1],λe he hb=>?_⟩;rw[Array.getElem?_eq_getElem h1]at h3;simp only[cL,ado,ahu]at h3;have:=h3 e he;simpa[hb]using this
 .rintro ⟨h1,h2,o,h3,h4⟩;refine⟨h1,h2,?_⟩;rw[h3];simp only[cL,ado,ahu];intro e he;cases hb:Region.binds md e with
  |false=>rfl
  |true=>simpa using h4 e he hb
def UF(hT:lE P T)(g:Gd P K w0 B){Q:Exit->Act->World->Prop}(hq:∀ a' w' L',iZ w0 B τ a' w' L'->Q .normal a' w'):
 ∀ (fuel:Nat) (listed:Array Bool) (R:List (Nat×Oper×jV)) (σ:PS) (a:Act) (w:World) (L:Lk),R.length=fuel->listed.size=ops.size->Left ops listed R->(∀ x,x ∈ R->∀ q,q ∈ x.2.2.jo->q) ->
  ug P K T ops (R.map (·.2)) σ τ->iZ w0 B σ a w L->wpAny P .any ops Q fuel listed a w:=by
 intro fuel
 induction fuel with
 |zero=>
  intro listed R σ a w L hlen Bp hleft ho FV r;have hR:=du hlen;subst hR;refine⟨?_,hq a w L (r.oP FV)⟩;apply List.eq_nil_iff_forall_not_mem.2;intro i hi;obtain⟨h1,h2,_⟩:=Ld.1 hi;obtain⟨x,hx,_⟩:=hleft.all i h1 h2;simp at hx
 |succ fuel ih=>
  intro listed R σ a w L hlen Bp hleft ho FV r;refine⟨λzJ=>?_,λi hi=>?_⟩
  .
   exfalso;cases R with
   |nil=>simp at hlen
   |cons x R=>
    have hx:=hleft.kD x aH;have iA:x.1<ops.size:=(cS.1 hx.1).1;have:x.1 ∈ Region.ready .any ops listed:=Ld.2 ⟨iA,hx.2,x.2.1,hx.1,λe he hb=>by
     have Bt:=hleft.ed x aH e he hb;cases hl:listed.getD e.on true with
     |true=>
      have:e.on<listed.size:= aC ;simp[this]at hl ⊢;exact hl
     |false=>
      exfalso;obtain⟨y,hy,Qh⟩:=hleft.all e.on aC hl;rcases cU.1 hy with hy|hy
      .subst hy;omega
      .have:=(ag9.1 hleft.pw).1 y hy;omega⟩
    rw[zJ]at this;simp at this
  .obtain ⟨h1,h2,o,h3,h4⟩:=Ld.1 hi;obtain⟨y,hy,hyi⟩:=hleft.all i h1 h2;subst hyi;obtain⟨A,C,rfl⟩:=List.append_of_mem hy;have F4:=hleft.kD y hy;have aaj:∀ x,x ∈ A->z8 ops x.2 y.2=true:=by
    intro x hx;have hp:=(aha.1 hleft.pw).2.2 x hx y aH;rcases Bool.or_eq_true_iff.1 hp.2 with he|he
    .exfalso;obtain⟨_,e,lh,kx,qF,iA⟩:=hleft.yO (show x ∈ A++y::C by simp[hx]) 3 y.1 y.2.1 F4.1 he;have qj:o=y.2.1:=by rw[F4.1]at h3;exact(ahb h3).symm
     have hl:=h4 e (by rw[qj];exact lh) kx;have oJ:e.on<listed.size:=by rw[Bp];exact iA
     simp[oJ]at hl qF;rw[hl]at qF;cases qF
    .exact he
   rw[gO,eO]at FV;obtain⟨⟨O,k1⟩,k2⟩:=FV.YF (λx hx=>by
    obtain⟨z,hz,rfl⟩:=dk.1 hx;exact aaj z hz)
   have aal:Left ops (listed.setIfInBounds y.1 true) (A++C):=by
    have kG:∀ x,x ∈ A++C->x.1≠y.1:=by
     intro x hx;rcases dH.1 hx with hx|hx
     .have:=((aha.1 hleft.pw).2.2 x hx y aH).1;omega
     .have:=((ag9.1 (aha.1 hleft.pw).2.1).1 x hx).1;omega
    have FY:∀ x,x ∈ A++C->x ∈ A++y::C:=λx hx=>by
     rcases dH.1 hx with hx|hx<;>simp[hx]
    refine⟨λx hx=>?_,λj hj hl=>?_,?_,λx hx=>hleft.ed x (FY x hx),λx hx j z hz he=>?_⟩
    .obtain ⟨q1,q2⟩:=hleft.kD x (FY x hx);refine⟨q1,?_⟩;have oJ:x.1<listed.size:=by rw[Bp];exact(cS.1 q1).1
     simp[oJ]at q2 ⊢;rw[ahc _ (λe=>kG x hx e.symm)];exact q2
    .have FK:j<listed.size:= aC ;by_cases Bn:j=y.1
     .subst Bn;simp[FK]at hl
     .have:listed.getD j true=false:=by
       simp[FK]at hl ⊢;rw[ahc _ (λe=>Bn e.symm)]at hl;exact hl
      obtain⟨x,hx,Qf⟩:=hleft.all j hj this;refine⟨x,?_,Qf⟩;rcases dH.1 hx with hx|hx
      .simp [hx]
      .rcases cU.1 hx with hx|hx
       .subst hx;exact absurd Qf.symm Bn
       .simp [hx]
    .exact hleft.pw.sublist (List.Sublist.append (List.Sublist.refl A) (List.sublist_cons_self y C))
    .have q:=hleft.up x (FY x hx) j z hz he;have FK:j<listed.size:=by rw[Bp];exact(cS.1 hz).1
     by_cases Bn:j=y.1
     .exfalso;subst Bn;rw[F4.1]at hz h3;cases hz;cases h3;unfold Ab at he;obtain⟨e,lh,kx⟩:=dZ.1 he;simp only[bS]at kx;have hl:=h4 e (by simpa using lh) kx.1;rw[lQ.1 kx.2]at hl;have qF:=(hleft.kD x (FY x hx))
      have oJ:x.1<listed.size:=by rw[Bp];exact(cS.1 qF.1).1
      have qF:=qF.2;simp[oJ]at hl qF;rw[hl]at qF;cases qF
     .simp [FK]at q ⊢;rw[ahc _ (λe=>Bn e.symm)];exact q
   unfold wpOp;rw[F4.1];simp only;rcases N8 hT g r k1 (ho y aH) (wpAny P .any ops Q fuel (listed.setIfInBounds y.1 true)) Q (λa' w' L' hr=>ih _ (A++C) _ a' w' L' (by simp at hlen ⊢;omega) (by simpa using Bp) aal (λx hx=>ho x (by
    rcases dH.1 hx with hx|hx<;>simp[hx])) (by rw[gO];exact k2) hr)with⟨p1,p2⟩|⟨p1,p2⟩
   .rw [aZ p1];exact .inl p2
   .rw [aY (by rw[p1];simp)];exact p2
def abd{us:List (Oper×jV)}(w8:us.map (·.1)=ops.toList)(hp:BT ops 0 us=true):
 ∃ R:List (Nat×Oper×jV),R.map (·.2)=us/\R.length=ops.size/\Left ops (Array.replicate ops.size false) R:=by
 have key:∀ (us:List (Oper×jV)) (k:Nat),BT ops k us=true->(∀ j x,us[j]? = some x->ops[k+j]? = some x.1) ->
  ∃ R:List (Nat×Oper×jV),R.map (·.2)=us/\(∀ j x,R[j]? = some x->x.1=k+j)/\(∀ x,x ∈ R->ops[x.1]? = some x.2.1)/\(R.Pairwise λx y=>x.1<y.1/\(yO ops 3 y.2.1 x.1||z8 ops x.2 y.2)=true) /\
   (∀ x,x ∈ R->∀ e,e ∈ x.2.1.after->Region.binds .any e=true->e.on<x.1):=by
  intro us
  induction us with
  |nil=>exact λk _ _=>⟨[],rfl,λj x h=>by simp at h,λx h=>by simp at h,List.Pairwise.nil,λx h=>by simp at h⟩
  |cons x us ih=>
   intro k hp om;simp only[BT,bS]at hp;obtain⟨R,r1,r2,r3,r4,r5⟩:=ih (k+1) hp.2 (λj y hy=>by have:=om (j+1) y (by simpa using hy);rwa[(aC:k+(j+1)=k+1+j)]at this);have qQ:∀ y,y ∈ R->k<y.1/\y.2 ∈ us:=by
    intro y hy;obtain⟨j,hj⟩:=dv.1 hy;have:=r2 j y hj;exact⟨aC,by rw[<-r1];exact dk.2 ⟨y,hy,rfl⟩⟩
   refine⟨(k,x)::R,by simp[r1],λj y hy=>?_,λy hy=>?_,?_,λy hy=>?_⟩
   .cases j with
    |zero=>simp at hy;subst hy;rfl
    |succ j=>have:=r2 j y (by simpa using hy);omega
   .rcases cU.1 hy with hy|hy
    .subst hy;have:=om 0 x rfl;simpa using this
    .exact r3 y hy
   .rw [ag9];refine⟨λy hy=>⟨(qQ y hy).1,?_⟩,r4⟩;exact bY.1 hp.1.2 y.2 (qQ y hy).2
   .rcases cU.1 hy with hy|hy
    .subst hy;intro e he hb;have:=bY.1 hp.1.1 e (by simpa using he);simpa[hb]using this
    .exact r5 y hy
 obtain⟨R,r1,r2,r3,r4,r5⟩:=key us 0 hp (λj x hx=>by
  rw[bW];have:=congrArg (·[j]?) w8;simp only[cD,hx,cL]at this;simpa using this.symm)
 have hlen:R.length=ops.size:=by
  have h1:=congrArg List.length r1;have h2:=congrArg List.length w8;simp at h1 h2;omega
 refine⟨R,r1,hlen,λx hx=>⟨r3 x hx,?_⟩,λi hi _=>?_,r4,r5,λx hx j z hz _=>by have:=(cS.1 hz).1;simp[this]⟩
 .have:=(cS.1 (r3 x hx)).1;simp[this]
 .have lR:i<R.length:= aC ;exact⟨R[i],ck lR,by have:=r2 i R[i] (bt lR);omega⟩
end
def PS.le(σ τ:PS):Prop:=∀ (w0:World) (B:Nat->Prop) (a:Act) (w:World) (L:Lk),(∀ b,B b->b<w0.heap.size)->iZ w0 B σ a w L->∃ L',iZ w0 B τ a w L'
def PS.le.refl(σ:PS):PS.le σ σ:=λ_ _ _ _ L _ r=>⟨L,r⟩
def PS.le.trans{σ τ υ:PS}(h:PS.le σ τ)(k:PS.le τ υ):PS.le σ υ:=λw0 B a w L g r=>let⟨L',r'⟩:=h w0 B a w L g r;k w0 B a w L' g r'
def PV.le.refl(p:PV):PV.le p p:=λ_ _ _ _ _ h=>h
def Bx.le(a b:Bx):Prop:=(a.nl=true->b.nl=true)/\∀ (bs br:Nat->Prop) (L:Lk) (w:World) (id:Nat),qu bs br L w id a->qu bs br L w id b
def Bx.le.refl(a:Bx):Bx.le a a:=⟨id,λ_ _ _ _ _ h=>h⟩
def vg(σ:PS):List (Nat×PV)->Prop
 | []=>True
 | (k,p)::l=>PV.le (σ.get k) p/\vg σ l
def ue(σ:PS):List (Nat×Bx)->Prop
 | []=>True
 | (id,b)::l=>(∃ b',σ.bo id=some b'/\Bx.le b' b)/\ue σ l
def D8(τ:PS):Bool:=τ.t.all λx=>x.2.pz.all λid=>(look τ.b id).isSome
def Ks{α:Type}{l:List (Nat×α)}{t:Nat}{x:α}(h:look l t=some x):(t,x) ∈ l:=by
 induction l with
 |nil=>cases h
 |cons y l ih=>
  obtain⟨k,z⟩:=y;rw[rM]at h;split at h
  .rename_i e;cases h;subst e;exact .head _
  .exact .tail _ (ih h)
def vg.get{σ:PS}{l:List (Nat×PV)}(h:vg σ l){t:Nat}{p:PV}(k:look l t=some p):PV.le (σ.get t) p:=by
 induction l with
 |nil=>cases k
 |cons y l ih=>
  obtain⟨q,z⟩:=y;rw[rM]at k;split at k
  .rename_i e;cases k;subst e;exact h.1
  .exact ih h.2 k
def ue.get{σ:PS}{l:List (Nat×Bx)}(h:ue σ l){t:Nat}{b:Bx}(k:look l t=some b):∃ b',σ.bo t=some b'/\Bx.le b' b:=by
 induction l with
 |nil=>cases k
 |cons y l ih=>
  obtain⟨q,z⟩:=y;rw[rM]at k;split at k
  .rename_i e;cases k;subst e;exact h.1
  .exact ih h.2 k
def PS.le.oA{σ τ:PS}(hn:σ.n=τ.n)(jE:τ.nl=σ.nl)(hr:D8 τ=true)(ht:vg σ τ.t)(hb:ue σ τ.b):PS.le σ τ:=λw0 B a w L _ r=>by
 let L':Lk:=⟨λid=>L.na id/\(τ.bo id).isSome=true,λid x=>L.own id x/\(τ.bo id).isSome=true,L.val,L.iW⟩
 have iA:rp L w L' w:=⟨bd _,λx _ ⟨id,h,_⟩=>⟨id,h⟩,λ_ _ _=>rfl⟩
 refine⟨L',r.hd,by rw[<-hn];exact r.hs,λt=>?_,λid b h=>?_,λid=>?_,λid x h=>⟨r.hn id x h.1,h.2⟩,λid x h=>r.hw id x h.1,λid id' x h k=>r.hi id id' x h.1 k.1,r.he,λh id b k=>?_⟩
 .have hg:τ.get t=((look τ.t t)).getD (.e .any):=rfl;cases hl:look τ.t t with
  |none=>rw[hg,hl];exact .any _
  |some p=>
   rw[hg,hl];have:=ht.get hl _ _ _ _ _ (r.ht t);refine mH.move iA this λid hid tn=>⟨⟨tn,?_⟩,rfl,λ_=>rfl⟩
   have q:=bY.1 hr _ (Ks hl);exact bY.1 q id hid
 .obtain ⟨b',h1,h2⟩:=hb.get h;have hs:(τ.bo id).isSome=true:=by rw[h];rfl
  exact(h2.2 _ _ _ _ _ (r.hb id b' h1)).later iA rfl (λx=>⟨λq=>q.1,λq=>⟨q,hs⟩⟩) (λ_=>rfl) λ_ _=>rfl
 .show L.na id/\(τ.bo id).isSome=true↔(τ.bo id).isSome=true;refine⟨λh=>h.2,λh=>⟨(r.hv id).2 ?_,h⟩⟩;obtain⟨b,jO⟩:=fX.1 h;obtain⟨b',h1,_⟩:=hb.get jO;rw[h1];rfl
 .obtain ⟨b',h1,h2⟩:=hb.get k;exact h2.1 (r.hl (by rw[<-jE];exact h) id b' h1)
def Cx(σ:PS):List Nat->List (Nat×Bx)
 | []=>[]
 |i::l=>match σ.bo i with
  |some b=>(i,b)::Cx σ l
  |none=>Cx σ l
def PS.cut(ts bs:List Nat)(σ:PS):PS:={ n:=σ.n,nl:=σ.nl,t:=ts.map λt=>(t,σ.get t),b:=Cx σ bs }
def vg.cut(σ:PS):∀ ts:List Nat,vg σ (ts.map λt=>(t,σ.get t))
 | []=>trivial
 |_::l=>⟨PV.le.refl _,vg.cut σ l⟩
def ue.cut(σ:PS):∀ bs:List Nat,ue σ (Cx σ bs)
 | []=>trivial
 |i::l=>by
  unfold Cx;split
  .rename_i b h;exact⟨⟨b,h,Bx.le.refl b⟩,ue.cut σ l⟩
  .exact ue.cut σ l
def PS.le.cut{σ:PS}(ts bs:List Nat)(hr:D8 (σ.cut ts bs)=true):PS.le σ (σ.cut ts bs):=PS.le.oA rfl rfl hr (vg.cut σ ts) (ue.cut σ bs)
def Ex.to:Ex->Exit
 | .normal=>.normal
 | .exit id=>.exit id
 | .ret=>.ret
def Sp(P:Program)(K:World->Prop)(c:Code)(σ:PS)(Q:Ex->PS->Prop):Prop:=
 ∀ (w0:World) (B:Nat->Prop) (a:Act) (w:World) (L:Lk),Gd P K w0 B->iZ w0 B σ a w L->c.wp P (λe a' w'=>∃ ex τ L',e=ex.to/\Q ex τ/\iZ w0 B τ a' w' L') a w
def Sp.mono{P:Program}{K:World->Prop}{c:Code}{σ:PS}{Q Q':Ex->PS->Prop}(h:Sp P K c σ Q)(hq:∀ e τ,Q e τ->Q' e τ):Sp P K c σ Q':=
 λw0 B a w L g r=>Code.wp_mono (λ_ _ _ ⟨ex,τ,L',h1,h2,h3⟩=>⟨ex,τ,L',h1,hq _ _ h2,h3⟩) (h w0 B a w L g r)
abbrev Lo:=List (Nat×(Ex×PS×List Nat×List Nat))
section
variable {P:Program} {K:World->Prop} {T:List TI} {O:oR} {lo:Lo}
def Sp.loop{b:Code}{Q:Ex->PS->Prop}(J:Nat->PS->Prop)(pY:∀ n σ,J n σ->Sp P K b σ (λe τ=>(e = .normal/\∃ m,m<n/\J m τ)\/(e ≠ .normal/\Q e τ))):
 ∀ n σ,J n σ->Sp P K (.loop b) σ Q:=by
 intro n0 σ0 ZL w0 B a0 w1 L0 g r0 bf k cs;have key:∀ n σ a w L,J n σ->iZ w0 B σ a w L ->
  ∃ e a' w',(∃ ex τ L',e=ex.to/\Q ex τ/\iZ w0 B τ a' w' L')/\Arrives P (lone (bf.at a (.code b :: .inLoop b::k)) cs w) bf k cs e a' w':=by
  intro n
  induction n using Nat.strongRecOn with
  |_ n ih=>
   intro σ a w L hJ r;obtain⟨e,a₁,w₁,⟨ex,υ,L2,rfl,hq,mW⟩,uy⟩:=pY n σ hJ w0 B a w L g r bf (.inLoop b::k) cs;rcases hq with⟨rfl,m,hm,Jj⟩|⟨kG,hq⟩
   .obtain ⟨e₂,a₂,w₂,JS,Jw⟩:=ih m hm υ a₁ w₁ L2 Jj mW;exact⟨e₂,a₂,w₂,JS,.of_steps (Steps.trans uy (.one step_inLoop)) Jw⟩
   .cases ex with
    |normal=>exact absurd rfl kG
    |exit i=>exact⟨_,a₁,w₁,⟨.exit i,υ,L2,rfl,hq,mW⟩,.pass (x:=.inLoop b) rfl (λ_ _=>.inl (by simp[Ex.to])) uy⟩
    |ret=>exact⟨_,a₁,w₁,⟨.ret,υ,L2,rfl,hq,mW⟩,.pass (x:=.inLoop b) rfl (λ_ _=>.inl (by simp[Ex.to])) uy⟩
 obtain⟨e,a',w',hq,uy⟩:=key n0 σ0 a0 w1 L0 ZL r0;exact⟨e,a',w',hq,.of_steps (.one step_loop) uy⟩
def afN{w0:World}{B:Nat->Prop}{σ:PS}{a:Act}{w:World}{L:Lk}(hB:∀ b,B b->b<w0.heap.size)(r:iZ w0 B σ a w L){p:PV}{e:E}(h:G4 σ p=some e){v:Value}(hv:mH (ja B L) (jF L) L w p v):
 iB B (λ_=>True) w e v:=by
 have Pf:∀ id x,L.own id x->¬B x:=λid x hx hb=>by have:=hB x hb;have:=(r.hw id x hx).1;omega
 have own:∀ (v:Value) (T:TypeId) (n sz:Nat) (f:Nat->Nat->Value) (nl:Bool) (el:Nat->Nat->E) (id:Nat),pg w v T n sz f nl->(∀ x,v.ownBlock=some x->L.own id x) ->
  (∀ i j,i<n->j<sz->iB (ja B L) (jF L) w (el i j) (f i j)/\(el i j).nr 2=true)->iB B (λ_=>True) w (.sl nl n sz el) v:=by
  intro v T n sz f nl el id h1 h2 h3;rcases h1 with⟨rfl,rfl⟩|⟨b,c,cur,rfl,hg,oI,nG,mJ,kF,jE⟩
  .exact .sl nl 0 sz el none 0 f (bd _) aE (λ_=>rfl) (λi j hi=>absurd hi (bE i)) (λi j hi=>absurd hi (bE i)) (λi j hi=>absurd hi (bE i)) (λi j hi=>absurd hi (bE i))
  .have qj:=h2 b rfl;refine .sl nl n sz el _ c f oI (by unfold maxLen at nG;omega) (λh=>by cases h) (λi j hi hj=>⟨(kF i j hi hj).2,λhn=>jE hn _ (dF (kF i j hi hj).1)⟩) (λi j hi hj=>(h3 i j hi hj).2)
    (λi j hi hj=>⟨b,0,rfl,Pf id b qj,(r.hw id b qj).2,?_⟩) (λi j hi hj=>((h3 i j hi hj).1.qt (λ_ h=>.inl h) (λ_ h=>h)).nr 2 (h3 i j hi hj).2)
   rw[bW];simp only[World.cell?,hg];simpa using(kF i j hi hj).1
 cases p with
 |e x=>
  simp only[G4]at h;split at h
  .rename_i hn;cases h;exact(iB.qt (bs':=B) (br':=jF L) (λ_ h=>.inl h) (λ_ h=>h) hv).nr 3 hn
  .cases h
 |own id=>
  obtain⟨_,rfl⟩:=hv;simp only[G4]at h;split at h
  .rename_i nl T n sz el jO;cases h;obtain⟨f,h1,h2,h3⟩:=r.hb id _ jO;exact own _ T n sz f nl el id h1 (λx hx=>(h2 x).2 hx) h3
  .rename_i nl T1 T0 n sz len el jO;cases h;obtain⟨b,c,cur,f,h1,h2,h3,h4,h5,h6,h7,h8,h9,sw,tf⟩:=r.hb id _ jO;have qj:L.own id b:=(h9 b).2 (.inl rfl);rw[h1];refine .sl true n 1 _ _ c (λk _=>L.iW id k) h3 (by unfold maxLen at h4;omega) (λh=>by cases h) (λk j hk hj=>?_) (λk j hk hj=>rfl)
    (λk j hk hj=>⟨b,0,rfl,Pf id b qj,(r.hw id b qj).2,?_⟩) (λk j hk hj=>own _ T0 (len k) sz (f k) nl (el k) id (h8 k hk).1 (λx hx=>(h9 x).2 (.inr ⟨k,hk,hx⟩)) (h8 k hk).2)
   .obtain ⟨q1,q2⟩:=h7 _ (dF (h6 k hk aH));exact⟨q1,λ_=>q2⟩
   .rw [bW,ch];obtain rfl:j=0:= aC ;simp only[World.cell?,h2];simpa using h6 k hk aH 
  .cases h
 |_=>cases h
def As(tmps:Array Value):ResultVar->Sem Value
 | .tmp t=>Pure.pure (tmps.getD t undef)
 | .cell q t=>do loadVar t (<-asAddr (tmps.getD q undef))
def Li(fn:Func)(tmps:Array Value):results fn tmps=(do
 let vs <-fn.results.mapM (As tmps)
 Pure.pure (if h:vs.size=1 then vs[0]else .tuple vs)):=by
 unfold results;congr 1
def ad7{w0:World}{B:Nat->Prop}{σ:PS}{a:Act}{w:World}{L:Lk}(hT:lE P T)(hB:∀ b,B b->b<w0.heap.size)(r:iZ w0 B σ a w L){x:ResultVar}{e:E}(h:Lh T σ x=some e):
 ∃ v,(As a.tmps x).run P w = .ok v w/\iB B (λ_=>True) w e v:=by
 cases x with
 |tmp t=>exact⟨_,rfl,afN hB r h (r.ht t)⟩
 |cell q t=>
  simp only[Lh]at h;split at h
  .rename_i ti nR;split at h
   .rename_i l is JT;obtain⟨b,of,vs,e1,h1,h2,h3⟩:=r.read (r.ht q) JT (λq hq=>by simp at hq);by_cases ha:ti.isAgg=true
    .rw [aZ ha]at h;split at h
     .rename_i hn;cases h;refine⟨.agg vs.toArray,?_,(iB.qt (bs':=B) (br':=jF L) (λ_ h=>.inl h) (λ_ h=>h) h1.agg).nr 3 hn⟩;simp only[As,e1,asAddr,Sem.run_bind,Sem.run_pure,Result.andThen_ok,SK hT w nR ha b of vs h2 h3]
     .cases h
    .rw [aY ha]at h;split at h
     .rename_i y;split at h
      .rename_i hn;cases h;obtain⟨z,zs,rfl,hz,_⟩:=h1.lp;refine⟨z,?_,(iB.qt (bs':=B) (br':=jF L) (λ_ h=>.inl h) (λ_ h=>h) hz).nr 3 hn⟩;simp only[As,e1,asAddr,Sem.run_bind,Sem.run_pure,Result.andThen_ok,Lt hT w nR (by simpa using ha) b of z (by simpa using h3 0 z rfl)]
      .cases h
     .cases h
   .cases h
  .cases h
def ad5{w0:World}{B:Nat->Prop}{σ:PS}{a:Act}{w:World}{L:Lk}(hT:lE P T)(hB:∀ b,B b->b<w0.heap.size)(r:iZ w0 B σ a w L){l:List ResultVar}{es:List E}(h:B3 T σ l=some es):
 ∃ vs,(l.mapM (As a.tmps)).run P w = .ok vs w/\jJ B (λ_=>True) w es vs:=by
 induction l generalizing es with
 |nil=>simp only[B3,bK]at h;subst h;exact⟨[],rfl,.nil _ _ _⟩
 |cons x l ih=>
  simp only[B3]at h;split at h
  .rename_i e es' h1 h2;cases h;obtain⟨v,q1,q2⟩:=ad7 hT hB r h1;obtain⟨vs,p1,p2⟩:=ih h2;refine⟨v::vs,?_,.cons q2 p2⟩;rw[eU];simp only[Sem.run_bind,q1,Result.andThen_ok,p1,Sem.run_pure]
  .cases h
def ad6{w0:World}{B:Nat->Prop}{σ:PS}{a:Act}{w:World}{L:Lk}(hT:lE P T)(hB:∀ b,B b->b<w0.heap.size)(r:iZ w0 B σ a w L){fn:Func}{e:E}(h:GK T fn σ=some e):
 ∃ v,(results fn a.tmps).run P w = .ok v w/\iB B (λ_=>True) w e v:=by
 unfold GK at h;have main:∀ es,B3 T σ fn.results.toList=some es->∃ vs:List Value,(fn.results.mapM (As a.tmps)).run P w = .ok vs.toArray w/\jJ B (λ_=>True) w es vs:=by
  intro es hes;obtain⟨vs,h1,h2⟩:=ad5 hT hB r hes;refine⟨vs,?_,h2⟩;rw[ahv];simp only[Sem.run_map,h1,Result.andThen_ok]
 split at h
 .rename_i y hy;cases h;obtain⟨vs,h1,h2⟩:=main _ hy;obtain⟨v,vs',rfl,hv,zJ⟩:=h2.lp;have:=zJ.o0;subst this;refine⟨v,?_,hv⟩;rw[Li,Sem.run_bind,h1];simp
 .rename_i l kG hl;cases h;obtain⟨vs,h1,h2⟩:=main _ hl;refine⟨.tuple vs.toArray,?_,h2.ik⟩;rw[Li,Sem.run_bind,h1];have hlen:¬vs.length=1:=by
   rw[h2.len];intro e1
   match l,e1 with
   | [y],_=>exact kG y rfl
  simp[hlen]
 .cases h
def aaD(args:List E):∀ (k t:Nat),look (Dp k args) t=if k<=t then(args[t-k]?).map .e else none:=by
 induction args with
 |nil=>intro k t;simp[Dp,look]
 |cons x l ih=>
  intro k t;simp only[Dp];rw[rM,ih (k+1) t];by_cases h:k=t
  .subst h;simp
  .rw [aY h];by_cases h2:k<=t
   .rw [aZ aC,aZ h2,(aC:t-k=(t-(k+1))+1)];simp
   .rw [aY aC,aY h2]
def iZ.init{B:Nat->Prop}{w:World}{fn:Func}{args:List E}{vs:List Value}(hr:jJ B (λ_=>False) w args vs)(hn:args.length<=fn.ntmps)(nl:Bool)(_hB:∀ b,B b->b<w.heap.size/\nC w b):
 iZ w B (yy fn nl args) { tmps:=vs.toArray++Array.replicate (fn.ntmps-vs.toArray.size) undef,defers:=[] } w ⟨λ_=>False,λ_ _=>False,λ_=>undef,λ_ _=>undef⟩:=by
 have hlen:=hr.len;refine⟨rfl,by simp[yy];omega,λt=>?_,λid b hb=>(by cases hb),λid=>⟨λh=>h.elim,λh=>(by cases h)⟩,λ_ _ h=>h.elim,λ_ _ h=>h.elim,λ_ _ _ h=>h.elim,Below.refl _ _,λ_ id b hb=>(by cases hb)⟩;have hg:(yy fn nl args).get t=((args[t]?).map PV.e).getD (.e .any):=by
  unfold PS.get yy;rw[aaD];simp
 rw[hg];by_cases ht:t<args.length
 .have FZ:t<vs.length:= aC ;rw[bt ht];have hv:(vs.toArray++Array.replicate (fn.ntmps-vs.toArray.size) undef).getD t undef=vs[t]:=by
   simp[Array.getElem?_append,FZ]
  show iB _ _ _ _ _;rw[hv];exact(hr.ko t _ _ (bt ht) (bt FZ)).qt (λb h=>h.elim id λ⟨_,h⟩=>h.elim) (λ_ ⟨_,h⟩=>h.elim)
 .rw [ct aC];exact .any _
def PC.Kx(hT:lE P T)(hm:P.follows .mixedOrders=true)(hp:∀ w w',K w->Below w.heap.size w w'->K w'){f:FuncId}{fn:Func}{c:Code}{args:List E}{jL:E}(uA:∀ (vs:Array Value) (w:World),(callFunc f vs).run P w = .ok (.enter f vs) w)
 (hf:P.funcs[f]? = some fn) (hb:fn.body=some c) (hn:args.length<=fn.ntmps) (nl:Bool)
 (h:Sp P K c (yy fn nl args) (λe τ=>(e = .ret\/e = .normal)/\∃ r,GK T fn τ=some r/\∀ (bs br:Nat->Prop) (w:World) (v:Value),iB bs br w r v->iB bs br w jL v)):PC P K f args jL:=by
 refine⟨uA,λw B vs hK hB hr=>calls_of_wp hf hb ?_⟩;have uM:=iZ.init (fn:=fn) hr hn nl hB;refine Code.wp_mono ?_ (h w B _ w _ ⟨hK,hp,hB⟩ uM);rintro e a' w' ⟨ex,τ,L',rfl,⟨he,r,Da,hle⟩,uL⟩;obtain⟨v,h1,h2⟩:=ad6 hT (λb hb=>(hB b hb).1) uL Da;have C6:a'.defers=[]/\∃ v,(results fn a'.tmps).run P w' = .ok v w'/\∃ v',Ending.returned v = .returned v'/\Below w.heap.size w w'/\iB B (λ_=>True) w' jL v':=⟨uL.hd,v,h1,v,rfl,uL.he,hle _ _ _ _ h2⟩
 rcases he with rfl|rfl
 .exact C6
 .exact C6
def sW.Kx(hT:lE P T)(hm:P.follows .mixedOrders=true)(hp:∀ w w',K w->Below w.heap.size w w'->K w'){f:FuncId}{fn:Func}{c:Code}{args:List E}(uA:∀ (vs:Array Value) (w:World),(callFunc f vs).run P w = .ok (.enter f vs) w)
 (hf:P.funcs[f]? = some fn) (hb:fn.body=some c) (hn:args.length<=fn.ntmps) (nl:Bool) {nl':Bool} {T0:TypeId} {n sz:Nat} {el:Nat->Nat->E}
 (h:Sp P K c (yy fn nl args) (λe τ=>(e = .ret\/e = .normal)/\∃ t id b,fn.results.toList=[.tmp t]/\τ.get t = .own id/\τ.bo id=some b/\∀ (bs br:Nat->Prop) (L:Lk) (w:World),qu bs br L w id b->qu bs br L w id (.row nl' T0 n sz el))):sW P K f args nl' T0 n sz el:=by
 refine⟨uA,λw B vs hK hB hr=>calls_of_wp hf hb ?_⟩;have uM:=iZ.init (fn:=fn) hr hn nl hB;refine Code.wp_mono ?_ (h w B _ w _ ⟨hK,hp,hB⟩ uM);rintro e a' w' ⟨ex,τ,L',rfl,⟨he,t,id,b,Da,hg,jO,hle⟩,uL⟩;have ho:=uL.ht t;rw[hg]at ho;obtain⟨tn,hv⟩:=ho;obtain⟨f0,h1,h2,h3⟩:=hle _ _ _ _ (uL.hb id b jO);have kP:(results fn a'.tmps).run P w' = .ok (L'.val id) w':=by
  rw[Li,Sem.run_bind,ahv,Da,Sem.run_map,eU];simp only[As,Sem.run_bind,Sem.run_pure,Result.andThen_ok,List.mapM_nil,hv];simp
 have C6:a'.defers=[]/\∃ v,(results fn a'.tmps).run P w' = .ok v w'/\∃ v',Ending.returned v = .returned v'/\Below w.heap.size w w'/\∃ g,pg w' v' T0 n sz g nl'/\(∀ x,v'.ownBlock=some x->w.heap.size<=x/\x<w'.heap.size) /\
  ∀ i j,i<n->j<sz->iB (λb=>B b\/v'.ownBlock=some b) (λ_=>True) w' (el i j) (g i j)/\(el i j).nr 2=true:=by
  refine⟨uL.hd,_,kP,_,rfl,uL.he,f0,h1,λx hx=>uL.hw id x ((h2 x).2 hx),λi j hi hj=>⟨?_,(h3 i j hi hj).2⟩⟩;refine((h3 i j hi hj).1.qt (bs':=λb=>B b\/(L'.val id).ownBlock=some b) (br':=jF L') (λb hb=>?_) (λ_ h=>h)).nr 2 (h3 i j hi hj).2;rcases hb with hb|hb
  .exact .inl hb
  .exact .inr ⟨id,(h2 b).2 hb⟩
 rcases he with rfl|rfl
 .exact C6
 .exact C6
end
def EG(P:Program):List TI->Prop
 | []=>True
 |x::l=>(P.underlying x.id=some x.d/\P.info? x.id=some x.i)/\EG P l
def EG.ok{P:Program}{T:List TI}(h:EG P T):lE P T:=by
 induction T with
 |nil=>intro x hx;simp at hx
 |cons y l ih=>
  intro x hx;rcases cU.1 hx with hx|hx
  .subst hx;exact h.1
  .exact ih h.2 x hx
def E.le(p q:E):Prop:=∀ (bs br:Nat->Prop) (w:World) (v:Value),iB bs br w p v->iB bs br w q v
def E.le.refl(p:E):E.le p p:=λ_ _ _ _ h=>h
def E.le.iH{p q:E}(h:p=q):E.le p q:=h▸E.le.refl p
def E.le.trans{p q r:E}(h:E.le p q)(k:E.le q r):E.le p r:=λ_ _ _ _ x=>k _ _ _ _ (h _ _ _ _ x)
def PV.le.e{p q:E}(h:E.le p q):aj p q:=λbs br _ w v k=>h bs br w v k
def PV.le.bool{a b:Bool}(h:a=b):aj (.v (.bool a)) (.v (.bool b)):=PV.le.e (.iH (by rw[h]))
def PV.le.int{k:IntKind}{a b:Int}(h:a=b):aj (.v (.int k a)) (.v (.int k b)):=PV.le.e (.iH (by rw[h]))
def aq(a b:Int)(h:a=b):aj (.v (.int .i64 a)) (.v (.int .i64 b)):=.int h
inductive r8:List E->List E->Prop
 |nil:r8 [] []
 |cons {p q:E} {l m:List E} (h:E.le p q) (k:r8 l m):r8 (p::l) (q::m)
def r8.refl:∀ l:List E,r8 l l
 | []=>.nil
 |p::l=>.cons (.refl p) (r8.refl l)
def r8.GJ{l m:List E}(h:r8 l m){bs br:Nat->Prop}{w:World}{vs:List Value}(k:jJ bs br w l vs):jJ bs br w m vs:=by
 induction h generalizing vs with
 |nil=>exact k
 |cons h _ ih=>
  obtain⟨x,ys,rfl,h1,h2⟩:=k.lp;exact .cons (h _ _ _ _ h1) (ih h2)
def E.le.agg{l m:List E}(h:r8 l m):E.le (.agg l) (.agg m):=λ_ _ _ _ k=>by
 obtain⟨vs,rfl,hr⟩:=iB.AR k;exact(h.GJ hr).agg
def E.le.ik{l m:List E}(h:r8 l m):E.le (.ik l) (.ik m):=λ_ _ _ _ k=>by
 obtain⟨vs,rfl,hr⟩:=iB.TN k;exact(h.GJ hr).ik
def E.le.nil(nl:Bool)(sz:Nat)(el:Nat->Nat->E):E.le (.v (.slice none 0 0)) (.sl nl 0 sz el):=λ_ _ _ _ k=>by
 obtain rfl:=iB.jX k;exact .sl nl 0 sz el none 0 (λ_ _=>undef) (bd _) aE (λ_=>rfl) (λi j h=>absurd h (bE i)) (λi j h=>absurd h (bE i)) (λi j h=>absurd h (bE i)) (λi j h=>absurd h (bE i))
def E.le.sl{nl:Bool}{n sz:Nat}{el el':Nat->Nat->E}(h:∀ i j,i<n->j<sz->E.le (el i j) (el' i j)/\(el' i j).nr 2=true):E.le (.sl nl n sz el) (.sl nl n sz el'):=λbs br w v k=>by
 cases k with
 |sl _ _ _ _ A c f hc hm h0 hl hr cell kk=>
  exact .sl nl n sz el' A c f hc hm h0 hl (λi j hi hj=>(h i j hi hj).2) cell λi j hi hj=>(h i j hi hj).1 _ _ _ _ (kk i j hi hj)
def PC.le{P:Program}{K:World->Prop}{f:FuncId}{args args':List E}{jL res':E}(h:PC P K f args jL)(ha:r8 args' args)(hr:E.le jL res'):PC P K f args' res':=
 ⟨h.call,λw B vs hK hB qD=>(h.run w B vs hK hB (ha.GJ qD)).mono λ_ _ ⟨v,h1,h2,h3⟩=>⟨v,h1,h2,hr _ _ _ _ h3⟩⟩
def PC.jL{P:Program}{K:World->Prop}{f:FuncId}{args:List E}{jL res':E}(h:PC P K f args jL)(hr:E.le jL res'):PC P K f args res':=h.le (r8.refl _) hr
end Go.Proofs.YtkjkcjhacddojaaGreatDoor.Pu
namespace Go.Proofs.YtkjkcjhacddojaaGreatDoor
open Go.RowKit Fp
def sM(A:Option Addr)(c:Nat)(L:List Nat)(w:World)(hs:Sl w A c L):
 Calls prog 274 #[.slice A L.length c] w λe w'=>e = .returned (.slice A (ix L).length c)/\w=w':=by
 have hc:=hs.cap;have hl:=hs.pq;go_enter func274,ntmps274;go_wp2;go_loop [3] (λi=>∃ k:Nat,k<=L.length/\i = .int .i64 k/\lu L=lu (L.take k)) (λi=>(intOf i).toNat)
 case atStart=>exact⟨L.length,bd _,rfl,aH⟩
 case round=>
  obtain⟨k,hk,rfl,ht⟩:=hrel;have HT:=ahF ht;clear ht;by_cases h0:0<k
  .obtain ⟨ab,ao,rfl,hb,h1⟩:=hs.kD (i:=k-1) aC ;have e1:((k:Int)-1).toNat=k-1:= aC ;have Z:=ahF (LM L (k-1) aC);have NZ:=ahF (LL L (k-1) aC);rw[fO h0]at Z NZ;generalize L[k-1]=x at *
   by_cases hx:x=0
   .have Hx:=ahF hx;clear hx;have hb:((x:Int)==0)=true:=by have:=Hx.out;simp;omega
    go_wp2;go_round
    case rel=>exact⟨k-1,aC,by go_num,by rw[HT.out,Z.out Hx.out]⟩
    case measure=>simp[intOf];omega
   .have hb:((x:Int)==0)=false:= aN ;go_wp2;go_ret;exact⟨GL (by show _=lu L;rw[HT.out,NZ.out hx]),rfl⟩
  .go_wp2;go_ret;have:k=0:= aC ;subst this;exact⟨GL (by show _=lu L;rw[HT.out];rfl),rfl⟩
def Xu(A:Option Addr)(c:Nat)(L:List Nat)(w:World)(hs:Sl w A c L):
 Calls prog 299 #[.slice A L.length c] w λe w'=>e = .returned (.slice A (ix L).length c)/\w=w':=by
 have hc:=hs.cap;have hl:=hs.pq;go_enter func299,ntmps299;go_wp2;go_loop [3] (λi=>∃ k:Nat,k<=L.length/\i = .int .i64 k/\lu L=lu (L.take k)) (λi=>(intOf i).toNat)
 case atStart=>exact⟨L.length,bd _,rfl,aH⟩
 case round=>
  obtain⟨k,hk,rfl,ht⟩:=hrel;have HT:=ahF ht;clear ht;by_cases h0:0<k
  .obtain ⟨ab,ao,rfl,hb,h1⟩:=hs.kD (i:=k-1) aC ;have e1:((k:Int)-1).toNat=k-1:= aC ;have Z:=ahF (LM L (k-1) aC);have NZ:=ahF (LL L (k-1) aC);rw[fO h0]at Z NZ;generalize L[k-1]=x at *
   by_cases hx:x=0
   .have Hx:=ahF hx;clear hx;have hb:((x:Int)==0)=true:=by have:=Hx.out;simp;omega
    go_wp2;go_round
    case rel=>exact⟨k-1,aC,by go_num,by rw[HT.out,Z.out Hx.out]⟩
    case measure=>simp[intOf];omega
   .have hb:((x:Int)==0)=false:= aN ;go_wp2;go_ret;exact⟨GL (by show _=lu L;rw[HT.out,NZ.out hx]),rfl⟩
  .go_wp2;go_ret;have:k=0:= aC ;subst this;exact⟨GL (by show _=lu L;rw[HT.out];rfl),rfl⟩
def Sl.rY{w:World}{A:Option Addr}{c:Nat}{L:List Nat}(h:Sl w A c L):Sl w A c (ix L):=(h.take (lu L)).XF (G6 L).symm
def Vw:Go.Shelf.Ren:=⟨λ|128=>345|n=>n,λ|51=>150|3=>3|4=>4|46=>166|5=>5|9=>9|n=>n,λ|n=>n⟩
def Vs:Go.Proofs.Lays.n128 prog Vw:={
 mixed:= aF 
 f128:=func345.trans (congrArg some aF)
 t3:=underlying3
 a3:=Tryz.isAgg3
 z3:=Tryz.sizeOf3
 v3:=Tryz.zeroValue3
 t4:=underlying4
 a4:=Tryz.isAgg4
 z4:=Tryz.sizeOf4
 v4:=Tryz.zeroValue4
 t5:=underlying5
 a5:=Tryz.isAgg5
 z5:=Tryz.sizeOf5
 v5:=Tryz.zeroValue5
 t9:=underlying9
 a9:=Tryz.isAgg9
 z9:=Tryz.sizeOf9
 v9:=Tryz.zeroValue9
 t46:=underlying166
 a46:=Tryz.isAgg166
 z46:=Tryz.sizeOf166
 v46:=Tryz.zeroValue166
 t51:=underlying150
 a51:=Tryz.isAgg150
 z51:=Tryz.sizeOf150
 v51:=Tryz.zeroValue150 }
def QL(x:Nat)(hx:x<4294967296)(w:World):
 Calls prog 345 #[.int .u32 x] w λe w'=>e = .returned (.int .i64 (ib x))/\w=w':=by
 refine(Any.bits_Len32 Vs x w aC aC).mono ?_;rintro e w' ⟨rfl,rfl⟩;rw[fm,Vo x hx];exact⟨rfl,rfl⟩
def afZ(x k idx:Nat)(w:World)(ny:((x:Int)==0)=false)
 (key:bits BinOp.and IntKind.u32 (x:Int) (-(x:Int)%4294967296)*125613361%4294967296/134217728=(idx:Int))
 (hi:idx<32) (hk:k<32) (kF:w.cell? ⟨0,idx,none⟩=some (.int .u8 k)):
 Calls prog 355 #[.int .u32 x] w λe w'=>e = .returned (.int .i64 k)/\w=w':=by
 go_enter func355,ntmps355;go_wp2_with (simp only[key])
 go_ret;exact⟨rfl,rfl⟩
def afY(x:Nat)(h0:x≠0)(hx:x<4294967296)(w:World)(hT:Tb w):
 Calls prog 355 #[.int .u32 x] w λe w'=>e = .returned (.int .i64 (jq x))/\w=w':=by
 rw[<-WL x h0 hx];obtain⟨Bo,hk⟩:=Lib.lowest_bit 32 x h0 hx;obtain⟨hi,aau⟩:=Lib.deBruijn32_at _ hk;have kF:=hT _ hi;rw[aau]at kF;exact afZ x _ _ w aN (tz32_key x _ hx h0 Bo) hi hk kF
def i64_in(n:Int)(h0:-9223372036854775808<=n)(h1:n<=9223372036854775807):IntKind.i64.wrap n=n:=by rw[IntKind.wrap_i64];omega
def MN{L M:List Nat}{n:Nat}(hs:iD L)(hM:ix L=M)(hn:M.length=n+1):
 ∃ x,M[n]? = some x/\x<4294967296/\(32*(n:Int)+(ib x:Int))=(ib (val L):Int)/\ib x<=32:=by
 have hk:iD M:=hM▸hs.ix;have ht:mB M:=hM▸xv L;rcases gL M with rfl|⟨l,x,rfl⟩
 .simp at hn
 .simp only[gM,bX,fk,Nat.add_right_cancel_iff]at hn hk ht hM ⊢;subst hn;have hx:x≠0:=by simpa using(yY _).1 ht aH 
  have iA:x<4294967296:=hk x aH;refine⟨x,aH,iA,?_,kV.2 iA⟩;have:=Vv hk hx;rw[<-hM,oD]at this;omega
def Rj(A:Option Addr)(c:Nat)(L:List Nat)(w:World)(hs:Sl w A c L)(hlen:L.length<=100000000):
 Calls prog 294 #[.slice A L.length c] w λe w'=>e = .returned (.int .i64 (ib (val L)))/\w=w':=by
 have hT:=ahF (sM A c L w hs);have jS:=hs.rY;have mL:=nX L;unfold lu at mL;generalize hM:ix L=M at *
 obtain⟨n,hn⟩:∃ n,n=M.length:=⟨_,rfl⟩
 rw[<-hn]at hT mL;rcases n with _|n
 .have hv:ib (val L)=0:=by rw[<-oD,hM,du hn.symm];rfl
  have HV:=ahF hv;clear hv hM hn;go_enter func294,ntmps294;go_wp2_with (go_at_call 274;refine hT.out.mono ?_;rintro e w' ⟨rfl,rfl⟩)
  go_ret;exact⟨by rw[HV.out];rfl,rfl⟩
 .obtain ⟨x,hx,iA,hb,Z7⟩:=MN hs.ok hM hn.symm;obtain⟨ab,ao,rfl,_,kF⟩:=jS.cell _ _ hx;have HB:=ahF hb;clear hb hM hn hx;go_enter func294,ntmps294;go_wp2_with (first|(go_at_call 274;refine hT.out.mono ?_;rintro e w' ⟨rfl,rfl⟩)|(go_at_call 345;refine(QL x iA _).mono ?_;rintro e w' ⟨rfl,rfl⟩))
  go_ret;exact⟨nd HB.out,rfl⟩
def Vt{x:Nat}(h:x≠0):ib x=ib (x/2)+1:=by
 by_cases h1:x/2=0
 .have:x=1:= aC ;subst this;rfl
 .have e1:=rZ h1;have e2:=qH (x/2);have e3:=np h1;generalize ib (x/2)=k at *
  obtain⟨j,rfl⟩:∃ j,k=j+1:=⟨k-1,aC⟩
  rw[eo]at e1;refine wH ?_ ?_
  .rw [bw];omega
  .rw [bw];omega
def Su(A:Option Addr)(c:Nat)(L:List Nat)(w:World)(hs:Sl w A c L)(ht:mB L)(hlen:L.length<=100000000):
 Calls prog 170 #[.slice A L.length c] w λe w'=>e = .returned (.int .i64 (ib (val L)))/\w=w':=by
 obtain⟨n,hn⟩:∃ n,n=L.length:=⟨_,rfl⟩
 rcases n with _|n
 .have hv:ib (val L)=0:=by rw[du hn.symm];rfl
  have HV:=ahF hv;rw[<-hn];clear hv ht hn;go_enter func170,ntmps170;go_wp2;go_ret;exact⟨by rw[HV.out];rfl,rfl⟩
 .obtain ⟨x,hx,iA,hb,Z7⟩:=MN hs.ok ht hn.symm;obtain⟨ab,ao,rfl,_,kF⟩:=hs.cell _ _ hx;have HB:=ahF hb;rw[<-hn]at hlen ⊢;clear hb ht hn hx;go_enter func170,ntmps170;go_wp2;go_loop [3,4] (λm y=>∃ (k z:Nat),z<4294967296/\y = .int .u32 z/\m = .int .i64 k/\k<=10000000000/\k+ib z=ib (val L)) (λ_ y=>(intOf y).toNat)
  case atStart=>exact⟨32*n,x,iA,rfl,by go_num,aC,by have:=HB.out;omega⟩
  case round=>
   obtain⟨k,z,hz,rfl,rfl,hk,he⟩:=hrel;have HE:=ahF he;clear he;by_cases h0:0<z
   .have hh:=ahF (Vt (x:=z) aC);have vJ:k<=3300000000:=by have:=HE.out;have:=HB.out;omega
    go_wp2;go_round
    case rel=>exact⟨k+1,z/2,aC,by go_num,by go_num,aC,by rw[<-HE.out,hh.out];omega⟩
    case measure=>simp[intOf];omega
   .obtain rfl:z=0:= aC ;go_wp2;go_ret;exact⟨nd (by rw[<-HE.out];rfl),rfl⟩
def Nl{L M:List Nat}(hL:iD L)(h:(ix L).length<(ix M).length):jZ (val L) (val M) = -1:=by
 have:=Hc hL.ix (xv M) h;rw[oD,oD]at this;unfold jZ;rw[aZ this]
def Nk{L M:List Nat}(hM:iD M)(h:(ix M).length<(ix L).length):jZ (val L) (val M)=1:=by
 have:=Hc hM.ix (xv L) h;rw[oD,oD]at this;unfold jZ;rw[aY aC,aZ this]
def E4{M N:List Nat}(hM:iD M){k x y:Nat}(hl:M.length=N.length)(hx:M[k]? = some x)(hy:N[k]? = some y)(hd:M.drop (k+1)=N.drop (k+1))(h:x<y):val M<val N:=by
 obtain⟨h1,rfl⟩:=b9.1 hx;obtain⟨h2,rfl⟩:=b9.1 hy;exact agd hM k h1 hl hd h
def NR{M N:List Nat}{k x:Nat}(hx:M[k]? = some x)(hy:N[k]? = some x)(hd:M.drop (k+1)=N.drop (k+1)):M.drop k=N.drop k:=by
 obtain⟨h1,e1⟩:=b9.1 hx;obtain⟨h2,e2⟩:=b9.1 hy;rw[eK h1,eK h2,e1,e2,hd]
def Gi(A B:Option Addr)(c d:Nat)(L M:List Nat)(w:World)(hs:Sl w A c L)(hr:Sl w B d M)(h1:L.length<=100000000)(_h2:M.length<=100000000):
 Calls prog 220 #[.slice A L.length c,.slice B M.length d] w λe w'=>e = .returned (.int .i64 (jZ (val L) (val M)))/\iz w w':=by
 have hT:=ahF (sM A c L w hs);have hU:=ahF (sM B d M w hr);have jS:=hs.rY;have mW:=hr.rY;have mL:=nX L;have uE:=nX M;unfold lu at mL uE;by_cases iA:(ix L).length<(ix M).length
 .have HV:=ahF (Nl hs.ok iA);have kG:(((ix L).length:Int) != ((ix M).length:Nat))=true:= aN ;generalize (ix L).length=n at *
  generalize (ix M).length=m at *
  clear jS mW;go_enter func220,ntmps220;go_wp2_with fail;refine hT.out.mono ?_;rintro e w' ⟨rfl,rfl⟩;go_wp2_with fail;refine hU.out.mono ?_;rintro e w' ⟨rfl,rfl⟩;go_wp2;go_ret;exact⟨nd (by rw[HV.out]),iz.refl _⟩
 .by_cases CZ:(ix M).length<(ix L).length
  .have HV:=ahF (Nk hr.ok CZ);have kG:(((ix L).length:Int) != ((ix M).length:Nat))=true:= aN ;generalize (ix L).length=n at *
   generalize (ix M).length=m at *
   clear jS mW;go_enter func220,ntmps220;go_wp2_with fail;refine hT.out.mono ?_;rintro e w' ⟨rfl,rfl⟩;go_wp2_with fail;refine hU.out.mono ?_;rintro e w' ⟨rfl,rfl⟩;go_wp2;go_ret;exact⟨nd (by rw[HV.out]),iz.refl _⟩
  .have hl:(ix L).length=(ix M).length:= aC ;have HL:=ahF hl;rw[<-hl]at hU uE;have e1:=oD L;have e2:=oD M;generalize ix L=P at *
   generalize ix M=Q at *
   have E1:=ahF e1;have E2:=ahF e2;clear e1 e2 hl CZ iA;obtain⟨n,hn⟩:∃ n,n=P.length:=⟨_,rfl⟩
   rw[<-hn]at hT hU uE mL;have HN:=ahF hn;clear hn;have kG:((n:Int) != (n:Int))=false:= aH ;have okP:=jS.ok;have Ao:=mW.ok;go_enter func220,ntmps220;go_wp2_with fail;refine hT.out.mono ?_;rintro e w' ⟨rfl,rfl⟩;go_wp2_with fail;refine hU.out.mono ?_;rintro e w' ⟨rfl,rfl⟩;go_wp2;go_loopw [5] (λi wr=>∃ k:Nat,k<=n/\i = .int .i64 ((k:Int)-1)/\P.drop k=Q.drop k/\iz w wr) (λi _=>(intOf i+1).toNat)
   case atStart=>exact⟨n,bd _,rfl,by rw[dU (by rw[<-HN.out];exact bd _),dU (by rw[<-HL.out,<-HN.out];exact bd _)],iz.refl _⟩
   case round=>
    obtain⟨k,hk,rfl,hd,hb⟩:=hrel;have HD:=ahF hd;clear hd;rcases k with _|k
    .go_wp2;go_ret;have e:P=Q:=by simpa using HD.out
     exact⟨nd (by rw[<-E1.out,<-E2.out,e];unfold jZ;simp),hb⟩
    .have zI:k<P.length:=by have:=HN.out;omega
     have wW:k<Q.length:=by have:=HN.out;have:=HL.out;omega
     have HP:=ahF (bt zI);have HQ:=ahF (bt wW);obtain⟨ab,ao,rfl,_,c1⟩:=(jS.below hb).kD zI;obtain⟨bb,bo,rfl,_,c2⟩:=(mW.below hb).kD wW;have FM:(k:Int)<n:= aC ;have pI:(0:Int)<=k:= aC ;have x0:(0:Int)<=P[k]:= aC ;have y0:(0:Int)<=Q[k]:= aC ;generalize P[k]=x at *
     generalize Q[k]=y at *
     clear zI wW;by_cases oY:x<y
     .have J1:(x:Int)<y:= aC ;go_wp2;go_quiet (fail);go_wp2;go_ret;have h:=E4 okP HL.out HP.out HQ.out HD.out oY;rw[E1.out,E2.out]at h;exact⟨nd (by unfold jZ;rw[aZ h]),below_drewN hb _⟩
     .have J1:¬(x:Int)<y:= aC ;by_cases J2:y<x
      .have J3:(y:Int)<x:= aC ;go_wp2;go_quiet (fail);go_wp2;go_quiet (fail);go_wp2;go_ret;have h:=E4 Ao HL.out.symm HQ.out HP.out HD.out.symm J2;rw[E1.out,E2.out]at h;exact⟨nd (by unfold jZ;rw[aY aC,aZ h]),below_drewN (below_drewN hb _) _⟩
      .have J3:¬(y:Int)<x:= aC ;have HX:=ahF (aC:x=y);go_wp2;go_quiet (fail);go_wp2;go_quiet (fail);go_wp2;go_roundw
       case rel=>exact⟨k,aC,by go_num,NR HP.out (by rw[HX.out];exact HQ.out) HD.out,by repeat (first|exact hb|refine below_drewN ?_ _)⟩
       case measure=>simp[intOf];try omega
def adG(A B:Option Addr)(c d:Nat)(P Q:List Nat)(w:World)(jS:Sl w A c P)(mW:Sl w B d Q)(tP:mB P)(tQ:mB Q)(h1:P.length<=100000000)(_h2:Q.length<=100000000):
 Calls prog 156 #[.slice A P.length c,.slice B Q.length d] w λe w'=>e = .returned (.int .i64 (jZ (val P) (val Q)))/\iz w w':=by
 have tP':ix P=P:=tP;have tQ':ix Q=Q:=tQ;by_cases iA:P.length<Q.length
 .have HV:=ahF (Nl (M:=Q) jS.ok (by rw[tP',tQ'];exact iA));have kG:((P.length:Int) != (Q.length:Nat))=true:= aN ;generalize P.length=n at *
  generalize Q.length=m at *
  clear jS mW tP' tQ' tP tQ;go_enter func156,ntmps156;go_wp2;go_ret;exact⟨nd (by rw[HV.out]),iz.refl _⟩
 .by_cases CZ:Q.length<P.length
  .have HV:=ahF (Nk (L:=P) mW.ok (by rw[tP',tQ'];exact CZ));have kG:((P.length:Int) != (Q.length:Nat))=true:= aN ;generalize P.length=n at *
   generalize Q.length=m at *
   clear jS mW tP' tQ' tP tQ;go_enter func156,ntmps156;go_wp2;go_ret;exact⟨nd (by rw[HV.out]),iz.refl _⟩
  .have hl:P.length=Q.length:= aC ;have HL:=ahF hl;rw[<-hl];clear hl CZ iA tP' tQ' tP tQ _h2;obtain⟨n,hn⟩:∃ n,n=P.length:=⟨_,rfl⟩
   rw[<-hn]at h1 ⊢;have HN:=ahF hn;clear hn;have kG:((n:Int) != (n:Int))=false:= aH ;have okP:=jS.ok;have Ao:=mW.ok;go_enter func156,ntmps156;go_wp2;go_loopw [5] (λi wr=>∃ k:Nat,k<=n/\i = .int .i64 ((k:Int)-1)/\P.drop k=Q.drop k/\iz w wr) (λi _=>(intOf i+1).toNat)
   case atStart=>exact⟨n,bd _,rfl,by rw[dU (by rw[<-HN.out];exact bd _),dU (by rw[<-HL.out,<-HN.out];exact bd _)],iz.refl _⟩
   case round=>
    obtain⟨k,hk,rfl,hd,hb⟩:=hrel;have HD:=ahF hd;clear hd;rcases k with _|k
    .go_wp2;go_ret;have e:P=Q:=by simpa using HD.out
     exact⟨nd (by rw[e];unfold jZ;simp),hb⟩
    .have zI:k<P.length:=by have:=HN.out;omega
     have wW:k<Q.length:=by have:=HN.out;have:=HL.out;omega
     have HP:=ahF (bt zI);have HQ:=ahF (bt wW);obtain⟨ab,ao,rfl,_,c1⟩:=(jS.below hb).kD zI;obtain⟨bb,bo,rfl,_,c2⟩:=(mW.below hb).kD wW;have FM:(k:Int)<n:= aC ;have pI:(0:Int)<=k:= aC ;have x0:(0:Int)<=P[k]:= aC ;have y0:(0:Int)<=Q[k]:= aC ;generalize P[k]=x at *
     generalize Q[k]=y at *
     clear zI wW;by_cases oY:x<y
     .have J1:(x:Int)<y:= aC ;go_wp2;go_quiet (fail);go_wp2;go_ret;have h:=E4 okP HL.out HP.out HQ.out HD.out oY;exact⟨nd (by unfold jZ;rw[aZ h]),below_drewN hb _⟩
     .have J1:¬(x:Int)<y:= aC ;by_cases J2:y<x
      .have J3:(y:Int)<x:= aC ;go_wp2;go_quiet (fail);go_wp2;go_quiet (fail);go_wp2;go_ret;have h:=E4 Ao HL.out.symm HQ.out HP.out HD.out.symm J2;exact⟨nd (by unfold jZ;rw[aY aC,aZ h]),below_drewN (below_drewN hb _) _⟩
      .have J3:¬(y:Int)<x:= aC ;have HX:=ahF (aC:x=y);go_wp2;go_quiet (fail);go_wp2;go_quiet (fail);go_wp2;go_roundw
       case rel=>exact⟨k,aC,by go_num,NR HP.out (by rw[HX.out];exact HQ.out) HD.out,by repeat (first|exact hb|refine below_drewN ?_ _)⟩
       case measure=>simp[intOf];try omega
def Iu(A:Option Addr)(c:Nat)(L:List Nat)(w:World)(hs:Sl w A c L):
 Calls prog 302 #[.slice A L.length c] w λe w'=>e = .returned (.slice A L.length L.length)/\w=w':=by
 have hc:=hs.cap;have hl:=hs.pq;go_enter func302,ntmps302;go_wp2;go_ret;exact⟨rfl,rfl⟩
def Sl.Nc{w:World}{A:Option Addr}{c:Nat}{L:List Nat}(h:Sl w A c L):Sl w A L.length L:=
 ⟨bd _,bj h.cap h.pq,h.ok,(λe=>by have:=h.vY e;have:=h.cap;omega),h.cell⟩
def Iw(A:Option Addr)(c:Nat)(L:List Nat)(w:World)(hs:Sl w A c L)(hlen:L.length<=100000000):
 Calls prog 244 #[.slice A L.length c] w (r9 w L):=by
 have hc:=hs.cap;have hl:=hs.pq;rcases A with _|ad
 .have h0:=hs.vY rfl;subst h0;have:L=[]:=du aC;subst this;have q:=λ(w:World) (n' c':Nat)=>Lib.run_eql_slice_nil (P:=prog) w 37 _ none 0 0 n' c' underlying37
  simp only[Option.isNone_none]at q;go_enter func244,ntmps244;go_wp2;go_ret;exact⟨none,0,rfl,Sl.nil _,iz.refl _⟩
 .have q:=λ(w:World) (n' c':Nat)=>Lib.run_eql_slice_nil (P:=prog) w 37 _ (some ad) L.length c n' c' underlying37
  simp only[Option.isNone_some]at q;go_enter func244,ntmps244;have kQ:([]:List Nat).length+L.length<=10000000000:= aN ;have h1:=Ow.empty w w.heap.size (bd _);have h2:=hs.alloc (.cells #[] 150);have h3:=qa (w:=w) (bd _) (.cells #[] 150);go_wp2_with (at_builtin;go_must (refine qL aG _ _ aG w.heap.size _ [] aG h1 _ _ _ L aG aG h2 kQ h3 ?_);intro v' w' oe hg om)
  obtain⟨A',c',rfl,ni⟩:=oe.sl;go_ret;exact⟨A',c',rfl,ni,(iz.alloc _ _).grown hg (qa (bd _) _) (λk hk=>by simp[Value.ownBlock]at hk;omega)⟩
def B0(A:Option Addr)(c:Nat)(L:List Nat)(w:World)(hs:Sl w A c L)(hlen:L.length<=100000000):
 Calls prog 261 #[.slice A L.length c] w (r9 w (ix L)):=by
 have hc:=hs.cap;have hl:=hs.pq;have fin:∀ k:Nat,k=(ix L).length->Hid (ix L=L.take k):=λk hk=>by rw[hk];exact G6 L
 go_enter func261,ntmps261;go_wp2;go_loop [3] (λi=>∃ k:Nat,k<=L.length/\i = .int .i64 k/\lu L=lu (L.take k)) (λi=>(intOf i).toNat)
 case atStart=>exact⟨L.length,bd _,rfl,aH⟩
 case round=>
  obtain⟨k,hk,rfl,ht⟩:=hrel;have HT:=ahF ht;clear ht;have kQ:([]:List Nat).length+(L.take k).length<=10000000000:=by rw[cv];simp;omega
  have HK:=ahF (show k=(L.take k).length by rw[cv];omega);have h1:=Ow.empty w w.heap.size (bd _);have h2:=(hs.take k).alloc (.cells #[] 150);have h3:=qa (w:=w) (bd _) (.cells #[] 150);by_cases h0:0<k
  .obtain ⟨ab,ao,rfl,hb,F2⟩:=hs.kD (i:=k-1) aC ;have e1:((k:Int)-1).toNat=k-1:= aC ;have Z:=ahF (LM L (k-1) aC);have NZ:=ahF (LL L (k-1) aC);rw[fO h0]at Z NZ;generalize L[k-1]=x at *
   by_cases hx:x=0
   .have Hx:=ahF hx;clear hx;have hb:((x:Int)==0)=true:=by have:=Hx.out;simp;omega
    clear fin;go_wp2;go_round
    case rel=>exact⟨k-1,aC,by go_num,by rw[HT.out,Z.out Hx.out]⟩
    case measure=>simp[intOf];omega
   .have hb:((x:Int)==0)=false:= aN ;have F:=fin k (by show k=lu L;rw[HT.out,NZ.out hx]);clear fin;go_wp2_with (at_builtin;go_must (refine qL aG _ _ aG w.heap.size _ [] aG h1 _ _ _ (L.take k) aG HK.out h2 kQ h3 ?_);intro v' w' oe hg om)
    obtain⟨A',c',rfl,ni⟩:=oe.sl;go_ret;rw[F.out];exact⟨A',c',rfl,ni,(iz.alloc _ _).grown hg (qa (bd _) _) (λk hk=>by simp[Value.ownBlock]at hk;omega)⟩
  .have:k=0:= aC ;subst this;have F:=fin 0 (by show 0=lu L;rw[HT.out];rfl);clear fin;go_wp2_with (at_builtin;go_must (refine qL aG _ _ aG w.heap.size _ [] aG h1 _ _ _ (L.take 0) aG HK.out h2 kQ h3 ?_);intro v' w' oe hg om)
   obtain⟨A',c',rfl,ni⟩:=oe.sl;go_ret;rw[F.out];exact⟨A',c',rfl,ni,(iz.alloc _ _).grown hg (qa (bd _) _) (λk hk=>by simp[Value.ownBlock]at hk;omega)⟩
def QU(A:Option Addr)(n c:Nat)(w:World):
 Calls prog 310 #[.slice A n c] w λe w'=>e = .returned (.bool (decide (256<n)))/\w=w':=by
 by_cases h:256<n
 .have h':(256:Int)<n:= aC ;go_enter func310,ntmps310;go_wp2;go_ret;exact⟨by simp[h],rfl⟩
 .have h':¬(256:Int)<n:= aC ;go_enter func310,ntmps310;go_wp2;go_ret;exact⟨aH,rfl⟩
def Hw(w:World)(g:Nat)(xs:List (Option Addr×Nat×Nat)):Prop:=∀ i x,xs[i]? = some x->w.cell? ⟨g,i,none⟩=some (.slice x.1 x.2.1 x.2.2)
def vc(xs:List (Option Addr×Nat×Nat)):Bool:=xs.any λx=>decide (256<x.2.1)
def Um(xs:List (Option Addr×Nat×Nat))(w:World)(e:Ending)(w':World):Prop:=
 ∃ n:Int,e = .returned (.int .i64 n)/\(0<=n↔vc xs=true)/\w=w'
def aaB(g:Nat)(xs:List (Option Addr×Nat×Nat))(w:World)(hs:Hw w g xs)(hn:xs.length<=1000):
 Calls prog 358 #[.slice (some ⟨g,0,none⟩) xs.length xs.length,.func (.func 310) #[] #[]] w (Um xs w):=by
 go_enter func358,ntmps358;go_wp2;go_loop [8] (λi=>∃ k:Nat,k<=xs.length/\i = .int .i64 k/\vc (xs.take k)=false) (λi=>xs.length-(intOf i).toNat)
 case atStart=>exact⟨0,bO _,rfl,rfl⟩
 case round=>
  obtain⟨k,hk,rfl,ht⟩:=hrel;have HT:=ahF ht;clear ht;by_cases h0:k<xs.length
  .have hc:=hs k _ (bt h0);have e1:((k:Int)).toNat=k:= aC ;have ec:=UA g k;have HX:=ahF (show vc (xs.take (k+1))=(vc (xs.take k)||decide (256<xs[k].2.1))by
    unfold vc;rw[fj h0,List.any_append];simp)
   have HM:=ahF (ck h0);generalize xs[k]=x at *
   obtain⟨A,n,c⟩:=x;simp only at hc HX;by_cases hx:256<n
   .have hb:decide (256<n)=true:=by simp[hx]
    go_wp2_with (go_at_call 310;refine(QU A n c _).mono ?_;rw[hb];rintro e w' ⟨rfl,rfl⟩)
    go_ret;refine⟨_,rfl,⟨λ_=>?_,λ_=> aC⟩,rfl⟩;unfold vc;rw[dZ];exact⟨_,HM.out,by simpa using hx⟩
   .have hb:decide (256<n)=false:= aN ;go_wp2_with (go_at_call 310;refine(QU A n c _).mono ?_;rw[hb];rintro e w' ⟨rfl,rfl⟩)
    go_round
    case rel=>exact⟨k+1,aC,by go_num,by rw[HX.out,HT.out,hb];rfl⟩
    case measure=>simp[intOf];omega
  .go_wp2;go_ret;have e:xs.take k=xs:=cG aC;have:=HT.out;rw[e]at this;exact⟨_,rfl,by rw[this];simp,rfl⟩
def WH(g:Nat)(xs:List (Option Addr×Nat×Nat))(w:World)(hs:Hw w g xs)(hn:xs.length<=1000):
 Calls prog 309 #[.slice (some ⟨g,0,none⟩) xs.length xs.length,.func (.func 310) #[] #[]] w λe w'=>e = .returned (.bool (vc xs))/\w=w':=by
 have H:=ahF (aaB g xs w hs hn);go_enter func309,ntmps309;go_wp2_with fail;refine H.out.mono ?_;rintro e w' ⟨n,rfl,hn,rfl⟩;have HN:=ahF hn;clear hn;go_wp2;go_ret;refine⟨Sy ?_,rfl⟩;have:=HN.out;cases h:vc xs<;>simp[h]at this ⊢ <;> omega
def QW(g:Nat)(xs:List (Option Addr×Nat×Nat))(w:World)(hs:Hw w g xs)(hn:xs.length<=1000):
 Calls prog 271 #[.slice (some ⟨g,0,none⟩) xs.length xs.length] w λe w'=>e = .returned (.bool (vc xs))/\w=w':=by
 have H:=ahF (WH g xs w hs hn);go_enter func271,ntmps271;go_wp2_with fail;refine H.out.mono ?_;rintro e w' ⟨rfl,rfl⟩;go_wp2;go_ret;exact⟨rfl,rfl⟩
def Kq(g:Nat)(A:Option Addr)(n c:Nat)(w:World)(b:Bool)(h:w.cell? ⟨g,0,none⟩=some (.slice A n c))(hb:b=decide (256<n)):
 Calls prog 271 #[.slice (some ⟨g,0,none⟩) 1 1] w λe w'=>e = .returned (.bool b)/\w=w':=by
 have:=QW g [(A,n,c)] w (λi x hx=>by
  obtain⟨h1,h2⟩:=b9.1 hx;obtain rfl:i=0:=by simp at h1;omega
  simp at h2;subst h2;exact h) aH 
 simpa[vc,hb]using this
def QV(g:Nat)(A B:Option Addr)(n c m d:Nat)(w:World)(b:Bool)(h:w.cell? ⟨g,0,none⟩=some (.slice A n c))(k:w.cell? ⟨g,1,none⟩=some (.slice B m d))(hb:b=(decide (256<n)||decide (256<m))):
 Calls prog 271 #[.slice (some ⟨g,0,none⟩) 2 2] w λe w'=>e = .returned (.bool b)/\w=w':=by
 have:=QW g [(A,n,c),(B,m,d)] w (λi x hx=>by
  obtain⟨h1,h2⟩:=b9.1 hx;simp at h1;rcases i with _|_|i
  .simp at h2;subst h2;exact h
  .simp at h2;subst h2;exact k
  .omega) aH 
 simpa[vc,hb]using this
def DM(A:Option Addr)(c:Nat)(L:List Nat)(w:World)(hs:Sl w A c L)(hl:(ix L).length<=256):
 Calls prog 272 #[.slice A L.length c] w (AN w (ix L) 0):=by
 have hT:=ahF (sM A c L w hs);have jS:=hs.rY;have hC:=hs.cap;have hL:=hs.pq;have H2:=ahF (λw' (h:Sl w' A c (ix L))=>Iu A c (ix L) w' h);generalize ix L=M at *
 obtain⟨n,hn⟩:∃ n,n=M.length:=⟨_,rfl⟩
 rw[<-hn]at hT hl H2;have HN:=ahF hn;clear hn;go_enter func272,ntmps272;go_wp2_with fail;refine hT.out.mono ?_;rintro e w' ⟨rfl,rfl⟩;go_wp2_with fail;refine(Kq _ A n c _ false ?_ aN).mono ?_
 .go_simp
 rintro e w' ⟨rfl,rfl⟩;go_wp2_with fail;refine(H2.out _ (jS.alloc _)).mono ?_;rintro e w' ⟨rfl,rfl⟩;go_wp2;go_ret2;exact⟨A,n,by rw[HN.out];rfl,by have:=jS.Nc.alloc (.cells #[.slice A n c] 37);rw[HN.out]at this ⊢;exact this,iz.alloc _ _⟩
def G8(a b:Nat)(ha:a<18446744073709551616)(hb:b<18446744073709551616):bits .or .u64 (a:Int) (b:Int)=((a |||b:Nat):Int):=by
 have hx:a |||b<2^64:=ahd aC aC 
 have h1:(BitVec.ofInt 64 (a:Int)).toNat=a:=by
  rw[fY,fZ];exact bZ aC 
 have h2:(BitVec.ofInt 64 (b:Int)).toNat=b:=by
  rw[fY,fZ];exact bZ aC 
 show IntKind.u64.wrap ((BitVec.ofInt 64 (a:Int) |||BitVec.ofInt 64 (b:Int)).toNat:Int)=_;rw[BitVec.toNat_or,h1,h2,IntKind.wrap_u64];omega
def Gt(a b k:Nat)(h:a<2^k):a |||b*2^k=a+b*2^k:=by
 rw[bB,Nat.or_comm,<-Nat.two_pow_add_eq_or_of_lt h];omega
def Sl.drop{w:World}{A:Option Addr}{c:Nat}{L:List Nat}(h:Sl w A c L)(k:Nat):Sl w (A.map (·.add k)) (c-k) (L.drop k):=
 ⟨by have:=h.cap;rw[ev];omega,bj (eA _ _) h.pq,h.ok.drop k,(λe=>by
  rcases A with _|ad
  .rw [h.vY rfl];omega
  .cases e),λi x hx=>by
  rw[er]at hx;obtain⟨b,o,rfl,h1,h2⟩:=h.cell _ _ hx;exact⟨b,o+k,by rw[cL,zf],h1,by rw[dj];exact h2⟩⟩
def part(T:List Nat)(k:Nat):List Nat:=T.take k++List.replicate (T.length-k) 0
def ac3(T:List Nat):part T 0=List.replicate T.length 0:=by unfold part;simp
def ac1(T:List Nat):part T T.length=T:=by unfold part;simp
def ac2(T:List Nat)(k:Nat)(h:k<T.length):(part T k)[k]? = some 0:=by
 unfold part;rw[fv aS,cv,fC,aZ aC]
def R1(T:List Nat)(k x:Nat)(h:T[k]? = some x):(part T k).set k x=part T (k+1):=by
 obtain⟨h1,rfl⟩:=b9.1 h;unfold part;rw[List.set_append_right _ _ aS,cv,dh aC,dx,
  fj h1,(aC:T.length-k=(T.length-(k+1))+1),List.replicate_succ,List.set_cons_zero,List.append_assoc]
 rfl
def aeU(x y s:Nat)(hx:x<4294967296)(hy:y<4294967296):
 bits BinOp.or IntKind.u64 (x:Int) ((y:Int)*4294967296)/2^s%4294967296=(((x+4294967296*y)/2^s%4294967296:Nat):Int):=by
 have e:((y:Int)*4294967296)=((y*2^32:Nat):Int):= aH ;rw[e,G8 x (y*2^32) aC aC,Gt x y 32 aC];simp[bB]
def aeV(x s:Nat):(x:Int)/2^s%4294967296=(((x+4294967296*0)/2^s%4294967296:Nat):Int):=by
 simp
def KE(A:Option Addr)(c:Nat)(L:List Nat)(n:Nat)(w:World)(hs:Sl w A c L)(hlen:L.length<=100000000)(hn:n<=65536):
 Calls prog 356 #[.slice A L.length c,.int .i64 n] w (r9 w (pe (n%32) ((ix L).drop (n/32)))):=by
 have hT:=ahF (sM A c L w hs);have jS:=hs.rY;have mL:=nX L;have hC:=jS.cap;have hL:=hs.pq;unfold lu at mL;generalize ix L=M at *
 obtain⟨m,hm⟩:∃ m,m=M.length:=⟨_,rfl⟩
 rw[<-hm]at hT mL hC;have HM:=ahF hm;clear hm;by_cases h0:m<=n/32
 .go_enter func356,ntmps356;go_wp2_with fail;refine hT.out.mono ?_;rintro e w' ⟨rfl,rfl⟩;go_wp2;go_ret;have:M.drop (n/32)=[]:=dU (by rw[<-HM.out];exact h0);rw[this];exact⟨none,0,rfl,Sl.nil _,iz.refl _⟩
 .obtain ⟨ab,ao,rfl,_,_⟩:=jS.kD (i:=0) (by have:=HM.out;omega);have hK:=jS.drop (n/32);have sy:=ahF (show m-n/32=(M.drop (n/32)).length by rw[ev,HM.out]);have qB:n/32<c:= aC ;have oq:=DE (m-n/32) aC;have oF:0<m-n/32:= aC ;have vD:m-n/32<=100000000:= aC ;generalize M.drop (n/32)=K at *
  simp only[cL,zf]at hK;have xY:=ahF (GS (n%32) K);have Jq:=ahF (S4 (n%32) K);have CU:=ahF (yI (n%32) K);generalize pe (n%32) K=T at *
  go_enter func356,ntmps356;go_wp2_with fail;refine hT.out.mono ?_;rintro e w' ⟨rfl,rfl⟩;go_wp2;go_loopw [25] (λi wr=>∃ k:Nat,k<=m-n/32/\i = .int .i64 k/\Rw wr w.heap.size (part T k)/\iz w wr) (λi _=>m-n/32-(intOf i).toNat)
  case atStart=>
   refine⟨0,bO _,rfl,?_,iz.alloc _ _⟩;rw[ac3,xY.out,<-sy.out];exact Rw.xf _ _
  case round=>
   obtain⟨k,hk,rfl,hR,hb⟩:=hrel;by_cases iA:k<m-n/32
   .have sB:k<K.length:=by have:=sy.out;omega
    obtain⟨ab',ao',e',_,c1⟩:=(hK.below hb).kD sB;cases e';have hg:=Jq.out k sB;have lN:K[k]<4294967296:=hK.ok.get sB;have HK:=ahF (bt sB);have c3:=hR.cell (ac2 T k (by have:=xY.out;omega));have c4:=hR.frozen k;by_cases aam:k+1<m-n/32
    .have wV:k+1<K.length:=by have:=sy.out;omega
     obtain⟨ab',ao',e',_,c2⟩:=(hK.below hb).kD wV;cases e';have hy:K.getD (k+1) 0=K[k+1]:=by rw[bc,bt wV];rfl
     rw[hy]at hg;have oK:K[k+1]<4294967296:=hK.ok.get wV;have HG:=ahF hg;clear hg hy;generalize K[k]=x at *
     generalize K[k+1]=y at *
     clear sB wV;go_wp2;go_roundw
     case rel=>
      rw[aeU x y (n%32) lN oK];exact⟨k+1,aC,by go_num,by rw[<-R1 T k _ HG.out];exact hR.set k _,hb.setCell (bd _) _⟩
     case measure=>simp[intOf];omega
    .have hy:K.getD (k+1) 0=0:=by rw[bc,ct (by have:=sy.out;omega)];rfl
     rw[hy]at hg;have HG:=ahF hg;clear hg hy;generalize K[k]=x at *
     clear sB;go_wp2;go_roundw
     case rel=>
      rw[aeV x (n%32)];exact⟨k+1,aC,by go_num,by rw[<-R1 T k _ HG.out];exact hR.set k _,hb.setCell (bd _) _⟩
     case measure=>simp[intOf];omega
   .go_wp2;go_ret;obtain rfl:k=m-n/32:= aC ;rw[sy.out,<-xY.out,ac1]at hR;have:=hR.sl CU.out (by have:=xY.out;have:=sy.out;omega);rw[xY.out,<-sy.out]at this;exact⟨_,_,by rw[xY.out,<-sy.out];rfl,this,hb⟩
def aeT{L:List Nat}(h:iD L)(n:Nat):ix (pe (n%32) ((ix L).drop (n/32)))=gV (val L/2^n):=by
 rw[pO (yI _ _),Hd h.ix,oD]
def Mc(w:World)(A:Option Addr)(n c:Nat):(w.alloc (.cells #[.slice A n c] 37)).cell? ⟨w.heap.size,0,none⟩=some (.slice A n c):=by
 rw[World.cell?_alloc_at _ _ _ _ rfl];rfl
def Md(w:World)(A B:Option Addr)(n c m d:Nat):(w.alloc (.cells #[.slice A n c,.slice B m d] 37)).cell? ⟨w.heap.size,0,none⟩=some (.slice A n c):=by
 rw[World.cell?_alloc_at _ _ _ _ rfl];rfl
def Me(w:World)(A B:Option Addr)(n c m d:Nat):(w.alloc (.cells #[.slice A n c,.slice B m d] 37)).cell? ⟨w.heap.size,1,none⟩=some (.slice B m d):=by
 rw[World.cell?_alloc_at _ _ _ _ rfl];rfl
def Rr(A:Option Addr)(c:Nat)(L:List Nat)(n:Nat)(w:World)(hs:Sl w A c L)(hlen:L.length<=256)(hn:n<=65536):
 Calls prog 301 #[.slice A L.length c,.int .i64 n] w (AN w (gV (val L/2^n)) 0):=by
 have hf:decide (256<L.length)=false:= aN ;have h3:=ahF (aeT hs.ok n);have h4:(ix (pe (n%32) ((ix L).drop (n/32)))).length<=256:=by
  have h1:=nX (pe (n%32) ((ix L).drop (n/32)));unfold lu at h1;rw[GS,ev]at h1;have h2:=nX L;unfold lu at h2;omega
 have H1:=ahF (λw (h:Sl w A c L)=>KE A c L n w h aC hn);generalize pe (n%32) ((ix L).drop (n/32))=T at *
 go_enter func301,ntmps301;go_wp2_with fail;refine(Kq _ A _ c _ false (Mc _ _ _ _) aN).mono ?_;rintro e w' ⟨rfl,rfl⟩;go_wp2_with fail;refine(H1.out _ (hs.alloc _)).mono ?_;rintro e w' ⟨A',c',rfl,ni,hb⟩;go_wp2_with fail;refine(DM A' c' T _ ni h4).mono ?_;rintro e w'' ⟨A'',c'',rfl,pW,mo⟩;go_wp2;go_ret2;rw[<-h3.out];exact⟨A'',c'',rfl,pW,(iz.alloc _ _).trans (hb.trans mo)⟩
end Go.Proofs.YtkjkcjhacddojaaGreatDoor
