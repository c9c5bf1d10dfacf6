/- Lemmas that the last file uses. -/
import Derived.Test.YtbhhompalmdaiaaGreatDoorProg
import Derived.WalkKit
import Derived.BigQuiet
import Derived.WalkSpells
import Derived.WalkLawsBesides
import Derived.Lib.Hide
import Derived.Deep.RegionHeld3
import Derived.Maps.AppendAt
import Derived.Deep.AppendLies
import Derived.Deep.Draws
import Derived.Deep.DeepFit
import Derived.Laws.AppendOwnNone
import Derived.Shelf.Small.Bits
import Derived.Shelf.Spec.TrailingZeros
import Derived.Test.YtbhhompalmdaiaaGreatDoorCards
import Derived.Test.YtbhhompalmdaiaaGreatDoorTie
import Derived.ProofKit
import Derived.OpenShut
import Derived.Deep.DeepHandedRow
import Derived.Lib.LaidTab
import Derived.Laws.AppendOwn
import Derived.Laws.MakeOwn
import Derived.Laws.Slices
import Derived.Orders
import Derived.Laws.Build
set_option linter.unusedSimpArgs false
set_option linter.unusedVariables false
set_option linter.defProp false
set_option maxHeartbeats 4000000
open Go.Proofs.Tryz
namespace Go.Proofs.YtbhhompalmdaiaaGreatDoor
theorem aD{p:Prop}(h:p:=by omega):p:=h
theorem aE{p:Prop}(h:p:=by assumption):p:=h
theorem aF{p:Prop}(h:p:=by decide):p:=h
theorem aG{p:Prop}(h:p:=by kernel_rfl):p:=h
theorem aI{p:Prop}(h:p:=by rfl):p:=h
theorem aJ{p:Prop}(h:p:=by simp):p:=h
theorem aK{p:Prop}(h:p:=by nofun):p:=h
theorem aM{p:Prop}(h:p:=by simp<;>omega):p:=h
theorem aO{p:Prop}(h:p:=by grind):p:=h
theorem aP{p:Prop}(h:p:=by decide +kernel):p:=h
theorem aQ{p:Prop}(h:p:=by split<;>omega):p:=h
theorem aR{p:Prop}(h:p:=by simp;omega):p:=h
theorem aS{p:Prop}(h:p:=by first|rfl|omega|(simp only[Nat.add_mul,Nat.one_mul];omega)):p:=h
theorem aT{p:Prop}(h:p:=by simp[Op.operands]):p:=h
theorem aU{p:Prop}(h:p:=by first|omega|(simp only[mP];omega)):p:=h
theorem aV{p:Prop}(h:p:=by rw[IntKind.wrap_u64];omega):p:=h
theorem aW{p:Prop}(h:p:=by unfold nE;omega):p:=h
theorem aZ{p:Prop}(h:p:=by rw[List.length_take];omega):p:=h
theorem a6{p:Prop}(h:p:=by rw[IntKind.wrap_u32];omega):p:=h
theorem a7{p:Prop}(h:p:=by rw[uC];omega):p:=h
theorem bc{p:Prop}(h:p:=by unfold nA;omega):p:=h
theorem bd{α:Type _}[BEq α][LawfulBEq α]{a b:α}(h:a≠b):(a==b)=false:=beq_eq_false_iff_ne.2 h
theorem bg{α:Type _}[BEq α][LawfulBEq α]{a b:α}(h:a=b):(a==b)=true:=beq_iff_eq.2 h
theorem bh{b:Bool}(h:¬b=true):b=false:=Bool.eq_false_iff.2 h
theorem bj{α:Type _}[BEq α][LawfulBEq α]{a b:α}(h:a=b):(a != b)=false:=bne_eq_false_iff_eq.2 h
theorem bk{α:Type _}[BEq α][LawfulBEq α]{a b:α}(h:a≠b):(a != b)=true:=bne_iff_ne.2 h
def bl:=@if_neg
def bn:=@if_pos
def bp:=@Nat.le_refl
def bq:=@decide_eq_true
def bt:=@decide_eq_false
def bu:=@List.getD_eq_getElem?_getD
def bw:=@Nat.pow_add
def bA:=@Nat.pow_pos
def bB:=@Nat.mul_assoc
def bC:=@Nat.mod_lt
def bD:=@List.getElem?_eq_getElem
def bE:=@Nat.mul_comm
def bF:=@if_false
def bG:=@Nat.pow_succ
def bH:=@Rat.le_of_lt
def bI:=@Nat.pow_le_pow_right
def bJ:=@Nat.le_trans
def bK:=@Nat.add_zero
def bL:=@Rat.mul_nonneg
def bM:=@Nat.mul_add
def bN:=@if_true
def bO:=@Nat.not_lt_zero
def bQ:=@Nat.mod_eq_of_lt
def bR:=@Nat.mul_le_mul_right
def bS:=@Rat.le_refl
def bT:=@Nat.lt_of_lt_of_le
def bV:=@Option.some.injEq
def bX:=@Rat.le_trans
def bY:=@Bool.and_eq_true
def bZ:=@Bool.false_eq_true
def b6:=@Nat.zero_add
def b8:=@Nat.add_mul
def b9:=@Classical.byContradiction
def ca:=@Nat.pow_zero
def cg:=@Nat.mul_one
def ch:=@Nat.zero_le
def ck:=@Nat.one_mul
def cr:=@Nat.div_lt_iff_lt_mul
def ct:=@List.all_eq_true
def cv:=@Int.le_refl
def cw:=@List.getElem?_eq_none
def cz:=@List.mem_range
def cA:=@Nat.div_eq_of_lt
def cB:=@Nat.div_add_mod
def cC:=@List.getElem?_eq_some_iff
def cD:=@Prod.mk.injEq
def cE:=@Nat.div_le_self
def cF:=@Rat.div_def
def cG:=@List.length_take
def cH:=@decide_eq_true_eq
def cI:=@Rat.mul_le_mul_of_nonneg_right
def cJ:=@List.length_append
def cK:=@Nat.lt_of_le_of_lt
def cL:=@Rat.div_mul_cancel
def cM:=@Nat.mul_le_mul_left
def cN:=@Nat.zero_mul
def cO:=@List.getElem_mem
def cP:=@List.take_of_length_le
def cQ:=@Nat.mul_zero
def cR:=@List.mem_map
def cS:=@List.length_set
def cT:=@Rat.mul_pos
def cU:=@Nat.div_div_eq_div_mul
def cV:=@Rat.natCast_pos
def cW:=@Rat.le_of_mul_le_mul_right
def cX:=@Rat.natCast_mul
def cY:=@List.getElem?_map
def c9:=@Option.map_some
def dc:=@Rat.mul_le_mul_of_nonneg_left
def de:=@List.mem_cons
def df:=@List.length_cons
def dg:=@Nat.mul_lt_mul_of_pos_right
def dh:=@Nat.add_assoc
def di:=@Nat.sub_self
def dj:=@Int.natAbs_natCast
def dk:=@Int.eq_ofNat_of_zero_le
def dm:=@Option.map_eq_some_iff
def dn:=@Nat.mod_one
def dp:=@ne_eq
def dq:=@Nat.le_of_ble_eq_true
def dt:=@Nat.mul_left_comm
def dw:=@Rat.intCast_natCast
def dx:=@Array.getElem?_eq_some_iff
def dz:=@Array.getElem?_modify
def dA:=@Nat.mul_le_mul
def dB:=@Nat.le_div_iff_mul_le
def dC:=@Rat.not_lt
def dD:=@Nat.min_eq_left
def dE:=@List.any_eq_true
def dF:=@Option.bind_some
def dG:=@Nat.le_of_lt
def dH:=@Nat.div_mul_le_self
def dI:=@List.length_map
def dJ:=@Nat.mul_add_div
def dK:=@of_decide_eq_true
def dL:=@Nat.div_one
def dM:=@Rat.inv_pos
def dN:=@List.eq_nil_of_length_eq_zero
def dO:=@List.mem_iff_getElem?
def dP:=@List.any_eq_false
def dQ:=@Array.ext'
def dR:=@Nat.sub_zero
def dS:=@Nat.sub_le
def dT:=@Int.natCast_mul
def dU:=@List.ext_getElem
def dV:=@List.getElem_map
def dW:=@Rat.mul_assoc
def dX:=@Rat.natCast_le_natCast
def dY:=@Rat.one_mul
def dZ:=@Array.size_push
def ee:=@Array.getElem?_push
def ef:=@Nat.mod_add_div
def eg:=@Nat.mul_div_cancel
def en:=@Nat.beq_refl
def eo:=@beq_false
def ep:=@Nat.mul_add_mod
def er:=@Array.length_toList
def eu:=@Array.mem_of_getElem?
def ev:=@List.map_congr_left
def ey:=@List.getElem_range
def eA:=@Rat.natCast_nonneg
def eB:=@Classical.choose_spec
def eC:=@List.mem_append
def eD:=@Nat.add_sub_cancel
def eE:=@Nat.lt_or_ge
def eF:=@Nat.pos_of_ne_zero
def eG:=@List.length_range
def eI:=@Array.size_modify
def eJ:=@Nat.add_mul_mod_self_left
def eK:=@List.drop_eq_nil_of_le
def eO:=@Nat.ne_of_gt
def eP:=@Nat.mul_pos
def eR:=@Nat.add_comm
def eU:=@Bool.not_false
def eV:=@Nat.eq_zero_or_pos
def eW:=@List.getElem?_append_left
def eX:=@Bool.or_eq_true
def eZ:=@List.length_pos_iff
def e9:=@Nat.lt_irrefl
def fc:=@Rat.le_antisymm
def fe:=@Nat.mul_ne_zero
def ff:=@List.getElem?_take
def fg:=@List.getElem?_drop
def fh:=@List.length_drop
def fi:=@not_false_eq_true
def fj:=@Int.natCast_add
def fk:=@Nat.pow_lt_pow_right
def fl:=@Nat.xor_lt_two_pow
def fm:=@Rat.intCast_neg
def fo:=@Rat.neg_neg
def fp:=@Rat.mul_comm
def fu:=@List.mem_of_mem_take
def fw:=@List.mem_of_mem_drop
def fz:=@Nat.add_mul_div_left
def fA:=@Nat.sub_add_cancel
def fB:=@List.drop_eq_getElem_cons
def fC:=@Nat.mul_mod_left
def fD:=@List.mem_of_getElem?
def fE:=@Bool.not_true
def fF:=@List.map_cons
def fG:=@Array.mem_append
def fH:=@getElem!_pos
def fI:=@List.foldl_cons
def fJ:=@Nat.and_lt_two_pow
def fK:=@Int.natAbs_neg
def fL:=@List.take_length
def fM:=@BitVec.toNat_ofInt
def fN:=@Bool.false_or
def fO:=@Nat.zero_div
def fP:=@Bool.eq_iff_iff
def fQ:=@Rat.mul_div_cancel
def fR:=@Rat.natCast_add
def fS:=@List.length_nil
def fT:=@Nat.le_of_not_lt
def fU:=@Nat.lt_trans
def fV:=@List.take_succ_eq_append_getElem
def fW:=@Nat.gcd_comm
def fX:=@Nat.mul_right_comm
def fY:=@Int.toNat_natCast
def fZ:=@List.getElem?_append
def gh:=@Nat.le_mul_of_pos_right
def gi:=@List.getElem?_append_right
def gj:=@List.size_toArray
def gl:=@Array.mem_map
def gn:=@Array.mem_range
def gp:=@Bool.not_eq_true'
def gq:=@Nat.or_comm
def gv:=@List.getElem?_replicate
def gw:=@decide_true
def gx:=@or_false
def gy:=@Nat.mod_mul
def gz:=@Bool.true_and
def gE:=@Rat.intCast_mul
def gF:=@Rat.not_le
def gG:=@Rat.neg_mul
def gH:=@Rat.zero_mul
def gI:=@Nat.mod_le
def gJ:=@Nat.div_pos
def gK:=@List.length_singleton
def gL:=@Nat.div_lt_self
def gO:=@Array.getElem_mem
def gP:=@List.getElem?_toArray
def gQ:=@List.mem_toArray
def gR:=@not_true_eq_false
def gS:=@List.mapM_cons
def gT:=@Option.bind_eq_some_iff
def gU:=@Option.isSome_iff_exists
def gV:=@BitVec.ofInt_natCast
def gW:=@BitVec.toNat_ofNat
def gX:=@Nat.and_one_is_mod
def gY:=@Nat.mul_lt_mul''
def gZ:=@Int.neg_mul
def ia:=@List.getElem?_set_ne
def ib:=@Nat.le_of_eq
def ic:=@Nat.mul_mod_mul_left
def ie:=@Nat.mul_eq_zero
def ado:=@beq_self_eq_true
def amQ:=@Bool.or_self
def amR:=@Nat.lt_of_not_le
def amS:=@Nat.lt_succ_self
def amT:=@Rat.inv_mul_cancel
def amU:=@Nat.lt_one_iff
def amV:=@Bool.not_eq_true
def amW:=@Nat.one_ne_zero
def amX:=@Int.tmod_eq_emod_of_nonneg
def amY:=@List.not_mem_nil
def amZ:=@List.cons_append
def am0:=@List.take_append_drop
def am1:=@List.eq_nil_or_concat
def am2:=@List.concat_eq_append
def am3:=@List.getElem_cons_succ
def am4:=@List.getElem_of_mem
def am5:=@Nat.pow_lt_pow_iff_right
def am6:=@List.map_append
def am7:=@Array.getElem?_setIfInBounds_ne
def am8:=@List.ext_getElem?
def am9:=@Array.size_append
def ana:=@List.any_cons
def anb:=@Bool.or_false
def anc:=@List.set_cons_zero
def ane:=@Option.getD_some
def anf:=@List.pairwise_cons
def ang:=@List.pairwise_append
def anh:=@Option.some.inj
def ani:=@Array.getElem_setIfInBounds_ne
def anj:=@Nat.or_lt_two_pow
def ank:=@List.take_add_one
def anl:=@decide_eq_decide
def anm:=@decide_eq_true_iff
def ann:=@Nat.zero_lt_succ
def ano:=@Nat.testBit_xor
def anp:=@List.length_eq_zero_iff
def anq:=@Nat.lt_or_eq_of_le
def anr:=@List.getElem_set
def ans:=@Rat.intCast_le_intCast
def ant:=@Rat.lt_of_mul_lt_mul_right
def anu:=@Rat.intCast_pos
def anv:=@Nat.div_mul_cancel
def anw:=@not_not_intro
def anx:=@Bool.not_eq_false'
def anz:=@of_decide_eq_false
def anA:=@Nat.gcd_zero_right
def anB:=@List.all_eq_false
def anC:=@Rat.mul_lt_mul_of_pos_right
def anD:=@Nat.gcd_pos_of_pos_right
def anE:=@Nat.gcd_one_left
def anF:=@List.getElem?_cons_succ
def anG:=@Array.getElem?_setIfInBounds
def anH:=@Array.getElem?_append_left
def anI:=@Int.tdiv_eq_ediv_of_nonneg
def anJ:=@Array.toList_setIfInBounds
def anK:=@List.drop_length_add_append
def anL:=@Array.all_eq_true_iff_forall_mem
def anM:=@Array.mapM_eq_mapM_toList
def anN:=@Nat.and_two_pow_sub_one_eq_mod
def anO:=@Nat.eq_of_mul_eq_mul_right
def anP:=@Nat.lt_of_mul_lt_mul_right
def anQ:=@Lib.hid
end Go.Proofs.YtbhhompalmdaiaaGreatDoor
namespace Go.Proofs.YtbhhompalmdaiaaGreatDoor.Fp
def val:List Nat->Nat
 | []=>0
 |x::l=>x+4294967296*val l
def iK(L:List Nat):Prop:=∀ x,x ∈ L->x<4294967296
def iK.nil:iK []:=by intro x h;cases h
def iK.cons{x:Nat}{l:List Nat}(hx:x<4294967296)(h:iK l):iK (x::l):=by
 intro y hy;rcases de.1 hy with rfl|hy;exact hx;exact h _ hy
def iK.head{x:Nat}{l:List Nat}(h:iK (x::l)):x<4294967296:=h x aJ 
def iK.tail{x:Nat}{l:List Nat}(h:iK (x::l)):iK l:=λy hy=>h y (by simp[hy])
def iK.append{l m:List Nat}(h:iK l)(k:iK m):iK (l++m):=by
 intro x hx;rcases eC.1 hx with hx|hx;exact h _ hx;exact k _ hx
def iK.take{l:List Nat}(h:iK l)(n:Nat):iK (l.take n):=λx hx=>h x (fu hx)
def iK.drop{l:List Nat}(h:iK l)(n:Nat):iK (l.drop n):=λx hx=>h x (fw hx)
def iK.get{l:List Nat}(h:iK l){i:Nat}(hi:i<l.length):l[i]<4294967296:=h _ (cO hi)
def iK.getD{l:List Nat}(h:iK l)(i:Nat):l.getD i 0<4294967296:=by
 rw[bu];by_cases hi:i<l.length
 .rw [bD hi];exact h.get hi
 .rw [cw aD];decide
def iK.BT(n:Nat):iK (List.replicate n 0):=by
 intro x hx;rw[List.mem_replicate]at hx;rw[hx.2];decide
@[simp] theorem zw:val []=0:=rfl
@[simp] theorem qj (x:Nat) (l:List Nat):val (x::l)=x+4294967296*val l:=rfl
def uK(l m:List Nat):val (l++m)=val l+4294967296^l.length*val m:=by
 induction l with
 |nil=>simp
 |cons x l ih=>
  simp only[amZ,qj,ih,df,bG];rw[bM,bE (4294967296^l.length) 4294967296,bB];omega
def mC{l:List Nat}(h:iK l):val l<4294967296^l.length:=by
 induction l with
 |nil=>simp
 |cons x l ih=>
  have h1:=h.head;have h2:=ih h.tail;simp only[qj,df,bG];have:val l+1<=4294967296^l.length:=h2;have:=cM 4294967296 this;rw[bE (4294967296^l.length)];omega
def zz(n:Nat):val (List.replicate n 0)=0:=by
 induction n with
 |zero=>rfl
 |succ n ih=>simp[List.replicate_succ,ih]
def DG(l:List Nat)(n:Nat)(hn:n<=l.length):val l=val (l.take n)+4294967296^n*val (l.drop n):=by
 conv=>lhs;rw[<-am0 n l,uK]
 rw[cG,dD hn]
def yi(l:List Nat)(n:Nat)(hn:n<l.length):val (l.take (n+1))=val (l.take n)+4294967296^n*l[n]:=by
 rw[fV hn,uK,cG,dD aD];simp
def al9{l:List Nat}(h:iK l)(n:Nat):val (l.take n)=val l%4294967296^n:=by
 by_cases hn:n<=l.length
 .rw [DG l n hn,eJ,bQ];have:=mC (h.take n);rwa[cG,dD hn]at this
 .rw [cP aD,bQ];refine bT (mC h) (bI aF aD)
def Gi{l:List Nat}(h:iK l)(n:Nat):val (l.drop n)=val l/4294967296^n:=by
 by_cases hn:n<=l.length
 .rw [DG l n hn];have:=mC (h.take n);rw[cG,dD hn]at this;rw[fz _ _ (bA aF),cA this,b6]
 .rw [eK aD,cA];rfl;exact bT (mC h) (bI aF aD)
def iy:List Nat->List Nat
 | []=>[]
 |x::l=>match iy l with
  | []=>if x=0 then[]else[x]
  |y::m=>x::y::m
def mn(L:List Nat):Nat:=(iy L).length
def Zq(l:List Nat):iy (l++[0])=iy l:=by
 induction l with
 |nil=>rfl
 |cons x l ih=>simp only[amZ,iy,ih]
def Zp(l:List Nat)(x:Nat)(hx:x≠0):iy (l++[x])=l++[x]:=by
 induction l with
 |nil=>simp[iy,hx]
 |cons y l ih=>
  simp only[amZ,iy,ih];cases l<;>rfl
def Gf(L:List Nat):iy L=L.take (mn L):=by
 unfold mn
 induction L with
 |nil=>rfl
 |cons x l ih=>
  simp only[iy];cases h:iy l with
  |nil=>by_cases hx:x=0<;>simp[hx]
  |cons y m=>
   rw[h]at ih;simp only[df,List.take_succ_cons];rw[df]at ih;rw[<-ih]
def oF(L:List Nat):mn L<=L.length:=by
 have h:=congrArg List.length (Gf L);rw[cG]at h;unfold mn at h ⊢;omega
def oG(L:List Nat):val (iy L)=val L:=by
 induction L with
 |nil=>rfl
 |cons x l ih=>
  simp only[iy];cases h:iy l with
  |nil=>rw[h]at ih;by_cases hx:x=0<;>simp[hx,<-ih]
  |cons y m=>rw[h]at ih;simp only[qj]at ih ⊢;rw[ih]
def iK.iy{L:List Nat}(h:iK L):iK (Fp.iy L):=by rw[Gf];exact h.take _
def nC(L:List Nat):Prop:=iy L=L
def zu(L:List Nat):nC (iy L):=by
 unfold nC
 induction L with
 |nil=>rfl
 |cons x l ih=>
  simp only[iy];cases h:iy l with
  |nil=>by_cases hx:x=0<;>simp[hx,iy]
  |cons y m=>rw[h]at ih;simp only[iy]at ih ⊢;rw[ih]
def nC.nil:nC []:=rfl
def AO(L:List Nat):nC L↔∀ h:0<L.length,L[L.length-1]≠0:=by
 rcases am1 L with rfl|⟨l,x,rfl⟩
 .simp [nC,iy]
 .simp only[am2,cJ,gK,eD,List.getElem_concat_length];constructor
  .intro h _ hx;subst hx;have:=congrArg List.length h;rw[Zq]at this;have h2:=oF l;unfold mn at h2;rw[cJ]at this;simp at this;omega
  .intro h;exact Zp l x (h aD)
def J8(L:List Nat)(n:Nat)(hn:n<L.length)(h0:L[n]=0):mn (L.take (n+1))=mn (L.take n):=by
 unfold mn;rw[fV hn,h0,Zq]
def J7(L:List Nat)(n:Nat)(hn:n<L.length)(h0:L[n]≠0):mn (L.take (n+1))=n+1:=by
 unfold mn;rw[fV hn,Zp _ _ h0];simp;omega
def nC.K6{x:Nat}{l:List Nat}(h:nC (x::l)):nC l:=by
 rw[AO]at h ⊢;intro hl;have:=h aJ;simp only[df,eD]at this;have e:(x::l)[l.length]'(aJ)=l[l.length-1]:=by
  rw[List.getElem_cons];rw[dif_neg aD]
 rwa[e]at this
def nC.zx{L:List Nat}(h:nC L)(hl:L≠[]):0<val L:=by
 induction L with
 |nil=>exact absurd rfl hl
 |cons x l ih=>
  simp only[qj];by_cases pz:l=[]
  .subst pz;have:=(AO _).1 h aJ;simp at this;simp;omega
  .have:=ih h.K6 pz;omega
def nC.ext{L M:List Nat}(hL:nC L)(hM:nC M)(kL:iK L)(kM:iK M)(h:val L=val M):L=M:=by
 induction L generalizing M with
 |nil=>
  by_cases hm:M=[]
  .exact hm.symm
  .have:=hM.zx hm;rw[<-h]at this;simp at this
 |cons x l ih=>
  cases M with
  |nil=>have:=hL.zx aJ;rw[h]at this;simp at this
  |cons y m=>
   simp only[qj]at h;have h1:=kL.head;have h2:=kM.head;have e:x=y:= aD ;subst e;rw[ih hL.K6 hM.K6 kL.tail kM.tail aD]
def ij(n:Nat):List Nat:=if n=0 then[]else n%4294967296::ij (n/4294967296)
termination_by n
decreasing_by exact gL aD aF 
def mW:ij 0=[]:=by rw[ij];rfl
def yZ{n:Nat}(h:n≠0):ij n=n%4294967296::ij (n/4294967296):=by rw[ij,bl h]
def jR(n:Nat):val (ij n)=n:=by
 induction n using Nat.strongRecOn with
 |_ n ih=>
  by_cases h:n=0
  .subst h;rw[mW];rfl
  .rw [yZ h,qj,ih _ (gL aD aF)];exact ef n 4294967296
def kS(n:Nat):iK (ij n):=by
 induction n using Nat.strongRecOn with
 |_ n ih=>
  by_cases h:n=0
  .subst h;rw[mW];exact iK.nil
  .rw [yZ h];exact iK.cons (bC _ aF) (ih _ (gL aD aF))
def yg(n:Nat):nC (ij n):=by
 induction n using Nat.strongRecOn with
 |_ n ih=>
  by_cases h:n=0
  .subst h;rw[mW];exact nC.nil
  .rw [yZ h];have h1:=ih _ (gL aD (aF:1<4294967296));unfold nC at h1 ⊢;simp only[iy,h1];by_cases h2:n/4294967296=0
   .rw [h2,mW];have:n%4294967296≠0:= aD ;simp[this]
   .rw [yZ h2]
def rJ{L:List Nat}(h:iK L):iy L=ij (val L):=
 nC.ext (zu L) (yg _) h.iy (kS _) (by rw[oG,jR])
def nC.Eh{L:List Nat}(h:nC L)(k:iK L):L=ij (val L):=by
 rw[<-rJ k];exact h.symm
def VU{n:Nat}:ij n=[]↔n=0:=by
 constructor
 .intro h;have:=jR n;rw[h]at this;exact this.symm
 .rintro rfl;exact mW
def q9{n k:Nat}(h:n<4294967296^k):(ij n).length<=k:=by
 induction k generalizing n with
 |zero=>simp at h;subst h;rw[mW];simp
 |succ k ih=>
  by_cases h0:n=0
  .subst h0;rw[mW];simp
  .rw [yZ h0,df];have:n/4294967296<4294967296^k:=by
    rw[cr aF];rwa[bG]at h
   have:=ih this;omega
def uB{n k:Nat}(h:(ij n).length<=k):n<4294967296^k:=by
 have h1:=mC (kS n);rw[jR]at h1;exact bT h1 (bI aF h)
def iA(n:Nat):Nat:=if n=0 then 0 else n.log2+1
def sx:iA 0=0:=rfl
def kV{n k:Nat}:iA n<=k↔n<2^k:=by
 unfold iA;by_cases h:n=0
 .subst h;simp[bA]
 .rw [bl h,<-Nat.log2_lt h];omega
def wX{n k:Nat}:k<iA n↔2^k<=n:=by
 have:=@kV n k;omega
def uT{n k:Nat}(h1:2^k<=n)(h2:n<2^(k+1)):iA n=k+1:=by
 have a:=wX.2 h1;have b:=kV.2 h2;omega
def pE(n:Nat):n<2^iA n:=kV.1 (bp _)
def rk{n:Nat}(h:n≠0):2^(iA n-1)<=n:=by
 have:iA n-1<iA n:=by
  have:iA n≠0:=by unfold iA;simp[h]
  omega
 exact wX.1 this
def nj{n:Nat}(h:n≠0):0<iA n:=by unfold iA;simp[h]
def tg{m n:Nat}(h:m<=n):iA m<=iA n:=kV.2 (cK h (pE n))
def qE{n:Nat}(h:n≠0)(k:Nat):iA (n*2^k)=iA n+k:=by
 have h1:=pE n;have h2:=rk h;have h3:=nj h;have e:iA n+k=(iA n-1+k)+1:= aD ;rw[e];apply uT
 .rw [bw];exact bR _ h2
 .rw [<-e,bw];exact dg h1 (bA aF)
def nF(k:Nat):(4294967296:Nat)^k=2^(32*k):=by
 rw[Nat.pow_mul]
def aa1{l:List Nat}{x:Nat}(h:iK (l++[x]))(hx:x≠0):iA (val (l++[x]))=32*l.length+iA x:=by
 rw[uK];simp only[qj,zw,cQ,bK];have hl:val l<4294967296^l.length:=mC (λy hy=>h y (by simp[hy]));rw[nF]at hl ⊢;have h1:=pE x;have h2:=rk hx;have h3:=nj hx;have e:32*l.length+iA x=(32*l.length+(iA x-1))+1:= aD ;rw[e];apply uT
 .rw [bw];have:=cM (2^(32*l.length)) h2;omega
 .rw [<-e,bw];have:=cM (2^(32*l.length)) (show x+1<=2^iA x from h1);rw[bM]at this;omega
def kD(a b:Nat):Int:=if a<b then -1 else if b<a then 1 else 0
def Kj{L M:List Nat}(kL:iK L)(hM:nC M)(h:L.length<M.length):val L<val M:=by
 rcases am1 M with rfl|⟨m,x,rfl⟩
 .simp at h
 .simp only[am2,cJ,gK]at h hM ⊢;have hx:x≠0:=by
   have:=(AO _).1 hM aJ;simpa using this
  have h1:=mC kL;rw[uK];have h2:(4294967296:Nat)^L.length<=4294967296^m.length:=bI aF aD;have h3:(4294967296:Nat)^m.length*1<=4294967296^m.length*val [x]:=cM _ aR;omega
def al5{L M:List Nat}(kL:iK L)(i:Nat)(hi:i<L.length)(hlen:L.length=M.length)(afw:L.drop (i+1)=M.drop (i+1))(iO:L[i]<M[i]'(aD)):val L<val M:=by
 rw[DG L (i+1) aD,DG M (i+1) aD,afw,yi L i hi,yi M i aD];have h1:=mC (kL.take i);rw[cG,dD aD]at h1;have h2:=cM (4294967296^i) (show L[i]+1<=M[i]'(aD)from iO);rw[bM]at h2;omega
def al7(L:List Nat)(k:Nat)(h:iK L):val (L.drop k)=val L/2^(32*k):=by
 rw[Gi h,nF]
def qC(s:Nat):List Nat->List Nat
 | []=>[]
 |x::l=>((x+4294967296*l.getD 0 0)/2^s)%4294967296::qC s l
def J1(s:Nat)(L:List Nat):(qC s L).length=L.length:=by
 induction L with
 |nil=>rfl
 |cons x l ih=>simp[qC,ih]
def YJ(s:Nat)(L:List Nat)(i:Nat)(h:i<L.length):(qC s L)[i]? = some (((L[i]+4294967296*L.getD (i+1) 0)/2^s)%4294967296):=by
 induction L generalizing i with
 |nil=>simp at h
 |cons x l ih=>
  cases i with
  |zero=>simp[qC]
  |succ i=>
   simp only[df]at h;simp only[qC,anF,ih i aD,am3];congr 1
def FM(s:Nat)(L:List Nat):iK (qC s L):=by
 induction L with
 |nil=>exact iK.nil
 |cons x l ih=>exact iK.cons (bC _ aF) ih
def al8{L:List Nat}(h:iK L)(s:Nat)(hs:s<32):val (qC s L)=val L/2^s:=by
 induction L with
 |nil=>simp[qC]
 |cons x l ih=>
  have e:32=s+(32-s):= aD ;have e2:(4294967296:Nat)=2^s*2^(32-s):=by rw[<-bw,<-e]
  have hp:0<2^s:=bA aF;have hx:=h.head;simp only[qC,qj,ih h.tail];generalize hv:val l=v;have hh:l.getD 0 0=v%4294967296:=by
   rw[<-hv];cases l with
   |nil=>simp
   |cons y m=>
    have:=h.tail.head;simp[qj];omega
  rw[hh];have f1:(x+4294967296*(v%4294967296))/2^s=x/2^s+2^(32-s)*(v%4294967296):=by
   rw[show x+4294967296*(v%4294967296)=x+2^s*(2^(32-s)*(v%4294967296))by rw[<-bB,<-e2],fz _ _ hp]
  have f2:(x+4294967296*v)/2^s=x/2^s+2^(32-s)*v:=by
   rw[show x+4294967296*v=x+2^s*(2^(32-s)*v)by rw[<-bB,<-e2],fz _ _ hp]
  rw[f1,f2];have qv:x/2^s<2^(32-s):=by
   rw[cr hp,bE,<-e2];exact hx
  generalize x/2^s=q at qv ⊢;have g1:(4294967296:Nat)=2^(32-s)*2^s:=by rw[bE];exact e2
  have g2:v=2^s*(v/2^s)+v%2^s:=(cB v (2^s)).symm;have g3:(q+2^(32-s)*(v%4294967296))%4294967296=q+2^(32-s)*(v%2^s):=by
   have k1:v%4294967296%2^s=v%2^s:=by
    rw[e2,Nat.mod_mul_right_mod]
   have k2:(v%4294967296)=2^s*(v%4294967296/2^s)+v%2^s:=by
    rw[<-k1];exact(cB _ _).symm
   conv=>lhs;rw[k2]
   rw[bM,<-bB,<-g1];rw[(aD:q+(4294967296*(v%4294967296/2^s)+2^(32-s)*(v%2^s))=(q+2^(32-s)*(v%2^s))+4294967296*(v%4294967296/2^s)),eJ];apply bQ;have:v%2^s+1<=2^s:=bC _ hp;have:=cM (2^(32-s)) this;rw[<-g1,bM]at this;omega
  rw[g3]
  conv=>rhs;rw[g2,bM,<-bB,<-g1]
  omega
def PI{L:List Nat}(h:iK L)(n:Nat):val (qC (n%32) (L.drop (n/32)))=val L/2^n:=by
 rw[al8 (h.drop _) _ (bC _ aF),al7 _ _ h,cU,<-bw];congr 2;omega
def Pk{out a:List Nat}{i c s n0:Nat}(hi:i<a.length)(hlen:out.length=n0+i)
 (h:val out+4294967296^(n0+i)*c=val (a.take i)*2^s*4294967296^n0):
 val (out++[(a[i]*2^s+c)%4294967296])+4294967296^(n0+(i+1))*((a[i]*2^s+c)/4294967296)=val (a.take (i+1))*2^s*4294967296^n0:=by
 rw[uK,yi a i hi,hlen];simp only[qj,zw,cQ,bK];generalize hx:a[i]*2^s+c=x;have e:=ef x 4294967296;have p:4294967296^(n0+(i+1))=4294967296^(n0+i)*4294967296:=by rw[<-dh,bG]
 rw[p,dh,bB (4294967296^(n0+i)),<-bM,e,<-hx,bM,<-dh,Nat.add_right_comm,h,b8,b8];congr 1;rw[bw]
 ac_rfl
def uL(b:List Nat)(i:Nat):val (b.take (i+1))=val (b.take i)+4294967296^i*b.getD i 0:=by
 by_cases hi:i<b.length
 .rw [yi b i hi,bu,bD hi];rfl
 .rw [cP aD,cP aD,bu,cw aD];simp
def amP{out a b:List Nat}{i c y d c':Nat}(hi:i<a.length)(hlen:out.length=i)
 (hb:val (b.take (i+1))=val (b.take i)+4294967296^i*y)
 (hd:d+y+c=a[i]+4294967296*c')
 (h:val out+val (b.take i)=val (a.take i)+4294967296^i*c):
 val (out++[d])+val (b.take (i+1))=val (a.take (i+1))+4294967296^(i+1)*c':=by
 rw[uK,yi a i hi,hb,hlen];simp only[qj,zw,cQ,bK];have e:=congrArg (4294967296^i * ·) hd;simp only[bM,<-bB]at e;rw[bG];omega
def kr(n:Nat):Nat:=if n=0 then 0 else(Nat.gcd n (2^(Nat.log2 n+1))).log2
def K7{m:Nat}(hm:m%2=1)(k:Nat):kr (m*2^k)=k:=by
 have h0:m*2^k≠0:=fe aD (eO (bA aF));unfold kr;rw[bl h0];have hk:k<=Nat.log2 (m*2^k):=by
  apply b9;intro h;have h1:m*2^k<2^k:=(Nat.log2_lt h0).1 aD;have:1*2^k<=m*2^k:=bR _ aD;omega
 obtain⟨j,hj⟩:∃ j,Nat.log2 (m*2^k)+1=j+k:=⟨Nat.log2 (m*2^k)+1-k,aD⟩
 rw[hj,bw,Nat.gcd_mul_right];have hg:Nat.gcd m (2^j)=1:=by
  have hc:Nat.Coprime m 2:=by
   unfold Nat.Coprime;rw[fW,Nat.gcd_rec,hm];rfl
  exact Nat.Coprime.pow_right j hc
 rw[hg,ck,Nat.log2_two_pow]
def K8{n:Nat}(h:n%2=1):kr n=0:=by have:=K7 h 0;simpa using this
def alR{n:Nat}(h:n≠0):∃ m k,m%2=1/\n=m*2^k:=by
 induction n using Nat.strongRecOn with
 |_ n ih=>
  by_cases h2:n%2=1
  .exact ⟨n,0,h2,aJ⟩
  .obtain ⟨m,k,hm,he⟩:=ih (n/2) aD aD ;exact⟨m,k+1,hm,by rw[bG,<-bB,<-he];omega⟩
def RC{n:Nat}(h:n≠0)(h2:n%2=0):kr n=kr (n/2)+1:=by
 obtain⟨m,k,hm,he⟩:=alR (n:=n/2) aD;have e:n=m*2^(k+1):=by rw[bG,<-bB,<-he];omega
 rw[he,K7 hm]
 conv=>lhs;rw[e]
 exact K7 hm _
def A9{n:Nat}(h:n≠0):∃ m,m%2=1/\n=m*2^kr n:=by
 induction n using Nat.strongRecOn with
 |_ n ih=>
  by_cases h2:n%2=1
  .exact ⟨n,h2,by rw[K8 h2];omega⟩
  .obtain ⟨m,hm,he⟩:=ih (n/2) aD aD ;refine⟨m,hm,?_⟩;rw[RC h aD,bG,<-bB,<-he];omega
def yz{m:Nat}(hm:m%2=1)(k:Nat):kr (m*2^k)=k:=by
 induction k with
 |zero=>rw[ca,cg,K8 hm]
 |succ k ih=>
  have hp:0<m*2^k:=eP aD (bA aF);have e:m*2^(k+1)=m*2^k*2:=by rw[bG,bB]
  rw[e,RC aD aD,eg _ aF,ih]
def Dd{n:Nat}(h:n≠0):(n/2^kr n)%2=1:=by
 obtain⟨m,hm,he⟩:=A9 h;have:n/2^kr n=m:=by conv=>lhs;rw[he,yz hm];rw[eg _ (bA aF)]
 rw[this];exact hm
def Ha{n:Nat}(h:n≠0):(n/2^kr n)*2^kr n=n:=by
 obtain⟨m,hm,he⟩:=A9 h;have:n/2^kr n=m:=by conv=>lhs;rw[he,yz hm];rw[eg _ (bA aF)]
 rw[this];exact he.symm
def FT{n:Nat}(h:n≠0):2^kr n<=n:=by
 obtain⟨m,hm,he⟩:=A9 h
 conv=>rhs;rw[he]
 exact Nat.le_mul_of_pos_left _ aD 
def abR{x v:Nat}(hx:x≠0)(iO:x<4294967296):kr (x+4294967296*v)=kr x:=by
 obtain⟨m,hm,he⟩:=A9 hx;have hk:kr x<32:=by
  have h1:=FT hx;rcases eE (kr x) 32 with h|h
  .exact h
  .have:=bI (n:=2) aF h;have e:(2:Nat)^32=4294967296:= aF ;omega
 have e:x+4294967296*v=(m+2^(32-kr x)*v)*2^kr x:=by
  rw[b8,<-he,fX,<-bw,fA aD]
 conv=>lhs;rw[e]
 apply yz;have:2^(32-kr x)=2*2^(31-kr x):=by rw[(aD:32-kr x=(31-kr x)+1),bG,bE]
 rw[this,bB,eJ];exact hm
def abS{v:Nat}(hv:v≠0)(k:Nat):kr (2^k*v)=k+kr v:=by
 obtain⟨m,hm,he⟩:=A9 hv
 conv=>lhs;rw[he,<-bB,bE (2^k),bB,<-bw]
 exact yz hm _
def Gj{L:List Nat}:val L=0↔∀ x,x ∈ L->x=0:=by
 induction L with
 |nil=>simp
 |cons x l ih=>
  simp only[qj,de];constructor
  .intro h y hy;rcases hy with rfl|hy
   .omega
   .exact ih.1 aD y hy
  .intro h;have h1:=h x (.inl rfl);have h2:=ih.2 (λy hy=>h y (.inr hy));omega
def abT{L:List Nat}(h:iK L)(i:Nat)(hi:i<L.length)(h0:∀ j,(hj:j<i)->L[j]=0)(hx:L[i]≠0):kr (val L)=32*i+kr L[i]:=by
 rw[DG L i aD];have:val (L.take i)=0:=by
  rw[Gj];intro y hy;obtain⟨j,hj,rfl⟩:=am4 hy;rw[cG]at hj;rw[List.getElem_take];exact h0 j aD 
 rw[this,b6,nF,fB hi,qj];rw[abS aD,abR hx (h.get hi)]
def PH{L:List Nat}{k x:Nat}(hk:k<L.length):val (L.set k x)+4294967296^k*L[k]=val L+4294967296^k*x:=by
 induction L generalizing k with
 |nil=>simp at hk
 |cons y l ih=>
  cases k with
  |zero=>simp;omega
  |succ k=>
   simp only[df]at hk;have:=ih (k:=k) aD;simp only[List.set_cons_succ,qj,am3,bG];have e1:(4294967296^k*4294967296*l[k])=4294967296*(4294967296^k*l[k]):=by ac_rfl
   have e2:(4294967296^k*4294967296*x)=4294967296*(4294967296^k*x):=by ac_rfl
   rw[e1,e2];omega
def iK.set{L:List Nat}(h:iK L)(k:Nat){x:Nat}(hx:x<4294967296):iK (L.set k x):=by
 intro y hy;rcases List.mem_or_eq_of_mem_set hy with hy|rfl
 .exact h _ hy
 .exact hx
structure Dy where
 neg:Bool
 m:Nat
 e:Int
def Dy.lh(d:Dy):Prop:=(d.m=0/\d.neg=false/\d.e=0)\/d.m%2=1
def canon(neg:Bool)(m:Nat)(e:Int):Dy:=if m=0 then⟨false,0,0⟩else⟨neg,m/2^kr m,e+kr m⟩
def qF(neg:Bool)(m:Nat)(e:Int):(canon neg m e).lh:=by
 unfold canon;split
 .exact .inl ⟨rfl,rfl,rfl⟩
 .rename_i h;exact .inr (Dd h)
def Dy.lh.Co{d:Dy}(h:d.lh):canon d.neg d.m d.e=d:=by
 obtain⟨s,m,e⟩:=d;rcases h with⟨h1,h2,h3⟩|h
 .simp only at h1 h2 h3;subst h1 h2 h3;rfl
 .simp only at h ⊢;unfold canon;rw[bl aD,K8 h];simp
def nu(d:Dy):Prop:=d.m=0\/iA d.m<=4096 /\ -16384<=d.e/\d.e<=16384/\(iA d.m:Int)+d.e<=16384
instance (d:Dy):Decidable (nu d):=by unfold nu;infer_instance
structure Dy.iu(d:Dy):Prop where
 canon:d.lh
 range:nu d
def iQ:Dy:=⟨false,0,0⟩
def qn:iQ.iu:=⟨.inl ⟨rfl,rfl,rfl⟩,.inl rfl⟩
def Dy.jh(d:Dy):Int:=if d.m=0 then 0 else if d.neg then -1 else 1
def Dy.jd(d:Dy):Int:=if d.m=0 then 0 else iA d.m+d.e
def Dy.j8(d:Dy)(e:Int):Nat:=d.m*2^(d.e-e).toNat
def Dy.num(d:Dy)(e:Int):Int:=if d.neg then -(d.j8 e:Int)else d.j8 e
def jA(a b:Dy):Int:=
 if a.num (min a.e b.e)<b.num (min a.e b.e)then -1 else if b.num (min a.e b.e)<a.num (min a.e b.e)then 1 else 0
def vJ{d:Dy}(h:d.m≠0)(e:Int):0<d.j8 e:=eP aD (bA aF)
def Wc{d:Dy}(h:d.m=0)(e:Int):d.j8 e=0:=by unfold Dy.j8;rw[h,cN]
def GO{d:Dy}(h:d.m≠0){e:Int}(he:e<=d.e):(iA (d.j8 e):Int)=iA d.m+d.e-e:=by
 unfold Dy.j8;rw[qE h];omega
def Wb{a b:Dy}(ha:a.m≠0)(hb:b.m≠0){e:Int}(h1:e<=a.e)(h2:e<=b.e)(h:a.jd<b.jd):a.j8 e<b.j8 e:=by
 have k1:=GO ha h1;have k2:=GO hb h2;unfold Dy.jd at h;rw[bl ha,bl hb]at h;rcases eE (a.j8 e) (b.j8 e)with h'|h'
 .exact h'
 .have:=tg h';omega
def sS(a b:Dy):Int:=kD (a.j8 (min a.e b.e)) (b.j8 (min a.e b.e))
def Ru{a b:Dy}(ha:a.m≠0)(hb:b.m≠0)(h:a.jd<b.jd):sS a b = -1:=by
 unfold sS kD;rw[bn (Wb ha hb (Int.min_le_left _ _) (Int.min_le_right _ _) h)]
def Rt{a b:Dy}(ha:a.m≠0)(hb:b.m≠0)(h:b.jd<a.jd):sS a b=1:=by
 have:=Wb hb ha (Int.min_le_right a.e b.e) (Int.min_le_left _ _) h;unfold sS kD;rw[bl aD,bn this]
def B2(d:Dy):(d.m=0/\d.jh=0)\/(d.m≠0/\d.neg=true/\d.jh = -1)\/(d.m≠0/\d.neg=false/\d.jh=1):=by
 unfold Dy.jh;by_cases h:d.m=0
 .exact .inl ⟨h,bn h⟩
 .cases hn:d.neg
  .exact .inr (.inr ⟨h,rfl,by simp[h]⟩)
  .exact .inr (.inl ⟨h,rfl,by simp[h]⟩)
def W3{d:Dy}(e:Int):(d.jh=0->d.num e=0)/\(d.jh = -1->d.num e<0/\d.num e = -(d.j8 e))/\(d.jh=1->0<d.num e/\d.num e=d.j8 e):=by
 unfold Dy.num;rcases B2 d with⟨h1,h2⟩|⟨h1,h2,h3⟩|⟨h1,h2,h3⟩
 .rw [h2,Wc h1];simp
 .have:=vJ h1 e;rw[h3,h2];simp;omega
 .have:=vJ h1 e;rw[h3,h2];simp;omega
def Cr(a b:Dy):jA a b=if a.jh<b.jh then -1 else if b.jh<a.jh then 1 else if a.jh=0 then 0 else a.jh*sS a b:=by
 unfold jA sS kD;generalize min a.e b.e=e;obtain⟨p1,p2,p3⟩:=W3 (d:=a) e;obtain⟨q1,q2,q3⟩:=W3 (d:=b) e;generalize a.num e=x at *
 generalize b.num e=y at *
 generalize a.j8 e=x' at *
 generalize b.j8 e=y' at *
 have ha:a.jh=0\/a.jh = -1\/a.jh=1:=by rcases B2 a with⟨_,h⟩|⟨_,_,h⟩|⟨_,_,h⟩<;>simp[h]
 have hb:b.jh=0\/b.jh = -1\/b.jh=1:=by rcases B2 b with⟨_,h⟩|⟨_,_,h⟩|⟨_,_,h⟩<;>simp[h]
 generalize a.jh=s at *
 generalize b.jh=t at *
 rcases ha with rfl|rfl|rfl<;>rcases hb with rfl|rfl|rfl<;>simp at p1 p2 p3 q1 q2 q3<;>(repeat' split)<;>omega
def lY(z:Int)(e:Int):Dy:=canon (decide (z<0)) z.natAbs e
def iJ(a b:Dy):Dy:=
 if a.m=0 then b else if b.m=0 then a else lY (a.num (min a.e b.e)+b.num (min a.e b.e)) (min a.e b.e)
def jf(d:Dy):Dy:=⟨!d.neg&&decide (d.m≠0),d.m,d.e⟩
def BK{d:Dy}(h:d.lh):(jf d).lh:=by
 rcases h with⟨h1,h2,h3⟩|h
 .exact .inl ⟨h1,by simp[jf,h1],h3⟩
 .exact .inr h
def uE{d:Dy}(h:d.iu):(jf d).iu:=⟨BK h.canon,h.range⟩
def akV(n:Bool)(m:Nat)(e:Int):(canon n m e).jh=if m=0 then 0 else if n then -1 else 1:=by
 unfold canon;by_cases h:m=0
 .simp [h,Dy.jh]
 .have:(canon n m e).m≠0:=by unfold canon;rw[bl h];have:=Dd h;simp only;omega
  unfold canon at this;rw[bl h]at this ⊢;unfold Dy.jh;rw[bl this,bl h]
def akW(z e:Int):(lY z e).jh=if z<0 then -1 else if 0<z then 1 else 0:=by
 unfold lY;rw[akV];by_cases h:z<0
 .rw [bl aD,bn h];simp[h]
 .rw [bl h];by_cases h0:0<z
  .rw [bl aD,bn h0];simp[h]
  .rw [bl h0,bn aD]
def N8(d:Dy)(e:Int)(hd:d.m≠0):(jf d).num e = -(d.num e):=by
 unfold Dy.num jf Dy.j8;cases d.neg<;>simp[hd]
def Rr{a b:Dy}(ha:a.m≠0)(hb:b.m≠0):(iJ a (jf b)).jh=jA a b:=by
 unfold iJ;rw[bl ha,bl (by simpa[jf]using hb),akW];have e1:(jf b).e=b.e:=rfl;rw[e1,N8 _ _ hb];unfold jA;generalize a.num _=x;generalize b.num _=y
 repeat' split
 all_goals omega
def abI{a b:Dy}(ha:a.m≠0)(hb:b.m≠0)(hs:a.jh=b.jh)(h:a.jd<b.jd):jA a b = -a.jh:=by
 rw[Cr,bl aD,bl aD,Ru ha hb h];split<;>omega
def abH{a b:Dy}(ha:a.m≠0)(hb:b.m≠0)(hs:a.jh=b.jh)(h:b.jd<a.jd):jA a b=a.jh:=by
 rw[Cr,bl aD,bl aD,Rt ha hb h];split<;>omega
def Cs(a b:Dy):jA a b=if a.jh≠b.jh then(if a.jh<b.jh then -1 else 1)else if a.jh=0 then 0 else
 if a.jd≠b.jd then(if(a.jd<b.jd)=(0<a.jh)then -1 else 1)else(iJ a (jf b)).jh:=by
 by_cases hs:a.jh=b.jh
 .rw [bl (by simpa using hs)];by_cases h0:a.jh=0
  .rw [bn h0,Cr,bl aD,bl aD,bn h0]
  .rw [bl h0];have ha:a.m≠0:=by intro h;exact h0 (by unfold Dy.jh;rw[bn h])
   have hb:b.m≠0:=by intro h;exact h0 (by rw[hs];unfold Dy.jh;rw[bn h])
   have hc:a.jh = -1\/a.jh=1:=by rcases B2 a with⟨_,h⟩|⟨_,_,h⟩|⟨_,_,h⟩<;>simp_all
   by_cases ht:a.jd=b.jd
   .rw [bl (by simpa using ht),Rr ha hb]
   .rw [bn (by simpa using ht)];rcases Int.lt_or_gt_of_ne ht with h|h
    .rw [abI ha hb hs h];rcases hc with h'|h'<;>rw[h']<;>simp[h]
    .rw [abH ha hb hs h];rcases hc with h'|h'<;>rw[h']<;>simp[(aD:¬a.jd<b.jd)]
 .rw [bn (by simpa using hs),Cr];by_cases h:a.jh<b.jh
  .rw [bn h,bn h]
  .rw [bl h,bl h,bn aD]
def Z5{out:List Nat}{k c x y P Q P' Q':Nat}(hlen:out.length=k)(h:val out+4294967296^k*c=P+Q)
 (hP:P'=P+4294967296^k*x) (hQ:Q'=Q+4294967296^k*y):
 val (out++[(c+x+y)%4294967296])+4294967296^(k+1)*((c+x+y)/4294967296)=P'+Q':=by
 rw[uK,hlen,hP,hQ];simp only[qj,zw,cQ,bK];generalize hx:c+x+y=z;have e:=ef z 4294967296;rw[bG,dh,bB,<-bM,e,<-hx,bM,bM];omega
def ald{out:List Nat}{k c x y d c' P Q P' Q':Nat}(hlen:out.length=k)(h:val out+Q=P+4294967296^k*c)
 (hP:P'=P+4294967296^k*x) (hQ:Q'=Q+4294967296^k*y) (hd:d+y+c=x+4294967296*c'):
 val (out++[d])+Q'=P'+4294967296^(k+1)*c':=by
 rw[uK,hlen,hP,hQ];simp only[qj,zw,cQ,bK];have e:=congrArg (4294967296^k * ·) hd;simp only[bM,<-bB]at e;rw[bG];omega
def Y1{out:List Nat}{n c P Q:Nat}(ho:iK out)(hlen:out.length=n)(h:val out+Q=P+4294967296^n*c)(hle:Q<=P):c=0/\val out=P-Q:=by
 have h1:=mC ho;rw[hlen]at h1;rcases c with _|c
 .exact ⟨rfl,aD⟩
 .exfalso;have:4294967296^n*1<=4294967296^n*(c+1):=cM _ aD;omega
def KL{L:List Nat}(h:iK L)(k:Nat)(hk:k/32<L.length):val L/2^k%2=L[k/32]/2^(k%32)%2:=by
 have e:k=32*(k/32)+k%32:= aD 
 conv=>lhs;rw[e,bw,<-cU,<-nF,<-Gi h,fB hk,qj]
 have hs:k%32<32:=bC _ aF;have e2:(4294967296:Nat)=2^(k%32)*(2*2^(31-k%32)):=by
  rw[<-Nat.pow_succ',<-bw,(aD:k%32+(31-k%32).succ=32)]
 conv=>lhs;rw[e2,bB,fz _ _ (bA aF),bB,eJ]
def QU{n k:Nat}(h:n≠0)(hk:k<kr n):n/2^k%2=0:=by
 obtain⟨m,hm,he⟩:=A9 h;generalize kr n=c at *
 rw[he,(aD:c=k+(c-k)),bw,<-bB,fX,eg _ (bA aF),(aD:c-k=(c-k-1)+1),bG,<-bB,fC]
def QT{n:Nat}(h:n≠0):n/2^kr n%2=1:=Dd h
def D3{L:List Nat}(h:iK L)(h0:val L≠0):kr (val L)/32<L.length:=by
 have h1:=FT h0;have h2:=mC h;rw[nF]at h2;have h3:2^kr (val L)<2^(32*L.length):=cK h1 h2;have:=(am5 (aF:1<2)).1 h3;omega
end Go.Proofs.YtbhhompalmdaiaaGreatDoor.Fp
namespace Go.Proofs.YtbhhompalmdaiaaGreatDoor
open Go.RowKit Fp
structure Sl(w:World)(A:Option Addr)(c:Nat)(L:List Nat):Prop where
 cap:L.length<=c
 pS:c<=9223372036854775807
 ok:iK L
 w9:A=none->c=0
 cell:∀ (i x:Nat),L[i]? = some x->∃ b o,A=some ⟨b,o,none⟩/\b<w.heap.size/\w.cell? ⟨b,o+i,none⟩=some (.int .u32 (x:Int))
section
variable {w w':World} {A:Option Addr} {c:Nat} {L:List Nat}
def Sl.lL(h:Sl w A c L){i:Nat}(hi:i<L.length):∃ b o,A=some ⟨b,o,none⟩/\b<w.heap.size/\w.cell? ⟨b,o+i,none⟩=some (.int .u32 (L[i]:Int)):=
 h.cell i _ (bD hi)
def Sl.nil(w:World):Sl w none 0 []:=⟨bp _,aF,iK.nil,λ_=>rfl,λi x h=>by simp at h⟩
def Sl.below(h:Sl w A c L)(hb:Below w.heap.size w w'):Sl w' A c L:=
 ⟨h.cap,h.pS,h.ok,h.w9,λi x hx=>by
  obtain⟨b,o,e,h1,h2⟩:=h.cell i x hx;exact⟨b,o,e,bT h1 hb.size,(hb.cell h1).trans h2⟩⟩
def Sl.alloc(h:Sl w A c L)(o:Obj):Sl (w.alloc o) A c L:=h.below ((Below.refl _ _).alloc (bp _) _)
def Sl.drew(h:Sl w A c L):Sl w.drew A c L:=h.below ((Below.refl _ _).drew)
def Sl.take(h:Sl w A c L)(n:Nat):Sl w A c (L.take n):=
 ⟨by have:=h.cap;rw[cG];omega,h.pS,h.ok.take n,h.w9,λi x hx=>h.cell i x (by
  rw[ff]at hx;split at hx
  .exact hx
  .cases hx)⟩
def Sl.len(h:Sl w A c L):L.length<=9223372036854775807:=bJ h.cap h.pS
def Sl.eqv{L':List Nat}(h:Sl w A c L)(e:L=L'):Sl w A c L':=e▸h
end
def DS(b o i:Nat):(⟨b,o,none⟩:Addr).add i=⟨b,o+i,none⟩:=by
 unfold Addr.add;split
 .rename_i h0;rw[h0];rfl
 .simp
abbrev iG(w w':World):Prop:=Below w.heap.size w w'
def iG.trans{a b c:World}(h:iG a b)(k:iG b c):iG a c:=Below.trans h (k.mono h.size)
def iG.alloc(w:World)(o:Obj):iG w (w.alloc o):=(Below.refl _ _).alloc (bp _) _
def iG.drew(w:World):iG w w.drew:=(Below.refl _ _).drew
def iG.refl(w:World):iG w w:=Below.refl _ _
def JP{A:Option Addr}{n m c:Nat}(h:n=m):Ending.returned (.slice A n c) = .returned (.slice A m c):=by rw[h]
def oi{k:IntKind}{a b:Int}(h:a=b):Ending.returned (.int k a) = .returned (.int k b):=by rw[h]
def Yd{a b:Bool}(h:a=b):Ending.returned (.bool a) = .returned (.bool b):=by rw[h]
def sR(w:World)(L:List Nat)(e:Ending)(w':World):Prop:=∃ A c,e = .returned (.slice A L.length c)/\Sl w' A c L/\iG w w'
def Cf(w:World)(L:List Nat)(n:Int)(e:Ending)(w':World):Prop:=∃ A c,e = .returned (.tuple #[.slice A L.length c,.int .i64 n])/\Sl w' A c L/\iG w w'
def Tb(w:World):Prop:=TabAt 0 Lib.deBruijn32tab w
def Tb.below{w w':World}(h:Tb w)(hb:iG w w'):Tb w':=λj hj=>by
 have h1:=h j hj;rw[hb.cell (block_lt_of_cell h1)];exact h1
def Tb.alloc{w:World}(h:Tb w)(o:Obj):Tb (w.alloc o):=h.below (iG.alloc _ _)
def Tb.drew{w:World}(h:Tb w):Tb w.drew:=h.below (iG.drew _)
def aaR(x:Nat)(h:x<4294967296):Lib.bitLen x=iA x:=by
 induction x using Nat.strongRecOn with
 |_ x ih=>
  by_cases h0:x=0
  .subst h0;rfl
  .rw [Lib.bitLen_half x h0 aD,ih (x/2) aD aD];by_cases h1:x/2=0
   .have:x=1:= aD ;subst this;rfl
   .have e1:=rk h1;have e2:=pE (x/2);have e3:=nj h1;generalize iA (x/2)=k at *
    obtain⟨j,rfl⟩:∃ j,k=j+1:=⟨k-1,aD⟩
    rw[eD]at e1;rw[eR];refine(uT ?_ ?_).symm
    .rw [bG];omega
    .rw [bG];omega
def abU(x:Nat)(h0:x≠0)(h:x<4294967296):Lib.ctz 32 x=kr x:=by
 unfold Lib.ctz;rw[bl h0];obtain⟨m,hm,_⟩:=Lib.ctzFrom_spec 32 x aD h
 conv=>rhs;rw[hm,bE]
 exact(yz aD _).symm
def nY(L:List Nat):List Value:=L.map λ(n:Nat)=>Value.int .u32 (n:Int)
def alY{L:List Nat}{j:Nat}{u:Value}(h:(nY L)[j]? = some u):∃ n,L[j]? = some n/\u = .int .u32 (n:Int):=by
 unfold nY at h;rw[cY]at h;obtain⟨n,hn,rfl⟩:=dm.1 h;exact⟨n,hn,rfl⟩
def alX(L M:List Nat):nY (L++M)=nY L++nY M:=am6
def alZ(L:List Nat):∀ u ∈ nY L,u.oneCell'=true:=by
 intro u hu;obtain⟨n,_,rfl⟩:=cR.1 hu;rfl
structure Ow(w:World)(base:Nat)(v:Value)(L:List Nat):Prop where
 row:w.ownsRow base 72 1 v L.length (nY L)
 ok:iK L
def Ow.sl{w:World}{base:Nat}{v:Value}{L:List Nat}(h:Ow w base v L):∃ A c,v = .slice A L.length c/\Sl w A c L:=by
 have hr:=h.row;rcases hr.2 with⟨rfl,h0⟩|⟨g,cap,cur,rfl,hb,hg,pM,nS,oR,EU⟩
 .have:L=[]:=dN h0;subst this;exact⟨none,0,rfl,Sl.nil w⟩
 .refine ⟨_,_,rfl,pM,(by simpa[maxLen]using nS),h.ok,(λh=>by cases h),λi x hx=>⟨_,_,rfl,(dx.1 hg).1,?_⟩⟩;have h:=hr.cells (g:=g) rfl i (.int .u32 (x:Int)) (by unfold nY;rw[cY,hx];rfl);rw[DS]at h;exact h
def Ow.nil(w:World)(base:Nat):Ow w base (.slice none 0 0) []:=⟨World.ownsRow_nil w base _ _,iK.nil⟩
def Ow.alloc{w:World}{base:Nat}{v:Value}{L:List Nat}(h:Ow w base v L)(o:Obj):Ow (w.alloc o) base v L:=⟨h.row.alloc o,h.ok⟩
def Ow.empty(w:World)(base:Nat)(hb:base<=w.heap.size):Ow (w.alloc (.cells #[] 72)) base (.slice (some ⟨w.heap.size,0,none⟩) 0 0) []:=
 ⟨World.ownsRow_made w #[] 0 hb aF rfl,iK.nil⟩
def pR{w:World}{n:Nat}(h:n<=w.heap.size)(o:Obj):n<=(w.alloc o).heap.size:= aR 
def Sl.one(w:World)(x:Nat)(hx:x<4294967296):Sl (w.alloc (.cells #[.int .u32 x] 72)) (some ⟨w.heap.size,0,none⟩) 1 [x]:=
 ⟨bp _,aF,iK.cons hx iK.nil,(λh=>by cases h),λi y hy=>by
  obtain⟨h1,h2⟩:=cC.1 hy;obtain rfl:i=0:=by simp at h1;omega
  simp at h2;subst h2;refine⟨_,_,rfl,aJ,?_⟩;exact World.cell?_alloc_at _ _ _ _ rfl⟩
def Sl.s6(w:World)(y:Int)(x:Nat)(e:y=(x:Int))(hx:x<4294967296):Sl (w.alloc (.cells #[.int .u32 y] 72)) (some ⟨w.heap.size,0,none⟩) 1 [x]:=by
 subst e;exact Sl.one w x hx
def Ng:(prog.info? 72).map (λi=>(i.zero,i.size,i.bytes))=some (some (.int .u32 0),1,4):= aG 
def qQ{ik:Array Oper}{rest:List Oper}{o:Oper}{a:Act}{Q:Exit->Act->World->Prop}{w:World}(Bk:o.guard=none)(s x:Operand)
 (ho:o.op = .call { callee:=.builtin .append,args:=#[s,x],argTypes:=#[26,26] })
 (base:Nat) (v:Value) (L:List Nat) (hs:a.eval s=v) (oq:Ow w base v L)
 (A:Option Addr) (m c:Nat) (M:List Nat) (hx:a.eval x = .slice A m c) (hm:m=M.length) (hr:Sl w A c M)
 (lT:L.length+M.length<=10000000000) (Ij:base<=w.heap.size)
 (h:∀ v' w',Ow w' base v' (L++M)->w.grownBy w' v.ownBlock->(v'.ownBlock=v.ownBlock\/v'.ownBlock=some w.heap.size)->wpList prog ik Q rest (a.put o.dst v') w'):
 wpList prog ik Q (o::rest) a w:=by
 obtain⟨i,hi,hz,h1,h2⟩:=info_parts Ng;subst hm;rcases A with _|ad
 .have hc:=hr.w9 rfl;subst hc;have hM:M=[]:=dN (by have:=hr.cap;omega);subst hM;refine wpList_append_own_none Bk s x _ ho base _ i 1 underlying26 hi v _ _ hs oq.row hx ?_;have:=h v w (by rw[List.append_nil];exact oq) ⟨rfl,rfl,rfl,bp _,λ_ _ _=>rfl⟩ (.inl rfl);exact this
 .refine wpList_append_own_at w Bk s x _ ho base _ i _ 1 4 underlying26 hi hz h1 h2 rfl aF v L.length (nY L) hs oq.row ad M.length c (nY M) hx (by simp[nY]) ?_ (alZ M)
   (by simp only[maxLen];omega) aD Ij ?_
  .intro j u hu;obtain⟨n,hn,rfl⟩:=alY hu;obtain⟨b,o,e,_,hc⟩:=hr.cell j n hn;cases e;rw[DS];exact hc
  .intro v' w' afp hg _ oO;exact h v' w' ⟨by rw[cJ,alX];exact afp,oq.ok.append hr.ok⟩ hg oO
def Rw(w:World)(b:Nat)(L:List Nat):Prop:=w.heap[b]? = some (.cells (nY L).toArray 72 (0,0))
section
variable {w w':World} {b:Nat} {L:List Nat}
def Rw.lt(h:Rw w b L):b<w.heap.size:=(dx.1 h).1
def Rw.cell(h:Rw w b L){i x:Nat}(hx:L[i]? = some x):w.cell? ⟨b,i,none⟩=some (.int .u32 (x:Int)):=by
 unfold Rw at h;simp only[World.cell?,h];simp[nY,hx]
def Rw.frozen(h:Rw w b L)(i:Nat):w.frozen? ⟨b,i,none⟩=false:=by
 unfold Rw at h;simp[World.frozen?,h]
def Rw.set(h:Rw w b L)(i x:Nat):Rw (w.setCell ⟨b,i,none⟩ (.int .u32 (x:Int))) b (L.set i x):=by
 unfold Rw at h ⊢;simp only[World.setCell,dz,h];simp[nY,List.map_set]
def Rw.sl(h:Rw w b L)(hk:iK L)(hl:L.length<=10000000000):Sl w (some ⟨b,0,none⟩) L.length L:=
 ⟨bp _,aD,hk,(λh=>by cases h),λi x hx=>⟨_,_,rfl,h.lt,by
  rw[b6];exact h.cell hx⟩⟩
def Rw.xR(w:World)(n:Nat):Rw (w.alloc (.cells (nY (List.replicate n 0)).toArray 72)) w.heap.size (List.replicate n 0):=heap_alloc_new w _
end
def Z0(b i:Nat):(⟨b,0,none⟩:Addr).add i=⟨b,i,none⟩:=by
 unfold Addr.add;split
 .rename_i h0;rw[h0]
 .simp
def C5(n:Nat)(hn:n<=10000000000)(w:World):
 (Instr.makeSlice 26 (.int .i64 (n:Int)) (.int .i64 (n:Int))).run prog w = .ok (.slice (some ⟨w.heap.size,0,none⟩) n n) (w.alloc (.cells (nY (List.replicate n 0)).toArray 72)):=by
 obtain⟨i,hi,hz,h1,h2⟩:=info_parts Ng;have hr:=run_make (P:=prog) w 26 72 i _ underlying26 hi hz .i64 .i64 n n aD aD (by rw[h2];omega) aD;rw[hr,fY,h1,cg];refine congrArg (λcs=>Result.ok (Value.slice (some ⟨w.heap.size,0,none⟩) n n) (w.alloc (.cells cs 72))) ?_;apply Array.ext
 .simp [madeCells,nY]
 .intro i h1 h2;simp[madeCells,nY,Value.cells,dn]
def tR(w:World)(d:Dy)(e:Ending)(w':World):Prop:=
 ∃ A c,e = .returned (.agg #[.bool d.neg,.slice A (ij d.m).length c,.int .i64 d.e])/\Sl w' A c (ij d.m)/\iG w w'
def tf(w:World)(d:Dy)(n:Int)(e:Ending)(w':World):Prop:=
 ∃ A c,e = .returned (.tuple #[.agg #[.bool d.neg,.slice A (ij d.m).length c,.int .i64 d.e],.int .i64 n])/\Sl w' A c (ij d.m)/\iG w w'
def ym(w:World)(g:Nat):Prop:=∀ o x,w.cell? ⟨g,o,none⟩≠some (.int .u32 x)
def Sl.yC{w:World}{A:Option Addr}{c:Nat}{L:List Nat}(h:Sl w A c L){g i:Nat}(hg:ym w g)(u:Value):Sl (w.setCell ⟨g,i,none⟩ u) A c L:=
 ⟨h.cap,h.pS,h.ok,h.w9,λj x hx=>by
  obtain⟨b,o,e,h1,h2⟩:=h.cell j x hx;refine⟨b,o,e,by simpa[World.setCell]using h1,?_⟩;rw[World.cell?_setCell_other w _ _ u]
  .exact h2
  .intro e';simp only[Addr.mk.injEq]at e';exact hg (o+j) x (by rw[e'.1];exact h2)⟩
def ym.De{w:World}{g:Nat}{cs:Array Value}{t:TypeId}{fr:Nat×Nat}(h:w.heap[g]? = some (.cells cs t fr))(hc:∀ (i:Nat) (x:Int),cs[i]? ≠ some (.int .u32 x)):ym w g:=λo x e=>by
 simp only[World.cell?,h]at e;simp at e;exact hc o x (by simpa using e)
def jq(w:World)(g:Nat)(s:Bool)(A:Option Addr)(n c:Nat)(e:Int):Prop:=w.heap[g]? = some (.cells #[.bool s,.slice A n c,.int .i64 e] 28 (0,0))
section
variable {w w':World} {g n c:Nat} {s:Bool} {A:Option Addr} {e:Int}
def jq.new(W:World)(s:Bool)(A:Option Addr)(n c:Nat)(e:Int):jq (W.alloc (.cells #[.bool s,.slice A n c,.int .i64 e] 28)) W.heap.size s A n c e:=heap_alloc_new W _
def jq.pj{W:World}{g:Nat}(hg:W.heap.size=g)(s:Bool)(A:Option Addr)(n c:Nat)(e:Int):jq (W.alloc (.cells #[.bool s,.slice A n c,.int .i64 e] 28)) g s A n c e:=hg▸heap_alloc_new W _
def jq.lt(h:jq w g s A n c e):g<w.heap.size:=(dx.1 h).1
def jq.ext(h:jq w g s A n c e)(hb:iG w w'):jq w' g s A n c e:=(hb.block g h.lt).trans h
def jq.alloc(h:jq w g s A n c e)(o:Obj):jq (w.alloc o) g s A n c e:=h.ext (iG.alloc _ _)
def jq.drew(h:jq w g s A n c e):jq w.drew g s A n c e:=h
def jq.nW(h:jq w g s A n c e):ym w g:=ym.De h (λi x=>by rcases i with _|_|_|i<;>simp)
def jq.c0(h:jq w g s A n c e):w.cell? ⟨g,0,none⟩=some (.bool s):=by unfold jq at h;simp[World.cell?,h]
def jq.c1(h:jq w g s A n c e):w.cell? ⟨g,1,none⟩=some (.slice A n c):=by unfold jq at h;simp[World.cell?,h]
def jq.c2(h:jq w g s A n c e):w.cell? ⟨g,2,none⟩=some (.int .i64 e):=by unfold jq at h;simp[World.cell?,h]
def jq.fr(h:jq w g s A n c e)(i:Nat):w.frozen? ⟨g,i,none⟩=false:=by unfold jq at h;simp[World.frozen?,h]
def jq.set(h:jq w g s A n c e)(s':Bool)(A':Option Addr)(n' c':Nat)(e':Int):
 jq (((w.setCell ⟨g,0,none⟩ (.bool s')).setCell ⟨g,1,none⟩ (.slice A' n' c')).setCell ⟨g,2,none⟩ (.int .i64 e')) g s' A' n' c' e':=by
 have h1:=heap_setCell_same w g 0 _ _ (.bool s') h;have h2:=heap_setCell_same _ g 1 _ _ (.slice A' n' c') h1;have h3:=heap_setCell_same _ g 2 _ _ (.int .i64 e') h2;exact h3
def jq.qi{L:List Nat}{A':Option Addr}{c':Nat}(h:jq w g s A n c e)(hs:Sl w A' c' L)(s':Bool)(e':Int)(n' c2:Nat)(A2:Option Addr):
 Sl (((w.setCell ⟨g,0,none⟩ (.bool s')).setCell ⟨g,1,none⟩ (.slice A2 n' c2)).setCell ⟨g,2,none⟩ (.int .i64 e')) A' c' L:=by
 have h1:=heap_setCell_same w g 0 _ _ (.bool s') h;have h2:=heap_setCell_same _ g 1 _ _ (.slice A2 n' c2) h1;have k1:ym (w.setCell ⟨g,0,none⟩ (.bool s')) g:=ym.De h1 (λi x=>by rcases i with _|_|_|i<;>simp);have k2:ym ((w.setCell ⟨g,0,none⟩ (.bool s')).setCell ⟨g,1,none⟩ (.slice A2 n' c2)) g:=ym.De h2 (λi x=>by rcases i with _|_|_|i<;>simp);exact((hs.yC h.nW _).yC k1 _).yC k2 _
def jq.pW{w0:World}(hb:iG w0 w)(hg:w0.heap.size<=g)(s':Bool)(A':Option Addr)(n' c':Nat)(e':Int):
 iG w0 (((w.setCell ⟨g,0,none⟩ (.bool s')).setCell ⟨g,1,none⟩ (.slice A' n' c')).setCell ⟨g,2,none⟩ (.int .i64 e')):=
 ((hb.setCell hg _).setCell hg _).setCell hg _
end
def Se:(prog.info? 28).map (·.size)=some 3:= aG 
def aj6{fn:Func}{p:Tmp}(h:fn.results = #[.cell p 28])(tmps:Array Value){w:World}{g n c:Nat}{s:Bool}{A:Option Addr}{e:Int}
 (hp:tmps.getD p undef = .pointer (some ⟨g,0,none⟩)) (hb:jq w g s A n c e):
 (results fn tmps).run prog w = .ok (.agg #[.bool s,.slice A n c,.int .i64 e]) w:=
 results_cell_row h tmps w g _ _ _ _ hp hb underlying28 rfl Se
def aj7{fn:Func}{p t:Tmp}(h:fn.results = #[.cell p 28,.tmp t])(tmps:Array Value){w:World}{g n c:Nat}{s:Bool}{A:Option Addr}{e:Int}
 (hp:tmps.getD p undef = .pointer (some ⟨g,0,none⟩)) (hb:jq w g s A n c e):
 (results fn tmps).run prog w = .ok (.tuple #[.agg #[.bool s,.slice A n c,.int .i64 e],tmps.getD t undef]) w:=by
 have MV:tmps[p]?.getD undef = .pointer (some ⟨g,0,none⟩):=by simpa using hp
 simp[results,h,MV,asAddr,run_loadVar_row w g _ _ _ _ _ hb underlying28 rfl Se]
def sU{fn:Func}{p:Tmp}(h:fn.results = #[.cell p 28]){a:Act}{w W:World}{d:Dy}{g:Nat}{A:Option Addr}{c n:Nat}
 (hp:a.tmps.getD p undef = .pointer (some ⟨g,0,none⟩)) (hd:a.defers=[]) (hb:jq W g d.neg A n c d.e) (hn:n=(ij d.m).length) (hs:Sl W A c (ij d.m)) (he:iG w W):
 bodyPost prog fn (tR w d) .ret a W:=by
 subst hn;exact bodyPost_ret (aj6 h _ hp hb) hd ⟨A,c,rfl,hs,he⟩
def uZ{fn:Func}{p t:Tmp}(h:fn.results = #[.cell p 28,.tmp t]){a:Act}{w W:World}{d:Dy}{k:Int}{g:Nat}{A:Option Addr}{c n:Nat}
 (hp:a.tmps.getD p undef = .pointer (some ⟨g,0,none⟩)) (ht:a.tmps.getD t undef = .int .i64 k) (hd:a.defers=[]) (hb:jq W g d.neg A n c d.e) (hn:n=(ij d.m).length) (hs:Sl W A c (ij d.m)) (he:iG w W):
 bodyPost prog fn (tf w d k) .ret a W:=by
 subst hn;exact bodyPost_ret ((aj7 h _ hp hb).trans (by rw[ht])) hd ⟨A,c,rfl,hs,he⟩
open Go.ChangeShapes Go.WideShapes Go.ChangeAt
def own:ownKnob prog.godebug=none:= aG 
def I4:laidOutB prog=true:= aG 
def Tl:prog.globalNamed "math/bits.deBruijn32tab" = some 0:= aG 
def ad4:(prog.globals[0]?).map (·.type)=some 231:= aG 
def abB:prog.cellsOf 231=32:= aG 
def abA:prog.cellsOf 5=1:= aG 
def alE {l:List (String×DataW Unit)} (hl:l=[("math/bits.deBruijn32tab", Rows.laid_math_bits_deBruijn32tab)]) {W:World} (h:laidMet prog l W):Tb W:=by
 subst hl;have ht:Lib.TabIs prog W "math/bits.deBruijn32tab" .u8 (Lib.deBruijn32tab.map λ(n:Nat)=>(n:Int)):=
  Lib.tabIs_of_head (rest:=[]) Tl ad4 underlying231 underlying5 abA abB h
 intro j hj;have:=ht.cell Tl j (by simpa using hj);rw[this];simp[bu];rw[bD hj];simp
noncomputable def Nt(os:Os)(args:Array Value):World:=
 {World.holding prog os ⟨#[],args,[]⟩with heap:=(World.holding prog os ⟨#[],args,[]⟩).heap.modify 0 fun
   | .cells _ t frozen=>.cells (Lib.deBruijn32tab.map λ(n:Nat)=>Value.int .u8 (n:Int)).toArray t frozen
   |o=>o }
end Go.Proofs.YtbhhompalmdaiaaGreatDoor
namespace Go.Proofs.YtbhhompalmdaiaaGreatDoor.Pu
open Go.RowKit
inductive E where
 |any
 |v (x:Value)
 |agg (l:List E)
 |iB (l:List E)
 |sl (nl:Bool) (n sz:Nat) (el:Nat->Nat->E)
 |jC (m:Nat) (el:Nat->E)
 |fn (f:FuncId) (cap:List E)
 |mp (l:List (Int×FuncId×List FuncId))
def tG:Value->Bool
 | .int .u32 _=>true
 |_=>false
def E.nr:Nat->E->Bool
 |_,.any=>true
 |_,.v _=>true
 |_,.sl ..=>true
 |_,.mp _=>true
 |d+1,.agg l=>l.all (E.nr d)
 |d+1,.iB l=>l.all (E.nr d)
 |d+1,.fn _ l=>l.all (E.nr d)
 |_,_=>false
def AS(bs:Nat->Prop)(w:World):List (Int×FuncId×List FuncId)->List MapEntry->Prop
 | [],[]=>True
 |x::l,e::es=>(e.key = .int .i64 x.1/\∃ vs:List Value,e.val = .func (.func x.2.1) #[] vs.toArray/\vs.length=x.2.2.length /\
  ∀ (i:Nat) (g:FuncId) (v:Value),x.2.2[i]? = some g->vs[i]? = some v->∃ b,v = .pointer (some ⟨b,0,none⟩)/\¬bs b/\b<w.heap.size/\w.cell? ⟨b,0,none⟩=some (.func (.func g) #[] #[]))/\AS bs w l es
 |_,_=>False
def AS.mono{bs bs':Nat->Prop}{w w':World}(lT:w.heap.size<=w'.heap.size)(h1:∀ b,b<w.heap.size->bs' b->bs b)(hc:∀ b,b<w.heap.size->¬bs b->w'.heap[b]? = w.heap[b]?):
 ∀ {l:List (Int×FuncId×List FuncId)} {es:List MapEntry},AS bs w l es->AS bs' w' l es
 | [],[],_=>trivial
 | [],_::_,h=>h
 |_::_,[],h=>h
 |_::_,_::_,⟨⟨k1,vs,k2,k3,k4⟩,h⟩=>⟨⟨k1,vs,k2,k3,λi g v hg hv=>by
  obtain⟨b,q1,q2,q3,q4⟩:=k4 i g v hg hv;exact⟨b,q1,λx=>q2 (h1 b q3 x),bT q3 lT,by rw[World.cell?_of_block (w:=w) (hc b q3 q2)];exact q4⟩⟩,AS.mono lT h1 hc h⟩
inductive iR(bs br:Nat->Prop)(w:World):E->Value->Prop
 |any (x:Value):iR bs br w .any x
 |v (x:Value):iR bs br w (.v x) x
 |agg (l:List E) (vs:List Value) (h:vs.length=l.length) (k:∀ (i:Nat) (p:E) (x:Value),l[i]? = some p->vs[i]? = some x->iR bs br w p x):iR bs br w (.agg l) (.agg vs.toArray)
 |iB (l:List E) (vs:List Value) (h:vs.length=l.length) (k:∀ (i:Nat) (p:E) (x:Value),l[i]? = some p->vs[i]? = some x->iR bs br w p x):iR bs br w (.iB l) (.tuple vs.toArray)
 |sl (nl:Bool) (n sz:Nat) (el:Nat->Nat->E) (A:Option Addr) (c:Nat) (f:Nat->Nat->Value) (hc:n<=c) (hm:c<=9223372036854775807) (h0:A=none->c=0)
  (hl:∀ i j,i<n->j<sz->(f i j).oneCell'=true/\(nl=true->tG (f i j)=false))
  (hr:∀ i j,i<n->j<sz->(el i j).nr 2=true)
  (cell:∀ i j,i<n->j<sz->∃ b o,A=some ⟨b,o,none⟩/\¬bs b/\b<w.heap.size/\w.cell? ⟨b,o+(i*sz+j),none⟩=some (f i j))
  (k:∀ i j,i<n->j<sz->iR bs br w (el i j) (f i j)):iR bs br w (.sl nl n sz el) (.slice A n c)
 |jC (m:Nat) (el:Nat->E) (b o:Nat) (f:Nat->Value) (hb:¬br b) (iO:b<w.heap.size) (hl:∀ j,j<m->(f j).oneCell'=true)
  (cell:∀ j,j<m->w.cell? ⟨b,o+j,none⟩=some (f j))
  (k:∀ j,j<m->iR bs br w (el j) (f j)):iR bs br w (.jC m el) (.pointer (some ⟨b,o,none⟩))
 |fn (f:FuncId) (l:List E) (vs:List Value) (h:vs.length=l.length) (k:∀ (i:Nat) (p:E) (x:Value),l[i]? = some p->vs[i]? = some x->iR bs br w p x):iR bs br w (.fn f l) (.func (.func f) #[] vs.toArray)
 |mp (l:List (Int×FuncId×List FuncId)) (b clk:Nat) (es:Array MapEntry) (hb:¬bs b) (iO:b<w.heap.size) (hh:w.heap[b]? = some (.map es clk)) (ho:AS bs w l es.toList):iR bs br w (.mp l) (.map (some b))
def iR.mono{bs br bs' br':Nat->Prop}{w w':World}(lT:w.heap.size<=w'.heap.size)
 (h1:∀ b,b<w.heap.size->bs' b->bs b) (h2:∀ b,b<w.heap.size->br' b->br b)
 (hc:∀ b,b<w.heap.size->(¬bs b\/¬br b)->w'.heap[b]? = w.heap[b]?)
 {e:E} {v:Value} (h:iR bs br w e v):iR bs' br' w' e v:=by
 induction h with
 |any x=>exact .any x
 |v x=>exact .v x
 |agg l vs h k ih=>exact .agg l vs h ih
 |iB l vs h k ih=>exact .iB l vs h ih
 |sl nl n sz el A c f hn hm h0 hl hr cell k ih=>
  refine .sl nl n sz el A c f hn hm h0 hl hr (λi j hi hj=>?_) ih;obtain⟨b,o,e,hb,iO,mf⟩:=cell i j hi hj;exact⟨b,o,e,λhx=>hb (h1 b iO hx),bT iO lT,by rw[World.cell?_of_block (w:=w) (hc b iO (.inl hb))];exact mf⟩
 |jC m el b o f hb iO hl cell k ih=>
  exact .jC m el b o f (λhx=>hb (h2 b iO hx)) (bT iO lT) hl (λj hj=>by rw[World.cell?_of_block (w:=w) (hc b iO (.inr hb))];exact cell j hj) ih
 |fn f l vs h k ih=>exact .fn f l vs h ih
 |mp l b clk es hb iO hh ho=>exact .mp l b clk es (λx=>hb (h1 b iO x)) (bT iO lT) (by rw[hc b iO (.inl hb)];exact hh) (ho.mono lT h1 λb iO hb=>hc b iO (.inl hb))
def iR.ql{bs br bs' br':Nat->Prop}{w:World}(h1:∀ b,bs' b->bs b)(h2:∀ b,br' b->br b){e:E}{v:Value}(h:iR bs br w e v):iR bs' br' w e v:=
 h.mono (bp _) (λb _=>h1 b) (λb _=>h2 b) (λ_ _ _=>rfl)
def E.plain:Nat->E->Bool
 |_,.any=>true
 |_,.v _=>true
 |d+1,.agg l=>l.all (E.plain d)
 |d+1,.iB l=>l.all (E.plain d)
 |_,_=>false
def iR.plain{bs br bs' br':Nat->Prop}{w w':World}{e:E}{v:Value}(h:iR bs br w e v):∀ d,e.plain d=true->iR bs' br' w' e v:=by
 induction h with
 |any x=>exact λ_ _=>.any x
 |v x=>exact λ_ _=>.v x
 |agg l vs h k ih=>
  intro d hd;cases d with
  |zero=>simp[E.plain]at hd
  |succ d=>
   simp only[E.plain,ct]at hd;exact .agg l vs h λi p x hp hx=>ih i p x hp hx d (hd p (fD hp))
 |iB l vs h k ih=>
  intro d hd;cases d with
  |zero=>simp[E.plain]at hd
  |succ d=>
   simp only[E.plain,ct]at hd;exact .iB l vs h λi p x hp hx=>ih i p x hp hx d (hd p (fD hp))
 |sl=>intro d hd;cases d<;>simp[E.plain]at hd
 |jC=>intro d hd;cases d<;>simp[E.plain]at hd
 |fn=>intro d hd;cases d<;>simp[E.plain]at hd
 |mp=>intro d hd;cases d<;>simp[E.plain]at hd
def iR.nr{bs br br':Nat->Prop}{w:World}{e:E}{v:Value}(h:iR bs br w e v):∀ d,e.nr d=true->iR bs br' w e v:=by
 induction h with
 |any x=>exact λ_ _=>.any x
 |v x=>exact λ_ _=>.v x
 |agg l vs h k ih=>
  intro d hd;cases d with
  |zero=>simp[E.nr]at hd
  |succ d=>
   simp only[E.nr,ct]at hd;exact .agg l vs h λi p x hp hx=>ih i p x hp hx d (hd p (fD hp))
 |iB l vs h k ih=>
  intro d hd;cases d with
  |zero=>simp[E.nr]at hd
  |succ d=>
   simp only[E.nr,ct]at hd;exact .iB l vs h λi p x hp hx=>ih i p x hp hx d (hd p (fD hp))
 |fn f l vs h k ih=>
  intro d hd;cases d with
  |zero=>simp[E.nr]at hd
  |succ d=>
   simp only[E.nr,ct]at hd;exact .fn f l vs h λi p x hp hx=>ih i p x hp hx d (hd p (fD hp))
 |jC=>intro d hd;cases d<;>simp[E.nr]at hd
 |mp l b clk es hb iO hh ho=>exact λ_ _=>.mp l b clk es hb iO hh ho
 |sl nl n sz el A c f hn hm h0 hl hr cell k ih=>
  exact λ_ _=>.sl nl n sz el A c f hn hm h0 hl hr cell λi j hi hj=>ih i j hi hj 2 (hr i j hi hj)
def E.one:E->Bool
 | .v x=>x.oneCell'
 | .sl ..=>true
 | .jC ..=>true
 | .fn ..=>true
 |_=>false
def E.nW:E->Bool
 | .v x=>!tG x
 | .sl ..=>true
 | .jC ..=>true
 | .fn ..=>true
 |_=>false
def iR.one{bs br:Nat->Prop}{w:World}{e:E}{v:Value}(h:iR bs br w e v)(h1:e.one=true):v.oneCell'=true:=by
 cases h<;>first|exact h1|rfl|(simp[E.one]at h1)
def iR.nW{bs br:Nat->Prop}{w:World}{e:E}{v:Value}(h:iR bs br w e v)(h1:e.nW=true):tG v=false:=by
 cases h with
 |v=>unfold E.nW at h1;cases hb:tG v<;>simp_all
 |any=>cases h1
 |agg=>cases h1
 |iB=>cases h1
 |sl=>rfl
 |jC=>rfl
 |fn=>rfl
 |mp=>cases h1
structure kB(bs br:Nat->Prop)(w:World)(l:List E)(vs:List Value):Prop where
 len:vs.length=l.length
 lG:∀ (i:Nat) (p:E) (x:Value),l[i]? = some p->vs[i]? = some x->iR bs br w p x
def kB.nil(bs br:Nat->Prop)(w:World):kB bs br w [] []:=⟨rfl,λi p x h=>by simp at h⟩
def kB.cons{bs br:Nat->Prop}{w:World}{p:E}{x:Value}{l:List E}{vs:List Value}(h:iR bs br w p x)(k:kB bs br w l vs):kB bs br w (p::l) (x::vs):=
 ⟨by simp[k.len],λi q y hq hy=>by
  cases i with
  |zero=>simp at hq hy;subst hq hy;exact h
  |succ i=>simp at hq hy;exact k.lG i q y hq hy⟩
def kB.head{bs br:Nat->Prop}{w:World}{p:E}{x:Value}{l:List E}{vs:List Value}(h:kB bs br w (p::l) (x::vs)):iR bs br w p x:=h.lG 0 p x rfl rfl
def kB.tail{bs br:Nat->Prop}{w:World}{p:E}{x:Value}{l:List E}{vs:List Value}(h:kB bs br w (p::l) (x::vs)):kB bs br w l vs:=
 ⟨by have:=h.len;simpa using this,λi q y hq hy=>h.lG (i+1) q y (by simpa using hq) (by simpa using hy)⟩
def kB.my{bs br:Nat->Prop}{w:World}{p:E}{l:List E}{vs:List Value}(h:kB bs br w (p::l) vs):∃ x ys,vs=x::ys/\iR bs br w p x/\kB bs br w l ys:=by
 cases vs with
 |nil=>have:=h.len;simp at this
 |cons x ys=>exact⟨x,ys,rfl,h.head,h.tail⟩
def kB.pH{bs br:Nat->Prop}{w:World}{vs:List Value}(h:kB bs br w [] vs):vs=[]:=dN h.len
def kB.mono{bs br bs' br':Nat->Prop}{w w':World}{l:List E}{vs:List Value}(h:kB bs br w l vs)(k:∀ e v,iR bs br w e v->iR bs' br' w' e v):kB bs' br' w' l vs:=
 ⟨h.len,λi p x hp hx=>k _ _ (h.lG i p x hp hx)⟩
def kB.take{bs br:Nat->Prop}{w:World}{l:List E}{vs:List Value}(h:kB bs br w l vs)(n:Nat):kB bs br w (l.take n) (vs.take n):=
 ⟨by simp[h.len],λi p x hp hx=>by
  rw[ff]at hp hx;split at hp
  .rename_i hi;rw[bn hi]at hx;exact h.lG i p x hp hx
  .cases hp⟩
def kB.drop{bs br:Nat->Prop}{w:World}{l:List E}{vs:List Value}(h:kB bs br w l vs)(n:Nat):kB bs br w (l.drop n) (vs.drop n):=
 ⟨by simp[h.len],λi p x hp hx=>by
  rw[fg]at hp hx;exact h.lG _ p x hp hx⟩
def kB.app{bs br:Nat->Prop}{w:World}{l m:List E}{vs us:List Value}(h:kB bs br w l vs)(k:kB bs br w m us):kB bs br w (l++m) (vs++us):=
 ⟨by simp[h.len,k.len],λi p x hp hx=>by
  rw[fZ]at hp hx;rw[h.len]at hx;split at hp
  .rename_i hi;rw[bn hi]at hx;exact h.lG i p x hp hx
  .rename_i hi;rw[bl hi]at hx;exact k.lG _ p x hp hx⟩
def kB.abP(bs br:Nat->Prop)(w:World)(vs:List Value):kB bs br w (vs.map .v) vs:=
 ⟨aJ,λi p x hp hx=>by
  rw[cY,hx]at hp;simp at hp;subst hp;exact .v x⟩
def iR.Cj{bs br:Nat->Prop}{w:World}{l:List E}{v:Value}(h:iR bs br w (.agg l) v):∃ vs:List Value,v = .agg vs.toArray/\kB bs br w l vs:=by
 cases h with
 |agg _ vs h k=>exact⟨vs,rfl,h,k⟩
def iR.Zu{bs br:Nat->Prop}{w:World}{l:List E}{v:Value}(h:iR bs br w (.iB l) v):∃ vs:List Value,v = .tuple vs.toArray/\kB bs br w l vs:=by
 cases h with
 |iB _ vs h k=>exact⟨vs,rfl,h,k⟩
def iR.kN{bs br:Nat->Prop}{w:World}{x v:Value}(h:iR bs br w (.v x) v):v=x:=by cases h;rfl
def iR.Tc{bs br:Nat->Prop}{w:World}{f:FuncId}{l:List E}{v:Value}(h:iR bs br w (.fn f l) v):∃ vs:List Value,v = .func (.func f) #[] vs.toArray/\kB bs br w l vs:=by
 cases h with
 |fn _ _ vs h k=>exact⟨vs,rfl,h,k⟩
def kB.agg{bs br:Nat->Prop}{w:World}{l:List E}{vs:List Value}(h:kB bs br w l vs):iR bs br w (.agg l) (.agg vs.toArray):=.agg l vs h.len h.lG
def kB.iB{bs br:Nat->Prop}{w:World}{l:List E}{vs:List Value}(h:kB bs br w l vs):iR bs br w (.iB l) (.tuple vs.toArray):=.iB l vs h.len h.lG
def E.cells?:E->Option (List E)
 | .agg l=>if l.all E.one then some l else none
 | .v (.agg cs)=>if cs.toList.all Value.oneCell' then some (cs.toList.map .v)else none
 | .v x=>if x.oneCell' then some [.v x]else none
 | .sl nl n sz el=>some [.sl nl n sz el]
 | .jC m el=>some [.jC m el]
 | .fn f c=>some [.fn f c]
 |_=>none
def iR.cells{bs br:Nat->Prop}{w:World}{e:E}{v:Value}(h:iR bs br w e v){l:List E}(hl:e.cells? = some l):
 kB bs br w l v.cells.toList/\∀ u ∈ v.cells.toList,u.oneCell'=true:=by
 have single:∀ {e:E} {v:Value},iR bs br w e v->v.oneCell'=true->v.cells = #[v]->kB bs br w [e] v.cells.toList/\∀ u ∈ v.cells.toList,u.oneCell'=true:=by
  intro e v h h1 hc;rw[hc];exact⟨.cons h (.nil _ _ _),by simpa using h1⟩
 cases h with
 |any x=>simp[E.cells?]at hl
 |v=>
  by_cases ha:∃ cs,v = .agg cs
  .obtain ⟨cs,rfl⟩:=ha;simp only[E.cells?]at hl;split at hl
   .rename_i h1;cases hl;exact⟨kB.abP _ _ _ _,λu hu=>ct.1 h1 u hu⟩
   .cases hl
  .have hx:(E.v v).cells? = if v.oneCell' then some [.v v]else none:=by
    cases v<;>first|rfl|exact absurd ⟨_,rfl⟩ ha
   rw[hx]at hl;split at hl
   .rename_i h1;cases hl;exact single (.v v) h1 (by cases v<;>first|rfl|exact absurd ⟨_,rfl⟩ ha)
   .cases hl
 |agg l vs h k=>
  simp only[E.cells?]at hl;split at hl
  .rename_i h1;cases hl;refine⟨⟨h,k⟩,?_⟩;intro u hu;obtain⟨i,hi⟩:=dO.1 hu;have EB:i<l.length:=by
    obtain⟨hi,_⟩:=cC.1 hi;simp[Value.cells]at hi;omega
   exact(k i _ u (bD EB) (by simpa[Value.cells]using hi)).one (ct.1 h1 _ (cO EB))
  .cases hl
 |iB=>simp[E.cells?]at hl
 |mp=>simp[E.cells?]at hl
 |sl nl n sz el A c f hc hm h0 pz hr cell k=>simp only[E.cells?]at hl;cases hl;exact single (.sl nl n sz el A c f hc hm h0 pz hr cell k) rfl rfl
 |jC m el b o f hb iO pz cell k=>simp only[E.cells?]at hl;cases hl;exact single (.jC m el b o f hb iO pz cell k) rfl rfl
 |fn f l' vs h k=>simp only[E.cells?]at hl;cases hl;exact single (.fn f l' vs h k) rfl rfl
structure TI where
 id:TypeId
 d:TypeDesc
 i:TypeInfo
def mI(P:Program)(T:List TI):Prop:=∀ x,x ∈ T->P.underlying x.id=some x.d/\P.info? x.id=some x.i
def mH:List TI->TypeId->Option TI
 | [],_=>none
 |x::l,t=>if Nat.beq x.id t then some x else mH l t
def wu(T:List TI)(t:TypeId):Option TypeDesc:=match mH T t with
 |some x=>some x.d
 |none=>none
def TI.isAgg(x:TI):Bool:=match x.d with
 | .struct _ | .array _ _=>true
 |_=>false
inductive CV where
 |e (x:E)
 |box (id:Nat)
inductive PV where
 |e (x:E)
 |box (id off:Nat)
 |own (id:Nat)
 |pT (id sz i j:Nat)
 |jI (id k:Nat)
 |rU (f:FuncId) (cap:List CV)
def CV.qB:CV->List Nat
 | .e _=>[]
 | .box id=>[id]
def PV.qB:PV->List Nat
 | .e _=>[]
 | .box id _ | .own id | .pT id _ _ _ | .jI id _=>[id]
 | .rU _ cap=>cap.flatMap CV.qB
inductive Bx where
 |cells (T:TypeId) (l:List E)
 |row (nl:Bool) (T:TypeId) (n sz:Nat) (el:Nat->Nat->E)
 |jm (nl:Bool) (T1 T0:TypeId) (n sz:Nat) (len:Nat->Nat) (el:Nat->Nat->Nat->E) (pend:Option Nat)
def Bx.nl:Bx->Bool
 | .cells _ l=>l.all E.nW
 | .row nl ..=>nl
 | .jm nl ..=>nl
structure PS where
 n:Nat
 nl:Bool
 t:List (Nat×PV)
 b:List (Nat×Bx)
def look{α:Type}:List (Nat×α)->Nat->Option α
 | [],_=>none
 | (k,x)::l,t=>if Nat.beq k t then some x else look l t
def PS.get(σ:PS)(t:Nat):PV:=(look σ.t t).getD (.e .any)
def PS.bo(σ:PS)(id:Nat):Option Bx:=look σ.b id
def PS.op(σ:PS):Operand->PV
 | .tmp t=>σ.get t
 | .const v=>.e (.v v)
 | .global g=>.e (.v (.pointer (some ⟨g,0,none⟩)))
 | .func f=>.e (.fn f [])
inductive rm where
 |none
 |new (id:Nat) (b:Bx)
 |uJ (id:Nat) (b:Bx)
 |rA (id:Nat) (b:Bx)
 |wC (id:Nat) (b:Bx)
 |fin (id:Nat)
structure kW where
 r:PV
 f:rm:=.none
 rb:List Nat:=[]
 ki:List Prop:=[]
 rd:List PV:=[]
def PV.po:rm->PV->PV
 | .rA id _,.own i=>if Nat.beq i id then .e .any else .own i
 | .rA id _,.pT i s x j=>if Nat.beq i id then .e .any else .pT i s x j
 | .wC id _,.jI i k=>if Nat.beq i id then .e .any else .jI i k
 | .fin id,p=>if p.qB.any (Nat.beq id)then .e .any else p
 |_,p=>p
def Dt(l:List (Nat×Bx))(id:Nat)(b:Bx):List (Nat×Bx):=(id,b)::l.filter λx=>!Nat.beq x.1 id
def rm.KO:rm->List (Nat×Bx)->List (Nat×Bx)
 | .none,l=>l
 | .new id b,l | .uJ id b,l | .rA id b,l | .wC id b,l=>Dt l id b
 | .fin id,l=>l.filter λx=>!Nat.beq x.1 id
def rm.Kp:rm->Bool
 | .rA .. | .wC .. | .fin ..=>true
 |_=>false
def PS.qG(σ:PS)(f:rm):PS:={ σ with t:=if f.Kp then σ.t.map λx=>(x.1,x.2.po f)else σ.t,b:=f.KO σ.b }
def PS.put(σ:PS)(d:Option Tmp)(p:PV):PS:=match d with
 |some d=>{ σ with t:=(d,p)::σ.t.filter λx=>!Nat.beq x.1 d }
 |none=>σ
def nA:IntKind->Int->Prop
 | .i8,z=>-128<=z/\z<=127
 | .i16,z=>-32768<=z/\z<=32767
 | .i32,z=>-2147483648<=z/\z<=2147483647
 | .i64,z=>-9223372036854775808<=z/\z<=9223372036854775807
 | .u8,z=>0<=z/\z<=255
 | .u16,z=>0<=z/\z<=65535
 | .u32,z=>0<=z/\z<=4294967295
 | .u64,z=>0<=z/\z<=18446744073709551615
def Yz(op:BinOp)(k k':IntKind):Bool:=match op with
 | .shl=>true
 | .shr=>true
 |_=>decide (k=k')
def KF(k:IntKind)(x y:Int):Int:=match k with
 | .u32=>IntKind.u32.wrap (x+y)
 |_=>x+y
def Qg(k:IntKind)(x y:Int):List Prop:=match k with
 | .u32=>[]
 |_=>[nA k (x+y)]
def LA(op:BinOp)(k:IntKind)(x:Int)(y:Int):Option (Value×List Prop):=match op with
 | .add=>some (.int k (KF k x y),Qg k x y)
 | .sub=>some (.int k (x-y),[nA k (x-y)])
 | .mul=>some (.int k (x*y),[nA k (x*y)])
 | .quo=>some (.int k (x.tdiv y),[0<y,nA k x])
 | .rem=>some (.int k (x.tmod y),[0<y])
 | .and=>some (.int k (bits .and k x y),[])
 | .or=>some (.int k (bits .or k x y),[])
 | .shl=>some (.int k (k.wrap (x*2^y.toNat)),[0<=y/\y<=k.bits])
 | .shr=>some (.int k (x/2^y.toNat),[0<=y/\y<=k.bits])
 | .eql=>some (.bool (x==y),[])
 | .neq=>some (.bool (x != y),[])
 | .lss=>some (.bool (decide (x<y)),[])
 | .leq=>some (.bool (decide (x<=y)),[])
 | .gtr=>some (.bool (decide (y<x)),[])
 | .geq=>some (.bool (decide (y<=x)),[])
 |_=>none
def PS.read(σ:PS)(p:PV)(m:Nat):Option (List E×List Nat×List Prop):=match p with
 | .box id off=>match σ.bo id with
  |some (.cells _ l)=>if Nat.ble (off+m) l.length then some ((l.drop off).take m,[id],[])else none
  |_=>none
 | .pT id sz i j=>match σ.bo id with
  |some (.row _ _ n s el)=>if Nat.beq s sz&&Nat.ble (j+m) sz then some ((List.range m).map λq=>el i (j+q),[id],[i<n])else none
  |_=>none
 | .e (.jC k el)=>if Nat.ble m k then some ((List.range m).map el,[],[])else none
 |_=>none
def CV.ext(σ:PS):CV->Option (E×List Nat)
 | .e x=>some (x,[])
 | .box id=>match σ.bo id with
  |some (.cells _ l)=>some (.jC l.length λj=>l.getD j .any,[id])
  |_=>none
def xx(σ:PS):List CV->Option (List E×List Nat)
 | []=>some ([],[])
 |c::l=>match c.ext σ,xx σ l with
  |some (x,i),some (xs,is)=>some (x::xs,i++is)
  |_,_=>none
def PV.BF:PV->Bool
 | .own _=>true
 |_=>false
def PV.ext(σ:PS):PV->Option (E×List Nat)
 | .e x=>some (x,[])
 | .own id=>match σ.bo id with
  |some (.row nl _ n sz el)=>some (.sl nl n sz el,[id])
  |_=>none
 | .box id 0=>match σ.bo id with
  |some (.cells _ l)=>some (.jC l.length λj=>l.getD j .any,[id])
  |_=>none
 | .rU f cap=>match xx σ cap with
  |some (xs,is)=>some (.fn f xs,is)
  |none=>none
 |_=>none
def uR(σ:PS):List Operand->Option (List E×List Nat)
 | []=>some ([],[])
 |o::l=>match(σ.op o).ext σ,uR σ l with
  |some (x,i),some (xs,is)=>some (x::xs,i++is)
  |_,_=>none
def yy:List PV->Option (List CV)
 | []=>some []
 | .e x::l=>(yy l).map (.e x :: ·)
 | .box id 0::l=>(yy l).map (.box id :: ·)
 |_::_=>none
def oK(w:World)(b:Nat):Prop:=∀ o x,w.cell? ⟨b,o,none⟩≠some (.int .u32 x)
structure PC(P:Program)(K:World->Prop)(f:FuncId)(args:List E)(kj:E):Prop where
 call:∀ (vs:Array Value) (w:World),(callFunc f vs).run P w = .ok (.enter f vs) w
 run:∀ (w:World) (B:Nat->Prop) (vs:List Value),K w->(∀ b,B b->b<w.heap.size/\oK w b)->kB B (λ_=>False) w args vs ->
  Calls P f vs.toArray w (λe w'=>∃ v,e = .returned v/\Below w.heap.size w w'/\iR B (λ_=>True) w' kj v)
structure AT(P:Program)(K:World->Prop)(f:FuncId)(args:List E)(kj:E):Prop where
 call:∀ (vs:Array Value) (w:World),(callFunc f vs).run P w = .ok (.enter f vs) w
 run:∀ (w:World) (B:Nat->Prop) (vs:List Value),K w->(∀ b,B b->b<w.heap.size)->kB B (λ_=>False) w args vs ->
  Calls P f vs.toArray w (λe w'=>∃ v,e = .returned v/\Below w.heap.size w w'/\iR B (λ_=>True) w' kj v)
def AT.pc{P:Program}{K:World->Prop}{f:FuncId}{args:List E}{kj:E}(h:AT P K f args kj):PC P K f args kj:=
 ⟨h.call,λw B vs hK hB hr=>h.run w B vs hK (λb hb=>(hB b hb).1) hr⟩
def qo(w:World)(v:Value)(T:TypeId)(n sz:Nat)(f:Nat->Nat->Value)(nl:Bool):Prop:=
 (v = .slice none 0 0/\n=0) \/
 ∃ (b c:Nat) (cur:Array Value),v = .slice (some ⟨b,0,none⟩) n c/\w.heap[b]? = some (.cells cur T (0,0))/\n<=c/\c<=maxLen/\cur.size=c*sz /\
  (∀ i j,i<n->j<sz->cur[i*sz+j]? = some (f i j)/\(f i j).oneCell'=true)/\(nl=true->∀ u,u ∈ cur->tG u=false)
structure uO(P:Program)(K:World->Prop)(f:FuncId)(args:List E)(nl:Bool)(T:TypeId)(n sz:Nat)(el:Nat->Nat->E):Prop where
 call:∀ (vs:Array Value) (w:World),(callFunc f vs).run P w = .ok (.enter f vs) w
 run:∀ (w:World) (B:Nat->Prop) (vs:List Value),K w->(∀ b,B b->b<w.heap.size/\oK w b)->kB B (λ_=>False) w args vs ->
  Calls P f vs.toArray w (λe w'=>∃ v,e = .returned v/\Below w.heap.size w w'/\∃ g,qo w' v T n sz g nl/\(∀ x,v.ownBlock=some x->w.heap.size<=x/\x<w'.heap.size) /\
   ∀ i j,i<n->j<sz->iR (λb=>B b\/v.ownBlock=some b) (λ_=>True) w' (el i j) (g i j)/\(el i j).nr 2=true)
structure pY where
 cl:List (Nat×E):=[]
 ov:List (Nat×PV):=[]
 nw:List (Nat×Bx):=[]
def FR(T:List TI):List Field->Option (List (Nat×Nat))
 | []=>some []
 |f::fs=>match mH T f.type,FR T fs with
  |some ti,some l=>some ((f.offset,ti.i.size)::l)
  |_,_=>none
def Av(l:List E)(off:Nat)(m:List E):List E:=l.take off++m++l.drop (off+m.length)
def rX(σ:PS)(place:Nat->Option (Nat×Nat)):List E->List (Nat×Operand)->Option (List E)
 |l,[]=>some l
 |l,(i,x)::ps=>match place i,σ.op x with
  |some (off,size),.e e=>match e.cells? with
   |some m=>if Nat.beq m.length size&&Nat.ble (off+m.length) l.length then rX σ place (Av l off m) ps else none
   |none=>none
  |_,_=>none
def zC(ti:TI):Option (List E):=match ti.i.zero with
 |some z=>(E.v z).cells?
 |none=>none
def lG{α:Type}:Nat->List α->List α
 | 0,_=>[]
 |n+1,l=>l++lG n l
def pq(P:Program)(op:BinOp)(t:TypeId)(x y:E)(v:Value):Prop:=∀ (bs br:Nat->Prop) (w:World) (a b:Value) (ox oy:Operand),iR bs br w x a->iR bs br w y b->(eqGuard op t ox oy a b).run P w = .ok () w/\(binOp op t a b).run P w = .ok v w
def aea(O:pY)(d:Option Tmp):Option Value:=match d with
 |some d=>match look O.cl d with
  |some (.v v)=>some v
  |_=>none
 |none=>none
def zP(P:Program)(K:World->Prop)(O:pY)(σ:PS)(d:Option Tmp)(f:FuncId)(xs:List E)(is:List Nat)(ow:Bool):Option kW:=
 match(match d with
  |some d=>look O.cl d
  |none=>some .any)with
 |some kj=>if kj.plain 3||(σ.nl && !ow)then some { r:=.e kj,rb:=is,ki:=[PC P K f xs kj] }else if !ow then some { r:=.e kj,rb:=is,ki:=[AT P K f xs kj] }else none
 |none=>match d with
  |some d=>match look O.nw d,σ.bo d with
   |some (.row nl T n sz el),none=>if(σ.nl&&nl) && !ow then some { r:=.own d,f:=.new d (.row nl T n sz el),rb:=is,ki:=[uO P K f xs nl T n sz el] }else none
   |_,_=>none
  |none=>none
def wZ(σ:PS)(d:Option Tmp)(b:Bx)(r:Nat->PV)(ki:List Prop):Option kW:=match d with
 |some d=>match σ.bo d with
  |none=>if !σ.nl||b.nl then some { r:=r d,f:=.new d b,ki:=ki }else none
  |some _=>none
 |none=>none
def zO(T:List TI)(σ:PS)(d:Option Tmp)(t:TypeId)(s x:PV):Option kW:=match x with
 | .e (.sl nl2 m sz2 el2)=>match mH T t with
  |some tt=>match tt.d with
   | .slice e=>match mH T e with
    |some te=>match zC te with
     |some z=>if Nat.beq te.i.size sz2&&Nat.ble 1 sz2&&Nat.ble 1 te.i.bytes&&Nat.beq z.length sz2 then match s with
      | .own id=>match σ.bo id with
       |some (.row nl T1 n sz el)=>if Nat.beq T1 e&&Nat.beq sz sz2&&(!σ.nl||(nl&&(nl2&&z.all E.nW)))then
        some { r:=.own id,f:=.rA id (.row (nl&&(nl2&&z.all E.nW)) T1 (n+m) sz λi j=>if i<n then el i j else el2 (i-n) j),rb:=[id],ki:=[(n+m)*te.i.bytes<=140737488355328] }
        else none
       |_=>none
      | .jI id k=>match σ.bo id with
       |some (.jm nl T1 T0 n sz len el none)=>if Nat.beq T0 e&&Nat.beq sz sz2&&(!nl||(nl2&&z.all E.nW))then
        some { r:=.jI id k,f:=.wC id (.jm nl T1 T0 n sz (λq=>if q=k then len q+m else len q) (λq i j=>if q=k then(if i<len q then el q i j else el2 (i-len q) j)else el q i j) (some k)),rb:=[id],ki:=[k<n,(len k+m)*te.i.bytes<=140737488355328] }
        else none
       |_=>none
      | .e (.v (.slice none 0 0))=>wZ σ d (.row (nl2&&z.all E.nW) e m sz2 el2) .own [m*te.i.bytes<=140737488355328]
      |_=>none
     else none
     |none=>none
    |none=>none
   |_=>none
  |none=>none
 |_=>none
def Bc(T:List TI)(σ:PS)(d:Option Tmp)(t:TypeId)(s x:PV):Option kW:=match zO T { σ with nl:=false } d t s x with
 |some u=>match u.f,u.r with
  | .rA id (.row nl _ n sz el),.own id'=>if Nat.beq id' id then some { r:=.e (.sl nl n sz el),f:=.fin id,rb:=u.rb,ki:=True::u.ki }else none
  |_,_=>none
 |none=>none
def SU(T:List TI)(t:TypeId)(l c:PV):Option (Bx×List Prop):=match l,c with
 | .e (.v (.int _ l)),.e (.v (.int _ c))=>match mH T t with
  |some tt=>match tt.d with
   | .slice e=>match mH T e with
    |some te=>match zC te with
     |some z=>if Nat.beq te.i.size z.length&&Nat.ble 1 te.i.size then
      let ki:=[0<=l/\l<=c,(te.i.bytes:Int)*c<=281474976710656/\c<=9223372036854775807]
      match te.d with
      | .slice e0=>match mH T e0,z with
       |some t0,[.v (.slice none 0 0)]=>some (.jm true e e0 l.toNat t0.i.size (λ_=>0) (λ_ _ _=>.any) none,ki)
       |_,_=>none
      |_=>some (.row (z.all E.nW) e l.toNat te.i.size (λ_ j=>z.getD j .any),ki)
      else none
     |none=>none
    |none=>none
   |_=>none
  |none=>none
 |_,_=>none
def Hp(T:List TI)(σ:PS)(d:Option Tmp)(t:TypeId)(l c:PV):Option kW:=match SU T t l c with
 |some (b,ki)=>wZ σ d b .own ki
 |none=>none
def Hq(T:List TI)(t:TypeId)(x:PV)(lo hi:Option PV):Option kW:=match x with
 | .e (.sl nl n sz el)=>match mH T t with
  |some tt=>match tt.d with
   | .slice e=>match mH T e with
    |some te=>if Nat.beq te.i.size sz then match lo,hi with
     |none,some (.e (.v (.int _ h)))=>some { r:=.e (.sl nl h.toNat sz el),ki:=[0<=h/\h<=n] }
     |some (.e (.v (.int _ l))),none=>some { r:=.e (.sl nl (n-l.toNat) sz λi j=>el (l.toNat+i) j),ki:=[0<=l/\l<=n] }
     |some (.e (.v (.int _ l))),some (.e (.v (.int _ h)))=>some { r:=.e (.sl nl (h.toNat-l.toNat) sz λi j=>el (l.toNat+i) j),ki:=[0<=l/\l<=h/\h<=n] }
     |_,_=>none
     else none
    |none=>none
   |_=>none
  |none=>none
 |_=>none
def Hn(T:List TI)(σ:PS)(t:TypeId)(x i:PV):Option kW:=match i with
 | .e (.v (.int _ z))=>match mH T t with
  |some tt=>match tt.d with
   | .slice e=>match mH T e with
    |some te=>match x with
     | .e (.sl _ n sz el)=>if Nat.beq te.i.size sz&&Nat.ble 1 sz then some { r:=.e (.jC sz (el z.toNat)),ki:=[0<=z/\z<n] }else none
     | .own id=>match σ.bo id with
      |some (.row _ _ n sz _)=>if Nat.beq te.i.size sz then some { r:=.pT id sz z.toNat 0,rb:=[id],ki:=[0<=z/\z<n] }else none
      |some (.jm _ _ _ n _ _ _ _)=>if Nat.beq te.i.size 1 then some { r:=.pT id 1 z.toNat 0,rb:=[id],ki:=[0<=z/\z<n] }else none
      |_=>none
     |_=>none
    |none=>none
   | .array n e=>match mH T e with
    |some te=>match x with
     | .box id off=>some { r:=.box id (off+z.toNat*te.i.size),ki:=[0<=z/\z<n] }
     | .e (.jC m el)=>if Nat.beq (n*te.i.size) m then some { r:=.e (.jC te.i.size λj=>el (z.toNat*te.i.size+j)),ki:=[0<=z/\z<n] }else none
     |_=>none
    |none=>none
   |_=>none
  |none=>none
 |_=>none
def Hr(T:List TI)(σ:PS)(t:TypeId)(a x:PV):Option kW:=match mH T t with
 |some ti=>match a,x with
  | .box id off,.e e=>match σ.bo id,e.cells? with
   |some (.cells T1 l),some m=>if Nat.beq m.length ti.i.size&&Nat.ble (off+m.length) l.length&&(!σ.nl||m.all E.nW)then
    some { r:=.e .any,f:=.uJ id (.cells T1 (Av l off m)),rb:=[id] }else none
   |_,_=>none
  | .pT id sz i j,.e e=>match σ.bo id,e.cells? with
   |some (.row nl T1 n s el),some m=>if Nat.beq m.length ti.i.size&&Nat.beq s sz&&Nat.ble (j+m.length) sz&&(!nl||m.all E.nW)&&m.all (E.nr 2)then
    some { r:=.e .any,f:=.uJ id (.row nl T1 n s λi' j'=>if i'=i/\j<=j'/\j'<j+m.length then m.getD (j'-j) .any else el i' j'),rb:=[id],ki:=[i<n] }else none
   |_,_=>none
  | .pT id 1 i 0,.jI id' k=>match σ.bo id with
   |some (.jm nl T1 T0 n sz len el (some k'))=>if Nat.beq id id'&&Nat.beq ti.i.size 1 then
    some { r:=.e .any,f:=.uJ id (.jm nl T1 T0 n sz len el none),rb:=[id],ki:=[i=k',k=k',k'<n] }else none
   |_=>none
  |_,_=>none
 |none=>none
def vd:PV->PS->Option (Value×List Nat)
 | .e (.sl _ n _ _),_=>some (.int .i64 (n:Int),[])
 | .e (.v (.slice _ n _)),_=>some (.int .i64 (n:Int),[])
 | .own id,σ=>match σ.bo id with
  |some (.row _ _ n _ _)=>some (.int .i64 (n:Int),[id])
  |some (.jm _ _ _ n _ _ _ _)=>some (.int .i64 (n:Int),[id])
  |_=>none
 |_,_=>none
def Fl(ti:TI):Option (List E×List Nat×List Prop)->Option kW
 |some (l,is,ki)=>if ti.isAgg then some { r:=.e (.agg l),rb:=is,ki:=ki }else match l with
  | [e]=>some { r:=.e e,rb:=is,ki:=ki }
  |_=>none
 |none=>none
def BX(σ:PS):PV->Option (Nat×Nat×Nat)
 | .pT id sz i j=>match σ.bo id with
  |some (.jm _ _ _ n _ _ _ none)=>if Nat.beq sz 1&&Nat.beq j 0 then some (id,i,n)else none
  |_=>none
 |_=>none
def Ho(T:List TI)(σ:PS)(t:TypeId)(p:PV):Option kW:=match mH T t with
 |some ti=>match BX σ p with
  |some (id,i,n)=>if ti.isAgg then none else some { r:=.jI id i,rb:=[id],ki:=[i<n] }
  |none=>Fl ti (σ.read p ti.i.size)
 |none=>none
def GD(O:pY):Option Tmp->Bool
 |some d=>(look O.nw d).isSome
 |none=>false
def xT:List (Int×FuncId×List FuncId)->Int->Option E
 | [],_=>none
 |x::l,z=>if x.1=z then some (.fn x.2.1 (x.2.2.map λg=>.jC 1 λ_=>.fn g []))else xT l z
def ad9(O:pY):Option Tmp->Option E
 |some d=>look O.cl d
 |none=>none
def jQ(P:Program)(K:World->Prop)(T:List TI)(O:pY)(σ:PS)(o:Oper):Option kW:=match o.op with
 | .move x=>some { r:=σ.op x }
 | .assign x=>some { r:=σ.op x }
 | .pick c a b=>match σ.op c with
  | .e (.v (.bool true))=>some { r:=σ.op a }
  | .e (.v (.bool false))=>some { r:=σ.op b }
  |_=>none
 | .alloc t=>match mH T t with
  |some ti=>match zC ti with
   |some z=>wZ σ o.dst (.cells t z) (.box · 0) []
   |none=>none
  |none=>none
 | .box t x=>match σ.op x with
  | .e e=>match e.cells? with
   |some l=>wZ σ o.dst (.cells t l) (.box · 0) []
   |none=>none
  |_=>none
 | .build t ps=>match mH T t with
  |some ti=>match zC ti with
   |some z=>match ti.d with
    | .struct fs=>match FR T fs.toList with
     |some pl=>(rX σ (λi=>pl[i]?) z ps.toList).map λl=>{ r:=.e (.agg l) }
     |none=>none
    | .array _ e=>match mH T e with
     |some te=>(rX σ (λi=>some (i*te.i.size,te.i.size)) z ps.toList).map λl=>{ r:=.e (.agg l) }
     |none=>none
    |_=>none
   |none=>none
  |none=>none
 | .buildSlice t n ps=>match mH T t with
  |some tt=>match tt.d with
   | .slice e=>match mH T e with
    |some te=>match zC te with
     |some z=>if Nat.beq z.length te.i.size&&Nat.ble 1 te.i.size&&Nat.ble (n*te.i.size) 16777216 then
      (rX σ (λi=>some (i*te.i.size,te.i.size)) (lG n z) ps.toList).bind λl=>
       if !(l.all (E.nr 2))then none else if GD O o.dst then wZ σ o.dst (.row (l.all E.nW) e n te.i.size λi j=>l.getD (i*te.i.size+j) (.v (.bool false))) .own [True]
       else if l.all E.nW then some { r:=.e (.sl true n te.i.size λi j=>l.getD (i*te.i.size+j) (.v (.bool false))) }
       else some { r:=.e (.sl false n te.i.size λi j=>l.getD (i*te.i.size+j) (.v (.bool false))) }
      else none
     |none=>none
    |none=>none
   |_=>none
  |none=>none
 | .load t a=>Ho T σ t (σ.op a)
 | .store t a x=>Hr T σ t (σ.op a) (σ.op x)
 | .nilCheck x=>match σ.op x with
  | .box id off=>some { r:=.box id off }
  | .e (.jC m el)=>some { r:=.e (.jC m el) }
  | .e (.fn f c)=>some { r:=.e (.fn f c) }
  | .rU f c=>some { r:=.rU f c }
  |_=>none
 | .binOp op t x y _=>match σ.op x,σ.op y with
  | .e (.v (.int k a)),.e (.v (.int k' b))=>
   if Yz op k k' then(LA op k a b).map λr=>{ r:=.e (.v r.1),ki:=r.2 }else none
  | .e (.v (.bool a)),.e (.v (.bool b))=>match wu T t with
   |some .bool=>match op with
    | .eql=>some { r:=.e (.v (.bool (a==b))) }
    | .neq=>some { r:=.e (.v (.bool (!(a==b)))) }
    |_=>none
   |_=>none
  | .e (.sl _ n _ _),.e (.v (.slice none 0 0))=>match wu T t with
   |some (.slice _)=>match op with
    | .eql=>some { r:=.e (.v (.bool false)),ki:=[0<n] }
    | .neq=>some { r:=.e (.v (.bool true)),ki:=[0<n] }
    |_=>none
   |_=>none
  | .e a,.e b=>match aea O o.dst with
   |some v=>some { r:=.e (.v v),ki:=[pq P op t a b v] }
   |none=>none
  |_,_=>none
 | .unOp op _ x=>match op,σ.op x with
  | .not,.e (.v (.bool b))=>some { r:=.e (.v (.bool (!b))) }
  | .neg,.e (.v (.int k z))=>some { r:=.e (.v (.int k (0-z))),ki:=[nA k (0-z)] }
  |_,_=>none
 | .convert src dst x=>match wu T dst,mH T src,σ.op x with
  |some (.int k),some _,.e (.v (.int _ z))=>some { r:=.e (.v (.int k (k.wrap z))) }
  |_,_,_=>none
 | .makeFunc (.func f) first cap=>if first.isEmpty then match yy (cap.toList.map σ.op)with
  |some l=>some { r:=.rU f l }
  |none=>none
  else none
 | .makeSlice t l c=>Hp T σ o.dst t (σ.op l) (σ.op c)
 | .slice t x lo hi none=>Hq T t (σ.op x) (lo.map σ.op) (hi.map σ.op)
 | .fieldAddr t x f=>match wu T t with
  |some (.struct fs)=>match fs[f]? with
   |some fd=>match mH T fd.type with
    |some ft=>if Nat.beq ft.i.size 0 then none else match σ.op x with
     | .box id off=>some { r:=.box id (off+fd.offset) }
     | .pT id sz i j=>some { r:=.pT id sz i (j+fd.offset) }
     | .e (.jC m el)=>if Nat.ble fd.offset m then some { r:=.e (.jC (m-fd.offset) λj=>el (fd.offset+j)) }else none
     |_=>none
    |none=>none
   |none=>none
  |_=>none
 | .indexAddr t x i=>Hn T σ t (σ.op x) (σ.op i)
 | .index t x i=>match σ.op x,σ.op i with
  | .e (.agg l),.e (.v (.int _ z))=>match mH T t with
   |some tt=>match tt.d with
    | .array n e=>match mH T e with
     |some te=>if te.isAgg&&Nat.beq (n*te.i.size) l.length then some { r:=.e (.agg ((l.drop (z.toNat*te.i.size)).take te.i.size)),ki:=[0<=z/\z<n] }else none
     |none=>none
    |_=>none
   |none=>none
  |_,_=>none
 | .field t x f=>match σ.op x,wu T t with
  | .e (.agg l),some (.struct fs)=>match fs[f]? with
   |some fd=>match mH T fd.type with
    |some ft=>if ft.isAgg then none else match l[fd.offset]? with
     |some e=>some { r:=.e e }
     |none=>none
    |none=>none
   |none=>none
  |_,_=>none
 | .lookup t x i false=>match σ.op x,σ.op i,wu T t with
  | .e (.mp l),.e (.v (.int .i64 z)),some (.map k _)=>match wu T k,ad9 O o.dst with
   |some (.int .i64),some e=>some { r:=.e e,ki:=[xT l z=some e] }
   |_,_=>none
  |_,_,_=>none
 | .extract x i=>match σ.op x with
  | .e (.iB l)=>match l[i]? with
   |some e=>some { r:=.e e }
   |none=>none
  |_=>none
 | .call c=>match c.callee with
  | .builtin .len=>match c.args.toList,c.argTypes.toList with
   | [x],[t]=>match wu T t with
    |some (.slice _)=>(vd (σ.op x) σ).map λr=>{ r:=.e (.v r.1),rb:=r.2 }
    |_=>none
   |_,_=>none
  | .builtin .append=>match c.args.toList,c.argTypes.toList with
   | [s,x],[t,t']=>if Nat.beq t t' then(if GD O o.dst then Bc T σ o.dst t (σ.op s) (σ.op x)else zO T σ o.dst t (σ.op s) (σ.op x))else none
   |_,_=>none
  | .builtin .max=>match c.args.toList.map σ.op with
   | [.e (.v (.int k a)),.e (.v (.int _ b))]=>some { r:=.e (.v (.int k (if b>a then b else a))) }
   | [.e (.v (.int k a)),.e (.v (.int _ b)),.e (.v (.int _ z))]=>some { r:=.e (.v (.int k (if z>(if b>a then b else a)then z else(if b>a then b else a)))) }
   |_=>none
  | .builtin .min=>match c.args.toList.map σ.op with
   | [.e (.v (.int k a)),.e (.v (.int _ b))]=>some { r:=.e (.v (.int k (if b<a then b else a))) }
   |_=>none
  | .value f=>match σ.op f,uR σ c.args.toList with
   | .e (.fn g cap),some (xs,is)=>zP P K O σ o.dst g (xs++cap) is ((c.args.toList.map σ.op).any PV.BF)
   | .rU g cap,some (xs,is)=>match xx σ cap with
    |some (ys,js)=>zP P K O σ o.dst g (xs++ys) (is++js) ((c.args.toList.map σ.op).any PV.BF)
    |none=>none
   |_,_=>none
  |_=>none
 |_=>none
structure Lk where
 oh:Nat->Prop
 own:Nat->Nat->Prop
 val:Nat->Value
 jI:Nat->Nat->Value
def ky(L:Lk)(x:Nat):Prop:=∃ id,L.own id x
def jM(B:Nat->Prop)(L:Lk)(x:Nat):Prop:=B x\/ky L x
def yo(bs br:Nat->Prop)(L:Lk)(w:World):CV->Value->Prop
 | .e x,v=>iR bs br w x v
 | .box id,v=>L.oh id/\∃ b,L.val id = .pointer (some ⟨b,0,none⟩)/\v = .pointer (some ⟨b,0,none⟩)
def nJ(bs br:Nat->Prop)(L:Lk)(w:World):PV->Value->Prop
 | .e x,v=>iR bs br w x v
 | .box id off,v=>L.oh id/\∃ b,L.val id = .pointer (some ⟨b,0,none⟩)/\v = .pointer (some ⟨b,off,none⟩)
 | .own id,v=>L.oh id/\v=L.val id
 | .pT id sz i j,v=>L.oh id/\∃ b n c,L.val id = .slice (some ⟨b,0,none⟩) n c/\v = .pointer (some ⟨b,i*sz+j,none⟩)
 | .jI id k,v=>L.oh id/\v=L.jI id k
 | .rU f cap,v=>∃ vs:List Value,v = .func (.func f) #[] vs.toArray/\vs.length=cap.length/\∀ (i:Nat) (c:CV) (x:Value),cap[i]? = some c->vs[i]? = some x->yo bs br L w c x
def PV.le(p q:PV):Prop:=∀ (bs br:Nat->Prop) (L:Lk) (w:World) (v:Value),nJ bs br L w p v->nJ bs br L w q v
abbrev aj(a b:E):Prop:=PV.le (.e a) (.e b)
def tW(P:Program)(K:World->Prop)(T:List TI)(O:pY)(σ:PS)(o:Oper):Option kW:=match jQ P K T O σ o with
 |some u=>match o.dst with
  |some d=>match look O.ov d with
   |some p=>some { u with r:=p,ki:=PV.le u.r p::u.ki }
   |none=>some u
  |none=>some u
 |none=>none
def zB(ik:Array Oper)(σ:PS)(o:Oper):Option Bool:=match o.guard with
 |none=>some true
 |some (j,want)=>match(ik[j]?).bind (·.dst)with
  |some t=>match σ.get t with
   | .e (.v (.bool true))=>some want
   | .e (.v (.bool false))=>some (!want)
   | .e (.v (.tuple _))=>some false
   |_=>none
  |none=>none
def PS.app(σ:PS)(d:Option Tmp)(u:kW):PS:=(σ.qG u.f).put d u.r
def vD(σ:PS):Option Tmp->Bool
 |some d=>Nat.blt d σ.n
 |none=>true
def FN:Op->List Operand
 | .move x | .assign x | .box _ x | .load _ x | .nilCheck x | .unOp _ _ x | .convert _ _ x | .fieldAddr _ x _ | .field _ x _ | .extract x _=>[x]
 | .pick c a b=>[c,a,b]
 | .build _ ps | .buildSlice _ _ ps=>ps.toList.map (·.2)
 | .store _ a v | .binOp _ _ a v _ | .makeSlice _ a v | .indexAddr _ a v | .index _ a v | .lookup _ a v _=>[a,v]
 | .makeFunc _ first captured=>first.toList++captured.toList
 | .slice _ x l h m=>x::(l.toList++h.toList++m.toList)
 | .call c=>(match c.callee with | .value f=>[f] | .invoke r _=>[r] | .builtin _=>[])++c.args.toList
 |_=>[]
def DC:List Operand->List Tmp
 | []=>[]
 | .tmp t::l=>t::DC l
 |_::l=>DC l
def looks(ik:Array Oper)(o:Oper):List Tmp:=DC (FN o.op)++(match o.guard with
 |some (g,_)=>((ik[g]?).bind (·.dst)).toList
 |none=>[])
def qT(P:Program)(K:World->Prop)(T:List TI)(O:pY)(ik:Array Oper)(σ:PS)(o:Oper):Option kW:=
 if vD σ o.dst then match zB ik σ o with
  |some true=>match tW P K T O σ o with
   |some u=>some { u with rd:=(looks ik o).map σ.get }
   |none=>none
  |some false=>some { r:=.e (.v (.tuple #[])),rd:=(looks ik o).map σ.get }
  |none=>none
 else none
def Mp(l:List Nat)(n:Nat):Bool:=l.any (Nat.beq n)
def rm.id:rm->Option Nat
 | .none=>Option.none
 | .new i _ | .uJ i _ | .rA i _ | .wC i _ | .fin i=>some i
def yX:rm->PV->Bool
 | .rA id _,.own i=>!Nat.beq i id
 | .rA id _,.pT i _ _ _=>!Nat.beq i id
 | .wC id _,.jI i _=>!Nat.beq i id
 | .fin id,p=>!p.qB.any (Nat.beq id)
 |_,_=>true
def Dc(l:List Nat):Option Nat->Bool
 |some d=>!Mp l d
 |none=>true
def Kg:Option Nat->Option Nat->Bool
 |some a,some b=>!Nat.beq a b
 |_,_=>true
def NX:PV->Bool
 | .e .any=>false
 |_=>true
def BD(ik:Array Oper)(x y:Oper×kW):Bool:=
 Dc (looks ik y.1) x.1.dst&&Kg x.1.dst y.1.dst&&Dc (looks ik x.1) y.1.dst &&
 Dc y.2.rb x.2.f.id&&Dc x.2.rb y.2.f.id&&Kg x.2.f.id y.2.f.id&&yX x.2.f y.2.r&&yX y.2.f x.2.r &&
 (!x.2.f.Kp||y.2.rd.all NX)&&x.2.rd.all (yX y.2.f)
def BE(o:Oper)(i:Nat):Bool:=o.after.toList.any λe=>Region.binds .any e&&Nat.beq e.on i
def AF(ik:Array Oper):Nat->Oper->Nat->Bool
 | 0,o,i=>BE o i
 |n+1,o,i=>BE o i||o.after.toList.any λe=>Region.binds .any e&&(match ik[e.on]? with
  |some z=>AF ik n z i
  |none=>false)
def Df(ik:Array Oper):Nat->List (Oper×kW)->Bool
 |_,[]=>true
 |i,x::l=>x.1.after.toList.all (λe=>!Region.binds .any e||Nat.blt e.on i)&&l.all (λy=>AF ik 3 y.1 i||BD ik x y)&&Df ik (i+1) l
def J9(σ:PS):PV->Option E
 | .e x=>if x.nr 3 then some x else none
 | .own id=>match σ.bo id with
  |some (.row nl _ n sz el)=>some (.sl nl n sz el)
  |some (.jm nl _ _ n sz len el none)=>some (.sl true n 1 λk _=>.sl nl (len k) sz (el k))
  |_=>none
 |_=>none
def OZ(T:List TI)(σ:PS):ResultVar->Option E
 | .tmp t=>J9 σ (σ.get t)
 | .cell a t=>match mH T t with
  |some ti=>match σ.read (σ.get a) ti.i.size with
   |some (l,_,[])=>if ti.isAgg then(if(E.agg l).nr 3 then some (.agg l)else none)else match l with
    | [e]=>if e.nr 3 then some e else none
    |_=>none
   |_=>none
  |none=>none
def Dk(T:List TI)(σ:PS):List ResultVar->Option (List E)
 | []=>some []
 |x::l=>match OZ T σ x,Dk T σ l with
  |some e,some es=>some (e::es)
  |_,_=>none
def JM(T:List TI)(fn:Func)(σ:PS):Option E:=match Dk T σ fn.results.toList with
 |some [e]=>some e
 |some l=>some (.iB l)
 |none=>none
inductive Ex where
 |normal
 |exit (id:Nat)
 |ret
def Ej:Code->Nat
 | .region id _ _=>id
 | .seq a _=>Ej a
 | .cond _ a _=>Ej a
 | .block _ b=>Ej b
 | .loop b=>Ej b
 |_=>0
def E6:Nat->List E->List (Nat×PV)
 |_,[]=>[]
 |i,x::l=>(i,.e x)::E6 (i+1) l
def Ai(fn:Func)(nl:Bool)(args:List E):PS:={ n:=fn.ntmps,nl:=nl,t:=E6 0 args,b:=[] }
def mR{a b:Nat}:Nat.beq a b=true↔a=b:=⟨Nat.eq_of_beq_eq_true,λh=>by subst h;exact en a⟩
def eo{a b:Nat}(h:a≠b):Nat.beq a b=false:=by
 cases hb:Nat.beq a b with
 |false=>rfl
 |true=>exact absurd (mR.1 hb) h
def tH{α:Type}(k:Nat)(x:α)(l:List (Nat×α))(t:Nat):look ((k,x)::l) t=if k=t then some x else look l t:=by
 by_cases h:k=t
 .subst h;simp[look]
 .simp [look,h,eo h]
def Fm{α:Type}(l:List (Nat×α))(d t:Nat)(h:d≠t):look (l.filter λx=>!Nat.beq x.1 d) t=look l t:=by
 induction l with
 |nil=>rfl
 |cons y l ih=>
  obtain⟨k,x⟩:=y;rw[List.filter_cons];by_cases hk:k=d
  .subst hk;simp only[en,fE,bZ,bF];rw[ih,tH,bl h]
  .simp only[eo hk,eU,bN];rw[tH,tH,ih]
def V0{α:Type}(l:List (Nat×α))(f:α->α)(t:Nat):look (l.map λx=>(x.1,f x.2)) t=(look l t).map f:=by
 induction l with
 |nil=>rfl
 |cons y l ih=>
  obtain⟨k,x⟩:=y;rw[fF,tH,tH,ih];split<;>rfl
def PS.LO(σ:PS)(d:Nat)(p:PV)(t:Nat):(σ.put (some d) p).get t=if d=t then p else σ.get t:=by
 unfold PS.get PS.put;simp only[tH];by_cases h:d=t
 .rw [bn h,bn h];rfl
 .rw [bl h,bl h,Fm _ _ _ h]
def PS.aa4(σ:PS)(d:Option Tmp)(p:PV)(id:Nat):(σ.put d p).bo id=σ.bo id:=by cases d<;>rfl
def PS.NL(σ:PS)(d:Option Tmp)(p:PV):(σ.put d p).n=σ.n:=by cases d<;>rfl
def PS.ahG(σ:PS)(d:Option Tmp)(p:PV):(σ.put d p).nl=σ.nl:=by cases d<;>rfl
def I6(l:List (Nat×Bx))(id:Nat)(b:Bx)(t:Nat):look (Dt l id b) t=if id=t then some b else look l t:=by
 unfold Dt;rw[tH];by_cases h:id=t
 .rw [bn h,bn h]
 .rw [bl h,bl h,Fm _ _ _ h]
def VZ{α:Type}(l:List (Nat×α))(d:Nat):look (l.filter λx=>!Nat.beq x.1 d) d=none:=by
 induction l with
 |nil=>rfl
 |cons y l ih=>
  obtain⟨k,x⟩:=y;rw[List.filter_cons];by_cases hk:k=d
  .subst hk;simpa only[en,fE,bZ,bF]using ih
  .simp only[eo hk,eU,bN];rw[tH,bl hk,ih]
def NA{α:Type}(l:List (Nat×α))(i id:Nat):look (l.filter λx=>!Nat.beq x.1 i) id=if i=id then none else look l id:=by
 by_cases h:i=id
 .subst h;rw[bn rfl];exact VZ _ _
 .rw [bl h];exact Fm _ _ _ h
def PS.Hz(σ:PS)(f:rm)(t:Nat):(σ.qG f).get t=(σ.get t).po f:=by
 unfold PS.get PS.qG;by_cases h:f.Kp=true
 .simp only[h,bN];rw[V0];cases look σ.t t with
  |none=>cases f<;>rfl
  |some p=>rfl
 .have hv:∀ p:PV,p.po f=p:=by
   intro p;cases f<;>first|exact absurd rfl h|(cases p<;>rfl)
  simp only[h,hv];rfl
def rN(bs br:Nat->Prop)(L:Lk)(w:World)(id:Nat):Bx->Prop
 | .cells T l=>∃ b vs,L.val id = .pointer (some ⟨b,0,none⟩)/\(∀ x,L.own id x↔x=b)/\w.heap[b]? = some (.cells vs.toArray T (0,0))/\kB bs br w l vs/\∀ u,u ∈ vs->u.oneCell'=true
 | .row nl T n sz el=>∃ f:Nat->Nat->Value,qo w (L.val id) T n sz f nl/\(∀ x,L.own id x↔(L.val id).ownBlock=some x)/\∀ i j,i<n->j<sz->iR bs br w (el i j) (f i j)/\(el i j).nr 2=true
 | .jm nl T1 T0 n sz len el pend=>∃ (b c:Nat) (cur:Array Value) (f:Nat->Nat->Nat->Value),L.val id = .slice (some ⟨b,0,none⟩) n c/\w.heap[b]? = some (.cells cur T1 (0,0))/\n<=c/\c<=maxLen/\cur.size=c /\
  (∀ k,k<n->pend≠some k->cur[k]? = some (L.jI id k))/\(∀ u,u ∈ cur->u.oneCell'=true/\tG u=false) /\
  (∀ k,k<n->qo w (L.jI id k) T0 (len k) sz (f k) nl/\∀ i j,i<len k->j<sz->iR bs br w (el k i j) (f k i j)/\(el k i j).nr 2=true) /\
  (∀ x,L.own id x↔x=b\/∃ k,k<n/\(L.jI id k).ownBlock=some x) /\
  (∀ k k' x,k<n->k'<n->(L.jI id k).ownBlock=some x->(L.jI id k').ownBlock=some x->k=k')/\(∀ k,k<n->(L.jI id k).ownBlock≠some b)
structure jJ(w0:World)(B:Nat->Prop)(σ:PS)(a:Act)(w:World)(L:Lk):Prop where
 hd:a.defers=[]
 hs:a.tmps.size=σ.n
 ht:∀ t,nJ (jM B L) (ky L) L w (σ.get t) (a.tmps.getD t undef)
 hb:∀ id b,σ.bo id=some b->rN (jM B L) (ky L) L w id b
 hv:∀ id,L.oh id↔(σ.bo id).isSome=true
 hn:∀ id x,L.own id x->L.oh id
 hw:∀ id x,L.own id x->w0.heap.size<=x/\x<w.heap.size
 hi:∀ id id' x,L.own id x->L.own id' x->id=id'
 he:Below w0.heap.size w0 w
 hl:σ.nl=true->∀ id b,σ.bo id=some b->b.nl=true
structure su(L:Lk)(w:World)(L':Lk)(w':World):Prop where
 size:w.heap.size<=w'.heap.size
 ky:∀ x,x<w.heap.size->Pu.ky L' x->Pu.ky L x
 pC:∀ x,x<w.heap.size->¬Pu.ky L x->w'.heap[x]? = w.heap[x]?
def su.lG{B:Nat->Prop}{L L':Lk}{w w':World}(h:su L w L' w'){e:E}{v:Value}(k:iR (jM B L) (Pu.ky L) w e v):iR (jM B L') (Pu.ky L') w' e v:=by
 refine k.mono h.size (λb hb hx=>?_) (λb hb hx=>h.ky b hb hx) (λb hb tA=>h.pC b hb ?_)
 .rcases hx with hx|hx
  .exact .inl hx
  .exact .inr (h.ky b hb hx)
 .rcases tA with tA|tA
  .exact λhm=>tA (.inr hm)
  .exact tA
def su.refl(L:Lk)(w:World):su L w L w:=⟨bp _,λ_ _ h=>h,λ_ _ _=>rfl⟩
def qo.block{w w':World}{v:Value}{T:TypeId}{n sz:Nat}{f:Nat->Nat->Value}{nl:Bool}(h:qo w v T n sz f nl)
 (hk:∀ x,v.ownBlock=some x->w'.heap[x]? = w.heap[x]?):qo w' v T n sz f nl:=by
 rcases h with h|⟨b,c,cur,rfl,hg,r⟩
 .exact .inl h
 .exact .inr ⟨b,c,cur,rfl,by rw[hk b rfl];exact hg,r⟩
def rN.later{B:Nat->Prop}{L L':Lk}{w w':World}(h:su L w L' w'){id:Nat}{b:Bx}(k:rN (jM B L) (ky L) L w id b)
 (hv:L'.val id=L.val id) (ho:∀ x,L'.own id x↔L.own id x) (mq:∀ j,L'.jI id j=L.jI id j) (hk:∀ x,L.own id x->w'.heap[x]? = w.heap[x]?):rN (jM B L') (ky L') L' w' id b:=by
 cases b with
 |cells T l=>
  obtain⟨b,vs,h1,h2,h3,h4,h5⟩:=k;exact⟨b,vs,by rw[hv];exact h1,λx=>(ho x).trans (h2 x),by rw[hk b ((h2 b).2 rfl)];exact h3,h4.mono λ_ _=>h.lG,h5⟩
 |row nl T n sz el=>
  obtain⟨f,h1,h2,h3⟩:=k;exact⟨f,by rw[hv];exact h1.block λx hx=>hk x ((h2 x).2 hx),λx=>by rw[ho,hv];exact h2 x,λi j hi hj=>⟨h.lG (h3 i j hi hj).1,(h3 i j hi hj).2⟩⟩
 |jm nl T1 T0 n sz len el pend=>
  obtain⟨b,c,cur,f,h1,h2,h3,h4,h5,h6,h7,h8,h9,rY,vn⟩:=k;have e:L'.jI id=L.jI id:=funext mq;refine⟨b,c,cur,f,by rw[hv];exact h1,by rw[hk b ((h9 b).2 (.inl rfl))];exact h2,h3,h4,h5,by rw[e];exact h6,h7,?_,?_,by rw[e];exact rY,by rw[e];exact vn⟩
  .intro k Iy;obtain⟨q1,q2⟩:=h8 k Iy;rw[e];exact⟨q1.block λx hx=>hk x ((h9 x).2 (.inr ⟨k,Iy,hx⟩)),λi j hi hj=>⟨h.lG (q2 i j hi hj).1,(q2 i j hi hj).2⟩⟩
  .intro x;rw[ho,e];exact h9 x
def yo.later{B:Nat->Prop}{L L':Lk}{w w':World}(h:su L w L' w'){c:CV}{v:Value}(k:yo (jM B L) (ky L) L w c v)
 (hv:∀ id,L.oh id->L'.oh id/\L'.val id=L.val id):yo (jM B L') (ky L') L' w' c v:=by
 cases c with
 |e x=>exact h.lG k
 |box id=>obtain⟨k1,b,k2,k3⟩:=k;exact⟨(hv id k1).1,b,by rw[(hv id k1).2];exact k2,k3⟩
def nJ.later{B:Nat->Prop}{L L':Lk}{w w':World}(h:su L w L' w'){p:PV}{v:Value}(k:nJ (jM B L) (ky L) L w p v)
 (hv:∀ id,L.oh id->L'.oh id/\L'.val id=L.val id/\∀ j,L'.jI id j=L.jI id j):nJ (jM B L') (ky L') L' w' p v:=by
 cases p with
 |e x=>exact h.lG k
 |box id off=>obtain⟨k1,b,k2,k3⟩:=k;exact⟨(hv id k1).1,b,by rw[(hv id k1).2.1];exact k2,k3⟩
 |own id=>obtain⟨k1,k2⟩:=k;exact⟨(hv id k1).1,by rw[(hv id k1).2.1];exact k2⟩
 |pT id sz i j=>obtain⟨k1,b,n,c,k2,k3⟩:=k;exact⟨(hv id k1).1,b,n,c,by rw[(hv id k1).2.1];exact k2,k3⟩
 |jI id q=>obtain⟨k1,k2⟩:=k;exact⟨(hv id k1).1,by rw[(hv id k1).2.2];exact k2⟩
 |rU f cap=>
  obtain⟨vs,k1,k2,k3⟩:=k;exact⟨vs,k1,k2,λi c x hc hx=>(k3 i c x hc hx).later h λid hl=>⟨(hv id hl).1,(hv id hl).2.1⟩⟩
def jJ.later{w0:World}{B:Nat->Prop}{σ:PS}{a:Act}{w w':World}{L:Lk}(r:jJ w0 B σ a w L)(h:Below w.heap.size w w'):jJ w0 B σ a w' L:=by
 have hl:su L w L w':=⟨h.size,λ_ _ h=>h,λx hx _=>h.block x hx⟩
 refine⟨r.hd,r.hs,λt=>(r.ht t).later hl λid k=>⟨k,rfl,λ_=>rfl⟩,λid b hb=>(r.hb id b hb).later hl rfl (λ_=>Iff.rfl) (λ_=>rfl) λx hx=>h.block x (r.hw id x hx).2,r.hv,r.hn,
  λid x hx=>⟨(r.hw id x hx).1,bT (r.hw id x hx).2 h.size⟩,r.hi,r.he.trans (h.mono r.he.size),r.hl⟩
def jJ.drew{w0:World}{B:Nat->Prop}{σ:PS}{a:Act}{w:World}{L:Lk}(r:jJ w0 B σ a w L):jJ w0 B σ a w.drew L:=r.later (Below.refl _ _).drew
def jJ.put{w0:World}{B:Nat->Prop}{σ:PS}{a:Act}{w:World}{L:Lk}(r:jJ w0 B σ a w L)(d:Option Tmp)(p:PV)(v:Value)(hd:vD σ d=true)(hp:nJ (jM B L) (ky L) L w p v):jJ w0 B (σ.put d p) (a.put d v) w L:=by
 cases d with
 |none=>exact r
 |some d=>
  have Ey:d<σ.n:=by simpa[vD,Nat.blt_eq]using hd
  refine⟨r.hd,by simp[Act.put,r.hs,PS.NL],λt=>?_,λid b hb=>r.hb id b hb,r.hv,r.hn,r.hw,r.hi,r.he,r.hl⟩;rw[PS.LO];by_cases h:d=t
  .subst h;rw[bn rfl];have:(a.put (some d) v).tmps.getD d undef=v:=by
    simp[Act.put,anG,r.hs,Ey]
   rw[this];exact hp
  .rw [bl h];have:(a.put (some d) v).tmps.getD t undef=a.tmps.getD t undef:=by
    simp[Act.put,am7 h]
   rw[this];exact r.ht t
def jJ.op{w0:World}{B:Nat->Prop}{σ:PS}{a:Act}{w:World}{L:Lk}(r:jJ w0 B σ a w L)(x:Operand):nJ (jM B L) (ky L) L w (σ.op x) (a.eval x):=by
 cases x with
 |tmp t=>exact r.ht t
 |const v=>exact .v v
 |global g=>exact .v _
 |func f=>exact .fn f [] [] rfl (λi p x h=>by simp at h)
def Lk.set(L:Lk)(id:Nat)(O:Nat->Prop)(v:Value)(jI:Nat->Value):Lk:=
 {oh:=λi=>i=id\/L.oh i
  own:=λi x=>if i=id then O x else L.own i x
  val:=λi=>if i=id then v else L.val i
  jI:=λi=>if i=id then jI else L.jI i }
section
variable {L:Lk} {id:Nat} {O:Nat->Prop} {v:Value} {jI:Nat->Value}
def Lk.sJ(x:Nat):(L.set id O v jI).own id x↔O x:=by simp[Lk.set]
def Lk.o9:(L.set id O v jI).val id=v:=by simp[Lk.set]
def Lk.rH(k:Nat):(L.set id O v jI).jI id k=jI k:=by simp[Lk.set]
def Lk.AI:(L.set id O v jI).oh id:=.inl rfl
def Lk.AJ{i:Nat}(h:i≠id)(x:Nat):(L.set id O v jI).own i x↔L.own i x:=by simp[Lk.set,h]
def Lk.AK{i:Nat}(h:i≠id):(L.set id O v jI).val i=L.val i:=by simp[Lk.set,h]
def Lk.F8{i:Nat}(h:i≠id)(k:Nat):(L.set id O v jI).jI i k=L.jI i k:=by simp[Lk.set,h]
end
structure rS(L:Lk)(w:World)(id:Nat)(O:Nat->Prop)(w':World):Prop where
 own:∀ x,O x->(L.own id x\/w.heap.size<=x)/\x<w'.heap.size
 size:w.heap.size<=w'.heap.size
 pC:∀ x,x<w.heap.size->¬L.own id x->w'.heap[x]? = w.heap[x]?
 os:w'.os=w.os
 tape:w'.tape=w.tape
 output:w'.output=w.output
def rS.later{L:Lk}{w:World}{id:Nat}{O:Nat->Prop}{w':World}(h:rS L w id O w')(v:Value)(jI:Nat->Value):su L w (L.set id O v jI) w':=by
 refine⟨h.size,λx hx hm=>?_,λx hx hm=>h.pC x hx λho=>hm ⟨id,ho⟩⟩;obtain⟨i,hi⟩:=hm;by_cases e:i=id
 .subst e;rcases(h.own x ((Lk.sJ x).1 hi)).1 with k|k
  .exact ⟨i,k⟩
  .omega
 .exact ⟨i,(Lk.AJ e x).1 hi⟩
def jJ.set{w0:World}{B:Nat->Prop}{σ:PS}{a:Act}{w:World}{L:Lk}(r:jJ w0 B σ a w L)(id:Nat)(b':Bx)(O:Nat->Prop)(v:Value)(jI:Nat->Value)(w':World)(f:rm)
 (hf:f.KO σ.b=Dt σ.b id b') (ht:rS L w id O w')
 (hB:rN (jM B (L.set id O v jI)) (ky (L.set id O v jI)) (L.set id O v jI) w' id b')
 (hT:∀ p v0,nJ (jM B L) (ky L) L w p v0->nJ (jM B (L.set id O v jI)) (ky (L.set id O v jI)) (L.set id O v jI) w' (p.po f) v0)
 (ku:σ.nl=true->b'.nl=true):jJ w0 B (σ.qG f) a w' (L.set id O v jI):=by
 have hl:=ht.later v jI;have kp:∀ i,(σ.qG f).bo i=if id=i then some b' else σ.bo i:=by
  intro i;show look (f.KO σ.b) i=_;rw[hf,I6];rfl
 have Bi:Below w0.heap.size w w':=⟨ht.os,ht.tape,ht.output,ht.size,λx hx=>ht.pC x (bT hx r.he.size) λho=>by have:=(r.hw id x ho).1;omega⟩
 refine⟨r.hd,r.hs,λt=>?_,λi b hb=>?_,λi=>?_,λi x hx=>?_,λi x hx=>?_,λi j x hi hj=>?_,r.he.trans Bi,λIE i b hb=>?_⟩
 .rw [PS.Hz];exact hT _ _ (r.ht t)
 .rw [kp]at hb;by_cases e:id=i
  .subst e;rw[bn rfl]at hb;cases hb;exact hB
  .rw [bl e]at hb;have e':i≠id:=λh=>e h.symm
   exact(r.hb i b hb).later hl (Lk.AK e') (Lk.AJ e') (Lk.F8 e') λx hx=>ht.pC x (r.hw i x hx).2 λho=>e (r.hi id i x ho hx)
 .rw [kp];by_cases e:id=i
  .subst e;rw[bn rfl];simp[Lk.set]
  .rw [bl e];have e':i≠id:=λh=>e h.symm
   simp only[Lk.set,e',false_or];exact r.hv i
 .by_cases e:i=id
  .exact .inl e
  .exact .inr (r.hn i x ((Lk.AJ e x).1 hx))
 .by_cases e:i=id
  .subst e;obtain⟨k1,k2⟩:=ht.own x ((Lk.sJ x).1 hx);refine⟨?_,k2⟩;rcases k1 with k1|k1
   .exact (r.hw i x k1).1
   .exact bJ r.he.size k1
  .have:=r.hw i x ((Lk.AJ e x).1 hx);exact⟨this.1,bT this.2 ht.size⟩
 .by_cases e1:i=id
  .by_cases e2:j=id
   .rw [e1,e2]
   .have k2:=(Lk.AJ e2 x).1 hj;subst e1;rcases(ht.own x ((Lk.sJ x).1 hi)).1 with k|k
    .exact r.hi _ _ x k k2
    .have:=(r.hw j x k2).2;omega
  .have k1:=(Lk.AJ e1 x).1 hi;by_cases e2:j=id
   .subst e2;rcases(ht.own x ((Lk.sJ x).1 hj)).1 with k|k
    .exact r.hi _ _ x k1 k
    .have:=(r.hw i x k1).2;omega
   .exact r.hi _ _ x k1 ((Lk.AJ e2 x).1 hj)
 .rw [kp]at hb;by_cases e:id=i
  .rw [bn e]at hb;cases hb;exact ku IE
  .rw [bl e]at hb;exact r.hl IE i b hb
def jJ.new{w0:World}{B:Nat->Prop}{σ:PS}{a:Act}{w:World}{L:Lk}(r:jJ w0 B σ a w L)(id:Nat)(b':Bx)(O:Nat->Prop)(v:Value)(jI:Nat->Value)(w':World)
 (mG:σ.bo id=none) (hO:∀ x,O x->w.heap.size<=x/\x<w'.heap.size) (hb:Below w.heap.size w w')
 (hB:rN (jM B (L.set id O v jI)) (ky (L.set id O v jI)) (L.set id O v jI) w' id b')
 (ku:(!σ.nl||b'.nl)=true):jJ w0 B (σ.qG (.new id b')) a w' (L.set id O v jI):=by
 have Uk:¬L.oh id:=λh=>by have:=(r.hv id).1 h;rw[mG]at this;simp at this
 have ht:rS L w id O w':=⟨λx hx=>⟨.inr (hO x hx).1,(hO x hx).2⟩,hb.size,λx hx _=>hb.block x hx,hb.os,hb.tape,hb.output⟩
 refine r.set id b' O v jI w' (.new id b') rfl ht hB (λp v0 hp=>?_) (λh=>by simpa[h]using ku);have kq:∀ {i},L.oh i->i≠id:=λh e=>Uk (e▸h)
 have:p.po (.new id b')=p:=by cases p<;>rfl
 rw[this];exact hp.later (ht.later v jI) λi hi=>⟨.inr hi,Lk.AK (kq hi),λj=>Lk.F8 (kq hi) j⟩
def jJ.uJ{w0:World}{B:Nat->Prop}{σ:PS}{a:Act}{w:World}{L:Lk}(r:jJ w0 B σ a w L)(id:Nat)(b':Bx)(w':World)
 (vr:L.oh id) (ht:rS L w id (L.own id) w')
 (hB:rN (jM B (L.set id (L.own id) (L.val id) (L.jI id))) (ky (L.set id (L.own id) (L.val id) (L.jI id))) (L.set id (L.own id) (L.val id) (L.jI id)) w' id b')
 (ku:σ.nl=true->b'.nl=true):jJ w0 B (σ.qG (.uJ id b')) a w' (L.set id (L.own id) (L.val id) (L.jI id)):=by
 refine r.set id b' _ _ _ w' (.uJ id b') rfl ht hB (λp v0 hp=>?_) ku;have:p.po (.uJ id b')=p:=by cases p<;>rfl
 rw[this];refine hp.later (ht.later _ _) λi hi=>⟨.inr hi,?_,λj=>?_⟩
 .by_cases e:i=id
  .subst e;exact Lk.o9
  .exact Lk.AK e
 .by_cases e:i=id
  .subst e;exact Lk.rH j
  .exact Lk.F8 e j
def jJ.rA{w0:World}{B:Nat->Prop}{σ:PS}{a:Act}{w:World}{L:Lk}(r:jJ w0 B σ a w L)(id:Nat)(b':Bx)(O:Nat->Prop)(v:Value)(w':World)
 (hp:∀ b,L.val id ≠ .pointer (some b)) (ht:rS L w id O w')
 (hB:rN (jM B (L.set id O v (L.jI id))) (ky (L.set id O v (L.jI id))) (L.set id O v (L.jI id)) w' id b')
 (ku:σ.nl=true->b'.nl=true):jJ w0 B (σ.qG (.rA id b')) a w' (L.set id O v (L.jI id)):=by
 have hl:=ht.later v (L.jI id);refine r.set id b' O v (L.jI id) w' (.rA id b') rfl ht hB (λp v0 qd=>?_) ku;have aff:∀ i j,(L.set id O v (L.jI id)).jI i j=L.jI i j:=λi j=>by
  by_cases e:i=id
  .subst e;exact Lk.rH j
  .exact Lk.F8 e j
 cases p with
 |e x=>exact hl.lG qd
 |box i off=>
  obtain⟨k1,b,k2,k3⟩:=qd;have e:i≠id:=λe=>by subst e;exact hp _ k2
  exact⟨.inr k1,b,by rw[Lk.AK e];exact k2,k3⟩
 |own i=>
  by_cases e:i=id
  .subst e;simp only[PV.po,en,bN];exact .any _
  .simp only[PV.po,eo e,bZ,bF];exact⟨.inr qd.1,by rw[Lk.AK e];exact qd.2⟩
 |pT i s x j=>
  by_cases e:i=id
  .subst e;simp only[PV.po,en,bN];exact .any _
  .simp only[PV.po,eo e,bZ,bF];obtain⟨k1,b,n,c,k2,k3⟩:=qd;exact⟨.inr k1,b,n,c,by rw[Lk.AK e];exact k2,k3⟩
 |jI i k=>exact⟨.inr qd.1,by rw[aff];exact qd.2⟩
 |rU f cap=>
  obtain⟨vs,k1,k2,k3⟩:=qd;refine⟨vs,k1,k2,λi c x hc hx=>?_⟩;have hk:=k3 i c x hc hx;cases c with
  |e y=>exact hl.lG hk
  |box q=>
   obtain⟨q1,b,q2,q3⟩:=hk;have e:q≠id:=λe=>by subst e;exact hp _ q2
   exact⟨.inr q1,b,by rw[Lk.AK e];exact q2,q3⟩
def jJ.wC{w0:World}{B:Nat->Prop}{σ:PS}{a:Act}{w:World}{L:Lk}(r:jJ w0 B σ a w L)(id:Nat)(b':Bx)(O:Nat->Prop)(jI:Nat->Value)(w':World)
 (ht:rS L w id O w')
 (hB:rN (jM B (L.set id O (L.val id) jI)) (ky (L.set id O (L.val id) jI)) (L.set id O (L.val id) jI) w' id b')
 (ku:σ.nl=true->b'.nl=true):jJ w0 B (σ.qG (.wC id b')) a w' (L.set id O (L.val id) jI):=by
 have hl:=ht.later (L.val id) jI;refine r.set id b' O (L.val id) jI w' (.wC id b') rfl ht hB (λp v0 qd=>?_) ku;have lr:∀ i,(L.set id O (L.val id) jI).val i=L.val i:=λi=>by
  by_cases e:i=id
  .subst e;exact Lk.o9
  .exact Lk.AK e
 cases p with
 |e x=>exact hl.lG qd
 |box i off=>obtain⟨k1,b,k2,k3⟩:=qd;exact⟨.inr k1,b,by rw[lr];exact k2,k3⟩
 |own i=>exact⟨.inr qd.1,by rw[lr];exact qd.2⟩
 |pT i s x j=>obtain⟨k1,b,n,c,k2,k3⟩:=qd;exact⟨.inr k1,b,n,c,by rw[lr];exact k2,k3⟩
 |jI i k=>
  by_cases e:i=id
  .subst e;simp only[PV.po,en,bN];exact .any _
  .simp only[PV.po,eo e,bZ,bF];exact⟨.inr qd.1,by rw[Lk.F8 e];exact qd.2⟩
 |rU f cap=>
  obtain⟨vs,k1,k2,k3⟩:=qd;refine⟨vs,k1,k2,λi c x hc hx=>(k3 i c x hc hx).later hl λj hj=>⟨.inr hj,lr j⟩⟩
structure PR(w:World)(v:Value)(T:TypeId)(n sz m:Nat)(f g:Nat->Nat->Value)(nl:Bool)(v':Value)(w':World):Prop where
 own:qo w' v' T (n+m) sz (λi j=>if i<n then f i j else g (i-n) j) nl
 KN:∀ x,v'.ownBlock=some x->v.ownBlock=some x\/(w.heap.size<=x/\x<w'.heap.size)
 size:w.heap.size<=w'.heap.size
 pC:∀ x,x<w.heap.size->v.ownBlock≠some x->w'.heap[x]? = w.heap[x]?
 os:w'.os=w.os
 tape:w'.tape=w.tape
 output:w'.output=w.output
def oc(n sz:Nat)(f:Nat->Nat->Value):List Value:=(List.range (n*sz)).map λq=>f (q/sz) (q%sz)
def vg(n sz:Nat)(f:Nat->Nat->Value):(oc n sz f).length=n*sz:=by simp[oc]
def LK{n sz:Nat}{f:Nat->Nat->Value}{i j:Nat}(hi:i<n)(hj:j<sz):(oc n sz f)[i*sz+j]? = some (f i j):=by
 have h1:i*sz+j<n*sz:=by
  have:=bR sz (show i+1<=n from hi);rw[b8,ck]at this;omega
 have h2:(i*sz+j)/sz=i:=by rw[bE,dJ aD,cA hj,bK]
 have h3:(i*sz+j)%sz=j:=by rw[bE,ep,bQ hj]
 simp[oc,h1,h2,h3]
def Hw{n sz:Nat}{f:Nat->Nat->Value}{q:Nat}{u:Value}(h:(oc n sz f)[q]? = some u):q/sz<n/\q%sz<sz/\u=f (q/sz) (q%sz)/\q/sz*sz+q%sz=q:=by
 unfold oc at h;rw[cY]at h;obtain⟨x,hx,rfl⟩:=dm.1 h;obtain⟨h1,h2⟩:=cC.1 hx;simp at h1 h2;subst h2;have hz:0<sz:=by
  rcases eV sz with h0|h0
  .subst h0;simp at h1
  .exact h0
 exact⟨(cr hz).2 h1,bC _ hz,rfl,by rw[bE];exact cB q sz⟩
def qo.row{w:World}{v:Value}{T:TypeId}{n sz:Nat}{f:Nat->Nat->Value}{nl:Bool}(h:qo w v T n sz f nl):w.ownsRow 0 T sz v n (oc n sz f):=by
 rcases h with⟨rfl,rfl⟩|⟨b,c,cur,rfl,hg,pM,nS,oR,mf,_⟩
 .exact ⟨vg _ _ _,.inl ⟨rfl,rfl⟩⟩
 .refine ⟨vg _ _ _,.inr ⟨b,c,cur,rfl,ch _,hg,pM,nS,oR,?_⟩⟩;apply am8;intro q;by_cases hq:q<n*sz
  .have hz:0<sz:=by
    rcases eV sz with h0|h0
    .subst h0;simp at hq
    .exact h0
   have h1:q/sz<n:=(cr hz).2 hq;have h2:=bC q hz;have h3:q/sz*sz+q%sz=q:=by rw[bE];exact cB q sz
   have h4:=(mf _ _ h1 h2).1;have h5:=LK (f:=f) h1 h2;rw[h3]at h4 h5;rw[ff,bn hq,h5];simpa using h4
  .rw [ff,bl hq,cw (by rw[vg];omega)]
def akt(P:Program)(w:World)(t ty e:TypeId)(i:TypeInfo)(z:Value)(sz:Nat)(ht:P.underlying t=some (.slice e))(hi:P.info? e=some i)(hz:i.zero=some z)
 (xG:i.size=sz) (Vj:z.cells.size=sz) (lT:0<sz) (jT:1<=i.bytes) (amM:∀ u,u ∈ z.cells->u.oneCell'=true)
 (v:Value) (n:Nat) (f:Nat->Nat->Value) (nl:Bool) (oq:qo w v e n sz f nl)
 (A:Option Addr) (m c:Nat) (g:Nat->Nat->Value) (hA:∀ k j,k<m->j<sz->∃ b o,A=some ⟨b,o,none⟩/\w.cell? ⟨b,o+(k*sz+j),none⟩=some (g k j)) (CC:A=none->m=0)
 (h1:∀ k j,k<m->j<sz->(g k j).oneCell'=true/\(nl=true->tG (g k j)=false)) (Vi:nl=true->∀ u,u ∈ z.cells->tG u=false)
 (Ug:(n+m)*i.bytes<=140737488355328):
 ∃ v' w',(Builtin.append_ #[t,t] ty #[v,.slice A m c]).run P w = .ok v' w'/\PR w v e n sz m f g nl v' w':=by
 have hle:n+m<=(n+m)*i.bytes:=gh _ jT;have LR:n+m<=maxLen:=by unfold maxLen;omega
 have xC:∀ i j,i<n+m->j<sz->(oc n sz f++oc m sz g)[i*sz+j]? = some (if i<n then f i j else g (i-n) j):=by
  intro i j hi hj;by_cases mq:i<n
  .rw [bn mq,eW,LK mq hj];rw[vg];have:=bR sz (show i+1<=n from mq);rw[b8,ck]at this;omega
  .rw [bl mq,gi,vg]
   .have:i*sz+j-n*sz=(i-n)*sz+j:=by
     have:=Nat.sub_mul i n sz;have:=bR sz (aD:n<=i);omega
    rw[this,LK aD hj]
   .rw [vg];have:=bR sz (aD:n<=i);omega
 have wQ:∀ i j,i<n+m->j<sz->(if i<n then f i j else g (i-n) j).oneCell'=true:=by
  intro i j hi hj;split
  .rename_i mq;rcases oq with⟨_,h0⟩|⟨b,c,cur,_,_,_,_,_,hc,_⟩
   .omega
   .exact (hc i j mq hj).2
  .rename_i mq;exact(h1 (i-n) j aD hj).1
 have h1':∀ u ∈ oc m sz g,u.oneCell'=true:=by
  intro u hu;obtain⟨q,hq⟩:=dO.1 hu;obtain⟨q1,q2,rfl,_⟩:=Hw hq;exact(h1 _ _ q1 q2).1
 have gnl:nl=true->∀ u,u ∈ oc m sz g->tG u=false:=by
  intro hn u hu;obtain⟨q,hq⟩:=dO.1 hu;obtain⟨q1,q2,rfl,_⟩:=Hw hq;exact(h1 _ _ q1 q2).2 hn
 rcases A with _|ad
 .have hm:=CC rfl;subst hm;rcases oq with⟨rfl,rfl⟩|⟨b,cc,cur,rfl,hg,pM,nS,oR,mf,ku⟩
  .refine ⟨.slice none 0 0,w,?_,.inl ⟨rfl,rfl⟩,λx hx=>.inl hx,bp _,λ_ _ _=>rfl,rfl,rfl,rfl⟩;simp[Builtin.append_,run_underlying ht,sizeOf,typeInfo,hi,Builtin.lenOf,Builtin.firstCells,loadCells,loadCellsFrom]
  .refine ⟨.slice (some ⟨b,0,none⟩) n cc,w,?_,.inr ⟨b,cc,cur,rfl,hg,pM,nS,oR,?_,ku⟩,λx hx=>.inl hx,bp _,λ_ _ _=>rfl,rfl,rfl,rfl⟩
   .simp [Builtin.append_,run_underlying ht,sizeOf,typeInfo,hi,Builtin.lenOf,Builtin.firstCells,pM,storeCells]
   .intro i j hi hj;have mq:i<n:= aD ;simp only[mq,bN];exact mf i j mq hj
 .have MT:∀ j u,(oc m sz g)[j]? = some u->w.cell? (ad.add j)=some u:=by
   intro q u hq;obtain⟨q1,q2,rfl,q4⟩:=Hw hq;obtain⟨b,o,e,hc⟩:=hA _ _ q1 q2;cases e;rw[q4]at hc;rw[show(⟨b,o,none⟩:Addr).add q=⟨b,o+q,none⟩from Addr.add_lit _ _ _];exact hc
  rcases oq with⟨rfl,rfl⟩|⟨b,cc,cur,rfl,hg,pM,nS,oR,mf,ku⟩
  .by_cases hm:m=0
   .subst hm;refine⟨.slice none 0 0,w,?_,.inl ⟨rfl,rfl⟩,λx hx=>.inl hx,bp _,λ_ _ _=>rfl,rfl,rfl,rfl⟩;simp[Builtin.append_,run_underlying ht,sizeOf,typeInfo,hi,Builtin.lenOf,Builtin.firstCells,loadCells,loadCellsFrom]
   .have hr:=run_append_nil (P:=P) w t ty e i z ht hi hz ad m c (oc m sz g) (by rw[vg,xG]) MT aD (by unfold maxLen at LR;omega) (by have hb:=Ug;simp only[b6]at hb;omega);have qW:=grownCap_ge w m 0 e;have nS:grownCap w m 0 e<=maxLen:=grownCap_le_maxLen w m 0 e aD;refine⟨_,_,hr,.inr ⟨w.heap.size,_,_,aJ,heap_alloc_new w.drew _,aD,nS,?_,?_,?_⟩,λx hx=>.inr ?_,aJ,λx hx _=>Below.heap_alloc w.drew _ x hx,rfl,rfl,rfl⟩
    .simp only[am9,gj,size_zeroCells,Vj,vg,<-b8];congr 1;omega
    .intro i j hi hj;have:=xC i j hi hj;refine⟨?_,wQ i j hi hj⟩;simp only[oc,cN,List.range_zero,List.map_nil,List.nil_append]at this;rw[<-this,anH]
     .simp [oc]
     .obtain ⟨q,_⟩:=cC.1 this;simpa[oc]using q
    .intro hn u hu;rcases fG.1 hu with hu|hu
     .exact gnl hn u (by simpa using hu)
     .simp only[Builtin.zeroCells,gl,gn]at hu;obtain⟨q,hq,rfl⟩:=hu;have iO:q%z.cells.size<z.cells.size:=bC _ aD;rw[fH z.cells _ iO];exact Vi hn _ (gO iO)
    .simp [Value.ownBlock]at hx;subst hx;simp
  .by_cases M0:n+m<=cc
   .have yJ:(oc m sz g).length=m*i.size:=by rw[vg,xG]
    have oe:n*i.size+(oc m sz g).length<=cur.size:=by rw[yJ,oR,xG,<-b8];exact bR _ M0
    have hr:=run_append_room (P:=P) w t ty e i ht hi b n cc cur hg ad m c (oc m sz g) yJ MT h1' M0 oe;have EU:cur.toList.take (n*i.size)=oc n sz f:=by
     have wR:w.ownsRow 0 e sz (.slice (some ⟨b,0,none⟩) n cc) n (oc n sz f):=qo.row (nl:=nl) (.inr ⟨b,cc,cur,rfl,hg,pM,nS,oR,mf,ku⟩);rcases wR.2 with⟨hh,_⟩|⟨b',c',cur',hh,_,Ut,_,_,_,Ae⟩
     .cases hh
     .cases hh;rw[hg]at Ut;cases Ut;rw[xG];exact Ae
    refine⟨_,_,hr,.inr ⟨b,cc,_,rfl,setRow_heap w b cur _ e _ hg,M0,nS,?_,?_,?_⟩,λx hx=>.inl hx,aJ,λx hx kq=>setRow_other w b x _ (λq=>kq (by simp[Value.ownBlock,q])),rfl,rfl,rfl⟩
    .simp only[gj,cJ,cG,fh,er];omega
    .intro k j hk hj;refine⟨?_,wQ k j hk hj⟩;rw[EU,<-xC k j hk hj];have hq:k*sz+j<(oc n sz f++oc m sz g).length:=by
      obtain⟨q,_⟩:=cC.1 (xC k j hk hj);exact q
     rw[gP,eW hq]
    .intro hn u hu;simp only[gQ,eC]at hu;rcases hu with(hu|hu)|hu
     .exact ku hn u (by have:=fu hu;simpa using this)
     .exact gnl hn u hu
     .exact ku hn u (by have:=fw hu;simpa using this)
   .have wR:w.ownsRow 0 e sz (.slice (some ⟨b,0,none⟩) n cc) n (oc n sz f):=qo.row (nl:=nl) (.inr ⟨b,cc,cur,rfl,hg,pM,nS,oR,mf,ku⟩);have holds:∀ j u,(oc n sz f)[j]? = some u->w.cell? ((⟨b,0,none⟩:Addr).add j)=some u:=wR.cells (g:=b) rfl;have hr:=run_append_grow (P:=P) w t ty e i z ht hi hz ⟨b,0,none⟩ n cc (oc n sz f) (by rw[vg,xG]) holds ad m c (oc m sz g) (by rw[vg,xG]) MT aD (by unfold maxLen at LR;omega) (growslice_fits aD Ug);have qW:=grownCap_ge w (n+m) cc e;have ae4:grownCap w (n+m) cc e<=maxLen:=grownCap_le_maxLen w (n+m) cc e LR;refine⟨_,_,hr,.inr ⟨w.heap.size,_,_,aJ,heap_alloc_new w.drew _,aD,ae4,?_,?_,?_⟩,λx hx=>.inr ?_,aJ,λx hx _=>Below.heap_alloc w.drew _ x hx,rfl,rfl,rfl⟩
    .simp only[am9,gj,size_zeroCells,Vj,vg,<-b8];congr 1;omega
    .intro k j hk hj;refine⟨?_,wQ k j hk hj⟩;rw[<-xC k j hk hj];have hq:k*sz+j<(oc n sz f++oc m sz g).length:=by
      obtain⟨q,_⟩:=cC.1 (xC k j hk hj);exact q
     rw[anH (by simpa using hq)];simp
    .intro hn u hu;rcases fG.1 hu with hu|hu
     .rcases fG.1 hu with hu|hu
      .obtain ⟨q,hq⟩:=dO.1 (show u ∈ oc n sz f by simpa using hu);obtain⟨q1,q2,rfl,_⟩:=Hw hq;exact ku hn _ (eu (mf _ _ q1 q2).1)
      .exact gnl hn u (by simpa using hu)
     .simp only[Builtin.zeroCells,gl,gn]at hu;obtain⟨q,hq,rfl⟩:=hu;have iO:q%z.cells.size<z.cells.size:=bC _ aD;rw[fH z.cells _ iO];exact Vi hn _ (gO iO)
    .simp [Value.ownBlock]at hx;subst hx;simp
def nJ.move{B:Nat->Prop}{L L':Lk}{w:World}(h:su L w L' w){p:PV}{v:Value}(k:nJ (jM B L) (ky L) L w p v)
 (hv:∀ id,id ∈ p.qB->L.oh id->L'.oh id/\L'.val id=L.val id/\∀ j,L'.jI id j=L.jI id j):nJ (jM B L') (ky L') L' w p v:=by
 cases p with
 |e x=>exact h.lG k
 |box id off=>obtain⟨k1,b,k2,k3⟩:=k;have q:=hv id (by simp[PV.qB]) k1;exact⟨q.1,b,by rw[q.2.1];exact k2,k3⟩
 |own id=>obtain⟨k1,k2⟩:=k;have q:=hv id (by simp[PV.qB]) k1;exact⟨q.1,by rw[q.2.1];exact k2⟩
 |pT id sz i j=>obtain⟨k1,b,n,c,k2,k3⟩:=k;have q:=hv id (by simp[PV.qB]) k1;exact⟨q.1,b,n,c,by rw[q.2.1];exact k2,k3⟩
 |jI id r=>obtain⟨k1,k2⟩:=k;have q:=hv id (by simp[PV.qB]) k1;exact⟨q.1,by rw[q.2.2];exact k2⟩
 |rU f cap=>
  obtain⟨vs,k1,k2,k3⟩:=k;refine⟨vs,k1,k2,λi c x hc hx=>?_⟩;have q:=k3 i c x hc hx;cases c with
  |e y=>exact h.lG q
  |box id=>
   obtain⟨q1,b,q2,q3⟩:=q;have r:=hv id (by simp only[PV.qB,List.mem_flatMap];exact⟨.box id,fD hc,by simp[CV.qB]⟩) q1;exact⟨r.1,b,by rw[r.2.1];exact q2,q3⟩
def amh{id:Nat}{b:Bx}{p:PV}(h:p.qB.any (Nat.beq id)=false):p.po (.rA id b)=p:=by
 cases p with
 |own i=>
  have:Nat.beq i id=false:=by
   simp only[PV.qB,ana,List.any_nil,anb]at h;exact eo λe=>by rw[e,en]at h;cases h
  simp[PV.po,this]
 |pT i s x j=>
  have:Nat.beq i id=false:=by
   simp only[PV.qB,ana,List.any_nil,anb]at h;exact eo λe=>by rw[e,en]at h;cases h
  simp[PV.po,this]
 |_=>rfl
def jJ.fin{w0:World}{B:Nat->Prop}{σ:PS}{a:Act}{w:World}{L:Lk}{id:Nat}{nl:Bool}{T n sz:Nat}{el:Nat->Nat->E}(hB:∀ b,B b->b<w0.heap.size)
 (r:jJ w0 B (σ.qG (.rA id (.row nl T n sz el))) a w L):∃ L',jJ w0 B (σ.qG (.fin id)) a w L'/\iR (jM B L') (ky L') w (.sl nl n sz el) (L.val id):=by
 let L':Lk:=⟨λi=>L.oh i/\i≠id,λi x=>L.own i x/\i≠id,L.val,L.jI⟩
 have iO:su L w L' w:=⟨bp _,λx _ ⟨i,h,_⟩=>⟨i,h⟩,λ_ _ _=>rfl⟩
 have wH:∀ i,(σ.qG (.fin id)).bo i=if i=id then none else(σ.qG (.rA id (.row nl T n sz el))).bo i:=by
  intro i;show look (σ.b.filter λx=>!Nat.beq x.1 id) i=if i=id then none else look (Dt σ.b id (.row nl T n sz el)) i
  rw[NA,I6];by_cases h:i=id
  .subst h;simp
  .rw [bl h,bl (λe=>h e.symm),bl (λe=>h e.symm)]
 have ae1:(σ.qG (.rA id (.row nl T n sz el))).bo id=some (.row nl T n sz el):=by
  show look (Dt σ.b id (.row nl T n sz el)) id=_;rw[I6,bn rfl]
 have tq:∀ x,L.own id x->¬jM B L' x:=by
  rintro x hx (h|⟨i,h1,h2⟩)
  .have:=hB x h;have:=(r.hw id x hx).1;omega
  .exact h2 (r.hi i id x h1 hx)
 have hold:iR (jM B L') (ky L') w (.sl nl n sz el) (L.val id):=by
  obtain⟨f,h1,h2,h3⟩:=r.hb id _ ae1;rcases h1 with⟨h0,rfl⟩|⟨b,c,cur,h0,hg,pM,nS,oR,mf,ku⟩
  .rw [h0];exact .sl nl 0 sz el none 0 f (bp _) aF (λ_=>rfl) (λi j hi=>absurd hi (bO i)) (λi j hi=>absurd hi (bO i)) (λi j hi=>absurd hi (bO i)) (λi j hi=>absurd hi (bO i))
  .have rD:=(h2 b).2 (by rw[h0];rfl);rw[h0];refine .sl nl n sz el _ c f pM (by unfold maxLen at nS;omega) (λh=>by cases h) (λi j hi hj=>⟨(mf i j hi hj).2,λhn=>ku hn _ (eu (mf i j hi hj).1)⟩) (λi j hi hj=>(h3 i j hi hj).2)
    (λi j hi hj=>⟨b,0,rfl,tq b rD,(r.hw id b rD).2,?_⟩) (λi j hi hj=>iO.lG (h3 i j hi hj).1)
   rw[b6];simp only[World.cell?,hg];simpa using(mf i j hi hj).1
 refine⟨L',⟨r.hd,r.hs,λt=>?_,λi b' h=>?_,λi=>?_,λi x h=>⟨r.hn i x h.1,h.2⟩,λi x h=>r.hw i x h.1,λi i' x h k=>r.hi i i' x h.1 k.1,r.he,λh i b' k=>?_⟩,hold⟩
 .have k:=r.ht t;rw[PS.Hz]at k ⊢;generalize σ.get t=p at k ⊢;show nJ _ _ _ _ (if p.qB.any (Nat.beq id)then .e .any else p) _;cases hp:p.qB.any (Nat.beq id)with
  |true=>exact .any _
  |false=>
   rw[amh hp]at k;refine nJ.move iO k λi hi vr=>⟨⟨vr,?_⟩,rfl,λ_=>rfl⟩
   rintro rfl;have:=dP.1 hp i hi;simp at this
 .rw [wH]at h;split at h
  .cases h
  .rename_i hi;exact(r.hb i b' h).later iO rfl (λx=>⟨λq=>q.1,λq=>⟨q,hi⟩⟩) (λ_=>rfl) λ_ _=>rfl
 .rw [wH];show L.oh i/\i≠id↔_;by_cases hi:i=id
  .subst hi;simp
  .simp only[hi,dp,fi,and_true,bF];exact r.hv i
 .rw [wH]at k;split at k
  .cases k
  .exact r.hl h i b' k
def Zw{T:List TI}{t:TypeId}{x:TI}(h:mH T t=some x):x ∈ T/\x.id=t:=by
 induction T with
 |nil=>cases h
 |cons y l ih=>
  unfold mH at h;split at h
  .rename_i hb;cases h;exact⟨aJ,mR.1 hb⟩
  .obtain ⟨h1,h2⟩:=ih h;exact⟨by simp[h1],h2⟩
def mI.qD{P:Program}{T:List TI}(hT:mI P T){t:TypeId}{x:TI}(h:mH T t=some x):P.underlying t=some x.d:=by
 obtain⟨h1,h2⟩:=Zw h;rw[<-h2];exact(hT x h1).1
def mI.Ah{P:Program}{T:List TI}(hT:mI P T){t:TypeId}{x:TI}(h:mH T t=some x):P.info? t=some x.i:=by
 obtain⟨h1,h2⟩:=Zw h;rw[<-h2];exact(hT x h1).2
def zM{T:List TI}{t:TypeId}{d:TypeDesc}(h:wu T t=some d):∃ x,mH T t=some x/\x.d=d:=by
 unfold wu at h;split at h
 .rename_i x hx;exact⟨x,hx,by simpa using h⟩
 .cases h
section
variable {P:Program} {T:List TI} (hT:mI P T) (w:World)
include hT
def xi{t:TypeId}{x:TI}(h:mH T t=some x):(sizeOf t).run P w = .ok x.i.size w:=by
 simp[sizeOf,typeInfo,hT.Ah h]
def Pe{t:TypeId}{x:TI}(h:mH T t=some x){z:Value}(hz:x.i.zero=some z):(zeroValue t).run P w = .ok z w:=by
 simp[zeroValue,typeInfo,hT.Ah h,hz]
def JV{t:TypeId}{x:TI}(h:mH T t=some x):(isAgg t).run P w = .ok x.isAgg w:=by
 unfold isAgg TI.isAgg;rw[Sem.run_bind,run_underlying (hT.qD h) w];cases x.d<;>simp
def Yw{t:TypeId}{x:TI}(h:mH T t=some x)(ha:x.isAgg=true)(b o:Nat)(vs:List Value)(hl:vs.length=x.i.size)
 (hc:∀ (j:Nat) (u:Value),vs[j]? = some u->w.cell? ⟨b,o+j,none⟩=some u):(loadVar t ⟨b,o,none⟩).run P w = .ok (.agg vs.toArray) w:=by
 have hr:=run_loadCells_list (P:=P) w ⟨b,o,none⟩ vs (λj v hv=>by rw[Addr.add_lit];exact hc j v hv);rw[hl]at hr;simp[loadVar,JV hT w h,ha,xi hT w h,hr]
def Pd{t:TypeId}{x:TI}(h:mH T t=some x)(ha:x.isAgg=false)(b o:Nat)(u:Value)(hc:w.cell? ⟨b,o,none⟩=some u):(loadVar t ⟨b,o,none⟩).run P w = .ok u w:=by
 simp[loadVar,JV hT w h,ha,hc]
def JW{t:TypeId}{x:TI}(h:mH T t=some x)(b o:Nat)(E:TypeId)(cur:Array Value)(hg:w.heap[b]? = some (.cells cur E (0,0)))(v:Value)(hl:v.cells.toList.length=x.i.size)
 (oe:o+v.cells.toList.length<=cur.size) (h1:∀ u ∈ v.cells.toList,u.oneCell'=true):
 (storeVar t ⟨b,o,none⟩ v).run P w = .ok () (w.setRow b (cur.toList.take o++v.cells.toList++cur.toList.drop (o+v.cells.toList.length)).toArray):=by
 have hr:=run_storeCells_at P b o E v.cells.toList 0 cur w hg (by simpa using oe) h1;simp only[bK]at hr;have pz:v.cells.size=x.i.size:=by simpa using hl
 simp only[storeVar,Sem.run_bind,xi hT w h,Result.andThen,pz,dp,gR,bF,hr,Sem.run_ite,Sem.run_pure]
end
def rS.setRow{L:Lk}{w:World}{id b:Nat}(hb:L.own id b)(iO:∀ x,L.own id x->x<w.heap.size)(cs:Array Value):rS L w id (L.own id) (w.setRow b cs):=
 ⟨λx hx=>⟨.inl hx,by simpa using iO x hx⟩,aJ,λx _ kq=>setRow_other w b x cs (λe=>kq (e▸hb)),rfl,rfl,rfl⟩
def kz(P:Program)(K:World->Prop)(w0:World)(B:Nat->Prop)(σ:PS)(o:Oper)(a:Act)(w:World)(u:kW):Prop:=
 ∃ v w' L',((execOp a.eval o).run P w = .ok (.value v) w'\/((execOp a.eval o).run P w = .ok .skip w'/\v=undef))/\jJ w0 B (σ.qG u.f) a w' L'/\nJ (jM B L') (ky L') L' w' u.r v
section
variable {P:Program} {K:World->Prop} {w0:World} {B:Nat->Prop} {σ:PS} {o:Oper} {a:Act} {w:World} {L:Lk} {u:kW}
def kz.pure(r:jJ w0 B σ a w L){v:Value}(mg:(execOp a.eval o).run P w = .ok (.value v) w)(hf:u.f = .none)(hp:nJ (jM B L) (ky L) L w u.r v):kz P K w0 B σ o a w u:=
 ⟨v,w,L,.inl mg,by rw[hf];exact r,hp⟩
def jJ.read(r:jJ w0 B σ a w L){p:PV}{v:Value}(hp:nJ (jM B L) (ky L) L w p v){m:Nat}{l:List E}{is:List Nat}{ki:List Prop}(h:σ.read p m=some (l,is,ki))(ho:∀ q,q ∈ ki->q):
 ∃ b q vs,v = .pointer (some ⟨b,q,none⟩)/\kB (jM B L) (ky L) w l vs/\vs.length=m/\∀ (j:Nat) (u:Value),vs[j]? = some u->w.cell? ⟨b,q+j,none⟩=some u:=by
 have tab:∀ (b q:Nat) (g:Nat->E) (f:Nat->Value),(∀ j,j<m->w.cell? ⟨b,q+j,none⟩=some (f j)/\iR (jM B L) (ky L) w (g j) (f j)) ->
  ∃ vs:List Value,kB (jM B L) (ky L) w ((List.range m).map g) vs/\vs.length=m/\∀ (j:Nat) (u:Value),vs[j]? = some u->w.cell? ⟨b,q+j,none⟩=some u:=by
  intro b q g f hc;refine⟨(List.range m).map f,⟨aJ,λi p x hp hx=>?_⟩,aJ,λj u hu=>?_⟩
  .rw [cY]at hp hx;obtain⟨i1,xE,rfl⟩:=dm.1 hp;obtain⟨i2,uc,rfl⟩:=dm.1 hx;rw[xE]at uc;cases uc;obtain⟨iO,rfl⟩:=cC.1 xE;simp at iO;simpa using(hc i iO).2
  .rw [cY]at hu;obtain⟨i1,xE,rfl⟩:=dm.1 hu;obtain⟨iO,rfl⟩:=cC.1 xE;simp at iO;simpa using(hc j iO).1
 cases p with
 |box id off=>
  simp only[PS.read]at h;split at h
  .rename_i T l0 kp;split at h
   .rename_i hle;simp only[bV,cD]at h;obtain⟨rfl,rfl,rfl⟩:=h;obtain⟨b,vs,h1,h2,h3,h4,h5⟩:=r.hb id _ kp;obtain⟨_,b',k2,rfl⟩:=hp;rw[h1]at k2;cases k2;have CJ:=dq hle;refine⟨b,off,(vs.drop off).take m,rfl,(h4.drop off).take m,by simp[h4.len];omega,λj u hu=>?_⟩;rw[ff]at hu;split at hu
    .rw [fg]at hu;simp only[World.cell?,h3];simpa using hu
    .cases hu
   .cases h
  .cases h
 |pT id sz i j=>
  simp only[PS.read]at h;split at h
  .rename_i nl T n s el kp;split at h
   .rename_i hle;simp only[bV,cD]at h;obtain⟨rfl,rfl,rfl⟩:=h;simp only[bY]at hle;have e1:=mR.1 hle.1;have e2:=dq hle.2;subst e1;have hi:i<n:=ho _ aJ;obtain⟨f,h1,h2,h3⟩:=r.hb id _ kp;obtain⟨_,b,n',c',k2,rfl⟩:=hp;rcases h1 with⟨h1,_⟩|⟨b',c,cur,h1,hg,pM,nS,oR,mf,ku⟩
    .rw [k2]at h1;cases h1
    .rw [k2]at h1;cases h1;obtain⟨vs,q1,q2,q3⟩:=tab b (i*s+j) (λq=>el i (j+q)) (λq=>f i (j+q)) (λq hq=>⟨by
      simp only[World.cell?,hg];have:=(mf i (j+q) hi aD).1;rw[<-dh]at this;simpa using this,(h3 i (j+q) hi aD).1⟩)
     exact⟨b,i*s+j,vs,rfl,q1,q2,q3⟩
   .cases h
  .cases h
 |e x=>
  cases x with
  |jC k el=>
   simp only[PS.read]at h;split at h
   .rename_i hle;simp only[bV,cD]at h;obtain⟨rfl,rfl,rfl⟩:=h;have CJ:=dq hle;cases hp with
    |jC _ _ b q f hb iO hl cell kk=>
     obtain⟨vs,q1,q2,q3⟩:=tab b q el f (λj hj=>⟨cell j aD,kk j aD⟩);exact⟨b,q,vs,rfl,q1,q2,q3⟩
   .cases h
  |_=>cases h
 |_=>cases h
def Gt{ti:TI}{l:List E}(h:zC ti=some l):∃ z,ti.i.zero=some z/\∀ (bs br:Nat->Prop) (w:World),kB bs br w l z.cells.toList/\∀ u ∈ z.cells.toList,u.oneCell'=true:=by
 unfold zC at h;split at h
 .rename_i z hz;exact⟨z,hz,λbs br w=>(iR.v (bs:=bs) (br:=br) (w:=w) z).cells h⟩
 .cases h
def jJ.WN(r:jJ w0 B σ a w L)(id:Nat)(T:TypeId)(l:List E)(v:Value)(mG:σ.bo id=none)(hv:kB (jM B L) (ky L) w l v.cells.toList)(h1:∀ u ∈ v.cells.toList,u.oneCell'=true)
 (ku:(!σ.nl||l.all E.nW)=true):
 ∃ L',jJ w0 B (σ.qG (.new id (.cells T l))) a (w.alloc (.cells v.cells T)) L'/\nJ (jM B L') (ky L') L' (w.alloc (.cells v.cells T)) (.box id 0) (.pointer (some ⟨w.heap.size,0,none⟩)):=by
 have hb:Below w.heap.size w (w.alloc (.cells v.cells T)):=(Below.refl _ _).alloc (bp _) _;have Uk:∀ x,¬L.own id x:=λx hx=>by have:=(r.hv id).1 (r.hn id x hx);rw[mG]at this;simp at this
 have ht:rS L w id (λx=>x=w.heap.size) (w.alloc (.cells v.cells T)):=⟨λx hx=>⟨.inr aD,aR⟩,hb.size,λx hx _=>hb.block x hx,rfl,rfl,rfl⟩
 have hl:=ht.later (.pointer (some ⟨w.heap.size,0,none⟩)) (λ_=>undef);refine⟨_,r.new id (.cells T l) (λx=>x=w.heap.size) (.pointer (some ⟨w.heap.size,0,none⟩)) (λ_=>undef) _ mG (λx hx=>by subst hx;simp) hb
  ⟨w.heap.size,v.cells.toList,Lk.o9,λx=>Lk.sJ x,by rw[Array.toArray_toList];exact heap_alloc_new w _,hv.mono λ_ _=>hl.lG,h1⟩ ku,Lk.AI,w.heap.size,Lk.o9,rfl⟩
def BH{d:Option Tmp}{b:Bx}{rr:Nat->PV}{ki:List Prop}(h:wZ σ d b rr ki=some u):∃ id,d=some id/\σ.bo id=none/\(!σ.nl||b.nl)=true/\u={ r:=rr id,f:=.new id b,ki:=ki }:=by
 unfold wZ at h;split at h
 .rename_i id;split at h
  .rename_i mG;split at h
   .rename_i hc;cases h;exact⟨id,rfl,mG,hc,rfl⟩
   .cases h
  .cases h
 .cases h
end
def Gp{k:IntKind}{z:Int}(h:nA k z):k.wrap z=z:=by
 cases k<;>simp only[nA]at h<;>simp only[IntKind.wrap,IntKind.bits,IntKind.signed]<;>simp<;>(try split)<;>omega
def aj8{k:IntKind}{x y:Int}(h:nA k x)(hy:0<y):nA k (x.tdiv y):=by
 by_cases h0:0<=x
 .have h1:0<=x/y:=Int.ediv_nonneg h0 aD ;have h2:x/y<=x:=Int.ediv_le_self y h0;rw[anI h0];cases k<;>simp only[nA]at h ⊢ <;> omega
 .obtain ⟨z,rfl⟩:∃ z,x = -z:=⟨-x,aD⟩
  have h0:0<=z:= aD ;have h1:0<=z/y:=Int.ediv_nonneg h0 aD;have h2:z/y<=z:=Int.ediv_le_self y h0;rw[Int.neg_tdiv,anI h0];cases k<;>simp only[nA]at h ⊢ <;> omega
def adk{P:Program}{op:BinOp}{k k':IntKind}{x y:Int}{v:Value}{ki:List Prop}(h:LA op k x y=some (v,ki))(ho:∀ q,q ∈ ki->q)
 (hk:Yz op k k'=true) (t:TypeId) (w:World):(binOp op t (.int k x) (.int k' y)).run P w = .ok v w:=by
 cases op<;>simp only[LA,bV,cD,reduceCtorEq]at h<;>(obtain⟨rfl,rfl⟩:=h)<;>(try (have Iw:=dK hk;subst Iw))
 case add=>
  rw[binOp_add];by_cases HW:k = .u32
  .subst HW;simp[Op.intArith,KF]
  .have e:KF k x y=x+y:=by cases k<;>first|rfl|exact absurd rfl HW
   have e2:Qg k x y=[nA k (x+y)]:=by cases k<;>first|rfl|exact absurd rfl HW
   rw[e];simp[Op.intArith,Gp (ho (nA k (x+y)) (by rw[e2];simp))]
 case sub=>rw[binOp_sub];simp[Op.intArith,Gp (ho (nA k (x-y)) aJ)]
 case mul=>rw[binOp_mul];simp[Op.intArith,Gp (ho (nA k (x*y)) aJ)]
 case quo=>
  have h1:=ho (0<y) aJ;have h2:=ho (nA k x) aJ;rw[binOp_quo];have hy:¬y=0:= aD ;simp[Op.intDiv,hy,Gp (aj8 h2 h1)]
 case rem=>
  have h1:=ho (0<y) aJ;rw[binOp_rem];have hy:¬y=0:= aD ;simp[Op.intDiv,hy]
 case and=>rw[binOp_and,intBits_and];rfl
 case or=>rw[binOp_or,intBits_or];rfl
 case shl=>
  have h1:=ho (0<=y/\y<=k.bits) aJ;rw[binOp_shl,shift_shl k k' x y h1.1 h1.2];rfl
 case shr=>
  have h1:=ho (0<=y/\y<=k.bits) aJ;rw[binOp_shr,shift_shr k k' x y h1.1 h1.2];rfl
 case eql=>rw[binOp_eql];rfl
 case neq=>rw[binOp_neq];rfl
 case lss=>rw[binOp_lss];rfl
 case leq=>rw[binOp_leq];rfl
 case gtr=>rw[binOp_gtr];rfl
 case geq=>rw[binOp_geq];rfl
section
variable {P:Program} {K:World->Prop} {T:List TI} {O:pY} {w0:World} {B:Nat->Prop} {σ:PS} {o:Oper} {a:Act} {w:World} {L:Lk} {u:kW}
def aew{x:Operand}(iE:o.op = .move x)(r:jJ w0 B σ a w L)(h:jQ P K T O σ o=some u):kz P K w0 B σ o a w u:=by
 simp only[jQ,iE]at h;cases h;exact kz.pure r (by simp only[execOp,iE];rfl) rfl (r.op x)
def aed{x:Operand}(iE:o.op = .assign x)(r:jJ w0 B σ a w L)(h:jQ P K T O σ o=some u):kz P K w0 B σ o a w u:=by
 simp only[jQ,iE]at h;cases h;exact kz.pure r (by simp only[execOp,iE];rfl) rfl (r.op x)
def aey{c x y:Operand}(iE:o.op = .pick c x y)(r:jJ w0 B σ a w L)(h:jQ P K T O σ o=some u):kz P K w0 B σ o a w u:=by
 simp only[jQ,iE]at h;have hc:=r.op c;split at h
 .rename_i hv;rw[hv]at hc;have hc:=iR.kN hc;cases h;exact kz.pure r (by simp[execOp,iE,hc,asBool]) rfl (r.op x)
 .rename_i hv;rw[hv]at hc;have hc:=iR.kN hc;cases h;exact kz.pure r (by simp[execOp,iE,hc,asBool]) rfl (r.op y)
 .cases h
def aex{x:Operand}(iE:o.op = .nilCheck x)(r:jJ w0 B σ a w L)(h:jQ P K T O σ o=some u):kz P K w0 B σ o a w u:=by
 simp only[jQ,iE]at h;have hc:=r.op x;split at h
 .rename_i hv;rw[hv]at hc;cases h;obtain⟨k1,b,k2,k3⟩:=hc;exact kz.pure r (v:=a.eval x) (by simp[execOp,iE,k3]) rfl ⟨k1,b,k2,k3⟩
 .rename_i hv;rw[hv]at hc;cases h;generalize hq:a.eval x=q at hc;refine kz.pure r (v:=q) ?_ rfl hc;cases hc;simp only[execOp,iE,hq];rfl
 .rename_i hv;rw[hv]at hc;cases h;refine kz.pure r (v:=a.eval x) ?_ rfl hc;obtain⟨vs,e,_⟩:=iR.Tc hc;simp only[execOp,iE,e];rfl
 .rename_i hv;rw[hv]at hc;cases h;refine kz.pure r (v:=a.eval x) ?_ rfl hc;obtain⟨vs,e,_⟩:=hc;simp only[execOp,iE,e];rfl
 .cases h
def aee(hT:mI P T){op:BinOp}{t yt:TypeId}{x y:Operand}(iE:o.op = .binOp op t x y yt)(r:jJ w0 B σ a w L)(h:jQ P K T O σ o=some u)(ho:∀ q,q ∈ u.ki->q):kz P K w0 B σ o a w u:=by
 simp only[jQ,iE]at h;have hx:=r.op x;have hy:=r.op y;split at h
 .rename_i k z k' z' uw BB;rw[uw]at hx;rw[BB]at hy;have hx:=iR.kN hx;have hy:=iR.kN hy;split at h
  .rename_i hk;obtain⟨rr,hr,rfl⟩:=dm.1 h;have mg:=adk (P:=P) (k':=k') hr ho hk t w;refine kz.pure r (v:=rr.1) ?_ rfl (.v _);simp only[execOp,iE,hx,hy,Sem.run_bind,eqGuard_at_int,Sem.run_pure,Result.andThen_ok,mg]
  .cases h
 .rename_i z z' uw BB;rw[uw]at hx;rw[BB]at hy;have hx:=iR.kN hx;have hy:=iR.kN hy;split at h
  .rename_i hd;obtain⟨ti,h1,h2⟩:=zM hd;have hu:P.underlying t=some .bool:=by rw[hT.qD h1,h2]
   split at h
   .cases h;refine kz.pure r (v:=.bool (z==z')) ?_ rfl (.v _);simp only[execOp,iE,hx,hy,Sem.run_bind,eqGuard_at_bool,Sem.run_pure,Result.andThen_ok,run_eql_bool w t z z' hu]
   .cases h;refine kz.pure r (v:=.bool (!(z==z'))) ?_ rfl (.v _);simp only[execOp,iE,hx,hy,Sem.run_bind,eqGuard_at_bool,Sem.run_pure,Result.andThen_ok];have:(binOp .neq t (.bool z) (.bool z')).run P w = .ok (.bool (!(z==z'))) w:=by
     simp only[binOp,Sem.run_bind,run_equal_bool w t z z' hu,Result.andThen_ok,Sem.run_pure]
    rw[this];rfl
   .cases h
  .cases h
 .rename_i nl n sz el uw BB;rw[uw]at hx;rw[BB]at hy;have hy:=iR.kN hy;have hx:iR (jM B L) (ky L) w (.sl nl n sz el) (a.eval x):=hx;split at h
  .rename_i e hd;obtain⟨ti,h1,h2⟩:=zM hd;have hu:P.underlying t=some (.slice e):=by rw[hT.qD h1,h2]
   have key:∀ A c,0<n->a.eval x = .slice A n c->iR (jM B L) (ky L) w (.sl nl n sz el) (.slice A n c)->A.isNone=false:=by
    intro A c hn e1 hr;cases A with
    |some ad=>rfl
    |none=>
     cases hr with
     |sl _ _ _ _ _ _ f hc hm h0=>have:=h0 rfl;omega
   generalize hv:a.eval x=vx at hx;cases hx with
   |sl _ _ _ _ A c f hc hm h0 hl hr cell k=>
    have uk:iR (jM B L) (ky L) w (.sl nl n sz el) (.slice A n c):=.sl nl n sz el A c f hc hm h0 hl hr cell k;split at h
    .cases h;have hn:0<n:=ho _ aJ;refine kz.pure r (v:=.bool false) ?_ rfl (.v _);simp only[execOp,iE,hv,hy,Sem.run_bind,eqGuard_at_slice,Sem.run_pure,Result.andThen_ok,Lib.run_eql_slice_nil w t e A n c 0 0 hu,key A c hn hv uk]
    .cases h;have hn:0<n:=ho _ aJ;refine kz.pure r (v:=.bool true) ?_ rfl (.v _);simp only[execOp,iE,hv,hy,Sem.run_bind,eqGuard_at_slice,Sem.run_pure,Result.andThen_ok,run_neq_slice_nil_any w t e A n c 0 0 hu,key A c hn hv uk,eU]
    .cases h
  .cases h
 .rename_i xe ye uw BB;rw[uw]at hx;rw[BB]at hy;split at h
  .rename_i v hv;cases h;obtain⟨h1,h2⟩:=ho _ (List.mem_singleton.2 rfl) _ _ w _ _ x y hx hy;refine kz.pure r (v:=v) ?_ rfl (.v _);simp only[execOp,iE,Sem.run_bind,h1,Result.andThen_ok,h2,Sem.run_pure]
  .cases h
 .cases h
def aeB{op:UnOp}{t:TypeId}{x:Operand}(iE:o.op = .unOp op t x)(r:jJ w0 B σ a w L)(h:jQ P K T O σ o=some u)(ho:∀ q,q ∈ u.ki->q):kz P K w0 B σ o a w u:=by
 simp only[jQ,iE]at h;have hx:=r.op x;split at h
 .rename_i z hv;rw[hv]at hx;have hx:=iR.kN hx;cases h;exact kz.pure r (v:=.bool (!z)) (by simp[execOp,iE,hx,Op.unary]) rfl (.v _)
 .rename_i k z hv;rw[hv]at hx;have hx:=iR.kN hx;cases h;have:=Gp (ho (nA k (0-z)) aJ);refine kz.pure r (v:=.int k (0-z)) ?_ rfl (.v _);simp only[execOp,iE,hx,Op.unary,Op.intArith,this];rfl
 .cases h
def aei(hT:mI P T){src dst:TypeId}{x:Operand}(iE:o.op = .convert src dst x)(r:jJ w0 B σ a w L)(h:jQ P K T O σ o=some u):kz P K w0 B σ o a w u:=by
 simp only[jQ,iE]at h;have hx:=r.op x;split at h
 .rename_i k ts k' z hd hs hv;rw[hv]at hx;have hx:=iR.kN hx;obtain⟨td,h1,h2⟩:=zM hd;have hu:P.underlying dst=some (.int k):=by rw[hT.qD h1,h2]
  have hk:P.intKind dst=k:=by simp[Program.intKind,hu]
  have mg:=run_convert_int (P:=P) w src dst k' z (by rw[hT.qD hs];rfl) (by rw[hk];exact hu);rw[hk]at mg;cases h;exact kz.pure r (v:=.int k (k.wrap z)) (by simp only[execOp,iE,hx,Sem.run_bind,mg];rfl) rfl (.v _)
 .cases h
def aej{x:Operand}{i:Nat}(iE:o.op = .extract x i)(r:jJ w0 B σ a w L)(h:jQ P K T O σ o=some u):kz P K w0 B σ o a w u:=by
 simp only[jQ,iE]at h;have hx:=r.op x;split at h
 .rename_i l hv;rw[hv]at hx;obtain⟨vs,e,hr⟩:=iR.Zu hx;split at h
  .rename_i y hy;cases h;have iO:i<vs.length:=by rw[hr.len];exact(cC.1 hy).1
   have CX:=bD iO;refine kz.pure r (v:=vs[i]) ?_ rfl (hr.lG i y _ hy CX);simp only[execOp,iE,e,Instr.extract,gP,CX];rfl
  .cases h
 .cases h
def Wq{bs:Nat->Prop}{z:Int}{e:E}:∀ {l:List (Int×FuncId×List FuncId)} {es:List MapEntry} (i:Nat),AS bs w l es->xT l z=some e->(∀ b,ky L b->bs b) ->
 ∃ j v,Instr.findNow (.int .i64) (.int .i64 z) es i=some (some (j,v))/\iR bs (ky L) w e v
 | [],_,_,_,h,_=>by cases h
 |_::_,[],_,k,_,_=>k.elim
 |x::l,y::es,i,⟨⟨k1,vs,k2,k3,k4⟩,k⟩,h,hm=>by
  unfold xT at h;have e0:Instr.sameNow (.int .i64) (.int .i64 z) y.key=some (z==x.1):=by rw[k1];rfl
  by_cases hz:x.1=z
  .rw [bn hz]at h;cases h;have e1:(z==x.1)=true:=by simp[hz]
   refine⟨i,y.val,?_,?_⟩
   .rw [Instr.findNow,e0,e1]
   .rw [k2];refine .fn _ _ vs (by simpa using k3) λj p v hp hv=>?_
    rw[cY]at hp;obtain⟨g,hg,rfl⟩:=dm.1 hp;obtain⟨b,rfl,q2,q3,q4⟩:=k4 j g v hg hv;have hc:∀ q,q<1->w.cell? ⟨b,0+q,none⟩=some (.func (.func g) #[] #[]):=λq hq=>by
     obtain rfl:q=0:= aD ;exact q4
    exact .jC 1 _ b 0 (λ_=>.func (.func g) #[] #[]) (λh=>q2 (hm b h)) q3 (λ_ _=>rfl) hc λ_ _=>.fn g [] [] rfl (λi p x h=>by simp at h)
  .rw [bl hz]at h;have e1:(z==x.1)=false:=by simp;exact λe=>hz e.symm
   obtain⟨j,v,q1,q2⟩:=Wq (i+1) k h hm;exact⟨j,v,by rw[Instr.findNow,e0,e1];exact q1,q2⟩
def abE{k:TypeId}(hk:P.underlying k=some (.int .i64))(e:Bool)(n:Nat)(z:Int):(Instr.checkKey e (n+1) k (.int .i64 z)).run P w = .ok () w:=by
 unfold Instr.checkKey;simp only[Sem.run_bind,run_underlying hk,Result.andThen];rfl
def aeq(hT:mI P T){t:TypeId}{x i:Operand}{ok:Bool}(iE:o.op = .lookup t x i ok)(r:jJ w0 B σ a w L)(h:jQ P K T O σ o=some u)(ho:∀ q,q ∈ u.ki->q):kz P K w0 B σ o a w u:=by
 cases ok with
 |true=>simp[jQ,iE]at h
 |false=>
 simp only[jQ,iE]at h;have hx:=r.op x;have hi:=r.op i;split at h
 .rename_i l z k e0 hv hw hd;obtain⟨ti,h1,h2⟩:=zM hd;have hu:P.underlying t=some (.map k e0):=by rw[hT.qD h1,h2]
  rw[hv]at hx;rw[hw]at hi;have hi:=iR.kN hi;split at h
  .rename_i e sy hg;obtain⟨tk,h3,h4⟩:=zM sy;have hk:P.underlying k=some (.int .i64):=by rw[hT.qD h3,h4]
   cases h;have afb:xT l z=some e:=ho _ aJ;generalize hq:a.eval x=q at hx;cases hx with
   |mp _ b clk es hb iO hh lg=>
    obtain⟨j,v,q1,q2⟩:=Wq (w:=w) (L:=L) 0 lg afb λb h=>.inr h
    refine kz.pure r (v:=v) ?_ rfl q2;have hgo:(getObj b).run P w = .ok (.map es clk) w:=by simp[getObj,Sem.run,hh]
    have Mu:=abE (P:=P) (w:=w) hk es.isEmpty 9999 z;have hfk:(Instr.findKey k (.int .i64 z) es.toList).run P w = .ok (some (j,v)) w:=by unfold Instr.findKey;simp[run_underlying hk,Result.andThen,q1]
    have hl:(Instr.lookup t (.map (some b)) (.int .i64 z) false).run P w = .ok v w:=by
     unfold Instr.lookup;simp[run_underlying hu,hgo,Mu,hfk,Result.andThen]
    simp only[execOp,iE,hq,hi,Sem.run_bind,hl,Result.andThen_ok,Sem.run_pure]
  .cases h
 .cases h
def aek(hT:mI P T){t:TypeId}{x:Operand}{f:Nat}(iE:o.op = .field t x f)(r:jJ w0 B σ a w L)(h:jQ P K T O σ o=some u):kz P K w0 B σ o a w u:=by
 simp only[jQ,iE]at h;have hx:=r.op x;split at h
 .rename_i l fs hv hd;obtain⟨ti,h1,h2⟩:=zM hd;have hu:P.underlying t=some (.struct fs):=by rw[hT.qD h1,h2]
  rw[hv]at hx;obtain⟨vs,e,hr⟩:=iR.Cj hx;split at h
  .rename_i fd MB;split at h
   .rename_i ft ME;split at h
    .cases h
    .rename_i hag;split at h
     .rename_i y hy;cases h;have iO:fd.offset<vs.length:=by rw[hr.len];exact(cC.1 hy).1
      have CX:=bD iO;refine kz.pure r (v:=vs[fd.offset]) ?_ rfl (hr.lG fd.offset y _ hy CX);simp only[execOp,iE,e,Instr.field,asAgg,Sem.run_bind,Sem.run_pure,Result.andThen_ok,run_underlying hu,MB,part,JV hT w ME,hag,gP,CX];rfl
     .cases h
   .cases h
  .cases h
 .cases h
def abg{ps:List PV}{l:List CV}{vs:List Value}(h:yy ps=some l)(hlen:vs.length=ps.length)(hr:∀ (i:Nat) (p:PV) (x:Value),ps[i]? = some p->vs[i]? = some x->nJ (jM B L) (ky L) L w p x):
 vs.length=l.length/\∀ (i:Nat) (c:CV) (x:Value),l[i]? = some c->vs[i]? = some x->yo (jM B L) (ky L) L w c x:=by
 induction ps generalizing l vs with
 |nil=>cases h;exact⟨hlen,λi c x hc=>by simp at hc⟩
 |cons p ps ih=>
  cases vs with
  |nil=>simp at hlen
  |cons y vs=>
   have step:∀ (c0:CV) (l':List CV),yy ps=some l'->yo (jM B L) (ky L) L w c0 y->l=c0::l' ->
    (y::vs).length=l.length/\∀ (i:Nat) (c:CV) (x:Value),l[i]? = some c->(y::vs)[i]? = some x->yo (jM B L) (ky L) L w c x:=by
    intro c0 l' pz om hl;obtain⟨i1,i2⟩:=ih pz (by simpa using hlen) (λi p x hp hx=>hr (i+1) p x (by simpa using hp) (by simpa using hx));subst hl;refine⟨by simp[i1],λi c x hc hx=>?_⟩;cases i with
    |zero=>simp at hc hx;subst hc hx;exact om
    |succ i=>simp at hc hx;exact i2 i c x hc hx
   have h0:=hr 0 p y rfl rfl;cases p with
   |e x=>
    simp only[yy]at h;obtain⟨l',pz,rfl⟩:=dm.1 h;exact step (.e x) l' pz h0 rfl
   |box id off=>
    cases off with
    |zero=>
     simp only[yy]at h;obtain⟨l',pz,rfl⟩:=dm.1 h;exact step (.box id) l' pz h0 rfl
    |succ=>simp[yy]at h
   |_=>simp[yy]at h
def aer{fn:Fn}{first cap:Array Operand}(iE:o.op = .makeFunc fn first cap)(r:jJ w0 B σ a w L)(h:jQ P K T O σ o=some u):kz P K w0 B σ o a w u:=by
 cases fn with
 |func f=>
  simp only[jQ,iE]at h;split at h
  .rename_i ae8;have hf:first = #[]:=by simpa using ae8
   subst hf;split at h
   .rename_i l hl;cases h;have hc:=abg (B:=B) (L:=L) (w:=w) (vs:=cap.toList.map a.eval) hl aJ (λi p x hp hx=>by
     rw[cY]at hp hx;obtain⟨q,hq,rfl⟩:=dm.1 hp;rw[hq]at hx;simp at hx;subst hx;exact r.op q)
    refine kz.pure r (v:=.func (.func f) #[] (cap.toList.map a.eval).toArray) ?_ rfl ⟨cap.toList.map a.eval,rfl,hc.1,hc.2⟩;have e1:cap.map a.eval=(cap.toList.map a.eval).toArray:=by apply dQ;simp
    have e2:(#[]:Array Operand).map a.eval = #[]:= aJ ;simp only[execOp,iE,Instr.makeFunc,e1,e2,Sem.run_bind,Sem.run_pure,Result.andThen_ok]
   .cases h
  .cases h
 |_=>simp[jQ,iE]at h
def aem(hT:mI P T){t:TypeId}{x i:Operand}(iE:o.op = .index t x i)(r:jJ w0 B σ a w L)(h:jQ P K T O σ o=some u)(ho:∀ q,q ∈ u.ki->q):kz P K w0 B σ o a w u:=by
 simp only[jQ,iE]at h;have hx:=r.op x;have hi:=r.op i;split at h
 .rename_i l k z hv hw;rw[hv]at hx;rw[hw]at hi;have ei:=iR.kN hi;obtain⟨vs,e,hr⟩:=iR.Cj hx;split at h
  .rename_i tt rE;split at h
   .rename_i n e' hd;have hu:P.underlying t=some (.array n e'):=by rw[hT.qD rE,hd]
    split at h
    .rename_i te pB;split at h
     .rename_i hc;simp only[bY,mR]at hc;cases h;obtain⟨yV,tE⟩:=ho (0<=z/\z<n) aJ;refine kz.pure r (v:=.agg ((vs.drop (z.toNat*te.i.size)).take te.i.size).toArray) ?_ rfl ((hr.drop _).take _).agg;simp only[execOp,iE,e,ei,Instr.index,asIntOf,Sem.run_bind,Sem.run_pure,Result.andThen_ok,run_underlying hu,yV,tE,and_self,bN,xi hT w pB,part,JV hT w pB,hc.1];simp
     .cases h
    .cases h
   .cases h
  .cases h
 .cases h
def ael(hT:mI P T){t:TypeId}{x:Operand}{f:Nat}(iE:o.op = .fieldAddr t x f)(r:jJ w0 B σ a w L)(h:jQ P K T O σ o=some u):kz P K w0 B σ o a w u:=by
 simp only[jQ,iE]at h;have hx:=r.op x;split at h
 .rename_i fs hd;obtain⟨ti,h1,h2⟩:=zM hd;have hu:P.underlying t=some (.struct fs):=by rw[hT.qD h1,h2]
  split at h
  .rename_i fd MB;split at h
   .rename_i ft ME;split at h
    .cases h
    .rename_i kq;have afj:¬ft.i.size=0:=λe=>kq (mR.2 e)
     have mg:∀ b off,a.eval x = .pointer (some ⟨b,off,none⟩)->(execOp a.eval o).run P w = .ok (.value (.pointer (some ⟨b,off+fd.offset,none⟩))) w:=by
      intro b off e;simp only[execOp,iE,e,Instr.fieldAt,Instr.sureAddr,fieldPlace,Sem.run_bind,run_underlying hu,Result.andThen_ok,MB,Sem.run_pure,xi hT w ME,afj,bF,Addr.add_lit]
     split at h
     .rename_i id off hv;rw[hv]at hx;obtain⟨k1,b,k2,k3⟩:=hx;cases h;exact kz.pure r (mg b off k3) rfl ⟨k1,b,k2,rfl⟩
     .rename_i id sz i j hv;rw[hv]at hx;obtain⟨k1,b,n,c,k2,k3⟩:=hx;cases h;exact kz.pure r (mg b _ k3) rfl ⟨k1,b,n,c,k2,by rw[dh]⟩
     .rename_i m el hv;rw[hv]at hx;split at h
      .rename_i hle;have CJ:=dq hle;cases h;generalize hq:a.eval x=q at hx;cases hx with
       |jC _ _ b off g hb iO hl cell kk=>
        refine kz.pure r (mg b off hq) rfl (.jC _ _ b _ (λj=>g (fd.offset+j)) hb iO (λj hj=>hl _ aD) (λj hj=>?_) (λj hj=>kk _ aD));have:=cell (fd.offset+j) aD;rwa[<-dh]at this
      .cases h
     .cases h
   .cases h
  .cases h
 .cases h
end
section
variable {P:Program} {K:World->Prop} {T:List TI} {O:pY} {w0:World} {B:Nat->Prop} {σ:PS} {o:Oper} {a:Act} {w:World} {L:Lk} {u:kW}
def agC(hT:mI P T){t:TypeId}{x:Operand}{ti:TI}(oX:mH T t=some ti)(iE:o.op = .load t x)(r:jJ w0 B σ a w L)(h:Fl ti (σ.read (σ.op x) ti.i.size)=some u)(ho:∀ q,q ∈ u.ki->q):kz P K w0 B σ o a w u:=by
 cases hr:σ.read (σ.op x) ti.i.size with
 |none=>rw[hr]at h;cases h
 |some y=>
  obtain⟨l,is,ki⟩:=y;rw[hr]at h;simp only[Fl]at h;by_cases ha:ti.isAgg=true
  .rw [bn ha]at h;cases h;obtain⟨b,q,vs,e,h1,h2,h3⟩:=r.read (r.op x) hr ho;refine kz.pure r (v:=.agg vs.toArray) ?_ rfl h1.agg;simp only[execOp,iE,e,Instr.loadAt,Instr.sureAddr,Sem.run_bind,Sem.run_pure,Result.andThen_ok,Yw hT w oX ha b q vs h2 h3]
  .rw [bl ha]at h;have Ml:ti.isAgg=false:=by simpa using ha
   split at h
   .rename_i p;cases h;obtain⟨b,q,vs,e,h1,h2,h3⟩:=r.read (r.op x) hr ho;obtain⟨y,ys,rfl,hy,CZ⟩:=h1.my;refine kz.pure r (v:=y) ?_ rfl hy;have hc:=h3 0 y rfl;simp only[execOp,iE,e,Instr.loadAt,Instr.sureAddr,Sem.run_bind,Sem.run_pure,Result.andThen_ok,Pd hT w oX Ml b q y (by simpa using hc)]
   .cases h
def aep(hT:mI P T){t:TypeId}{x:Operand}(iE:o.op = .load t x)(r:jJ w0 B σ a w L)(h:jQ P K T O σ o=some u)(ho:∀ q,q ∈ u.ki->q):kz P K w0 B σ o a w u:=by
 simp only[jQ,iE,Ho]at h;split at h
 .rename_i ti oX;split at h
  .rename_i id i n pA;by_cases ha:ti.isAgg=true
   .rw [bn ha]at h;cases h
   .rw [bl ha]at h;have Ml:ti.isAgg=false:=by simpa using ha
    cases h;have hx:=r.op x;cases hp:σ.op x with
    |pT id' sz i' j=>
     rw[hp]at pA hx;simp only[BX]at pA;split at pA
     .rename_i nl T1 T0 n' sz' len el kp;split at pA
      .rename_i hc;simp only[bV,cD]at pA;obtain⟨rfl,rfl,rfl⟩:=pA;simp only[bY]at hc;have e1:=mR.1 hc.1;have e2:=mR.1 hc.2;subst e1 e2;have hi:i'<n':=ho _ aJ;obtain⟨b,c,cur,f,h1,h2,h3,h4,h5,h6,h7,h8,h9,rY,vn⟩:=r.hb id' _ kp;obtain⟨k1,b',n2,c2,k2,k3⟩:=hx;rw[h1]at k2;cases k2;refine kz.pure r (v:=L.jI id' i') ?_ rfl ⟨k1,rfl⟩;have mf:w.cell? ⟨b,i'*1+0,none⟩=some (L.jI id' i'):=by
        simp only[World.cell?,h2];simpa using h6 i' hi aJ 
       simp only[execOp,iE,k3,Instr.loadAt,Instr.sureAddr,Sem.run_bind,Sem.run_pure,Result.andThen_ok,Pd hT w oX Ml b _ _ mf]
      .cases pA
     .cases pA
    |_=>rw[hp]at pA;cases pA
  .exact agC hT oX iE r h ho
 .cases h
def Xk{bs br:Nat->Prop}{l m:List E}{vs us:List Value}(h:kB bs br w l vs)(k:kB bs br w m us)(off:Nat):kB bs br w (Av l off m) (vs.take off++us++vs.drop (off+us.length)):=by
 unfold Av;rw[k.len];exact((h.take off).app k).app (h.drop _)
def aiq{q:E->Bool}{l m:List E}(h:l.all q=true)(k:m.all q=true)(off:Nat):(Av l off m).all q=true:=by
 unfold Av;rw[List.all_append,List.all_append,k];have h1:(l.take off).all q=true:=ct.2 λx hx=>ct.1 h x (fu hx)
 have h2:(l.drop (off+m.length)).all q=true:=ct.2 λx hx=>ct.1 h x (fw hx)
 rw[h1,h2];rfl
def aeA(hT:mI P T){t:TypeId}{x y:Operand}(iE:o.op = .store t x y)(r:jJ w0 B σ a w L)(h:jQ P K T O σ o=some u)(ho:∀ q,q ∈ u.ki->q):kz P K w0 B σ o a w u:=by
 simp only[jQ,iE,Hr]at h;have hx:=r.op x;have hy:=r.op y;split at h
 .rename_i ti oX;split at h
  .
   rename_i id off e r7 EP;rw[r7]at hx;rw[EP]at hy;split at h
   .rename_i T1 l m kp hm;split at h
    .rename_i hc;cases h;simp only[bY]at hc;have c1:=mR.1 hc.1.1;have c2:=dq hc.1.2;obtain⟨b,vs,h1,h2,h3,h4,h5⟩:=r.hb id _ kp;obtain⟨k1,b',k2,k3⟩:=hx;rw[h1]at k2;cases k2;obtain⟨q1,q2⟩:=hy.cells hm;have ht:=rS.setRow (L:=L) ((h2 b).2 rfl) (λx hx=>(r.hw id x hx).2) (vs.take off++(a.eval y).cells.toList++vs.drop (off+(a.eval y).cells.toList.length)).toArray;have hl:=ht.later (L.val id) (L.jI id);refine⟨undef,_,_,.inr ⟨?_,rfl⟩,r.uJ id (.cells T1 (Av l off m)) _ k1 ht ⟨b,_,by rw[Lk.o9];exact h1,λx=>(Lk.sJ x).trans (h2 x),setRow_heap w b _ _ T1 _ h3,(Xk h4 q1 off).mono λ_ _=>hl.lG,?_⟩ ?_,.any _⟩
     .have hr:=JW hT w oX b off T1 vs.toArray h3 (a.eval y) (by rw[q1.len,c1]) (by rw[q1.len,gj,h4.len];exact c2) q2;simp only[execOp,iE,k3,Instr.storeAt,Instr.sureAddr,Sem.run_bind,Sem.run_pure,Result.andThen_ok,hr]
     .intro v hv;simp only[eC]at hv;rcases hv with(hv|hv)|hv
      .exact h5 v (fu hv)
      .exact q2 v hv
      .exact h5 v (fw hv)
     .intro hn;have:=hc.2;rw[hn]at this;exact aiq (r.hl hn id _ kp) (by simpa using this) off
    .cases h
   .cases h
  .
   rename_i id sz i j e r7 EP;rw[r7]at hx;rw[EP]at hy;split at h
   .rename_i nl T1 n s el m kp hm;split at h
    .rename_i hc;cases h;simp only[bY]at hc;have c1:=mR.1 hc.1.1.1.1;have c2:=mR.1 hc.1.1.1.2;have c3:=dq hc.1.1.2;subst c2;have hi:i<n:=ho _ aJ;obtain⟨f,h1,h2,h3⟩:=r.hb id _ kp;obtain⟨k1,b',n',c',k2,k3⟩:=hx;rcases h1 with⟨h1,_⟩|⟨b,c,cur,h1,hg,pM,nS,oR,mf,ku⟩
     .rw [k2]at h1;cases h1
     .rw [k2]at h1;cases h1;obtain⟨q1,q2⟩:=hy.cells hm;have oq:L.own id b':=(h2 b').2 (by rw[k2];rfl);have amA:i*s+s<=cur.size:=by
       rw[oR];have:=bR s (aD:i+1<=c');rwa[b8,ck]at this
      have oe:i*s+j+(a.eval y).cells.toList.length<=cur.size:=by rw[q1.len];omega
      have ht:=rS.setRow (L:=L) oq (λx hx=>(r.hw id x hx).2) (cur.toList.take (i*s+j)++(a.eval y).cells.toList++cur.toList.drop (i*s+j+(a.eval y).cells.toList.length)).toArray;have hl:=ht.later (L.val id) (L.jI id);refine⟨undef,_,_,.inr ⟨?_,rfl⟩,r.uJ id _ _ k1 ht ⟨λi' j'=>if i'=i/\j<=j'/\j'<j+m.length then(a.eval y).cells.toList.getD (j'-j) undef else f i' j',?_,λx=>?_,?_⟩ ?_,.any _⟩
      .have hr:=JW hT w oX b' (i*s+j) T1 cur hg (a.eval y) (by rw[q1.len,c1]) oe q2;simp only[execOp,iE,k3,Instr.storeAt,Instr.sureAddr,Sem.run_bind,Sem.run_pure,Result.andThen_ok,hr]
      .rw [Lk.o9];refine .inr ⟨b',c',_,k2,setRow_heap w b' _ _ T1 _ hg,pM,nS,?_,?_,?_⟩
       .simp only[gj,cJ,cG,fh,er];have ae9:=oe;simp only[er]at ae9;rw[dD aD];omega
       .intro i' j' ml qX;obtain⟨o1,o2⟩:=mf i' j' ml qX;have hlen:i'*s+j'<cur.size:=by
         rw[oR];have:=bR s (aD:i'+1<=c');rw[b8,ck]at this;omega
        have pV:i'≠i->i'*s+j'<i*s\/i*s+s<=i'*s+j':=by
         intro kq;rcases Nat.lt_or_gt_of_ne kq with iO|iO
         .left;have:=bR s (show i'+1<=i from iO);rw[b8,ck]at this;omega
         .right;have:=bR s (show i+1<=i' from iO);rw[b8,ck]at this;omega
        simp only[gP];rw[List.append_assoc,fZ,cG,er,dD aD];by_cases mq:i'=i/\j<=j'/\j'<j+m.length
        .obtain ⟨rfl,p1,p2⟩:=mq;rw[bl aD,eW (by rw[q1.len];omega)];have e1:i'*s+j'-(i'*s+j)=j'-j:= aD ;have iO:j'-j<(a.eval y).cells.toList.length:=by rw[q1.len];omega
         rw[bn ⟨rfl,p1,p2⟩,e1,bu,bD iO];exact⟨rfl,q2 _ (cO iO)⟩
        .rw [bl mq];refine⟨?_,o2⟩;by_cases jt:i'*s+j'<i*s+j
         .rw [bn jt,ff,bn jt];simpa using o1
         .rw [bl jt,gi,fg]
          .have:i*s+j+(a.eval y).cells.toList.length+(i'*s+j'-(i*s+j)-(a.eval y).cells.toList.length)=i'*s+j':=by
            rw[q1.len];by_cases EA:i'=i
            .subst EA;omega
            .have:=pV EA;omega
           rw[this];simpa using o1
          .rw [q1.len];by_cases EA:i'=i
           .subst EA;omega
           .have:=pV EA;omega
       .intro hn v hv;simp only[gQ,eC]at hv;rcases hv with(hv|hv)|hv
        .exact ku hn v (by have:=fu hv;simpa using this)
        .obtain ⟨q,hq⟩:=dO.1 hv;have vw:q<m.length:=by rw[<-q1.len];exact(cC.1 hq).1
         have hmn:m.all E.nW=true:=by have:=hc.1.2;rw[hn]at this;simpa using this
         exact(q1.lG q _ v (bD vw) hq).nW (ct.1 hmn _ (cO vw))
        .exact ku hn v (by have:=fw hv;simpa using this)
      .rw [Lk.o9];exact(Lk.sJ x).trans (h2 x)
      .intro i' j' ml qX;refine(λ(q:iR _ _ _ _ _/\_)=>⟨hl.lG q.1,q.2⟩) (?_:_/\_);dsimp only;by_cases mq:i'=i/\j<=j'/\j'<j+m.length
       .rw [bn mq,bn mq];have IC:j'-j<m.length:= aD ;have BA:j'-j<(a.eval y).cells.toList.length:=by rw[q1.len];omega
        rw[bu,bD IC,bu,bD BA];exact⟨q1.lG _ _ _ (bD IC) (bD BA),ct.1 hc.2 _ (cO IC)⟩
       .rw [bl mq,bl mq];exact h3 i' j' ml qX
      .intro hn;have:=r.hl hn id _ kp;exact this
    .cases h
   .cases h
  .
   rename_i id i id' k r7 EP;rw[r7]at hx;rw[EP]at hy;split at h
   .rename_i nl T1 T0 n sz len el k' kp;split at h
    .rename_i hc;cases h;simp only[bY]at hc;have c1:=mR.1 hc.1;have c2:=mR.1 hc.2;subst c1;have e1:i=k':=ho _ aJ;have e2:k=k':=ho _ aJ;have hk:k'<n:=ho _ aJ;subst e1 e2;obtain⟨b,c,cur,f,h1,h2,h3,h4,h5,h6,h7,h8,h9,rY,vn⟩:=r.hb id _ kp;obtain⟨k1,b',n',c',k2,k3⟩:=hx;obtain⟨_,IS⟩:=hy;rw[h1]at k2;cases k2;have wQ:(L.jI id k).oneCell'=true/\tG (L.jI id k)=false/\(L.jI id k).cells = #[L.jI id k]:=by
      rcases(h8 k hk).1 with⟨e,_⟩|⟨_,_,_,e,_⟩<;>rw[e]<;>exact⟨rfl,rfl,rfl⟩
     have oq:L.own id b:=(h9 b).2 (.inl rfl);have ht:=rS.setRow (L:=L) oq (λx hx=>(r.hw id x hx).2) (cur.toList.take (k*1+0)++(a.eval y).cells.toList++cur.toList.drop (k*1+0+(a.eval y).cells.toList.length)).toArray;have hl:=ht.later (L.val id) (L.jI id);have xC:(a.eval y).cells.toList=[L.jI id k]:=by rw[IS,wQ.2.2]
     have Uh:(cur.toList.take (k*1+0)++(a.eval y).cells.toList++cur.toList.drop (k*1+0+(a.eval y).cells.toList.length)).toArray=cur.setIfInBounds k (L.jI id k):=by
      rw[xC];apply dQ;simp only[cg,bK,gK,anJ];rw[List.set_eq_take_append_cons_drop,bn (by simpa using(aD:k<cur.size))];simp
     rw[Uh]at ht hl;have Ix:∀ x,x≠b->(w.setRow b (cur.setIfInBounds k (L.jI id k))).heap[x]? = w.heap[x]?:=λx hx=>setRow_other w b x _ hx
     refine⟨undef,_,_,.inr ⟨?_,rfl⟩,r.uJ id _ _ k1 ht ⟨b,c,cur.setIfInBounds k (L.jI id k),f,by rw[Lk.o9];exact h1,setRow_heap w b _ _ T1 _ h2,h3,h4,by simpa using h5,?_,?_,?_,?_,?_,?_⟩ ?_,.any _⟩
     .have hr:=JW hT w oX b (k*1+0) T1 cur h2 (a.eval y) (by rw[xC];simpa using c2.symm) (by rw[xC];simp;omega) (by rw[xC];simpa using wQ.1);rw[Uh]at hr;simp only[execOp,iE,k3,Instr.storeAt,Instr.sureAddr,Sem.run_bind,Sem.run_pure,Result.andThen_ok,hr]
     .intro q hq _;rw[Lk.rH];by_cases tD:q=k
      .subst tD;have:q<cur.size:= aD ;simp[this]
      .rw [am7 (λe=>tD e.symm)];exact h6 q hq (by simpa using λe=>tD e.symm)
     .intro v hv;rcases Array.mem_or_eq_of_mem_setIfInBounds hv with hv|hv
      .exact h7 v hv
      .subst hv;exact⟨wQ.1,wQ.2.1⟩
     .intro q hq;obtain⟨p1,p2⟩:=h8 q hq;rw[Lk.rH];exact⟨p1.block λx hx=>Ix x λe=>vn q hq (e▸hx),λi j hi hj=>⟨hl.lG (p2 i j hi hj).1,(p2 i j hi hj).2⟩⟩
     .intro x;rw[Lk.sJ];refine(h9 x).trans ?_;simp only[Lk.rH]
     .simp only[Lk.rH];exact rY
     .simp only[Lk.rH];exact vn
     .intro hn;have:=r.hl hn id _ kp;exact this
    .cases h
   .cases h
  .cases h
 .cases h
def aeb(hT:mI P T){t:TypeId}(iE:o.op = .alloc t)(r:jJ w0 B σ a w L)(h:jQ P K T O σ o=some u):kz P K w0 B σ o a w u:=by
 simp only[jQ,iE]at h;split at h
 .rename_i ti oX;split at h
  .rename_i z hz;obtain⟨id,hd,mG,ku,rfl⟩:=BH h;obtain⟨zv,xI,r9⟩:=Gt hz;obtain⟨q1,q2⟩:=r9 (jM B L) (ky L) w;obtain⟨L',r',hp⟩:=r.WN id t z zv mG q1 q2 (by simpa[Bx.nl]using ku);refine⟨_,_,L',.inl ?_,r',hp⟩;simp only[execOp,iE,Instr.alloc,Sem.run_bind,Pe hT w oX xI,Result.andThen_ok,newVar,newRow,run_newObj_alloc,Sem.run_pure]
  .cases h
 .cases h
def aef{t:TypeId}{x:Operand}(iE:o.op = .box t x)(r:jJ w0 B σ a w L)(h:jQ P K T O σ o=some u):kz P K w0 B σ o a w u:=by
 simp only[jQ,iE]at h;have hx:=r.op x;split at h
 .rename_i e hv;rw[hv]at hx;split at h
  .rename_i l hl;obtain⟨id,hd,mG,ku,rfl⟩:=BH h;obtain⟨q1,q2⟩:=hx.cells hl;obtain⟨L',r',hp⟩:=r.WN id t l (a.eval x) mG q1 q2 (by simpa[Bx.nl]using ku);refine⟨_,_,L',.inl ?_,r',hp⟩;simp only[execOp,iE,Instr.box,Sem.run_bind,Result.andThen_ok,newVar,newRow,run_newObj_alloc,Sem.run_pure]
  .cases h
 .cases h
end
def adP(us:List Value):∀ (off k:Nat) (cs:Array Value),off+k+us.length<=cs.size ->
 (us.zipIdx k).foldl (λcs (c:Value×Nat)=>cs.setIfInBounds (off+c.2) c.1) cs=(cs.toList.take (off+k)++us++cs.toList.drop (off+k+us.length)).toArray:=by
 induction us with
 |nil=>intro off k cs h;simp
 |cons x us ih=>
  intro off k cs h;simp only[List.zipIdx_cons,fI];rw[ih off (k+1) _ (by simp at h ⊢;omega)];apply dQ;simp only[df]at h;obtain⟨A,y,D,oR,hA⟩:∃ A y D,cs.toList=A++y::D/\A.length=off+k:=by
   have iO:off+k<cs.toList.length:= aR ;refine⟨cs.toList.take (off+k),cs.toList[off+k],cs.toList.drop (off+k+1),?_,by rw[cG];omega⟩;rw[<-fB iO,am0]
  simp only[anJ,df,oR,<-hA];rw[List.set_append_right _ _ (bp _),di,anc,
   show off+(k+1)+us.length=A.length+(us.length+1)by omega,(aD:off+(k+1)=A.length+1),
   List.take_length_add_append,anK,List.take_left,anK]
  simp
def adK(place:Nat->Option (Nat×Nat))(cs:Array Value)(i:Nat)(v:Value)(rest:List (Nat×Value))(off:Nat)(hp:place i=some (off,v.cells.toList.length))(oe:off+v.cells.toList.length<=cs.size):
 Instr.fill place cs ((i,v)::rest)=Instr.fill place (cs.toList.take off++v.cells.toList++cs.toList.drop (off+v.cells.toList.length)).toArray rest:=by
 have h1:¬(v.cells.size≠v.cells.toList.length\/off+v.cells.size>cs.size):=by simp at oe ⊢;omega
 have hf:=adP v.cells.toList off 0 cs (by simpa using oe);simp only[bK]at hf;have h2:(v.cells.zipIdx.foldl (λcs (c,j)=>cs.setIfInBounds (off+j) c) cs)=(cs.toList.take off++v.cells.toList++cs.toList.drop (off+v.cells.toList.length)).toArray:=by
  rw[<-hf,<-Array.foldl_toList,Array.toList_zipIdx]
 rw[Instr.fill,hp];simp only;rw[bl (by simpa using h1),h2]
section
variable {P:Program} {K:World->Prop} {T:List TI} {O:pY} {w0:World} {B:Nat->Prop} {σ:PS} {o:Oper} {a:Act} {w:World} {L:Lk} {u:kW}
def LJ(r:jJ w0 B σ a w L){place:Nat->Option (Nat×Nat)}{ps:List (Nat×Operand)}{l m:List E}{cs:Array Value}(h:rX σ place l ps=some m)
 (hr:kB (jM B L) (ky L) w l cs.toList) (h1:∀ u ∈ cs,u.oneCell'=true):
 ∃ cs',Instr.fill place cs (ps.map λx=>(x.1,a.eval x.2))=some cs'/\kB (jM B L) (ky L) w m cs'.toList/\(∀ u ∈ cs',u.oneCell'=true):=by
 induction ps generalizing l cs with
 |nil=>
  simp only[rX]at h;cases h;exact⟨cs,rfl,hr,h1⟩
 |cons p ps ih=>
  obtain⟨i,x⟩:=p;simp only[rX]at h;have hx:=r.op x;split at h
  .rename_i off size e hp hv;rw[hv]at hx;split at h
   .rename_i q hq;split at h
    .rename_i hc;simp only[bY]at hc;have c1:=mR.1 hc.1;have c2:=dq hc.2;obtain⟨q1,q2⟩:=hx.cells hq;have hlen:(a.eval x).cells.toList.length=size:=by rw[q1.len,c1]
     have zW:=hr.len;rw[fF,adK place cs i (a.eval x) _ off (by rw[hlen];exact hp) (by rw[q1.len];simp at zW;omega)];refine ih h (Xk hr q1 off) λv hv=>?_
     simp only[gQ,eC]at hv;rcases hv with(hv|hv)|hv
     .exact h1 v (by have:=fu hv;simpa using this)
     .exact q2 v hv
     .exact h1 v (by have:=fw hv;simpa using this)
    .cases h
   .cases h
  .cases h
def Xe(ps:Array (Nat×Operand))(a:Act):(ps.map λ(x:Nat×Operand)=>(x.1,a.eval x.2)).toList=ps.toList.map λx=>(x.1,a.eval x.2):= aJ 
def aif{P:Program}(hT:mI P T){fs:List Field}{pl:List (Nat×Nat)}(h:FR T fs=some pl):fs.mapM (λf=>(P.info? f.type).map λi=>(f.offset,i.size))=some pl:=by
 induction fs generalizing pl with
 |nil=>simp only[FR]at h;cases h;rfl
 |cons f fs ih=>
  simp only[FR]at h;split at h
  .rename_i ti l h1 h2;cases h;simp[gS,hT.Ah h1,ih h2]
  .cases h
def aeg(hT:mI P T){t:TypeId}{ps:Array (Nat×Operand)}(iE:o.op = .build t ps)(r:jJ w0 B σ a w L)(h:jQ P K T O σ o=some u):kz P K w0 B σ o a w u:=by
 simp only[jQ,iE]at h;have main:∀ (l:List E) (cs:Array Value),P.built t (ps.toList.map λx=>(x.1,a.eval x.2))=some cs->kB (jM B L) (ky L) w l cs.toList->u={ r:=.e (.agg l) }->kz P K w0 B σ o a w u:=by
  intro l cs hb hr hu;subst hu;have mg:=run_build (P:=P) w t (ps.map λ(x:Nat×Operand)=>(x.1,a.eval x.2)) cs (by rw[Xe];exact hb);refine kz.pure r (v:=.agg cs) ?_ rfl (by have:=hr.agg;rwa[Array.toArray_toList]at this);simp only[execOp,iE,Sem.run_bind,mg,Result.andThen_ok,Sem.run_pure]
 split at h
 .rename_i ti oX;split at h
  .rename_i z hz;obtain⟨zv,xI,r9⟩:=Gt hz;obtain⟨q1,q2⟩:=r9 (jM B L) (ky L) w;split at h
   .rename_i fs hd;split at h
    .rename_i pl Br;obtain⟨l,hl,rfl⟩:=dm.1 h;obtain⟨cs,p1,p2,_⟩:=LJ r hl q1 (λu hu=>q2 u (by simpa using hu));refine main l cs ?_ p2 rfl;unfold Program.built;rw[hT.Ah oX,hT.qD oX,hd];simp only[xI,aif hT Br];have:(λx:Nat=>pl.toArray[x]?)=λx=>pl[x]?:=by funext x;simp
     rw[this];exact p1
    .cases h
   .rename_i n e hd;split at h
    .rename_i te pB;obtain⟨l,hl,rfl⟩:=dm.1 h;obtain⟨cs,p1,p2,_⟩:=LJ r hl q1 (λu hu=>q2 u (by simpa using hu));refine main l cs ?_ p2 rfl;unfold Program.built;rw[hT.Ah oX,hT.qD oX,hd];simp only[xI,hT.Ah pB];exact p1
    .cases h
   .cases h
  .cases h
 .cases h
def X9{α:Type}(n:Nat)(l:List α):(lG n l).length=n*l.length:=by
 induction n with
 |zero=>simp[lG]
 |succ n ih=>simp only[lG,cJ,ih,b8,ck];omega
def ajU{α:Type}(n:Nat)(l:List α)(q:Nat)(h:q<n*l.length):(lG n l)[q]? = l[q%l.length]?:=by
 induction n generalizing q with
 |zero=>simp at h
 |succ n ih=>
  simp only[lG];rw[b8,ck]at h;by_cases hq:q<l.length
  .rw [eW hq,bQ hq]
  .rw [gi aD,ih _ aD];congr 1;exact(Nat.mod_eq_sub_mod aD).symm
def ajV{bs br:Nat->Prop}{z:List E}{zs:Array Value}(h:kB bs br w z zs.toList)(n:Nat):kB bs br w (lG n z) ((Array.range (n*zs.size)).map (zs[· % zs.size]!)).toList:=by
 have hl:=h.len;simp only[er]at hl;refine⟨by simp[X9,hl],λi p x hp hx=>?_⟩;have hi:i<n*zs.size:=by
  have:=(cC.1 hx).1;simpa using this
 have hz:0<zs.size:=by
  rcases eV zs.size with h0|h0
  .rw [h0]at hi;simp at hi
  .exact h0
 rw[ajU _ _ _ (by rw[<-hl];exact hi),<-hl]at hp;have iO:=bC i hz;simp[hi]at hx;subst hx;rw[fH zs _ iO];exact h.lG _ p _ hp (by simp[iO])
def YS(hB:∀ b,B b->b<w0.heap.size)(r:jJ w0 B σ a w L)(e:TypeId)(n sz:Nat)(l:List E)(cs:Array Value)(nl:Bool)(hr:kB (jM B L) (ky L) w l cs.toList)(h1:∀ u ∈ cs,u.oneCell'=true)(hlen:cs.size=n*sz)
 (tz:n<=9223372036854775807) (ku:nl=true->l.all E.nW=true) (wP:l.all (E.nr 2)=true):
 jJ w0 B σ a (w.alloc (.cells cs e)) L/\iR (jM B L) (ky L) (w.alloc (.cells cs e)) (.sl nl n sz λi j=>l.getD (i*sz+j) (.v (.bool false))) (.slice (some ⟨w.heap.size,0,none⟩) n n):=by
 have hb:Below w.heap.size w (w.alloc (.cells cs e)):=(Below.refl _ _).alloc (bp _) _;have hl:su L w L (w.alloc (.cells cs e)):=⟨hb.size,λ_ _ h=>h,λx hx _=>hb.block x hx⟩
 refine⟨r.later hb,?_⟩;have mq:∀ i j,i<n->j<sz->i*sz+j<cs.size:=by
  intro i j hi hj;rw[hlen];have:=bR sz (show i+1<=n from hi);rw[b8,ck]at this;omega
 have hll:=hr.len;simp only[er]at hll;refine .sl nl n sz _ _ n (λi j=>cs.getD (i*sz+j) undef) (bp _) tz (λh=>by cases h) (λi j hi hj=>?_) (λi j hi hj=>?_) (λi j hi hj=>?_) (λi j hi hj=>?_)
 .have hq:=mq i j hi hj;have e1:cs.getD (i*sz+j) undef=cs[i*sz+j]:=by simp[hq]
  rw[e1];refine⟨h1 _ (gO hq),λrC=>?_⟩;have ui:i*sz+j<l.length:= aD ;exact(hr.lG (i*sz+j) _ _ (bD ui) (by simp[hq])).nW (ct.1 (ku rC) _ (cO ui))
 .have hq:=mq i j hi hj;have ui:i*sz+j<l.length:= aD ;rw[bu,bD ui];exact ct.1 wP _ (cO ui)
 .have hq:=mq i j hi hj;refine⟨w.heap.size,0,rfl,λtq=>?_,aJ,?_⟩
  .rcases tq with hx|⟨id,hx⟩
   .have:=hB _ hx;have:=r.he.size;omega
   .have:=(r.hw id _ hx).2;omega
  .rw [b6,World.cell?_alloc_new];simp[hq]
 .have hq:=mq i j hi hj;have ui:i*sz+j<l.length:= aD ;have e1:cs.getD (i*sz+j) undef=cs[i*sz+j]:=by simp[hq]
  rw[e1,bu,bD ui];exact hl.lG (hr.lG (i*sz+j) _ _ (bD ui) (by simp[hq]))
def agr{l:List E}{vs:List Value}{bs br:Nat->Prop}{w:World}(h:kB bs br w l vs)(hl:l.all E.nW=true):∀ v ∈ vs,tG v=false:=by
 intro v hv;obtain⟨i,hi⟩:=dO.1 hv;obtain⟨xE,_⟩:=cC.1 hi;have EB:i<l.length:=by have:=h.len;omega
 exact(h.lG i _ v (bD EB) hi).nW (ct.1 hl _ (cO EB))
def aeh(hT:mI P T)(hB:∀ b,B b->b<w0.heap.size){t:TypeId}{n:Nat}{ps:Array (Nat×Operand)}(iE:o.op = .buildSlice t n ps)(r:jJ w0 B σ a w L)(h:jQ P K T O σ o=some u):kz P K w0 B σ o a w u:=by
 simp only[jQ,iE]at h;split at h
 .rename_i tt rE;split at h
  .rename_i e hd;split at h
   .rename_i te pB;split at h
    .rename_i z hz;split at h
     .rename_i hc;simp only[bY]at hc;have c1:=mR.1 hc.1.1;have c2:=dq hc.2;obtain⟨zv,xI,r9⟩:=Gt hz;obtain⟨q1,q2⟩:=r9 (jM B L) (ky L) w;have hu:P.underlying t=some (.slice e):=by rw[hT.qD rE,hd]
      have Ag:zv.cells.size=te.i.size:=by have:=q1.len;simp only[er]at this;omega
      obtain⟨l,hl,h⟩:=gT.1 h;obtain⟨cs,p1,p2,p3⟩:=LJ r hl (ajV q1 n) (λv hv=>by
       simp only[gl,gn]at hv;obtain⟨q,hq,rfl⟩:=hv;have BC:0<zv.cells.size:=by
        rcases eV zv.cells.size with h0|h0
        .rw [h0]at hq;simp at hq
        .exact h0
       rw[fH zv.cells _ (bC q BC)];exact q2 _ aJ)
      have hlen:l.length=n*te.i.size:=by
       have:∀ (ps:List (Nat×Operand)) (l m:List E),rX σ (λi=>some (i*te.i.size,te.i.size)) l ps=some m->m.length=l.length:=by
        intro ps
        induction ps with
        |nil=>intro l m h;simp only[rX]at h;cases h;rfl
        |cons p ps ih=>
         intro l m h;obtain⟨i,x⟩:=p;simp only[rX]at h;split at h
         .split at h
          .split at h
           .rename_i hc;simp only[bY]at hc;have:=dq hc.2;rw[ih _ _ h];simp[Av];omega
           .cases h
          .cases h
         .cases h
       rw[this _ _ _ hl,X9,c1]
      have oR:cs.size=n*te.i.size:=by have:=p2.len;simp only[er]at this;omega
      have Uq:Instr.fill (λi=>some (i*te.i.size,te.i.size)) ((Array.range (n*te.i.size)).map (zv.cells[· % zv.cells.size]!)) (ps.map λ(x:Nat×Operand)=>(x.1,a.eval x.2)).toList=some cs:=by
       rw[Xe,<-Ag];rw[<-Ag]at p1;exact p1
      have mg:(execOp a.eval o).run P w = .ok (.value (.slice (some ⟨w.heap.size,0,none⟩) n n)) (w.alloc (.cells cs e)):=by
       have zZ:¬(n*te.i.size>16777216):= aD ;by_cases h0:n*te.i.size=0
       .have e0:∀ g:Nat->Value,(Array.range 0).map g = #[]:=λg=>by simp[Array.range]
        have Ur:=Uq;rw[h0,e0]at Ur;have z24:¬(0>2^24):= aF ;simp only[execOp,iE,Instr.buildSlice,Sem.run_bind,run_underlying hu,Result.andThen_ok,xi hT w pB,zZ,bF,h0,z24,bN,Sem.run_pure,e0,Ur,newRow,run_newObj_alloc]
       .simp only[execOp,iE,Instr.buildSlice,Sem.run_bind,run_underlying hu,Result.andThen_ok,xi hT w pB,zZ,bF,h0,Sem.run_pure,Pe hT w pB xI,Uq,newRow,run_newObj_alloc]
      have kx:n<=9223372036854775807:=by
       have:=gh n (dq hc.1.2);omega
      by_cases wP:l.all (E.nr 2)=true
      .simp only[wP,fE,bZ,bF]at h;split at h
       .
        obtain⟨id,Ul,mG,ku,rfl⟩:=BH h;have hb:Below w.heap.size w (w.alloc (.cells cs e)):=(Below.refl _ _).alloc (bp _) _;have ht:rS L w id (λx=>x=w.heap.size) (w.alloc (.cells cs e)):=⟨λx hx=>⟨.inr aD,aR⟩,hb.size,λx hx _=>hb.block x hx,rfl,rfl,rfl⟩
        have iO:=ht.later (.slice (some ⟨w.heap.size,0,none⟩) n n) (λ_=>undef);have CL:∀ i j,i<n->j<te.i.size->i*te.i.size+j<n*te.i.size:=by
         intro i j hi hj;have:=bR te.i.size (show i+1<=n from hi);rw[b8,ck]at this;omega
        refine⟨_,_,_,.inl mg,r.new id _ (λx=>x=w.heap.size) (.slice (some ⟨w.heap.size,0,none⟩) n n) (λ_=>undef) _ mG (λx hx=>by subst hx;simp) hb
         ⟨λi j=>cs.getD (i*te.i.size+j) undef,.inr ⟨w.heap.size,n,cs,Lk.o9,heap_alloc_new w _,bp _,by unfold maxLen;omega,oR,λi j hi hj=>?_,λhn u hu=>?_⟩,λx=>?_,λi j hi hj=>?_⟩ ku,Lk.AI,Lk.o9.symm⟩
        .have hq:i*te.i.size+j<cs.size:=by rw[oR];exact CL i j hi hj
         have e1:cs.getD (i*te.i.size+j) undef=cs[i*te.i.size+j]:=by simp[hq]
         show cs[i*te.i.size+j]? = some (cs.getD (i*te.i.size+j) undef)/\(cs.getD (i*te.i.size+j) undef).oneCell'=true;rw[e1];exact⟨by simp[hq],p3 _ aJ⟩
        .exact agr p2 hn u (by simpa using hu)
        .rw [Lk.sJ,Lk.o9];simp only[Value.ownBlock,bV];exact eq_comm
        .have hq:i*te.i.size+j<cs.size:=by rw[oR];exact CL i j hi hj
         have vw:i*te.i.size+j<l.length:=by rw[hlen];exact CL i j hi hj
         have e1:cs.getD (i*te.i.size+j) undef=cs[i*te.i.size+j]:=by simp[hq]
         simp only[bu,bD vw,ane,e1];exact⟨iO.lG (p2.lG _ _ _ (bD vw) (by simp[hq])),ct.1 wP _ (cO vw)⟩
       split at h
       .rename_i rZ;cases h;obtain⟨r',hp⟩:=YS hB r e n te.i.size l cs true p2 p3 oR kx (λ_=>rZ) wP;exact⟨_,_,L,.inl mg,r',hp⟩
       .cases h;obtain⟨r',hp⟩:=YS hB r e n te.i.size l cs false p2 p3 oR kx (λh=>by cases h) wP;exact⟨_,_,L,.inl mg,r',hp⟩
      .simp [wP]at h
     .cases h
    .cases h
   .cases h
  .cases h
 .cases h
end
def Lv{P:Program}{t e:TypeId}(h:P.underlying t=some (.slice e)):P.elem t=e:=by simp[Program.elem,h]
def acZ{P:Program}{t e:TypeId}{n:Nat}(h:P.underlying t=some (.array n e)):P.elem t=e/\P.arrayLen t=n:=by simp[Program.elem,Program.arrayLen,h]
section
variable {P:Program} {K:World->Prop} {T:List TI} {O:pY} {w0:World} {B:Nat->Prop} {σ:PS} {o:Oper} {a:Act} {w:World} {L:Lk} {u:kW}
def aen(hT:mI P T){t:TypeId}{x i:Operand}(iE:o.op = .indexAddr t x i)(r:jJ w0 B σ a w L)(h:jQ P K T O σ o=some u)(ho:∀ q,q ∈ u.ki->q):kz P K w0 B σ o a w u:=by
 simp only[jQ,iE,Hn]at h;have hx:=r.op x;have hi:=r.op i;split at h
 .rename_i k z hpi;rw[hpi]at hi;have hi:=iR.kN hi;split at h
  .rename_i tt rE;split at h
   .
    rename_i e hd;have hu:P.underlying t=some (.slice e):=by rw[hT.qD rE,hd]
    have he:=Lv hu;split at h
    .rename_i te pB;have mg:∀ (ad:Addr) (n c:Nat),a.eval x = .slice (some ad) n c->0<=z->z<n->(execOp a.eval o).run P w = .ok (.value (.pointer (some (ad.add (z.toNat*te.i.size))))) w:=by
      intro ad n c e1 h0 h1;have hr:=run_indexAt_slice (P:=P) w t ad n c k z (by rw[he];exact hu);rw[bn ⟨h0,h1⟩,he,xi hT w pB]at hr;simp only[execOp,iE,e1,hi,Sem.run_bind,hr,Result.andThen_ok,Sem.run_pure]
     split at h
     .rename_i nl n sz el r7;rw[r7]at hx;split at h
      .rename_i hs;simp only[bY]at hs;have um:=dq hs.2;have hs:=mR.1 hs.1;cases h;have hz:0<=z/\z<n:=ho _ aJ;have IU:z.toNat<n:= aD ;generalize hq:a.eval x=q at hx;cases hx with
       |sl _ _ _ _ A c f hc hm h0 hl wP cell kk=>
        obtain⟨b,of,e1,hb,iO,_⟩:=cell z.toNat 0 IU um;subst e1;refine kz.pure r (mg ⟨b,of,none⟩ n c hq hz.1 hz.2) rfl ?_;rw[Addr.add_lit,hs];refine .jC sz _ b _ (λj=>f z.toNat j) (λhm=>hb (.inr hm)) iO (λj hj=>(hl _ _ IU hj).1) (λj hj=>?_) (λj hj=>kk _ _ IU hj);obtain⟨b',of',e2,_,_,Ev⟩:=cell z.toNat j IU hj;cases e2;rwa[<-dh]at Ev
      .cases h
     .rename_i id r7;rw[r7]at hx;split at h
      .rename_i nl T1 n sz el kp;split at h
       .rename_i hs;have hs:=mR.1 hs;cases h;have hz:0<=z/\z<n:=ho _ aJ;obtain⟨f,h1,h2,h3⟩:=r.hb id _ kp;obtain⟨k1,k2⟩:=hx;rcases h1 with⟨h1,rC⟩|⟨b,c,cur,h1,hg,pM,nS,oR,mf,ku⟩
        .omega
        .rw [h1]at k2;refine kz.pure r (mg ⟨b,0,none⟩ n c k2 hz.1 hz.2) rfl ⟨k1,b,n,c,h1,?_⟩;rw[Addr.add_lit,hs,b6,bK]
       .cases h
      .rename_i nl T1 T0 n sz len el pend kp;split at h
       .rename_i hs;have hs:=mR.1 hs;cases h;have hz:0<=z/\z<n:=ho _ aJ;obtain⟨b,c,cur,f,h1,h2,h3,h4,h5,h6,h7,h8,h9,rY,vn⟩:=r.hb id _ kp;obtain⟨k1,k2⟩:=hx;rw[h1]at k2;refine kz.pure r (mg ⟨b,0,none⟩ n c k2 hz.1 hz.2) rfl ⟨k1,b,n,c,h1,?_⟩;rw[Addr.add_lit,hs,b6,bK]
       .cases h
      .cases h
     .cases h
    .cases h
   .
    rename_i n e hd;have hu:P.underlying t=some (.array n e):=by rw[hT.qD rE,hd]
    obtain⟨he,hn⟩:=acZ hu;split at h
    .rename_i te pB;have mg:∀ (ad:Addr),a.eval x = .pointer (some ad)->0<=z->z<n->(execOp a.eval o).run P w = .ok (.value (.pointer (some (ad.add (z.toNat*te.i.size))))) w:=by
      intro ad e1 h0 h1;have hr:=run_indexAt_array (P:=P) w t ad k z (by rw[he,hn];exact hu);rw[hn,bn ⟨h0,h1⟩,he,xi hT w pB]at hr;simp only[execOp,iE,e1,hi,Sem.run_bind,hr,Result.andThen_ok,Sem.run_pure]
     split at h
     .rename_i id off r7;rw[r7]at hx;cases h;have hz:0<=z/\z<n:=ho _ aJ;obtain⟨k1,b,k2,k3⟩:=hx;refine kz.pure r (mg _ k3 hz.1 hz.2) rfl ⟨k1,b,k2,?_⟩;rw[Addr.add_lit]
     .rename_i m el r7;rw[r7]at hx;split at h
      .rename_i hs;have hs:=mR.1 hs;cases h;have hz:0<=z/\z<n:=ho _ aJ;have mq:∀ j,j<te.i.size->z.toNat*te.i.size+j<m:=by
        intro j hj;rw[<-hs];have:=bR te.i.size (aD:z.toNat+1<=n);rw[b8,ck]at this;omega
       generalize hq:a.eval x=q at hx;cases hx with
       |jC _ _ b of f hb iO hl cell kk=>
        refine kz.pure r (mg _ hq hz.1 hz.2) rfl ?_;rw[Addr.add_lit];refine .jC te.i.size _ b _ (λj=>f (z.toNat*te.i.size+j)) hb iO (λj hj=>hl _ (mq j hj)) (λj hj=>?_) (λj hj=>kk _ (mq j hj));have:=cell _ (mq j hj);rwa[<-dh]at this
      .cases h
     .cases h
    .cases h
   .cases h
  .cases h
 .cases h
def aez(hT:mI P T){t:TypeId}{x:Operand}{lo hi:Option Operand}(iE:o.op = .slice t x lo hi none)(r:jJ w0 B σ a w L)(h:jQ P K T O σ o=some u)(ho:∀ q,q ∈ u.ki->q):kz P K w0 B σ o a w u:=by
 simp only[jQ,iE,Hq]at h;have hx:=r.op x;split at h
 .rename_i nl n sz el r7;rw[r7]at hx;split at h
  .rename_i tt rE;split at h
   .rename_i e hd;have hu:P.underlying t=some (.slice e):=by rw[hT.qD rE,hd]
    have he:=Lv hu;have CW:P.underlying t=some (.slice (P.elem t)):=by rw[he];exact hu
    split at h
    .rename_i te pB;split at h
     .rename_i hs;have hs:=mR.1 hs;generalize hq:a.eval x=q at hx;cases hx with
      |sl _ _ _ _ A c f hc hm h0 hl wP cell kk=>
       have fin:∀ l h':Nat,l<=h'->h'<=n->iR (jM B L) (ky L) w (.sl nl (h'-l) sz λi j=>el (l+i) j) (sliced A l h' c te.i.size):=by
        intro l h' hlh hhn;unfold sliced;refine .sl nl (h'-l) sz _ _ (c-l) (λi j=>f (l+i) j) aD aD (λhA=>?_) (λi j hi hj=>hl _ _ aD hj) (λi j hi hj=>wP _ _ aD hj) (λi j hi hj=>?_) (λi j hi hj=>kk _ _ aD hj)
        .split at hA
         .have:=h0 hA;omega
         .have:=h0 (by simpa using hA);omega
        .obtain ⟨b,of,e1,hb,iO,mf⟩:=cell (l+i) j aD hj;subst e1;rw[bl aD];refine⟨b,of+l*te.i.size,by rw[c9,Addr.add_lit],hb,iO,?_⟩;rw[hs];rw[b8]at mf;rw[<-mf];congr 2;omega
       have run:∀ (l h':Nat) (lo' ml:Option Value),lo.map a.eval=lo'->hi.map a.eval=ml->(Instr.slice t (.slice A n c) lo' ml none).run P w = .ok (sliced A l h' c te.i.size) w ->
        (execOp a.eval o).run P w = .ok (.value (sliced A l h' c te.i.size)) w:=by
        intro l h' lo' ml e1 e2 hr;simp only[execOp,iE,Sem.run_bind,hq,e1,e2,Option.map_none,run_sliceAt_slice (P:=P) w t _ _ _ _ CW,hr,Result.andThen_ok,Sem.run_pure]
       split at h
       .rename_i kh hh vq wK;cases h;have hb:0<=hh/\hh<=n:=ho _ aJ;cases lo with
        |some _=>simp at vq
        |none=>
         cases hi with
         |none=>simp at wK
         |some hi=>
          simp only[c9,bV]at wK;have hv:=r.op hi;rw[wK]at hv;have hv:=iR.kN hv;have hr:=run_slice_h (P:=P) w t A n c CW kh hh hb.1 aD;rw[he,xi hT w pB]at hr;have hf:=fin 0 hh.toNat (ch _) aD ;simp only[dR,b6]at hf;exact kz.pure r (run 0 hh.toNat none (some (.int kh hh)) rfl (by rw[c9,hv]) hr) rfl hf
       .rename_i kl ll vq wK;cases h;have hb:0<=ll/\ll<=n:=ho _ aJ;cases hi with
        |some _=>simp at wK
        |none=>
         cases lo with
         |none=>simp at vq
         |some lo=>
          simp only[c9,bV]at vq;have hv:=r.op lo;rw[vq]at hv;have hv:=iR.kN hv;have hr:=run_slice_l (P:=P) w t A n c CW kl ll hb.1 hb.2;rw[he,xi hT w pB]at hr;exact kz.pure r (run ll.toNat n (some (.int kl ll)) none (by rw[c9,hv]) rfl hr) rfl (fin ll.toNat n aD (bp _))
       .rename_i kl ll kh hh vq wK;cases h;have hb:0<=ll/\ll<=hh/\hh<=n:=ho _ aJ;cases hi with
        |none=>simp at wK
        |some hi=>
         cases lo with
         |none=>simp at vq
         |some lo=>
          simp only[c9,bV]at vq wK;have hv:=r.op lo;rw[vq]at hv;have hv:=iR.kN hv;have se:=r.op hi;rw[wK]at se;have se:=iR.kN se;have hr:=run_slice_lh (P:=P) w t A n c CW kl kh ll hh hb.1 hb.2.1 aD;rw[he,xi hT w pB]at hr;exact kz.pure r (run ll.toNat hh.toNat (some (.int kl ll)) (some (.int kh hh)) (by rw[c9,hv]) (by rw[c9,se]) hr) rfl (fin ll.toNat hh.toNat aD aD)
       .cases h
     .cases h
    .cases h
   .cases h
  .cases h
 .cases h
end
section
variable {P:Program} {K:World->Prop} {T:List TI} {O:pY} {w0:World} {B:Nat->Prop} {σ:PS} {o:Oper} {a:Act} {w:World} {L:Lk} {u:kW}
def abC{x:Value}{l:List E}(h:(E.v x).cells? = some l):∀ e,e ∈ l->e.nr 2=true:=by
 intro e he;cases x<;>simp only[E.cells?]at h
 case agg cs=>
  split at h
  .cases h;obtain⟨q,_,rfl⟩:=cR.1 he;rfl
  .cases h
 all_goals
  split at h
  .cases h;simp only[List.mem_singleton]at he;subst he;rfl
  .cases h
def amq{ti:TI}{l:List E}(h:zC ti=some l):∀ e,e ∈ l->e.nr 2=true:=by
 unfold zC at h;split at h
 .exact abC h
 .cases h
def Nv{l:List E}{vs:List Value}{bs br:Nat->Prop}(h:kB bs br w l vs)(hl:l.all E.nW=true):∀ v ∈ vs,tG v=false:=by
 intro v hv;obtain⟨q,hq⟩:=dO.1 hv;have vw:q<l.length:=by rw[<-h.len];exact(cC.1 hq).1
 exact(h.lG q _ v (bD vw) hq).nW (ct.1 hl _ (cO vw))
def V8{z:Array Value}{n q:Nat}(hz:0<z.size)(hq:q<n):(madeCells z n)[q]? = some (z[q%z.size]'(bC _ hz)):=by
 unfold madeCells;simp[hq];rw[fH z _ (bC _ hz)]
def V9{z:Array Value}{n:Nat}(hz:0<z.size){v:Value}(hv:v ∈ madeCells z n):v ∈ z:=by
 unfold madeCells at hv;simp only[gl,gn]at hv;obtain⟨q,hq,rfl⟩:=hv;rw[fH z _ (bC _ hz)];exact gO _
def aes(hT:mI P T){t:TypeId}{l c:Operand}(iE:o.op = .makeSlice t l c)(r:jJ w0 B σ a w L)(h:jQ P K T O σ o=some u)(ho:∀ q,q ∈ u.ki->q):kz P K w0 B σ o a w u:=by
 simp only[jQ,iE,Hp]at h;have hl:=r.op l;have hc:=r.op c;split at h
 .rename_i bx ki jy;obtain⟨id,Ul,mG,ku,rfl⟩:=BH h;clear h;simp only[SU]at jy;split at jy
  rotate_left
  .cases jy
  rename_i kl zl kc zc Br MX;rw[Br]at hl;rw[MX]at hc;have hl:=iR.kN hl;have hc:=iR.kN hc;split at jy
  .rename_i tt rE;split at jy
   .rename_i e hd;have hu:P.underlying t=some (.slice e):=by rw[hT.qD rE,hd]
    split at jy
    .rename_i te pB;split at jy
     .rename_i z hz;split at jy
      .rename_i yI;simp only[bY]at yI;have c1:=mR.1 yI.1;have c2:=dq yI.2;obtain⟨zv,xI,r9⟩:=Gt hz;obtain⟨q1,q2⟩:=r9 (jM B L) (ky L) w;have Ag:zv.cells.size=te.i.size:=by have:=q1.len;simp only[er]at this;omega
       have BC:0<zv.cells.size:= aD ;have key:∀ (h1:0<=zl/\zl<=zc) (h2:(te.i.bytes:Int)*zc<=281474976710656/\zc<=9223372036854775807),
        (execOp a.eval o).run P w = .ok (.value (.slice (some ⟨w.heap.size,0,none⟩) zl.toNat zc.toNat)) (w.alloc (.cells (madeCells zv.cells (zc.toNat*te.i.size)) e)):=by
        intro h1 h2;have hr:=run_make (P:=P) w t e te.i zv hu (hT.Ah pB) xI kl kc zl zc h1.1 h1.2 h2.1 h2.2;simp only[execOp,iE,hl,hc,Sem.run_bind,hr,Result.andThen_ok,Sem.run_pure]
       have hb:∀ o':Obj,Below w.heap.size w (w.alloc o'):=λo'=>(Below.refl _ _).alloc (bp _) _
       have lens:zl<=zc->zc<=9223372036854775807->zl.toNat<=zc.toNat/\zc.toNat<=maxLen:=by intro h1 h2;unfold maxLen;omega
       split at jy
       .
        rename_i e0 hd0;split at jy
        .rename_i t0 M1;obtain⟨y,ys,CZ,hy,Bo⟩:=q1.my;have hy:=iR.kN hy;have Bo:=Bo.pH;subst hy Bo;have Vh:zv.cells = #[.slice none 0 0]:=by apply dQ;rw[CZ]
         have lT:te.i.size=1:=by rw[<-Ag,Vh];rfl
         cases jy;have h1:0<=zl/\zl<=zc:=ho _ aJ;have h2:(te.i.bytes:Int)*zc<=281474976710656/\zc<=9223372036854775807:=ho _ aJ;have hlen:=lens h1.2 h2.2;have rZ:∀ v,v ∈ madeCells zv.cells (zc.toNat*te.i.size)->v = .slice none 0 0:=λv hv=>by
          have:=V9 BC hv;rw[Vh]at this;simpa using this
         refine⟨_,_,_,.inl (key h1 h2),r.new id _ (λx=>x=w.heap.size) (.slice (some ⟨w.heap.size,0,none⟩) zl.toNat zc.toNat) (λ_=>.slice none 0 0) _ mG (λx hx=>by subst hx;simp) (hb _)
          ⟨w.heap.size,zc.toNat,_,λ_ _ _=>undef,Lk.o9,heap_alloc_new w _,hlen.1,hlen.2,by rw[size_madeCells,lT,cg],λk hk _=>?_,λv hv=>?_,λk hk=>?_,λx=>?_,λk k' x hk Iw h1=>?_,λk hk=>?_⟩ ku,Lk.AI,Lk.o9.symm⟩
         .rw [Lk.rH];have hq:k<zc.toNat*te.i.size:=by rw[lT];omega
          have hg:=V8 BC hq;rw[hg];exact congrArg some (rZ _ (eu hg))
         .rw [rZ v hv];exact⟨rfl,rfl⟩
         .rw [Lk.rH];exact⟨.inl ⟨rfl,rfl⟩,λi j hi=>absurd hi (bO i)⟩
         .rw [Lk.sJ];simp only[Lk.rH,Value.ownBlock];simp
         .rw [Lk.rH]at h1;simp[Value.ownBlock]at h1
         .rw [Lk.rH];simp[Value.ownBlock]
        .cases jy
       .cases jy;have h1:0<=zl/\zl<=zc:=ho _ aJ;have h2:(te.i.bytes:Int)*zc<=281474976710656/\zc<=9223372036854775807:=ho _ aJ;have hlen:=lens h1.2 h2.2;refine⟨_,_,_,.inl (key h1 h2),r.new id _ (λx=>x=w.heap.size) (.slice (some ⟨w.heap.size,0,none⟩) zl.toNat zc.toNat) (λ_=>undef) _ mG (λx hx=>by subst hx;simp) (hb _)
         ⟨λ_ j=>zv.cells.getD j undef,.inr ⟨w.heap.size,zc.toNat,_,Lk.o9,heap_alloc_new w _,hlen.1,hlen.2,size_madeCells _ _,λi j hi hj=>?_,λhn v hv=>?_⟩,λx=>?_,λi j hi hj=>?_⟩ ku,Lk.AI,Lk.o9.symm⟩
        .have hq:i*te.i.size+j<zc.toNat*te.i.size:=by
          have:=bR te.i.size (aD:i+1<=zc.toNat);rw[b8,ck]at this;omega
         have MR:(i*te.i.size+j)%zv.cells.size=j:=by rw[Ag,bE,ep,bQ hj]
         have qX:j<zv.cells.size:= aD ;rw[V8 BC hq];simp only[MR];have e1:zv.cells.getD j undef=zv.cells[j]:=by simp[qX]
         rw[e1];exact⟨rfl,q2 _ aJ⟩
        .exact Nv q1 hn v (by have:=V9 BC hv;simpa using this)
        .rw [Lk.sJ,Lk.o9];simp only[Value.ownBlock,bV];exact eq_comm
        .have qX:j<zv.cells.size:= aD ;have ML:j<z.length:= aD ;have e1:zv.cells.getD j undef=zv.cells[j]:=by simp[qX]
         simp only[e1];rw[bu,bD ML];obtain⟨p1,_⟩:=r9 (jM B (L.set id (λx=>x=w.heap.size) (.slice (some ⟨w.heap.size,0,none⟩) zl.toNat zc.toNat) (λ_=>undef))) (ky (L.set id (λx=>x=w.heap.size) (.slice (some ⟨w.heap.size,0,none⟩) zl.toNat zc.toNat) (λ_=>undef))) (w.alloc (.cells (madeCells zv.cells (zc.toNat*te.i.size)) e));exact⟨p1.lG j _ _ (bD ML) (by simp[qX]),amq hz _ (cO ML)⟩
      .cases jy
     .cases jy
    .cases jy
   .cases jy
  .cases jy
 .cases h
def aeo(hT:mI P T){x:Operand}{t:TypeId}{c:Call}(hc:c={ callee:=.builtin .len,args:=#[x],argTypes:=#[t] })(iE:o.op = .call c){e:TypeId}(hd:wu T t=some (.slice e))(r:jJ w0 B σ a w L){rr:Value×List Nat}(h:vd (σ.op x) σ=some rr)(hu:u={ r:=.e (.v rr.1),rb:=rr.2 }):kz P K w0 B σ o a w u:=by
 obtain⟨ti,h1,h2⟩:=zM hd;have U4:P.underlying t=some (.slice e):=by rw[hT.qD h1,h2]
 have he:=Lv U4;have hx:=r.op x;have key:∀ (A:Option Addr) (n cp:Nat),a.eval x = .slice A n cp->rr.1 = .int .i64 (n:Int)->kz P K w0 B σ o a w u:=by
  intro A n cp e1 e2;have hr:=run_len_slice (P:=P) w t o.type A n cp (by rw[he];exact U4);subst hu;refine kz.pure r (v:=.int .i64 (n:Int)) ?_ rfl (by rw[e2];exact .v _);subst hc;have em:(#[x]:Array Operand).map a.eval = #[a.eval x]:= aJ ;simp only[execOp,iE,resolve,em,e1,Sem.run_bind,Sem.run_pure,Result.andThen_ok,invoke,builtin,hr];rfl
 cases hp:σ.op x with
 |e y=>
  rw[hp]at h hx;cases y with
  |sl nl n sz el=>
   simp only[vd,bV]at h;generalize hq:a.eval x=q at hx;cases hx with
   |sl _ _ _ _ A c f hc hm h0 hl wP cell kk=>exact key A n c hq (by rw[<-h])
  |v y=>
   have hx:=iR.kN hx;cases y with
   |slice A n cp=>
    simp only[vd,bV]at h;exact key A n cp hx (by rw[<-h])
   |_=>simp[vd]at h
  |_=>simp[vd]at h
 |own id=>
  rw[hp]at h hx;obtain⟨_,k2⟩:=hx;simp only[vd]at h;split at h
  .rename_i nl T1 n sz el kp;simp only[bV]at h;obtain⟨f,q1,_,_⟩:=r.hb id _ kp;rcases q1 with⟨q1,q0⟩|⟨b,c,cur,q1,_⟩
   .rw [q1]at k2;exact key none 0 0 k2 (by rw[<-h,q0])
   .rw [q1]at k2;exact key _ n c k2 (by rw[<-h])
  .rename_i nl T1 T0 n sz len el pend kp;simp only[bV]at h;obtain⟨b,c,cur,f,q1,_⟩:=r.hb id _ kp;rw[q1]at k2;exact key _ n c k2 (by rw[<-h])
  .cases h
 |_=>rw[hp]at h;simp[vd]at h
end
section
variable {P:Program} {K:World->Prop} {T:List TI} {O:pY} {w0:World} {B:Nat->Prop} {σ:PS} {o:Oper} {a:Act} {w:World} {L:Lk} {u:kW}
def qo.ql{v:Value}{T:TypeId}{n sz:Nat}{f:Nat->Nat->Value}{nl nl':Bool}(h:qo w v T n sz f nl)(k:nl'=true->nl=true):qo w v T n sz f nl':=by
 rcases h with h|⟨b,c,cur,h1,h2,h3,h4,h5,h6,h7⟩
 .exact .inl h
 .exact .inr ⟨b,c,cur,h1,h2,h3,h4,h5,h6,λq=>h7 (k q)⟩
def Tz(hT:mI P T){s x:Operand}{t:TypeId}{c:Call}(hc:c={ callee:=.builtin .append,args:=#[s,x],argTypes:=#[t,t] })(iE:o.op = .call c)(r:jJ w0 B σ a w L)
 (h:zO T σ o.dst t (σ.op s) (σ.op x)=some u) (ho:∀ q,q ∈ u.ki->q):kz P K w0 B σ o a w u:=by
 have hs:=r.op s;have hx:=r.op x;simp only[zO]at h;split at h
 .rename_i nl2 m sz2 el2 r7;rw[r7]at hx;split at h
  .rename_i tt rE;split at h
   .rename_i e hd;have hu:P.underlying t=some (.slice e):=by rw[hT.qD rE,hd]
    split at h
    .rename_i te pB;split at h
     .rename_i z hz;split at h
      .rename_i yI;simp only[bY]at yI;have c1:=mR.1 yI.1.1.1;have c2:=dq yI.1.1.2;have c3:=dq yI.1.2;have c4:=mR.1 yI.2;obtain⟨zv,xI,r9⟩:=Gt hz;obtain⟨q1,q2⟩:=r9 (jM B L) (ky L) w;have Ag:zv.cells.size=sz2:=by have:=q1.len;simp only[er]at this;omega
       generalize hqx:a.eval x=vx at hx;cases hx with
       |sl _ _ _ _ A cx g hgc hgm Ez Uy gnr gcell gk0=>
       have gk:=λi j hi hj=>And.intro (gk0 i j hi hj) (gnr i j hi hj)
       have key:∀ (v:Value) (n:Nat) (f:Nat->Nat->Value) (nl:Bool),a.eval s=v->qo w v e n sz2 f nl->(nl=true->nl2=true/\z.all E.nW=true)->(n+m)*te.i.bytes<=140737488355328 ->
        ∃ v' w',(execOp a.eval o).run P w = .ok (.value v') w'/\PR w v e n sz2 m f g nl v' w':=by
        intro v n f nl hv oq ku jT;obtain⟨v',w',hr,od⟩:=akt P w t o.type e te.i zv sz2 hu (hT.Ah pB) xI c1 Ag aD c3 (λu hu=>q2 u (by simpa using hu)) v n f nl oq A m cx g
         (λk j hk hj=>by obtain⟨b,of,e1,_,_,qs⟩:=gcell k j hk hj;exact⟨b,of,e1,qs⟩) (λhA=>by have:=Ez hA;omega)
         (λk j hk hj=>⟨(Uy k j hk hj).1,λhn=>(Uy k j hk hj).2 (ku hn).1⟩) (λhn u hu=>Nv q1 (ku hn).2 u (by simpa using hu)) jT
        refine⟨v',w',?_,od⟩;subst hc;have em:(#[s,x]:Array Operand).map a.eval = #[a.eval s,a.eval x]:= aJ ;simp only[execOp,iE,resolve,em,hv,hqx,Sem.run_bind,Sem.run_pure,Result.andThen_ok,invoke,builtin,hr]
       split at h
       .
        rename_i id EO;rw[EO]at hs;split at h
        .rename_i nl T1 n sz el kp;split at h
         .rename_i qs;simp only[bY]at qs;have d1:=mR.1 qs.1.1;have d2:=mR.1 qs.1.2;subst d1 d2;cases h;have jT:(n+m)*te.i.bytes<=140737488355328:=ho _ aJ;obtain⟨f,p1,p2,p3⟩:=r.hb id _ kp;obtain⟨k1,k2⟩:=hs;have ku:(nl&&(nl2&&z.all E.nW))=true->nl2=true/\z.all E.nW=true:=λhn=>by simp only[bY]at hn;exact hn.2
          obtain⟨v',w',mg,od⟩:=key (L.val id) n f _ k2 (p1.ql λhn=>by simp only[bY]at hn;exact hn.1) ku jT;have ht:rS L w id (λy=>v'.ownBlock=some y) w':=by
           refine⟨λy hy=>?_,od.size,λy hy mG=>od.pC y hy λe1=>mG ((p2 y).2 e1),od.os,od.tape,od.output⟩;rcases od.KN y hy with e1|⟨e1,e2⟩
           .have:=(p2 y).2 e1;exact⟨.inl this,bT (r.hw id y this).2 od.size⟩
           .exact ⟨.inr e1,e2⟩
          have hl:=ht.later v' (L.jI id);have hpt:∀ b,L.val id ≠ .pointer (some b):=λb e1=>by
           rcases p1 with⟨e2,_⟩|⟨_,_,_,e2,_⟩<;>rw[e1]at e2<;>cases e2
          refine⟨v',w',_,.inl mg,r.rA id _ _ v' w' hpt ht ⟨λi j=>if i<n then f i j else g (i-n) j,by rw[Lk.o9];exact od.own,λy=>by rw[Lk.sJ,Lk.o9],λi j hi hj=>(λ(q:iR _ _ _ _ _/\_)=>⟨hl.lG q.1,q.2⟩) (?_:_/\_)⟩ (λhn=>?_),Lk.AI,Lk.o9.symm⟩
          .by_cases mq:i<n
           .simp only[mq,bN];exact p3 i j mq hj
           .simp only[mq,bF];exact gk _ _ aD hj
          .have:=qs.2;rw[hn]at this;simpa[Bx.nl]using this
         .cases h
        .cases h
       .
        rename_i id k EO;rw[EO]at hs;split at h
        .rename_i nl T1 T0 n sz len el kp;split at h
         .rename_i qs;simp only[bY]at qs;have d1:=mR.1 qs.1.1;have d2:=mR.1 qs.1.2;subst d1 d2;cases h;have hk:k<n:=ho _ aJ;have jT:(len k+m)*te.i.bytes<=140737488355328:=ho _ aJ;obtain⟨b,cp,cur,f,p1,p2,p3,p4,p5,p6,p7,p8,p9,p10,p11⟩:=r.hb id _ kp;obtain⟨k1,k2⟩:=hs;have ku:nl=true->nl2=true/\z.all E.nW=true:=λhn=>by have:=qs.2;rw[hn]at this;simpa using this
          obtain⟨v',w',mg,od⟩:=key (L.jI id k) (len k) (f k) nl k2 (p8 k hk).1 ku jT;have CE:∀ y,v'.ownBlock=some y->(L.jI id k).ownBlock=some y\/(w.heap.size<=y/\y<w'.heap.size):=od.KN;have tv:b<w.heap.size:=(r.hw id b ((p9 b).2 (.inl rfl))).2;have MI:∀ q y,q<n->(L.jI id q).ownBlock=some y->y<w.heap.size:=λq y hq hy=>(r.hw id y ((p9 y).2 (.inr ⟨q,hq,hy⟩))).2
          have ht:rS L w id (λy=>y=b\/∃ q,q<n/\(if q=k then v' else L.jI id q).ownBlock=some y) w':=by
           refine⟨λy hy=>?_,od.size,λy hy mG=>od.pC y hy λe1=>mG ((p9 y).2 (.inr ⟨k,hk,e1⟩)),od.os,od.tape,od.output⟩;rcases hy with rfl|⟨q,hq,hy⟩
           .exact ⟨.inl ((p9 y).2 (.inl rfl)),bT tv od.size⟩
           .by_cases tD:q=k
            .subst tD;rw[bn rfl]at hy;rcases CE y hy with e1|⟨e1,e2⟩
             .have:=(p9 y).2 (.inr ⟨q,hq,e1⟩);exact⟨.inl this,bT (r.hw id y this).2 od.size⟩
             .exact ⟨.inr e1,e2⟩
            .rw [bl tD]at hy;have:=(p9 y).2 (.inr ⟨q,hq,hy⟩);exact⟨.inl this,bT (r.hw id y this).2 od.size⟩
          have hl:=ht.later (L.val id) (λq=>if q=k then v' else L.jI id q);have Ix:∀ y,y<w.heap.size->(L.jI id k).ownBlock≠some y->w'.heap[y]? = w.heap[y]?:=od.pC;refine⟨v',w',_,.inl mg,r.wC id _ _ (λq=>if q=k then v' else L.jI id q) w' ht
           ⟨b,cp,cur,λq i j=>if q=k then(if i<len q then f q i j else g (i-len q) j)else f q i j,by rw[Lk.o9];exact p1,by rw[Ix b tv (p11 k hk)];exact p2,p3,p4,p5,λq hq tD=>?_,p7,λq hq=>?_,λy=>?_,λq q' y hq ui hy q7=>?_,λq hq hy=>?_⟩ (λhn=>?_),Lk.AI,?_⟩
          .have kq:q≠k:=λe1=>tD (by rw[e1])
           rw[Lk.rH,bl kq];exact p6 q hq aJ 
          .rw [Lk.rH];by_cases tD:q=k
           .subst tD;simp only[bN];refine⟨od.own,λi j hi hj=>(λ(q:iR _ _ _ _ _/\_)=>⟨hl.lG q.1,q.2⟩) (?_:_/\_)⟩;by_cases mq:i<len q
            .simp only[mq,bN];exact(p8 q hq).2 i j mq hj
            .simp only[mq,bF];exact gk _ _ aD hj
           .simp only[tD,bF];obtain⟨s1,s2⟩:=p8 q hq;exact⟨s1.block λy hy=>Ix y (MI q y hq hy) λe1=>tD (p10 q k y hq hk hy e1),λi j hi hj=>⟨hl.lG (s2 i j hi hj).1,(s2 i j hi hj).2⟩⟩
          .rw [Lk.sJ];simp only[Lk.rH]
          .simp only[Lk.rH]at hy q7;by_cases h1:q=k
           .subst h1;by_cases h2:q'=q
            .exact h2.symm
            .rw [bn rfl]at hy;rw[bl h2]at q7;rcases CE y hy with e1|⟨e1,_⟩
             .exact p10 q q' y hq ui e1 q7
             .have:=MI q' y ui q7;omega
           .rw [bl h1]at hy;by_cases h2:q'=k
            .subst h2;rw[bn rfl]at q7;rcases CE y q7 with e1|⟨e1,_⟩
             .exact p10 q q' y hq ui hy e1
             .have:=MI q y hq hy;omega
            .rw [bl h2]at q7;exact p10 q q' y hq ui hy q7
          .simp only[Lk.rH]at hy;by_cases h1:q=k
           .subst h1;rw[bn rfl]at hy;rcases CE b hy with e1|⟨e1,_⟩
            .exact p11 q hq e1
            .omega
           .rw [bl h1]at hy;exact p11 q hq hy
          .have:=r.hl hn id _ kp;exact this
          .rw [Lk.rH,bn rfl]
         .cases h
        .cases h
       .
        rename_i EO;rw[EO]at hs;have hs:=iR.kN hs;obtain⟨id,Ul,mG,IE,rfl⟩:=BH h;have jT:m*te.i.bytes<=140737488355328:=ho _ aJ;obtain⟨v',w',mg,od⟩:=key _ 0 g (nl2&&z.all E.nW) hs (.inl ⟨rfl,rfl⟩) (λhn=>by simpa using hn) (by simpa using jT);have hb:Below w.heap.size w w':=⟨od.os,od.tape,od.output,od.size,λy hy=>od.pC y hy (by simp[Value.ownBlock])⟩
        have hO:∀ y,v'.ownBlock=some y->w.heap.size<=y/\y<w'.heap.size:=λy hy=>by
         rcases od.KN y hy with e1|e1
         .simp [Value.ownBlock]at e1
         .exact e1
        have ht:rS L w id (λy=>v'.ownBlock=some y) w':=⟨λy hy=>⟨.inr (hO y hy).1,(hO y hy).2⟩,hb.size,λy hy _=>hb.block y hy,hb.os,hb.tape,hb.output⟩
        have hl:=ht.later v' (λ_=>undef);have oq:=od.own;rw[b6]at oq;refine⟨v',w',_,.inl mg,r.new id _ (λy=>v'.ownBlock=some y) v' (λ_=>undef) w' mG hO hb ⟨λi j=>if i<0 then g i j else g (i-0) j,by rw[Lk.o9];exact oq,λy=>by rw[Lk.sJ,Lk.o9],λi j hi hj=>(λ(q:iR _ _ _ _ _/\_)=>⟨hl.lG q.1,q.2⟩) (?_:_/\_)⟩ IE,Lk.AI,Lk.o9.symm⟩;simp only[bO,bF,dR];exact gk i j hi hj
       .cases h
      .cases h
     .cases h
    .cases h
   .cases h
  .cases h
 .cases h
def aec(hT:mI P T)(hB:∀ b,B b->b<w0.heap.size){s x:Operand}{t:TypeId}{c:Call}(hc:c={ callee:=.builtin .append,args:=#[s,x],argTypes:=#[t,t] })(iE:o.op = .call c)(r:jJ w0 B σ a w L)
 (h:Bc T σ o.dst t (σ.op s) (σ.op x)=some u) (ho:∀ q,q ∈ u.ki->q):kz P K w0 B σ o a w u:=by
 unfold Bc at h;split at h
 .rename_i u0 h0;split at h
  .rename_i id nl T1 n sz el id' hf hr;split at h
   .rename_i hid;have hid:=mR.1 hid;subst hid;cases h;have r2:jJ w0 B { σ with nl:=false } a w L:=⟨r.hd,r.hs,r.ht,r.hb,r.hv,r.hn,r.hw,r.hi,r.he,λh=>by cases h⟩
    obtain⟨v,w',L1,mg,hrel,r9⟩:=Tz (K:=K) hT hc iE r2 h0 λq hq=>ho q (List.mem_cons_of_mem _ hq)
    rw[hf]at hrel;rw[hr]at r9;obtain⟨L',k1,k2⟩:=jJ.fin hB hrel;refine⟨v,w',L',mg,⟨k1.hd,k1.hs,k1.ht,k1.hb,k1.hv,k1.hn,k1.hw,k1.hi,k1.he,λhn i b hb=>r.hl hn i b ?_⟩,?_⟩
    .have hb:look (σ.b.filter λx=>!Nat.beq x.1 id') i=some b:=hb;rw[NA]at hb;split at hb
     .cases hb
     .exact hb
    rw[r9.2];exact k2
   .cases h
  .cases h
 .cases h
def aet{x y:Operand}{c:Call}(hc:c.callee = .builtin .max/\c.args = #[x,y])(iE:o.op = .call c)(r:jJ w0 B σ a w L){k k':IntKind}{p q:Int}(hx:σ.op x = .e (.v (.int k p)))(hy:σ.op y = .e (.v (.int k' q)))
 (hu:u={ r:=.e (.v (.int k (if q>p then q else p))) }):kz P K w0 B σ o a w u:=by
 have h1:=r.op x;have h2:=r.op y;rw[hx]at h1;rw[hy]at h2;have h1:=iR.kN h1;have h2:=iR.kN h2;subst hu;refine kz.pure r (v:=.int k (if q>p then q else p)) ?_ rfl (.v _);have em:(#[x,y]:Array Operand).map a.eval = #[.int k p,.int k' q]:=by simp[h1,h2]
 simp only[execOp,iE,resolve,hc.1,hc.2,em,Sem.run_bind,Sem.run_pure,Result.andThen_ok,invoke,builtin,run_max_int2]
def aeu{x y z:Operand}{c:Call}(hc:c.callee = .builtin .max/\c.args = #[x,y,z])(iE:o.op = .call c)(r:jJ w0 B σ a w L){k k' k'':IntKind}{p q s:Int}(hx:σ.op x = .e (.v (.int k p)))(hy:σ.op y = .e (.v (.int k' q)))(hz:σ.op z = .e (.v (.int k'' s)))
 (hu:u={ r:=.e (.v (.int k (if s>(if q>p then q else p)then s else(if q>p then q else p)))) }):kz P K w0 B σ o a w u:=by
 have h1:=r.op x;have h2:=r.op y;have h3:=r.op z;rw[hx]at h1;rw[hy]at h2;rw[hz]at h3;have h1:=iR.kN h1;have h2:=iR.kN h2;have h3:=iR.kN h3;subst hu;refine kz.pure r (v:=.int k (if s>(if q>p then q else p)then s else(if q>p then q else p))) ?_ rfl (.v _);have em:(#[x,y,z]:Array Operand).map a.eval = #[.int k p,.int k' q,.int k'' s]:=by simp[h1,h2,h3]
 simp only[execOp,iE,resolve,hc.1,hc.2,em,Sem.run_bind,Sem.run_pure,Result.andThen_ok,invoke,builtin,run_max_int3]
def aev{x y:Operand}{c:Call}(hc:c.callee = .builtin .min/\c.args = #[x,y])(iE:o.op = .call c)(r:jJ w0 B σ a w L){k k':IntKind}{p q:Int}(hx:σ.op x = .e (.v (.int k p)))(hy:σ.op y = .e (.v (.int k' q)))
 (hu:u={ r:=.e (.v (.int k (if q<p then q else p))) }):kz P K w0 B σ o a w u:=by
 have h1:=r.op x;have h2:=r.op y;rw[hx]at h1;rw[hy]at h2;have h1:=iR.kN h1;have h2:=iR.kN h2;subst hu;refine kz.pure r (v:=.int k (if q<p then q else p)) ?_ rfl (.v _);have em:(#[x,y]:Array Operand).map a.eval = #[.int k p,.int k' q]:=by simp[h1,h2]
 simp only[execOp,iE,resolve,hc.1,hc.2,em,Sem.run_bind,Sem.run_pure,Result.andThen_ok,invoke,builtin,run_min_int2]
end
structure Gd(P:Program)(K:World->Prop)(w0:World)(B:Nat->Prop):Prop where
 k:K w0
 Oq:∀ w w',K w->Below w.heap.size w w'->K w'
 hB:∀ b,B b->b<w0.heap.size/\oK w0 b
def oK.De{w w':World}{b:Nat}(h:oK w b)(hb:w'.heap[b]? = w.heap[b]?):oK w' b:=by
 intro o x e;exact h o x (by rw[<-e];exact(World.cell?_of_block (w:=w) (w':=w') hb).symm)
def oK.Ob{w:World}{b:Nat}{cs:Array Value}{T:TypeId}{fr:Nat×Nat}(hg:w.heap[b]? = some (.cells cs T fr))(h:∀ v,v ∈ cs->tG v=false):oK w b:=by
 intro o x e;simp only[World.cell?,hg]at e;simp only[Option.isSome_none,bZ,bF]at e;have:=h _ (eu e);cases this
section
variable {P:Program} {K:World->Prop} {T:List TI} {O:pY} {w0:World} {B:Nat->Prop} {σ:PS} {o:Oper} {a:Act} {w:World} {L:Lk} {u:kW}
def qo.Jg{v:Value}{T:TypeId}{n sz:Nat}{f:Nat->Nat->Value}(h:qo w v T n sz f true){x:Nat}(hx:v.ownBlock=some x):oK w x:=by
 rcases h with⟨rfl,_⟩|⟨b,c,cur,rfl,hg,_,_,_,_,ku⟩
 .simp [Value.ownBlock]at hx
 .simp [Value.ownBlock]at hx;subst hx;exact oK.Ob hg (ku rfl)
def rN.Jg{id:Nat}{b:Bx}(h:rN (jM B L) (ky L) L w id b)(hn:b.nl=true){x:Nat}(hx:L.own id x):oK w x:=by
 cases b with
 |cells T l=>
  obtain⟨b,vs,h1,h2,h3,h4,h5⟩:=h;obtain rfl:=(h2 x).1 hx;exact oK.Ob h3 λv hv=>Nv h4 hn v (by simpa using hv)
 |row nl T n sz el=>
  obtain⟨f,h1,h2,h3⟩:=h;have hn:nl=true:=hn;subst hn;exact h1.Jg ((h2 x).1 hx)
 |jm nl T1 T0 n sz len el pend=>
  obtain⟨b,c,cur,f,h1,h2,h3,h4,h5,h6,h7,h8,h9,rY,vn⟩:=h;have hn:nl=true:=hn;subst hn;rcases(h9 x).1 hx with rfl|⟨k,hk,hkx⟩
  .exact oK.Ob h2 λv hv=>(h7 v hv).2
  .exact (h8 k hk).1.Jg hkx
def jJ.QR(g:Gd P K w0 B)(r:jJ w0 B σ a w L)(hn:σ.nl=true):∀ b,jM B L b->b<w.heap.size/\oK w b:=by
 intro b hb;rcases hb with hb|⟨id,hb⟩
 .obtain ⟨h1,h2⟩:=g.hB b hb;exact⟨bT h1 r.he.size,h2.De (r.he.block b h1)⟩
 .refine ⟨(r.hw id b hb).2,?_⟩;have hl:=(r.hv id).1 (r.hn id b hb);obtain⟨bx,jy⟩:=gU.1 hl;exact(r.hb id bx jy).Jg (r.hl hn id bx jy) hb
def rN.jC{id:Nat}{Tt:TypeId}{l:List E}(h:rN (jM B L) (ky L) L w id (.cells Tt l)){b:Nat}(hv:L.val id = .pointer (some ⟨b,0,none⟩))(iO:∀ x,L.own id x->x<w.heap.size):
 iR (jM B L) (λ_=>False) w (.jC l.length λj=>l.getD j .any) (.pointer (some ⟨b,0,none⟩)):=by
 obtain⟨b',vs,h1,h2,h3,h4,h5⟩:=h;rw[hv]at h1;cases h1;refine .jC _ _ b 0 (λj=>vs.getD j undef) (λh=>h) (iO b ((h2 b).2 rfl)) (λj hj=>?_) (λj hj=>?_) (λj hj=>?_)
 .have qX:j<vs.length:=by rw[h4.len];exact hj
  rw[bu,bD qX];exact h5 _ (cO qX)
 .have qX:j<vs.length:=by rw[h4.len];exact hj
  simp only[World.cell?,h3];simp[qX]
 .have qX:j<vs.length:=by rw[h4.len];exact hj
  rw[bu,bD hj,bu,bD qX];exact(h4.lG j _ _ (bD hj) (bD qX)).ql (λ_ h=>h) (λ_ h=>h.elim)
def CV.Hv(r:jJ w0 B σ a w L){c:CV}{e:E}{is:List Nat}(h:c.ext σ=some (e,is)){v:Value}(hv:yo (jM B L) (ky L) L w c v):iR (jM B L) (λ_=>False) w e v:=by
 cases c with
 |e x=>simp only[CV.ext,bV,cD]at h;obtain⟨rfl,_⟩:=h;exact hv.ql (λ_ h=>h) (λ_ h=>h.elim)
 |box id=>
  simp only[CV.ext]at h;split at h
  .rename_i Tt l kp;simp only[bV,cD]at h;obtain⟨rfl,_⟩:=h;obtain⟨_,b,k2,rfl⟩:=hv;exact(r.hb id _ kp).jC k2 λx hx=>(r.hw id x hx).2
  .cases h
def S1(r:jJ w0 B σ a w L){l:List CV}{es:List E}{is:List Nat}(h:xx σ l=some (es,is)){vs:List Value}(hlen:vs.length=l.length)
 (hv:∀ (i:Nat) (c:CV) (x:Value),l[i]? = some c->vs[i]? = some x->yo (jM B L) (ky L) L w c x):kB (jM B L) (λ_=>False) w es vs:=by
 induction l generalizing es is vs with
 |nil=>simp only[xx,bV,cD]at h;obtain⟨rfl,_⟩:=h;obtain rfl:=dN hlen;exact .nil _ _ _
 |cons c l ih=>
  cases vs with
  |nil=>simp at hlen
  |cons v vs=>
   simp only[xx]at h;split at h
   .rename_i x i xs js h1 h2;simp only[bV,cD]at h;obtain⟨rfl,_⟩:=h;exact .cons (CV.Hv r h1 (hv 0 c v rfl rfl)) (ih h2 (by simpa using hlen) λi c x hc hx=>hv (i+1) c x (by simpa using hc) (by simpa using hx))
   .cases h
def PV.Hv(r:jJ w0 B σ a w L){p:PV}{e:E}{is:List Nat}(h:p.ext σ=some (e,is))(mG:p.BF=false){v:Value}(hv:nJ (jM B L) (ky L) L w p v):iR (jM B L) (λ_=>False) w e v:=by
 cases p with
 |e x=>simp only[PV.ext,bV,cD]at h;obtain⟨rfl,_⟩:=h;exact iR.ql (λ_ h=>h) (λ_ h=>h.elim) hv
 |box id off=>
  cases off with
  |succ=>simp[PV.ext]at h
  |zero=>
   simp only[PV.ext]at h;split at h
   .rename_i Tt l kp;simp only[bV,cD]at h;obtain⟨rfl,_⟩:=h;obtain⟨_,b,k2,rfl⟩:=hv;exact(r.hb id _ kp).jC k2 λx hx=>(r.hw id x hx).2
   .cases h
 |rU f cap=>
  simp only[PV.ext]at h;split at h
  .rename_i xs js h1;simp only[bV,cD]at h;obtain⟨rfl,_⟩:=h;obtain⟨vs,rfl,k2,k3⟩:=hv;have:=S1 r h1 k2 k3;exact .fn f xs vs this.len this.lG
  .cases h
 |own id=>cases mG
 |_=>simp[PV.ext]at h
def PV.adx(r:jJ w0 B σ a w L){p:PV}{e:E}{is:List Nat}(h:p.ext σ=some (e,is)){v:Value}(hv:nJ (jM B L) (ky L) L w p v):iR (λ_=>False) (λ_=>False) w e v:=by
 by_cases mG:p.BF=false
 .exact (PV.Hv r h mG hv).ql (λ_ h=>h.elim) (λ_ h=>h)
 .cases p with
  |own id=>
   obtain⟨_,rfl⟩:=hv;simp only[PV.ext]at h;split at h
   .rename_i nl T n sz el kp;simp only[bV,cD]at h;obtain⟨rfl,_⟩:=h;obtain⟨f,h1,h2,h3⟩:=r.hb id _ kp;generalize U8:L.val id=v at *
    rcases h1 with⟨rfl,rfl⟩|⟨b,c,cur,rfl,hg,pM,nS,oR,mf,ku⟩
    .exact .sl nl 0 sz el none 0 f (bp _) aF (λ_=>rfl) (λi j hi=>absurd hi (bO i)) (λi j hi=>absurd hi (bO i)) (λi j hi=>absurd hi (bO i)) (λi j hi=>absurd hi (bO i))
    .have rD:=(h2 b).2 rfl;refine .sl nl n sz el _ c f pM (by unfold maxLen at nS;omega) (λh=>by cases h) (λi j hi hj=>⟨(mf i j hi hj).2,λhn=>ku hn _ (eu (mf i j hi hj).1)⟩) (λi j hi hj=>(h3 i j hi hj).2)
      (λi j hi hj=>⟨b,0,rfl,λh=>h,(r.hw id b rD).2,?_⟩) (λi j hi hj=>((h3 i j hi hj).1.ql (λ_ h=>h.elim) (λ_ h=>h)).nr 2 (h3 i j hi hj).2)
     rw[b6];simp only[World.cell?,hg];simpa using(mf i j hi hj).1
   .cases h
  |_=>exact absurd rfl mG
def Qo(r:jJ w0 B σ a w L){l:List Operand}{es:List E}{is:List Nat}(h:uR σ l=some (es,is)):kB (λ_=>False) (λ_=>False) w es (l.map a.eval):=by
 induction l generalizing es is with
 |nil=>simp only[uR,bV,cD]at h;obtain⟨rfl,_⟩:=h;exact .nil _ _ _
 |cons x l ih=>
  simp only[uR]at h;split at h
  .rename_i y i xs js h1 h2;simp only[bV,cD]at h;obtain⟨rfl,_⟩:=h;exact .cons (PV.adx r h1 (r.op x)) (ih h2)
  .cases h
def Qn(r:jJ w0 B σ a w L){l:List Operand}{es:List E}{is:List Nat}(h:uR σ l=some (es,is))(mG:(l.map σ.op).any PV.BF=false):kB (jM B L) (λ_=>False) w es (l.map a.eval):=by
 induction l generalizing es is with
 |nil=>simp only[uR,bV,cD]at h;obtain⟨rfl,_⟩:=h;exact .nil _ _ _
 |cons x l ih=>
  simp only[uR]at h;split at h
  .rename_i y i xs js h1 h2;simp only[bV,cD]at h;obtain⟨rfl,_⟩:=h;simp only[fF,ana,Bool.or_eq_false_iff]at mG;exact .cons (PV.Hv r h1 mG.1 (r.op x)) (ih h2 mG.2)
  .cases h
def Gu(P:Program)(K:World->Prop)(w0:World)(B:Nat->Prop)(σ:PS)(o:Oper)(a:Act)(w:World)(u:kW):Prop:=
 ∀ (Kc:Act->World->Prop) (Q:Exit->Act->World->Prop),(∀ v w' L',jJ w0 B (σ.qG u.f) a w' L'->nJ (jM B L') (ky L') L' w' u.r v->Kc (a.put o.dst v) w')->o.wp P a w Kc Q
def kz.oA(h:kz P K w0 B σ o a w u):Gu P K w0 B σ o a w u:=by
 intro Kc Q hk;obtain⟨v,w',L',mg,hr,hp⟩:=h;unfold Oper.wp;rcases mg with mg|⟨mg,rfl⟩
 .rw [mg];exact hk v w' L' hr hp
 .rw [mg];exact hk _ w' L' hr hp
def RY(g:Gd P K w0 B)(r:jJ w0 B σ a w L){c:Call}{f:Operand}(iE:o.op = .call c)(hf:c.callee = .value f){gf:FuncId}{xs ys:List E}{is:List Nat}{us:List Value}
 {ow:Bool} (zX:a.eval f = .func (.func gf) #[] us.toArray) (afy:kB (λ_=>False) (λ_=>False) w xs (c.args.toList.map a.eval)) (qv:ow=false->kB (jM B L) (λ_=>False) w xs (c.args.toList.map a.eval)) (yT:kB (jM B L) (λ_=>False) w ys us)
 (h:zP P K O σ o.dst gf (xs++ys) is ow=some u) (ho:∀ q,q ∈ u.ki->q):Gu P K w0 B σ o a w u:=by
 intro Kc Q hk;simp only[zP]at h;split at h
 .rename_i kj ER;split at h
  .rename_i hc;cases h;have pc:PC P K gf (xs++ys) kj:=ho _ aJ;have aeT:=afy.app (yT.mono λ_ _=>iR.ql (bs':=λ_=>False) (λ_ h=>h.elim) (λ_ h=>h));have mg:(execOp a.eval o).run P w = .ok (.enter gf ((c.args.toList.map a.eval)++us).toArray) w:=by
    have e1:c.args.map a.eval=(c.args.toList.map a.eval).toArray:=by apply dQ;simp
    have e2:#[]++(c.args.toList.map a.eval).toArray++us.toArray=((c.args.toList.map a.eval)++us).toArray:= aJ ;simp only[execOp,iE,resolve,hf,zX,Deferred.ofValue,Sem.run_bind,Sem.run_pure,Result.andThen_ok,invoke,e1,e2,pc.call]
   unfold Oper.wp;rw[mg];show Calls P gf _ w _;have hK:K w:=g.Oq _ _ g.k r.he;by_cases Br:kj.plain 3=true
   .refine (pc.run w (λ_=>False) _ hK (λ_ h=>h.elim) aeT).mono ?_;rintro e w' ⟨v,rfl,hb,hv⟩;exact hk v w' L (r.later hb) (iR.plain (w:=w') hv 3 Br)
   .have hn:σ.nl=true/\ow=false:=by simpa[Br]using hc
    refine(pc.run w (jM B L) _ hK (r.QR g hn.1) ((qv hn.2).app yT)).mono ?_;rintro e w' ⟨v,rfl,hb,hv⟩;exact hk v w' L (r.later hb) (iR.ql (λ_ h=>h) (λ_ _=>trivial) hv)
  .split at h
   .rename_i hc;cases h;have pc:AT P K gf (xs++ys) kj:=ho _ aJ;have mg:(execOp a.eval o).run P w = .ok (.enter gf ((c.args.toList.map a.eval)++us).toArray) w:=by
     have e1:c.args.map a.eval=(c.args.toList.map a.eval).toArray:=by apply dQ;simp
     have e2:#[]++(c.args.toList.map a.eval).toArray++us.toArray=((c.args.toList.map a.eval)++us).toArray:= aJ ;simp only[execOp,iE,resolve,hf,zX,Deferred.ofValue,Sem.run_bind,Sem.run_pure,Result.andThen_ok,invoke,e1,e2,pc.call]
    unfold Oper.wp;rw[mg];show Calls P gf _ w _;have hK:K w:=g.Oq _ _ g.k r.he;have hn:ow=false:=by simpa using hc
    refine(pc.run w (jM B L) _ hK (λb hb=>?_) ((qv hn).app yT)).mono ?_
    .rcases hb with hb|⟨id,hb⟩
     .exact bT (g.hB b hb).1 r.he.size
     .exact (r.hw id b hb).2
    .rintro e w' ⟨v,rfl,hb,hv⟩;exact hk v w' L (r.later hb) (iR.ql (λ_ h=>h) (λ_ _=>trivial) hv)
   .cases h
 .split at h
  .rename_i d hd;split at h
   .rename_i nl T n sz el hnw mG;split at h
    .rename_i hc;cases h;simp only[bY]at hc;have pc:uO P K gf (xs++ys) nl T n sz el:=ho _ aJ;have mg:(execOp a.eval o).run P w = .ok (.enter gf ((c.args.toList.map a.eval)++us).toArray) w:=by
      have e1:c.args.map a.eval=(c.args.toList.map a.eval).toArray:=by apply dQ;simp
      have e2:#[]++(c.args.toList.map a.eval).toArray++us.toArray=((c.args.toList.map a.eval)++us).toArray:= aJ ;simp only[execOp,iE,resolve,hf,zX,Deferred.ofValue,Sem.run_bind,Sem.run_pure,Result.andThen_ok,invoke,e1,e2,pc.call]
     unfold Oper.wp;rw[mg];show Calls P gf _ w _;have hK:K w:=g.Oq _ _ g.k r.he;have hn:ow=false:=by simpa using hc.2
     refine(pc.run w (jM B L) _ hK (r.QR g hc.1.1) ((qv hn).app yT)).mono ?_
     .rintro e w' ⟨v,rfl,hb,gg,oq,CE,Uo⟩;have hl:=(r.later hb)
      have afk:=r.new d (.row nl T n sz el) (λx=>v.ownBlock=some x) v (λ_=>undef) w' mG CE hb
       ⟨gg,by rw[Lk.o9];exact oq,λx=>by rw[Lk.sJ,Lk.o9],λi j hi hj=>⟨?_,(Uo i j hi hj).2⟩⟩ (by simp[Bx.nl,hc.1.2])
      .exact hk v w' _ afk ⟨Lk.AI,Lk.o9.symm⟩
      .refine (Uo i j hi hj).1.ql (λb h=>?_) (λ_ _=>trivial);rcases h with h|⟨id,h⟩
       .exact .inl (.inl h)
       .by_cases e:id=d
        .subst e;exact .inr ((Lk.sJ b).1 h)
        .exact .inl (.inr ⟨id,(Lk.AJ e b).1 h⟩)
    .cases h
   .cases h
  .cases h
def LC(hT:mI P T)(g:Gd P K w0 B)(r:jJ w0 B σ a w L)(h:jQ P K T O σ o=some u)(ho:∀ q,q ∈ u.ki->q):Gu P K w0 B σ o a w u:=by
 cases iE:o.op with
 |move x=>exact(aew (P:=P) (K:=K) iE r h).oA
 |assign x=>exact(aed (P:=P) (K:=K) iE r h).oA
 |pick c x y=>exact(aey (P:=P) (K:=K) iE r h).oA
 |alloc t=>exact(aeb hT iE r h).oA
 |box t x=>exact(aef (P:=P) (K:=K) iE r h).oA
 |build t ps=>exact(aeg hT iE r h).oA
 |buildSlice t n ps=>exact(aeh hT (λb hb=>(g.hB b hb).1) iE r h).oA
 |load t x=>exact(aep hT iE r h ho).oA
 |store t x y=>exact(aeA hT iE r h ho).oA
 |nilCheck x=>exact(aex (P:=P) (K:=K) iE r h).oA
 |binOp op t x y yt=>exact(aee hT iE r h ho).oA
 |unOp op t x=>exact(aeB (P:=P) (K:=K) iE r h ho).oA
 |convert s d x=>exact(aei hT iE r h).oA
 |makeFunc fn first cap=>exact(aer (P:=P) (K:=K) iE r h).oA
 |makeSlice t l c=>exact(aes hT iE r h ho).oA
 |slice t x lo hi mx=>
  cases mx with
  |none=>exact(aez hT iE r h ho).oA
  |some=>simp[jQ,iE]at h
 |fieldAddr t x f=>exact(ael hT iE r h).oA
 |indexAddr t x i=>exact(aen hT iE r h ho).oA
 |index t x i=>exact(aem hT iE r h ho).oA
 |field t x f=>exact(aek hT iE r h).oA
 |lookup t x i ok=>exact(aeq hT iE r h ho).oA
 |extract x i=>exact(aej (P:=P) (K:=K) iE r h).oA
 |call c=>
  obtain⟨callee,args,ats⟩:=c;cases callee with
  |builtin b=>
   simp only[jQ,iE]at h;cases b
   case len=>
    dsimp only at h;split at h
    .rename_i x t hx ht;have ha:args = #[x]:=by apply dQ;simpa using hx
     have CU:ats = #[t]:=by apply dQ;simpa using ht
     split at h
     .rename_i e hd;obtain⟨rr,hr,rfl⟩:=dm.1 h;exact(aeo hT (by rw[ha,CU]) iE hd r hr rfl).oA
     .cases h
    .cases h
   case append=>
    dsimp only at h;split at h
    .rename_i s x t t' hx ht;have ha:args = #[s,x]:=by apply dQ;simpa using hx
     have CU:ats = #[t,t']:=by apply dQ;simpa using ht
     split at h
     .rename_i rE;have rE:=mR.1 rE;subst rE;split at h
      .exact (aec hT (λb hb=>(g.hB b hb).1) (by rw[ha,CU]) iE r h ho).oA
      .exact (Tz hT (by rw[ha,CU]) iE r h ho).oA
     .cases h
    .cases h
   case max=>
    dsimp only at h;split at h
    .rename_i k p k' q hx;rcases args with⟨l⟩
     rcases l with _|⟨x,_|⟨y,_|⟨z,l⟩⟩⟩<;>simp at hx
     cases h;exact(aet (P:=P) (K:=K) ⟨rfl,rfl⟩ iE r hx.1 hx.2 rfl).oA
    .rename_i k p k' q k'' s hx;rcases args with⟨l⟩
     rcases l with _|⟨x,_|⟨y,_|⟨z,_|⟨z',l⟩⟩⟩⟩<;>simp at hx
     cases h;exact(aeu (P:=P) (K:=K) ⟨rfl,rfl⟩ iE r hx.1 hx.2.1 hx.2.2 rfl).oA
    .cases h
   case min=>
    dsimp only at h;split at h
    .rename_i k p k' q hx;rcases args with⟨l⟩
     rcases l with _|⟨x,_|⟨y,_|⟨z,l⟩⟩⟩<;>simp at hx
     cases h;exact(aev (P:=P) (K:=K) ⟨rfl,rfl⟩ iE r hx.1 hx.2 rfl).oA
    .cases h
   all_goals cases h
  |value f=>
   simp only[jQ,iE]at h;have zX:=r.op f;split at h
   .rename_i gf cap xs is Bq qv;rw[Bq]at zX;obtain⟨us,e1,yT⟩:=iR.Tc zX;exact RY g r iE rfl e1 (Qo r qv) (λmG=>Qn r qv mG) (yT.mono λ_ _=>iR.ql (λ_ h=>h) (λ_ h=>h.elim)) h ho
   .rename_i gf cap xs is Bq qv;rw[Bq]at zX;obtain⟨us,e1,k2,k3⟩:=zX;split at h
    .rename_i ys js CZ;exact RY g r iE rfl e1 (Qo r qv) (λmG=>Qn r qv mG) (S1 r CZ k2 k3) h ho
    .cases h
   .cases h
  |invoke _ _=>simp[jQ,iE]at h
 |_=>simp[jQ,iE]at h
def adr(hT:mI P T)(g:Gd P K w0 B)(r:jJ w0 B σ a w L)(h:tW P K T O σ o=some u)(ho:∀ q,q ∈ u.ki->q):Gu P K w0 B σ o a w u:=by
 unfold tW at h;split at h
 .rename_i u0 h0;split at h
  .split at h
   .rename_i p hp;cases h;have he:PV.le u0.r p:=ho _ aJ;have:=LC hT g r h0 (λq hq=>ho q (by simp[hq]));intro Kc Q hk;exact this Kc Q λv w' L' hr hv=>hk v w' L' hr (he _ _ _ _ _ hv)
   .cases h;exact LC hT g r h0 ho
  .cases h;exact LC hT g r h0 ho
 .cases h
end
section
variable {P:Program} {K:World->Prop} {T:List TI} {O:pY} {σ τ:PS} {o:Oper} {u:kW}
def ah3{x:Operand}(h:∀ t,x = .tmp t->σ.get t=τ.get t):τ.op x=σ.op x:=by
 cases x with
 |tmp t=>exact(h t rfl).symm
 |_=>rfl
def ajr{p:PV}{m:Nat}{l:List E}{is:List Nat}{ki:List Prop}(h:σ.read p m=some (l,is,ki))(hb:∀ id,id ∈ is->σ.bo id=τ.bo id):τ.read p m=some (l,is,ki):=by
 cases p with
 |box id off=>
  have h0:=h;simp only[PS.read]at h;split at h
  .split at h
   .simp only[bV,cD]at h;obtain⟨_,rfl,_⟩:=h;simp only[PS.read,<-hb id aJ];exact h0
   .cases h
  .cases h
 |pT id sz i j=>
  have h0:=h;simp only[PS.read]at h;split at h
  .split at h
   .simp only[bV,cD]at h;obtain⟨_,rfl,_⟩:=h;simp only[PS.read,<-hb id aJ];exact h0
   .cases h
  .cases h
 |e x=>cases x<;>exact h
 |_=>exact h
def abD{c:CV}{e:E}{is:List Nat}(h:c.ext σ=some (e,is))(hb:∀ id,id ∈ is->σ.bo id=τ.bo id):c.ext τ=some (e,is):=by
 cases c with
 |e x=>exact h
 |box id=>
  have h0:=h;simp only[CV.ext]at h;split at h
  .simp only[bV,cD]at h;obtain⟨_,rfl⟩:=h;simp only[CV.ext,<-hb id aJ];exact h0
  .cases h
def S0{l:List CV}{es:List E}{is:List Nat}(h:xx σ l=some (es,is))(hb:∀ id,id ∈ is->σ.bo id=τ.bo id):xx τ l=some (es,is):=by
 induction l generalizing es is with
 |nil=>exact h
 |cons c l ih=>
  simp only[xx]at h;split at h
  .rename_i x i xs js h1 h2;simp only[bV,cD]at h;obtain⟨rfl,rfl⟩:=h;simp only[xx,abD h1 λid hi=>hb id (by simp[hi]),ih h2 λid hi=>hb id (by simp[hi])]
  .cases h
def aie{p:PV}{e:E}{is:List Nat}(h:p.ext σ=some (e,is))(hb:∀ id,id ∈ is->σ.bo id=τ.bo id):p.ext τ=some (e,is):=by
 cases p with
 |e x=>exact h
 |box id off=>
  cases off with
  |succ=>exact h
  |zero=>
   have h0:=h;simp only[PV.ext]at h;split at h
   .simp only[bV,cD]at h;obtain⟨_,rfl⟩:=h;simp only[PV.ext,<-hb id aJ];exact h0
   .cases h
 |rU f cap=>
  simp only[PV.ext]at h;split at h
  .rename_i xs js h1;simp only[bV,cD]at h;obtain⟨rfl,rfl⟩:=h;simp only[PV.ext,S0 h1 hb]
  .cases h
 |own id=>
  have h0:=h;simp only[PV.ext]at h;split at h
  .simp only[bV,cD]at h;obtain⟨_,rfl⟩:=h;simp only[PV.ext,<-hb id aJ];exact h0
  .cases h
 |_=>exact h
def Qm{l:List Operand}{es:List E}{is:List Nat}(h:uR σ l=some (es,is))(hg:∀ x,x ∈ l->τ.op x=σ.op x)(hb:∀ id,id ∈ is->σ.bo id=τ.bo id):uR τ l=some (es,is):=by
 induction l generalizing es is with
 |nil=>exact h
 |cons c l ih=>
  simp only[uR]at h;split at h
  .rename_i x i xs js h1 h2;simp only[bV,cD]at h;obtain⟨rfl,rfl⟩:=h;simp only[uR,hg c aJ,aie h1 λid hi=>hb id (by simp[hi]),ih h2 (λx hx=>hg x (by simp[hx])) λid hi=>hb id (by simp[hi])]
  .cases h
def S5{place:Nat->Option (Nat×Nat)}{ps:List (Nat×Operand)}(hg:∀ x,x ∈ ps.map (·.2)->τ.op x=σ.op x):∀ l,rX τ place l ps=rX σ place l ps:=by
 induction ps with
 |nil=>intro l;rfl
 |cons p ps ih=>
  intro l;obtain⟨i,x⟩:=p;simp only[rX,hg x aJ,ih λx hx=>hg x (by simp only[fF,de];exact .inr hx)]
def Fx{d:Option Tmp}{b:Bx}{rr:Nat->PV}{ki:List Prop}(h:wZ σ d b rr ki=some u)(ku:σ.nl=τ.nl)(hn:∀ id b,u.f = .new id b->τ.bo id=none):wZ τ d b rr ki=some u:=by
 obtain⟨id,rfl,mG,hc,rfl⟩:=BH h;rw[ku]at hc;simp only[wZ,hn id b rfl,hc,bN]
def SS{d:Option Tmp}{t:TypeId}{s x:PV}{u:kW}(h:zO T σ d t s x=some u)(hb:∀ id,id ∈ u.rb->σ.bo id=τ.bo id)(ku:σ.nl=τ.nl)(hn:∀ id b,u.f = .new id b->τ.bo id=none):zO T τ d t s x=some u:=by
 simp only[zO]at h ⊢;split at h
 .split at h
  .split at h
   .split at h
    .split at h
     .split at h
      .rename_i hc;simp only[hc,bN];split at h
       .rename_i id;split at h
        .rename_i kp;split at h
         .rename_i qs;cases h;simp only[<-hb id aJ,<-ku,kp,qs,bN]
         .cases h
        .cases h
       .rename_i id k;split at h
        .rename_i kp;split at h
         .rename_i qs;cases h;simp only[<-hb id aJ,kp,qs,bN]
         .cases h
        .cases h
       .exact Fx h ku hn
       .cases h
      .cases h
     .cases h
    .cases h
   .cases h
  .cases h
 .cases h
def adj{d:Option Tmp}{t:TypeId}{s x:PV}{u:kW}(h:Bc T σ d t s x=some u)(hb:∀ id,id ∈ u.rb->σ.bo id=τ.bo id)(ku:σ.nl=τ.nl):Bc T τ d t s x=some u:=by
 unfold Bc at h ⊢;split at h
 .rename_i u0 h0;split at h
  .rename_i id nl T1 n sz el id' hf hr;split at h
   .rename_i hid;cases h;have:=SS (σ:={ σ with nl:=false }) (τ:={ τ with nl:=false }) h0 hb rfl λi b e=>by rw[hf]at e;cases e
    rw[this];simp only[hf,hr,hid,bN]
   .cases h
  .cases h
 .cases h
def adl(h:jQ P K T O σ o=some u)(hg:∀ x,x ∈ o.op.operands->τ.op x=σ.op x)(hb:∀ id,id ∈ u.rb->σ.bo id=τ.bo id)(ku:σ.nl=τ.nl)(hn:∀ id b,u.f = .new id b->τ.bo id=none):
 jQ P K T O τ o=some u:=by
 cases iE:o.op with
 |move x=>rw[iE]at hg;simp only[jQ,iE]at h ⊢;rw[hg x aT];exact h
 |assign x=>rw[iE]at hg;simp only[jQ,iE]at h ⊢;rw[hg x aT];exact h
 |pick c x y=>rw[iE]at hg;simp only[jQ,iE]at h ⊢;rw[hg c aT,hg x aT,hg y aT];exact h
 |nilCheck x=>rw[iE]at hg;simp only[jQ,iE]at h ⊢;rw[hg x aT];exact h
 |binOp op t x y yt=>rw[iE]at hg;simp only[jQ,iE]at h ⊢;rw[hg x aT,hg y aT];exact h
 |unOp op t x=>rw[iE]at hg;simp only[jQ,iE]at h ⊢;rw[hg x aT];exact h
 |convert s d x=>rw[iE]at hg;simp only[jQ,iE]at h ⊢;rw[hg x aT];exact h
 |index t x i=>rw[iE]at hg;simp only[jQ,iE]at h ⊢;rw[hg x aT,hg i aT];exact h
 |extract x i=>rw[iE]at hg;simp only[jQ,iE]at h ⊢;rw[hg x aT];exact h
 |fieldAddr t x f=>rw[iE]at hg;simp only[jQ,iE]at h ⊢;rw[hg x aT];exact h
 |field t x f=>rw[iE]at hg;simp only[jQ,iE]at h ⊢;rw[hg x aT];exact h
 |lookup t x i ok=>
  rw[iE]at hg;cases ok with
  |true=>simp[jQ,iE]at h
  |false=>simp only[jQ,iE]at h ⊢;rw[hg x aT,hg i aT];exact h
 |makeFunc fn first cap=>
  rw[iE]at hg;cases fn with
  |func f=>
   simp only[jQ,iE]at h ⊢;have:cap.toList.map τ.op=cap.toList.map σ.op:=ev λx hx=>hg x (by simp only[Op.operands,fG];exact .inr (by simpa using hx))
   rw[this];exact h
  |_=>simp[jQ,iE]at h
 |slice t x lo hi mx=>
  rw[iE]at hg;cases mx with
  |some=>simp[jQ,iE]at h
  |none=>
   simp only[jQ,iE]at h ⊢;have e1:lo.map τ.op=lo.map σ.op:=by cases lo with
    |none=>rfl
    |some y=>simp only[c9];rw[hg y aT]
   have e2:hi.map τ.op=hi.map σ.op:=by cases hi with
    |none=>rfl
    |some y=>simp only[c9];rw[hg y aT]
   rw[hg x aT,e1,e2];exact h
 |alloc t=>
  simp only[jQ,iE]at h ⊢;split at h
  .split at h
   .exact Fx h ku hn
   .cases h
  .cases h
 |box t x=>
  rw[iE]at hg;simp only[jQ,iE]at h ⊢;rw[hg x aT];split at h
  .split at h
   .exact Fx h ku hn
   .cases h
  .cases h
 |build t ps=>
  rw[iE]at hg;simp only[jQ,iE]at h ⊢;have hf:∀ place l,rX τ place l ps.toList=rX σ place l ps.toList:=λplace=>S5 λx hx=>hg x (by simpa[Op.operands]using hx)
  simp only[hf];exact h
 |buildSlice t n ps=>
  rw[iE]at hg;simp only[jQ,iE]at h ⊢;have hf:∀ place l,rX τ place l ps.toList=rX σ place l ps.toList:=λplace=>S5 λx hx=>hg x (by simpa[Op.operands]using hx)
  simp only[hf];split at h
  .split at h
   .split at h
    .split at h
     .split at h
      .rename_i hif;rw[bn hif];obtain⟨l,hl,h⟩:=gT.1 h;refine gT.2 ⟨l,hl,?_⟩;split at h
       .cases h
       .rename_i h1;rw[bl h1];split at h
        .rename_i h2;rw[bn h2];exact Fx h ku hn
        .rename_i h2;rw[bl h2];exact h
      .cases h
     .cases h
    .cases h
   .cases h
  .cases h
 |load t x=>
  rw[iE]at hg;simp only[jQ,iE,Ho]at h ⊢;rw[hg x aT];split at h
  .rename_i ti oX;split at h
   .rename_i id i n pA;have afq:BX τ (σ.op x)=some (id,i,n):=by
     have hid:σ.bo id=τ.bo id:=by
      split at h
      .cases h
      .cases h;exact hb id aJ 
     cases hp:σ.op x with
     |pT id' sz i' j=>
      rw[hp]at pA;have h0:=pA;simp only[BX]at pA;split at pA
      .split at pA
       .simp only[bV,cD]at pA;obtain⟨rfl,_,_⟩:=pA;simp only[BX,<-hid];exact h0
       .cases pA
      .cases pA
     |_=>rw[hp]at pA;cases pA
    simp only[afq];exact h
   .rename_i pA;have key:∀ is,(∃ l ki,σ.read (σ.op x) ti.i.size=some (l,is,ki))->(∀ id,id ∈ is->σ.bo id=τ.bo id)->BX τ (σ.op x)=none:=by
     rintro is ⟨l,ki,hr⟩ ns;cases hp:σ.op x with
     |pT id sz i j=>
      rw[hp]at hr pA;simp only[PS.read]at hr;split at hr
      .rename_i kp;split at hr
       .simp only[bV,cD]at hr;obtain⟨_,rfl,_⟩:=hr;simp only[BX,<-ns id aJ,kp]
       .cases hr
      .cases hr
     |_=>rfl
    cases hr:σ.read (σ.op x) ti.i.size with
    |none=>rw[hr]at h;cases h
    |some y=>
     obtain⟨l,is,ki⟩:=y;have hrb:u.rb=is:=by
      rw[hr]at h;simp only[Fl]at h;split at h
      .cases h;rfl
      .split at h
       .cases h;rfl
       .cases h
     have ns:∀ id,id ∈ is->σ.bo id=τ.bo id:=λid hi=>hb id (by rw[hrb];exact hi)
     rw[key is ⟨l,ki,hr⟩ ns];simp only;rw[ajr hr ns];rw[hr]at h;exact h
  .cases h
 |store t x y=>
  rw[iE]at hg;simp only[jQ,iE,Hr]at h ⊢;rw[hg x aT,hg y aT];split at h
  .split at h
   .rename_i id off e _ _;split at h
    .rename_i kp hm;split at h
     .rename_i hc;cases h;rw[ku]at hc;simp only[<-hb id aJ,kp,hm,hc,bN]
     .cases h
    .cases h
   .rename_i id sz i j e _ _;split at h
    .rename_i kp hm;split at h
     .rename_i hc;cases h;simp only[<-hb id aJ,kp,hm,hc,bN]
     .cases h
    .cases h
   .rename_i id i id' k _ _;split at h
    .rename_i kp;split at h
     .rename_i hc;cases h;simp only[<-hb id aJ,kp,hc,bN]
     .cases h
    .cases h
   .cases h
  .cases h
 |makeSlice t l c=>
  rw[iE]at hg;simp only[jQ,iE,Hp]at h ⊢;rw[hg l aT,hg c aT];split at h
  .exact Fx h ku hn
  .cases h
 |indexAddr t x i=>
  rw[iE]at hg;simp only[jQ,iE,Hn]at h ⊢;rw[hg x aT,hg i aT];split at h
  .split at h
   .split at h
    .split at h
     .split at h
      .exact h
      .rename_i id _;split at h
       .rename_i kp;split at h
        .rename_i hc;cases h;simp only[<-hb id aJ,kp,hc,bN]
        .cases h
       .rename_i kp;split at h
        .rename_i hc;cases h;simp only[<-hb id aJ,kp,hc,bN]
        .cases h
       .cases h
      .cases h
     .cases h
    .exact h
    .cases h
   .cases h
  .cases h
 |call c=>
  rw[iE]at hg;obtain⟨callee,args,ats⟩:=c;have ha:∀ x,x ∈ args.toList->τ.op x=σ.op x:=λx hx=>hg x (by simp only[Op.operands,Call.operands,fG];exact .inr (by simpa using hx))
  have MQ:args.toList.map τ.op=args.toList.map σ.op:=ev ha;cases callee with
  |builtin b=>
   simp only[jQ,iE]at h ⊢;cases b
   case len=>
    dsimp only at h ⊢;split at h
    .rename_i x t hx ht;split at h
     .obtain ⟨rr,hr,rfl⟩:=dm.1 h;rw[ha x (by rw[hx];simp)];have:vd (σ.op x) τ=some rr:=by
       cases hp:σ.op x with
       |own id=>
        rw[hp]at hr;have h0:=hr;simp only[vd]at hr;split at hr
        .simp only[bV]at hr;subst hr;simp only[vd,<-hb id aJ];exact h0
        .simp only[bV]at hr;subst hr;simp only[vd,<-hb id aJ];exact h0
        .cases hr
       |e y=>
        rw[hp]at hr;cases y with
        |v z=>cases z<;>exact hr
        |_=>exact hr
       |_=>rw[hp]at hr;exact hr
      rw[this];rfl
     .cases h
    .cases h
   case append=>
    dsimp only at h ⊢;split at h
    .rename_i s x t t' hx ht;split at h
     .rename_i rE;simp only[rE,bN];rw[ha x (by rw[hx];simp),ha s (by rw[hx];simp)];have om:GD O o.dst=GD O o.dst:=rfl;split at h
      .rename_i Mn;simp only[Mn,bN];exact adj h hb ku
      .rename_i Mn;simp only[Mn,bF,bZ];exact SS h hb ku hn
     .cases h
    .cases h
   case max=>dsimp only at h ⊢;rw[MQ];exact h
   case min=>dsimp only at h ⊢;rw[MQ];exact h
   all_goals cases h
  |value f=>
   have hf:τ.op f=σ.op f:=hg f (by simp[Op.operands,Call.operands]);simp only[jQ,iE]at h ⊢;have lq:(args.toList.map τ.op).any PV.BF=(args.toList.map σ.op).any PV.BF:=by rw[MQ]
   rw[hf,lq];have ec:∀ {gf:FuncId} {zs:List E} {is:List Nat} {ow:Bool},zP P K O σ o.dst gf zs is ow=some u->u.rb=is/\zP P K O τ o.dst gf zs is ow=some u:=by
    intro gf zs is ow hh;simp only[zP]at hh ⊢;rw[ku]at hh;split at hh
    .rename_i kj ER;refine⟨?_,hh⟩;split at hh
     .cases hh;rfl
     .split at hh
      .cases hh;rfl
      .cases hh
    .split at hh
     .rename_i d hd;split at hh
      .rename_i nl T n sz el h1 h2;split at hh
       .rename_i hc;cases hh;have h3:=hn _ _ rfl;rw[h1,h3];simp only[hc,bN];constructor<;>first|rfl|trivial
       .cases hh
      .cases hh
     .cases hh
   split at h
   .rename_i gf cap xs is Bq qv;obtain⟨e1,e2⟩:=ec h;rw[Qm qv ha λid hi=>hb id (by rw[e1];exact hi),Bq];exact e2
   .rename_i gf cap xs is Bq qv;split at h
    .rename_i ys js CZ;obtain⟨e1,e2⟩:=ec h;rw[Qm qv ha λid hi=>hb id (by rw[e1];simp[hi]),Bq];simp only;rw[S0 CZ λid hi=>hb id (by rw[e1];simp[hi])];exact e2
    .cases h
   .cases h
  |invoke _ _=>simp[jQ,iE]at h
 |_=>simp[jQ,iE]at h
end
def agX{l:List Operand}{t:Tmp}(h:Operand.tmp t ∈ l):t ∈ DC l:=by
 induction l with
 |nil=>simp at h
 |cons x l ih=>
  rcases de.1 h with h|h
  .subst h;simp[DC]
  .have:=ih h;cases x<;>simp[DC,this]
def aeW{l:List Nat}{n:Nat}:Mp l n=true↔n ∈ l:=by
 unfold Mp;rw[dE];constructor
 .rintro ⟨x,hx,hb⟩;have:=mR.1 hb;subst this;exact hx
 .intro h;exact⟨n,h,en n⟩
def Ji{l:List Nat}{d:Option Nat}(h:Dc l d=true){x:Nat}(hx:d=some x):x ∉ l:=by
 subst hx;simp only[Dc,gp]at h;intro hm;rw[aeW.2 hm]at h;cases h
def Kh{a b:Option Nat}(h:Kg a b=true){x y:Nat}(hx:a=some x)(hy:b=some y):x≠y:=by
 subst hx hy;simp only[Kg,gp]at h;intro e;rw[mR.2 e]at h;cases h
def Gl(f:rm)(p:PV):p.po f=if yX f p then p else .e .any:=by
 cases f<;>cases p<;>simp only[PV.po,yX,bN]
 all_goals (split<;>rename_i h<;>simp[h])
def Ns{f:rm}{p:PV}(h:yX f p=true):p.po f=p:=by rw[Gl,bn h]
def age(f:rm):yX f (.e .any)=true:=by cases f<;>rfl
def ami(p:PV)(f g:rm):(p.po f).po g=(p.po g).po f:=by
 rw[Gl f p,Gl g p];cases h1:yX f p<;>cases h2:yX g p<;>simp only[bN,bZ,bF,Gl,age,h1,h2]
structure rP(σ τ:PS):Prop where
 n:σ.n=τ.n
 nl:σ.nl=τ.nl
 get:∀ t,σ.get t=τ.get t
 bo:∀ id,σ.bo id=τ.bo id
def rP.refl(σ:PS):rP σ σ:=⟨rfl,rfl,λ_=>rfl,λ_=>rfl⟩
def rP.symm{σ τ:PS}(h:rP σ τ):rP τ σ:=⟨h.n.symm,h.nl.symm,λt=>(h.get t).symm,λi=>(h.bo i).symm⟩
def rP.trans{σ τ υ:PS}(h:rP σ τ)(k:rP τ υ):rP σ υ:=⟨h.n.trans k.n,h.nl.trans k.nl,λt=>(h.get t).trans (k.get t),λi=>(h.bo i).trans (k.bo i)⟩
def jJ.pV{w0:World}{B:Nat->Prop}{σ τ:PS}{a:Act}{w:World}{L:Lk}(r:jJ w0 B σ a w L)(h:rP σ τ):jJ w0 B τ a w L:=
 ⟨r.hd,r.hs.trans h.n,λt=>by rw[<-h.get];exact r.ht t,λid b hb=>r.hb id b (by rw[h.bo];exact hb),λid=>by rw[<-h.bo];exact r.hv id,r.hn,r.hw,r.hi,r.he,λhn id b hb=>r.hl (by rw[h.nl];exact hn) id b (by rw[h.bo];exact hb)⟩
def AW(σ:PS)(f:rm)(id:Nat):(σ.qG f).bo id=match f with
 | .none=>σ.bo id
 | .new i b | .uJ i b | .rA i b | .wC i b=>if i=id then some b else σ.bo id
 | .fin i=>if i=id then none else σ.bo id:=by
 cases f<;>first|rfl|exact I6 _ _ _ _|exact NA _ _ _
def En(σ:PS)(d:Option Tmp)(u:kW)(t:Nat):(σ.app d u).get t=if d=some t then u.r else(σ.get t).po u.f:=by
 unfold PS.app;cases d with
 |none=>
  rw[bl aJ];exact PS.Hz σ u.f t
 |some d=>
  rw[PS.LO,PS.Hz];simp only[bV]
def AV(σ:PS)(d:Option Tmp)(u:kW)(id:Nat):(σ.app d u).bo id=(σ.qG u.f).bo id:=PS.aa4 _ _ _ _
def FC(σ:PS)(d:Option Tmp)(u:kW):(σ.app d u).n=σ.n:=by unfold PS.app;rw[PS.NL];rfl
def FH(σ:PS)(d:Option Tmp)(u:kW):(σ.app d u).nl=σ.nl:=by unfold PS.app;rw[PS.ahG];rfl
def zI(σ:PS)(d:Option Tmp)(u:kW)(id:Nat)(h:u.f.id≠some id):(σ.app d u).bo id=σ.bo id:=by
 rw[AV,AW];cases hf:u.f<;>rw[hf]at h<;>simp only[rm.id,dp,bV]at h<;>first|rfl|exact bl h
section
variable {P:Program} {K:World->Prop} {T:List TI} {O:pY} {ik:Array Oper} {σ τ:PS} {o:Oper} {u:kW}
def adn(h:jQ P K T O σ o=some u){x:Operand}(hx:x ∈ o.op.operands):x ∈ FN o.op:=by
 obtain⟨dst,op,ty,pos,after,guard⟩:=o;simp only at hx ⊢;cases op<;>first
  | (simp only[jQ]at h;cases h;done)
  | (exfalso;simp[Op.operands]at hx;done)
  | (simpa[Op.operands,FN]using hx)
  | (simpa[Op.operands,FN,or_assoc]using hx)
  |skip
 case call c=>
  obtain⟨callee,args,ats⟩:=c;cases callee<;>simpa[Op.operands,FN,Call.operands]using hx
def Fy{d:Option Tmp}{b:Bx}{rr:Nat->PV}{ki:List Prop}(h:wZ σ d b rr ki=some u){id:Nat}{b':Bx}(hf:u.f = .new id b'):σ.bo id=none:=by
 obtain⟨i,_,mG,_,rfl⟩:=BH h;cases hf;exact mG
def adm(h:jQ P K T O σ o=some u){id:Nat}{b:Bx}(hf:u.f = .new id b):σ.bo id=none:=by
 cases iE:o.op
 case alloc=>
  simp only[jQ,iE]at h;split at h
  .split at h
   .exact Fy h hf
   .cases h
  .cases h
 case box=>
  simp only[jQ,iE]at h;split at h
  .split at h
   .exact Fy h hf
   .cases h
  .cases h
 case makeSlice=>
  simp only[jQ,iE,Hp]at h;split at h
  .exact Fy h hf
  .cases h
 case makeFunc fn first cap=>
  cases fn with
  |func f=>
   simp only[jQ,iE]at h
   repeat' split at h
   all_goals first
    | (cases h;done)
    | (cases h;cases hf;done)
  |_=>simp[jQ,iE]at h
 case lookup t x i ok=>
  cases ok with
  |true=>simp[jQ,iE]at h
  |false=>
   simp only[jQ,iE]at h
   repeat' split at h
   all_goals first
    | (cases h;done)
    | (cases h;cases hf;done)
 case slice t x lo hi mx=>
  cases mx with
  |none=>
   simp only[jQ,iE,Hq]at h
   repeat' split at h
   all_goals first
    | (cases h;done)
    | (cases h;cases hf;done)
  |some=>simp[jQ,iE]at h
 case call c=>
  obtain⟨callee,args,ats⟩:=c;cases callee with
  |builtin b=>
   simp only[jQ,iE]at h;cases b
   case append=>
    dsimp only at h;split at h
    .split at h
     .split at h
      .unfold Bc at h;split at h
       .split at h
        .split at h
         .cases h;cases hf
         .cases h
        .cases h
       .cases h
      .simp only[zO]at h
       repeat' split at h
       all_goals first
        | (cases h;done)
        |exact Fy h hf
        | (cases h;cases hf;done)
     .cases h
    .cases h
   all_goals
    dsimp only at h
    repeat' split at h
    all_goals first
     | (cases h;done)
     | (cases h;cases hf;done)
     | (obtain⟨_,_,rfl⟩:=dm.1 h;cases hf)
  |value f=>
   simp only[jQ,iE]at h
   repeat' split at h
   all_goals first
    | (cases h;done)
    | (simp only[zP]at h;repeat' split at h)
   all_goals first
    | (cases h;done)
    | (cases h;cases hf;done)
    | (cases h;cases hf;assumption)
  |invoke _ _=>simp[jQ,iE]at h
 all_goals
  simp only[jQ,iE,Hr,Hn,Hq,Ho,Fl]at h
  repeat' split at h
  all_goals first
   | (cases h;done)
   | (cases h;cases hf;done)
   | (obtain⟨_,_,rfl⟩:=dm.1 h;cases hf)
   |skip
 all_goals first
  | (obtain⟨_,_,h⟩:=gT.1 h;repeat' split at h)
  |skip
 all_goals first
  |exact Fy h hf
  | (cases h;done)
  | (cases h;cases hf;done)
def LG(h:tW P K T O σ o=some u):∃ u0,jQ P K T O σ o=some u0/\u0.rb=u.rb/\u0.f=u.f:=by
 unfold tW at h;split at h
 .rename_i u0 h0;split at h
  .split at h
   .cases h;exact⟨u0,h0,rfl,rfl⟩
   .cases h;exact⟨_,h0,rfl,rfl⟩
  .cases h;exact⟨_,h0,rfl,rfl⟩
 .cases h
def adq(h:tW P K T O σ o=some u)(hg:∀ x,x ∈ o.op.operands->τ.op x=σ.op x)(hb:∀ id,id ∈ u.rb->σ.bo id=τ.bo id)(ku:σ.nl=τ.nl)(hn:∀ id b,u.f = .new id b->τ.bo id=none):
 tW P K T O τ o=some u:=by
 obtain⟨u0,h0,e1,e2⟩:=LG h;have:=adl (τ:=τ) h0 hg (by rw[e1];exact hb) ku (by rw[e2];exact hn);unfold tW at h ⊢;rw[h0]at h;rw[this];exact h
def Ei(h:qT P K T O ik σ o=some u):vD σ o.dst=true/\u.rd=(looks ik o).map σ.get/\((zB ik σ o=some true/\∃ u0,tW P K T O σ o=some u0/\u={ u0 with rd:=(looks ik o).map σ.get })\/(zB ik σ o=some false/\u={ r:=.e (.v (.tuple #[])),rd:=(looks ik o).map σ.get })):=by
 unfold qT at h;split at h
 .rename_i hi;split at h
  .rename_i hw;split at h
   .rename_i u0 h0;cases h;exact⟨hi,rfl,.inl ⟨hw,u0,h0,rfl⟩⟩
   .cases h
  .rename_i hw;cases h;exact⟨hi,rfl,.inr ⟨hw,rfl⟩⟩
  .cases h
 .cases h
def LD(h:qT P K T O ik σ o=some u)(hg:∀ t,t ∈ looks ik o->σ.get t=τ.get t)(hb:∀ id,id ∈ u.rb->σ.bo id=τ.bo id)(ku:σ.nl=τ.nl)(lT:σ.n=τ.n)(hn:∀ id b,u.f = .new id b->τ.bo id=none):
 qT P K T O ik τ o=some u:=by
 obtain⟨hi,_,hw⟩:=Ei h;have mq:vD τ o.dst=vD σ o.dst:=by cases o.dst<;>simp[vD,lT]
 have M4:zB ik τ o=zB ik σ o:=by
  unfold zB;cases Bk:o.guard with
  |none=>rfl
  |some jw=>
   obtain⟨j,want⟩:=jw;cases hd:(ik[j]?).bind (·.dst)with
   |none=>simp[hd]
   |some t=>
    simp only[hd];rw[hg t (by unfold looks;rw[Bk];simp[hd])]
 have II:(looks ik o).map τ.get=(looks ik o).map σ.get:=ev λt ht=>(hg t ht).symm
 unfold qT;rw[mq,hi,M4,II];simp only[bN];rcases hw with⟨hw,u0,h0,rfl⟩|⟨hw,rfl⟩
 .rw [hw];have iE:∀ x,x ∈ o.op.operands->τ.op x=σ.op x:=by
   intro x hx;obtain⟨u1,h1,_,_⟩:=LG h0;have hm:=adn h1 hx;refine ah3 λt ht=>hg t ?_
   subst ht;unfold looks;exact List.mem_append_left _ (agX hm)
  simp only[adq h0 iE hb ku hn]
 .rw [hw]
def LF(h:qT P K T O ik σ o=some u){id:Nat}{b:Bx}(hf:u.f = .new id b):σ.bo id=none:=by
 obtain⟨_,_,⟨_,u0,h0,rfl⟩|⟨_,rfl⟩⟩:=Ei h
 .obtain ⟨u1,h1,_,e2⟩:=LG h0;exact adm h1 (by rw[e2];exact hf)
 .cases hf
def adp(h:qT P K T O ik σ o=some u)(hs:rP σ τ):qT P K T O ik τ o=some u:=
 LD h (λt _=>hs.get t) (λid _=>hs.bo id) hs.nl hs.n λid b hf=>by rw[<-hs.bo];exact LF h hf
def aaf(hs:rP σ τ)(d:Option Tmp)(u:kW):rP (σ.app d u) (τ.app d u):=
 ⟨by rw[FC,FC];exact hs.n,by rw[FH,FH];exact hs.nl,λt=>by rw[En,En,hs.get],λid=>by rw[AV,AV,AW,AW,hs.bo]⟩
def alj{O':pY}{x y:Oper×kW}(hi:BD ik x y=true)(h1:qT P K T O ik σ x.1=some x.2)(h2:qT P K T O' ik (σ.app x.1.dst x.2) y.1=some y.2):
 qT P K T O' ik σ y.1=some y.2/\qT P K T O ik (σ.app y.1.dst y.2) x.1=some x.2/\rP ((σ.app x.1.dst x.2).app y.1.dst y.2) ((σ.app y.1.dst y.2).app x.1.dst x.2):=by
 simp only[BD,bY]at hi;obtain⟨⟨⟨⟨⟨⟨⟨⟨⟨i1,i2⟩,i3⟩,i4⟩,i5⟩,i6⟩,i7⟩,i8⟩,i9⟩,i10⟩:=hi;obtain⟨_,rx,_⟩:=Ei h1;obtain⟨_,ry,_⟩:=Ei h2;have r1:qT P K T O' ik σ y.1=some y.2:=by
  refine LD h2 (λt ht=>?_) (λid hid=>zI _ _ _ _ λe=>Ji i4 e hid) (FH _ _ _) (FC _ _ _) λid b hf=>?_
  .have hg:(σ.app x.1.dst x.2).get t=(σ.get t).po x.2.f:=by
    rw[En,bl λe=>Ji i1 e ht]
   rw[hg];by_cases hv:x.2.f.Kp=true
   .have ug:NX ((σ.get t).po x.2.f)=true:=by
     have h9:y.2.rd.all NX=true:=by simpa[hv]using i9
     rw[ry]at h9;exact ct.1 h9 _ (cR.2 ⟨t,ht,hg⟩)
    rw[Gl]at ug ⊢;split at ug
    .rename_i hk;rw[bn hk]
    .cases ug
   .cases hf:x.2.f<;>rw[hf]at hv<;>first|exact absurd rfl hv|(cases σ.get t<;>rfl)
  .have:=LF h2 hf;rwa[zI _ _ _ _ λe=>Kh i6 e (by rw[hf];rfl) rfl]at this
 refine⟨r1,?_,?_⟩
 .refine LD h1 (λt ht=>?_) (λid hid=>(zI _ _ _ _ λe=>Ji i5 e hid).symm) (FH _ _ _).symm (FC _ _ _).symm λid b hf=>?_
  .rw [En,bl λe=>Ji i3 e ht];rw[rx]at i10;exact(Ns (ct.1 i10 _ (cR.2 ⟨t,ht,rfl⟩))).symm
  .rw [zI _ _ _ _ λe=>Kh i6 (by rw[hf];rfl) e rfl];exact LF h1 hf
 .refine ⟨by simp only[FC],by simp only[FH],λt=>?_,λid=>?_⟩
  .simp only[En];by_cases hx:x.1.dst=some t
   .have hy:¬y.1.dst=some t:=λe=>Kh i2 hx e rfl
    rw[bl hy,bn hx,bn hx,Ns i8]
   .by_cases hy:y.1.dst=some t
    .rw [bn hy,bl hx,bn hy,Ns i7]
    .rw [bl hy,bl hx,bl hx,bl hy,ami]
  .by_cases hx:x.2.f.id=some id
   .have hy:y.2.f.id≠some id:=λe=>Kh i6 hx e rfl
    rw[zI _ _ _ _ hy,AV,AV,AW,AW,zI _ _ _ _ hy]
   .rw [zI _ _ x.2 _ hx];rw[AV,AV,AW,AW,zI _ _ _ _ hx]
end
section
variable {P:Program} {K:World->Prop} {T:List TI} {O:pY} {ik:Array Oper}
def we(P:Program)(K:World->Prop)(T:List TI)(ik:Array Oper):List (Oper×kW)->PS->PS->Prop
 | [],σ,τ=>rP σ τ
 |x::l,σ,τ=>(∃ O,qT P K T O ik σ x.1=some x.2)/\we P K T ik l (σ.app x.1.dst x.2) τ
def we.pV{l:List (Oper×kW)}{σ σ2 τ:PS}(h:we P K T ik l σ τ)(hs:rP σ σ2):we P K T ik l σ2 τ:=by
 induction l generalizing σ σ2 with
 |nil=>exact hs.symm.trans h
 |cons x l ih=>exact⟨h.1.imp λ_ h=>adp h hs,ih h.2 (aaf hs _ _)⟩
def we.adQ{A C:List (Oper×kW)}{y:Oper×kW}{σ τ:PS}(h:we P K T ik (A++y::C) σ τ)(hi:∀ x,x ∈ A->BD ik x y=true):
 (∃ O,qT P K T O ik σ y.1=some y.2)/\we P K T ik (A++C) (σ.app y.1.dst y.2) τ:=by
 induction A generalizing σ with
 |nil=>exact h
 |cons x A ih=>
  obtain⟨⟨O1,h1⟩,h2⟩:=h;obtain⟨⟨O2,k1⟩,k2⟩:=ih h2 λz hz=>hi z (by simp[hz])
  obtain⟨s1,s2,s3⟩:=alj (hi x aJ) h1 k1;exact⟨⟨O2,s1⟩,⟨O1,s2⟩,k2.pV s3⟩
end
section
variable {P:Program} {K:World->Prop} {T:List TI} {O:pY} {w0:World} {B:Nat->Prop} {σ τ:PS} {o:Oper} {a:Act} {w:World} {L:Lk} {u:kW} {ik:Array Oper}
def ZD(r:jJ w0 B σ a w L){b:Bool}(h:zB ik σ o=some b):Region.wanted o (yielded ik a.tmps)=b:=by
 unfold zB at h;unfold Region.wanted;split at h
 .rename_i hg;rw[hg];simpa using h
 .rename_i j want hg;rw[hg];simp only;split at h
  .rename_i t ht;have hv:=r.ht t;have key:∀ q:Bool,σ.get t = .e (.v (.bool q))->yielded ik a.tmps j=some q:=by
    intro q hq;rw[hq]at hv;have hv:=iR.kN hv;unfold yielded;rw[ht];simp only[dF];have iO:a.tmps[t]? = some (.bool q):=by
     by_cases hs:t<a.tmps.size
     .simpa [hs]using hv
     .simp [hs,undef]at hv
    rw[iO]
   split at h
   .rename_i hq;rw[key true hq];simp only[bV]at h;subst h;cases want<;>rfl
   .rename_i hq;rw[key false hq];simp only[bV]at h;subst h;cases want<;>rfl
   .rename_i q hq;rw[hq]at hv;have hv:=iR.kN hv;have hn:yielded ik a.tmps j=none:=by
     unfold yielded;rw[ht];simp only[dF];by_cases hs:t<a.tmps.size
     .rw [show a.tmps[t]? = some (.tuple q)by simpa[hs]using hv]
     .simp [hs]
    rw[hn];simp only[bV]at h;subst h;cases want<;>rfl
   .cases h
  .cases h
def SV(hT:mI P T)(g:Gd P K w0 B)(r:jJ w0 B σ a w L)(h:qT P K T O ik σ o=some u)(ho:∀ q,q ∈ u.ki->q)(Kc:Act->World->Prop)(Q:Exit->Act->World->Prop)
 (hk:∀ a' w' L',jJ w0 B (σ.app o.dst u) a' w' L'->Kc a' w'):
 (Region.wanted o (yielded ik a.tmps)=true/\o.wp P a w Kc Q)\/(Region.wanted o (yielded ik a.tmps)=false/\Kc (a.put o.dst undef) w):=by
 obtain⟨hi,_,⟨hw,u0,h0,rfl⟩|⟨hw,rfl⟩⟩:=Ei h
 .refine .inl ⟨ZD r hw,adr hT g r h0 ho Kc Q λv w' L' hr hp=>hk _ w' L' ?_⟩;have ml:vD (σ.qG u0.f) o.dst=true:=by cases hd:o.dst<;>rw[hd]at hi<;>exact hi
  exact hr.put o.dst u0.r v ml hp
 .exact .inr ⟨ZD r hw,hk _ w L (r.put o.dst (.e (.v (.tuple #[]))) undef hi (.v _))⟩
structure Left(ik:Array Oper)(listed:Array Bool)(R:List (Nat×Oper×kW)):Prop where
 lL:∀ x,x ∈ R->ik[x.1]? = some x.2.1/\listed.getD x.1 true=false
 all:∀ i,i<ik.size->listed.getD i true=false->∃ x,x ∈ R/\x.1=i
 pw:R.Pairwise λx y=>x.1<y.1/\(AF ik 3 y.2.1 x.1||BD ik x.2 y.2)=true
 ed:∀ x,x ∈ R->∀ e,e ∈ x.2.1.after->Region.binds .any e=true->e.on<x.1
 up:∀ x,x ∈ R->∀ j z,ik[j]? = some z->BE z x.1=true->listed.getD j true=false
def Left.AF{listed:Array Bool}{R:List (Nat×Oper×kW)}(h:Left ik listed R){x:Nat×Oper×kW}(hx:x ∈ R):∀ (n:Nat) (j:Nat) (z:Oper),ik[j]? = some z->Pu.AF ik n z x.1=true ->
 listed.getD j true=false/\∃ e,e ∈ z.after/\Region.binds .any e=true/\listed.getD e.on true=false/\e.on<ik.size:=by
 have direct:∀ (j:Nat) (z:Oper),ik[j]? = some z->BE z x.1=true->listed.getD j true=false/\∃ e,e ∈ z.after/\Region.binds .any e=true/\listed.getD e.on true=false/\e.on<ik.size:=by
  intro j z hz he;refine⟨h.up x hx j z hz he,?_⟩;unfold BE at he;obtain⟨e,kZ,kF⟩:=dE.1 he;simp only[bY]at kF;have oO:=h.lL x hx;refine⟨e,by simpa using kZ,kF.1,?_,?_⟩
  .rw [mR.1 kF.2];exact oO.2
  .rw [mR.1 kF.2];exact(dx.1 oO.1).1
 intro n
 induction n with
 |zero=>exact direct
 |succ n ih=>
  intro j z hz hr;simp only[Pu.AF,eX]at hr;rcases hr with hr|hr
  .exact direct j z hz hr
  .obtain ⟨e,kZ,kF⟩:=dE.1 hr;simp only[bY]at kF;obtain⟨kF,My⟩:=kF;split at My
   .rename_i z' Vg;obtain⟨k1,_⟩:=ih e.on z' Vg My;have iO:=(dx.1 Vg).1;obtain⟨x',sA,IP⟩:=h.all e.on iO k1;refine⟨h.up x' sA j z hz ?_,e,by simpa using kZ,kF,k1,iO⟩;unfold BE;refine dE.2 ⟨e,kZ,?_⟩;rw[kF,IP];simp
   .cases My
def OV{md:Region.Mode}{listed:Array Bool}{i:Nat}:i ∈ Region.ready md ik listed↔i<ik.size/\listed.getD i true=false/\∃ o,ik[i]? = some o/\∀ e,e ∈ o.after->Region.binds md e=true->listed.getD e.on false=true:=by
 unfold Region.ready;rw[List.mem_filter];simp only[cz,bY,gp];constructor
 .rintro ⟨h1,h2,h3⟩;refine⟨h1,h2,ik[i],by simp[h1],λe he hb=>?_⟩;rw[Array.getElem?_eq_getElem h1]at h3;simp only[c9,ane,anL]at h3;have:=h3 e he;simpa[hb]using this
 .rintro ⟨h1,h2,o,h3,h4⟩;refine⟨h1,h2,?_⟩;rw[h3];simp only[c9,ane,anL];intro e he;cases hb:Region.binds md e with
  |false=>rfl
  |true=>simpa using h4 e he hb
def aab(hT:mI P T)(g:Gd P K w0 B){Q:Exit->Act->World->Prop}(hq:∀ a' w' L',jJ w0 B τ a' w' L'->Q .normal a' w'):
 ∀ (fuel:Nat) (listed:Array Bool) (R:List (Nat×Oper×kW)) (σ:PS) (a:Act) (w:World) (L:Lk),R.length=fuel->listed.size=ik.size->Left ik listed R->(∀ x,x ∈ R->∀ q,q ∈ x.2.2.ki->q) ->
  we P K T ik (R.map (·.2)) σ τ->jJ w0 B σ a w L->wpAny P .any ik Q fuel listed a w:=by
 intro fuel
 induction fuel with
 |zero=>
  intro listed R σ a w L hlen CK hleft ho IJ r;have hR:=dN hlen;subst hR;refine⟨?_,hq a w L (r.pV IJ)⟩;apply List.eq_nil_iff_forall_not_mem.2;intro i hi;obtain⟨h1,h2,_⟩:=OV.1 hi;obtain⟨x,hx,_⟩:=hleft.all i h1 h2;simp at hx
 |succ fuel ih=>
  intro listed R σ a w L hlen CK hleft ho IJ r;refine⟨λBo=>?_,λi hi=>?_⟩
  .
   exfalso;cases R with
   |nil=>simp at hlen
   |cons x R=>
    have hx:=hleft.lL x aJ;have iO:x.1<ik.size:=(dx.1 hx.1).1;have:x.1 ∈ Region.ready .any ik listed:=OV.2 ⟨iO,hx.2,x.2.1,hx.1,λe he hb=>by
     have CO:=hleft.ed x aJ e he hb;cases hl:listed.getD e.on true with
     |true=>
      have:e.on<listed.size:= aD ;simp[this]at hl ⊢;exact hl
     |false=>
      exfalso;obtain⟨y,hy,IS⟩:=hleft.all e.on aD hl;rcases de.1 hy with hy|hy
      .subst hy;omega
      .have:=(anf.1 hleft.pw).1 y hy;omega⟩
    rw[Bo]at this;simp at this
  .obtain ⟨h1,h2,o,h3,h4⟩:=OV.1 hi;obtain⟨y,hy,hyi⟩:=hleft.all i h1 h2;subst hyi;obtain⟨A,C,rfl⟩:=List.append_of_mem hy;have IT:=hleft.lL y hy;have afe:∀ x,x ∈ A->BD ik x.2 y.2=true:=by
    intro x hx;have hp:=(ang.1 hleft.pw).2.2 x hx y aJ;rcases Bool.or_eq_true_iff.1 hp.2 with he|he
    .exfalso;obtain⟨_,e,kZ,kF,sX,iO⟩:=hleft.AF (show x ∈ A++y::C by simp[hx]) 3 y.1 y.2.1 IT.1 he;have rD:o=y.2.1:=by rw[IT.1]at h3;exact(anh h3).symm
     have hl:=h4 e (by rw[rD];exact kZ) kF;have qv:e.on<listed.size:=by rw[CK];exact iO
     simp[qv]at hl sX;rw[hl]at sX;cases sX
    .exact he
   rw[am6,fF]at IJ;obtain⟨⟨O,k1⟩,k2⟩:=IJ.adQ (λx hx=>by
    obtain⟨z,hz,rfl⟩:=cR.1 hx;exact afe z hz)
   have afh:Left ik (listed.setIfInBounds y.1 true) (A++C):=by
    have kq:∀ x,x ∈ A++C->x.1≠y.1:=by
     intro x hx;rcases eC.1 hx with hx|hx
     .have:=((ang.1 hleft.pw).2.2 x hx y aJ).1;omega
     .have:=((anf.1 (ang.1 hleft.pw).2.1).1 x hx).1;omega
    have CS:∀ x,x ∈ A++C->x ∈ A++y::C:=λx hx=>by
     rcases eC.1 hx with hx|hx<;>simp[hx]
    refine⟨λx hx=>?_,λj hj hl=>?_,?_,λx hx=>hleft.ed x (CS x hx),λx hx j z hz he=>?_⟩
    .obtain ⟨q1,q2⟩:=hleft.lL x (CS x hx);refine⟨q1,?_⟩;have qv:x.1<listed.size:=by rw[CK];exact(dx.1 q1).1
     simp[qv]at q2 ⊢;rw[ani _ (λe=>kq x hx e.symm)];exact q2
    .have Iu:j<listed.size:= aD ;by_cases CI:j=y.1
     .subst CI;simp[Iu]at hl
     .have:listed.getD j true=false:=by
       simp[Iu]at hl ⊢;rw[ani _ (λe=>CI e.symm)]at hl;exact hl
      obtain⟨x,hx,IQ⟩:=hleft.all j hj this;refine⟨x,?_,IQ⟩;rcases eC.1 hx with hx|hx
      .simp [hx]
      .rcases de.1 hx with hx|hx
       .subst hx;exact absurd IQ.symm CI
       .simp [hx]
    .exact hleft.pw.sublist (List.Sublist.append (List.Sublist.refl A) (List.sublist_cons_self y C))
    .have q:=hleft.up x (CS x hx) j z hz he;have Iu:j<listed.size:=by rw[CK];exact(dx.1 hz).1
     by_cases CI:j=y.1
     .exfalso;subst CI;rw[IT.1]at hz h3;cases hz;cases h3;unfold BE at he;obtain⟨e,kZ,kF⟩:=dE.1 he;simp only[bY]at kF;have hl:=h4 e (by simpa using kZ) kF.1;rw[mR.1 kF.2]at hl;have sX:=(hleft.lL x (CS x hx))
      have qv:x.1<listed.size:=by rw[CK];exact(dx.1 sX.1).1
      have sX:=sX.2;simp[qv]at hl sX;rw[hl]at sX;cases sX
     .simp [Iu]at q ⊢;rw[ani _ (λe=>CI e.symm)];exact q
   unfold wpOp;rw[IT.1];simp only;rcases SV hT g r k1 (ho y aJ) (wpAny P .any ik Q fuel (listed.setIfInBounds y.1 true)) Q (λa' w' L' hr=>ih _ (A++C) _ a' w' L' (by simp at hlen ⊢;omega) (by simpa using CK) afh (λx hx=>ho x (by
    rcases eC.1 hx with hx|hx<;>simp[hx])) (by rw[am6];exact k2) hr)with⟨p1,p2⟩|⟨p1,p2⟩
   .rw [bn p1];exact .inl p2
   .rw [bl (by rw[p1];simp)];exact p2
def ago{us:List (Oper×kW)}(yT:us.map (·.1)=ik.toList)(hp:Df ik 0 us=true):
 ∃ R:List (Nat×Oper×kW),R.map (·.2)=us/\R.length=ik.size/\Left ik (Array.replicate ik.size false) R:=by
 have key:∀ (us:List (Oper×kW)) (k:Nat),Df ik k us=true->(∀ j x,us[j]? = some x->ik[k+j]? = some x.1) ->
  ∃ R:List (Nat×Oper×kW),R.map (·.2)=us/\(∀ j x,R[j]? = some x->x.1=k+j)/\(∀ x,x ∈ R->ik[x.1]? = some x.2.1)/\(R.Pairwise λx y=>x.1<y.1/\(AF ik 3 y.2.1 x.1||BD ik x.2 y.2)=true) /\
   (∀ x,x ∈ R->∀ e,e ∈ x.2.1.after->Region.binds .any e=true->e.on<x.1):=by
  intro us
  induction us with
  |nil=>exact λk _ _=>⟨[],rfl,λj x h=>by simp at h,λx h=>by simp at h,List.Pairwise.nil,λx h=>by simp at h⟩
  |cons x us ih=>
   intro k hp oO;simp only[Df,bY]at hp;obtain⟨R,r1,r2,r3,r4,r5⟩:=ih (k+1) hp.2 (λj y hy=>by have:=oO (j+1) y (by simpa using hy);rwa[(aD:k+(j+1)=k+1+j)]at this);have qW:∀ y,y ∈ R->k<y.1/\y.2 ∈ us:=by
    intro y hy;obtain⟨j,hj⟩:=dO.1 hy;have:=r2 j y hj;exact⟨aD,by rw[<-r1];exact cR.2 ⟨y,hy,rfl⟩⟩
   refine⟨(k,x)::R,by simp[r1],λj y hy=>?_,λy hy=>?_,?_,λy hy=>?_⟩
   .cases j with
    |zero=>simp at hy;subst hy;rfl
    |succ j=>have:=r2 j y (by simpa using hy);omega
   .rcases de.1 hy with hy|hy
    .subst hy;have:=oO 0 x rfl;simpa using this
    .exact r3 y hy
   .rw [anf];refine⟨λy hy=>⟨(qW y hy).1,?_⟩,r4⟩;exact ct.1 hp.1.2 y.2 (qW y hy).2
   .rcases de.1 hy with hy|hy
    .subst hy;intro e he hb;have:=ct.1 hp.1.1 e (by simpa using he);simpa[hb]using this
    .exact r5 y hy
 obtain⟨R,r1,r2,r3,r4,r5⟩:=key us 0 hp (λj x hx=>by
  rw[b6];have:=congrArg (·[j]?) yT;simp only[cY,hx,c9]at this;simpa using this.symm)
 have hlen:R.length=ik.size:=by
  have h1:=congrArg List.length r1;have h2:=congrArg List.length yT;simp at h1 h2;omega
 refine⟨R,r1,hlen,λx hx=>⟨r3 x hx,?_⟩,λi hi _=>?_,r4,r5,λx hx j z hz _=>by have:=(dx.1 hz).1;simp[this]⟩
 .have:=(dx.1 (r3 x hx)).1;simp[this]
 .have ml:i<R.length:= aD ;exact⟨R[i],cO ml,by have:=r2 i R[i] (bD ml);omega⟩
end
def PS.le(σ τ:PS):Prop:=∀ (w0:World) (B:Nat->Prop) (a:Act) (w:World) (L:Lk),(∀ b,B b->b<w0.heap.size)->jJ w0 B σ a w L->∃ L',jJ w0 B τ a w L'
def PS.le.refl(σ:PS):PS.le σ σ:=λ_ _ _ _ L _ r=>⟨L,r⟩
def PS.le.trans{σ τ υ:PS}(h:PS.le σ τ)(k:PS.le τ υ):PS.le σ υ:=λw0 B a w L g r=>let⟨L',r'⟩:=h w0 B a w L g r;k w0 B a w L' g r'
def PV.le.refl(p:PV):PV.le p p:=λ_ _ _ _ _ h=>h
def Bx.le(a b:Bx):Prop:=(a.nl=true->b.nl=true)/\∀ (bs br:Nat->Prop) (L:Lk) (w:World) (id:Nat),rN bs br L w id a->rN bs br L w id b
def Bx.le.refl(a:Bx):Bx.le a a:=⟨id,λ_ _ _ _ _ h=>h⟩
def xp(σ:PS):List (Nat×PV)->Prop
 | []=>True
 | (k,p)::l=>PV.le (σ.get k) p/\xp σ l
def vW(σ:PS):List (Nat×Bx)->Prop
 | []=>True
 | (id,b)::l=>(∃ b',σ.bo id=some b'/\Bx.le b' b)/\vW σ l
def F1(τ:PS):Bool:=τ.t.all λx=>x.2.qB.all λid=>(look τ.b id).isSome
def NB{α:Type}{l:List (Nat×α)}{t:Nat}{x:α}(h:look l t=some x):(t,x) ∈ l:=by
 induction l with
 |nil=>cases h
 |cons y l ih=>
  obtain⟨k,z⟩:=y;rw[tH]at h;split at h
  .rename_i e;cases h;subst e;exact .head _
  .exact .tail _ (ih h)
def xp.get{σ:PS}{l:List (Nat×PV)}(h:xp σ l){t:Nat}{p:PV}(k:look l t=some p):PV.le (σ.get t) p:=by
 induction l with
 |nil=>cases k
 |cons y l ih=>
  obtain⟨q,z⟩:=y;rw[tH]at k;split at k
  .rename_i e;cases k;subst e;exact h.1
  .exact ih h.2 k
def vW.get{σ:PS}{l:List (Nat×Bx)}(h:vW σ l){t:Nat}{b:Bx}(k:look l t=some b):∃ b',σ.bo t=some b'/\Bx.le b' b:=by
 induction l with
 |nil=>cases k
 |cons y l ih=>
  obtain⟨q,z⟩:=y;rw[tH]at k;split at k
  .rename_i e;cases k;subst e;exact h.1
  .exact ih h.2 k
def PS.le.pC{σ τ:PS}(hn:σ.n=τ.n)(ku:τ.nl=σ.nl)(hr:F1 τ=true)(ht:xp σ τ.t)(hb:vW σ τ.b):PS.le σ τ:=λw0 B a w L _ r=>by
 let L':Lk:=⟨λid=>L.oh id/\(τ.bo id).isSome=true,λid x=>L.own id x/\(τ.bo id).isSome=true,L.val,L.jI⟩
 have iO:su L w L' w:=⟨bp _,λx _ ⟨id,h,_⟩=>⟨id,h⟩,λ_ _ _=>rfl⟩
 refine⟨L',r.hd,by rw[<-hn];exact r.hs,λt=>?_,λid b h=>?_,λid=>?_,λid x h=>⟨r.hn id x h.1,h.2⟩,λid x h=>r.hw id x h.1,λid id' x h k=>r.hi id id' x h.1 k.1,r.he,λh id b k=>?_⟩
 .have hg:τ.get t=((look τ.t t)).getD (.e .any):=rfl;cases hl:look τ.t t with
  |none=>rw[hg,hl];exact .any _
  |some p=>
   rw[hg,hl];have:=ht.get hl _ _ _ _ _ (r.ht t);refine nJ.move iO this λid hid vr=>⟨⟨vr,?_⟩,rfl,λ_=>rfl⟩
   have q:=ct.1 hr _ (NB hl);exact ct.1 q id hid
 .obtain ⟨b',h1,h2⟩:=hb.get h;have hs:(τ.bo id).isSome=true:=by rw[h];rfl
  exact(h2.2 _ _ _ _ _ (r.hb id b' h1)).later iO rfl (λx=>⟨λq=>q.1,λq=>⟨q,hs⟩⟩) (λ_=>rfl) λ_ _=>rfl
 .show L.oh id/\(τ.bo id).isSome=true↔(τ.bo id).isSome=true;refine⟨λh=>h.2,λh=>⟨(r.hv id).2 ?_,h⟩⟩;obtain⟨b,kp⟩:=gU.1 h;obtain⟨b',h1,_⟩:=hb.get kp;rw[h1];rfl
 .obtain ⟨b',h1,h2⟩:=hb.get k;exact h2.1 (r.hl (by rw[<-ku];exact h) id b' h1)
def D5(σ:PS):List Nat->List (Nat×Bx)
 | []=>[]
 |i::l=>match σ.bo i with
  |some b=>(i,b)::D5 σ l
  |none=>D5 σ l
def PS.cut(ts bs:List Nat)(σ:PS):PS:={ n:=σ.n,nl:=σ.nl,t:=ts.map λt=>(t,σ.get t),b:=D5 σ bs }
def xp.cut(σ:PS):∀ ts:List Nat,xp σ (ts.map λt=>(t,σ.get t))
 | []=>trivial
 |_::l=>⟨PV.le.refl _,xp.cut σ l⟩
def vW.cut(σ:PS):∀ bs:List Nat,vW σ (D5 σ bs)
 | []=>trivial
 |i::l=>by
  unfold D5;split
  .rename_i b h;exact⟨⟨b,h,Bx.le.refl b⟩,vW.cut σ l⟩
  .exact vW.cut σ l
def PS.le.cut{σ:PS}(ts bs:List Nat)(hr:F1 (σ.cut ts bs)=true):PS.le σ (σ.cut ts bs):=PS.le.pC rfl rfl hr (xp.cut σ ts) (vW.cut σ bs)
def Ex.to:Ex->Exit
 | .normal=>.normal
 | .exit id=>.exit id
 | .ret=>.ret
def Sp(P:Program)(K:World->Prop)(c:Code)(σ:PS)(Q:Ex->PS->Prop):Prop:=
 ∀ (w0:World) (B:Nat->Prop) (a:Act) (w:World) (L:Lk),Gd P K w0 B->jJ w0 B σ a w L->c.wp P (λe a' w'=>∃ ex τ L',e=ex.to/\Q ex τ/\jJ w0 B τ a' w' L') a w
def Sp.mono{P:Program}{K:World->Prop}{c:Code}{σ:PS}{Q Q':Ex->PS->Prop}(h:Sp P K c σ Q)(hq:∀ e τ,Q e τ->Q' e τ):Sp P K c σ Q':=
 λw0 B a w L g r=>Code.wp_mono (λ_ _ _ ⟨ex,τ,L',h1,h2,h3⟩=>⟨ex,τ,L',h1,hq _ _ h2,h3⟩) (h w0 B a w L g r)
abbrev Lo:=List (Nat×(Ex×PS×List Nat×List Nat))
section
variable {P:Program} {K:World->Prop} {T:List TI} {O:pY} {lo:Lo}
def Sp.loop{b:Code}{Q:Ex->PS->Prop}(J:Nat->PS->Prop)(pg:∀ n σ,J n σ->Sp P K b σ (λe τ=>(e = .normal/\∃ m,m<n/\J m τ)\/(e ≠ .normal/\Q e τ))):
 ∀ n σ,J n σ->Sp P K (.loop b) σ Q:=by
 intro n0 σ0 hJ0 w0 B a0 w1 L0 g r0 bf k cs;have key:∀ n σ a w L,J n σ->jJ w0 B σ a w L ->
  ∃ e a' w',(∃ ex τ L',e=ex.to/\Q ex τ/\jJ w0 B τ a' w' L')/\Arrives P (lone (bf.at a (.code b :: .inLoop b::k)) cs w) bf k cs e a' w':=by
  intro n
  induction n using Nat.strongRecOn with
  |_ n ih=>
   intro σ a w L hJ r;obtain⟨e,a₁,w₁,⟨ex,υ,L2,rfl,hq,nU⟩,wF⟩:=pg n σ hJ w0 B a w L g r bf (.inLoop b::k) cs;rcases hq with⟨rfl,m,hm,LY⟩|⟨kq,hq⟩
   .obtain ⟨e₂,a₂,w₂,MZ,Mo⟩:=ih m hm υ a₁ w₁ L2 LY nU;exact⟨e₂,a₂,w₂,MZ,.of_steps (Steps.trans wF (.one step_inLoop)) Mo⟩
   .cases ex with
    |normal=>exact absurd rfl kq
    |exit i=>exact⟨_,a₁,w₁,⟨.exit i,υ,L2,rfl,hq,nU⟩,.pass (x:=.inLoop b) rfl (λ_ _=>.inl (by simp[Ex.to])) wF⟩
    |ret=>exact⟨_,a₁,w₁,⟨.ret,υ,L2,rfl,hq,nU⟩,.pass (x:=.inLoop b) rfl (λ_ _=>.inl (by simp[Ex.to])) wF⟩
 obtain⟨e,a',w',hq,wF⟩:=key n0 σ0 a0 w1 L0 hJ0 r0;exact⟨e,a',w',hq,.of_steps (.one step_loop) wF⟩
def alI{w0:World}{B:Nat->Prop}{σ:PS}{a:Act}{w:World}{L:Lk}(hB:∀ b,B b->b<w0.heap.size)(r:jJ w0 B σ a w L){p:PV}{e:E}(h:J9 σ p=some e){v:Value}(hv:nJ (jM B L) (ky L) L w p v):
 iR B (λ_=>True) w e v:=by
 have Ub:∀ id x,L.own id x->¬B x:=λid x hx hb=>by have:=hB x hb;have:=(r.hw id x hx).1;omega
 have own:∀ (v:Value) (T:TypeId) (n sz:Nat) (f:Nat->Nat->Value) (nl:Bool) (el:Nat->Nat->E) (id:Nat),qo w v T n sz f nl->(∀ x,v.ownBlock=some x->L.own id x) ->
  (∀ i j,i<n->j<sz->iR (jM B L) (ky L) w (el i j) (f i j)/\(el i j).nr 2=true)->iR B (λ_=>True) w (.sl nl n sz el) v:=by
  intro v T n sz f nl el id h1 h2 h3;rcases h1 with⟨rfl,rfl⟩|⟨b,c,cur,rfl,hg,pM,nS,oR,mf,ku⟩
  .exact .sl nl 0 sz el none 0 f (bp _) aF (λ_=>rfl) (λi j hi=>absurd hi (bO i)) (λi j hi=>absurd hi (bO i)) (λi j hi=>absurd hi (bO i)) (λi j hi=>absurd hi (bO i))
  .have rD:=h2 b rfl;refine .sl nl n sz el _ c f pM (by unfold maxLen at nS;omega) (λh=>by cases h) (λi j hi hj=>⟨(mf i j hi hj).2,λhn=>ku hn _ (eu (mf i j hi hj).1)⟩) (λi j hi hj=>(h3 i j hi hj).2)
    (λi j hi hj=>⟨b,0,rfl,Ub id b rD,(r.hw id b rD).2,?_⟩) (λi j hi hj=>((h3 i j hi hj).1.ql (λ_ h=>.inl h) (λ_ h=>h)).nr 2 (h3 i j hi hj).2)
   rw[b6];simp only[World.cell?,hg];simpa using(mf i j hi hj).1
 cases p with
 |e x=>
  simp only[J9]at h;split at h
  .rename_i hn;cases h;exact(iR.ql (bs':=B) (br':=ky L) (λ_ h=>.inl h) (λ_ h=>h) hv).nr 3 hn
  .cases h
 |own id=>
  obtain⟨_,rfl⟩:=hv;simp only[J9]at h;split at h
  .rename_i nl T n sz el kp;cases h;obtain⟨f,h1,h2,h3⟩:=r.hb id _ kp;exact own _ T n sz f nl el id h1 (λx hx=>(h2 x).2 hx) h3
  .rename_i nl T1 T0 n sz len el kp;cases h;obtain⟨b,c,cur,f,h1,h2,h3,h4,h5,h6,h7,h8,h9,rY,vn⟩:=r.hb id _ kp;have rD:L.own id b:=(h9 b).2 (.inl rfl);rw[h1];refine .sl true n 1 _ _ c (λk _=>L.jI id k) h3 (by unfold maxLen at h4;omega) (λh=>by cases h) (λk j hk hj=>?_) (λk j hk hj=>rfl)
    (λk j hk hj=>⟨b,0,rfl,Ub id b rD,(r.hw id b rD).2,?_⟩) (λk j hk hj=>own _ T0 (len k) sz (f k) nl (el k) id (h8 k hk).1 (λx hx=>(h9 x).2 (.inr ⟨k,hk,hx⟩)) (h8 k hk).2)
   .obtain ⟨q1,q2⟩:=h7 _ (eu (h6 k hk aJ));exact⟨q1,λ_=>q2⟩
   .rw [b6,cg];obtain rfl:j=0:= aD ;simp only[World.cell?,h2];simpa using h6 k hk aJ 
  .cases h
 |_=>cases h
def BU(tmps:Array Value):ResultVar->Sem Value
 | .tmp t=>Pure.pure (tmps.getD t undef)
 | .cell q t=>do loadVar t (<-asAddr (tmps.getD q undef))
def O3(fn:Func)(tmps:Array Value):results fn tmps=(do
 let vs <-fn.results.mapM (BU tmps)
 Pure.pure (if h:vs.size=1 then vs[0]else .tuple vs)):=by
 unfold results;congr 1
def ajZ{w0:World}{B:Nat->Prop}{σ:PS}{a:Act}{w:World}{L:Lk}(hT:mI P T)(hB:∀ b,B b->b<w0.heap.size)(r:jJ w0 B σ a w L){x:ResultVar}{e:E}(h:OZ T σ x=some e):
 ∃ v,(BU a.tmps x).run P w = .ok v w/\iR B (λ_=>True) w e v:=by
 cases x with
 |tmp t=>exact⟨_,rfl,alI hB r h (r.ht t)⟩
 |cell q t=>
  simp only[OZ]at h;split at h
  .rename_i ti oX;split at h
   .rename_i l is II;obtain⟨b,of,vs,e1,h1,h2,h3⟩:=r.read (r.ht q) II (λq hq=>by simp at hq);by_cases ha:ti.isAgg=true
    .rw [bn ha]at h;split at h
     .rename_i hn;cases h;refine⟨.agg vs.toArray,?_,(iR.ql (bs':=B) (br':=ky L) (λ_ h=>.inl h) (λ_ h=>h) h1.agg).nr 3 hn⟩;simp only[BU,e1,asAddr,Sem.run_bind,Sem.run_pure,Result.andThen_ok,Yw hT w oX ha b of vs h2 h3]
     .cases h
    .rw [bl ha]at h;split at h
     .rename_i y;split at h
      .rename_i hn;cases h;obtain⟨z,zs,rfl,hz,_⟩:=h1.my;refine⟨z,?_,(iR.ql (bs':=B) (br':=ky L) (λ_ h=>.inl h) (λ_ h=>h) hz).nr 3 hn⟩;simp only[BU,e1,asAddr,Sem.run_bind,Sem.run_pure,Result.andThen_ok,Pd hT w oX (by simpa using ha) b of z (by simpa using h3 0 z rfl)]
      .cases h
     .cases h
   .cases h
  .cases h
def ajX{w0:World}{B:Nat->Prop}{σ:PS}{a:Act}{w:World}{L:Lk}(hT:mI P T)(hB:∀ b,B b->b<w0.heap.size)(r:jJ w0 B σ a w L){l:List ResultVar}{es:List E}(h:Dk T σ l=some es):
 ∃ vs,(l.mapM (BU a.tmps)).run P w = .ok vs w/\kB B (λ_=>True) w es vs:=by
 induction l generalizing es with
 |nil=>simp only[Dk,bV]at h;subst h;exact⟨[],rfl,.nil _ _ _⟩
 |cons x l ih=>
  simp only[Dk]at h;split at h
  .rename_i e es' h1 h2;cases h;obtain⟨v,q1,q2⟩:=ajZ hT hB r h1;obtain⟨vs,p1,p2⟩:=ih h2;refine⟨v::vs,?_,.cons q2 p2⟩;rw[gS];simp only[Sem.run_bind,q1,Result.andThen_ok,p1,Sem.run_pure]
  .cases h
def ajY{w0:World}{B:Nat->Prop}{σ:PS}{a:Act}{w:World}{L:Lk}(hT:mI P T)(hB:∀ b,B b->b<w0.heap.size)(r:jJ w0 B σ a w L){fn:Func}{e:E}(h:JM T fn σ=some e):
 ∃ v,(results fn a.tmps).run P w = .ok v w/\iR B (λ_=>True) w e v:=by
 unfold JM at h;have main:∀ es,Dk T σ fn.results.toList=some es->∃ vs:List Value,(fn.results.mapM (BU a.tmps)).run P w = .ok vs.toArray w/\kB B (λ_=>True) w es vs:=by
  intro es hes;obtain⟨vs,h1,h2⟩:=ajX hT hB r hes;refine⟨vs,?_,h2⟩;rw[anM];simp only[Sem.run_map,h1,Result.andThen_ok]
 split at h
 .rename_i y hy;cases h;obtain⟨vs,h1,h2⟩:=main _ hy;obtain⟨v,vs',rfl,hv,Bo⟩:=h2.my;have:=Bo.pH;subst this;refine⟨v,?_,hv⟩;rw[O3,Sem.run_bind,h1];simp
 .rename_i l kq hl;cases h;obtain⟨vs,h1,h2⟩:=main _ hl;refine⟨.tuple vs.toArray,?_,h2.iB⟩;rw[O3,Sem.run_bind,h1];have hlen:¬vs.length=1:=by
   rw[h2.len];intro e1
   match l,e1 with
   | [y],_=>exact kq y rfl
  simp[hlen]
 .cases h
def afI(args:List E):∀ (k t:Nat),look (E6 k args) t=if k<=t then(args[t-k]?).map .e else none:=by
 induction args with
 |nil=>intro k t;simp[E6,look]
 |cons x l ih=>
  intro k t;simp only[E6];rw[tH,ih (k+1) t];by_cases h:k=t
  .subst h;simp
  .rw [bl h];by_cases h2:k<=t
   .rw [bn aD,bn h2,(aD:t-k=(t-(k+1))+1)];simp
   .rw [bl aD,bl h2]
def jJ.init{B:Nat->Prop}{w:World}{fn:Func}{args:List E}{vs:List Value}(hr:kB B (λ_=>False) w args vs)(hn:args.length<=fn.ntmps)(nl:Bool)(_hB:∀ b,B b->b<w.heap.size/\oK w b):
 jJ w B (Ai fn nl args) { tmps:=vs.toArray++Array.replicate (fn.ntmps-vs.toArray.size) undef,defers:=[] } w ⟨λ_=>False,λ_ _=>False,λ_=>undef,λ_ _=>undef⟩:=by
 have hlen:=hr.len;refine⟨rfl,by simp[Ai];omega,λt=>?_,λid b hb=>(by cases hb),λid=>⟨λh=>h.elim,λh=>(by cases h)⟩,λ_ _ h=>h.elim,λ_ _ h=>h.elim,λ_ _ _ h=>h.elim,Below.refl _ _,λ_ id b hb=>(by cases hb)⟩;have hg:(Ai fn nl args).get t=((args[t]?).map PV.e).getD (.e .any):=by
  unfold PS.get Ai;rw[afI];simp
 rw[hg];by_cases ht:t<args.length
 .have Ae:t<vs.length:= aD ;rw[bD ht];have hv:(vs.toArray++Array.replicate (fn.ntmps-vs.toArray.size) undef).getD t undef=vs[t]:=by
   simp[Array.getElem?_append,Ae]
  show iR _ _ _ _ _;rw[hv];exact(hr.lG t _ _ (bD ht) (bD Ae)).ql (λb h=>h.elim id λ⟨_,h⟩=>h.elim) (λ_ ⟨_,h⟩=>h.elim)
 .rw [cw aD];exact .any _
def PC.NI(hT:mI P T)(hm:P.follows .mixedOrders=true)(hp:∀ w w',K w->Below w.heap.size w w'->K w'){f:FuncId}{fn:Func}{c:Code}{args:List E}{kj:E}(wI:∀ (vs:Array Value) (w:World),(callFunc f vs).run P w = .ok (.enter f vs) w)
 (hf:P.funcs[f]? = some fn) (hb:fn.body=some c) (hn:args.length<=fn.ntmps) (nl:Bool)
 (h:Sp P K c (Ai fn nl args) (λe τ=>(e = .ret\/e = .normal)/\∃ r,JM T fn τ=some r/\∀ (bs br:Nat->Prop) (w:World) (v:Value),iR bs br w r v->iR bs br w kj v)):PC P K f args kj:=by
 refine⟨wI,λw B vs hK hB hr=>calls_of_wp hf hb ?_⟩;have uk:=jJ.init (fn:=fn) hr hn nl hB;refine Code.wp_mono ?_ (h w B _ w _ ⟨hK,hp,hB⟩ uk);rintro e a' w' ⟨ex,τ,L',rfl,⟨he,r,ER,hle⟩,r8⟩;obtain⟨v,h1,h2⟩:=ajY hT (λb hb=>(hB b hb).1) r8 ER;have EN:a'.defers=[]/\∃ v,(results fn a'.tmps).run P w' = .ok v w'/\∃ v',Ending.returned v = .returned v'/\Below w.heap.size w w'/\iR B (λ_=>True) w' kj v':=⟨r8.hd,v,h1,v,rfl,r8.he,hle _ _ _ _ h2⟩
 rcases he with rfl|rfl
 .exact EN
 .exact EN
def uO.NI(hT:mI P T)(hm:P.follows .mixedOrders=true)(hp:∀ w w',K w->Below w.heap.size w w'->K w'){f:FuncId}{fn:Func}{c:Code}{args:List E}(wI:∀ (vs:Array Value) (w:World),(callFunc f vs).run P w = .ok (.enter f vs) w)
 (hf:P.funcs[f]? = some fn) (hb:fn.body=some c) (hn:args.length<=fn.ntmps) (nl:Bool) {nl':Bool} {T0:TypeId} {n sz:Nat} {el:Nat->Nat->E}
 (h:Sp P K c (Ai fn nl args) (λe τ=>(e = .ret\/e = .normal)/\∃ t id b,fn.results.toList=[.tmp t]/\τ.get t = .own id/\τ.bo id=some b/\∀ (bs br:Nat->Prop) (L:Lk) (w:World),rN bs br L w id b->rN bs br L w id (.row nl' T0 n sz el))):uO P K f args nl' T0 n sz el:=by
 refine⟨wI,λw B vs hK hB hr=>calls_of_wp hf hb ?_⟩;have uk:=jJ.init (fn:=fn) hr hn nl hB;refine Code.wp_mono ?_ (h w B _ w _ ⟨hK,hp,hB⟩ uk);rintro e a' w' ⟨ex,τ,L',rfl,⟨he,t,id,b,ER,hg,kp,hle⟩,r8⟩;have ho:=r8.ht t;rw[hg]at ho;obtain⟨vr,hv⟩:=ho;obtain⟨f0,h1,h2,h3⟩:=hle _ _ _ _ (r8.hb id b kp);have mg:(results fn a'.tmps).run P w' = .ok (L'.val id) w':=by
  rw[O3,Sem.run_bind,anM,ER,Sem.run_map,gS];simp only[BU,Sem.run_bind,Sem.run_pure,Result.andThen_ok,List.mapM_nil,hv];simp
 have EN:a'.defers=[]/\∃ v,(results fn a'.tmps).run P w' = .ok v w'/\∃ v',Ending.returned v = .returned v'/\Below w.heap.size w w'/\∃ g,qo w' v' T0 n sz g nl'/\(∀ x,v'.ownBlock=some x->w.heap.size<=x/\x<w'.heap.size) /\
  ∀ i j,i<n->j<sz->iR (λb=>B b\/v'.ownBlock=some b) (λ_=>True) w' (el i j) (g i j)/\(el i j).nr 2=true:=by
  refine⟨r8.hd,_,mg,_,rfl,r8.he,f0,h1,λx hx=>r8.hw id x ((h2 x).2 hx),λi j hi hj=>⟨?_,(h3 i j hi hj).2⟩⟩;refine((h3 i j hi hj).1.ql (bs':=λb=>B b\/(L'.val id).ownBlock=some b) (br':=ky L') (λb hb=>?_) (λ_ h=>h)).nr 2 (h3 i j hi hj).2;rcases hb with hb|hb
  .exact .inl hb
  .exact .inr ⟨id,(h2 b).2 hb⟩
 rcases he with rfl|rfl
 .exact EN
 .exact EN
end
def Gy(P:Program):List TI->Prop
 | []=>True
 |x::l=>(P.underlying x.id=some x.d/\P.info? x.id=some x.i)/\Gy P l
def Gy.ok{P:Program}{T:List TI}(h:Gy P T):mI P T:=by
 induction T with
 |nil=>intro x hx;simp at hx
 |cons y l ih=>
  intro x hx;rcases de.1 hx with hx|hx
  .subst hx;exact h.1
  .exact ih h.2 x hx
def E.le(p q:E):Prop:=∀ (bs br:Nat->Prop) (w:World) (v:Value),iR bs br w p v->iR bs br w q v
def E.le.refl(p:E):E.le p p:=λ_ _ _ _ h=>h
def E.le.jb{p q:E}(h:p=q):E.le p q:=h▸E.le.refl p
def E.le.trans{p q r:E}(h:E.le p q)(k:E.le q r):E.le p r:=λ_ _ _ _ x=>k _ _ _ _ (h _ _ _ _ x)
def PV.le.e{p q:E}(h:E.le p q):aj p q:=λbs br _ w v k=>h bs br w v k
def PV.le.bool{a b:Bool}(h:a=b):aj (.v (.bool a)) (.v (.bool b)):=PV.le.e (.jb (by rw[h]))
def PV.le.int{k:IntKind}{a b:Int}(h:a=b):aj (.v (.int k a)) (.v (.int k b)):=PV.le.e (.jb (by rw[h]))
def an(a b:Int)(h:a=b):aj (.v (.int .i64 a)) (.v (.int .i64 b)):=.int h
inductive sP:List E->List E->Prop
 |nil:sP [] []
 |cons {p q:E} {l m:List E} (h:E.le p q) (k:sP l m):sP (p::l) (q::m)
def sP.refl:∀ l:List E,sP l l
 | []=>.nil
 |p::l=>.cons (.refl p) (sP.refl l)
def sP.JL{l m:List E}(h:sP l m){bs br:Nat->Prop}{w:World}{vs:List Value}(k:kB bs br w l vs):kB bs br w m vs:=by
 induction h generalizing vs with
 |nil=>exact k
 |cons h _ ih=>
  obtain⟨x,ys,rfl,h1,h2⟩:=k.my;exact .cons (h _ _ _ _ h1) (ih h2)
def E.le.agg{l m:List E}(h:sP l m):E.le (.agg l) (.agg m):=λ_ _ _ _ k=>by
 obtain⟨vs,rfl,hr⟩:=iR.Cj k;exact(h.JL hr).agg
def E.le.iB{l m:List E}(h:sP l m):E.le (.iB l) (.iB m):=λ_ _ _ _ k=>by
 obtain⟨vs,rfl,hr⟩:=iR.Zu k;exact(h.JL hr).iB
def E.le.nil(nl:Bool)(sz:Nat)(el:Nat->Nat->E):E.le (.v (.slice none 0 0)) (.sl nl 0 sz el):=λ_ _ _ _ k=>by
 obtain rfl:=iR.kN k;exact .sl nl 0 sz el none 0 (λ_ _=>undef) (bp _) aF (λ_=>rfl) (λi j h=>absurd h (bO i)) (λi j h=>absurd h (bO i)) (λi j h=>absurd h (bO i)) (λi j h=>absurd h (bO i))
def E.le.sl{nl:Bool}{n sz:Nat}{el el':Nat->Nat->E}(h:∀ i j,i<n->j<sz->E.le (el i j) (el' i j)/\(el' i j).nr 2=true):E.le (.sl nl n sz el) (.sl nl n sz el'):=λbs br w v k=>by
 cases k with
 |sl _ _ _ _ A c f hc hm h0 hl hr cell kk=>
  exact .sl nl n sz el' A c f hc hm h0 hl (λi j hi hj=>(h i j hi hj).2) cell λi j hi hj=>(h i j hi hj).1 _ _ _ _ (kk i j hi hj)
def PC.le{P:Program}{K:World->Prop}{f:FuncId}{args args':List E}{kj res':E}(h:PC P K f args kj)(ha:sP args' args)(hr:E.le kj res'):PC P K f args' res':=
 ⟨h.call,λw B vs hK hB r9=>(h.run w B vs hK hB (ha.JL r9)).mono λ_ _ ⟨v,h1,h2,h3⟩=>⟨v,h1,h2,hr _ _ _ _ h3⟩⟩
def PC.kj{P:Program}{K:World->Prop}{f:FuncId}{args:List E}{kj res':E}(h:PC P K f args kj)(hr:E.le kj res'):PC P K f args res':=h.le (sP.refl _) hr
end Go.Proofs.YtbhhompalmdaiaaGreatDoor.Pu
namespace Go.Proofs.YtbhhompalmdaiaaGreatDoor
open Go.RowKit Fp
def uD(A:Option Addr)(c:Nat)(L:List Nat)(w:World)(hs:Sl w A c L):
 Calls prog 229 #[.slice A L.length c] w λe w'=>e = .returned (.slice A (iy L).length c)/\w=w':=by
 have hc:=hs.cap;have hl:=hs.pS;go_enter func229,ntmps229;go_wp2;go_loop [3] (λi=>∃ k:Nat,k<=L.length/\i = .int .i64 k/\mn L=mn (L.take k)) (λi=>(intOf i).toNat)
 case atStart=>exact⟨L.length,bp _,rfl,aJ⟩
 case round=>
  obtain⟨k,hk,rfl,ht⟩:=hrel;have HT:=anQ ht;clear ht;by_cases h0:0<k
  .obtain ⟨ab,ao,rfl,hb,h1⟩:=hs.lL (i:=k-1) aD ;have e1:((k:Int)-1).toNat=k-1:= aD ;have Z:=anQ (J8 L (k-1) aD);have NZ:=anQ (J7 L (k-1) aD);rw[fA h0]at Z NZ;generalize L[k-1]=x at *
   by_cases hx:x=0
   .have Hx:=anQ hx;clear hx;have hb:((x:Int)==0)=true:=by have:=Hx.out;simp;omega
    go_wp2;go_round
    case rel=>exact⟨k-1,aD,by go_num,by rw[HT.out,Z.out Hx.out]⟩
    case measure=>simp[intOf];omega
   .have hb:((x:Int)==0)=false:= aR ;go_wp2;go_ret;exact⟨JP (by show _=mn L;rw[HT.out,NZ.out hx]),rfl⟩
  .go_wp2;go_ret;have:k=0:= aD ;subst this;exact⟨JP (by show _=mn L;rw[HT.out];rfl),rfl⟩
def acJ(A:Option Addr)(c:Nat)(L:List Nat)(w:World)(hs:Sl w A c L):
 Calls prog 232 #[.slice A L.length c] w λe w'=>e = .returned (.slice A (iy L).length c)/\w=w':=by
 have hc:=hs.cap;have hl:=hs.pS;go_enter func232,ntmps232;go_wp2;go_loop [3] (λi=>∃ k:Nat,k<=L.length/\i = .int .i64 k/\mn L=mn (L.take k)) (λi=>(intOf i).toNat)
 case atStart=>exact⟨L.length,bp _,rfl,aJ⟩
 case round=>
  obtain⟨k,hk,rfl,ht⟩:=hrel;have HT:=anQ ht;clear ht;by_cases h0:0<k
  .obtain ⟨ab,ao,rfl,hb,h1⟩:=hs.lL (i:=k-1) aD ;have e1:((k:Int)-1).toNat=k-1:= aD ;have Z:=anQ (J8 L (k-1) aD);have NZ:=anQ (J7 L (k-1) aD);rw[fA h0]at Z NZ;generalize L[k-1]=x at *
   by_cases hx:x=0
   .have Hx:=anQ hx;clear hx;have hb:((x:Int)==0)=true:=by have:=Hx.out;simp;omega
    go_wp2;go_round
    case rel=>exact⟨k-1,aD,by go_num,by rw[HT.out,Z.out Hx.out]⟩
    case measure=>simp[intOf];omega
   .have hb:((x:Int)==0)=false:= aR ;go_wp2;go_ret;exact⟨JP (by show _=mn L;rw[HT.out,NZ.out hx]),rfl⟩
  .go_wp2;go_ret;have:k=0:= aD ;subst this;exact⟨JP (by show _=mn L;rw[HT.out];rfl),rfl⟩
def Sl.tL{w:World}{A:Option Addr}{c:Nat}{L:List Nat}(h:Sl w A c L):Sl w A c (iy L):=(h.take (mn L)).eqv (Gf L).symm
def aa2:Go.Shelf.Ren:=⟨λ|128=>286|n=>n,λ|51=>72|3=>3|4=>4|46=>112|5=>5|9=>9|n=>n,λ|n=>n⟩
def aaY:Go.Proofs.Lays.n128 prog aa2:={
 mixed:= aG 
 f128:=func286.trans (congrArg some aG)
 t3:=underlying3
 a3:=Tryz.isAgg3
 z3:=Tryz.sizeOf3
 v3:=Tryz.zeroValue3
 t4:=underlying4
 a4:=Tryz.isAgg4
 z4:=Tryz.sizeOf4
 v4:=Tryz.zeroValue4
 t5:=underlying5
 a5:=Tryz.isAgg5
 z5:=Tryz.sizeOf5
 v5:=Tryz.zeroValue5
 t9:=underlying9
 a9:=Tryz.isAgg9
 z9:=Tryz.sizeOf9
 v9:=Tryz.zeroValue9
 t46:=underlying112
 a46:=Tryz.isAgg112
 z46:=Tryz.sizeOf112
 v46:=Tryz.zeroValue112
 t51:=underlying72
 a51:=Tryz.isAgg72
 z51:=Tryz.sizeOf72
 v51:=Tryz.zeroValue72 }
def VP(x:Nat)(hx:x<4294967296)(w:World):
 Calls prog 286 #[.int .u32 x] w λe w'=>e = .returned (.int .i64 (iA x))/\w=w':=by
 refine(Any.bits_Len32 aaY x w aD aD).mono ?_;rintro e w' ⟨rfl,rfl⟩;rw[fY,aaR x hx];exact⟨rfl,rfl⟩
def alU(x k idx:Nat)(w:World)(og:((x:Int)==0)=false)
 (key:bits BinOp.and IntKind.u32 (x:Int) (-(x:Int)%4294967296)*125613361%4294967296/134217728=(idx:Int))
 (hi:idx<32) (hk:k<32) (mf:w.cell? ⟨0,idx,none⟩=some (.int .u8 k)):
 Calls prog 274 #[.int .u32 x] w λe w'=>e = .returned (.int .i64 k)/\w=w':=by
 go_enter func274,ntmps274;go_wp2_with (simp only[key])
 go_ret;exact⟨rfl,rfl⟩
def alT(x:Nat)(h0:x≠0)(hx:x<4294967296)(w:World)(hT:Tb w):
 Calls prog 274 #[.int .u32 x] w λe w'=>e = .returned (.int .i64 (kr x))/\w=w':=by
 rw[<-abU x h0 hx];obtain⟨z8,hk⟩:=Lib.lowest_bit 32 x h0 hx;obtain⟨hi,afv⟩:=Lib.deBruijn32_at _ hk;have mf:=hT _ hi;rw[afv]at mf;exact alU x _ _ w aR (tz32_key x _ hx h0 z8) hi hk mf
def i64_in(n:Int)(h0:-9223372036854775808<=n)(h1:n<=9223372036854775807):IntKind.i64.wrap n=n:=by rw[IntKind.wrap_i64];omega
def Q2{L M:List Nat}{n:Nat}(hs:iK L)(hM:iy L=M)(hn:M.length=n+1):
 ∃ x,M[n]? = some x/\x<4294967296/\(32*(n:Int)+(iA x:Int))=(iA (val L):Int)/\iA x<=32:=by
 have hk:iK M:=hM▸hs.iy;have ht:nC M:=hM▸zu L;rcases am1 M with rfl|⟨l,x,rfl⟩
 .simp at hn
 .simp only[am2,cJ,gK,Nat.add_right_cancel_iff]at hn hk ht hM ⊢;subst hn;have hx:x≠0:=by simpa using(AO _).1 ht aJ 
  have iO:x<4294967296:=hk x aJ;refine⟨x,aJ,iO,?_,kV.2 iO⟩;have:=aa1 hk hx;rw[<-hM,oG]at this;omega
def Wz(A:Option Addr)(c:Nat)(L:List Nat)(w:World)(hs:Sl w A c L)(hlen:L.length<=100000000):
 Calls prog 243 #[.slice A L.length c] w λe w'=>e = .returned (.int .i64 (iA (val L)))/\w=w':=by
 have hT:=anQ (uD A c L w hs);have kK:=hs.tL;have nt:=oF L;unfold mn at nt;generalize hM:iy L=M at *
 obtain⟨n,hn⟩:∃ n,n=M.length:=⟨_,rfl⟩
 rw[<-hn]at hT nt;rcases n with _|n
 .have hv:iA (val L)=0:=by rw[<-oG,hM,dN hn.symm];rfl
  have HV:=anQ hv;clear hv hM hn;go_enter func243,ntmps243;go_wp2_with (go_at_call 229;refine hT.out.mono ?_;rintro e w' ⟨rfl,rfl⟩)
  go_ret;exact⟨by rw[HV.out];rfl,rfl⟩
 .obtain ⟨x,hx,iO,hb,Ms⟩:=Q2 hs.ok hM hn.symm;obtain⟨ab,ao,rfl,_,mf⟩:=kK.cell _ _ hx;have HB:=anQ hb;clear hb hM hn hx;go_enter func243,ntmps243;go_wp2_with (first|(go_at_call 229;refine hT.out.mono ?_;rintro e w' ⟨rfl,rfl⟩)|(go_at_call 286;refine(VP x iO _).mono ?_;rintro e w' ⟨rfl,rfl⟩))
  go_ret;exact⟨oi HB.out,rfl⟩
def aa0{x:Nat}(h:x≠0):iA x=iA (x/2)+1:=by
 by_cases h1:x/2=0
 .have:x=1:= aD ;subst this;rfl
 .have e1:=rk h1;have e2:=pE (x/2);have e3:=nj h1;generalize iA (x/2)=k at *
  obtain⟨j,rfl⟩:∃ j,k=j+1:=⟨k-1,aD⟩
  rw[eD]at e1;refine uT ?_ ?_
  .rw [bG];omega
  .rw [bG];omega
def X7(A:Option Addr)(c:Nat)(L:List Nat)(w:World)(hs:Sl w A c L)(ht:nC L)(hlen:L.length<=100000000):
 Calls prog 81 #[.slice A L.length c] w λe w'=>e = .returned (.int .i64 (iA (val L)))/\w=w':=by
 obtain⟨n,hn⟩:∃ n,n=L.length:=⟨_,rfl⟩
 rcases n with _|n
 .have hv:iA (val L)=0:=by rw[dN hn.symm];rfl
  have HV:=anQ hv;rw[<-hn];clear hv ht hn;go_enter func81,ntmps81;go_wp2;go_ret;exact⟨by rw[HV.out];rfl,rfl⟩
 .obtain ⟨x,hx,iO,hb,Ms⟩:=Q2 hs.ok ht hn.symm;obtain⟨ab,ao,rfl,_,mf⟩:=hs.cell _ _ hx;have HB:=anQ hb;rw[<-hn]at hlen ⊢;clear hb ht hn hx;go_enter func81,ntmps81;go_wp2;go_loop [3,4] (λm y=>∃ (k z:Nat),z<4294967296/\y = .int .u32 z/\m = .int .i64 k/\k<=10000000000/\k+iA z=iA (val L)) (λ_ y=>(intOf y).toNat)
  case atStart=>exact⟨32*n,x,iO,rfl,by go_num,aD,by have:=HB.out;omega⟩
  case round=>
   obtain⟨k,z,hz,rfl,rfl,hk,he⟩:=hrel;have HE:=anQ he;clear he;by_cases h0:0<z
   .have hh:=anQ (aa0 (x:=z) aD);have qY:k<=3300000000:=by have:=HE.out;have:=HB.out;omega
    go_wp2;go_round
    case rel=>exact⟨k+1,z/2,aD,by go_num,by go_num,aD,by rw[<-HE.out,hh.out];omega⟩
    case measure=>simp[intOf];omega
   .obtain rfl:z=0:= aD ;go_wp2;go_ret;exact⟨oi (by rw[<-HE.out];rfl),rfl⟩
def RA{L M:List Nat}(hL:iK L)(h:(iy L).length<(iy M).length):kD (val L) (val M) = -1:=by
 have:=Kj hL.iy (zu M) h;rw[oG,oG]at this;unfold kD;rw[bn this]
def Rz{L M:List Nat}(hM:iK M)(h:(iy M).length<(iy L).length):kD (val L) (val M)=1:=by
 have:=Kj hM.iy (zu L) h;rw[oG,oG]at this;unfold kD;rw[bl aD,bn this]
def GX{M N:List Nat}(hM:iK M){k x y:Nat}(hl:M.length=N.length)(hx:M[k]? = some x)(hy:N[k]? = some y)(hd:M.drop (k+1)=N.drop (k+1))(h:x<y):val M<val N:=by
 obtain⟨h1,rfl⟩:=cC.1 hx;obtain⟨h2,rfl⟩:=cC.1 hy;exact al5 hM k h1 hl hd h
def R4{M N:List Nat}{k x:Nat}(hx:M[k]? = some x)(hy:N[k]? = some x)(hd:M.drop (k+1)=N.drop (k+1)):M.drop k=N.drop k:=by
 obtain⟨h1,e1⟩:=cC.1 hx;obtain⟨h2,e2⟩:=cC.1 hy;rw[fB h1,fB h2,e1,e2,hd]
def FD(A B:Option Addr)(c d:Nat)(L M:List Nat)(w:World)(hs:Sl w A c L)(hr:Sl w B d M)(h1:L.length<=100000000)(_h2:M.length<=100000000):
 Calls prog 158 #[.slice A L.length c,.slice B M.length d] w λe w'=>e = .returned (.int .i64 (kD (val L) (val M)))/\iG w w':=by
 have hT:=anQ (uD A c L w hs);have hU:=anQ (uD B d M w hr);have kK:=hs.tL;have nU:=hr.tL;have nt:=oF L;have vv:=oF M;unfold mn at nt vv;by_cases iO:(iy L).length<(iy M).length
 .have HV:=anQ (RA hs.ok iO);have kq:(((iy L).length:Int) != ((iy M).length:Nat))=true:= aR ;generalize (iy L).length=n at *
  generalize (iy M).length=m at *
  clear kK nU;go_enter func158,ntmps158;go_wp2_with fail;refine hT.out.mono ?_;rintro e w' ⟨rfl,rfl⟩;go_wp2_with fail;refine hU.out.mono ?_;rintro e w' ⟨rfl,rfl⟩;go_wp2;go_ret;exact⟨oi (by rw[HV.out]),iG.refl _⟩
 .by_cases CG:(iy M).length<(iy L).length
  .have HV:=anQ (Rz hr.ok CG);have kq:(((iy L).length:Int) != ((iy M).length:Nat))=true:= aR ;generalize (iy L).length=n at *
   generalize (iy M).length=m at *
   clear kK nU;go_enter func158,ntmps158;go_wp2_with fail;refine hT.out.mono ?_;rintro e w' ⟨rfl,rfl⟩;go_wp2_with fail;refine hU.out.mono ?_;rintro e w' ⟨rfl,rfl⟩;go_wp2;go_ret;exact⟨oi (by rw[HV.out]),iG.refl _⟩
  .have hl:(iy L).length=(iy M).length:= aD ;have HL:=anQ hl;rw[<-hl]at hU vv;have e1:=oG L;have e2:=oG M;generalize iy L=P at *
   generalize iy M=Q at *
   have E1:=anQ e1;have E2:=anQ e2;clear e1 e2 hl CG iO;obtain⟨n,hn⟩:∃ n,n=P.length:=⟨_,rfl⟩
   rw[<-hn]at hT hU vv nt;have HN:=anQ hn;clear hn;have kq:((n:Int) != (n:Int))=false:= aJ ;have okP:=kK.ok;have BM:=nU.ok;go_enter func158,ntmps158;go_wp2_with fail;refine hT.out.mono ?_;rintro e w' ⟨rfl,rfl⟩;go_wp2_with fail;refine hU.out.mono ?_;rintro e w' ⟨rfl,rfl⟩;go_wp2;go_loopw [5] (λi wr=>∃ k:Nat,k<=n/\i = .int .i64 ((k:Int)-1)/\P.drop k=Q.drop k/\iG w wr) (λi _=>(intOf i+1).toNat)
   case atStart=>exact⟨n,bp _,rfl,by rw[eK (by rw[<-HN.out];exact bp _),eK (by rw[<-HL.out,<-HN.out];exact bp _)],iG.refl _⟩
   case round=>
    obtain⟨k,hk,rfl,hd,hb⟩:=hrel;have HD:=anQ hd;clear hd;rcases k with _|k
    .go_wp2;go_ret;have e:P=Q:=by simpa using HD.out
     exact⟨oi (by rw[<-E1.out,<-E2.out,e];unfold kD;simp),hb⟩
    .have Bm:k<P.length:=by have:=HN.out;omega
     have yM:k<Q.length:=by have:=HN.out;have:=HL.out;omega
     have HP:=anQ (bD Bm);have HQ:=anQ (bD yM);obtain⟨ab,ao,rfl,_,c1⟩:=(kK.below hb).lL Bm;obtain⟨bb,bo,rfl,_,c2⟩:=(nU.below hb).lL yM;have Iy:(k:Int)<n:= aD ;have py:(0:Int)<=k:= aD ;have x0:(0:Int)<=P[k]:= aD ;have y0:(0:Int)<=Q[k]:= aD ;generalize P[k]=x at *
     generalize Q[k]=y at *
     clear Bm yM;by_cases qf:x<y
     .have M5:(x:Int)<y:= aD ;go_wp2;go_quiet (fail);go_wp2;go_ret;have h:=GX okP HL.out HP.out HQ.out HD.out qf;rw[E1.out,E2.out]at h;exact⟨oi (by unfold kD;rw[bn h]),below_drewN hb _⟩
     .have M5:¬(x:Int)<y:= aD ;by_cases M7:y<x
      .have M8:(y:Int)<x:= aD ;go_wp2;go_quiet (fail);go_wp2;go_quiet (fail);go_wp2;go_ret;have h:=GX BM HL.out.symm HQ.out HP.out HD.out.symm M7;rw[E1.out,E2.out]at h;exact⟨oi (by unfold kD;rw[bl aD,bn h]),below_drewN (below_drewN hb _) _⟩
      .have M8:¬(y:Int)<x:= aD ;have HX:=anQ (aD:x=y);go_wp2;go_quiet (fail);go_wp2;go_quiet (fail);go_wp2;go_roundw
       case rel=>exact⟨k,aD,by go_num,R4 HP.out (by rw[HX.out];exact HQ.out) HD.out,by repeat (first|exact hb|refine below_drewN ?_ _)⟩
       case measure=>simp[intOf];try omega
def aju(A B:Option Addr)(c d:Nat)(P Q:List Nat)(w:World)(kK:Sl w A c P)(nU:Sl w B d Q)(tP:nC P)(tQ:nC Q)(h1:P.length<=100000000)(_h2:Q.length<=100000000):
 Calls prog 259 #[.slice A P.length c,.slice B Q.length d] w λe w'=>e = .returned (.int .i64 (kD (val P) (val Q)))/\iG w w':=by
 have tP':iy P=P:=tP;have tQ':iy Q=Q:=tQ;by_cases iO:P.length<Q.length
 .have HV:=anQ (RA (M:=Q) kK.ok (by rw[tP',tQ'];exact iO));have kq:((P.length:Int) != (Q.length:Nat))=true:= aR ;generalize P.length=n at *
  generalize Q.length=m at *
  clear kK nU tP' tQ' tP tQ;go_enter func259,ntmps259;go_wp2;go_ret;exact⟨oi (by rw[HV.out]),iG.refl _⟩
 .by_cases CG:Q.length<P.length
  .have HV:=anQ (Rz (L:=P) nU.ok (by rw[tP',tQ'];exact CG));have kq:((P.length:Int) != (Q.length:Nat))=true:= aR ;generalize P.length=n at *
   generalize Q.length=m at *
   clear kK nU tP' tQ' tP tQ;go_enter func259,ntmps259;go_wp2;go_ret;exact⟨oi (by rw[HV.out]),iG.refl _⟩
  .have hl:P.length=Q.length:= aD ;have HL:=anQ hl;rw[<-hl];clear hl CG iO tP' tQ' tP tQ _h2;obtain⟨n,hn⟩:∃ n,n=P.length:=⟨_,rfl⟩
   rw[<-hn]at h1 ⊢;have HN:=anQ hn;clear hn;have kq:((n:Int) != (n:Int))=false:= aJ ;have okP:=kK.ok;have BM:=nU.ok;go_enter func259,ntmps259;go_wp2;go_loopw [5] (λi wr=>∃ k:Nat,k<=n/\i = .int .i64 ((k:Int)-1)/\P.drop k=Q.drop k/\iG w wr) (λi _=>(intOf i+1).toNat)
   case atStart=>exact⟨n,bp _,rfl,by rw[eK (by rw[<-HN.out];exact bp _),eK (by rw[<-HL.out,<-HN.out];exact bp _)],iG.refl _⟩
   case round=>
    obtain⟨k,hk,rfl,hd,hb⟩:=hrel;have HD:=anQ hd;clear hd;rcases k with _|k
    .go_wp2;go_ret;have e:P=Q:=by simpa using HD.out
     exact⟨oi (by rw[e];unfold kD;simp),hb⟩
    .have Bm:k<P.length:=by have:=HN.out;omega
     have yM:k<Q.length:=by have:=HN.out;have:=HL.out;omega
     have HP:=anQ (bD Bm);have HQ:=anQ (bD yM);obtain⟨ab,ao,rfl,_,c1⟩:=(kK.below hb).lL Bm;obtain⟨bb,bo,rfl,_,c2⟩:=(nU.below hb).lL yM;have Iy:(k:Int)<n:= aD ;have py:(0:Int)<=k:= aD ;have x0:(0:Int)<=P[k]:= aD ;have y0:(0:Int)<=Q[k]:= aD ;generalize P[k]=x at *
     generalize Q[k]=y at *
     clear Bm yM;by_cases qf:x<y
     .have M5:(x:Int)<y:= aD ;go_wp2;go_quiet (fail);go_wp2;go_ret;have h:=GX okP HL.out HP.out HQ.out HD.out qf;exact⟨oi (by unfold kD;rw[bn h]),below_drewN hb _⟩
     .have M5:¬(x:Int)<y:= aD ;by_cases M7:y<x
      .have M8:(y:Int)<x:= aD ;go_wp2;go_quiet (fail);go_wp2;go_quiet (fail);go_wp2;go_ret;have h:=GX BM HL.out.symm HQ.out HP.out HD.out.symm M7;exact⟨oi (by unfold kD;rw[bl aD,bn h]),below_drewN (below_drewN hb _) _⟩
      .have M8:¬(y:Int)<x:= aD ;have HX:=anQ (aD:x=y);go_wp2;go_quiet (fail);go_wp2;go_quiet (fail);go_wp2;go_roundw
       case rel=>exact⟨k,aD,by go_num,R4 HP.out (by rw[HX.out];exact HQ.out) HD.out,by repeat (first|exact hb|refine below_drewN ?_ _)⟩
       case measure=>simp[intOf];try omega
def K2(A:Option Addr)(c:Nat)(L:List Nat)(w:World)(hs:Sl w A c L):
 Calls prog 235 #[.slice A L.length c] w λe w'=>e = .returned (.slice A L.length L.length)/\w=w':=by
 have hc:=hs.cap;have hl:=hs.pS;go_enter func235,ntmps235;go_wp2;go_ret;exact⟨rfl,rfl⟩
def Sl.Ro{w:World}{A:Option Addr}{c:Nat}{L:List Nat}(h:Sl w A c L):Sl w A L.length L:=
 ⟨bp _,bJ h.cap h.pS,h.ok,(λe=>by have:=h.w9 e;have:=h.cap;omega),h.cell⟩
def K3(A:Option Addr)(c:Nat)(L:List Nat)(w:World)(hs:Sl w A c L)(hlen:L.length<=100000000):
 Calls prog 220 #[.slice A L.length c] w (sR w L):=by
 have hc:=hs.cap;have hl:=hs.pS;rcases A with _|ad
 .have h0:=hs.w9 rfl;subst h0;have:L=[]:=dN aD;subst this;have q:=λ(w:World) (n' c':Nat)=>Lib.run_eql_slice_nil (P:=prog) w 26 _ none 0 0 n' c' underlying26
  simp only[Option.isNone_none]at q;go_enter func220,ntmps220;go_wp2;go_ret;exact⟨none,0,rfl,Sl.nil _,iG.refl _⟩
 .have q:=λ(w:World) (n' c':Nat)=>Lib.run_eql_slice_nil (P:=prog) w 26 _ (some ad) L.length c n' c' underlying26
  simp only[Option.isNone_some]at q;go_enter func220,ntmps220;have lT:([]:List Nat).length+L.length<=10000000000:= aR ;have h1:=Ow.empty w w.heap.size (bp _);have h2:=hs.alloc (.cells #[] 72);have h3:=pR (w:=w) (bp _) (.cells #[] 72);go_wp2_with (at_builtin;go_must (refine qQ aI _ _ aI w.heap.size _ [] aI h1 _ _ _ L aI aI h2 lT h3 ?_);intro v' w' oq hg oO)
  obtain⟨A',c',rfl,mQ⟩:=oq.sl;go_ret;exact⟨A',c',rfl,mQ,(iG.alloc _ _).grown hg (pR (bp _) _) (λk hk=>by simp[Value.ownBlock]at hk;omega)⟩
def BR(A:Option Addr)(c:Nat)(L:List Nat)(w:World)(hs:Sl w A c L)(hlen:L.length<=100000000):
 Calls prog 159 #[.slice A L.length c] w (sR w (iy L)):=by
 have hc:=hs.cap;have hl:=hs.pS;have fin:∀ k:Nat,k=(iy L).length->Hid (iy L=L.take k):=λk hk=>by rw[hk];exact Gf L
 go_enter func159,ntmps159;go_wp2;go_loop [3] (λi=>∃ k:Nat,k<=L.length/\i = .int .i64 k/\mn L=mn (L.take k)) (λi=>(intOf i).toNat)
 case atStart=>exact⟨L.length,bp _,rfl,aJ⟩
 case round=>
  obtain⟨k,hk,rfl,ht⟩:=hrel;have HT:=anQ ht;clear ht;have lT:([]:List Nat).length+(L.take k).length<=10000000000:=by rw[cG];simp;omega
  have HK:=anQ (show k=(L.take k).length by rw[cG];omega);have h1:=Ow.empty w w.heap.size (bp _);have h2:=(hs.take k).alloc (.cells #[] 72);have h3:=pR (w:=w) (bp _) (.cells #[] 72);by_cases h0:0<k
  .obtain ⟨ab,ao,rfl,hb,xH⟩:=hs.lL (i:=k-1) aD ;have e1:((k:Int)-1).toNat=k-1:= aD ;have Z:=anQ (J8 L (k-1) aD);have NZ:=anQ (J7 L (k-1) aD);rw[fA h0]at Z NZ;generalize L[k-1]=x at *
   by_cases hx:x=0
   .have Hx:=anQ hx;clear hx;have hb:((x:Int)==0)=true:=by have:=Hx.out;simp;omega
    clear fin;go_wp2;go_round
    case rel=>exact⟨k-1,aD,by go_num,by rw[HT.out,Z.out Hx.out]⟩
    case measure=>simp[intOf];omega
   .have hb:((x:Int)==0)=false:= aR ;have F:=fin k (by show k=mn L;rw[HT.out,NZ.out hx]);clear fin;go_wp2_with (at_builtin;go_must (refine qQ aI _ _ aI w.heap.size _ [] aI h1 _ _ _ (L.take k) aI HK.out h2 lT h3 ?_);intro v' w' oq hg oO)
    obtain⟨A',c',rfl,mQ⟩:=oq.sl;go_ret;rw[F.out];exact⟨A',c',rfl,mQ,(iG.alloc _ _).grown hg (pR (bp _) _) (λk hk=>by simp[Value.ownBlock]at hk;omega)⟩
  .have:k=0:= aD ;subst this;have F:=fin 0 (by show 0=mn L;rw[HT.out];rfl);clear fin;go_wp2_with (at_builtin;go_must (refine qQ aI _ _ aI w.heap.size _ [] aI h1 _ _ _ (L.take 0) aI HK.out h2 lT h3 ?_);intro v' w' oq hg oO)
   obtain⟨A',c',rfl,mQ⟩:=oq.sl;go_ret;rw[F.out];exact⟨A',c',rfl,mQ,(iG.alloc _ _).grown hg (pR (bp _) _) (λk hk=>by simp[Value.ownBlock]at hk;omega)⟩
def VW(A:Option Addr)(n c:Nat)(w:World):
 Calls prog 273 #[.slice A n c] w λe w'=>e = .returned (.bool (decide (256<n)))/\w=w':=by
 by_cases h:256<n
 .have h':(256:Int)<n:= aD ;go_enter func273,ntmps273;go_wp2;go_ret;exact⟨by simp[h],rfl⟩
 .have h':¬(256:Int)<n:= aD ;go_enter func273,ntmps273;go_wp2;go_ret;exact⟨aJ,rfl⟩
def KA(w:World)(g:Nat)(xs:List (Option Addr×Nat×Nat)):Prop:=∀ i x,xs[i]? = some x->w.cell? ⟨g,i,none⟩=some (.slice x.1 x.2.1 x.2.2)
def xk(xs:List (Option Addr×Nat×Nat)):Bool:=xs.any λx=>decide (256<x.2.1)
def ZP(xs:List (Option Addr×Nat×Nat))(w:World)(e:Ending)(w':World):Prop:=
 ∃ n:Int,e = .returned (.int .i64 n)/\(0<=n↔xk xs=true)/\w=w'
def afG(g:Nat)(xs:List (Option Addr×Nat×Nat))(w:World)(hs:KA w g xs)(hn:xs.length<=1000):
 Calls prog 296 #[.slice (some ⟨g,0,none⟩) xs.length xs.length,.func (.func 273) #[] #[]] w (ZP xs w):=by
 go_enter func296,ntmps296;go_wp2;go_loop [8] (λi=>∃ k:Nat,k<=xs.length/\i = .int .i64 k/\xk (xs.take k)=false) (λi=>xs.length-(intOf i).toNat)
 case atStart=>exact⟨0,ch _,rfl,rfl⟩
 case round=>
  obtain⟨k,hk,rfl,ht⟩:=hrel;have HT:=anQ ht;clear ht;by_cases h0:k<xs.length
  .have hc:=hs k _ (bD h0);have e1:((k:Int)).toNat=k:= aD ;have ec:=Z0 g k;have HX:=anQ (show xk (xs.take (k+1))=(xk (xs.take k)||decide (256<xs[k].2.1))by
    unfold xk;rw[fV h0,List.any_append];simp)
   have HM:=anQ (cO h0);generalize xs[k]=x at *
   obtain⟨A,n,c⟩:=x;simp only at hc HX;by_cases hx:256<n
   .have hb:decide (256<n)=true:=by simp[hx]
    go_wp2_with (go_at_call 273;refine(VW A n c _).mono ?_;rw[hb];rintro e w' ⟨rfl,rfl⟩)
    go_ret;refine⟨_,rfl,⟨λ_=>?_,λ_=> aD⟩,rfl⟩;unfold xk;rw[dE];exact⟨_,HM.out,by simpa using hx⟩
   .have hb:decide (256<n)=false:= aR ;go_wp2_with (go_at_call 273;refine(VW A n c _).mono ?_;rw[hb];rintro e w' ⟨rfl,rfl⟩)
    go_round
    case rel=>exact⟨k+1,aD,by go_num,by rw[HX.out,HT.out,hb];rfl⟩
    case measure=>simp[intOf];omega
  .go_wp2;go_ret;have e:xs.take k=xs:=cP aD;have:=HT.out;rw[e]at this;exact⟨_,rfl,by rw[this];simp,rfl⟩
def abQ(g:Nat)(xs:List (Option Addr×Nat×Nat))(w:World)(hs:KA w g xs)(hn:xs.length<=1000):
 Calls prog 272 #[.slice (some ⟨g,0,none⟩) xs.length xs.length,.func (.func 273) #[] #[]] w λe w'=>e = .returned (.bool (xk xs))/\w=w':=by
 have H:=anQ (afG g xs w hs hn);go_enter func272,ntmps272;go_wp2_with fail;refine H.out.mono ?_;rintro e w' ⟨n,rfl,hn,rfl⟩;have HN:=anQ hn;clear hn;go_wp2;go_ret;refine⟨Yd ?_,rfl⟩;have:=HN.out;cases h:xk xs<;>simp[h]at this ⊢ <;> omega
def VY(g:Nat)(xs:List (Option Addr×Nat×Nat))(w:World)(hs:KA w g xs)(hn:xs.length<=1000):
 Calls prog 226 #[.slice (some ⟨g,0,none⟩) xs.length xs.length] w λe w'=>e = .returned (.bool (xk xs))/\w=w':=by
 have H:=anQ (abQ g xs w hs hn);go_enter func226,ntmps226;go_wp2_with fail;refine H.out.mono ?_;rintro e w' ⟨rfl,rfl⟩;go_wp2;go_ret;exact⟨rfl,rfl⟩
def Nz(g:Nat)(A:Option Addr)(n c:Nat)(w:World)(b:Bool)(h:w.cell? ⟨g,0,none⟩=some (.slice A n c))(hb:b=decide (256<n)):
 Calls prog 226 #[.slice (some ⟨g,0,none⟩) 1 1] w λe w'=>e = .returned (.bool b)/\w=w':=by
 have:=VY g [(A,n,c)] w (λi x hx=>by
  obtain⟨h1,h2⟩:=cC.1 hx;obtain rfl:i=0:=by simp at h1;omega
  simp at h2;subst h2;exact h) aJ 
 simpa[xk,hb]using this
def VX(g:Nat)(A B:Option Addr)(n c m d:Nat)(w:World)(b:Bool)(h:w.cell? ⟨g,0,none⟩=some (.slice A n c))(k:w.cell? ⟨g,1,none⟩=some (.slice B m d))(hb:b=(decide (256<n)||decide (256<m))):
 Calls prog 226 #[.slice (some ⟨g,0,none⟩) 2 2] w λe w'=>e = .returned (.bool b)/\w=w':=by
 have:=VY g [(A,n,c),(B,m,d)] w (λi x hx=>by
  obtain⟨h1,h2⟩:=cC.1 hx;simp at h1;rcases i with _|_|i
  .simp at h2;subst h2;exact h
  .simp at h2;subst h2;exact k
  .omega) aJ 
 simpa[xk,hb]using this
def FF(A:Option Addr)(c:Nat)(L:List Nat)(w:World)(hs:Sl w A c L)(hl:(iy L).length<=256):
 Calls prog 227 #[.slice A L.length c] w (Cf w (iy L) 0):=by
 have hT:=anQ (uD A c L w hs);have kK:=hs.tL;have hC:=hs.cap;have hL:=hs.pS;have H2:=anQ (λw' (h:Sl w' A c (iy L))=>K2 A c (iy L) w' h);generalize iy L=M at *
 obtain⟨n,hn⟩:∃ n,n=M.length:=⟨_,rfl⟩
 rw[<-hn]at hT hl H2;have HN:=anQ hn;clear hn;go_enter func227,ntmps227;go_wp2_with fail;refine hT.out.mono ?_;rintro e w' ⟨rfl,rfl⟩;go_wp2_with fail;refine(Nz _ A n c _ false ?_ aR).mono ?_
 .go_simp
 rintro e w' ⟨rfl,rfl⟩;go_wp2_with fail;refine(H2.out _ (kK.alloc _)).mono ?_;rintro e w' ⟨rfl,rfl⟩;go_wp2;go_ret2;exact⟨A,n,by rw[HN.out];rfl,by have:=kK.Ro.alloc (.cells #[.slice A n c] 26);rw[HN.out]at this ⊢;exact this,iG.alloc _ _⟩
def Kf(a b:Nat)(ha:a<18446744073709551616)(hb:b<18446744073709551616):bits .or .u64 (a:Int) (b:Int)=((a |||b:Nat):Int):=by
 have hx:a |||b<2^64:=anj aD aD 
 have h1:(BitVec.ofInt 64 (a:Int)).toNat=a:=by
  rw[gV,gW];exact bQ aD 
 have h2:(BitVec.ofInt 64 (b:Int)).toNat=b:=by
  rw[gV,gW];exact bQ aD 
 show IntKind.u64.wrap ((BitVec.ofInt 64 (a:Int) |||BitVec.ofInt 64 (b:Int)).toNat:Int)=_;rw[BitVec.toNat_or,h1,h2,IntKind.wrap_u64];omega
def Au(a b k:Nat)(h:a<2^k):a |||b*2^k=a+b*2^k:=by
 rw[bE,gq,<-Nat.two_pow_add_eq_or_of_lt h];omega
def Sl.drop{w:World}{A:Option Addr}{c:Nat}{L:List Nat}(h:Sl w A c L)(k:Nat):Sl w (A.map (·.add k)) (c-k) (L.drop k):=
 ⟨by have:=h.cap;rw[fh];omega,bJ (dS _ _) h.pS,h.ok.drop k,(λe=>by
  rcases A with _|ad
  .rw [h.w9 rfl];omega
  .cases e),λi x hx=>by
  rw[fg]at hx;obtain⟨b,o,rfl,h1,h2⟩:=h.cell _ _ hx;exact⟨b,o+k,by rw[c9,DS],h1,by rw[dh];exact h2⟩⟩
def part(T:List Nat)(k:Nat):List Nat:=T.take k++List.replicate (T.length-k) 0
def aic(T:List Nat):part T 0=List.replicate T.length 0:=by unfold part;simp
def aia(T:List Nat):part T T.length=T:=by unfold part;simp
def aib(T:List Nat)(k:Nat)(h:k<T.length):(part T k)[k]? = some 0:=by
 unfold part;rw[gi aZ,cG,gv,bn aD]
def Xd(T:List Nat)(k x:Nat)(h:T[k]? = some x):(part T k).set k x=part T (k+1):=by
 obtain⟨h1,rfl⟩:=cC.1 h;unfold part;rw[List.set_append_right _ _ aZ,cG,dD aD,di,
  fV h1,(aD:T.length-k=(T.length-(k+1))+1),List.replicate_succ,anc,List.append_assoc]
 rfl
def akR(x y s:Nat)(hx:x<4294967296)(hy:y<4294967296):
 bits BinOp.or IntKind.u64 (x:Int) ((y:Int)*4294967296)/2^s%4294967296=(((x+4294967296*y)/2^s%4294967296:Nat):Int):=by
 have e:((y:Int)*4294967296)=((y*2^32:Nat):Int):= aJ ;rw[e,Kf x (y*2^32) aD aD,Au x y 32 aD];simp[bE]
def akS(x s:Nat):(x:Int)/2^s%4294967296=(((x+4294967296*0)/2^s%4294967296:Nat):Int):=by
 simp
def WJ(A:Option Addr)(c:Nat)(L:List Nat)(n:Nat)(w:World)(hs:Sl w A c L)(hlen:L.length<=100000000)(hn:n<=65536):
 Calls prog 275 #[.slice A L.length c,.int .i64 n] w (sR w (qC (n%32) ((iy L).drop (n/32)))):=by
 have hT:=anQ (uD A c L w hs);have kK:=hs.tL;have nt:=oF L;have hC:=kK.cap;have hL:=hs.pS;unfold mn at nt;generalize iy L=M at *
 obtain⟨m,hm⟩:∃ m,m=M.length:=⟨_,rfl⟩
 rw[<-hm]at hT nt hC;have HM:=anQ hm;clear hm;by_cases h0:m<=n/32
 .go_enter func275,ntmps275;go_wp2_with fail;refine hT.out.mono ?_;rintro e w' ⟨rfl,rfl⟩;go_wp2;go_ret;have:M.drop (n/32)=[]:=eK (by rw[<-HM.out];exact h0);rw[this];exact⟨none,0,rfl,Sl.nil _,iG.refl _⟩
 .obtain ⟨ab,ao,rfl,_,_⟩:=kK.lL (i:=0) (by have:=HM.out;omega);have hK:=kK.drop (n/32);have ub:=anQ (show m-n/32=(M.drop (n/32)).length by rw[fh,HM.out]);have qs:n/32<c:= aD ;have oV:=C5 (m-n/32) aD;have oN:0<m-n/32:= aD ;have qb:m-n/32<=100000000:= aD ;generalize M.drop (n/32)=K at *
  simp only[c9,DS]at hK;have wD:=anQ (J1 (n%32) K);have Md:=anQ (YJ (n%32) K);have Eu:=anQ (FM (n%32) K);generalize qC (n%32) K=T at *
  go_enter func275,ntmps275;go_wp2_with fail;refine hT.out.mono ?_;rintro e w' ⟨rfl,rfl⟩;go_wp2;go_loopw [25] (λi wr=>∃ k:Nat,k<=m-n/32/\i = .int .i64 k/\Rw wr w.heap.size (part T k)/\iG w wr) (λi _=>m-n/32-(intOf i).toNat)
  case atStart=>
   refine⟨0,ch _,rfl,?_,iG.alloc _ _⟩;rw[aic,wD.out,<-ub.out];exact Rw.xR _ _
  case round=>
   obtain⟨k,hk,rfl,hR,hb⟩:=hrel;by_cases iO:k<m-n/32
   .have ud:k<K.length:=by have:=ub.out;omega
    obtain⟨ab',ao',e',_,c1⟩:=(hK.below hb).lL ud;cases e';have hg:=Md.out k ud;have mJ:K[k]<4294967296:=hK.ok.get ud;have HK:=anQ (bD ud);have c3:=hR.cell (aib T k (by have:=wD.out;omega));have c4:=hR.frozen k;by_cases EG:k+1<m-n/32
    .have yL:k+1<K.length:=by have:=ub.out;omega
     obtain⟨ab',ao',e',_,c2⟩:=(hK.below hb).lL yL;cases e';have hy:K.getD (k+1) 0=K[k+1]:=by rw[bu,bD yL];rfl
     rw[hy]at hg;have ph:K[k+1]<4294967296:=hK.ok.get yL;have HG:=anQ hg;clear hg hy;generalize K[k]=x at *
     generalize K[k+1]=y at *
     clear ud yL;go_wp2;go_roundw
     case rel=>
      rw[akR x y (n%32) mJ ph];exact⟨k+1,aD,by go_num,by rw[<-Xd T k _ HG.out];exact hR.set k _,hb.setCell (bp _) _⟩
     case measure=>simp[intOf];omega
    .have hy:K.getD (k+1) 0=0:=by rw[bu,cw (by have:=ub.out;omega)];rfl
     rw[hy]at hg;have HG:=anQ hg;clear hg hy;generalize K[k]=x at *
     clear ud;go_wp2;go_roundw
     case rel=>
      rw[akS x (n%32)];exact⟨k+1,aD,by go_num,by rw[<-Xd T k _ HG.out];exact hR.set k _,hb.setCell (bp _) _⟩
     case measure=>simp[intOf];omega
   .go_wp2;go_ret;obtain rfl:k=m-n/32:= aD ;rw[ub.out,<-wD.out,aia]at hR;have:=hR.sl Eu.out (by have:=wD.out;have:=ub.out;omega);rw[wD.out,<-ub.out]at this;exact⟨_,_,by rw[wD.out,<-ub.out];rfl,this,hb⟩
def akP{L:List Nat}(h:iK L)(n:Nat):iy (qC (n%32) ((iy L).drop (n/32)))=ij (val L/2^n):=by
 rw[rJ (FM _ _),PI h.iy,oG]
def P7(w:World)(A:Option Addr)(n c:Nat):(w.alloc (.cells #[.slice A n c] 26)).cell? ⟨w.heap.size,0,none⟩=some (.slice A n c):=by
 rw[World.cell?_alloc_at _ _ _ _ rfl];rfl
def P8(w:World)(A B:Option Addr)(n c m d:Nat):(w.alloc (.cells #[.slice A n c,.slice B m d] 26)).cell? ⟨w.heap.size,0,none⟩=some (.slice A n c):=by
 rw[World.cell?_alloc_at _ _ _ _ rfl];rfl
def P9(w:World)(A B:Option Addr)(n c m d:Nat):(w.alloc (.cells #[.slice A n c,.slice B m d] 26)).cell? ⟨w.heap.size,1,none⟩=some (.slice B m d):=by
 rw[World.cell?_alloc_at _ _ _ _ rfl];rfl
def WG(A:Option Addr)(c:Nat)(L:List Nat)(n:Nat)(w:World)(hs:Sl w A c L)(hlen:L.length<=256)(hn:n<=65536):
 Calls prog 234 #[.slice A L.length c,.int .i64 n] w (Cf w (ij (val L/2^n)) 0):=by
 have hf:decide (256<L.length)=false:= aR ;have h3:=anQ (akP hs.ok n);have h4:(iy (qC (n%32) ((iy L).drop (n/32)))).length<=256:=by
  have h1:=oF (qC (n%32) ((iy L).drop (n/32)));unfold mn at h1;rw[J1,fh]at h1;have h2:=oF L;unfold mn at h2;omega
 have H1:=anQ (λw (h:Sl w A c L)=>WJ A c L n w h aD hn);generalize qC (n%32) ((iy L).drop (n/32))=T at *
 go_enter func234,ntmps234;go_wp2_with fail;refine(Nz _ A _ c _ false (P7 _ _ _ _) aR).mono ?_;rintro e w' ⟨rfl,rfl⟩;go_wp2_with fail;refine(H1.out _ (hs.alloc _)).mono ?_;rintro e w' ⟨A',c',rfl,mQ,hb⟩;go_wp2_with fail;refine(FF A' c' T _ mQ h4).mono ?_;rintro e w'' ⟨A'',c'',rfl,qu,ns⟩;go_wp2;go_ret2;rw[<-h3.out];exact⟨A'',c'',rfl,qu,(iG.alloc _ _).trans (hb.trans ns)⟩
end Go.Proofs.YtbhhompalmdaiaaGreatDoor
