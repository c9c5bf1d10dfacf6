/- Texts: Nat Kit Ca Pa Pb Pc Pd Pe Pf Pg Ph Pi Pj Pk Pl Pm Pn Po Py Pp. -/
import Derived.Test.YtdgnpeddgdclhaaGreatDoorProg
import Derived.WalkKit
import Derived.BigQuiet
import Derived.WalkSpells
import Derived.WalkLawsBesides
import Derived.Lib.Hide
import Derived.Deep.RegionHeld3
import Derived.Maps.AppendAt
import Derived.Deep.AppendLies
import Derived.Deep.Draws
import Derived.Deep.DeepFit
import Derived.Laws.AppendOwnNone
import Derived.Shelf.Small.Bits
import Derived.Shelf.Spec.TrailingZeros
import Derived.Test.YtdgnpeddgdclhaaGreatDoorCards
import Derived.Test.YtdgnpeddgdclhaaGreatDoorTie
import Derived.ProofKit
import Derived.OpenShut
import Derived.Deep.DeepHandedRow
import Derived.Lib.LaidTab
import Derived.Laws.AppendOwn
import Derived.Laws.MakeOwn
import Derived.Laws.Slices
import Derived.Orders
import Derived.Laws.Build
set_option linter.unusedSimpArgs false
set_option linter.unusedVariables false
set_option maxHeartbeats 4000000
namespace Go.Proofs.YtdgnpeddgdclhaaGreatDoor.Fp
def val:List Nat->Nat
 | []=>0
 | x::l=>x+4294967296*val l
def ay(L:List Nat):Prop:=∀ x,x ∈ L->x<4294967296
theorem ay.nil:ay []:=by intro x h;cases h
theorem ay.cons{x:Nat}{l:List Nat}(hx:x<4294967296)(h:ay l):ay (x::l):=by
 intro y hy;rcases List.mem_cons.1 hy with rfl|hy;exact hx;exact h _ hy
theorem ay.head{x:Nat}{l:List Nat}(h:ay (x::l)):x<4294967296:=h x (by simp)
theorem ay.tail{x:Nat}{l:List Nat}(h:ay (x::l)):ay l:=fun y hy=>h y (by simp[hy])
theorem ay.append{l m:List Nat}(h:ay l)(k:ay m):ay (l++m):=by
 intro x hx;rcases List.mem_append.1 hx with hx|hx;exact h _ hx;exact k _ hx
theorem ay.take{l:List Nat}(h:ay l)(n:Nat):ay (l.take n):=fun x hx=>h x (List.mem_of_mem_take hx)
theorem ay.drop{l:List Nat}(h:ay l)(n:Nat):ay (l.drop n):=fun x hx=>h x (List.mem_of_mem_drop hx)
theorem ay.get{l:List Nat}(h:ay l){i:Nat}(hi:i<l.length):l[i]<4294967296:=h _ (List.getElem_mem hi)
theorem ay.getD{l:List Nat}(h:ay l)(i:Nat):l.getD i 0<4294967296:=by
 rw[List.getD_eq_getElem?_getD];by_cases hi:i<l.length
 .rw [List.getElem?_eq_getElem hi];exact h.get hi
 .rw [List.getElem?_eq_none (by omega)];decide
theorem ay.py(n:Nat):ay (List.replicate n 0):=by
 intro x hx;rw[List.mem_replicate]at hx;rw[hx.2];decide
@[simp] theorem lN:val []=0:=rfl
@[simp] theorem fk (x:Nat) (l:List Nat):val (x::l)=x+4294967296*val l:=rfl
theorem jh(l m:List Nat):val (l++m)=val l+4294967296^l.length*val m:=by
 induction l with
 | nil=>simp
 | cons x l ih =>
  simp only[List.cons_append,fk,ih,List.length_cons,Nat.pow_succ];rw[Nat.mul_add,Nat.mul_comm (4294967296^l.length) 4294967296,Nat.mul_assoc];omega
theorem dR{l:List Nat}(h:ay l):val l<4294967296^l.length:=by
 induction l with
 | nil=>simp
 | cons x l ih =>
  have h1:=h.head;have h2:=ih h.tail;simp only[fk,List.length_cons,Nat.pow_succ];have:val l+1<=4294967296^l.length:=h2;have:=Nat.mul_le_mul_left 4294967296 this;rw[Nat.mul_comm (4294967296^l.length)];omega
theorem mW(n:Nat):val (List.replicate n 0)=0:=by
 induction n with
 | zero=>rfl
 | succ n ih=>simp[List.replicate_succ,ih]
theorem pL(l:List Nat)(n:Nat)(hn:n<=l.length):val l=val (l.take n)+4294967296^n*val (l.drop n):=by
 conv=>lhs;rw[<-List.take_append_drop n l,jh]
 rw[List.length_take,Nat.min_eq_left hn]
theorem mX(l:List Nat)(n:Nat)(hn:n<l.length):val (l.take (n+1))=val (l.take n)+4294967296^n*l[n]:=by
 rw[List.take_succ_eq_append_getElem hn,jh,List.length_take,Nat.min_eq_left (by omega)];simp
theorem Tj{l:List Nat}(h:ay l)(n:Nat):val (l.take n)=val l%4294967296^n:=by
 by_cases hn:n<=l.length
 .rw [pL l n hn,Nat.add_mul_mod_self_left,Nat.mod_eq_of_lt]
  have:=dR (h.take n);rwa[List.length_take,Nat.min_eq_left hn]at this
 .rw [List.take_of_length_le (by omega),Nat.mod_eq_of_lt]
  refine Nat.lt_of_lt_of_le (dR h) (Nat.pow_le_pow_right (by decide) (by omega))
theorem rK{l:List Nat}(h:ay l)(n:Nat):val (l.drop n)=val l/4294967296^n:=by
 by_cases hn:n<=l.length
 .rw [pL l n hn]
  have:=dR (h.take n);rw[List.length_take,Nat.min_eq_left hn]at this;rw[Nat.add_mul_div_left _ _ (Nat.pow_pos (by decide)),Nat.div_eq_of_lt this,Nat.zero_add]
 .rw [List.drop_eq_nil_of_le (by omega),Nat.div_eq_of_lt];rfl
  exact Nat.lt_of_lt_of_le (dR h) (Nat.pow_le_pow_right (by decide) (by omega))
def aw:List Nat->List Nat
 | []=>[]
 | x::l=>match aw l with
  | []=>if x=0 then[]else[x]
  | y::m=>x::y::m
def cN(L:List Nat):Nat:=(aw L).length
theorem Gu(l:List Nat):aw (l++[0])=aw l:=by
 induction l with
 | nil=>rfl
 | cons x l ih=>simp only[List.cons_append,aw,ih]
theorem Gt(l:List Nat)(x:Nat)(hx:x≠0):aw (l++[x])=l++[x]:=by
 induction l with
 | nil=>simp[aw,hx]
 | cons y l ih =>
  simp only[List.cons_append,aw,ih];cases l<;>rfl
theorem uK(L:List Nat):aw L=L.take (cN L):=by
 unfold cN
 induction L with
 | nil=>rfl
 | cons x l ih =>
  simp only[aw];cases h:aw l with
  | nil=>by_cases hx:x=0<;>simp[hx]
  | cons y m =>
   rw[h]at ih;simp only[List.length_cons,List.take_succ_cons];rw[List.length_cons]at ih;rw[<-ih]
theorem eD(L:List Nat):cN L<=L.length:=by
 have h:=congrArg List.length (uK L);rw[List.length_take]at h;unfold cN at h ⊢;omega
theorem eP(L:List Nat):val (aw L)=val L:=by
 induction L with
 | nil=>rfl
 | cons x l ih =>
  simp only[aw];cases h:aw l with
  | nil=>rw[h]at ih;by_cases hx:x=0<;>simp[hx,<-ih]
  | cons y m=>rw[h]at ih;simp only[fk]at ih ⊢;rw[ih]
theorem ay.aw{L:List Nat}(h:ay L):ay (Fp.aw L):=by rw[uK];exact h.take _
def Trim(L:List Nat):Prop:=aw L=L
theorem lM(L:List Nat):Trim (aw L):=by
 unfold Trim
 induction L with
 | nil=>rfl
 | cons x l ih =>
  simp only[aw];cases h:aw l with
  | nil=>by_cases hx:x=0<;>simp[hx,aw]
  | cons y m=>rw[h]at ih;simp only[aw]at ih ⊢;rw[ih]
theorem Trim.nil:Trim []:=rfl
theorem mV(L:List Nat):Trim L↔∀ h:0<L.length,L[L.length-1]≠0:=by
 rcases List.eq_nil_or_concat L with rfl|⟨l,x,rfl⟩
 .simp [Trim,aw]
 .simp only[List.concat_eq_append,List.length_append,List.length_singleton,Nat.add_sub_cancel,List.getElem_concat_length]
  constructor
  .intro h _ hx
   subst hx;have:=congrArg List.length h;rw[Gu]at this;have h2:=eD l;unfold cN at h2;rw[List.length_append]at this;simp at this;omega
  .intro h
   exact Gt l x (h (by omega))
theorem zg(L:List Nat)(n:Nat)(hn:n<L.length)(h0:L[n]=0):cN (L.take (n+1))=cN (L.take n):=by
 unfold cN;rw[List.take_succ_eq_append_getElem hn,h0,Gu]
theorem zf(L:List Nat)(n:Nat)(hn:n<L.length)(h0:L[n]≠0):cN (L.take (n+1))=n+1:=by
 unfold cN;rw[List.take_succ_eq_append_getElem hn,Gt _ _ h0];simp;omega
theorem Trim.vO{x:Nat}{l:List Nat}(h:Trim (x::l)):Trim l:=by
 rw[mV]at h ⊢;intro hl;have:=h (by simp);simp only[List.length_cons,Nat.add_sub_cancel]at this;have e:(x::l)[l.length]'(by simp)=l[l.length-1]:=by
  rw[List.getElem_cons];rw[dif_neg (by omega)]
 rwa[e]at this
theorem Trim.lO{L:List Nat}(h:Trim L)(hl:L≠[]):0<val L:=by
 induction L with
 | nil=>exact absurd rfl hl
 | cons x l ih =>
  simp only[fk];by_cases hl':l=[]
  .subst hl'
   have:=(mV _).1 h (by simp);simp at this;simp;omega
  .have:=ih h.vO hl'
   omega
theorem Trim.ext{L M:List Nat}(hL:Trim L)(hM:Trim M)(kL:ay L)(kM:ay M)(h:val L=val M):L=M:=by
 induction L generalizing M with
 | nil =>
  by_cases hm:M=[]
  .exact hm.symm
  .have:=hM.lO hm;rw[<-h]at this;simp at this
 | cons x l ih =>
  cases M with
  | nil=>have:=hL.lO (by simp);rw[h]at this;simp at this
  | cons y m =>
   simp only[fk]at h;have h1:=kL.head;have h2:=kM.head;have e:x=y:=by omega
   subst e;rw[ih hL.vO hM.vO kL.tail kM.tail (by omega)]
def af(n:Nat):List Nat:=if n=0 then[]else n%4294967296::af (n/4294967296)
termination_by n
decreasing_by exact Nat.div_lt_self (by omega) (by decide)
theorem dP:af 0=[]:=by rw[af];rfl
theorem pe{n:Nat}(h:n≠0):af n=n%4294967296::af (n/4294967296):=by rw[af,if_neg h]
theorem bc(n:Nat):val (af n)=n:=by
 induction n using Nat.strongRecOn with
 | _ n ih =>
  by_cases h:n=0
  .subst h;rw[dP];rfl
  .rw [pe h,fk,ih _ (Nat.div_lt_self (by omega) (by decide))]
   exact Nat.mod_add_div n 4294967296
theorem cA(n:Nat):ay (af n):=by
 induction n using Nat.strongRecOn with
 | _ n ih =>
  by_cases h:n=0
  .subst h;rw[dP];exact ay.nil
  .rw [pe h]
   exact ay.cons (Nat.mod_lt _ (by decide)) (ih _ (Nat.div_lt_self (by omega) (by decide)))
theorem jf(n:Nat):Trim (af n):=by
 induction n using Nat.strongRecOn with
 | _ n ih =>
  by_cases h:n=0
  .subst h;rw[dP];exact Trim.nil
  .rw [pe h]
   have h1:=ih _ (Nat.div_lt_self (by omega) (by decide:1<4294967296));unfold Trim at h1 ⊢;simp only[aw,h1];by_cases h2:n/4294967296=0
   .rw [h2,dP]
    have:n%4294967296≠0:=by omega
    simp[this]
   .rw [pe h2]
theorem fN{L:List Nat}(h:ay L):aw L=af (val L) :=
 Trim.ext (lM L) (jf _) h.aw (cA _) (by rw[eP,bc])
theorem Trim.oL{L:List Nat}(h:Trim L)(k:ay L):L=af (val L):=by
 rw[<-fN k];exact h.symm
theorem Di{n:Nat}:af n=[]↔n=0:=by
 constructor
 .intro h;have:=bc n;rw[h]at this;exact this.symm
 .rintro rfl;exact dP
theorem jy{n k:Nat}(h:n<4294967296^k):(af n).length<=k:=by
 induction k generalizing n with
 | zero=>simp at h;subst h;rw[dP];simp
 | succ k ih =>
  by_cases h0:n=0
  .subst h0;rw[dP];simp
  .rw [pe h0,List.length_cons]
   have:n/4294967296<4294967296^k:=by
    rw[Nat.div_lt_iff_lt_mul (by decide)];rwa[Nat.pow_succ]at h
   have:=ih this;omega
theorem pg{n k:Nat}(h:(af n).length<=k):n<4294967296^k:=by
 have h1:=dR (cA n);rw[bc]at h1;exact Nat.lt_of_lt_of_le h1 (Nat.pow_le_pow_right (by decide) h)
def ak(n:Nat):Nat:=if n=0 then 0 else n.log2+1
theorem gQ:ak 0=0:=rfl
theorem cv{n k:Nat}:ak n<=k↔n<2^k:=by
 unfold ak;by_cases h:n=0
 .subst h;simp[Nat.pow_pos]
 .rw [if_neg h,<-Nat.log2_lt h];omega
theorem jz{n k:Nat}:k<ak n↔2^k<=n:=by
 have:=@cv n k;omega
theorem kR{n k:Nat}(h1:2^k<=n)(h2:n<2^(k+1)):ak n=k+1:=by
 have a:=jz.2 h1;have b:=cv.2 h2;omega
theorem gi(n:Nat):n<2^ak n:=cv.1 (Nat.le_refl _)
theorem iq{n:Nat}(h:n≠0):2^(ak n-1)<=n:=by
 have:ak n-1<ak n:=by
  have:ak n≠0:=by unfold ak;simp[h]
  omega
 exact jz.1 this
theorem dX{n:Nat}(h:n≠0):0<ak n:=by unfold ak;simp[h]
theorem jN{m n:Nat}(h:m<=n):ak m<=ak n:=cv.2 (Nat.lt_of_le_of_lt h (gi n))
theorem fu{n:Nat}(h:n≠0)(k:Nat):ak (n*2^k)=ak n+k:=by
 have h1:=gi n;have h2:=iq h;have h3:=dX h;have e:ak n+k=(ak n-1+k)+1:=by omega
 rw[e];apply kR
 .rw [Nat.pow_add];exact Nat.mul_le_mul_right _ h2
 .rw [<-e,Nat.pow_add];exact Nat.mul_lt_mul_of_pos_right h1 (Nat.pow_pos (by decide))
theorem gG(k:Nat):(4294967296:Nat)^k=2^(32*k):=by
 rw[Nat.pow_mul]
theorem IU{l:List Nat}{x:Nat}(h:ay (l++[x]))(hx:x≠0):ak (val (l++[x]))=32*l.length+ak x:=by
 rw[jh];simp only[fk,lN,Nat.mul_zero,Nat.add_zero];have hl:val l<4294967296^l.length:=dR (fun y hy=>h y (by simp[hy]));rw[gG]at hl ⊢;have h1:=gi x;have h2:=iq hx;have h3:=dX hx;have e:32*l.length+ak x=(32*l.length+(ak x-1))+1:=by omega
 rw[e];apply kR
 .rw [Nat.pow_add]
  have:=Nat.mul_le_mul_left (2^(32*l.length)) h2;omega
 .rw [<-e,Nat.pow_add]
  have:=Nat.mul_le_mul_left (2^(32*l.length)) (show x+1<=2^ak x from h1);rw[Nat.mul_add]at this;omega
def bH(a b:Nat):Int:=if a<b then -1 else if b<a then 1 else 0
theorem uP{L M:List Nat}(kL:ay L)(hM:Trim M)(h:L.length<M.length):val L<val M:=by
 rcases List.eq_nil_or_concat M with rfl|⟨m,x,rfl⟩
 .simp at h
 .simp only[List.concat_eq_append,List.length_append,List.length_singleton]at h hM ⊢
  have hx:x≠0:=by
   have:=(mV _).1 hM (by simp);simpa using this
  have h1:=dR kL;rw[jh];have h2:(4294967296:Nat)^L.length<=4294967296^m.length:=Nat.pow_le_pow_right (by decide) (by omega);have h3:(4294967296:Nat)^m.length*1<=4294967296^m.length*val [x]:=Nat.mul_le_mul_left _ (by simp;omega);omega
theorem Tf{L M:List Nat}(kL:ay L)(i:Nat)(hi:i<L.length)(hlen:L.length=M.length)(htop:L.drop (i+1)=M.drop (i+1))(hlt:L[i]<M[i]'(by omega)):val L<val M:=by
 rw[pL L (i+1) (by omega),pL M (i+1) (by omega),htop,mX L i hi,mX M i (by omega)];have h1:=dR (kL.take i);rw[List.length_take,Nat.min_eq_left (by omega)]at h1;have h2:=Nat.mul_le_mul_left (4294967296^i) (show L[i]+1<=M[i]'(by omega)from hlt);rw[Nat.mul_add]at h2;omega
theorem Th(L:List Nat)(k:Nat)(h:ay L):val (L.drop k)=val L/2^(32*k):=by
 rw[rK h,gG]
def fj(s:Nat):List Nat->List Nat
 | []=>[]
 | x::l=>((x+4294967296*l.getD 0 0)/2^s)%4294967296::fj s l
theorem uB(s:Nat)(L:List Nat):(fj s L).length=L.length:=by
 induction L with
 | nil=>rfl
 | cons x l ih=>simp[fj,ih]
theorem FQ(s:Nat)(L:List Nat)(i:Nat)(h:i<L.length):(fj s L)[i]? = some (((L[i]+4294967296*L.getD (i+1) 0)/2^s)%4294967296):=by
 induction L generalizing i with
 | nil=>simp at h
 | cons x l ih =>
  cases i with
  | zero=>simp[fj]
  | succ i =>
   simp only[List.length_cons]at h;simp only[fj,List.getElem?_cons_succ,ih i (by omega),List.getElem_cons_succ];congr 1
theorem mF(s:Nat)(L:List Nat):ay (fj s L):=by
 induction L with
 | nil=>exact ay.nil
 | cons x l ih=>exact ay.cons (Nat.mod_lt _ (by decide)) ih
theorem Ti{L:List Nat}(h:ay L)(s:Nat)(hs:s<32):val (fj s L)=val L/2^s:=by
 induction L with
 | nil=>simp[fj]
 | cons x l ih =>
  have e:32=s+(32-s):=by omega
  have e2:(4294967296:Nat)=2^s*2^(32-s):=by rw[<-Nat.pow_add,<-e]
  have hp:0<2^s:=Nat.pow_pos (by decide);have hx:=h.head;simp only[fj,fk,ih h.tail];generalize hv:val l=v;have hh:l.getD 0 0=v%4294967296:=by
   rw[<-hv];cases l with
   | nil=>simp
   | cons y m =>
    have:=h.tail.head;simp[fk];omega
  rw[hh];have f1:(x+4294967296*(v%4294967296))/2^s=x/2^s+2^(32-s)*(v%4294967296):=by
   rw[show x+4294967296*(v%4294967296)=x+2^s*(2^(32-s)*(v%4294967296))by rw[<-Nat.mul_assoc,<-e2],Nat.add_mul_div_left _ _ hp]
  have f2:(x+4294967296*v)/2^s=x/2^s+2^(32-s)*v:=by
   rw[show x+4294967296*v=x+2^s*(2^(32-s)*v)by rw[<-Nat.mul_assoc,<-e2],Nat.add_mul_div_left _ _ hp]
  rw[f1,f2];have hxs:x/2^s<2^(32-s):=by
   rw[Nat.div_lt_iff_lt_mul hp,Nat.mul_comm,<-e2];exact hx
  generalize x/2^s=q at hxs ⊢;have g1:(4294967296:Nat)=2^(32-s)*2^s:=by rw[Nat.mul_comm];exact e2
  have g2:v=2^s*(v/2^s)+v%2^s:=(Nat.div_add_mod v (2^s)).symm;have g3:(q+2^(32-s)*(v%4294967296))%4294967296=q+2^(32-s)*(v%2^s):=by
   have k1:v%4294967296%2^s=v%2^s:=by
    rw[e2,Nat.mod_mul_right_mod]
   have k2:(v%4294967296)=2^s*(v%4294967296/2^s)+v%2^s:=by
    rw[<-k1];exact(Nat.div_add_mod _ _).symm
   conv=>lhs;rw[k2]
   rw[Nat.mul_add,<-Nat.mul_assoc,<-g1];rw[show q+(4294967296*(v%4294967296/2^s)+2^(32-s)*(v%2^s))=(q+2^(32-s)*(v%2^s))+4294967296*(v%4294967296/2^s)by omega,Nat.add_mul_mod_self_left];apply Nat.mod_eq_of_lt;have:v%2^s+1<=2^s:=Nat.mod_lt _ hp;have:=Nat.mul_le_mul_left (2^(32-s)) this;rw[<-g1,Nat.mul_add]at this;omega
  rw[g3]
  conv=>rhs;rw[g2,Nat.mul_add,<-Nat.mul_assoc,<-g1]
  omega
theorem uQ{L:List Nat}(h:ay L)(n:Nat):val (fj (n%32) (L.drop (n/32)))=val L/2^n:=by
 rw[Ti (h.drop _) _ (Nat.mod_lt _ (by decide)),Th _ _ h,Nat.div_div_eq_div_mul,<-Nat.pow_add];congr 2;omega
theorem yQ{out a:List Nat}{i c s n0:Nat}(hi:i<a.length)(hlen:out.length=n0+i)
  (h:val out+4294967296^(n0+i)*c=val (a.take i)*2^s*4294967296^n0) :
  val (out++[(a[i]*2^s+c)%4294967296])+4294967296^(n0+(i+1))*((a[i]*2^s+c)/4294967296)=val (a.take (i+1))*2^s*4294967296^n0:=by
 rw[jh,mX a i hi,hlen];simp only[fk,lN,Nat.mul_zero,Nat.add_zero];generalize hx:a[i]*2^s+c=x;have e:=Nat.mod_add_div x 4294967296;have p:4294967296^(n0+(i+1))=4294967296^(n0+i)*4294967296:=by rw[<-Nat.add_assoc,Nat.pow_succ]
 rw[p,Nat.add_assoc,Nat.mul_assoc (4294967296^(n0+i)),<-Nat.mul_add,e,<-hx,Nat.mul_add,<-Nat.add_assoc,Nat.add_right_comm,h,Nat.add_mul,Nat.add_mul];congr 1;rw[Nat.pow_add]
 ac_rfl
theorem jJ(b:List Nat)(i:Nat):val (b.take (i+1))=val (b.take i)+4294967296^i*b.getD i 0:=by
 by_cases hi:i<b.length
 .rw [mX b i hi,List.getD_eq_getElem?_getD,List.getElem?_eq_getElem hi];rfl
 .rw [List.take_of_length_le (by omega),List.take_of_length_le (by omega),List.getD_eq_getElem?_getD,List.getElem?_eq_none (by omega)];simp
theorem T4{out a b:List Nat}{i c y d c':Nat}(hi:i<a.length)(hlen:out.length=i)
  (hb:val (b.take (i+1))=val (b.take i)+4294967296^i*y)
  (hd:d+y+c=a[i]+4294967296*c')
  (h:val out+val (b.take i)=val (a.take i)+4294967296^i*c) :
  val (out++[d])+val (b.take (i+1))=val (a.take (i+1))+4294967296^(i+1)*c':=by
 rw[jh,mX a i hi,hb,hlen];simp only[fk,lN,Nat.mul_zero,Nat.add_zero];have e:=congrArg (4294967296^i * ·) hd;simp only[Nat.mul_add,<-Nat.mul_assoc]at e;rw[Nat.pow_succ];omega
def aY(n:Nat):Nat:=if n=0 then 0 else(Nat.gcd n (2^(Nat.log2 n+1))).log2
theorem vP{m:Nat}(hm:m%2=1)(k:Nat):aY (m*2^k)=k:=by
 have h0:m*2^k≠0:=Nat.mul_ne_zero (by omega) (Nat.ne_of_gt (Nat.pow_pos (by decide)));unfold aY;rw[if_neg h0];have hk:k<=Nat.log2 (m*2^k):=by
  apply Classical.byContradiction;intro h;have h1:m*2^k<2^k:=(Nat.log2_lt h0).1 (by omega);have:1*2^k<=m*2^k:=Nat.mul_le_mul_right _ (by omega);omega
 obtain⟨j,hj⟩:∃ j,Nat.log2 (m*2^k)+1=j+k:=⟨Nat.log2 (m*2^k)+1-k,by omega⟩
 rw[hj,Nat.pow_add,Nat.gcd_mul_right];have hg:Nat.gcd m (2^j)=1:=by
  have hc:Nat.Coprime m 2:=by
   unfold Nat.Coprime;rw[Nat.gcd_comm,Nat.gcd_rec,hm];rfl
  exact Nat.Coprime.pow_right j hc
 rw[hg,Nat.one_mul,Nat.log2_two_pow]
theorem vQ{n:Nat}(h:n%2=1):aY n=0:=by have:=vP h 0;simpa using this
theorem S4{n:Nat}(h:n≠0):∃ m k,m%2=1/\n=m*2^k:=by
 induction n using Nat.strongRecOn with
 | _ n ih =>
  by_cases h2:n%2=1
  .exact ⟨n,0,h2,by simp⟩
  .obtain ⟨m,k,hm,he⟩:=ih (n/2) (by omega) (by omega)
   exact⟨m,k+1,hm,by rw[Nat.pow_succ,<-Nat.mul_assoc,<-he];omega⟩
theorem Bz{n:Nat}(h:n≠0)(h2:n%2=0):aY n=aY (n/2)+1:=by
 obtain⟨m,k,hm,he⟩:=S4 (n:=n/2) (by omega);have e:n=m*2^(k+1):=by rw[Nat.pow_succ,<-Nat.mul_assoc,<-he];omega
 rw[he,vP hm]
 conv=>lhs;rw[e]
 exact vP hm _
theorem nj{n:Nat}(h:n≠0):∃ m,m%2=1/\n=m*2^aY n:=by
 induction n using Nat.strongRecOn with
 | _ n ih =>
  by_cases h2:n%2=1
  .exact ⟨n,h2,by rw[vQ h2];omega⟩
  .obtain ⟨m,hm,he⟩:=ih (n/2) (by omega) (by omega)
   refine⟨m,hm,?_⟩;rw[Bz h (by omega),Nat.pow_succ,<-Nat.mul_assoc,<-he];omega
theorem kW{m:Nat}(hm:m%2=1)(k:Nat):aY (m*2^k)=k:=by
 induction k with
 | zero=>rw[Nat.pow_zero,Nat.mul_one,vQ hm]
 | succ k ih =>
  have hp:0<m*2^k:=Nat.mul_pos (by omega) (Nat.pow_pos (by decide));have e:m*2^(k+1)=m*2^k*2:=by rw[Nat.pow_succ,Nat.mul_assoc]
  rw[e,Bz (by omega) (by omega),Nat.mul_div_cancel _ (by decide),ih]
theorem pk{n:Nat}(h:n≠0):(n/2^aY n)%2=1:=by
 obtain⟨m,hm,he⟩:=nj h;have:n/2^aY n=m:=by conv=>lhs;rw[he,kW hm];rw[Nat.mul_div_cancel _ (Nat.pow_pos (by decide))]
 rw[this];exact hm
theorem qk{n:Nat}(h:n≠0):(n/2^aY n)*2^aY n=n:=by
 obtain⟨m,hm,he⟩:=nj h;have:n/2^aY n=m:=by conv=>lhs;rw[he,kW hm];rw[Nat.mul_div_cancel _ (Nat.pow_pos (by decide))]
 rw[this];exact he.symm
theorem q7{n:Nat}(h:n≠0):2^aY n<=n:=by
 obtain⟨m,hm,he⟩:=nj h
 conv=>rhs;rw[he]
 exact Nat.le_mul_of_pos_left _ (by omega)
theorem Kl{x v:Nat}(hx:x≠0)(hlt:x<4294967296):aY (x+4294967296*v)=aY x:=by
 obtain⟨m,hm,he⟩:=nj hx;have hk:aY x<32:=by
  have h1:=q7 hx;rcases Nat.lt_or_ge (aY x) 32 with h|h
  .exact h
  .have:=Nat.pow_le_pow_right (n:=2) (by decide) h
   have e:(2:Nat)^32=4294967296:=by decide
   omega
 have e:x+4294967296*v=(m+2^(32-aY x)*v)*2^aY x:=by
  rw[Nat.add_mul,<-he,Nat.mul_right_comm,<-Nat.pow_add,Nat.sub_add_cancel (by omega)]
 conv=>lhs;rw[e]
 apply kW;have:2^(32-aY x)=2*2^(31-aY x):=by rw[show 32-aY x=(31-aY x)+1 by omega,Nat.pow_succ,Nat.mul_comm]
 rw[this,Nat.mul_assoc,Nat.add_mul_mod_self_left];exact hm
theorem Km{v:Nat}(hv:v≠0)(k:Nat):aY (2^k*v)=k+aY v:=by
 obtain⟨m,hm,he⟩:=nj hv
 conv=>lhs;rw[he,<-Nat.mul_assoc,Nat.mul_comm (2^k),Nat.mul_assoc,<-Nat.pow_add]
 exact kW hm _
theorem val_eq_zero_iff{L:List Nat}:val L=0↔∀ x,x ∈ L->x=0:=by
 induction L with
 | nil=>simp
 | cons x l ih =>
  simp only[fk,List.mem_cons];constructor
  .intro h y hy
   rcases hy with rfl|hy
   .omega
   .exact ih.1 (by omega) y hy
  .intro h
   have h1:=h x (.inl rfl);have h2:=ih.2 (fun y hy=>h y (.inr hy));omega
theorem Kn{L:List Nat}(h:ay L)(i:Nat)(hi:i<L.length)(h0:∀ j,(hj:j<i)->L[j]=0)(hx:L[i]≠0):aY (val L)=32*i+aY L[i]:=by
 rw[pL L i (by omega)];have:val (L.take i)=0:=by
  rw[val_eq_zero_iff];intro y hy;obtain⟨j,hj,rfl⟩:=List.getElem_of_mem hy;rw[List.length_take]at hj;rw[List.getElem_take];exact h0 j (by omega)
 rw[this,Nat.zero_add,gG,List.drop_eq_getElem_cons hi,fk];rw[Km (by omega),Kl hx (h.get hi)]
theorem zo{L:List Nat}{k x:Nat}(hk:k<L.length):val (L.set k x)+4294967296^k*L[k]=val L+4294967296^k*x:=by
 induction L generalizing k with
 | nil=>simp at hk
 | cons y l ih =>
  cases k with
  | zero=>simp;omega
  | succ k =>
   simp only[List.length_cons]at hk;have:=ih (k:=k) (by omega);simp only[List.set_cons_succ,fk,List.getElem_cons_succ,Nat.pow_succ];have e1:(4294967296^k*4294967296*l[k])=4294967296*(4294967296^k*l[k]):=by ac_rfl
   have e2:(4294967296^k*4294967296*x)=4294967296*(4294967296^k*x):=by ac_rfl
   rw[e1,e2];omega
theorem ay.set{L:List Nat}(h:ay L)(k:Nat){x:Nat}(hx:x<4294967296):ay (L.set k x):=by
 intro y hy;rcases List.mem_or_eq_of_mem_set hy with hy|rfl
 .exact h _ hy
 .exact hx
structure Dy where
 neg:Bool
 m:Nat
 e:Int
def Dy.Canon(d:Dy):Prop:=(d.m=0/\d.neg=false/\d.e=0)\/d.m%2=1
def canon(neg:Bool)(m:Nat)(e:Int):Dy:=if m=0 then⟨false,0,0⟩else⟨neg,m/2^aY m,e+aY m⟩
theorem gY(neg:Bool)(m:Nat)(e:Int):(canon neg m e).Canon:=by
 unfold canon;split
 .exact .inl ⟨rfl,rfl,rfl⟩
 .rename_i h;exact .inr (pk h)
theorem Dy.Canon.oD{d:Dy}(h:d.Canon):canon d.neg d.m d.e=d:=by
 obtain⟨s,m,e⟩:=d;rcases h with⟨h1,h2,h3⟩|h
 .simp only at h1 h2 h3;subst h1 h2 h3;rfl
 .simp only at h ⊢
  unfold canon;rw[if_neg (by omega),vQ h];simp
def cY(d:Dy):Prop:=d.m=0\/ak d.m<=4096 /\ -16384<=d.e/\d.e<=16384/\(ak d.m:Int)+d.e<=16384
instance (d:Dy):Decidable (cY d):=by unfold cY;infer_instance
structure Dy.Valid(d:Dy):Prop where
 canon:d.Canon
 range:cY d
def aT:Dy:=⟨false,0,0⟩
theorem gL:aT.Valid:=⟨.inl ⟨rfl,rfl,rfl⟩,.inl rfl⟩
def Dy.sign(d:Dy):Int:=if d.m=0 then 0 else if d.neg then -1 else 1
def Dy.top(d:Dy):Int:=if d.m=0 then 0 else ak d.m+d.e
def Dy.aZ(d:Dy)(e:Int):Nat:=d.m*2^(d.e-e).toNat
def Dy.num(d:Dy)(e:Int):Int:=if d.neg then -(d.aZ e:Int)else d.aZ e
def aD(a b:Dy):Int :=
 if a.num (min a.e b.e)<b.num (min a.e b.e)then -1 else if b.num (min a.e b.e)<a.num (min a.e b.e)then 1 else 0
theorem kB{d:Dy}(h:d.m≠0)(e:Int):0<d.aZ e:=Nat.mul_pos (by omega) (Nat.pow_pos (by decide))
theorem DA{d:Dy}(h:d.m=0)(e:Int):d.aZ e=0:=by unfold Dy.aZ;rw[h,Nat.zero_mul]
theorem sB{d:Dy}(h:d.m≠0){e:Int}(he:e<=d.e):(ak (d.aZ e):Int)=ak d.m+d.e-e:=by
 unfold Dy.aZ;rw[fu h];omega
theorem Dz{a b:Dy}(ha:a.m≠0)(hb:b.m≠0){e:Int}(h1:e<=a.e)(h2:e<=b.e)(h:a.top<b.top):a.aZ e<b.aZ e:=by
 have k1:=sB ha h1;have k2:=sB hb h2;unfold Dy.top at h;rw[if_neg ha,if_neg hb]at h;rcases Nat.lt_or_ge (a.aZ e) (b.aZ e)with h'|h'
 .exact h'
 .have:=jN h';omega
def gZ(a b:Dy):Int:=bH (a.aZ (min a.e b.e)) (b.aZ (min a.e b.e))
theorem Bs{a b:Dy}(ha:a.m≠0)(hb:b.m≠0)(h:a.top<b.top):gZ a b = -1:=by
 unfold gZ bH;rw[if_pos (Dz ha hb (Int.min_le_left _ _) (Int.min_le_right _ _) h)]
theorem Br{a b:Dy}(ha:a.m≠0)(hb:b.m≠0)(h:b.top<a.top):gZ a b=1:=by
 have:=Dz hb ha (Int.min_le_right a.e b.e) (Int.min_le_left _ _) h;unfold gZ bH;rw[if_neg (by omega),if_pos this]
theorem pE(d:Dy):(d.m=0/\d.sign=0)\/(d.m≠0/\d.neg=true/\d.sign = -1)\/(d.m≠0/\d.neg=false/\d.sign=1):=by
 unfold Dy.sign;by_cases h:d.m=0
 .exact .inl ⟨h,if_pos h⟩
 .cases hn:d.neg
  .exact .inr (.inr ⟨h,rfl,by simp[h]⟩)
  .exact .inr (.inl ⟨h,rfl,by simp[h]⟩)
theorem Ef{d:Dy}(e:Int):(d.sign=0->d.num e=0)/\(d.sign = -1->d.num e<0/\d.num e = -(d.aZ e))/\(d.sign=1->0<d.num e/\d.num e=d.aZ e):=by
 unfold Dy.num;rcases pE d with⟨h1,h2⟩|⟨h1,h2,h3⟩|⟨h1,h2,h3⟩
 .rw [h2,DA h1];simp
 .have:=kB h1 e;rw[h3,h2];simp;omega
 .have:=kB h1 e;rw[h3,h2];simp;omega
theorem oG(a b:Dy):aD a b=if a.sign<b.sign then -1 else if b.sign<a.sign then 1 else if a.sign=0 then 0 else a.sign*gZ a b:=by
 unfold aD gZ bH;generalize min a.e b.e=e;obtain⟨p1,p2,p3⟩:=Ef (d:=a) e;obtain⟨q1,q2,q3⟩:=Ef (d:=b) e;generalize a.num e=x at *
 generalize b.num e=y at *
 generalize a.aZ e=x' at *
 generalize b.aZ e=y' at *
 have ha:a.sign=0\/a.sign = -1\/a.sign=1:=by rcases pE a with⟨_,h⟩|⟨_,_,h⟩|⟨_,_,h⟩<;>simp[h]
 have hb:b.sign=0\/b.sign = -1\/b.sign=1:=by rcases pE b with⟨_,h⟩|⟨_,_,h⟩|⟨_,_,h⟩<;>simp[h]
 generalize a.sign=s at *
 generalize b.sign=t at *
 rcases ha with rfl|rfl|rfl<;>rcases hb with rfl|rfl|rfl<;>simp at p1 p2 p3 q1 q2 q3<;>(repeat' split)<;>omega
def bS(z:Int)(e:Int):Dy:=canon (decide (z<0)) z.natAbs e
def av(a b:Dy):Dy :=
 if a.m=0 then b else if b.m=0 then a else bS (a.num (min a.e b.e)+b.num (min a.e b.e)) (min a.e b.e)
def aC(d:Dy):Dy:=⟨!d.neg&&decide (d.m≠0),d.m,d.e⟩
theorem xD{d:Dy}(h:d.Canon):(aC d).Canon:=by
 rcases h with⟨h1,h2,h3⟩|h
 .exact .inl ⟨h1,by simp[aC,h1],h3⟩
 .exact .inr h
theorem kC{d:Dy}(h:d.Valid):(aC d).Valid:=⟨xD h.canon,h.range⟩
theorem R1(n:Bool)(m:Nat)(e:Int):(canon n m e).sign=if m=0 then 0 else if n then -1 else 1:=by
 unfold canon;by_cases h:m=0
 .simp [h,Dy.sign]
 .have:(canon n m e).m≠0:=by unfold canon;rw[if_neg h];have:=pk h;simp only;omega
  unfold canon at this;rw[if_neg h]at this ⊢;unfold Dy.sign;rw[if_neg this,if_neg h]
theorem R2(z e:Int):(bS z e).sign=if z<0 then -1 else if 0<z then 1 else 0:=by
 unfold bS;rw[R1];by_cases h:z<0
 .rw [if_neg (by omega),if_pos h];simp[h]
 .rw [if_neg h]
  by_cases h0:0<z
  .rw [if_neg (by omega),if_pos h0];simp[h]
  .rw [if_neg h0,if_pos (by omega)]
theorem Ee(d:Dy)(e:Int)(hd:d.m≠0):(aC d).num e = -(d.num e):=by
 unfold Dy.num aC Dy.aZ;cases d.neg<;>simp[hd]
theorem Kd{a b:Dy}(ha:a.m≠0)(hb:b.m≠0):(av a (aC b)).sign=aD a b:=by
 unfold av;rw[if_neg ha,if_neg (by simpa[aC]using hb),R2];have e1:(aC b).e=b.e:=rfl;rw[e1,Ee _ _ hb];unfold aD;generalize a.num _=x;generalize b.num _=y
 repeat' split
 all_goals omega
theorem Kf{a b:Dy}(ha:a.m≠0)(hb:b.m≠0)(hs:a.sign=b.sign)(h:a.top<b.top):aD a b = -a.sign:=by
 rw[oG,if_neg (by omega),if_neg (by omega),Bs ha hb h];split<;>omega
theorem Ke{a b:Dy}(ha:a.m≠0)(hb:b.m≠0)(hs:a.sign=b.sign)(h:b.top<a.top):aD a b=a.sign:=by
 rw[oG,if_neg (by omega),if_neg (by omega),Br ha hb h];split<;>omega
theorem oH(a b:Dy):aD a b=if a.sign≠b.sign then(if a.sign<b.sign then -1 else 1)else if a.sign=0 then 0 else
  if a.top≠b.top then(if(a.top<b.top)=(0<a.sign)then -1 else 1)else(av a (aC b)).sign:=by
 by_cases hs:a.sign=b.sign
 .rw [if_neg (by simpa using hs)]
  by_cases h0:a.sign=0
  .rw [if_pos h0,oG,if_neg (by omega),if_neg (by omega),if_pos h0]
  .rw [if_neg h0]
   have ha:a.m≠0:=by intro h;exact h0 (by unfold Dy.sign;rw[if_pos h])
   have hb:b.m≠0:=by intro h;exact h0 (by rw[hs];unfold Dy.sign;rw[if_pos h])
   have hc:a.sign = -1\/a.sign=1:=by rcases pE a with⟨_,h⟩|⟨_,_,h⟩|⟨_,_,h⟩<;>simp_all
   by_cases ht:a.top=b.top
   .rw [if_neg (by simpa using ht),Kd ha hb]
   .rw [if_pos (by simpa using ht)]
    rcases Int.lt_or_gt_of_ne ht with h|h
    .rw [Kf ha hb hs h];rcases hc with h'|h'<;>rw[h']<;>simp[h]
    .rw [Ke ha hb hs h];rcases hc with h'|h'<;>rw[h']<;>simp[show ¬a.top<b.top by omega]
 .rw [if_pos (by simpa using hs),oG]
  by_cases h:a.sign<b.sign
  .rw [if_pos h,if_pos h]
  .rw [if_neg h,if_neg h,if_pos (by omega)]
theorem Hl{out:List Nat}{k c x y P Q P' Q':Nat}(hlen:out.length=k)(h:val out+4294967296^k*c=P+Q)
  (hP:P'=P+4294967296^k*x) (hQ:Q'=Q+4294967296^k*y) :
  val (out++[(c+x+y)%4294967296])+4294967296^(k+1)*((c+x+y)/4294967296)=P'+Q':=by
 rw[jh,hlen,hP,hQ];simp only[fk,lN,Nat.mul_zero,Nat.add_zero];generalize hx:c+x+y=z;have e:=Nat.mod_add_div z 4294967296;rw[Nat.pow_succ,Nat.add_assoc,Nat.mul_assoc,<-Nat.mul_add,e,<-hx,Nat.mul_add,Nat.mul_add];omega
theorem Sm{out:List Nat}{k c x y d c' P Q P' Q':Nat}(hlen:out.length=k)(h:val out+Q=P+4294967296^k*c)
  (hP:P'=P+4294967296^k*x) (hQ:Q'=Q+4294967296^k*y) (hd:d+y+c=x+4294967296*c') :
  val (out++[d])+Q'=P'+4294967296^(k+1)*c':=by
 rw[jh,hlen,hP,hQ];simp only[fk,lN,Nat.mul_zero,Nat.add_zero];have e:=congrArg (4294967296^k * ·) hd;simp only[Nat.mul_add,<-Nat.mul_assoc]at e;rw[Nat.pow_succ];omega
theorem F4{out:List Nat}{n c P Q:Nat}(ho:ay out)(hlen:out.length=n)(h:val out+Q=P+4294967296^n*c)(hle:Q<=P):c=0/\val out=P-Q:=by
 have h1:=dR ho;rw[hlen]at h1;rcases c with _|c
 .exact ⟨rfl,by omega⟩
 .exfalso
  have:4294967296^n*1<=4294967296^n*(c+1):=Nat.mul_le_mul_left _ (by omega);omega
theorem IN{L:List Nat}(h:ay L)(k:Nat)(hk:k/32<L.length):val L/2^k%2=L[k/32]/2^(k%32)%2:=by
 have e:k=32*(k/32)+k%32:=by omega
 conv=>lhs;rw[e,Nat.pow_add,<-Nat.div_div_eq_div_mul,<-gG,<-rK h,List.drop_eq_getElem_cons hk,fk]
 have hs:k%32<32:=Nat.mod_lt _ (by decide);have e2:(4294967296:Nat)=2^(k%32)*(2*2^(31-k%32)):=by
  rw[<-Nat.pow_succ',<-Nat.pow_add,show k%32+(31-k%32).succ=32 by omega]
 conv=>lhs;rw[e2,Nat.mul_assoc,Nat.add_mul_div_left _ _ (Nat.pow_pos (by decide)),Nat.mul_assoc,Nat.add_mul_mod_self_left]
theorem IM{n k:Nat}(h:n≠0)(hk:k<aY n):n/2^k%2=0:=by
 obtain⟨m,hm,he⟩:=nj h;generalize aY n=c at *
 rw[he,show c=k+(c-k)by omega,Nat.pow_add,<-Nat.mul_assoc,Nat.mul_right_comm,Nat.mul_div_cancel _ (Nat.pow_pos (by decide)),show c-k=(c-k-1)+1 by omega,Nat.pow_succ,<-Nat.mul_assoc,Nat.mul_mod_left]
theorem IL{n:Nat}(h:n≠0):n/2^aY n%2=1:=pk h
theorem qc{L:List Nat}(h:ay L)(h0:val L≠0):aY (val L)/32<L.length:=by
 have h1:=q7 h0;have h2:=dR h;rw[gG]at h2;have h3:2^aY (val L)<2^(32*L.length):=Nat.lt_of_le_of_lt h1 h2;have:=(Nat.pow_lt_pow_iff_right (by decide:1<2)).1 h3;omega
end Go.Proofs.YtdgnpeddgdclhaaGreatDoor.Fp
namespace Go.Proofs.YtdgnpeddgdclhaaGreatDoor
open Go.RowKit Fp
structure Sl(w:World)(A:Option Addr)(c:Nat)(L:List Nat):Prop where
 cap:L.length<=c
 fz:c<=9223372036854775807
 ok:ay L
 none_:A=none->c=0
 cell:∀ (i x:Nat),L[i]? = some x->∃ b o,A=some ⟨b,o,none⟩/\b<w.heap.size/\w.cell? ⟨b,o+i,none⟩=some (.int .u32 (x:Int))
theorem IX(a:Addr)(n:Nat):(a.add n).block=a.block:=by unfold Addr.add;split<;>rfl
section
variable {w w':World} {A:Option Addr} {c:Nat} {L:List Nat}
theorem Sl.at_(h:Sl w A c L){i:Nat}(hi:i<L.length):∃ b o,A=some ⟨b,o,none⟩/\b<w.heap.size/\w.cell? ⟨b,o+i,none⟩=some (.int .u32 (L[i]:Int)) :=
 h.cell i _ (List.getElem?_eq_getElem hi)
theorem Sl.nil(w:World):Sl w none 0 []:=⟨Nat.le_refl _,by decide,ay.nil,fun _=>rfl,fun i x h=>by simp at h⟩
theorem Sl.below(h:Sl w A c L)(hb:Below w.heap.size w w'):Sl w' A c L :=
 ⟨h.cap,h.fz,h.ok,h.none_,fun i x hx=>by
  obtain⟨b,o,e,h1,h2⟩:=h.cell i x hx;exact⟨b,o,e,Nat.lt_of_lt_of_le h1 hb.size,(hb.cell h1).trans h2⟩⟩
theorem Sl.alloc(h:Sl w A c L)(o:Obj):Sl (w.alloc o) A c L:=h.below ((Below.refl _ _).alloc (Nat.le_refl _) _)
theorem Sl.drew(h:Sl w A c L):Sl w.drew A c L:=h.below ((Below.refl _ _).drew)
theorem Sl.take(h:Sl w A c L)(n:Nat):Sl w A c (L.take n) :=
 ⟨by have:=h.cap;rw[List.length_take];omega,h.fz,h.ok.take n,h.none_,fun i x hx=>h.cell i x (by
  rw[List.getElem?_take]at hx;split at hx
  .exact hx
  .cases hx)⟩
theorem Sl.len(h:Sl w A c L):L.length<=9223372036854775807:=Nat.le_trans h.cap h.fz
theorem Sl.eqv{L':List Nat}(h:Sl w A c L)(e:L=L'):Sl w A c L':=e▸h
end
theorem na(b o i:Nat):(⟨b,o,none⟩:Addr).add i=⟨b,o+i,none⟩:=by
 unfold Addr.add;split
 .rename_i h0;rw[h0];rfl
 .simp
abbrev Ext(w w':World):Prop:=Below w.heap.size w w'
theorem Ext.trans{a b c:World}(h:Ext a b)(k:Ext b c):Ext a c:=Below.trans h (k.mono h.size)
theorem Ext.alloc(w:World)(o:Obj):Ext w (w.alloc o):=(Below.refl _ _).alloc (Nat.le_refl _) _
theorem Ext.drew(w:World):Ext w w.drew:=(Below.refl _ _).drew
theorem Ext.refl(w:World):Ext w w:=Below.refl _ _
theorem uq{A:Option Addr}{n m c:Nat}(h:n=m):Ending.returned (.slice A n c) = .returned (.slice A m c):=by rw[h]
theorem dU{k:IntKind}{a b:Int}(h:a=b):Ending.returned (.int k a) = .returned (.int k b):=by rw[h]
theorem um{a b:Bool}(h:a=b):Ending.returned (.bool a) = .returned (.bool b):=by rw[h]
def iL(w:World)(L:List Nat)(e:Ending)(w':World):Prop:=∃ A c,e = .returned (.slice A L.length c)/\Sl w' A c L/\Ext w w'
def oj(w:World)(L:List Nat)(n:Int)(e:Ending)(w':World):Prop:=∃ A c,e = .returned (.tuple #[.slice A L.length c,.int .i64 n])/\Sl w' A c L/\Ext w w'
def Tb(w:World):Prop:=TabAt 0 Lib.deBruijn32tab w
theorem Tb.below{w w':World}(h:Tb w)(hb:Ext w w'):Tb w':=fun j hj=>by
 have h1:=h j hj;rw[hb.cell (block_lt_of_cell h1)];exact h1
theorem Tb.alloc{w:World}(h:Tb w)(o:Obj):Tb (w.alloc o):=h.below (Ext.alloc _ _)
theorem Tb.drew{w:World}(h:Tb w):Tb w.drew:=h.below (Ext.drew _)
theorem IK(x:Nat)(h:x<4294967296):Lib.bitLen x=ak x:=by
 induction x using Nat.strongRecOn with
 | _ x ih =>
  by_cases h0:x=0
  .subst h0;rfl
  .rw [Lib.bitLen_half x h0 (by omega),ih (x/2) (by omega) (by omega)]
   by_cases h1:x/2=0
   .have:x=1:=by omega
    subst this;rfl
   .have e1:=iq h1
    have e2:=gi (x/2);have e3:=dX h1;generalize ak (x/2)=k at *
    obtain⟨j,rfl⟩:∃ j,k=j+1:=⟨k-1,by omega⟩
    rw[Nat.add_sub_cancel]at e1;rw[Nat.add_comm];refine(kR ?_ ?_).symm
    .rw [Nat.pow_succ];omega
    .rw [Nat.pow_succ];omega
theorem Ko(x:Nat)(h0:x≠0)(h:x<4294967296):Lib.ctz 32 x=aY x:=by
 unfold Lib.ctz;rw[if_neg h0];obtain⟨m,hm,_⟩:=Lib.ctzFrom_spec 32 x (by omega) h
 conv=>rhs;rw[hm,Nat.mul_comm]
 exact(kW (by omega) _).symm
def dQ(L:List Nat):List Value:=L.map fun(n:Nat)=>Value.int .u32 (n:Int)
theorem Ta{L:List Nat}{j:Nat}{u:Value}(h:(dQ L)[j]? = some u):∃ n,L[j]? = some n/\u = .int .u32 (n:Int):=by
 unfold dQ at h;rw[List.getElem?_map]at h;obtain⟨n,hn,rfl⟩:=Option.map_eq_some_iff.1 h;exact⟨n,hn,rfl⟩
theorem S9(L M:List Nat):dQ (L++M)=dQ L++dQ M:=List.map_append
theorem Tc(L:List Nat):∀ u ∈ dQ L,u.oneCell'=true:=by
 intro u hu;obtain⟨n,_,rfl⟩:=List.mem_map.1 hu;rfl
structure Ow(w:World)(base:Nat)(v:Value)(L:List Nat):Prop where
 row:w.ownsRow base 79 1 v L.length (dQ L)
 ok:ay L
theorem Ow.sl{w:World}{base:Nat}{v:Value}{L:List Nat}(h:Ow w base v L):∃ A c,v = .slice A L.length c/\Sl w A c L:=by
 have hr:=h.row;rcases hr.2 with⟨rfl,h0⟩|⟨g,cap,cur,rfl,hb,hg,hnc,hcm,hcs,htake⟩
 .have:L=[]:=List.eq_nil_of_length_eq_zero h0
  subst this;exact⟨none,0,rfl,Sl.nil w⟩
 .refine ⟨_,_,rfl,hnc,(by simpa[maxLen]using hcm),h.ok,(fun h=>by cases h),fun i x hx=>⟨_,_,rfl,(Array.getElem?_eq_some_iff.1 hg).1,?_⟩⟩
  have h:=hr.cells (g:=g) rfl i (.int .u32 (x:Int)) (by unfold dQ;rw[List.getElem?_map,hx];rfl);rw[na]at h;exact h
theorem Ow.nil(w:World)(base:Nat):Ow w base (.slice none 0 0) []:=⟨World.ownsRow_nil w base _ _,ay.nil⟩
theorem Ow.alloc{w:World}{base:Nat}{v:Value}{L:List Nat}(h:Ow w base v L)(o:Obj):Ow (w.alloc o) base v L:=⟨h.row.alloc o,h.ok⟩
theorem Ow.empty(w:World)(base:Nat)(hb:base<=w.heap.size):Ow (w.alloc (.cells #[] 79)) base (.slice (some ⟨w.heap.size,0,none⟩) 0 0) [] :=
 ⟨World.ownsRow_made w #[] 0 hb (by decide) rfl,ay.nil⟩
theorem fR{w:World}{n:Nat}(h:n<=w.heap.size)(o:Obj):n<=(w.alloc o).heap.size:=by simp;omega
theorem Sl.one(w:World)(x:Nat)(hx:x<4294967296):Sl (w.alloc (.cells #[.int .u32 x] 79)) (some ⟨w.heap.size,0,none⟩) 1 [x] :=
 ⟨Nat.le_refl _,by decide,ay.cons hx ay.nil,(fun h=>by cases h),fun i y hy=>by
  obtain⟨h1,h2⟩:=List.getElem?_eq_some_iff.1 hy;obtain rfl:i=0:=by simp at h1;omega
  simp at h2;subst h2;refine⟨_,_,rfl,by simp,?_⟩;exact World.cell?_alloc_at _ _ _ _ rfl⟩
theorem Sl.iJ(w:World)(y:Int)(x:Nat)(e:y=(x:Int))(hx:x<4294967296):Sl (w.alloc (.cells #[.int .u32 y] 79)) (some ⟨w.heap.size,0,none⟩) 1 [x]:=by
 subst e;exact Sl.one w x hx
theorem wT:(Tryz.prog.info? 79).map (fun i=>(i.zero,i.size,i.bytes))=some (some (.int .u32 0),1,4):=by kernel_rfl
theorem gK{ops:Array Oper}{rest:List Oper}{o:Oper}{a:Act}{Q:Exit->Act->World->Prop}{w:World}(hgd:o.guard=none)(s x:Operand)
  (ho:o.op = .call { callee:=.builtin .append,args:=#[s,x],argTypes:=#[29,29] })
  (base:Nat) (v:Value) (L:List Nat) (hs:a.eval s=v) (hown:Ow w base v L)
  (A:Option Addr) (m c:Nat) (M:List Nat) (hx:a.eval x = .slice A m c) (hm:m=M.length) (hr:Sl w A c M)
  (hsz:L.length+M.length<=10000000000) (hbase:base<=w.heap.size)
  (h:∀ v' w',Ow w' base v' (L++M)->w.grownBy w' v.ownBlock->(v'.ownBlock=v.ownBlock\/v'.ownBlock=some w.heap.size)->wpList Tryz.prog ops Q rest (a.put o.dst v') w') :
  wpList Tryz.prog ops Q (o::rest) a w:=by
 obtain⟨i,hi,hz,h1,h2⟩:=info_parts wT;subst hm;rcases A with _|ad
 .have hc:=hr.none_ rfl
  subst hc;have hM:M=[]:=List.eq_nil_of_length_eq_zero (by have:=hr.cap;omega);subst hM;refine wpList_append_own_none hgd s x _ ho base _ i 1 Tryz.underlying29 hi v _ _ hs hown.row hx ?_;have:=h v w (by rw[List.append_nil];exact hown) ⟨rfl,rfl,rfl,Nat.le_refl _,fun _ _ _=>rfl⟩ (.inl rfl);exact this
 .refine wpList_append_own_at w hgd s x _ ho base _ i _ 1 4 Tryz.underlying29 hi hz h1 h2 rfl (by decide) v L.length (dQ L) hs hown.row ad M.length c (dQ M) hx (by simp[dQ]) ?_ (Tc M)
   (by simp only[maxLen];omega) (by omega) hbase ?_
  .intro j u hu
   obtain⟨n,hn,rfl⟩:=Ta hu;obtain⟨b,o,e,_,hc⟩:=hr.cell j n hn;cases e;rw[na];exact hc
  .intro v' w' hown' hg _ hat
   exact h v' w' ⟨by rw[List.length_append,S9];exact hown',hown.ok.append hr.ok⟩ hg hat
def Rw(w:World)(b:Nat)(L:List Nat):Prop:=w.heap[b]? = some (.cells (dQ L).toArray 79 (0,0))
section
variable {w w':World} {b:Nat} {L:List Nat}
theorem Rw.lt(h:Rw w b L):b<w.heap.size:=(Array.getElem?_eq_some_iff.1 h).1
theorem Rw.cell(h:Rw w b L){i x:Nat}(hx:L[i]? = some x):w.cell? ⟨b,i,none⟩=some (.int .u32 (x:Int)):=by
 unfold Rw at h;simp only[World.cell?,h];simp[dQ,hx]
theorem Rw.frozen(h:Rw w b L)(i:Nat):w.frozen? ⟨b,i,none⟩=false:=by
 unfold Rw at h;simp[World.frozen?,h]
theorem Rw.set(h:Rw w b L)(i x:Nat):Rw (w.setCell ⟨b,i,none⟩ (.int .u32 (x:Int))) b (L.set i x):=by
 unfold Rw at h ⊢;simp only[World.setCell,Array.getElem?_modify,h];simp[dQ,List.map_set]
theorem Rw.below{B:Nat}(h:Rw w b L)(hb:Below B w w')(hlt:b<B):Rw w' b L:=(hb.block b hlt).trans h
theorem Rw.ext(h:Rw w b L)(hb:Ext w w'):Rw w' b L:=h.below hb h.lt
theorem Rw.drew(h:Rw w b L):Rw w.drew b L:=h
theorem Rw.sl(h:Rw w b L)(hk:ay L)(hl:L.length<=10000000000):Sl w (some ⟨b,0,none⟩) L.length L :=
 ⟨Nat.le_refl _,by omega,hk,(fun h=>by cases h),fun i x hx=>⟨_,_,rfl,h.lt,by
  rw[Nat.zero_add];exact h.cell hx⟩⟩
theorem Rw.made(w:World)(n:Nat):Rw (w.alloc (.cells (dQ (List.replicate n 0)).toArray 79)) w.heap.size (List.replicate n 0):=heap_alloc_new w _
end
theorem Hk(b i:Nat):(⟨b,0,none⟩:Addr).add i=⟨b,i,none⟩:=by
 unfold Addr.add;split
 .rename_i h0;rw[h0]
 .simp
theorem qG(n:Nat)(hn:n<=10000000000)(w:World) :
  (Instr.makeSlice 29 (.int .i64 (n:Int)) (.int .i64 (n:Int))).run Tryz.prog w = .ok (.slice (some ⟨w.heap.size,0,none⟩) n n) (w.alloc (.cells (dQ (List.replicate n 0)).toArray 79)):=by
 obtain⟨i,hi,hz,h1,h2⟩:=info_parts wT;have hr:=run_make (P:=Tryz.prog) w 29 79 i _ Tryz.underlying29 hi hz .i64 .i64 n n (by omega) (by omega) (by rw[h2];omega) (by omega);rw[hr,Int.toNat_natCast,h1,Nat.mul_one];refine congrArg (fun cs=>Result.ok (Value.slice (some ⟨w.heap.size,0,none⟩) n n) (w.alloc (.cells cs 79))) ?_;apply Array.ext
 .simp [madeCells,dQ]
 .intro i h1 h2
  simp[madeCells,dQ,Value.cells,Nat.mod_one]
def kj(w:World)(d:Dy)(e:Ending)(w':World):Prop :=
 ∃ A c,e = .returned (.agg #[.bool d.neg,.slice A (af d.m).length c,.int .i64 d.e])/\Sl w' A c (af d.m)/\Ext w w'
def ix(w:World)(d:Dy)(n:Int)(e:Ending)(w':World):Prop :=
 ∃ A c,e = .returned (.tuple #[.agg #[.bool d.neg,.slice A (af d.m).length c,.int .i64 d.e],.int .i64 n])/\Sl w' A c (af d.m)/\Ext w w'
def kK(w:World)(g:Nat):Prop:=∀ o x,w.cell? ⟨g,o,none⟩≠some (.int .u32 x)
theorem Sl.nx{w:World}{A:Option Addr}{c:Nat}{L:List Nat}(h:Sl w A c L){g i:Nat}(hg:kK w g)(u:Value):Sl (w.setCell ⟨g,i,none⟩ u) A c L :=
 ⟨h.cap,h.fz,h.ok,h.none_,fun j x hx=>by
  obtain⟨b,o,e,h1,h2⟩:=h.cell j x hx;refine⟨b,o,e,by simpa[World.setCell]using h1,?_⟩;rw[World.cell?_setCell_other w _ _ u]
  .exact h2
  .intro e'
   simp only[Addr.mk.injEq]at e';exact hg (o+j) x (by rw[e'.1];exact h2)⟩
theorem kK.pn{w:World}{g:Nat}{cs:Array Value}{t:TypeId}{fr:Nat×Nat}(h:w.heap[g]? = some (.cells cs t fr))(hc:∀ (i:Nat) (x:Int),cs[i]? ≠ some (.int .u32 x)):kK w g:=fun o x e=>by
 simp only[World.cell?,h]at e;simp at e;exact hc o x (by simpa using e)
def aJ(w:World)(g:Nat)(s:Bool)(A:Option Addr)(n c:Nat)(e:Int):Prop:=w.heap[g]? = some (.cells #[.bool s,.slice A n c,.int .i64 e] 31 (0,0))
section
variable {w w':World} {g n c:Nat} {s:Bool} {A:Option Addr} {e:Int}
theorem aJ.new(W:World)(s:Bool)(A:Option Addr)(n c:Nat)(e:Int):aJ (W.alloc (.cells #[.bool s,.slice A n c,.int .i64 e] 31)) W.heap.size s A n c e:=heap_alloc_new W _
theorem aJ.newAt{W:World}{g:Nat}(hg:W.heap.size=g)(s:Bool)(A:Option Addr)(n c:Nat)(e:Int):aJ (W.alloc (.cells #[.bool s,.slice A n c,.int .i64 e] 31)) g s A n c e:=hg▸heap_alloc_new W _
theorem aJ.lt(h:aJ w g s A n c e):g<w.heap.size:=(Array.getElem?_eq_some_iff.1 h).1
theorem aJ.ext(h:aJ w g s A n c e)(hb:Ext w w'):aJ w' g s A n c e:=(hb.block g h.lt).trans h
theorem aJ.alloc(h:aJ w g s A n c e)(o:Obj):aJ (w.alloc o) g s A n c e:=h.ext (Ext.alloc _ _)
theorem aJ.drew(h:aJ w g s A n c e):aJ w.drew g s A n c e:=h
theorem aJ.dv(h:aJ w g s A n c e):kK w g:=kK.pn h (fun i x=>by rcases i with _|_|_|i<;>simp)
theorem aJ.c0(h:aJ w g s A n c e):w.cell? ⟨g,0,none⟩=some (.bool s):=by unfold aJ at h;simp[World.cell?,h]
theorem aJ.c1(h:aJ w g s A n c e):w.cell? ⟨g,1,none⟩=some (.slice A n c):=by unfold aJ at h;simp[World.cell?,h]
theorem aJ.c2(h:aJ w g s A n c e):w.cell? ⟨g,2,none⟩=some (.int .i64 e):=by unfold aJ at h;simp[World.cell?,h]
theorem aJ.fr(h:aJ w g s A n c e)(i:Nat):w.frozen? ⟨g,i,none⟩=false:=by unfold aJ at h;simp[World.frozen?,h]
theorem aJ.set(h:aJ w g s A n c e)(s':Bool)(A':Option Addr)(n' c':Nat)(e':Int) :
  aJ (((w.setCell ⟨g,0,none⟩ (.bool s')).setCell ⟨g,1,none⟩ (.slice A' n' c')).setCell ⟨g,2,none⟩ (.int .i64 e')) g s' A' n' c' e':=by
 have h1:=heap_setCell_same w g 0 _ _ (.bool s') h;have h2:=heap_setCell_same _ g 1 _ _ (.slice A' n' c') h1;have h3:=heap_setCell_same _ g 2 _ _ (.int .i64 e') h2;exact h3
theorem aJ.fF{L:List Nat}{A':Option Addr}{c':Nat}(h:aJ w g s A n c e)(hs:Sl w A' c' L)(s':Bool)(e':Int)(n' c2:Nat)(A2:Option Addr) :
  Sl (((w.setCell ⟨g,0,none⟩ (.bool s')).setCell ⟨g,1,none⟩ (.slice A2 n' c2)).setCell ⟨g,2,none⟩ (.int .i64 e')) A' c' L:=by
 have h1:=heap_setCell_same w g 0 _ _ (.bool s') h;have h2:=heap_setCell_same _ g 1 _ _ (.slice A2 n' c2) h1;have k1:kK (w.setCell ⟨g,0,none⟩ (.bool s')) g:=kK.pn h1 (fun i x=>by rcases i with _|_|_|i<;>simp);have k2:kK ((w.setCell ⟨g,0,none⟩ (.bool s')).setCell ⟨g,1,none⟩ (.slice A2 n' c2)) g:=kK.pn h2 (fun i x=>by rcases i with _|_|_|i<;>simp)
 exact((hs.nx h.dv _).nx k1 _).nx k2 _
theorem aJ.fi{w0:World}(hb:Ext w0 w)(hg:w0.heap.size<=g)(s':Bool)(A':Option Addr)(n' c':Nat)(e':Int) :
  Ext w0 (((w.setCell ⟨g,0,none⟩ (.bool s')).setCell ⟨g,1,none⟩ (.slice A' n' c')).setCell ⟨g,2,none⟩ (.int .i64 e')) :=
 ((hb.setCell hg _).setCell hg _).setCell hg _
end
theorem BW:(Tryz.prog.info? 31).map (·.size)=some 3:=by kernel_rfl
theorem Rh{fn:Func}{p:Tmp}(h:fn.results = #[.cell p 31])(tmps:Array Value){w:World}{g n c:Nat}{s:Bool}{A:Option Addr}{e:Int}
  (hp:tmps.getD p undef = .pointer (some ⟨g,0,none⟩)) (hb:aJ w g s A n c e) :
  (results fn tmps).run Tryz.prog w = .ok (.agg #[.bool s,.slice A n c,.int .i64 e]) w :=
 results_cell_row h tmps w g _ _ _ _ hp hb Tryz.underlying31 rfl BW
theorem Ri{fn:Func}{p t:Tmp}(h:fn.results = #[.cell p 31,.tmp t])(tmps:Array Value){w:World}{g n c:Nat}{s:Bool}{A:Option Addr}{e:Int}
  (hp:tmps.getD p undef = .pointer (some ⟨g,0,none⟩)) (hb:aJ w g s A n c e) :
  (results fn tmps).run Tryz.prog w = .ok (.tuple #[.agg #[.bool s,.slice A n c,.int .i64 e],tmps.getD t undef]) w:=by
 have hp':tmps[p]?.getD undef = .pointer (some ⟨g,0,none⟩):=by simpa using hp
 simp[results,h,hp',asAddr,run_loadVar_row w g _ _ _ _ _ hb Tryz.underlying31 rfl BW]
theorem iN{fn:Func}{p:Tmp}(h:fn.results = #[.cell p 31]){a:Act}{w W:World}{d:Dy}{g:Nat}{A:Option Addr}{c n:Nat}
  (hp:a.tmps.getD p undef = .pointer (some ⟨g,0,none⟩)) (hd:a.defers=[]) (hb:aJ W g d.neg A n c d.e) (hn:n=(af d.m).length) (hs:Sl W A c (af d.m)) (he:Ext w W) :
  bodyPost Tryz.prog fn (kj w d) .ret a W:=by
 subst hn;exact bodyPost_ret (Rh h _ hp hb) hd ⟨A,c,rfl,hs,he⟩
theorem jm{fn:Func}{p t:Tmp}(h:fn.results = #[.cell p 31,.tmp t]){a:Act}{w W:World}{d:Dy}{k:Int}{g:Nat}{A:Option Addr}{c n:Nat}
  (hp:a.tmps.getD p undef = .pointer (some ⟨g,0,none⟩)) (ht:a.tmps.getD t undef = .int .i64 k) (hd:a.defers=[]) (hb:aJ W g d.neg A n c d.e) (hn:n=(af d.m).length) (hs:Sl W A c (af d.m)) (he:Ext w W) :
  bodyPost Tryz.prog fn (ix w d k) .ret a W:=by
 subst hn;exact bodyPost_ret ((Ri h _ hp hb).trans (by rw[ht])) hd ⟨A,c,rfl,hs,he⟩
open Go.ChangeShapes Go.WideShapes Go.ChangeAt Go.RowKit Fp
theorem own:ownKnob Tryz.prog.godebug=none:=by kernel_rfl
theorem laidOut:laidOutB Tryz.prog=true:=by kernel_rfl
theorem CB:Tryz.prog.globalNamed "math/bits.deBruijn32tab" = some 0:=by kernel_rfl
theorem Mv:(Tryz.prog.globals[0]?).map (·.type)=some 160:=by kernel_rfl
theorem J8:Tryz.prog.cellsOf 160=32:=by kernel_rfl
theorem J7:Tryz.prog.cellsOf 5=1:=by kernel_rfl
theorem J6:Tryz.prog.cellsOf 79=1:=by kernel_rfl
theorem SS {l:List (String×DataW Unit)} (hl:l=[("math/bits.deBruijn32tab", Rows.laid_math_bits_deBruijn32tab)]) {W:World} (h:laidMet Tryz.prog l W):Tb W:=by
 subst hl;have ht:Lib.TabIs Tryz.prog W "math/bits.deBruijn32tab" .u8 (Lib.deBruijn32tab.map fun(n:Nat)=>(n:Int)) :=
  Lib.tabIs_of_head (rest:=[]) CB Mv Tryz.underlying160 Tryz.underlying5 J7 J8 h
 intro j hj;have:=ht.cell CB j (by simpa using hj);rw[this];simp[List.getD_eq_getElem?_getD];rw[List.getElem?_eq_getElem hj];simp
theorem Np{n:Int}(h:(Lit.int .i64 n).wf=true):-9223372036854775808<=n/\n<=9223372036854775807:=by
 have h1:IntKind.i64.min = -9223372036854775808:=rfl;have h2:IntKind.i64.max=9223372036854775807:=rfl;simp[Lit.wf,h1,h2]at h;omega
theorem Py{H:Type}{enc:TypeId×Value->H}{W:World}{fuel:Nat}{c:Value}{x:DataW H×List MemPlace}
  (h:DataW.trod enc Tryz.prog W 0 (fun _=>true) true fuel 29 [c]=some x) (_hlt:∀ p ∈ x.2,p.block<W.heap.size) :
  ∃ A L cap,c = .slice A L.length cap/\Sl W A cap L:=by
 rcases open_ints Tryz.underlying29 Tryz.underlying79 J6 h with⟨hcs,hx⟩|⟨a,len,cap,zs,hcs,_,hl,hm,hz,hx,hcell,hwz⟩
 .simp at hcs
  exact⟨none,[],0,hcs,Sl.nil W⟩
 .simp at hcs
  simp only[if_true]at hz;refine⟨some a,(zs.take len).map Int.toNat,cap,?_,?_⟩
  .rw [hcs,List.length_map,List.length_take,Nat.min_eq_left (by omega)]
  .have hw32:∀ n ∈ zs,0<=n/\n<4294967296:=fun n hn=>by
    have:=hwz n hn;have h1:IntKind.u32.min=0:=rfl;have h2:IntKind.u32.max=4294967295:=rfl;simp[Lit.wf,h1,h2]at this;omega
   refine⟨by rw[List.length_map,List.length_take];omega,by simpa[maxLen]using hm,?_,(fun h=>by cases h),?_⟩
   .intro y hy
    obtain⟨z,hz',rfl⟩:=List.mem_map.1 hy;have:=hw32 z (List.mem_of_mem_take hz');omega
   .intro i y hy
    rw[List.getElem?_map]at hy;obtain⟨z,hz',rfl⟩:=Option.map_eq_some_iff.1 hy;rw[List.getElem?_take]at hz';split at hz'
    .rename_i hi
     have hc:=hcell i (by omega);rw[List.getD_eq_getElem?_getD,hz']at hc;obtain⟨b,off,spot⟩:=a;have hsp:spot=none:=by
      rcases spot with _|q
      .rfl
      .exfalso
       have hc0:=hcell 0 (by omega);rw[show(⟨b,off,some q⟩:Addr).add 0=⟨b,off,some q⟩from rfl]at hc0;unfold World.cell? at hc0;split at hc0<;>simp at hc0
     subst hsp;refine⟨b,off,rfl,?_,?_⟩
     .have:=block_lt_of_cell hc
      rwa[IX]at this
     .rw [na]at hc
      rw[hc];have:=hw32 z (List.mem_of_getElem? hz');simp;omega
    .cases hz'
theorem Dl{α:Type}{l:List α}(h:l.length=3):∃ a b c,l=[a,b,c]:=by
 match l,h with
 | [a,b,c],_=>exact⟨a,b,c,rfl⟩
theorem OD{α:Type}{l:List α}(h:l.length=7):∃ a b c d e f g,l=[a,b,c,d,e,f,g]:=by
 match l,h with
 | [a,b,c,d,e,f,g],_=>exact⟨a,b,c,d,e,f,g,rfl⟩
theorem Pw{H:Type}{enc:TypeId×Value->H}{W:World}{fuel:Nat}{cs:List Value}{x:DataW H×List MemPlace}
  (h:DataW.trod enc Tryz.prog W 0 (fun _=>true) true fuel 31 cs=some x) (hlt:∀ p ∈ x.2,p.block<W.heap.size) :
  ∃ s A L cap e,cs=[.bool s,.slice A L.length cap,.int .i64 e]/\Sl W A cap L/\(-9223372036854775808<=e/\e<=9223372036854775807):=by
 obtain⟨xs,n,rfl,rfl,hl,hxl,hf⟩:=DataW.trod_struct Tryz.underlying31 h;have hC:Tryz.prog.cellsOf 31=3:=by kernel_rfl
 have hB:Tryz.prog.cellsOf 4=1:=by kernel_rfl
 have hS:Tryz.prog.cellsOf 29=1:=by kernel_rfl
 have hI:Tryz.prog.cellsOf 3=1:=by kernel_rfl
 rw[hC]at hl;obtain⟨a,b,c,rfl⟩:=Dl hl;have h0:=hf 0 _ rfl;have h1:=hf 1 _ rfl;have h2:=hf 2 _ rfl;simp only[List.getElem_toArray,List.getElem_cons_zero,List.getElem_cons_succ]at h0 h1 h2;simp only[hB,hS,hI,List.drop_zero,List.drop_succ_cons,List.take_succ_cons,List.take_zero]at h0 h1 h2;rw[List.getElem?_eq_getElem (by rw[hxl];decide)]at h0 h1 h2
 obtain⟨s,hs,_⟩:=DataW.trod_bool Tryz.underlying4 h0;obtain⟨A,L,cap,hc,hsl⟩:=Py h1 (fun p hp=>hlt p (List.mem_flatMap.2 ⟨_,List.getElem_mem _,hp⟩));obtain⟨e,he,_,hw⟩:=DataW.trod_int Tryz.underlying3 h2;simp at hs he;subst hs he hc;exact⟨s,A,L,cap,e,rfl,hsl,Np hw⟩
noncomputable def xh(os:Os)(args:Array Value):World :=
 {World.holding Tryz.prog os ⟨#[],args,[]⟩with heap:=(World.holding Tryz.prog os ⟨#[],args,[]⟩).heap.modify 0 fun
   | .cells _ t frozen=>.cells (Lib.deBruijn32tab.map fun(n:Nat)=>Value.int .u8 (n:Int)).toArray t frozen
   | o=>o }
end Go.Proofs.YtdgnpeddgdclhaaGreatDoor
namespace Go.Proofs.YtdgnpeddgdclhaaGreatDoor.Pu
open Go.RowKit
inductive E where
 | any
 | v (x:Value)
 | agg (l:List E)
 | aq (l:List E)
 | sl (nl:Bool) (n sz:Nat) (el:Nat->Nat->E)
 | ref (m:Nat) (el:Nat->E)
 | fn (f:FuncId) (cap:List E)
def gS:Value->Bool
 | .int .u32 _=>true
 | _=>false
def E.nr:Nat->E->Bool
 | _,.any=>true
 | _,.v _=>true
 | _,.sl ..=>true
 | d+1,.agg l=>l.all (E.nr d)
 | d+1,.aq l=>l.all (E.nr d)
 | d+1,.fn _ l=>l.all (E.nr d)
 | _,_=>false
inductive ax(bs br:Nat->Prop)(w:World):E->Value->Prop
 | any (x:Value):ax bs br w .any x
 | v (x:Value):ax bs br w (.v x) x
 | agg (l:List E) (vs:List Value) (h:vs.length=l.length) (k:∀ (i:Nat) (p:E) (x:Value),l[i]? = some p->vs[i]? = some x->ax bs br w p x):ax bs br w (.agg l) (.agg vs.toArray)
 | aq (l:List E) (vs:List Value) (h:vs.length=l.length) (k:∀ (i:Nat) (p:E) (x:Value),l[i]? = some p->vs[i]? = some x->ax bs br w p x):ax bs br w (.aq l) (.tuple vs.toArray)
 | sl (nl:Bool) (n sz:Nat) (el:Nat->Nat->E) (A:Option Addr) (c:Nat) (f:Nat->Nat->Value) (hc:n<=c) (hm:c<=9223372036854775807) (h0:A=none->c=0)
   (hl:∀ i j,i<n->j<sz->(f i j).oneCell'=true/\(nl=true->gS (f i j)=false))
   (hr:∀ i j,i<n->j<sz->(el i j).nr 2=true)
   (cell:∀ i j,i<n->j<sz->∃ b o,A=some ⟨b,o,none⟩/\¬bs b/\b<w.heap.size/\w.cell? ⟨b,o+(i*sz+j),none⟩=some (f i j))
   (k:∀ i j,i<n->j<sz->ax bs br w (el i j) (f i j)):ax bs br w (.sl nl n sz el) (.slice A n c)
 | ref (m:Nat) (el:Nat->E) (b o:Nat) (f:Nat->Value) (hb:¬br b) (hlt:b<w.heap.size) (hl:∀ j,j<m->(f j).oneCell'=true)
   (cell:∀ j,j<m->w.cell? ⟨b,o+j,none⟩=some (f j))
   (k:∀ j,j<m->ax bs br w (el j) (f j)):ax bs br w (.ref m el) (.pointer (some ⟨b,o,none⟩))
 | fn (f:FuncId) (l:List E) (vs:List Value) (h:vs.length=l.length) (k:∀ (i:Nat) (p:E) (x:Value),l[i]? = some p->vs[i]? = some x->ax bs br w p x):ax bs br w (.fn f l) (.func (.func f) #[] vs.toArray)
theorem ax.mono{bs br bs' br':Nat->Prop}{w w':World}(hsz:w.heap.size<=w'.heap.size)
  (h1:∀ b,b<w.heap.size->bs' b->bs b) (h2:∀ b,b<w.heap.size->br' b->br b)
  (hc:∀ b o x,b<w.heap.size->(¬bs b\/¬br b)->w.cell? ⟨b,o,none⟩=some x->w'.cell? ⟨b,o,none⟩=some x)
  {e:E} {v:Value} (h:ax bs br w e v):ax bs' br' w' e v:=by
 induction h with
 | any x=>exact .any x
 | v x=>exact .v x
 | agg l vs h k ih=>exact .agg l vs h ih
 | aq l vs h k ih=>exact .aq l vs h ih
 | sl nl n sz el A c f hn hm h0 hl hr cell k ih =>
  refine .sl nl n sz el A c f hn hm h0 hl hr (fun i j hi hj=>?_) ih;obtain⟨b,o,e,hb,hlt,hcell⟩:=cell i j hi hj;exact⟨b,o,e,fun hx=>hb (h1 b hlt hx),Nat.lt_of_lt_of_le hlt hsz,hc b _ _ hlt (.inl hb) hcell⟩
 | ref m el b o f hb hlt hl cell k ih =>
  exact .ref m el b o f (fun hx=>hb (h2 b hlt hx)) (Nat.lt_of_lt_of_le hlt hsz) hl (fun j hj=>hc b _ _ hlt (.inr hb) (cell j hj)) ih
 | fn f l vs h k ih=>exact .fn f l vs h ih
theorem ax.gq{bs br bs' br':Nat->Prop}{w:World}(h1:∀ b,bs' b->bs b)(h2:∀ b,br' b->br b){e:E}{v:Value}(h:ax bs br w e v):ax bs' br' w e v :=
 h.mono (Nat.le_refl _) (fun b _=>h1 b) (fun b _=>h2 b) (fun _ _ _ _ _ h=>h)
def E.plain:Nat->E->Bool
 | _,.any=>true
 | _,.v _=>true
 | d+1,.agg l=>l.all (E.plain d)
 | d+1,.aq l=>l.all (E.plain d)
 | _,_=>false
theorem ax.plain{bs br bs' br':Nat->Prop}{w w':World}{e:E}{v:Value}(h:ax bs br w e v):∀ d,e.plain d=true->ax bs' br' w' e v:=by
 induction h with
 | any x=>exact fun _ _=>.any x
 | v x=>exact fun _ _=>.v x
 | agg l vs h k ih =>
  intro d hd;cases d with
  | zero=>simp[E.plain]at hd
  | succ d =>
   simp only[E.plain,List.all_eq_true]at hd;exact .agg l vs h fun i p x hp hx=>ih i p x hp hx d (hd p (List.mem_of_getElem? hp))
 | aq l vs h k ih =>
  intro d hd;cases d with
  | zero=>simp[E.plain]at hd
  | succ d =>
   simp only[E.plain,List.all_eq_true]at hd;exact .aq l vs h fun i p x hp hx=>ih i p x hp hx d (hd p (List.mem_of_getElem? hp))
 | sl=>intro d hd;cases d<;>simp[E.plain]at hd
 | ref=>intro d hd;cases d<;>simp[E.plain]at hd
 | fn=>intro d hd;cases d<;>simp[E.plain]at hd
theorem ax.nr{bs br br':Nat->Prop}{w:World}{e:E}{v:Value}(h:ax bs br w e v):∀ d,e.nr d=true->ax bs br' w e v:=by
 induction h with
 | any x=>exact fun _ _=>.any x
 | v x=>exact fun _ _=>.v x
 | agg l vs h k ih =>
  intro d hd;cases d with
  | zero=>simp[E.nr]at hd
  | succ d =>
   simp only[E.nr,List.all_eq_true]at hd;exact .agg l vs h fun i p x hp hx=>ih i p x hp hx d (hd p (List.mem_of_getElem? hp))
 | aq l vs h k ih =>
  intro d hd;cases d with
  | zero=>simp[E.nr]at hd
  | succ d =>
   simp only[E.nr,List.all_eq_true]at hd;exact .aq l vs h fun i p x hp hx=>ih i p x hp hx d (hd p (List.mem_of_getElem? hp))
 | fn f l vs h k ih =>
  intro d hd;cases d with
  | zero=>simp[E.nr]at hd
  | succ d =>
   simp only[E.nr,List.all_eq_true]at hd;exact .fn f l vs h fun i p x hp hx=>ih i p x hp hx d (hd p (List.mem_of_getElem? hp))
 | ref=>intro d hd;cases d<;>simp[E.nr]at hd
 | sl nl n sz el A c f hn hm h0 hl hr cell k ih =>
  exact fun _ _=>.sl nl n sz el A c f hn hm h0 hl hr cell fun i j hi hj=>ih i j hi hj 2 (hr i j hi hj)
def E.one:E->Bool
 | .v x=>x.oneCell'
 | .sl ..=>true
 | .ref ..=>true
 | .fn ..=>true
 | _=>false
def E.dv:E->Bool
 | .v x=>!gS x
 | .sl ..=>true
 | .ref ..=>true
 | .fn ..=>true
 | _=>false
theorem ax.one{bs br:Nat->Prop}{w:World}{e:E}{v:Value}(h:ax bs br w e v)(h1:e.one=true):v.oneCell'=true:=by
 cases h<;>first|exact h1|rfl|(simp[E.one]at h1)
theorem ax.dv{bs br:Nat->Prop}{w:World}{e:E}{v:Value}(h:ax bs br w e v)(h1:e.dv=true):gS v=false:=by
 cases h with
 | v=>unfold E.dv at h1;cases hb:gS v<;>simp_all
 | any=>cases h1
 | agg=>cases h1
 | aq=>cases h1
 | sl=>rfl
 | ref=>rfl
 | fn=>rfl
structure bE(bs br:Nat->Prop)(w:World)(l:List E)(vs:List Value):Prop where
 len:vs.length=l.length
 rep:∀ (i:Nat) (p:E) (x:Value),l[i]? = some p->vs[i]? = some x->ax bs br w p x
theorem bE.nil(bs br:Nat->Prop)(w:World):bE bs br w [] []:=⟨rfl,fun i p x h=>by simp at h⟩
theorem bE.cons{bs br:Nat->Prop}{w:World}{p:E}{x:Value}{l:List E}{vs:List Value}(h:ax bs br w p x)(k:bE bs br w l vs):bE bs br w (p::l) (x::vs) :=
 ⟨by simp[k.len],fun i q y hq hy=>by
  cases i with
  | zero=>simp at hq hy;subst hq hy;exact h
  | succ i=>simp at hq hy;exact k.rep i q y hq hy⟩
theorem bE.head{bs br:Nat->Prop}{w:World}{p:E}{x:Value}{l:List E}{vs:List Value}(h:bE bs br w (p::l) (x::vs)):ax bs br w p x:=h.rep 0 p x rfl rfl
theorem bE.tail{bs br:Nat->Prop}{w:World}{p:E}{x:Value}{l:List E}{vs:List Value}(h:bE bs br w (p::l) (x::vs)):bE bs br w l vs :=
 ⟨by have:=h.len;simpa using this,fun i q y hq hy=>h.rep (i+1) q y (by simpa using hq) (by simpa using hy)⟩
theorem bE.cK{bs br:Nat->Prop}{w:World}{p:E}{l:List E}{vs:List Value}(h:bE bs br w (p::l) vs):∃ x ys,vs=x::ys/\ax bs br w p x/\bE bs br w l ys:=by
 cases vs with
 | nil=>have:=h.len;simp at this
 | cons x ys=>exact⟨x,ys,rfl,h.head,h.tail⟩
theorem bE.fB{bs br:Nat->Prop}{w:World}{vs:List Value}(h:bE bs br w [] vs):vs=[]:=List.eq_nil_of_length_eq_zero h.len
theorem bE.mono{bs br bs' br':Nat->Prop}{w w':World}{l:List E}{vs:List Value}(h:bE bs br w l vs)(k:∀ e v,ax bs br w e v->ax bs' br' w' e v):bE bs' br' w' l vs :=
 ⟨h.len,fun i p x hp hx=>k _ _ (h.rep i p x hp hx)⟩
theorem bE.take{bs br:Nat->Prop}{w:World}{l:List E}{vs:List Value}(h:bE bs br w l vs)(n:Nat):bE bs br w (l.take n) (vs.take n) :=
 ⟨by simp[h.len],fun i p x hp hx=>by
  rw[List.getElem?_take]at hp hx;split at hp
  .rename_i hi;rw[if_pos hi]at hx;exact h.rep i p x hp hx
  .cases hp⟩
theorem bE.drop{bs br:Nat->Prop}{w:World}{l:List E}{vs:List Value}(h:bE bs br w l vs)(n:Nat):bE bs br w (l.drop n) (vs.drop n) :=
 ⟨by simp[h.len],fun i p x hp hx=>by
  rw[List.getElem?_drop]at hp hx;exact h.rep _ p x hp hx⟩
theorem bE.app{bs br:Nat->Prop}{w:World}{l m:List E}{vs us:List Value}(h:bE bs br w l vs)(k:bE bs br w m us):bE bs br w (l++m) (vs++us) :=
 ⟨by simp[h.len,k.len],fun i p x hp hx=>by
  rw[List.getElem?_append]at hp hx;rw[h.len]at hx;split at hp
  .rename_i hi;rw[if_pos hi]at hx;exact h.rep i p x hp hx
  .rename_i hi;rw[if_neg hi]at hx;exact k.rep _ p x hp hx⟩
theorem bE.consts(bs br:Nat->Prop)(w:World)(vs:List Value):bE bs br w (vs.map .v) vs :=
 ⟨by simp,fun i p x hp hx=>by
  rw[List.getElem?_map,hx]at hp;simp at hp;subst hp;exact .v x⟩
theorem ax.ot{bs br:Nat->Prop}{w:World}{l:List E}{v:Value}(h:ax bs br w (.agg l) v):∃ vs:List Value,v = .agg vs.toArray/\bE bs br w l vs:=by
 cases h with
 | agg _ vs h k=>exact⟨vs,rfl,h,k⟩
theorem ax.Gy{bs br:Nat->Prop}{w:World}{l:List E}{v:Value}(h:ax bs br w (.aq l) v):∃ vs:List Value,v = .tuple vs.toArray/\bE bs br w l vs:=by
 cases h with
 | aq _ vs h k=>exact⟨vs,rfl,h,k⟩
theorem ax.bQ{bs br:Nat->Prop}{w:World}{x v:Value}(h:ax bs br w (.v x) v):v=x:=by cases h;rfl
theorem ax.Ct{bs br:Nat->Prop}{w:World}{f:FuncId}{l:List E}{v:Value}(h:ax bs br w (.fn f l) v):∃ vs:List Value,v = .func (.func f) #[] vs.toArray/\bE bs br w l vs:=by
 cases h with
 | fn _ _ vs h k=>exact⟨vs,rfl,h,k⟩
theorem bE.agg{bs br:Nat->Prop}{w:World}{l:List E}{vs:List Value}(h:bE bs br w l vs):ax bs br w (.agg l) (.agg vs.toArray):=.agg l vs h.len h.rep
theorem bE.aq{bs br:Nat->Prop}{w:World}{l:List E}{vs:List Value}(h:bE bs br w l vs):ax bs br w (.aq l) (.tuple vs.toArray):=.aq l vs h.len h.rep
def E.cells?:E->Option (List E)
 | .agg l=>if l.all E.one then some l else none
 | .v (.agg cs)=>if cs.toList.all Value.oneCell' then some (cs.toList.map .v)else none
 | .v x=>if x.oneCell' then some [.v x]else none
 | .sl nl n sz el=>some [.sl nl n sz el]
 | .ref m el=>some [.ref m el]
 | .fn f c=>some [.fn f c]
 | _=>none
theorem ax.cells{bs br:Nat->Prop}{w:World}{e:E}{v:Value}(h:ax bs br w e v){l:List E}(hl:e.cells? = some l) :
  bE bs br w l v.cells.toList/\∀ u ∈ v.cells.toList,u.oneCell'=true:=by
 have single:∀ {e:E} {v:Value},ax bs br w e v->v.oneCell'=true->v.cells = #[v]->bE bs br w [e] v.cells.toList/\∀ u ∈ v.cells.toList,u.oneCell'=true:=by
  intro e v h h1 hc;rw[hc];exact⟨.cons h (.nil _ _ _),by simpa using h1⟩
 cases h with
 | any x=>simp[E.cells?]at hl
 | v =>
  by_cases ha:∃ cs,v = .agg cs
  .obtain ⟨cs,rfl⟩:=ha
   simp only[E.cells?]at hl;split at hl
   .rename_i h1
    cases hl;exact⟨bE.consts _ _ _ _,fun u hu=>List.all_eq_true.1 h1 u hu⟩
   .cases hl
  .have hx:(E.v v).cells? = if v.oneCell' then some [.v v]else none:=by
    cases v<;>first|rfl|exact absurd ⟨_,rfl⟩ ha
   rw[hx]at hl;split at hl
   .rename_i h1
    cases hl;exact single (.v v) h1 (by cases v<;>first|rfl|exact absurd ⟨_,rfl⟩ ha)
   .cases hl
 | agg l vs h k =>
  simp only[E.cells?]at hl;split at hl
  .rename_i h1
   cases hl;refine⟨⟨h,k⟩,?_⟩;intro u hu;obtain⟨i,hi⟩:=List.mem_iff_getElem?.1 hu;have hil:i<l.length:=by
    obtain⟨hi,_⟩:=List.getElem?_eq_some_iff.1 hi;simp[Value.cells]at hi;omega
   exact(k i _ u (List.getElem?_eq_getElem hil) (by simpa[Value.cells]using hi)).one (List.all_eq_true.1 h1 _ (List.getElem_mem hil))
  .cases hl
 | aq=>simp[E.cells?]at hl
 | sl nl n sz el A c f hc hm h0 hl' hr cell k=>simp only[E.cells?]at hl;cases hl;exact single (.sl nl n sz el A c f hc hm h0 hl' hr cell k) rfl rfl
 | ref m el b o f hb hlt hl' cell k=>simp only[E.cells?]at hl;cases hl;exact single (.ref m el b o f hb hlt hl' cell k) rfl rfl
 | fn f l' vs h k=>simp only[E.cells?]at hl;cases hl;exact single (.fn f l' vs h k) rfl rfl
open Go.RowKit
structure TI where
 id:TypeId
 d:TypeDesc
 i:TypeInfo
def cD(P:Program)(T:List TI):Prop:=∀ x,x ∈ T->P.underlying x.id=some x.d/\P.info? x.id=some x.i
def de:List TI->TypeId->Option TI
 | [],_=>none
 | x::l,t=>if Nat.beq x.id t then some x else de l t
def descOf(T:List TI)(t:TypeId):Option TypeDesc:=match de T t with
 | some x=>some x.d
 | none=>none
def TI.isAgg(x:TI):Bool:=match x.d with
 | .struct _ | .array _ _=>true
 | _=>false
inductive CV where
 | e (x:E)
 | box (id:Nat)
inductive PV where
 | e (x:E)
 | box (id off:Nat)
 | own (id:Nat)
 | eZ (id sz i j:Nat)
 | aL (id k:Nat)
 | gw (f:FuncId) (cap:List CV)
def CV.refs:CV->List Nat
 | .e _=>[]
 | .box id=>[id]
def PV.refs:PV->List Nat
 | .e _=>[]
 | .box id _ | .own id | .eZ id _ _ _ | .aL id _=>[id]
 | .gw _ cap=>cap.flatMap CV.refs
inductive Bx where
 | cells (T:TypeId) (l:List E)
 | row (nl:Bool) (T:TypeId) (n sz:Nat) (el:Nat->Nat->E)
 | rows (nl:Bool) (T1 T0:TypeId) (n sz:Nat) (len:Nat->Nat) (el:Nat->Nat->Nat->E) (pend:Option Nat)
def Bx.nl:Bx->Bool
 | .cells _ l=>l.all E.dv
 | .row nl ..=>nl
 | .rows nl ..=>nl
structure PS where
 n:Nat
 nl:Bool
 t:List (Nat×PV)
 b:List (Nat×Bx)
def look{α:Type}:List (Nat×α)->Nat->Option α
 | [],_=>none
 | (k,x)::l,t=>if Nat.beq k t then some x else look l t
def PS.get(σ:PS)(t:Nat):PV:=(look σ.t t).getD (.e .any)
def PS.bo(σ:PS)(id:Nat):Option Bx:=look σ.b id
def PS.op(σ:PS):Operand->PV
 | .tmp t=>σ.get t
 | .const v=>.e (.v v)
 | .global g=>.e (.v (.pointer (some ⟨g,0,none⟩)))
 | .func f=>.e (.fn f [])
inductive fX where
 | none
 | new (id:Nat) (b:Bx)
 | jg (id:Nat) (b:Bx)
 | grow (id:Nat) (b:Bx)
 | jR (id:Nat) (b:Bx)
 | fin (id:Nat)
structure Out where
 r:PV
 f:fX:=.none
 rb:List Nat:=[]
 aM:List Prop:=[]
 rd:List PV:=[]
def PV.void:fX->PV->PV
 | .grow id _,.own i=>if Nat.beq i id then .e .any else .own i
 | .grow id _,.eZ i s x j=>if Nat.beq i id then .e .any else .eZ i s x j
 | .jR id _,.aL i k=>if Nat.beq i id then .e .any else .aL i k
 | .fin id,p=>if p.refs.any (Nat.beq id)then .e .any else p
 | _,p=>p
def pD(l:List (Nat×Bx))(id:Nat)(b:Bx):List (Nat×Bx):=(id,b)::l.filter fun x=>!Nat.beq x.1 id
def fX.boxes:fX->List (Nat×Bx)->List (Nat×Bx)
 | .none,l=>l
 | .new id b,l | .jg id b,l | .grow id b,l | .jR id b,l=>pD l id b
 | .fin id,l=>l.filter fun x=>!Nat.beq x.1 id
def fX.uS:fX->Bool
 | .grow .. | .jR .. | .fin ..=>true
 | _=>false
def PS.fI(σ:PS)(f:fX):PS:={ σ with t:=if f.uS then σ.t.map fun x=>(x.1,x.2.void f)else σ.t,b:=f.boxes σ.b }
def PS.put(σ:PS)(d:Option Tmp)(p:PV):PS:=match d with
 | some d=>{ σ with t:=(d,p)::σ.t.filter fun x=>!Nat.beq x.1 d }
 | none=>σ
def bG:IntKind->Int->Prop
 | .i8,z=>-128<=z/\z<=127
 | .i16,z=>-32768<=z/\z<=32767
 | .i32,z=>-2147483648<=z/\z<=2147483647
 | .i64,z=>-9223372036854775808<=z/\z<=9223372036854775807
 | .u8,z=>0<=z/\z<=255
 | .u16,z=>0<=z/\z<=65535
 | .u32,z=>0<=z/\z<=4294967295
 | .u64,z=>0<=z/\z<=18446744073709551615
def sameKind(op:BinOp)(k k':IntKind):Bool:=match op with
 | .shl=>true
 | .shr=>true
 | _=>decide (k=k')
def vj(k:IntKind)(x y:Int):Int:=match k with
 | .u32=>IntKind.u32.wrap (x+y)
 | _=>x+y
def Ae(k:IntKind)(x y:Int):List Prop:=match k with
 | .u32=>[]
 | _=>[bG k (x+y)]
def wj(op:BinOp)(k:IntKind)(x:Int)(y:Int):Option (Value×List Prop):=match op with
 | .add=>some (.int k (vj k x y),Ae k x y)
 | .sub=>some (.int k (x-y),[bG k (x-y)])
 | .mul=>some (.int k (x*y),[bG k (x*y)])
 | .quo=>some (.int k (x.tdiv y),[0<y,bG k x])
 | .rem=>some (.int k (x.tmod y),[0<y])
 | .and=>some (.int k (bits .and k x y),[])
 | .or=>some (.int k (bits .or k x y),[])
 | .shl=>some (.int k (k.wrap (x*2^y.toNat)),[0<=y/\y<=k.bits])
 | .shr=>some (.int k (x/2^y.toNat),[0<=y/\y<=k.bits])
 | .eql=>some (.bool (x==y),[])
 | .neq=>some (.bool (x != y),[])
 | .lss=>some (.bool (decide (x<y)),[])
 | .leq=>some (.bool (decide (x<=y)),[])
 | .gtr=>some (.bool (decide (y<x)),[])
 | .geq=>some (.bool (decide (y<=x)),[])
 | _=>none
def PS.read(σ:PS)(p:PV)(m:Nat):Option (List E×List Nat×List Prop):=match p with
 | .box id off=>match σ.bo id with
  | some (.cells _ l)=>if Nat.ble (off+m) l.length then some ((l.drop off).take m,[id],[])else none
  | _=>none
 | .eZ id sz i j=>match σ.bo id with
  | some (.row _ _ n s el)=>if Nat.beq s sz&&Nat.ble (j+m) sz then some ((List.range m).map fun q=>el i (j+q),[id],[i<n])else none
  | _=>none
 | .e (.ref k el)=>if Nat.ble m k then some ((List.range m).map el,[],[])else none
 | _=>none
def CV.ext(σ:PS):CV->Option (E×List Nat)
 | .e x=>some (x,[])
 | .box id=>match σ.bo id with
  | some (.cells _ l)=>some (.ref l.length fun j=>l.getD j .any,[id])
  | _=>none
def extAll(σ:PS):List CV->Option (List E×List Nat)
 | []=>some ([],[])
 | c::l=>match c.ext σ,extAll σ l with
  | some (x,i),some (xs,is)=>some (x::xs,i++is)
  | _,_=>none
def PV.nA:PV->Bool
 | .own _=>true
 | _=>false
def PV.ext(σ:PS):PV->Option (E×List Nat)
 | .e x=>some (x,[])
 | .own id=>match σ.bo id with
  | some (.row nl _ n sz el)=>some (.sl nl n sz el,[id])
  | _=>none
 | .box id 0=>match σ.bo id with
  | some (.cells _ l)=>some (.ref l.length fun j=>l.getD j .any,[id])
  | _=>none
 | .gw f cap=>match extAll σ cap with
  | some (xs,is)=>some (.fn f xs,is)
  | none=>none
 | _=>none
def jk(σ:PS):List Operand->Option (List E×List Nat)
 | []=>some ([],[])
 | o::l=>match(σ.op o).ext σ,jk σ l with
  | some (x,i),some (xs,is)=>some (x::xs,i++is)
  | _,_=>none
def kV:List PV->Option (List CV)
 | []=>some []
 | .e x::l=>(kV l).map (.e x :: ·)
 | .box id 0::l=>(kV l).map (.box id :: ·)
 | _::_=>none
def eo(w:World)(b:Nat):Prop:=∀ o x,w.cell? ⟨b,o,none⟩≠some (.int .u32 x)
structure PC(P:Program)(K:World->Prop)(f:FuncId)(args:List E)(res:E):Prop where
 call:∀ (vs:Array Value) (w:World),(callFunc f vs).run P w = .ok (.enter f vs) w
 run:∀ (w:World) (B:Nat->Prop) (vs:List Value),K w->(∀ b,B b->b<w.heap.size/\eo w b)->bE B (fun _=>False) w args vs ->
  Calls P f vs.toArray w (fun e w'=>∃ v,e = .returned v/\Below w.heap.size w w'/\ax B (fun _=>True) w' res v)
structure oi(P:Program)(K:World->Prop)(f:FuncId)(args:List E)(res:E):Prop where
 call:∀ (vs:Array Value) (w:World),(callFunc f vs).run P w = .ok (.enter f vs) w
 run:∀ (w:World) (B:Nat->Prop) (vs:List Value),K w->(∀ b,B b->b<w.heap.size)->bE B (fun _=>False) w args vs ->
  Calls P f vs.toArray w (fun e w'=>∃ v,e = .returned v/\Below w.heap.size w w'/\ax B (fun _=>True) w' res v)
theorem oi.pc{P:Program}{K:World->Prop}{f:FuncId}{args:List E}{res:E}(h:oi P K f args res):PC P K f args res :=
 ⟨h.call,fun w B vs hK hB hr=>h.run w B vs hK (fun b hb=>(hB b hb).1) hr⟩
def fl(w:World)(v:Value)(T:TypeId)(n sz:Nat)(f:Nat->Nat->Value)(nl:Bool):Prop :=
 (v = .slice none 0 0/\n=0) \/
 ∃ (b c:Nat) (cur:Array Value),v = .slice (some ⟨b,0,none⟩) n c/\w.heap[b]? = some (.cells cur T (0,0))/\n<=c/\c<=maxLen/\cur.size=c*sz /\
  (∀ i j,i<n->j<sz->cur[i*sz+j]? = some (f i j)/\(f i j).oneCell'=true)/\(nl=true->∀ u,u ∈ cur->gS u=false)
structure ji(P:Program)(K:World->Prop)(f:FuncId)(args:List E)(nl:Bool)(T:TypeId)(n sz:Nat)(el:Nat->Nat->E):Prop where
 call:∀ (vs:Array Value) (w:World),(callFunc f vs).run P w = .ok (.enter f vs) w
 run:∀ (w:World) (B:Nat->Prop) (vs:List Value),K w->(∀ b,B b->b<w.heap.size/\eo w b)->bE B (fun _=>False) w args vs ->
  Calls P f vs.toArray w (fun e w'=>∃ v,e = .returned v/\Below w.heap.size w w'/\∃ g,fl w' v T n sz g nl/\(∀ x,v.ownBlock=some x->w.heap.size<=x/\x<w'.heap.size) /\
   ∀ i j,i<n->j<sz->ax (fun b=>B b\/v.ownBlock=some b) (fun _=>True) w' (el i j) (g i j)/\(el i j).nr 2=true)
structure eu where
 cl:List (Nat×E):=[]
 ov:List (Nat×PV):=[]
 nw:List (Nat×Bx):=[]
def q6(T:List TI):List Field->Option (List (Nat×Nat))
 | []=>some []
 | f::fs=>match de T f.type,q6 T fs with
  | some ti,some l=>some ((f.offset,ti.i.size)::l)
  | _,_=>none
def mI(l:List E)(off:Nat)(m:List E):List E:=l.take off++m++l.drop (off+m.length)
def gz(σ:PS)(place:Nat->Option (Nat×Nat)):List E->List (Nat×Operand)->Option (List E)
 | l,[]=>some l
 | l,(i,x)::ps=>match place i,σ.op x with
  | some (off,size),.e e=>match e.cells? with
   | some m=>if Nat.beq m.length size&&Nat.ble (off+m.length) l.length then gz σ place (mI l off m) ps else none
   | none=>none
  | _,_=>none
def lQ(ti:TI):Option (List E):=match ti.i.zero with
 | some z=>(E.v z).cells?
 | none=>none
def rep{α:Type}:Nat->List α->List α
 | 0,_=>[]
 | n+1,l=>l++rep n l
def eJ(P:Program)(op:BinOp)(t:TypeId)(x y:E)(v:Value):Prop:=∀ (bs br:Nat->Prop) (w:World) (a b:Value) (ox oy:Operand),ax bs br w x a->ax bs br w y b->(eqGuard op t ox oy a b).run P w = .ok () w/\(binOp op t a b).run P w = .ok v w
def MC(O:eu)(d:Option Tmp):Option Value:=match d with
 | some d=>match look O.cl d with
  | some (.v v)=>some v
  | _=>none
 | none=>none
def mo(P:Program)(K:World->Prop)(O:eu)(σ:PS)(d:Option Tmp)(f:FuncId)(xs:List E)(is:List Nat)(ow:Bool):Option Out :=
 match(match d with
  | some d=>look O.cl d
  | none=>some .any)with
 | some res=>if res.plain 3||(σ.nl && !ow)then some { r:=.e res,rb:=is,aM:=[PC P K f xs res] }else if !ow then some { r:=.e res,rb:=is,aM:=[oi P K f xs res] }else none
 | none=>match d with
  | some d=>match look O.nw d,σ.bo d with
   | some (.row nl T n sz el),none=>if(σ.nl&&nl) && !ow then some { r:=.own d,f:=.new d (.row nl T n sz el),rb:=is,aM:=[ji P K f xs nl T n sz el] }else none
   | _,_=>none
  | none=>none
def jT(σ:PS)(d:Option Tmp)(b:Bx)(r:Nat->PV)(aM:List Prop):Option Out:=match d with
 | some d=>match σ.bo d with
  | none=>if !σ.nl||b.nl then some { r:=r d,f:=.new d b,aM:=aM }else none
  | some _=>none
 | none=>none
def mn(T:List TI)(σ:PS)(d:Option Tmp)(t:TypeId)(s x:PV):Option Out:=match x with
 | .e (.sl nl2 m sz2 el2)=>match de T t with
  | some tt=>match tt.d with
   | .slice e=>match de T e with
    | some te=>match lQ te with
     | some z=>if Nat.beq te.i.size sz2&&Nat.ble 1 sz2&&Nat.ble 1 te.i.bytes&&Nat.beq z.length sz2 then match s with
      | .own id=>match σ.bo id with
       | some (.row nl T1 n sz el)=>if Nat.beq T1 e&&Nat.beq sz sz2&&(!σ.nl||(nl&&(nl2&&z.all E.dv)))then
         some { r:=.own id,f:=.grow id (.row (nl&&(nl2&&z.all E.dv)) T1 (n+m) sz fun i j=>if i<n then el i j else el2 (i-n) j),rb:=[id],aM:=[(n+m)*te.i.bytes<=140737488355328] }
        else none
       | _=>none
      | .aL id k=>match σ.bo id with
       | some (.rows nl T1 T0 n sz len el none)=>if Nat.beq T0 e&&Nat.beq sz sz2&&(!nl||(nl2&&z.all E.dv))then
         some { r:=.aL id k,f:=.jR id (.rows nl T1 T0 n sz (fun q=>if q=k then len q+m else len q) (fun q i j=>if q=k then(if i<len q then el q i j else el2 (i-len q) j)else el q i j) (some k)),rb:=[id],aM:=[k<n,(len k+m)*te.i.bytes<=140737488355328] }
        else none
       | _=>none
      | .e (.v (.slice none 0 0))=>jT σ d (.row (nl2&&z.all E.dv) e m sz2 el2) .own [m*te.i.bytes<=140737488355328]
      | _=>none
     else none
     | none=>none
    | none=>none
   | _=>none
  | none=>none
 | _=>none
def nv(T:List TI)(σ:PS)(d:Option Tmp)(t:TypeId)(s x:PV):Option Out:=match mn T { σ with nl:=false } d t s x with
 | some u=>match u.f,u.r with
  | .grow id (.row nl _ n sz el),.own id'=>if Nat.beq id' id then some { r:=.e (.sl nl n sz el),f:=.fin id,rb:=u.rb,aM:=True::u.aM }else none
  | _,_=>none
 | none=>none
def Ch(T:List TI)(t:TypeId)(l c:PV):Option (Bx×List Prop):=match l,c with
 | .e (.v (.int _ l)),.e (.v (.int _ c))=>match de T t with
  | some tt=>match tt.d with
   | .slice e=>match de T e with
    | some te=>match lQ te with
     | some z=>if Nat.beq te.i.size z.length&&Nat.ble 1 te.i.size then
       let aM:=[0<=l/\l<=c,(te.i.bytes:Int)*c<=281474976710656/\c<=9223372036854775807]
       match te.d with
       | .slice e0=>match de T e0,z with
        | some t0,[.v (.slice none 0 0)]=>some (.rows true e e0 l.toNat t0.i.size (fun _=>0) (fun _ _ _=>.any) none,aM)
        | _,_=>none
       | _=>some (.row (z.all E.dv) e l.toNat te.i.size (fun _ j=>z.getD j .any),aM)
      else none
     | none=>none
    | none=>none
   | _=>none
  | none=>none
 | _,_=>none
def sU(T:List TI)(σ:PS)(d:Option Tmp)(t:TypeId)(l c:PV):Option Out:=match Ch T t l c with
 | some (b,aM)=>jT σ d b .own aM
 | none=>none
def sV(T:List TI)(t:TypeId)(x:PV)(lo hi:Option PV):Option Out:=match x with
 | .e (.sl nl n sz el)=>match de T t with
  | some tt=>match tt.d with
   | .slice e=>match de T e with
    | some te=>if Nat.beq te.i.size sz then match lo,hi with
     | none,some (.e (.v (.int _ h)))=>some { r:=.e (.sl nl h.toNat sz el),aM:=[0<=h/\h<=n] }
     | some (.e (.v (.int _ l))),none=>some { r:=.e (.sl nl (n-l.toNat) sz fun i j=>el (l.toNat+i) j),aM:=[0<=l/\l<=n] }
     | some (.e (.v (.int _ l))),some (.e (.v (.int _ h)))=>some { r:=.e (.sl nl (h.toNat-l.toNat) sz fun i j=>el (l.toNat+i) j),aM:=[0<=l/\l<=h/\h<=n] }
     | _,_=>none
     else none
    | none=>none
   | _=>none
  | none=>none
 | _=>none
def sS(T:List TI)(σ:PS)(t:TypeId)(x i:PV):Option Out:=match i with
 | .e (.v (.int _ z))=>match de T t with
  | some tt=>match tt.d with
   | .slice e=>match de T e with
    | some te=>match x with
     | .e (.sl _ n sz el)=>if Nat.beq te.i.size sz&&Nat.ble 1 sz then some { r:=.e (.ref sz (el z.toNat)),aM:=[0<=z/\z<n] }else none
     | .own id=>match σ.bo id with
      | some (.row _ _ n sz _)=>if Nat.beq te.i.size sz then some { r:=.eZ id sz z.toNat 0,rb:=[id],aM:=[0<=z/\z<n] }else none
      | some (.rows _ _ _ n _ _ _ _)=>if Nat.beq te.i.size 1 then some { r:=.eZ id 1 z.toNat 0,rb:=[id],aM:=[0<=z/\z<n] }else none
      | _=>none
     | _=>none
    | none=>none
   | .array n e=>match de T e with
    | some te=>match x with
     | .box id off=>some { r:=.box id (off+z.toNat*te.i.size),aM:=[0<=z/\z<n] }
     | .e (.ref m el)=>if Nat.beq (n*te.i.size) m then some { r:=.e (.ref te.i.size fun j=>el (z.toNat*te.i.size+j)),aM:=[0<=z/\z<n] }else none
     | _=>none
    | none=>none
   | _=>none
  | none=>none
 | _=>none
def sW(T:List TI)(σ:PS)(t:TypeId)(a x:PV):Option Out:=match de T t with
 | some ti=>match a,x with
  | .box id off,.e e=>match σ.bo id,e.cells? with
   | some (.cells T1 l),some m=>if Nat.beq m.length ti.i.size&&Nat.ble (off+m.length) l.length&&(!σ.nl||m.all E.dv)then
     some { r:=.e .any,f:=.jg id (.cells T1 (mI l off m)),rb:=[id] }else none
   | _,_=>none
  | .eZ id sz i j,.e e=>match σ.bo id,e.cells? with
   | some (.row nl T1 n s el),some m=>if Nat.beq m.length ti.i.size&&Nat.beq s sz&&Nat.ble (j+m.length) sz&&(!nl||m.all E.dv)&&m.all (E.nr 2)then
     some { r:=.e .any,f:=.jg id (.row nl T1 n s fun i' j'=>if i'=i/\j<=j'/\j'<j+m.length then m.getD (j'-j) .any else el i' j'),rb:=[id],aM:=[i<n] }else none
   | _,_=>none
  | .eZ id 1 i 0,.aL id' k=>match σ.bo id with
   | some (.rows nl T1 T0 n sz len el (some k'))=>if Nat.beq id id'&&Nat.beq ti.i.size 1 then
     some { r:=.e .any,f:=.jg id (.rows nl T1 T0 n sz len el none),rb:=[id],aM:=[i=k',k=k',k'<n] }else none
   | _=>none
  | _,_=>none
 | none=>none
def jq:PV->PS->Option (Value×List Nat)
 | .e (.sl _ n _ _),_=>some (.int .i64 (n:Int),[])
 | .e (.v (.slice _ n _)),_=>some (.int .i64 (n:Int),[])
 | .own id,σ=>match σ.bo id with
  | some (.row _ _ n _ _)=>some (.int .i64 (n:Int),[id])
  | some (.rows _ _ _ n _ _ _ _)=>some (.int .i64 (n:Int),[id])
  | _=>none
 | _,_=>none
def qE(ti:TI):Option (List E×List Nat×List Prop)->Option Out
 | some (l,is,aM)=>if ti.isAgg then some { r:=.e (.agg l),rb:=is,aM:=aM }else match l with
  | [e]=>some { r:=.e e,rb:=is,aM:=aM }
  | _=>none
 | none=>none
def nV(σ:PS):PV->Option (Nat×Nat×Nat)
 | .eZ id sz i j=>match σ.bo id with
  | some (.rows _ _ _ n _ _ _ none)=>if Nat.beq sz 1&&Nat.beq j 0 then some (id,i,n)else none
  | _=>none
 | _=>none
def sT(T:List TI)(σ:PS)(t:TypeId)(p:PV):Option Out:=match de T t with
 | some ti=>match nV σ p with
  | some (id,i,n)=>if ti.isAgg then none else some { r:=.aL id i,rb:=[id],aM:=[i<n] }
  | none=>qE ti (σ.read p ti.i.size)
 | none=>none
def sk(O:eu):Option Tmp->Bool
 | some d=>(look O.nw d).isSome
 | none=>false
def aS(P:Program)(K:World->Prop)(T:List TI)(O:eu)(σ:PS)(o:Oper):Option Out:=match o.op with
 | .move x=>some { r:=σ.op x }
 | .assign x=>some { r:=σ.op x }
 | .pick c a b=>match σ.op c with
  | .e (.v (.bool true))=>some { r:=σ.op a }
  | .e (.v (.bool false))=>some { r:=σ.op b }
  | _=>none
 | .alloc t=>match de T t with
  | some ti=>match lQ ti with
   | some z=>jT σ o.dst (.cells t z) (.box · 0) []
   | none=>none
  | none=>none
 | .box t x=>match σ.op x with
  | .e e=>match e.cells? with
   | some l=>jT σ o.dst (.cells t l) (.box · 0) []
   | none=>none
  | _=>none
 | .build t ps=>match de T t with
  | some ti=>match lQ ti with
   | some z=>match ti.d with
    | .struct fs=>match q6 T fs.toList with
     | some pl=>(gz σ (fun i=>pl[i]?) z ps.toList).map fun l=>{ r:=.e (.agg l) }
     | none=>none
    | .array _ e=>match de T e with
     | some te=>(gz σ (fun i=>some (i*te.i.size,te.i.size)) z ps.toList).map fun l=>{ r:=.e (.agg l) }
     | none=>none
    | _=>none
   | none=>none
  | none=>none
 | .buildSlice t n ps=>match de T t with
  | some tt=>match tt.d with
   | .slice e=>match de T e with
    | some te=>match lQ te with
     | some z=>if Nat.beq z.length te.i.size&&Nat.ble 1 te.i.size&&Nat.ble (n*te.i.size) 16777216 then
       (gz σ (fun i=>some (i*te.i.size,te.i.size)) (rep n z) ps.toList).bind fun l =>
        if !(l.all (E.nr 2))then none else if sk O o.dst then jT σ o.dst (.row (l.all E.dv) e n te.i.size fun i j=>l.getD (i*te.i.size+j) (.v (.bool false))) .own [True]
        else if l.all E.dv then some { r:=.e (.sl true n te.i.size fun i j=>l.getD (i*te.i.size+j) (.v (.bool false))) }
        else some { r:=.e (.sl false n te.i.size fun i j=>l.getD (i*te.i.size+j) (.v (.bool false))) }
      else none
     | none=>none
    | none=>none
   | _=>none
  | none=>none
 | .load t a=>sT T σ t (σ.op a)
 | .store t a x=>sW T σ t (σ.op a) (σ.op x)
 | .nilCheck x=>match σ.op x with
  | .box id off=>some { r:=.box id off }
  | .e (.ref m el)=>some { r:=.e (.ref m el) }
  | .e (.fn f c)=>some { r:=.e (.fn f c) }
  | .gw f c=>some { r:=.gw f c }
  | _=>none
 | .binOp op t x y _=>match σ.op x,σ.op y with
  | .e (.v (.int k a)),.e (.v (.int k' b)) =>
   if sameKind op k k' then(wj op k a b).map fun r=>{ r:=.e (.v r.1),aM:=r.2 }else none
  | .e (.v (.bool a)),.e (.v (.bool b))=>match descOf T t with
   | some .bool=>match op with
    | .eql=>some { r:=.e (.v (.bool (a==b))) }
    | .neq=>some { r:=.e (.v (.bool (!(a==b)))) }
    | _=>none
   | _=>none
  | .e (.sl _ n _ _),.e (.v (.slice none 0 0))=>match descOf T t with
   | some (.slice _)=>match op with
    | .eql=>some { r:=.e (.v (.bool false)),aM:=[0<n] }
    | .neq=>some { r:=.e (.v (.bool true)),aM:=[0<n] }
    | _=>none
   | _=>none
  | .e a,.e b=>match MC O o.dst with
   | some v=>some { r:=.e (.v v),aM:=[eJ P op t a b v] }
   | none=>none
  | _,_=>none
 | .unOp op _ x=>match op,σ.op x with
  | .not,.e (.v (.bool b))=>some { r:=.e (.v (.bool (!b))) }
  | .neg,.e (.v (.int k z))=>some { r:=.e (.v (.int k (0-z))),aM:=[bG k (0-z)] }
  | _,_=>none
 | .convert src dst x=>match descOf T dst,de T src,σ.op x with
  | some (.int k),some _,.e (.v (.int _ z))=>some { r:=.e (.v (.int k (k.wrap z))) }
  | _,_,_=>none
 | .makeFunc (.func f) first cap=>if first.isEmpty then match kV (cap.toList.map σ.op)with
   | some l=>some { r:=.gw f l }
   | none=>none
  else none
 | .makeSlice t l c=>sU T σ o.dst t (σ.op l) (σ.op c)
 | .slice t x lo hi none=>sV T t (σ.op x) (lo.map σ.op) (hi.map σ.op)
 | .fieldAddr t x f=>match descOf T t with
  | some (.struct fs)=>match fs[f]? with
   | some fd=>match de T fd.type with
    | some ft=>if Nat.beq ft.i.size 0 then none else match σ.op x with
     | .box id off=>some { r:=.box id (off+fd.offset) }
     | .eZ id sz i j=>some { r:=.eZ id sz i (j+fd.offset) }
     | .e (.ref m el)=>if Nat.ble fd.offset m then some { r:=.e (.ref (m-fd.offset) fun j=>el (fd.offset+j)) }else none
     | _=>none
    | none=>none
   | none=>none
  | _=>none
 | .indexAddr t x i=>sS T σ t (σ.op x) (σ.op i)
 | .index t x i=>match σ.op x,σ.op i with
  | .e (.agg l),.e (.v (.int _ z))=>match de T t with
   | some tt=>match tt.d with
    | .array n e=>match de T e with
     | some te=>if te.isAgg&&Nat.beq (n*te.i.size) l.length then some { r:=.e (.agg ((l.drop (z.toNat*te.i.size)).take te.i.size)),aM:=[0<=z/\z<n] }else none
     | none=>none
    | _=>none
   | none=>none
  | _,_=>none
 | .field t x f=>match σ.op x,descOf T t with
  | .e (.agg l),some (.struct fs)=>match fs[f]? with
   | some fd=>match de T fd.type with
    | some ft=>if ft.isAgg then none else match l[fd.offset]? with
     | some e=>some { r:=.e e }
     | none=>none
    | none=>none
   | none=>none
  | _,_=>none
 | .extract x i=>match σ.op x with
  | .e (.aq l)=>match l[i]? with
   | some e=>some { r:=.e e }
   | none=>none
  | _=>none
 | .call c=>match c.callee with
  | .builtin .len=>match c.args.toList,c.argTypes.toList with
   | [x],[t]=>match descOf T t with
    | some (.slice _)=>(jq (σ.op x) σ).map fun r=>{ r:=.e (.v r.1),rb:=r.2 }
    | _=>none
   | _,_=>none
  | .builtin .append=>match c.args.toList,c.argTypes.toList with
   | [s,x],[t,t']=>if Nat.beq t t' then(if sk O o.dst then nv T σ o.dst t (σ.op s) (σ.op x)else mn T σ o.dst t (σ.op s) (σ.op x))else none
   | _,_=>none
  | .builtin .max=>match c.args.toList.map σ.op with
   | [.e (.v (.int k a)),.e (.v (.int _ b))]=>some { r:=.e (.v (.int k (if b>a then b else a))) }
   | [.e (.v (.int k a)),.e (.v (.int _ b)),.e (.v (.int _ z))]=>some { r:=.e (.v (.int k (if z>(if b>a then b else a)then z else(if b>a then b else a)))) }
   | _=>none
  | .builtin .min=>match c.args.toList.map σ.op with
   | [.e (.v (.int k a)),.e (.v (.int _ b))]=>some { r:=.e (.v (.int k (if b<a then b else a))) }
   | _=>none
  | .value f=>match σ.op f,jk σ c.args.toList with
   | .e (.fn g cap),some (xs,is)=>mo P K O σ o.dst g (xs++cap) is ((c.args.toList.map σ.op).any PV.nA)
   | .gw g cap,some (xs,is)=>match extAll σ cap with
    | some (ys,js)=>mo P K O σ o.dst g (xs++ys) (is++js) ((c.args.toList.map σ.op).any PV.nA)
    | none=>none
   | _,_=>none
  | _=>none
 | _=>none
structure Lk where
 live:Nat->Prop
 own:Nat->Nat->Prop
 val:Nat->Value
 aL:Nat->Nat->Value
def bu(L:Lk)(x:Nat):Prop:=∃ id,L.own id x
def bad(B:Nat->Prop)(L:Lk)(x:Nat):Prop:=B x\/bu L x
def kO(bs br:Nat->Prop)(L:Lk)(w:World):CV->Value->Prop
 | .e x,v=>ax bs br w x v
 | .box id,v=>L.live id/\∃ b,L.val id = .pointer (some ⟨b,0,none⟩)/\v = .pointer (some ⟨b,0,none⟩)
def dI(bs br:Nat->Prop)(L:Lk)(w:World):PV->Value->Prop
 | .e x,v=>ax bs br w x v
 | .box id off,v=>L.live id/\∃ b,L.val id = .pointer (some ⟨b,0,none⟩)/\v = .pointer (some ⟨b,off,none⟩)
 | .own id,v=>L.live id/\v=L.val id
 | .eZ id sz i j,v=>L.live id/\∃ b n c,L.val id = .slice (some ⟨b,0,none⟩) n c/\v = .pointer (some ⟨b,i*sz+j,none⟩)
 | .aL id k,v=>L.live id/\v=L.aL id k
 | .gw f cap,v=>∃ vs:List Value,v = .func (.func f) #[] vs.toArray/\vs.length=cap.length/\∀ (i:Nat) (c:CV) (x:Value),cap[i]? = some c->vs[i]? = some x->kO bs br L w c x
def PV.le(p q:PV):Prop:=∀ (bs br:Nat->Prop) (L:Lk) (w:World) (v:Value),dI bs br L w p v->dI bs br L w q v
def iQ(P:Program)(K:World->Prop)(T:List TI)(O:eu)(σ:PS)(o:Oper):Option Out:=match aS P K T O σ o with
 | some u=>match o.dst with
  | some d=>match look O.ov d with
   | some p=>some { u with r:=p,aM:=PV.le u.r p::u.aM }
   | none=>some u
  | none=>some u
 | none=>none
def lP(ops:Array Oper)(σ:PS)(o:Oper):Option Bool:=match o.guard with
 | none=>some true
 | some (j,want)=>match(ops[j]?).bind (·.dst)with
  | some t=>match σ.get t with
   | .e (.v (.bool true))=>some want
   | .e (.v (.bool false))=>some (!want)
   | .e (.v (.tuple _))=>some false
   | _=>none
  | none=>none
def PS.app(σ:PS)(d:Option Tmp)(u:Out):PS:=(σ.fI u.f).put d u.r
def jv(σ:PS):Option Tmp->Bool
 | some d=>Nat.blt d σ.n
 | none=>true
def qV:Op->List Operand
 | .move x | .assign x | .box _ x | .load _ x | .nilCheck x | .unOp _ _ x | .convert _ _ x | .fieldAddr _ x _ | .field _ x _ | .extract x _=>[x]
 | .pick c a b=>[c,a,b]
 | .build _ ps | .buildSlice _ _ ps=>ps.toList.map (·.2)
 | .store _ a v | .binOp _ _ a v _ | .makeSlice _ a v | .indexAddr _ a v | .index _ a v=>[a,v]
 | .makeFunc _ first captured=>first.toList++captured.toList
 | .slice _ x l h m=>x::(l.toList++h.toList++m.toList)
 | .call c=>(match c.callee with | .value f=>[f] | .invoke r _=>[r] | .builtin _=>[])++c.args.toList
 | _=>[]
def tmpsOf:List Operand->List Tmp
 | []=>[]
 | .tmp t::l=>t::tmpsOf l
 | _::l=>tmpsOf l
def looks(ops:Array Oper)(o:Oper):List Tmp:=tmpsOf (qV o.op)++(match o.guard with
 | some (g,_)=>((ops[g]?).bind (·.dst)).toList
 | none=>[])
def fJ(P:Program)(K:World->Prop)(T:List TI)(O:eu)(ops:Array Oper)(σ:PS)(o:Oper):Option Out :=
 if jv σ o.dst then match lP ops σ o with
  | some true=>match iQ P K T O σ o with
   | some u=>some { u with rd:=(looks ops o).map σ.get }
   | none=>none
  | some false=>some { r:=.e (.v (.tuple #[])),rd:=(looks ops o).map σ.get }
  | none=>none
 else none
def mq(P:Program)(K:World->Prop)(T:List TI)(O:eu)(ops:Array Oper):List Oper->PS->Option (List (Oper×Out)×PS)
 | [],σ=>some ([],σ)
 | o::l,σ=>match fJ P K T O ops σ o with
  | some u=>match mq P K T O ops l (σ.app o.dst u)with
   | some (us,τ)=>some ((o,u)::us,τ)
   | none=>none
  | none=>none
def wP(l:List Nat)(n:Nat):Bool:=l.any (Nat.beq n)
def fX.id:fX->Option Nat
 | .none=>Option.none
 | .new i _ | .jg i _ | .grow i _ | .jR i _ | .fin i=>some i
def keeps:fX->PV->Bool
 | .grow id _,.own i=>!Nat.beq i id
 | .grow id _,.eZ i _ _ _=>!Nat.beq i id
 | .jR id _,.aL i _=>!Nat.beq i id
 | .fin id,p=>!p.refs.any (Nat.beq id)
 | _,_=>true
def pj(l:List Nat):Option Nat->Bool
 | some d=>!wP l d
 | none=>true
def uM:Option Nat->Option Nat->Bool
 | some a,some b=>!Nat.beq a b
 | _,_=>true
def xF:PV->Bool
 | .e .any=>false
 | _=>true
def indep(ops:Array Oper)(x y:Oper×Out):Bool :=
 pj (looks ops y.1) x.1.dst&&uM x.1.dst y.1.dst&&pj (looks ops x.1) y.1.dst &&
 pj y.2.rb x.2.f.id&&pj x.2.rb y.2.f.id&&uM x.2.f.id y.2.f.id&&keeps x.2.f y.2.r&&keeps y.2.f x.2.r &&
 (!x.2.f.uS||y.2.rd.all xF)&&x.2.rd.all (keeps y.2.f)
def ny(o:Oper)(i:Nat):Bool:=o.after.toList.any fun e=>Region.binds .any e&&Nat.beq e.on i
def reach(ops:Array Oper):Nat->Oper->Nat->Bool
 | 0,o,i=>ny o i
 | n+1,o,i=>ny o i||o.after.toList.any fun e=>Region.binds .any e&&(match ops[e.on]? with
  | some z=>reach ops n z i
  | none=>false)
def nP(ops:Array Oper):Nat->List (Oper×Out)->Bool
 | _,[]=>true
 | i,x::l=>x.1.after.toList.all (fun e=>!Region.binds .any e||Nat.blt e.on i)&&l.all (fun y=>reach ops 3 y.1 i||indep ops x y)&&nP ops (i+1) l
def pQ:List (Oper×Out)->List Prop
 | []=>[]
 | x::l=>x.2.aM++pQ l
def wB(P:Program)(K:World->Prop)(T:List TI)(O:eu)(ops:Array Oper)(draw:Bool)(σ:PS):Option (PS×List Prop):=match mq P K T O ops ops.toList σ with
 | some (us,τ)=>if !draw||nP ops 0 us then some (τ,pQ us)else none
 | none=>none
def uI(σ:PS):PV->Option E
 | .e x=>if x.nr 3 then some x else none
 | .own id=>match σ.bo id with
  | some (.row nl _ n sz el)=>some (.sl nl n sz el)
  | some (.rows nl _ _ n sz len el none)=>some (.sl true n 1 fun k _=>.sl nl (len k) sz (el k))
  | _=>none
 | _=>none
def yA(T:List TI)(σ:PS):ResultVar->Option E
 | .tmp t=>uI σ (σ.get t)
 | .cell a t=>match de T t with
  | some ti=>match σ.read (σ.get a) ti.i.size with
   | some (l,_,[])=>if ti.isAgg then(if(E.agg l).nr 3 then some (.agg l)else none)else match l with
    | [e]=>if e.nr 3 then some e else none
    | _=>none
   | _=>none
  | none=>none
def pz(T:List TI)(σ:PS):List ResultVar->Option (List E)
 | []=>some []
 | x::l=>match yA T σ x,pz T σ l with
  | some e,some es=>some (e::es)
  | _,_=>none
def rq(T:List TI)(fn:Func)(σ:PS):Option E:=match pz T σ fn.results.toList with
 | some [e]=>some e
 | some l=>some (.aq l)
 | none=>none
inductive Ex where
 | normal
 | exit (id:Nat)
 | ret
def oW:Code->Nat
 | .region id _ _=>id
 | .seq a _=>oW a
 | .cond _ a _=>oW a
 | .block _ b=>oW b
 | .loop b=>oW b
 | _=>0
def qu:Nat->List E->List (Nat×PV)
 | _,[]=>[]
 | i,x::l=>(i,.e x)::qu (i+1) l
def lg(fn:Func)(nl:Bool)(args:List E):PS:={ n:=fn.ntmps,nl:=nl,t:=qu 0 args,b:=[] }
open Go.RowKit
theorem beq_iff{a b:Nat}:Nat.beq a b=true↔a=b:=⟨Nat.eq_of_beq_eq_true,fun h=>by subst h;exact Nat.beq_refl a⟩
theorem beq_false{a b:Nat}(h:a≠b):Nat.beq a b=false:=by
 cases hb:Nat.beq a b with
 | false=>rfl
 | true=>exact absurd (beq_iff.1 hb) h
theorem iE{α:Type}(k:Nat)(x:α)(l:List (Nat×α))(t:Nat):look ((k,x)::l) t=if k=t then some x else look l t:=by
 by_cases h:k=t
 .subst h;simp[look]
 .simp [look,h,beq_false h]
theorem qF{α:Type}(l:List (Nat×α))(d t:Nat)(h:d≠t):look (l.filter fun x=>!Nat.beq x.1 d) t=look l t:=by
 induction l with
 | nil=>rfl
 | cons y l ih =>
  obtain⟨k,x⟩:=y;rw[List.filter_cons];by_cases hk:k=d
  .subst hk
   simp only[Nat.beq_refl,Bool.not_true,Bool.false_eq_true,if_false];rw[ih,iE,if_neg h]
  .simp only[beq_false hk,Bool.not_false,if_true]
   rw[iE,iE,ih]
theorem Ds{α:Type}(l:List (Nat×α))(f:α->α)(t:Nat):look (l.map fun x=>(x.1,f x.2)) t=(look l t).map f:=by
 induction l with
 | nil=>rfl
 | cons y l ih =>
  obtain⟨k,x⟩:=y;rw[List.map_cons,iE,iE,ih];split<;>rfl
theorem PS.wO(σ:PS)(d:Nat)(p:PV)(t:Nat):(σ.put (some d) p).get t=if d=t then p else σ.get t:=by
 unfold PS.get PS.put;simp only[iE];by_cases h:d=t
 .rw [if_pos h,if_pos h];rfl
 .rw [if_neg h,if_neg h,qF _ _ _ h]
theorem PS.IY(σ:PS)(d:Option Tmp)(p:PV)(id:Nat):(σ.put d p).bo id=σ.bo id:=by cases d<;>rfl
theorem PS.xv(σ:PS)(d:Option Tmp)(p:PV):(σ.put d p).n=σ.n:=by cases d<;>rfl
theorem PS.Pk(σ:PS)(d:Option Tmp)(p:PV):(σ.put d p).nl=σ.nl:=by cases d<;>rfl
theorem tC(l:List (Nat×Bx))(id:Nat)(b:Bx)(t:Nat):look (pD l id b) t=if id=t then some b else look l t:=by
 unfold pD;rw[iE];by_cases h:id=t
 .rw [if_pos h,if_pos h]
 .rw [if_neg h,if_neg h,qF _ _ _ h]
theorem Dr{α:Type}(l:List (Nat×α))(d:Nat):look (l.filter fun x=>!Nat.beq x.1 d) d=none:=by
 induction l with
 | nil=>rfl
 | cons y l ih =>
  obtain⟨k,x⟩:=y;rw[List.filter_cons];by_cases hk:k=d
  .subst hk
   simpa only[Nat.beq_refl,Bool.not_true,Bool.false_eq_true,if_false]using ih
  .simp only[beq_false hk,Bool.not_false,if_true]
   rw[iE,if_neg hk,ih]
theorem xn{α:Type}(l:List (Nat×α))(i id:Nat):look (l.filter fun x=>!Nat.beq x.1 i) id=if i=id then none else look l id:=by
 by_cases h:i=id
 .subst h;rw[if_pos rfl];exact Dr _ _
 .rw [if_neg h];exact qF _ _ _ h
theorem PS.tc(σ:PS)(f:fX)(t:Nat):(σ.fI f).get t=(σ.get t).void f:=by
 unfold PS.get PS.fI;by_cases h:f.uS=true
 .simp only[h,if_true]
  rw[Ds];cases look σ.t t with
  | none=>cases f<;>rfl
  | some p=>rfl
 .have hv:∀ p:PV,p.void f=p:=by
   intro p;cases f<;>first|exact absurd rfl h|(cases p<;>rfl)
  simp only[h,hv];rfl
def gv(bs br:Nat->Prop)(L:Lk)(w:World)(id:Nat):Bx->Prop
 | .cells T l=>∃ b vs,L.val id = .pointer (some ⟨b,0,none⟩)/\(∀ x,L.own id x↔x=b)/\w.heap[b]? = some (.cells vs.toArray T (0,0))/\bE bs br w l vs/\∀ u,u ∈ vs->u.oneCell'=true
 | .row nl T n sz el=>∃ f:Nat->Nat->Value,fl w (L.val id) T n sz f nl/\(∀ x,L.own id x↔(L.val id).ownBlock=some x)/\∀ i j,i<n->j<sz->ax bs br w (el i j) (f i j)/\(el i j).nr 2=true
 | .rows nl T1 T0 n sz len el pend=>∃ (b c:Nat) (cur:Array Value) (f:Nat->Nat->Nat->Value),L.val id = .slice (some ⟨b,0,none⟩) n c/\w.heap[b]? = some (.cells cur T1 (0,0))/\n<=c/\c<=maxLen/\cur.size=c /\
   (∀ k,k<n->pend≠some k->cur[k]? = some (L.aL id k))/\(∀ u,u ∈ cur->u.oneCell'=true/\gS u=false) /\
   (∀ k,k<n->fl w (L.aL id k) T0 (len k) sz (f k) nl/\∀ i j,i<len k->j<sz->ax bs br w (el k i j) (f k i j)/\(el k i j).nr 2=true) /\
   (∀ x,L.own id x↔x=b\/∃ k,k<n/\(L.aL id k).ownBlock=some x) /\
   (∀ k k' x,k<n->k'<n->(L.aL id k).ownBlock=some x->(L.aL id k').ownBlock=some x->k=k')/\(∀ k,k<n->(L.aL id k).ownBlock≠some b)
structure Rel(w0:World)(B:Nat->Prop)(σ:PS)(a:Act)(w:World)(L:Lk):Prop where
 hd:a.defers=[]
 hs:a.tmps.size=σ.n
 ht:∀ t,dI (bad B L) (bu L) L w (σ.get t) (a.tmps.getD t undef)
 hb:∀ id b,σ.bo id=some b->gv (bad B L) (bu L) L w id b
 hv:∀ id,L.live id↔(σ.bo id).isSome=true
 hn:∀ id x,L.own id x->L.live id
 hw:∀ id x,L.own id x->w0.heap.size<=x/\x<w.heap.size
 hi:∀ id id' x,L.own id x->L.own id' x->id=id'
 he:Below w0.heap.size w0 w
 hl:σ.nl=true->∀ id b,σ.bo id=some b->b.nl=true
structure gN(L:Lk)(w:World)(L':Lk)(w':World):Prop where
 size:w.heap.size<=w'.heap.size
 bu:∀ x,x<w.heap.size->Pu.bu L' x->Pu.bu L x
 eH:∀ x,x<w.heap.size->¬Pu.bu L x->w'.heap[x]? = w.heap[x]?
theorem gN.rep{B:Nat->Prop}{L L':Lk}{w w':World}(h:gN L w L' w'){e:E}{v:Value}(k:ax (bad B L) (Pu.bu L) w e v):ax (bad B L') (Pu.bu L') w' e v:=by
 refine k.mono h.size (fun b hb hx=>?_) (fun b hb hx=>h.bu b hb hx) (fun b o x hb hor hc=>?_)
 .rcases hx with hx|hx
  .exact .inl hx
  .exact .inr (h.bu b hb hx)
 .have hm:¬Pu.bu L b:=by
   rcases hor with hor|hor
   .exact fun hm=>hor (.inr hm)
   .exact hor
  rw[<-hc];exact World.cell?_of_block (w:=w) (h.eH b hb hm)
theorem gN.refl(L:Lk)(w:World):gN L w L w:=⟨Nat.le_refl _,fun _ _ h=>h,fun _ _ _=>rfl⟩
theorem fl.block{w w':World}{v:Value}{T:TypeId}{n sz:Nat}{f:Nat->Nat->Value}{nl:Bool}(h:fl w v T n sz f nl)
  (hk:∀ x,v.ownBlock=some x->w'.heap[x]? = w.heap[x]?):fl w' v T n sz f nl:=by
 rcases h with h|⟨b,c,cur,rfl,hg,r⟩
 .exact .inl h
 .exact .inr ⟨b,c,cur,rfl,by rw[hk b rfl];exact hg,r⟩
theorem gv.later{B:Nat->Prop}{L L':Lk}{w w':World}(h:gN L w L' w'){id:Nat}{b:Bx}(k:gv (bad B L) (bu L) L w id b)
  (hv:L'.val id=L.val id) (ho:∀ x,L'.own id x↔L.own id x) (hin:∀ j,L'.aL id j=L.aL id j) (hk:∀ x,L.own id x->w'.heap[x]? = w.heap[x]?):gv (bad B L') (bu L') L' w' id b:=by
 cases b with
 | cells T l =>
  obtain⟨b,vs,h1,h2,h3,h4,h5⟩:=k;exact⟨b,vs,by rw[hv];exact h1,fun x=>(ho x).trans (h2 x),by rw[hk b ((h2 b).2 rfl)];exact h3,h4.mono fun _ _=>h.rep,h5⟩
 | row nl T n sz el =>
  obtain⟨f,h1,h2,h3⟩:=k;exact⟨f,by rw[hv];exact h1.block fun x hx=>hk x ((h2 x).2 hx),fun x=>by rw[ho,hv];exact h2 x,fun i j hi hj=>⟨h.rep (h3 i j hi hj).1,(h3 i j hi hj).2⟩⟩
 | rows nl T1 T0 n sz len el pend =>
  obtain⟨b,c,cur,f,h1,h2,h3,h4,h5,h6,h7,h8,h9,h10,h11⟩:=k;have e:L'.aL id=L.aL id:=funext hin;refine⟨b,c,cur,f,by rw[hv];exact h1,by rw[hk b ((h9 b).2 (.inl rfl))];exact h2,h3,h4,h5,by rw[e];exact h6,h7,?_,?_,by rw[e];exact h10,by rw[e];exact h11⟩
  .intro k hkn
   obtain⟨q1,q2⟩:=h8 k hkn;rw[e];exact⟨q1.block fun x hx=>hk x ((h9 x).2 (.inr ⟨k,hkn,hx⟩)),fun i j hi hj=>⟨h.rep (q2 i j hi hj).1,(q2 i j hi hj).2⟩⟩
  .intro x
   rw[ho,e];exact h9 x
theorem kO.later{B:Nat->Prop}{L L':Lk}{w w':World}(h:gN L w L' w'){c:CV}{v:Value}(k:kO (bad B L) (bu L) L w c v)
  (hv:∀ id,L.live id->L'.live id/\L'.val id=L.val id):kO (bad B L') (bu L') L' w' c v:=by
 cases c with
 | e x=>exact h.rep k
 | box id=>obtain⟨k1,b,k2,k3⟩:=k;exact⟨(hv id k1).1,b,by rw[(hv id k1).2];exact k2,k3⟩
theorem dI.later{B:Nat->Prop}{L L':Lk}{w w':World}(h:gN L w L' w'){p:PV}{v:Value}(k:dI (bad B L) (bu L) L w p v)
  (hv:∀ id,L.live id->L'.live id/\L'.val id=L.val id/\∀ j,L'.aL id j=L.aL id j):dI (bad B L') (bu L') L' w' p v:=by
 cases p with
 | e x=>exact h.rep k
 | box id off=>obtain⟨k1,b,k2,k3⟩:=k;exact⟨(hv id k1).1,b,by rw[(hv id k1).2.1];exact k2,k3⟩
 | own id=>obtain⟨k1,k2⟩:=k;exact⟨(hv id k1).1,by rw[(hv id k1).2.1];exact k2⟩
 | eZ id sz i j=>obtain⟨k1,b,n,c,k2,k3⟩:=k;exact⟨(hv id k1).1,b,n,c,by rw[(hv id k1).2.1];exact k2,k3⟩
 | aL id q=>obtain⟨k1,k2⟩:=k;exact⟨(hv id k1).1,by rw[(hv id k1).2.2];exact k2⟩
 | gw f cap =>
  obtain⟨vs,k1,k2,k3⟩:=k;exact⟨vs,k1,k2,fun i c x hc hx=>(k3 i c x hc hx).later h fun id hl=>⟨(hv id hl).1,(hv id hl).2.1⟩⟩
theorem Rel.later{w0:World}{B:Nat->Prop}{σ:PS}{a:Act}{w w':World}{L:Lk}(r:Rel w0 B σ a w L)(h:Below w.heap.size w w'):Rel w0 B σ a w' L:=by
 have hl:gN L w L w':=⟨h.size,fun _ _ h=>h,fun x hx _=>h.block x hx⟩
 refine⟨r.hd,r.hs,fun t=>(r.ht t).later hl fun id k=>⟨k,rfl,fun _=>rfl⟩,fun id b hb=>(r.hb id b hb).later hl rfl (fun _=>Iff.rfl) (fun _=>rfl) fun x hx=>h.block x (r.hw id x hx).2,r.hv,r.hn,
  fun id x hx=>⟨(r.hw id x hx).1,Nat.lt_of_lt_of_le (r.hw id x hx).2 h.size⟩,r.hi,r.he.trans (h.mono r.he.size),r.hl⟩
theorem Rel.drew{w0:World}{B:Nat->Prop}{σ:PS}{a:Act}{w:World}{L:Lk}(r:Rel w0 B σ a w L):Rel w0 B σ a w.drew L:=r.later (Below.refl _ _).drew
theorem Rel.put{w0:World}{B:Nat->Prop}{σ:PS}{a:Act}{w:World}{L:Lk}(r:Rel w0 B σ a w L)(d:Option Tmp)(p:PV)(v:Value)(hd:jv σ d=true)(hp:dI (bad B L) (bu L) L w p v):Rel w0 B (σ.put d p) (a.put d v) w L:=by
 cases d with
 | none=>exact r
 | some d =>
  have hd':d<σ.n:=by simpa[jv,Nat.blt_eq]using hd
  refine⟨r.hd,by simp[Act.put,r.hs,PS.xv],fun t=>?_,fun id b hb=>r.hb id b hb,r.hv,r.hn,r.hw,r.hi,r.he,r.hl⟩;rw[PS.wO];by_cases h:d=t
  .subst h
   rw[if_pos rfl];have:(a.put (some d) v).tmps.getD d undef=v:=by
    simp[Act.put,Array.getElem?_setIfInBounds,r.hs,hd']
   rw[this];exact hp
  .rw [if_neg h]
   have:(a.put (some d) v).tmps.getD t undef=a.tmps.getD t undef:=by
    simp[Act.put,Array.getElem?_setIfInBounds_ne h]
   rw[this];exact r.ht t
theorem Rel.op{w0:World}{B:Nat->Prop}{σ:PS}{a:Act}{w:World}{L:Lk}(r:Rel w0 B σ a w L)(x:Operand):dI (bad B L) (bu L) L w (σ.op x) (a.eval x):=by
 cases x with
 | tmp t=>exact r.ht t
 | const v=>exact .v v
 | global g=>exact .v _
 | func f=>exact .fn f [] [] rfl (fun i p x h=>by simp at h)
open Go.RowKit
def Lk.set(L:Lk)(id:Nat)(O:Nat->Prop)(v:Value)(aL:Nat->Value):Lk :=
 {live:=fun i=>i=id\/L.live i
  own:=fun i x=>if i=id then O x else L.own i x
  val:=fun i=>if i=id then v else L.val i
  aL:=fun i=>if i=id then aL else L.aL i }
section
variable {L:Lk} {id:Nat} {O:Nat->Prop} {v:Value} {aL:Nat->Value}
theorem Lk.gW(x:Nat):(L.set id O v aL).own id x↔O x:=by simp[Lk.set]
theorem Lk.eC:(L.set id O v aL).val id=v:=by simp[Lk.set]
theorem Lk.gp(k:Nat):(L.set id O v aL).aL id k=aL k:=by simp[Lk.set]
theorem Lk.mP:(L.set id O v aL).live id:=.inl rfl
theorem Lk.mQ{i:Nat}(h:i≠id)(x:Nat):(L.set id O v aL).own i x↔L.own i x:=by simp[Lk.set,h]
theorem Lk.mR{i:Nat}(h:i≠id):(L.set id O v aL).val i=L.val i:=by simp[Lk.set,h]
theorem Lk.rC{i:Nat}(h:i≠id)(k:Nat):(L.set id O v aL).aL i k=L.aL i k:=by simp[Lk.set,h]
end
structure Touch(L:Lk)(w:World)(id:Nat)(O:Nat->Prop)(w':World):Prop where
 own:∀ x,O x->(L.own id x\/w.heap.size<=x)/\x<w'.heap.size
 size:w.heap.size<=w'.heap.size
 eH:∀ x,x<w.heap.size->¬L.own id x->w'.heap[x]? = w.heap[x]?
 os:w'.os=w.os
 tape:w'.tape=w.tape
 output:w'.output=w.output
theorem Touch.later{L:Lk}{w:World}{id:Nat}{O:Nat->Prop}{w':World}(h:Touch L w id O w')(v:Value)(aL:Nat->Value):gN L w (L.set id O v aL) w':=by
 refine⟨h.size,fun x hx hm=>?_,fun x hx hm=>h.eH x hx fun ho=>hm ⟨id,ho⟩⟩;obtain⟨i,hi⟩:=hm;by_cases e:i=id
 .subst e
  rcases(h.own x ((Lk.gW x).1 hi)).1 with k|k
  .exact ⟨i,k⟩
  .omega
 .exact ⟨i,(Lk.mQ e x).1 hi⟩
theorem Rel.set{w0:World}{B:Nat->Prop}{σ:PS}{a:Act}{w:World}{L:Lk}(r:Rel w0 B σ a w L)(id:Nat)(b':Bx)(O:Nat->Prop)(v:Value)(aL:Nat->Value)(w':World)(f:fX)
  (hf:f.boxes σ.b=pD σ.b id b') (ht:Touch L w id O w')
  (hB:gv (bad B (L.set id O v aL)) (bu (L.set id O v aL)) (L.set id O v aL) w' id b')
  (hT:∀ p v0,dI (bad B L) (bu L) L w p v0->dI (bad B (L.set id O v aL)) (bu (L.set id O v aL)) (L.set id O v aL) w' (p.void f) v0)
  (hnl:σ.nl=true->b'.nl=true):Rel w0 B (σ.fI f) a w' (L.set id O v aL):=by
 have hl:=ht.later v aL;have hbo:∀ i,(σ.fI f).bo i=if id=i then some b' else σ.bo i:=by
  intro i;show look (f.boxes σ.b) i=_;rw[hf,tC];rfl
 have hbl:Below w0.heap.size w w':=⟨ht.os,ht.tape,ht.output,ht.size,fun x hx=>ht.eH x (Nat.lt_of_lt_of_le hx r.he.size) fun ho=>by have:=(r.hw id x ho).1;omega⟩
 refine⟨r.hd,r.hs,fun t=>?_,fun i b hb=>?_,fun i=>?_,fun i x hx=>?_,fun i x hx=>?_,fun i j x hi hj=>?_,r.he.trans hbl,fun hnl' i b hb=>?_⟩
 .rw [PS.tc];exact hT _ _ (r.ht t)
 .rw [hbo]at hb
  by_cases e:id=i
  .subst e
   rw[if_pos rfl]at hb;cases hb;exact hB
  .rw [if_neg e]at hb
   have e':i≠id:=fun h=>e h.symm
   exact(r.hb i b hb).later hl (Lk.mR e') (Lk.mQ e') (Lk.rC e') fun x hx=>ht.eH x (r.hw i x hx).2 fun ho=>e (r.hi id i x ho hx)
 .rw [hbo]
  by_cases e:id=i
  .subst e;rw[if_pos rfl];simp[Lk.set]
  .rw [if_neg e]
   have e':i≠id:=fun h=>e h.symm
   simp only[Lk.set,e',false_or];exact r.hv i
 .by_cases e:i=id
  .exact .inl e
  .exact .inr (r.hn i x ((Lk.mQ e x).1 hx))
 .by_cases e:i=id
  .subst e
   obtain⟨k1,k2⟩:=ht.own x ((Lk.gW x).1 hx);refine⟨?_,k2⟩;rcases k1 with k1|k1
   .exact (r.hw i x k1).1
   .exact Nat.le_trans r.he.size k1
  .have:=r.hw i x ((Lk.mQ e x).1 hx)
   exact⟨this.1,Nat.lt_of_lt_of_le this.2 ht.size⟩
 .by_cases e1:i=id
  .by_cases e2:j=id
   .rw [e1,e2]
   .have k2:=(Lk.mQ e2 x).1 hj
    subst e1;rcases(ht.own x ((Lk.gW x).1 hi)).1 with k|k
    .exact r.hi _ _ x k k2
    .have:=(r.hw j x k2).2;omega
  .have k1:=(Lk.mQ e1 x).1 hi
   by_cases e2:j=id
   .subst e2
    rcases(ht.own x ((Lk.gW x).1 hj)).1 with k|k
    .exact r.hi _ _ x k1 k
    .have:=(r.hw i x k1).2;omega
   .exact r.hi _ _ x k1 ((Lk.mQ e2 x).1 hj)
 .rw [hbo]at hb
  by_cases e:id=i
  .rw [if_pos e]at hb;cases hb;exact hnl hnl'
  .rw [if_neg e]at hb;exact r.hl hnl' i b hb
theorem Rel.new{w0:World}{B:Nat->Prop}{σ:PS}{a:Act}{w:World}{L:Lk}(r:Rel w0 B σ a w L)(id:Nat)(b':Bx)(O:Nat->Prop)(v:Value)(aL:Nat->Value)(w':World)
  (hno:σ.bo id=none) (hO:∀ x,O x->w.heap.size<=x/\x<w'.heap.size) (hb:Below w.heap.size w w')
  (hB:gv (bad B (L.set id O v aL)) (bu (L.set id O v aL)) (L.set id O v aL) w' id b')
  (hnl:(!σ.nl||b'.nl)=true):Rel w0 B (σ.fI (.new id b')) a w' (L.set id O v aL):=by
 have hdead:¬L.live id:=fun h=>by have:=(r.hv id).1 h;rw[hno]at this;simp at this
 have ht:Touch L w id O w':=⟨fun x hx=>⟨.inr (hO x hx).1,(hO x hx).2⟩,hb.size,fun x hx _=>hb.block x hx,hb.os,hb.tape,hb.output⟩
 refine r.set id b' O v aL w' (.new id b') rfl ht hB (fun p v0 hp=>?_) (fun h=>by simpa[h]using hnl);have hne:∀ {i},L.live i->i≠id:=fun h e=>hdead (e▸h)
 have:p.void (.new id b')=p:=by cases p<;>rfl
 rw[this];exact hp.later (ht.later v aL) fun i hi=>⟨.inr hi,Lk.mR (hne hi),fun j=>Lk.rC (hne hi) j⟩
theorem Rel.jg{w0:World}{B:Nat->Prop}{σ:PS}{a:Act}{w:World}{L:Lk}(r:Rel w0 B σ a w L)(id:Nat)(b':Bx)(w':World)
  (hlive:L.live id) (ht:Touch L w id (L.own id) w')
  (hB:gv (bad B (L.set id (L.own id) (L.val id) (L.aL id))) (bu (L.set id (L.own id) (L.val id) (L.aL id))) (L.set id (L.own id) (L.val id) (L.aL id)) w' id b')
  (hnl:σ.nl=true->b'.nl=true):Rel w0 B (σ.fI (.jg id b')) a w' (L.set id (L.own id) (L.val id) (L.aL id)):=by
 refine r.set id b' _ _ _ w' (.jg id b') rfl ht hB (fun p v0 hp=>?_) hnl;have:p.void (.jg id b')=p:=by cases p<;>rfl
 rw[this];refine hp.later (ht.later _ _) fun i hi=>⟨.inr hi,?_,fun j=>?_⟩
 .by_cases e:i=id
  .subst e;exact Lk.eC
  .exact Lk.mR e
 .by_cases e:i=id
  .subst e;exact Lk.gp j
  .exact Lk.rC e j
theorem Rel.grow{w0:World}{B:Nat->Prop}{σ:PS}{a:Act}{w:World}{L:Lk}(r:Rel w0 B σ a w L)(id:Nat)(b':Bx)(O:Nat->Prop)(v:Value)(w':World)
  (hp:∀ b,L.val id ≠ .pointer (some b)) (ht:Touch L w id O w')
  (hB:gv (bad B (L.set id O v (L.aL id))) (bu (L.set id O v (L.aL id))) (L.set id O v (L.aL id)) w' id b')
  (hnl:σ.nl=true->b'.nl=true):Rel w0 B (σ.fI (.grow id b')) a w' (L.set id O v (L.aL id)):=by
 have hl:=ht.later v (L.aL id);refine r.set id b' O v (L.aL id) w' (.grow id b') rfl ht hB (fun p v0 hp0=>?_) hnl;have hinn:∀ i j,(L.set id O v (L.aL id)).aL i j=L.aL i j:=fun i j=>by
  by_cases e:i=id
  .subst e;exact Lk.gp j
  .exact Lk.rC e j
 cases p with
 | e x=>exact hl.rep hp0
 | box i off =>
  obtain⟨k1,b,k2,k3⟩:=hp0;have e:i≠id:=fun e=>by subst e;exact hp _ k2
  exact⟨.inr k1,b,by rw[Lk.mR e];exact k2,k3⟩
 | own i =>
  by_cases e:i=id
  .subst e;simp only[PV.void,Nat.beq_refl,if_true];exact .any _
  .simp only[PV.void,beq_false e,Bool.false_eq_true,if_false]
   exact⟨.inr hp0.1,by rw[Lk.mR e];exact hp0.2⟩
 | eZ i s x j =>
  by_cases e:i=id
  .subst e;simp only[PV.void,Nat.beq_refl,if_true];exact .any _
  .simp only[PV.void,beq_false e,Bool.false_eq_true,if_false]
   obtain⟨k1,b,n,c,k2,k3⟩:=hp0;exact⟨.inr k1,b,n,c,by rw[Lk.mR e];exact k2,k3⟩
 | aL i k=>exact⟨.inr hp0.1,by rw[hinn];exact hp0.2⟩
 | gw f cap =>
  obtain⟨vs,k1,k2,k3⟩:=hp0;refine⟨vs,k1,k2,fun i c x hc hx=>?_⟩;have hk:=k3 i c x hc hx;cases c with
  | e y=>exact hl.rep hk
  | box q =>
   obtain⟨q1,b,q2,q3⟩:=hk;have e:q≠id:=fun e=>by subst e;exact hp _ q2
   exact⟨.inr q1,b,by rw[Lk.mR e];exact q2,q3⟩
theorem Rel.jR{w0:World}{B:Nat->Prop}{σ:PS}{a:Act}{w:World}{L:Lk}(r:Rel w0 B σ a w L)(id:Nat)(b':Bx)(O:Nat->Prop)(aL:Nat->Value)(w':World)
  (ht:Touch L w id O w')
  (hB:gv (bad B (L.set id O (L.val id) aL)) (bu (L.set id O (L.val id) aL)) (L.set id O (L.val id) aL) w' id b')
  (hnl:σ.nl=true->b'.nl=true):Rel w0 B (σ.fI (.jR id b')) a w' (L.set id O (L.val id) aL):=by
 have hl:=ht.later (L.val id) aL;refine r.set id b' O (L.val id) aL w' (.jR id b') rfl ht hB (fun p v0 hp0=>?_) hnl;have hval:∀ i,(L.set id O (L.val id) aL).val i=L.val i:=fun i=>by
  by_cases e:i=id
  .subst e;exact Lk.eC
  .exact Lk.mR e
 cases p with
 | e x=>exact hl.rep hp0
 | box i off=>obtain⟨k1,b,k2,k3⟩:=hp0;exact⟨.inr k1,b,by rw[hval];exact k2,k3⟩
 | own i=>exact⟨.inr hp0.1,by rw[hval];exact hp0.2⟩
 | eZ i s x j=>obtain⟨k1,b,n,c,k2,k3⟩:=hp0;exact⟨.inr k1,b,n,c,by rw[hval];exact k2,k3⟩
 | aL i k =>
  by_cases e:i=id
  .subst e;simp only[PV.void,Nat.beq_refl,if_true];exact .any _
  .simp only[PV.void,beq_false e,Bool.false_eq_true,if_false]
   exact⟨.inr hp0.1,by rw[Lk.rC e];exact hp0.2⟩
 | gw f cap =>
  obtain⟨vs,k1,k2,k3⟩:=hp0;refine⟨vs,k1,k2,fun i c x hc hx=>(k3 i c x hc hx).later hl fun j hj=>⟨.inr hj,hval j⟩⟩
structure zL(w:World)(v:Value)(T:TypeId)(n sz m:Nat)(f g:Nat->Nat->Value)(nl:Bool)(v':Value)(w':World):Prop where
 own:fl w' v' T (n+m) sz (fun i j=>if i<n then f i j else g (i-n) j) nl
 vw:∀ x,v'.ownBlock=some x->v.ownBlock=some x\/(w.heap.size<=x/\x<w'.heap.size)
 size:w.heap.size<=w'.heap.size
 eH:∀ x,x<w.heap.size->v.ownBlock≠some x->w'.heap[x]? = w.heap[x]?
 os:w'.os=w.os
 tape:w'.tape=w.tape
 output:w'.output=w.output
def flat(n sz:Nat)(f:Nat->Nat->Value):List Value:=(List.range (n*sz)).map fun q=>f (q/sz) (q%sz)
theorem ju(n sz:Nat)(f:Nat->Nat->Value):(flat n sz f).length=n*sz:=by simp[flat]
theorem wJ{n sz:Nat}{f:Nat->Nat->Value}{i j:Nat}(hi:i<n)(hj:j<sz):(flat n sz f)[i*sz+j]? = some (f i j):=by
 have h1:i*sz+j<n*sz:=by
  have:=Nat.mul_le_mul_right sz (show i+1<=n from hi);rw[Nat.add_mul,Nat.one_mul]at this;omega
 have h2:(i*sz+j)/sz=i:=by rw[Nat.mul_comm,Nat.mul_add_div (by omega),Nat.div_eq_of_lt hj,Nat.add_zero]
 have h3:(i*sz+j)%sz=j:=by rw[Nat.mul_comm,Nat.mul_add_mod,Nat.mod_eq_of_lt hj]
 simp[flat,h1,h2,h3]
theorem s6{n sz:Nat}{f:Nat->Nat->Value}{q:Nat}{u:Value}(h:(flat n sz f)[q]? = some u):q/sz<n/\q%sz<sz/\u=f (q/sz) (q%sz)/\q/sz*sz+q%sz=q:=by
 unfold flat at h;rw[List.getElem?_map]at h;obtain⟨x,hx,rfl⟩:=Option.map_eq_some_iff.1 h;obtain⟨h1,h2⟩:=List.getElem?_eq_some_iff.1 hx;simp at h1 h2;subst h2;have hz:0<sz:=by
  rcases Nat.eq_zero_or_pos sz with h0|h0
  .subst h0;simp at h1
  .exact h0
 exact⟨(Nat.div_lt_iff_lt_mul hz).2 h1,Nat.mod_lt _ hz,rfl,by rw[Nat.mul_comm];exact Nat.div_add_mod q sz⟩
theorem fl.row{w:World}{v:Value}{T:TypeId}{n sz:Nat}{f:Nat->Nat->Value}{nl:Bool}(h:fl w v T n sz f nl):w.ownsRow 0 T sz v n (flat n sz f):=by
 rcases h with⟨rfl,rfl⟩|⟨b,c,cur,rfl,hg,hnc,hcm,hcs,hcell,_⟩
 .exact ⟨ju _ _ _,.inl ⟨rfl,rfl⟩⟩
 .refine ⟨ju _ _ _,.inr ⟨b,c,cur,rfl,Nat.zero_le _,hg,hnc,hcm,hcs,?_⟩⟩
  apply List.ext_getElem?;intro q;by_cases hq:q<n*sz
  .have hz:0<sz:=by
    rcases Nat.eq_zero_or_pos sz with h0|h0
    .subst h0;simp at hq
    .exact h0
   have h1:q/sz<n:=(Nat.div_lt_iff_lt_mul hz).2 hq;have h2:=Nat.mod_lt q hz;have h3:q/sz*sz+q%sz=q:=by rw[Nat.mul_comm];exact Nat.div_add_mod q sz
   have h4:=(hcell _ _ h1 h2).1;have h5:=wJ (f:=f) h1 h2;rw[h3]at h4 h5;rw[List.getElem?_take,if_pos hq,h5];simpa using h4
  .rw [List.getElem?_take,if_neg hq,List.getElem?_eq_none (by rw[ju];omega)]
theorem RK(P:Program)(w:World)(t ty e:TypeId)(i:TypeInfo)(z:Value)(sz:Nat)(ht:P.underlying t=some (.slice e))(hi:P.info? e=some i)(hz:i.zero=some z)
  (hsize:i.size=sz) (hzs:z.cells.size=sz) (hsz:0<sz) (hby:1<=i.bytes) (hzone:∀ u,u ∈ z.cells->u.oneCell'=true)
  (v:Value) (n:Nat) (f:Nat->Nat->Value) (nl:Bool) (hown:fl w v e n sz f nl)
  (A:Option Addr) (m c:Nat) (g:Nat->Nat->Value) (hA:∀ k j,k<m->j<sz->∃ b o,A=some ⟨b,o,none⟩/\w.cell? ⟨b,o+(k*sz+j),none⟩=some (g k j)) (hA0:A=none->m=0)
  (h1:∀ k j,k<m->j<sz->(g k j).oneCell'=true/\(nl=true->gS (g k j)=false)) (hznl:nl=true->∀ u,u ∈ z.cells->gS u=false)
  (hbytes:(n+m)*i.bytes<=140737488355328) :
  ∃ v' w',(Builtin.append_ #[t,t] ty #[v,.slice A m c]).run P w = .ok v' w'/\zL w v e n sz m f g nl v' w':=by
 have hle:n+m<=(n+m)*i.bytes:=Nat.le_mul_of_pos_right _ hby;have h63:n+m<=maxLen:=by unfold maxLen;omega
 have hcells:∀ i j,i<n+m->j<sz->(flat n sz f++flat m sz g)[i*sz+j]? = some (if i<n then f i j else g (i-n) j):=by
  intro i j hi hj;by_cases hin:i<n
  .rw [if_pos hin,List.getElem?_append_left,wJ hin hj]
   rw[ju];have:=Nat.mul_le_mul_right sz (show i+1<=n from hin);rw[Nat.add_mul,Nat.one_mul]at this;omega
  .rw [if_neg hin,List.getElem?_append_right,ju]
   .have:i*sz+j-n*sz=(i-n)*sz+j:=by
     have:=Nat.sub_mul i n sz;have:=Nat.mul_le_mul_right sz (show n<=i by omega);omega
    rw[this,wJ (by omega) hj]
   .rw [ju]
    have:=Nat.mul_le_mul_right sz (show n<=i by omega);omega
 have hone:∀ i j,i<n+m->j<sz->(if i<n then f i j else g (i-n) j).oneCell'=true:=by
  intro i j hi hj;split
  .rename_i hin
   rcases hown with⟨_,h0⟩|⟨b,c,cur,_,_,_,_,_,hc,_⟩
   .omega
   .exact (hc i j hin hj).2
  .rename_i hin
   exact(h1 (i-n) j (by omega) hj).1
 have h1':∀ u ∈ flat m sz g,u.oneCell'=true:=by
  intro u hu;obtain⟨q,hq⟩:=List.mem_iff_getElem?.1 hu;obtain⟨q1,q2,rfl,_⟩:=s6 hq;exact(h1 _ _ q1 q2).1
 have gnl:nl=true->∀ u,u ∈ flat m sz g->gS u=false:=by
  intro hn u hu;obtain⟨q,hq⟩:=List.mem_iff_getElem?.1 hu;obtain⟨q1,q2,rfl,_⟩:=s6 hq;exact(h1 _ _ q1 q2).2 hn
 rcases A with _|ad
 .have hm:=hA0 rfl
  subst hm;rcases hown with⟨rfl,rfl⟩|⟨b,cc,cur,rfl,hg,hnc,hcm,hcs,hcell,hnl⟩
  .refine ⟨.slice none 0 0,w,?_,.inl ⟨rfl,rfl⟩,fun x hx=>.inl hx,Nat.le_refl _,fun _ _ _=>rfl,rfl,rfl,rfl⟩
   simp[Builtin.append_,run_underlying ht,sizeOf,typeInfo,hi,Builtin.lenOf,Builtin.firstCells,loadCells,loadCellsFrom]
  .refine ⟨.slice (some ⟨b,0,none⟩) n cc,w,?_,.inr ⟨b,cc,cur,rfl,hg,hnc,hcm,hcs,?_,hnl⟩,fun x hx=>.inl hx,Nat.le_refl _,fun _ _ _=>rfl,rfl,rfl,rfl⟩
   .simp [Builtin.append_,run_underlying ht,sizeOf,typeInfo,hi,Builtin.lenOf,Builtin.firstCells,hnc,storeCells]
   .intro i j hi hj
    have hin:i<n:=by omega
    simp only[hin,if_true];exact hcell i j hin hj
 .have hnews:∀ j u,(flat m sz g)[j]? = some u->w.cell? (ad.add j)=some u:=by
   intro q u hq;obtain⟨q1,q2,rfl,q4⟩:=s6 hq;obtain⟨b,o,e,hc⟩:=hA _ _ q1 q2;cases e;rw[q4]at hc;rw[show(⟨b,o,none⟩:Addr).add q=⟨b,o+q,none⟩from Addr.add_lit _ _ _];exact hc
  rcases hown with⟨rfl,rfl⟩|⟨b,cc,cur,rfl,hg,hnc,hcm,hcs,hcell,hnl⟩
  .by_cases hm:m=0
   .subst hm
    refine⟨.slice none 0 0,w,?_,.inl ⟨rfl,rfl⟩,fun x hx=>.inl hx,Nat.le_refl _,fun _ _ _=>rfl,rfl,rfl,rfl⟩;simp[Builtin.append_,run_underlying ht,sizeOf,typeInfo,hi,Builtin.lenOf,Builtin.firstCells,loadCells,loadCellsFrom]
   .have hr:=run_append_nil (P:=P) w t ty e i z ht hi hz ad m c (flat m sz g) (by rw[ju,hsize]) hnews (by omega) (by unfold maxLen at h63;omega) (by have hb:=hbytes;simp only[Nat.zero_add]at hb;omega)
    have hge:=grownCap_ge w m 0 e;have hcm:grownCap w m 0 e<=maxLen:=grownCap_le_maxLen w m 0 e (by omega);refine⟨_,_,hr,.inr ⟨w.heap.size,_,_,by simp,heap_alloc_new w.drew _,by omega,hcm,?_,?_,?_⟩,fun x hx=>.inr ?_,by simp,fun x hx _=>Below.heap_alloc w.drew _ x hx,rfl,rfl,rfl⟩
    .simp only[Array.size_append,List.size_toArray,size_zeroCells,hzs,ju,<-Nat.add_mul]
     congr 1;omega
    .intro i j hi hj
     have:=hcells i j hi hj;refine⟨?_,hone i j hi hj⟩;simp only[flat,Nat.zero_mul,List.range_zero,List.map_nil,List.nil_append]at this;rw[<-this,Array.getElem?_append_left]
     .simp [flat]
     .obtain ⟨q,_⟩:=List.getElem?_eq_some_iff.1 this
      simpa[flat]using q
    .intro hn u hu
     rcases Array.mem_append.1 hu with hu|hu
     .exact gnl hn u (by simpa using hu)
     .simp only[Builtin.zeroCells,Array.mem_map,Array.mem_range]at hu
      obtain⟨q,hq,rfl⟩:=hu;have hlt:q%z.cells.size<z.cells.size:=Nat.mod_lt _ (by omega);rw[getElem!_pos z.cells _ hlt];exact hznl hn _ (Array.getElem_mem hlt)
    .simp [Value.ownBlock]at hx
     subst hx;simp
  .by_cases hroom:n+m<=cc
   .have hfl:(flat m sz g).length=m*i.size:=by rw[ju,hsize]
    have hfit:n*i.size+(flat m sz g).length<=cur.size:=by rw[hfl,hcs,hsize,<-Nat.add_mul];exact Nat.mul_le_mul_right _ hroom
    have hr:=run_append_room (P:=P) w t ty e i ht hi b n cc cur hg ad m c (flat m sz g) hfl hnews h1' hroom hfit;have htake:cur.toList.take (n*i.size)=flat n sz f:=by
     have hrow:w.ownsRow 0 e sz (.slice (some ⟨b,0,none⟩) n cc) n (flat n sz f):=fl.row (nl:=nl) (.inr ⟨b,cc,cur,rfl,hg,hnc,hcm,hcs,hcell,hnl⟩);rcases hrow.2 with⟨hh,_⟩|⟨b',c',cur',hh,_,hg',_,_,_,ht'⟩
     .cases hh
     .cases hh
      rw[hg]at hg';cases hg';rw[hsize];exact ht'
    refine⟨_,_,hr,.inr ⟨b,cc,_,rfl,setRow_heap w b cur _ e _ hg,hroom,hcm,?_,?_,?_⟩,fun x hx=>.inl hx,by simp,fun x hx hne=>setRow_other w b x _ (fun q=>hne (by simp[Value.ownBlock,q])),rfl,rfl,rfl⟩
    .simp only[List.size_toArray,List.length_append,List.length_take,List.length_drop,Array.length_toList]
     omega
    .intro k j hk hj
     refine⟨?_,hone k j hk hj⟩;rw[htake,<-hcells k j hk hj];have hq:k*sz+j<(flat n sz f++flat m sz g).length:=by
      obtain⟨q,_⟩:=List.getElem?_eq_some_iff.1 (hcells k j hk hj);exact q
     rw[List.getElem?_toArray,List.getElem?_append_left hq]
    .intro hn u hu
     simp only[List.mem_toArray,List.mem_append]at hu;rcases hu with(hu|hu)|hu
     .exact hnl hn u (by have:=List.mem_of_mem_take hu;simpa using this)
     .exact gnl hn u hu
     .exact hnl hn u (by have:=List.mem_of_mem_drop hu;simpa using this)
   .have hrow:w.ownsRow 0 e sz (.slice (some ⟨b,0,none⟩) n cc) n (flat n sz f):=fl.row (nl:=nl) (.inr ⟨b,cc,cur,rfl,hg,hnc,hcm,hcs,hcell,hnl⟩)
    have holds:∀ j u,(flat n sz f)[j]? = some u->w.cell? ((⟨b,0,none⟩:Addr).add j)=some u:=hrow.cells (g:=b) rfl;have hr:=run_append_grow (P:=P) w t ty e i z ht hi hz ⟨b,0,none⟩ n cc (flat n sz f) (by rw[ju,hsize]) holds ad m c (flat m sz g) (by rw[ju,hsize]) hnews (by omega) (by unfold maxLen at h63;omega) (growslice_fits (by omega) hbytes);have hge:=grownCap_ge w (n+m) cc e
    have hcm':grownCap w (n+m) cc e<=maxLen:=grownCap_le_maxLen w (n+m) cc e h63;refine⟨_,_,hr,.inr ⟨w.heap.size,_,_,by simp,heap_alloc_new w.drew _,by omega,hcm',?_,?_,?_⟩,fun x hx=>.inr ?_,by simp,fun x hx _=>Below.heap_alloc w.drew _ x hx,rfl,rfl,rfl⟩
    .simp only[Array.size_append,List.size_toArray,size_zeroCells,hzs,ju,<-Nat.add_mul]
     congr 1;omega
    .intro k j hk hj
     refine⟨?_,hone k j hk hj⟩;rw[<-hcells k j hk hj];have hq:k*sz+j<(flat n sz f++flat m sz g).length:=by
      obtain⟨q,_⟩:=List.getElem?_eq_some_iff.1 (hcells k j hk hj);exact q
     rw[Array.getElem?_append_left (by simpa using hq)];simp
    .intro hn u hu
     rcases Array.mem_append.1 hu with hu|hu
     .rcases Array.mem_append.1 hu with hu|hu
      .obtain ⟨q,hq⟩:=List.mem_iff_getElem?.1 (show u ∈ flat n sz f by simpa using hu)
       obtain⟨q1,q2,rfl,_⟩:=s6 hq;exact hnl hn _ (Array.mem_of_getElem? (hcell _ _ q1 q2).1)
      .exact gnl hn u (by simpa using hu)
     .simp only[Builtin.zeroCells,Array.mem_map,Array.mem_range]at hu
      obtain⟨q,hq,rfl⟩:=hu;have hlt:q%z.cells.size<z.cells.size:=Nat.mod_lt _ (by omega);rw[getElem!_pos z.cells _ hlt];exact hznl hn _ (Array.getElem_mem hlt)
    .simp [Value.ownBlock]at hx
     subst hx;simp
theorem dI.move{B:Nat->Prop}{L L':Lk}{w:World}(h:gN L w L' w){p:PV}{v:Value}(k:dI (bad B L) (bu L) L w p v)
  (hv:∀ id,id ∈ p.refs->L.live id->L'.live id/\L'.val id=L.val id/\∀ j,L'.aL id j=L.aL id j):dI (bad B L') (bu L') L' w p v:=by
 cases p with
 | e x=>exact h.rep k
 | box id off=>obtain⟨k1,b,k2,k3⟩:=k;have q:=hv id (by simp[PV.refs]) k1;exact⟨q.1,b,by rw[q.2.1];exact k2,k3⟩
 | own id=>obtain⟨k1,k2⟩:=k;have q:=hv id (by simp[PV.refs]) k1;exact⟨q.1,by rw[q.2.1];exact k2⟩
 | eZ id sz i j=>obtain⟨k1,b,n,c,k2,k3⟩:=k;have q:=hv id (by simp[PV.refs]) k1;exact⟨q.1,b,n,c,by rw[q.2.1];exact k2,k3⟩
 | aL id r=>obtain⟨k1,k2⟩:=k;have q:=hv id (by simp[PV.refs]) k1;exact⟨q.1,by rw[q.2.2];exact k2⟩
 | gw f cap =>
  obtain⟨vs,k1,k2,k3⟩:=k;refine⟨vs,k1,k2,fun i c x hc hx=>?_⟩;have q:=k3 i c x hc hx;cases c with
  | e y=>exact h.rep q
  | box id =>
   obtain⟨q1,b,q2,q3⟩:=q;have r:=hv id (by simp only[PV.refs,List.mem_flatMap];exact⟨.box id,List.mem_of_getElem? hc,by simp[CV.refs]⟩) q1;exact⟨r.1,b,by rw[r.2.1];exact q2,q3⟩
theorem Tk{id:Nat}{b:Bx}{p:PV}(h:p.refs.any (Nat.beq id)=false):p.void (.grow id b)=p:=by
 cases p with
 | own i =>
  have:Nat.beq i id=false:=by
   simp only[PV.refs,List.any_cons,List.any_nil,Bool.or_false]at h;exact beq_false fun e=>by rw[e,Nat.beq_refl]at h;cases h
  simp[PV.void,this]
 | eZ i s x j =>
  have:Nat.beq i id=false:=by
   simp only[PV.refs,List.any_cons,List.any_nil,Bool.or_false]at h;exact beq_false fun e=>by rw[e,Nat.beq_refl]at h;cases h
  simp[PV.void,this]
 | _=>rfl
theorem Rel.fin{w0:World}{B:Nat->Prop}{σ:PS}{a:Act}{w:World}{L:Lk}{id:Nat}{nl:Bool}{T n sz:Nat}{el:Nat->Nat->E}(hB:∀ b,B b->b<w0.heap.size)
  (r:Rel w0 B (σ.fI (.grow id (.row nl T n sz el))) a w L):∃ L',Rel w0 B (σ.fI (.fin id)) a w L'/\ax (bad B L') (bu L') w (.sl nl n sz el) (L.val id):=by
 let L':Lk:=⟨fun i=>L.live i/\i≠id,fun i x=>L.own i x/\i≠id,L.val,L.aL⟩
 have hlt:gN L w L' w:=⟨Nat.le_refl _,fun x _ ⟨i,h,_⟩=>⟨i,h⟩,fun _ _ _=>rfl⟩
 have hbo':∀ i,(σ.fI (.fin id)).bo i=if i=id then none else(σ.fI (.grow id (.row nl T n sz el))).bo i:=by
  intro i;show look (σ.b.filter fun x=>!Nat.beq x.1 id) i=if i=id then none else look (pD σ.b id (.row nl T n sz el)) i
  rw[xn,tC];by_cases h:i=id
  .subst h;simp
  .rw [if_neg h,if_neg (fun e=>h e.symm),if_neg (fun e=>h e.symm)]
 have hbo0:(σ.fI (.grow id (.row nl T n sz el))).bo id=some (.row nl T n sz el):=by
  show look (pD σ.b id (.row nl T n sz el)) id=_;rw[tC,if_pos rfl]
 have hbad:∀ x,L.own id x->¬bad B L' x:=by
  rintro x hx (h|⟨i,h1,h2⟩)
  .have:=hB x h;have:=(r.hw id x hx).1;omega
  .exact h2 (r.hi i id x h1 hx)
 have hold:ax (bad B L') (bu L') w (.sl nl n sz el) (L.val id):=by
  obtain⟨f,h1,h2,h3⟩:=r.hb id _ hbo0;rcases h1 with⟨h0,rfl⟩|⟨b,c,cur,h0,hg,hnc,hcm,hcs,hcell,hnl⟩
  .rw [h0]
   exact .sl nl 0 sz el none 0 f (Nat.le_refl _) (by decide) (fun _=>rfl) (fun i j hi=>absurd hi (Nat.not_lt_zero i)) (fun i j hi=>absurd hi (Nat.not_lt_zero i)) (fun i j hi=>absurd hi (Nat.not_lt_zero i)) (fun i j hi=>absurd hi (Nat.not_lt_zero i))
  .have hob:=(h2 b).2 (by rw[h0];rfl)
   rw[h0];refine .sl nl n sz el _ c f hnc (by unfold maxLen at hcm;omega) (fun h=>by cases h) (fun i j hi hj=>⟨(hcell i j hi hj).2,fun hn=>hnl hn _ (Array.mem_of_getElem? (hcell i j hi hj).1)⟩) (fun i j hi hj=>(h3 i j hi hj).2)
    (fun i j hi hj=>⟨b,0,rfl,hbad b hob,(r.hw id b hob).2,?_⟩) (fun i j hi hj=>hlt.rep (h3 i j hi hj).1)
   rw[Nat.zero_add];simp only[World.cell?,hg];simpa using(hcell i j hi hj).1
 refine⟨L',⟨r.hd,r.hs,fun t=>?_,fun i b' h=>?_,fun i=>?_,fun i x h=>⟨r.hn i x h.1,h.2⟩,fun i x h=>r.hw i x h.1,fun i i' x h k=>r.hi i i' x h.1 k.1,r.he,fun h i b' k=>?_⟩,hold⟩
 .have k:=r.ht t
  rw[PS.tc]at k ⊢;generalize σ.get t=p at k ⊢;show dI _ _ _ _ (if p.refs.any (Nat.beq id)then .e .any else p) _;cases hp:p.refs.any (Nat.beq id)with
  | true=>exact .any _
  | false =>
   rw[Tk hp]at k;refine dI.move hlt k fun i hi hlive=>⟨⟨hlive,?_⟩,rfl,fun _=>rfl⟩
   rintro rfl;have:=List.any_eq_false.1 hp i hi;simp at this
 .rw [hbo']at h
  split at h
  .cases h
  .rename_i hi
   exact(r.hb i b' h).later hlt rfl (fun x=>⟨fun q=>q.1,fun q=>⟨q,hi⟩⟩) (fun _=>rfl) fun _ _=>rfl
 .rw [hbo']
  show L.live i/\i≠id↔_;by_cases hi:i=id
  .subst hi;simp
  .simp only[hi,ne_eq,not_false_eq_true,and_true,if_false]
   exact r.hv i
 .rw [hbo']at k
  split at k
  .cases k
  .exact r.hl h i b' k
open Go.RowKit
theorem Gz{T:List TI}{t:TypeId}{x:TI}(h:de T t=some x):x ∈ T/\x.id=t:=by
 induction T with
 | nil=>cases h
 | cons y l ih =>
  unfold de at h;split at h
  .rename_i hb
   cases h;exact⟨by simp,beq_iff.1 hb⟩
  .obtain ⟨h1,h2⟩:=ih h
   exact⟨by simp[h1],h2⟩
theorem cD.gI{P:Program}{T:List TI}(hT:cD P T){t:TypeId}{x:TI}(h:de T t=some x):P.underlying t=some x.d:=by
 obtain⟨h1,h2⟩:=Gz h;rw[<-h2];exact(hT x h1).1
theorem cD.inf{P:Program}{T:List TI}(hT:cD P T){t:TypeId}{x:TI}(h:de T t=some x):P.info? t=some x.i:=by
 obtain⟨h1,h2⟩:=Gz h;rw[<-h2];exact(hT x h1).2
theorem oK{T:List TI}{t:TypeId}{d:TypeDesc}(h:descOf T t=some d):∃ x,de T t=some x/\x.d=d:=by
 unfold descOf at h;split at h
 .rename_i x hx;exact⟨x,hx,by simpa using h⟩
 .cases h
section
variable {P:Program} {T:List TI} (hT:cD P T) (w:World)
include hT
theorem jY{t:TypeId}{x:TI}(h:de T t=some x):(sizeOf t).run P w = .ok x.i.size w:=by
 simp[sizeOf,typeInfo,hT.inf h]
theorem Fz{t:TypeId}{x:TI}(h:de T t=some x){z:Value}(hz:x.i.zero=some z):(zeroValue t).run P w = .ok z w:=by
 simp[zeroValue,typeInfo,hT.inf h,hz]
theorem uw{t:TypeId}{x:TI}(h:de T t=some x):(isAgg t).run P w = .ok x.isAgg w:=by
 unfold isAgg TI.isAgg;rw[Sem.run_bind,run_underlying (hT.gI h) w];cases x.d<;>simp
theorem Fy{t:TypeId}{x:TI}(h:de T t=some x)(ha:x.isAgg=true)(b o:Nat)(vs:List Value)(hl:vs.length=x.i.size)
  (hc:∀ (j:Nat) (u:Value),vs[j]? = some u->w.cell? ⟨b,o+j,none⟩=some u):(loadVar t ⟨b,o,none⟩).run P w = .ok (.agg vs.toArray) w:=by
 have hr:=run_loadCells_list (P:=P) w ⟨b,o,none⟩ vs (fun j v hv=>by rw[Addr.add_lit];exact hc j v hv);rw[hl]at hr;simp[loadVar,uw hT w h,ha,jY hT w h,hr]
theorem yK{t:TypeId}{x:TI}(h:de T t=some x)(ha:x.isAgg=false)(b o:Nat)(u:Value)(hc:w.cell? ⟨b,o,none⟩=some u):(loadVar t ⟨b,o,none⟩).run P w = .ok u w:=by
 simp[loadVar,uw hT w h,ha,hc]
theorem yL{t:TypeId}{x:TI}(h:de T t=some x)(b o:Nat)(E:TypeId)(cur:Array Value)(hg:w.heap[b]? = some (.cells cur E (0,0)))(v:Value)(hl:v.cells.toList.length=x.i.size)
  (hfit:o+v.cells.toList.length<=cur.size) (h1:∀ u ∈ v.cells.toList,u.oneCell'=true) :
  (storeVar t ⟨b,o,none⟩ v).run P w = .ok () (w.setRow b (cur.toList.take o++v.cells.toList++cur.toList.drop (o+v.cells.toList.length)).toArray):=by
 have hr:=run_storeCells_at P b o E v.cells.toList 0 cur w hg (by simpa using hfit) h1;simp only[Nat.add_zero]at hr;have hl':v.cells.size=x.i.size:=by simpa using hl
 simp only[storeVar,Sem.run_bind,jY hT w h,Result.andThen,hl',ne_eq,not_true_eq_false,if_false,hr,Sem.run_ite,Sem.run_pure]
end
theorem Touch.setRow{L:Lk}{w:World}{id b:Nat}(hb:L.own id b)(hlt:∀ x,L.own id x->x<w.heap.size)(cs:Array Value):Touch L w id (L.own id) (w.setRow b cs) :=
 ⟨fun x hx=>⟨.inl hx,by simpa using hlt x hx⟩,by simp,fun x _ hne=>setRow_other w b x cs (fun e=>hne (e▸hb)),rfl,rfl,rfl⟩
def bC(P:Program)(K:World->Prop)(w0:World)(B:Nat->Prop)(σ:PS)(o:Oper)(a:Act)(w:World)(u:Out):Prop :=
 ∃ v w' L',((execOp a.eval o).run P w = .ok (.value v) w'\/((execOp a.eval o).run P w = .ok .skip w'/\v=undef))/\Rel w0 B (σ.fI u.f) a w' L'/\dI (bad B L') (bu L') L' w' u.r v
section
variable {P:Program} {K:World->Prop} {w0:World} {B:Nat->Prop} {σ:PS} {o:Oper} {a:Act} {w:World} {L:Lk} {u:Out}
theorem bC.pure(r:Rel w0 B σ a w L){v:Value}(hrun:(execOp a.eval o).run P w = .ok (.value v) w)(hf:u.f = .none)(hp:dI (bad B L) (bu L) L w u.r v):bC P K w0 B σ o a w u :=
 ⟨v,w,L,.inl hrun,by rw[hf];exact r,hp⟩
theorem Rel.read(r:Rel w0 B σ a w L){p:PV}{v:Value}(hp:dI (bad B L) (bu L) L w p v){m:Nat}{l:List E}{is:List Nat}{aM:List Prop}(h:σ.read p m=some (l,is,aM))(ho:∀ q,q ∈ aM->q) :
  ∃ b q vs,v = .pointer (some ⟨b,q,none⟩)/\bE (bad B L) (bu L) w l vs/\vs.length=m/\∀ (j:Nat) (u:Value),vs[j]? = some u->w.cell? ⟨b,q+j,none⟩=some u:=by
 have tab:∀ (b q:Nat) (g:Nat->E) (f:Nat->Value),(∀ j,j<m->w.cell? ⟨b,q+j,none⟩=some (f j)/\ax (bad B L) (bu L) w (g j) (f j)) ->
   ∃ vs:List Value,bE (bad B L) (bu L) w ((List.range m).map g) vs/\vs.length=m/\∀ (j:Nat) (u:Value),vs[j]? = some u->w.cell? ⟨b,q+j,none⟩=some u:=by
  intro b q g f hc;refine⟨(List.range m).map f,⟨by simp,fun i p x hp hx=>?_⟩,by simp,fun j u hu=>?_⟩
  .rw [List.getElem?_map]at hp hx
   obtain⟨i1,hi1,rfl⟩:=Option.map_eq_some_iff.1 hp;obtain⟨i2,hi2,rfl⟩:=Option.map_eq_some_iff.1 hx;rw[hi1]at hi2;cases hi2;obtain⟨hlt,rfl⟩:=List.getElem?_eq_some_iff.1 hi1;simp at hlt;simpa using(hc i hlt).2
  .rw [List.getElem?_map]at hu
   obtain⟨i1,hi1,rfl⟩:=Option.map_eq_some_iff.1 hu;obtain⟨hlt,rfl⟩:=List.getElem?_eq_some_iff.1 hi1;simp at hlt;simpa using(hc j hlt).1
 cases p with
 | box id off =>
  simp only[PS.read]at h;split at h
  .rename_i T l0 hbo
   split at h
   .rename_i hle
    simp only[Option.some.injEq,Prod.mk.injEq]at h;obtain⟨rfl,rfl,rfl⟩:=h;obtain⟨b,vs,h1,h2,h3,h4,h5⟩:=r.hb id _ hbo;obtain⟨_,b',k2,rfl⟩:=hp;rw[h1]at k2;cases k2;have hle':=Nat.le_of_ble_eq_true hle;refine⟨b,off,(vs.drop off).take m,rfl,(h4.drop off).take m,by simp[h4.len];omega,fun j u hu=>?_⟩;rw[List.getElem?_take]at hu;split at hu
    .rw [List.getElem?_drop]at hu
     simp only[World.cell?,h3];simpa using hu
    .cases hu
   .cases h
  .cases h
 | eZ id sz i j =>
  simp only[PS.read]at h;split at h
  .rename_i nl T n s el hbo
   split at h
   .rename_i hle
    simp only[Option.some.injEq,Prod.mk.injEq]at h;obtain⟨rfl,rfl,rfl⟩:=h;simp only[Bool.and_eq_true]at hle;have e1:=beq_iff.1 hle.1;have e2:=Nat.le_of_ble_eq_true hle.2;subst e1;have hi:i<n:=ho _ (by simp);obtain⟨f,h1,h2,h3⟩:=r.hb id _ hbo;obtain⟨_,b,n',c',k2,rfl⟩:=hp;rcases h1 with⟨h1,_⟩|⟨b',c,cur,h1,hg,hnc,hcm,hcs,hcell,hnl⟩
    .rw [k2]at h1;cases h1
    .rw [k2]at h1
     cases h1;obtain⟨vs,q1,q2,q3⟩:=tab b (i*s+j) (fun q=>el i (j+q)) (fun q=>f i (j+q)) (fun q hq=>⟨by
      simp only[World.cell?,hg];have:=(hcell i (j+q) hi (by omega)).1;rw[<-Nat.add_assoc]at this;simpa using this,(h3 i (j+q) hi (by omega)).1⟩)
     exact⟨b,i*s+j,vs,rfl,q1,q2,q3⟩
   .cases h
  .cases h
 | e x =>
  cases x with
  | ref k el =>
   simp only[PS.read]at h;split at h
   .rename_i hle
    simp only[Option.some.injEq,Prod.mk.injEq]at h;obtain⟨rfl,rfl,rfl⟩:=h;have hle':=Nat.le_of_ble_eq_true hle;cases hp with
    | ref _ _ b q f hb hlt hl cell kk =>
     obtain⟨vs,q1,q2,q3⟩:=tab b q el f (fun j hj=>⟨cell j (by omega),kk j (by omega)⟩);exact⟨b,q,vs,rfl,q1,q2,q3⟩
   .cases h
  | _=>cases h
 | _=>cases h
theorem rU{ti:TI}{l:List E}(h:lQ ti=some l):∃ z,ti.i.zero=some z/\∀ (bs br:Nat->Prop) (w:World),bE bs br w l z.cells.toList/\∀ u ∈ z.cells.toList,u.oneCell'=true:=by
 unfold lQ at h;split at h
 .rename_i z hz;exact⟨z,hz,fun bs br w=>(ax.v (bs:=bs) (br:=br) (w:=w) z).cells h⟩
 .cases h
theorem Rel.D6(r:Rel w0 B σ a w L)(id:Nat)(T:TypeId)(l:List E)(v:Value)(hno:σ.bo id=none)(hv:bE (bad B L) (bu L) w l v.cells.toList)(h1:∀ u ∈ v.cells.toList,u.oneCell'=true)
  (hnl:(!σ.nl||l.all E.dv)=true) :
  ∃ L',Rel w0 B (σ.fI (.new id (.cells T l))) a (w.alloc (.cells v.cells T)) L'/\dI (bad B L') (bu L') L' (w.alloc (.cells v.cells T)) (.box id 0) (.pointer (some ⟨w.heap.size,0,none⟩)):=by
 have hb:Below w.heap.size w (w.alloc (.cells v.cells T)):=(Below.refl _ _).alloc (Nat.le_refl _) _;have hdead:∀ x,¬L.own id x:=fun x hx=>by have:=(r.hv id).1 (r.hn id x hx);rw[hno]at this;simp at this
 have ht:Touch L w id (fun x=>x=w.heap.size) (w.alloc (.cells v.cells T)):=⟨fun x hx=>⟨.inr (by omega),by simp;omega⟩,hb.size,fun x hx _=>hb.block x hx,rfl,rfl,rfl⟩
 have hl:=ht.later (.pointer (some ⟨w.heap.size,0,none⟩)) (fun _=>undef);refine⟨_,r.new id (.cells T l) (fun x=>x=w.heap.size) (.pointer (some ⟨w.heap.size,0,none⟩)) (fun _=>undef) _ hno (fun x hx=>by subst hx;simp) hb
  ⟨w.heap.size,v.cells.toList,Lk.eC,fun x=>Lk.gW x,by rw[Array.toArray_toList];exact heap_alloc_new w _,hv.mono fun _ _=>hl.rep,h1⟩ hnl,Lk.mP,w.heap.size,Lk.eC,rfl⟩
theorem nI{d:Option Tmp}{b:Bx}{rr:Nat->PV}{aM:List Prop}(h:jT σ d b rr aM=some u):∃ id,d=some id/\σ.bo id=none/\(!σ.nl||b.nl)=true/\u={ r:=rr id,f:=.new id b,aM:=aM }:=by
 unfold jT at h;split at h
 .rename_i id
  split at h
  .rename_i hno
   split at h
   .rename_i hc
    cases h;exact⟨id,rfl,hno,hc,rfl⟩
   .cases h
  .cases h
 .cases h
end
open Go.RowKit
theorem rP{k:IntKind}{z:Int}(h:bG k z):k.wrap z=z:=by
 cases k<;>simp only[bG]at h<;>simp only[IntKind.wrap,IntKind.bits,IntKind.signed]<;>simp<;>(try split)<;>omega
theorem Rk{k:IntKind}{x y:Int}(h:bG k x)(hy:0<y):bG k (x.tdiv y):=by
 by_cases h0:0<=x
 .have h1:0<=x/y:=Int.ediv_nonneg h0 (by omega)
  have h2:x/y<=x:=Int.ediv_le_self y h0;rw[Int.tdiv_eq_ediv_of_nonneg h0];cases k<;>simp only[bG]at h ⊢ <;> omega
 .obtain ⟨z,rfl⟩:∃ z,x = -z:=⟨-x,by omega⟩
  have h0:0<=z:=by omega
  have h1:0<=z/y:=Int.ediv_nonneg h0 (by omega);have h2:z/y<=z:=Int.ediv_le_self y h0;rw[Int.neg_tdiv,Int.tdiv_eq_ediv_of_nonneg h0];cases k<;>simp only[bG]at h ⊢ <;> omega
theorem Lh{P:Program}{op:BinOp}{k k':IntKind}{x y:Int}{v:Value}{aM:List Prop}(h:wj op k x y=some (v,aM))(ho:∀ q,q ∈ aM->q)
  (hk:sameKind op k k'=true) (t:TypeId) (w:World):(binOp op t (.int k x) (.int k' y)).run P w = .ok v w:=by
 cases op<;>simp only[wj,Option.some.injEq,Prod.mk.injEq,reduceCtorEq]at h<;>(obtain⟨rfl,rfl⟩:=h)<;>(try (have hk':=of_decide_eq_true hk;subst hk'))
 case add =>
  rw[binOp_add];by_cases h32:k = .u32
  .subst h32;simp[Op.intArith,vj]
  .have e:vj k x y=x+y:=by cases k<;>first|rfl|exact absurd rfl h32
   have e2:Ae k x y=[bG k (x+y)]:=by cases k<;>first|rfl|exact absurd rfl h32
   rw[e];simp[Op.intArith,rP (ho (bG k (x+y)) (by rw[e2];simp))]
 case sub=>rw[binOp_sub];simp[Op.intArith,rP (ho (bG k (x-y)) (by simp))]
 case mul=>rw[binOp_mul];simp[Op.intArith,rP (ho (bG k (x*y)) (by simp))]
 case quo =>
  have h1:=ho (0<y) (by simp);have h2:=ho (bG k x) (by simp);rw[binOp_quo];have hy:¬y=0:=by omega
  simp[Op.intDiv,hy,rP (Rk h2 h1)]
 case rem =>
  have h1:=ho (0<y) (by simp);rw[binOp_rem];have hy:¬y=0:=by omega
  simp[Op.intDiv,hy]
 case and=>rw[binOp_and,intBits_and];rfl
 case or=>rw[binOp_or,intBits_or];rfl
 case shl =>
  have h1:=ho (0<=y/\y<=k.bits) (by simp);rw[binOp_shl,shift_shl k k' x y h1.1 h1.2];rfl
 case shr =>
  have h1:=ho (0<=y/\y<=k.bits) (by simp);rw[binOp_shr,shift_shr k k' x y h1.1 h1.2];rfl
 case eql=>rw[binOp_eql];rfl
 case neq=>rw[binOp_neq];rfl
 case lss=>rw[binOp_lss];rfl
 case leq=>rw[binOp_leq];rfl
 case gtr=>rw[binOp_gtr];rfl
 case geq=>rw[binOp_geq];rfl
section
variable {P:Program} {K:World->Prop} {T:List TI} {O:eu} {w0:World} {B:Nat->Prop} {σ:PS} {o:Oper} {a:Act} {w:World} {L:Lk} {u:Out}
theorem MY{x:Operand}(hop:o.op = .move x)(r:Rel w0 B σ a w L)(h:aS P K T O σ o=some u):bC P K w0 B σ o a w u:=by
 simp only[aS,hop]at h;cases h;exact bC.pure r (by simp only[execOp,hop];rfl) rfl (r.op x)
theorem MF{x:Operand}(hop:o.op = .assign x)(r:Rel w0 B σ a w L)(h:aS P K T O σ o=some u):bC P K w0 B σ o a w u:=by
 simp only[aS,hop]at h;cases h;exact bC.pure r (by simp only[execOp,hop];rfl) rfl (r.op x)
theorem M0{c x y:Operand}(hop:o.op = .pick c x y)(r:Rel w0 B σ a w L)(h:aS P K T O σ o=some u):bC P K w0 B σ o a w u:=by
 simp only[aS,hop]at h;have hc:=r.op c;split at h
 .rename_i hv
  rw[hv]at hc;have hc:=ax.bQ hc;cases h;exact bC.pure r (by simp[execOp,hop,hc,asBool]) rfl (r.op x)
 .rename_i hv
  rw[hv]at hc;have hc:=ax.bQ hc;cases h;exact bC.pure r (by simp[execOp,hop,hc,asBool]) rfl (r.op y)
 .cases h
theorem MZ{x:Operand}(hop:o.op = .nilCheck x)(r:Rel w0 B σ a w L)(h:aS P K T O σ o=some u):bC P K w0 B σ o a w u:=by
 simp only[aS,hop]at h;have hc:=r.op x;split at h
 .rename_i hv
  rw[hv]at hc;cases h;obtain⟨k1,b,k2,k3⟩:=hc;exact bC.pure r (v:=a.eval x) (by simp[execOp,hop,k3]) rfl ⟨k1,b,k2,k3⟩
 .rename_i hv
  rw[hv]at hc;cases h;generalize hq:a.eval x=q at hc;refine bC.pure r (v:=q) ?_ rfl hc;cases hc;simp only[execOp,hop,hq];rfl
 .rename_i hv
  rw[hv]at hc;cases h;refine bC.pure r (v:=a.eval x) ?_ rfl hc;obtain⟨vs,e,_⟩:=ax.Ct hc;simp only[execOp,hop,e];rfl
 .rename_i hv
  rw[hv]at hc;cases h;refine bC.pure r (v:=a.eval x) ?_ rfl hc;obtain⟨vs,e,_⟩:=hc;simp only[execOp,hop,e];rfl
 .cases h
theorem MG(hT:cD P T){op:BinOp}{t yt:TypeId}{x y:Operand}(hop:o.op = .binOp op t x y yt)(r:Rel w0 B σ a w L)(h:aS P K T O σ o=some u)(ho:∀ q,q ∈ u.aM->q):bC P K w0 B σ o a w u:=by
 simp only[aS,hop]at h;have hx:=r.op x;have hy:=r.op y;split at h
 .rename_i k z k' z' hvx hvy
  rw[hvx]at hx;rw[hvy]at hy;have hx:=ax.bQ hx;have hy:=ax.bQ hy;split at h
  .rename_i hk
   obtain⟨rr,hr,rfl⟩:=Option.map_eq_some_iff.1 h;have hrun:=Lh (P:=P) (k':=k') hr ho hk t w;refine bC.pure r (v:=rr.1) ?_ rfl (.v _);simp only[execOp,hop,hx,hy,Sem.run_bind,eqGuard_at_int,Sem.run_pure,Result.andThen_ok,hrun]
  .cases h
 .rename_i z z' hvx hvy
  rw[hvx]at hx;rw[hvy]at hy;have hx:=ax.bQ hx;have hy:=ax.bQ hy;split at h
  .rename_i hd
   obtain⟨ti,h1,h2⟩:=oK hd;have hu:P.underlying t=some .bool:=by rw[hT.gI h1,h2]
   split at h
   .cases h
    refine bC.pure r (v:=.bool (z==z')) ?_ rfl (.v _);simp only[execOp,hop,hx,hy,Sem.run_bind,eqGuard_at_bool,Sem.run_pure,Result.andThen_ok,run_eql_bool w t z z' hu]
   .cases h
    refine bC.pure r (v:=.bool (!(z==z'))) ?_ rfl (.v _);simp only[execOp,hop,hx,hy,Sem.run_bind,eqGuard_at_bool,Sem.run_pure,Result.andThen_ok];have:(binOp .neq t (.bool z) (.bool z')).run P w = .ok (.bool (!(z==z'))) w:=by
     simp only[binOp,Sem.run_bind,run_equal_bool w t z z' hu,Result.andThen_ok,Sem.run_pure]
    rw[this];rfl
   .cases h
  .cases h
 .rename_i nl n sz el hvx hvy
  rw[hvx]at hx;rw[hvy]at hy;have hy:=ax.bQ hy;have hx:ax (bad B L) (bu L) w (.sl nl n sz el) (a.eval x):=hx;split at h
  .rename_i e hd
   obtain⟨ti,h1,h2⟩:=oK hd;have hu:P.underlying t=some (.slice e):=by rw[hT.gI h1,h2]
   have key:∀ A c,0<n->a.eval x = .slice A n c->ax (bad B L) (bu L) w (.sl nl n sz el) (.slice A n c)->A.isNone=false:=by
    intro A c hn e1 hr;cases A with
    | some ad=>rfl
    | none =>
     cases hr with
     | sl _ _ _ _ _ _ f hc hm h0=>have:=h0 rfl;omega
   generalize hv:a.eval x=vx at hx;cases hx with
   | sl _ _ _ _ A c f hc hm h0 hl hr cell k =>
    have hr0:ax (bad B L) (bu L) w (.sl nl n sz el) (.slice A n c):=.sl nl n sz el A c f hc hm h0 hl hr cell k;split at h
    .cases h
     have hn:0<n:=ho _ (by simp);refine bC.pure r (v:=.bool false) ?_ rfl (.v _);simp only[execOp,hop,hv,hy,Sem.run_bind,eqGuard_at_slice,Sem.run_pure,Result.andThen_ok,Lib.run_eql_slice_nil w t e A n c 0 0 hu,key A c hn hv hr0]
    .cases h
     have hn:0<n:=ho _ (by simp);refine bC.pure r (v:=.bool true) ?_ rfl (.v _);simp only[execOp,hop,hv,hy,Sem.run_bind,eqGuard_at_slice,Sem.run_pure,Result.andThen_ok,run_neq_slice_nil_any w t e A n c 0 0 hu,key A c hn hv hr0,Bool.not_false]
    .cases h
  .cases h
 .rename_i xe ye hvx hvy
  rw[hvx]at hx;rw[hvy]at hy;split at h
  .rename_i v hv
   cases h;obtain⟨h1,h2⟩:=ho _ (List.mem_singleton.2 rfl) _ _ w _ _ x y hx hy;refine bC.pure r (v:=v) ?_ rfl (.v _);simp only[execOp,hop,Sem.run_bind,h1,Result.andThen_ok,h2,Sem.run_pure]
  .cases h
 .cases h
theorem M4{op:UnOp}{t:TypeId}{x:Operand}(hop:o.op = .unOp op t x)(r:Rel w0 B σ a w L)(h:aS P K T O σ o=some u)(ho:∀ q,q ∈ u.aM->q):bC P K w0 B σ o a w u:=by
 simp only[aS,hop]at h;have hx:=r.op x;split at h
 .rename_i z hv
  rw[hv]at hx;have hx:=ax.bQ hx;cases h;exact bC.pure r (v:=.bool (!z)) (by simp[execOp,hop,hx,Op.unary]) rfl (.v _)
 .rename_i k z hv
  rw[hv]at hx;have hx:=ax.bQ hx;cases h;have:=rP (ho (bG k (0-z)) (by simp));refine bC.pure r (v:=.int k (0-z)) ?_ rfl (.v _);simp only[execOp,hop,hx,Op.unary,Op.intArith,this];rfl
 .cases h
theorem MK(hT:cD P T){src dst:TypeId}{x:Operand}(hop:o.op = .convert src dst x)(r:Rel w0 B σ a w L)(h:aS P K T O σ o=some u):bC P K w0 B σ o a w u:=by
 simp only[aS,hop]at h;have hx:=r.op x;split at h
 .rename_i k ts k' z hd hs hv
  rw[hv]at hx;have hx:=ax.bQ hx;obtain⟨td,h1,h2⟩:=oK hd;have hu:P.underlying dst=some (.int k):=by rw[hT.gI h1,h2]
  have hk:P.intKind dst=k:=by simp[Program.intKind,hu]
  have hrun:=run_convert_int (P:=P) w src dst k' z (by rw[hT.gI hs];rfl) (by rw[hk];exact hu);rw[hk]at hrun;cases h;exact bC.pure r (v:=.int k (k.wrap z)) (by simp only[execOp,hop,hx,Sem.run_bind,hrun];rfl) rfl (.v _)
 .cases h
theorem ML{x:Operand}{i:Nat}(hop:o.op = .extract x i)(r:Rel w0 B σ a w L)(h:aS P K T O σ o=some u):bC P K w0 B σ o a w u:=by
 simp only[aS,hop]at h;have hx:=r.op x;split at h
 .rename_i l hv
  rw[hv]at hx;obtain⟨vs,e,hr⟩:=ax.Gy hx;split at h
  .rename_i y hy
   cases h;have hlt:i<vs.length:=by rw[hr.len];exact(List.getElem?_eq_some_iff.1 hy).1
   have hvs:=List.getElem?_eq_getElem hlt;refine bC.pure r (v:=vs[i]) ?_ rfl (hr.rep i y _ hy hvs);simp only[execOp,hop,e,Instr.extract,List.getElem?_toArray,hvs];rfl
  .cases h
 .cases h
theorem MM(hT:cD P T){t:TypeId}{x:Operand}{f:Nat}(hop:o.op = .field t x f)(r:Rel w0 B σ a w L)(h:aS P K T O σ o=some u):bC P K w0 B σ o a w u:=by
 simp only[aS,hop]at h;have hx:=r.op x;split at h
 .rename_i l fs hv hd
  obtain⟨ti,h1,h2⟩:=oK hd;have hu:P.underlying t=some (.struct fs):=by rw[hT.gI h1,h2]
  rw[hv]at hx;obtain⟨vs,e,hr⟩:=ax.ot hx;split at h
  .rename_i fd hfd
   split at h
   .rename_i ft hft
    split at h
    .cases h
    .rename_i hag
     split at h
     .rename_i y hy
      cases h;have hlt:fd.offset<vs.length:=by rw[hr.len];exact(List.getElem?_eq_some_iff.1 hy).1
      have hvs:=List.getElem?_eq_getElem hlt;refine bC.pure r (v:=vs[fd.offset]) ?_ rfl (hr.rep fd.offset y _ hy hvs);simp only[execOp,hop,e,Instr.field,asAgg,Sem.run_bind,Sem.run_pure,Result.andThen_ok,run_underlying hu,hfd,part,uw hT w hft,hag,List.getElem?_toArray,hvs];rfl
     .cases h
   .cases h
  .cases h
 .cases h
theorem J4{ps:List PV}{l:List CV}{vs:List Value}(h:kV ps=some l)(hlen:vs.length=ps.length)(hr:∀ (i:Nat) (p:PV) (x:Value),ps[i]? = some p->vs[i]? = some x->dI (bad B L) (bu L) L w p x) :
  vs.length=l.length/\∀ (i:Nat) (c:CV) (x:Value),l[i]? = some c->vs[i]? = some x->kO (bad B L) (bu L) L w c x:=by
 induction ps generalizing l vs with
 | nil=>cases h;exact⟨hlen,fun i c x hc=>by simp at hc⟩
 | cons p ps ih =>
  cases vs with
  | nil=>simp at hlen
  | cons y vs =>
   have step:∀ (c0:CV) (l':List CV),kV ps=some l'->kO (bad B L) (bu L) L w c0 y->l=c0::l' ->
     (y::vs).length=l.length/\∀ (i:Nat) (c:CV) (x:Value),l[i]? = some c->(y::vs)[i]? = some x->kO (bad B L) (bu L) L w c x:=by
    intro c0 l' hl' hc0 hl;obtain⟨i1,i2⟩:=ih hl' (by simpa using hlen) (fun i p x hp hx=>hr (i+1) p x (by simpa using hp) (by simpa using hx));subst hl;refine⟨by simp[i1],fun i c x hc hx=>?_⟩;cases i with
    | zero=>simp at hc hx;subst hc hx;exact hc0
    | succ i=>simp at hc hx;exact i2 i c x hc hx
   have h0:=hr 0 p y rfl rfl;cases p with
   | e x =>
    simp only[kV]at h;obtain⟨l',hl',rfl⟩:=Option.map_eq_some_iff.1 h;exact step (.e x) l' hl' h0 rfl
   | box id off =>
    cases off with
    | zero =>
     simp only[kV]at h;obtain⟨l',hl',rfl⟩:=Option.map_eq_some_iff.1 h;exact step (.box id) l' hl' h0 rfl
    | succ=>simp[kV]at h
   | _=>simp[kV]at h
theorem MT{fn:Fn}{first cap:Array Operand}(hop:o.op = .makeFunc fn first cap)(r:Rel w0 B σ a w L)(h:aS P K T O σ o=some u):bC P K w0 B σ o a w u:=by
 cases fn with
 | func f =>
  simp only[aS,hop]at h;split at h
  .rename_i hemp
   have hf:first = #[]:=by simpa using hemp
   subst hf;split at h
   .rename_i l hl
    cases h;have hc:=J4 (B:=B) (L:=L) (w:=w) (vs:=cap.toList.map a.eval) hl (by simp) (fun i p x hp hx=>by
     rw[List.getElem?_map]at hp hx;obtain⟨q,hq,rfl⟩:=Option.map_eq_some_iff.1 hp;rw[hq]at hx;simp at hx;subst hx;exact r.op q)
    refine bC.pure r (v:=.func (.func f) #[] (cap.toList.map a.eval).toArray) ?_ rfl ⟨cap.toList.map a.eval,rfl,hc.1,hc.2⟩;have e1:cap.map a.eval=(cap.toList.map a.eval).toArray:=by apply Array.ext';simp
    have e2:(#[]:Array Operand).map a.eval = #[]:=by simp
    simp only[execOp,hop,Instr.makeFunc,e1,e2,Sem.run_bind,Sem.run_pure,Result.andThen_ok]
   .cases h
  .cases h
 | _=>simp[aS,hop]at h
theorem MO(hT:cD P T){t:TypeId}{x i:Operand}(hop:o.op = .index t x i)(r:Rel w0 B σ a w L)(h:aS P K T O σ o=some u)(ho:∀ q,q ∈ u.aM->q):bC P K w0 B σ o a w u:=by
 simp only[aS,hop]at h;have hx:=r.op x;have hi:=r.op i;split at h
 .rename_i l k z hv hw
  rw[hv]at hx;rw[hw]at hi;have ei:=ax.bQ hi;obtain⟨vs,e,hr⟩:=ax.ot hx;split at h
  .rename_i tt htt
   split at h
   .rename_i n e' hd
    have hu:P.underlying t=some (.array n e'):=by rw[hT.gI htt,hd]
    split at h
    .rename_i te hte
     split at h
     .rename_i hc
      simp only[Bool.and_eq_true,beq_iff]at hc;cases h;obtain⟨hz1,hz2⟩:=ho (0<=z/\z<n) (by simp);refine bC.pure r (v:=.agg ((vs.drop (z.toNat*te.i.size)).take te.i.size).toArray) ?_ rfl ((hr.drop _).take _).agg;simp only[execOp,hop,e,ei,Instr.index,asIntOf,Sem.run_bind,Sem.run_pure,Result.andThen_ok,run_underlying hu,hz1,hz2,and_self,if_true,jY hT w hte,part,uw hT w hte,hc.1];simp
     .cases h
    .cases h
   .cases h
  .cases h
 .cases h
theorem MN(hT:cD P T){t:TypeId}{x:Operand}{f:Nat}(hop:o.op = .fieldAddr t x f)(r:Rel w0 B σ a w L)(h:aS P K T O σ o=some u):bC P K w0 B σ o a w u:=by
 simp only[aS,hop]at h;have hx:=r.op x;split at h
 .rename_i fs hd
  obtain⟨ti,h1,h2⟩:=oK hd;have hu:P.underlying t=some (.struct fs):=by rw[hT.gI h1,h2]
  split at h
  .rename_i fd hfd
   split at h
   .rename_i ft hft
    split at h
    .cases h
    .rename_i hne
     have hne':¬ft.i.size=0:=fun e=>hne (beq_iff.2 e)
     have hrun:∀ b off,a.eval x = .pointer (some ⟨b,off,none⟩)->(execOp a.eval o).run P w = .ok (.value (.pointer (some ⟨b,off+fd.offset,none⟩))) w:=by
      intro b off e;simp only[execOp,hop,e,Instr.fieldAt,Instr.sureAddr,fieldPlace,Sem.run_bind,run_underlying hu,Result.andThen_ok,hfd,Sem.run_pure,jY hT w hft,hne',if_false,Addr.add_lit]
     split at h
     .rename_i id off hv
      rw[hv]at hx;obtain⟨k1,b,k2,k3⟩:=hx;cases h;exact bC.pure r (hrun b off k3) rfl ⟨k1,b,k2,rfl⟩
     .rename_i id sz i j hv
      rw[hv]at hx;obtain⟨k1,b,n,c,k2,k3⟩:=hx;cases h;exact bC.pure r (hrun b _ k3) rfl ⟨k1,b,n,c,k2,by rw[Nat.add_assoc]⟩
     .rename_i m el hv
      rw[hv]at hx;split at h
      .rename_i hle
       have hle':=Nat.le_of_ble_eq_true hle;cases h;generalize hq:a.eval x=q at hx;cases hx with
       | ref _ _ b off g hb hlt hl cell kk =>
        refine bC.pure r (hrun b off hq) rfl (.ref _ _ b _ (fun j=>g (fd.offset+j)) hb hlt (fun j hj=>hl _ (by omega)) (fun j hj=>?_) (fun j hj=>kk _ (by omega)));have:=cell (fd.offset+j) (by omega);rwa[<-Nat.add_assoc]at this
      .cases h
     .cases h
   .cases h
  .cases h
 .cases h
end
open Go.RowKit
section
variable {P:Program} {K:World->Prop} {T:List TI} {O:eu} {w0:World} {B:Nat->Prop} {σ:PS} {o:Oper} {a:Act} {w:World} {L:Lk} {u:Out}
theorem OE(hT:cD P T){t:TypeId}{x:Operand}{ti:TI}(hti:de T t=some ti)(hop:o.op = .load t x)(r:Rel w0 B σ a w L)(h:qE ti (σ.read (σ.op x) ti.i.size)=some u)(ho:∀ q,q ∈ u.aM->q):bC P K w0 B σ o a w u:=by
 cases hr:σ.read (σ.op x) ti.i.size with
 | none=>rw[hr]at h;cases h
 | some y =>
  obtain⟨l,is,aM⟩:=y;rw[hr]at h;simp only[qE]at h;by_cases ha:ti.isAgg=true
  .rw [if_pos ha]at h
   cases h;obtain⟨b,q,vs,e,h1,h2,h3⟩:=r.read (r.op x) hr ho;refine bC.pure r (v:=.agg vs.toArray) ?_ rfl h1.agg;simp only[execOp,hop,e,Instr.loadAt,Instr.sureAddr,Sem.run_bind,Sem.run_pure,Result.andThen_ok,Fy hT w hti ha b q vs h2 h3]
  .rw [if_neg ha]at h
   have ha':ti.isAgg=false:=by simpa using ha
   split at h
   .rename_i p
    cases h;obtain⟨b,q,vs,e,h1,h2,h3⟩:=r.read (r.op x) hr ho;obtain⟨y,ys,rfl,hy,hys⟩:=h1.cK;refine bC.pure r (v:=y) ?_ rfl hy;have hc:=h3 0 y rfl;simp only[execOp,hop,e,Instr.loadAt,Instr.sureAddr,Sem.run_bind,Sem.run_pure,Result.andThen_ok,yK hT w hti ha' b q y (by simpa using hc)]
   .cases h
theorem MS(hT:cD P T){t:TypeId}{x:Operand}(hop:o.op = .load t x)(r:Rel w0 B σ a w L)(h:aS P K T O σ o=some u)(ho:∀ q,q ∈ u.aM->q):bC P K w0 B σ o a w u:=by
 simp only[aS,hop,sT]at h;split at h
 .rename_i ti hti
  split at h
  .rename_i id i n hra
   by_cases ha:ti.isAgg=true
   .rw [if_pos ha]at h;cases h
   .rw [if_neg ha]at h
    have ha':ti.isAgg=false:=by simpa using ha
    cases h;have hx:=r.op x;cases hp:σ.op x with
    | eZ id' sz i' j =>
     rw[hp]at hra hx;simp only[nV]at hra;split at hra
     .rename_i nl T1 T0 n' sz' len el hbo
      split at hra
      .rename_i hc
       simp only[Option.some.injEq,Prod.mk.injEq]at hra;obtain⟨rfl,rfl,rfl⟩:=hra;simp only[Bool.and_eq_true]at hc;have e1:=beq_iff.1 hc.1;have e2:=beq_iff.1 hc.2;subst e1 e2;have hi:i'<n':=ho _ (by simp);obtain⟨b,c,cur,f,h1,h2,h3,h4,h5,h6,h7,h8,h9,h10,h11⟩:=r.hb id' _ hbo;obtain⟨k1,b',n2,c2,k2,k3⟩:=hx;rw[h1]at k2;cases k2;refine bC.pure r (v:=L.aL id' i') ?_ rfl ⟨k1,rfl⟩
       have hcell:w.cell? ⟨b,i'*1+0,none⟩=some (L.aL id' i'):=by
        simp only[World.cell?,h2];simpa using h6 i' hi (by simp)
       simp only[execOp,hop,k3,Instr.loadAt,Instr.sureAddr,Sem.run_bind,Sem.run_pure,Result.andThen_ok,yK hT w hti ha' b _ _ hcell]
      .cases hra
     .cases hra
    | _=>rw[hp]at hra;cases hra
  .exact OE hT hti hop r h ho
 .cases h
theorem Ev{bs br:Nat->Prop}{l m:List E}{vs us:List Value}(h:bE bs br w l vs)(k:bE bs br w m us)(off:Nat):bE bs br w (mI l off m) (vs.take off++us++vs.drop (off+us.length)):=by
 unfold mI;rw[k.len];exact((h.take off).app k).app (h.drop _)
theorem PY{q:E->Bool}{l m:List E}(h:l.all q=true)(k:m.all q=true)(off:Nat):(mI l off m).all q=true:=by
 unfold mI;rw[List.all_append,List.all_append,k];have h1:(l.take off).all q=true:=List.all_eq_true.2 fun x hx=>List.all_eq_true.1 h x (List.mem_of_mem_take hx)
 have h2:(l.drop (off+m.length)).all q=true:=List.all_eq_true.2 fun x hx=>List.all_eq_true.1 h x (List.mem_of_mem_drop hx)
 rw[h1,h2];rfl
theorem M3(hT:cD P T){t:TypeId}{x y:Operand}(hop:o.op = .store t x y)(r:Rel w0 B σ a w L)(h:aS P K T O σ o=some u)(ho:∀ q,q ∈ u.aM->q):bC P K w0 B σ o a w u:=by
 simp only[aS,hop,sW]at h;have hx:=r.op x;have hy:=r.op y;split at h
 .rename_i ti hti
  split at h
  .
   rename_i id off e hpx hpy;rw[hpx]at hx;rw[hpy]at hy;split at h
   .rename_i T1 l m hbo hm
    split at h
    .rename_i hc
     cases h;simp only[Bool.and_eq_true]at hc;have c1:=beq_iff.1 hc.1.1;have c2:=Nat.le_of_ble_eq_true hc.1.2;obtain⟨b,vs,h1,h2,h3,h4,h5⟩:=r.hb id _ hbo;obtain⟨k1,b',k2,k3⟩:=hx;rw[h1]at k2;cases k2;obtain⟨q1,q2⟩:=hy.cells hm;have ht:=Touch.setRow (L:=L) ((h2 b).2 rfl) (fun x hx=>(r.hw id x hx).2) (vs.take off++(a.eval y).cells.toList++vs.drop (off+(a.eval y).cells.toList.length)).toArray
     have hl:=ht.later (L.val id) (L.aL id);refine⟨undef,_,_,.inr ⟨?_,rfl⟩,r.jg id (.cells T1 (mI l off m)) _ k1 ht ⟨b,_,by rw[Lk.eC];exact h1,fun x=>(Lk.gW x).trans (h2 x),setRow_heap w b _ _ T1 _ h3,(Ev h4 q1 off).mono fun _ _=>hl.rep,?_⟩ ?_,.any _⟩
     .have hr:=yL hT w hti b off T1 vs.toArray h3 (a.eval y) (by rw[q1.len,c1]) (by rw[q1.len,List.size_toArray,h4.len];exact c2) q2
      simp only[execOp,hop,k3,Instr.storeAt,Instr.sureAddr,Sem.run_bind,Sem.run_pure,Result.andThen_ok,hr]
     .intro v hv
      simp only[List.mem_append]at hv;rcases hv with(hv|hv)|hv
      .exact h5 v (List.mem_of_mem_take hv)
      .exact q2 v hv
      .exact h5 v (List.mem_of_mem_drop hv)
     .intro hn
      have:=hc.2;rw[hn]at this;exact PY (r.hl hn id _ hbo) (by simpa using this) off
    .cases h
   .cases h
  .
   rename_i id sz i j e hpx hpy;rw[hpx]at hx;rw[hpy]at hy;split at h
   .rename_i nl T1 n s el m hbo hm
    split at h
    .rename_i hc
     cases h;simp only[Bool.and_eq_true]at hc;have c1:=beq_iff.1 hc.1.1.1.1;have c2:=beq_iff.1 hc.1.1.1.2;have c3:=Nat.le_of_ble_eq_true hc.1.1.2;subst c2;have hi:i<n:=ho _ (by simp);obtain⟨f,h1,h2,h3⟩:=r.hb id _ hbo;obtain⟨k1,b',n',c',k2,k3⟩:=hx;rcases h1 with⟨h1,_⟩|⟨b,c,cur,h1,hg,hnc,hcm,hcs,hcell,hnl⟩
     .rw [k2]at h1;cases h1
     .rw [k2]at h1
      cases h1;obtain⟨q1,q2⟩:=hy.cells hm;have hown:L.own id b':=(h2 b').2 (by rw[k2];rfl);have hins:i*s+s<=cur.size:=by
       rw[hcs];have:=Nat.mul_le_mul_right s (show i+1<=c' by omega);rwa[Nat.add_mul,Nat.one_mul]at this
      have hfit:i*s+j+(a.eval y).cells.toList.length<=cur.size:=by rw[q1.len];omega
      have ht:=Touch.setRow (L:=L) hown (fun x hx=>(r.hw id x hx).2) (cur.toList.take (i*s+j)++(a.eval y).cells.toList++cur.toList.drop (i*s+j+(a.eval y).cells.toList.length)).toArray;have hl:=ht.later (L.val id) (L.aL id)
      refine⟨undef,_,_,.inr ⟨?_,rfl⟩,r.jg id _ _ k1 ht ⟨fun i' j'=>if i'=i/\j<=j'/\j'<j+m.length then(a.eval y).cells.toList.getD (j'-j) undef else f i' j',?_,fun x=>?_,?_⟩ ?_,.any _⟩
      .have hr:=yL hT w hti b' (i*s+j) T1 cur hg (a.eval y) (by rw[q1.len,c1]) hfit q2
       simp only[execOp,hop,k3,Instr.storeAt,Instr.sureAddr,Sem.run_bind,Sem.run_pure,Result.andThen_ok,hr]
      .rw [Lk.eC]
       refine .inr ⟨b',c',_,k2,setRow_heap w b' _ _ T1 _ hg,hnc,hcm,?_,?_,?_⟩
       .simp only[List.size_toArray,List.length_append,List.length_take,List.length_drop,Array.length_toList]
        have hfit':=hfit;simp only[Array.length_toList]at hfit';rw[Nat.min_eq_left (by omega)];omega
       .intro i' j' hi' hj'
        obtain⟨o1,o2⟩:=hcell i' j' hi' hj';have hlen:i'*s+j'<cur.size:=by
         rw[hcs];have:=Nat.mul_le_mul_right s (show i'+1<=c' by omega);rw[Nat.add_mul,Nat.one_mul]at this;omega
        have same:i'≠i->i'*s+j'<i*s\/i*s+s<=i'*s+j':=by
         intro hne;rcases Nat.lt_or_gt_of_ne hne with hlt|hlt
         .left
          have:=Nat.mul_le_mul_right s (show i'+1<=i from hlt);rw[Nat.add_mul,Nat.one_mul]at this;omega
         .right
          have:=Nat.mul_le_mul_right s (show i+1<=i' from hlt);rw[Nat.add_mul,Nat.one_mul]at this;omega
        simp only[List.getElem?_toArray];rw[List.append_assoc,List.getElem?_append,List.length_take,Array.length_toList,Nat.min_eq_left (by omega)];by_cases hin:i'=i/\j<=j'/\j'<j+m.length
        .obtain ⟨rfl,p1,p2⟩:=hin
         rw[if_neg (by omega),List.getElem?_append_left (by rw[q1.len];omega)];have e1:i'*s+j'-(i'*s+j)=j'-j:=by omega
         have hlt:j'-j<(a.eval y).cells.toList.length:=by rw[q1.len];omega
         rw[if_pos ⟨rfl,p1,p2⟩,e1,List.getD_eq_getElem?_getD,List.getElem?_eq_getElem hlt];exact⟨rfl,q2 _ (List.getElem_mem hlt)⟩
        .rw [if_neg hin]
         refine⟨?_,o2⟩;by_cases hb1:i'*s+j'<i*s+j
         .rw [if_pos hb1,List.getElem?_take,if_pos hb1]
          simpa using o1
         .rw [if_neg hb1,List.getElem?_append_right,List.getElem?_drop]
          .have:i*s+j+(a.eval y).cells.toList.length+(i'*s+j'-(i*s+j)-(a.eval y).cells.toList.length)=i'*s+j':=by
            rw[q1.len];by_cases hii:i'=i
            .subst hii;omega
            .have:=same hii;omega
           rw[this];simpa using o1
          .rw [q1.len]
           by_cases hii:i'=i
           .subst hii;omega
           .have:=same hii;omega
       .intro hn v hv
        simp only[List.mem_toArray,List.mem_append]at hv;rcases hv with(hv|hv)|hv
        .exact hnl hn v (by have:=List.mem_of_mem_take hv;simpa using this)
        .obtain ⟨q,hq⟩:=List.mem_iff_getElem?.1 hv
         have hql:q<m.length:=by rw[<-q1.len];exact(List.getElem?_eq_some_iff.1 hq).1
         have hmn:m.all E.dv=true:=by have:=hc.1.2;rw[hn]at this;simpa using this
         exact(q1.rep q _ v (List.getElem?_eq_getElem hql) hq).dv (List.all_eq_true.1 hmn _ (List.getElem_mem hql))
        .exact hnl hn v (by have:=List.mem_of_mem_drop hv;simpa using this)
      .rw [Lk.eC]
       exact(Lk.gW x).trans (h2 x)
      .intro i' j' hi' hj'
       refine(fun(q:ax _ _ _ _ _/\_)=>⟨hl.rep q.1,q.2⟩) (?_:_/\_);dsimp only;by_cases hin:i'=i/\j<=j'/\j'<j+m.length
       .rw [if_pos hin,if_pos hin]
        have hml:j'-j<m.length:=by omega
        have hvl:j'-j<(a.eval y).cells.toList.length:=by rw[q1.len];omega
        rw[List.getD_eq_getElem?_getD,List.getElem?_eq_getElem hml,List.getD_eq_getElem?_getD,List.getElem?_eq_getElem hvl];exact⟨q1.rep _ _ _ (List.getElem?_eq_getElem hml) (List.getElem?_eq_getElem hvl),List.all_eq_true.1 hc.2 _ (List.getElem_mem hml)⟩
       .rw [if_neg hin,if_neg hin]
        exact h3 i' j' hi' hj'
      .intro hn
       have:=r.hl hn id _ hbo;exact this
    .cases h
   .cases h
  .
   rename_i id i id' k hpx hpy;rw[hpx]at hx;rw[hpy]at hy;split at h
   .rename_i nl T1 T0 n sz len el k' hbo
    split at h
    .rename_i hc
     cases h;simp only[Bool.and_eq_true]at hc;have c1:=beq_iff.1 hc.1;have c2:=beq_iff.1 hc.2;subst c1;have e1:i=k':=ho _ (by simp);have e2:k=k':=ho _ (by simp);have hk:k'<n:=ho _ (by simp);subst e1 e2;obtain⟨b,c,cur,f,h1,h2,h3,h4,h5,h6,h7,h8,h9,h10,h11⟩:=r.hb id _ hbo;obtain⟨k1,b',n',c',k2,k3⟩:=hx;obtain⟨_,hy2⟩:=hy;rw[h1]at k2;cases k2
     have hone:(L.aL id k).oneCell'=true/\gS (L.aL id k)=false/\(L.aL id k).cells = #[L.aL id k]:=by
      rcases(h8 k hk).1 with⟨e,_⟩|⟨_,_,_,e,_⟩<;>rw[e]<;>exact⟨rfl,rfl,rfl⟩
     have hown:L.own id b:=(h9 b).2 (.inl rfl);have ht:=Touch.setRow (L:=L) hown (fun x hx=>(r.hw id x hx).2) (cur.toList.take (k*1+0)++(a.eval y).cells.toList++cur.toList.drop (k*1+0+(a.eval y).cells.toList.length)).toArray;have hl:=ht.later (L.val id) (L.aL id);have hcells:(a.eval y).cells.toList=[L.aL id k]:=by rw[hy2,hone.2.2]
     have hcur:(cur.toList.take (k*1+0)++(a.eval y).cells.toList++cur.toList.drop (k*1+0+(a.eval y).cells.toList.length)).toArray=cur.setIfInBounds k (L.aL id k):=by
      rw[hcells];apply Array.ext';simp only[Nat.mul_one,Nat.add_zero,List.length_singleton,Array.toList_setIfInBounds];rw[List.set_eq_take_append_cons_drop,if_pos (by simpa using(by omega:k<cur.size))];simp
     rw[hcur]at ht hl;have hkeep:∀ x,x≠b->(w.setRow b (cur.setIfInBounds k (L.aL id k))).heap[x]? = w.heap[x]?:=fun x hx=>setRow_other w b x _ hx
     refine⟨undef,_,_,.inr ⟨?_,rfl⟩,r.jg id _ _ k1 ht ⟨b,c,cur.setIfInBounds k (L.aL id k),f,by rw[Lk.eC];exact h1,setRow_heap w b _ _ T1 _ h2,h3,h4,by simpa using h5,?_,?_,?_,?_,?_,?_⟩ ?_,.any _⟩
     .have hr:=yL hT w hti b (k*1+0) T1 cur h2 (a.eval y) (by rw[hcells];simpa using c2.symm) (by rw[hcells];simp;omega) (by rw[hcells];simpa using hone.1)
      rw[hcur]at hr;simp only[execOp,hop,k3,Instr.storeAt,Instr.sureAddr,Sem.run_bind,Sem.run_pure,Result.andThen_ok,hr]
     .intro q hq _
      rw[Lk.gp];by_cases hqk:q=k
      .subst hqk
       have:q<cur.size:=by omega
       simp[this]
      .rw [Array.getElem?_setIfInBounds_ne (fun e=>hqk e.symm)]
       exact h6 q hq (by simpa using fun e=>hqk e.symm)
     .intro v hv
      rcases Array.mem_or_eq_of_mem_setIfInBounds hv with hv|hv
      .exact h7 v hv
      .subst hv;exact⟨hone.1,hone.2.1⟩
     .intro q hq
      obtain⟨p1,p2⟩:=h8 q hq;rw[Lk.gp];exact⟨p1.block fun x hx=>hkeep x fun e=>h11 q hq (e▸hx),fun i j hi hj=>⟨hl.rep (p2 i j hi hj).1,(p2 i j hi hj).2⟩⟩
     .intro x
      rw[Lk.gW];refine(h9 x).trans ?_;simp only[Lk.gp]
     .simp only[Lk.gp];exact h10
     .simp only[Lk.gp];exact h11
     .intro hn
      have:=r.hl hn id _ hbo;exact this
    .cases h
   .cases h
  .cases h
 .cases h
theorem MD(hT:cD P T){t:TypeId}(hop:o.op = .alloc t)(r:Rel w0 B σ a w L)(h:aS P K T O σ o=some u):bC P K w0 B σ o a w u:=by
 simp only[aS,hop]at h;split at h
 .rename_i ti hti
  split at h
  .rename_i z hz
   obtain⟨id,hd,hno,hnl,rfl⟩:=nI h;obtain⟨zv,hzv,hrep⟩:=rU hz;obtain⟨q1,q2⟩:=hrep (bad B L) (bu L) w;obtain⟨L',r',hp⟩:=r.D6 id t z zv hno q1 q2 (by simpa[Bx.nl]using hnl);refine⟨_,_,L',.inl ?_,r',hp⟩;simp only[execOp,hop,Instr.alloc,Sem.run_bind,Fz hT w hti hzv,Result.andThen_ok,newVar,newRow,run_newObj_alloc,Sem.run_pure]
  .cases h
 .cases h
theorem MH{t:TypeId}{x:Operand}(hop:o.op = .box t x)(r:Rel w0 B σ a w L)(h:aS P K T O σ o=some u):bC P K w0 B σ o a w u:=by
 simp only[aS,hop]at h;have hx:=r.op x;split at h
 .rename_i e hv
  rw[hv]at hx;split at h
  .rename_i l hl
   obtain⟨id,hd,hno,hnl,rfl⟩:=nI h;obtain⟨q1,q2⟩:=hx.cells hl;obtain⟨L',r',hp⟩:=r.D6 id t l (a.eval x) hno q1 q2 (by simpa[Bx.nl]using hnl);refine⟨_,_,L',.inl ?_,r',hp⟩;simp only[execOp,hop,Instr.box,Sem.run_bind,Result.andThen_ok,newVar,newRow,run_newObj_alloc,Sem.run_pure]
  .cases h
 .cases h
end
open Go.RowKit
theorem Mk(us:List Value):∀ (off k:Nat) (cs:Array Value),off+k+us.length<=cs.size ->
  (us.zipIdx k).foldl (fun cs (c:Value×Nat)=>cs.setIfInBounds (off+c.2) c.1) cs=(cs.toList.take (off+k)++us++cs.toList.drop (off+k+us.length)).toArray:=by
 induction us with
 | nil=>intro off k cs h;simp
 | cons x us ih =>
  intro off k cs h;simp only[List.zipIdx_cons,List.foldl_cons];rw[ih off (k+1) _ (by simp at h ⊢;omega)];apply Array.ext';simp only[List.length_cons]at h;obtain⟨A,y,D,hcs,hA⟩:∃ A y D,cs.toList=A++y::D/\A.length=off+k:=by
   have hlt:off+k<cs.toList.length:=by simp;omega
   refine⟨cs.toList.take (off+k),cs.toList[off+k],cs.toList.drop (off+k+1),?_,by rw[List.length_take];omega⟩;rw[<-List.drop_eq_getElem_cons hlt,List.take_append_drop]
  simp only[Array.toList_setIfInBounds,List.length_cons,hcs,<-hA];rw[List.set_append_right _ _ (Nat.le_refl _),Nat.sub_self,List.set_cons_zero,
   show off+(k+1)+us.length=A.length+(us.length+1)by omega,show off+(k+1)=A.length+1 by omega,
   List.take_length_add_append,List.drop_length_add_append,List.take_left,List.drop_length_add_append]
  simp
theorem Me(place:Nat->Option (Nat×Nat))(cs:Array Value)(i:Nat)(v:Value)(rest:List (Nat×Value))(off:Nat)(hp:place i=some (off,v.cells.toList.length))(hfit:off+v.cells.toList.length<=cs.size) :
  Instr.fill place cs ((i,v)::rest)=Instr.fill place (cs.toList.take off++v.cells.toList++cs.toList.drop (off+v.cells.toList.length)).toArray rest:=by
 have h1:¬(v.cells.size≠v.cells.toList.length\/off+v.cells.size>cs.size):=by simp at hfit ⊢;omega
 have hf:=Mk v.cells.toList off 0 cs (by simpa using hfit);simp only[Nat.add_zero]at hf;have h2:(v.cells.zipIdx.foldl (fun cs (c,j)=>cs.setIfInBounds (off+j) c) cs)=(cs.toList.take off++v.cells.toList++cs.toList.drop (off+v.cells.toList.length)).toArray:=by
  rw[<-hf,<-Array.foldl_toList,Array.toList_zipIdx]
 rw[Instr.fill,hp];simp only;rw[if_neg (by simpa using h1),h2]
section
variable {P:Program} {K:World->Prop} {T:List TI} {O:eu} {w0:World} {B:Nat->Prop} {σ:PS} {o:Oper} {a:Act} {w:World} {L:Lk} {u:Out}
theorem wI(r:Rel w0 B σ a w L){place:Nat->Option (Nat×Nat)}{ps:List (Nat×Operand)}{l m:List E}{cs:Array Value}(h:gz σ place l ps=some m)
  (hr:bE (bad B L) (bu L) w l cs.toList) (h1:∀ u ∈ cs,u.oneCell'=true) :
  ∃ cs',Instr.fill place cs (ps.map fun x=>(x.1,a.eval x.2))=some cs'/\bE (bad B L) (bu L) w m cs'.toList/\(∀ u ∈ cs',u.oneCell'=true):=by
 induction ps generalizing l cs with
 | nil =>
  simp only[gz]at h;cases h;exact⟨cs,rfl,hr,h1⟩
 | cons p ps ih =>
  obtain⟨i,x⟩:=p;simp only[gz]at h;have hx:=r.op x;split at h
  .rename_i off size e hp hv
   rw[hv]at hx;split at h
   .rename_i q hq
    split at h
    .rename_i hc
     simp only[Bool.and_eq_true]at hc;have c1:=beq_iff.1 hc.1;have c2:=Nat.le_of_ble_eq_true hc.2;obtain⟨q1,q2⟩:=hx.cells hq;have hlen:(a.eval x).cells.toList.length=size:=by rw[q1.len,c1]
     have hcl:=hr.len;rw[List.map_cons,Me place cs i (a.eval x) _ off (by rw[hlen];exact hp) (by rw[q1.len];simp at hcl;omega)];refine ih h (Ev hr q1 off) fun v hv=>?_
     simp only[List.mem_toArray,List.mem_append]at hv;rcases hv with(hv|hv)|hv
     .exact h1 v (by have:=List.mem_of_mem_take hv;simpa using this)
     .exact q2 v hv
     .exact h1 v (by have:=List.mem_of_mem_drop hv;simpa using this)
    .cases h
   .cases h
  .cases h
theorem Ep(ps:Array (Nat×Operand))(a:Act):(ps.map fun(x:Nat×Operand)=>(x.1,a.eval x.2)).toList=ps.toList.map fun x=>(x.1,a.eval x.2):=by simp
theorem PN{P:Program}(hT:cD P T){fs:List Field}{pl:List (Nat×Nat)}(h:q6 T fs=some pl):fs.mapM (fun f=>(P.info? f.type).map fun i=>(f.offset,i.size))=some pl:=by
 induction fs generalizing pl with
 | nil=>simp only[q6]at h;cases h;rfl
 | cons f fs ih =>
  simp only[q6]at h;split at h
  .rename_i ti l h1 h2
   cases h;simp[List.mapM_cons,hT.inf h1,ih h2]
  .cases h
theorem MI(hT:cD P T){t:TypeId}{ps:Array (Nat×Operand)}(hop:o.op = .build t ps)(r:Rel w0 B σ a w L)(h:aS P K T O σ o=some u):bC P K w0 B σ o a w u:=by
 simp only[aS,hop]at h;have main:∀ (l:List E) (cs:Array Value),P.built t (ps.toList.map fun x=>(x.1,a.eval x.2))=some cs->bE (bad B L) (bu L) w l cs.toList->u={ r:=.e (.agg l) }->bC P K w0 B σ o a w u:=by
  intro l cs hb hr hu;subst hu;have hrun:=run_build (P:=P) w t (ps.map fun(x:Nat×Operand)=>(x.1,a.eval x.2)) cs (by rw[Ep];exact hb);refine bC.pure r (v:=.agg cs) ?_ rfl (by have:=hr.agg;rwa[Array.toArray_toList]at this);simp only[execOp,hop,Sem.run_bind,hrun,Result.andThen_ok,Sem.run_pure]
 split at h
 .rename_i ti hti
  split at h
  .rename_i z hz
   obtain⟨zv,hzv,hrep⟩:=rU hz;obtain⟨q1,q2⟩:=hrep (bad B L) (bu L) w;split at h
   .rename_i fs hd
    split at h
    .rename_i pl hpl
     obtain⟨l,hl,rfl⟩:=Option.map_eq_some_iff.1 h;obtain⟨cs,p1,p2,_⟩:=wI r hl q1 (fun u hu=>q2 u (by simpa using hu));refine main l cs ?_ p2 rfl;unfold Program.built;rw[hT.inf hti,hT.gI hti,hd];simp only[hzv,PN hT hpl];have:(fun x:Nat=>pl.toArray[x]?)=fun x=>pl[x]?:=by funext x;simp
     rw[this];exact p1
    .cases h
   .rename_i n e hd
    split at h
    .rename_i te hte
     obtain⟨l,hl,rfl⟩:=Option.map_eq_some_iff.1 h;obtain⟨cs,p1,p2,_⟩:=wI r hl q1 (fun u hu=>q2 u (by simpa using hu));refine main l cs ?_ p2 rfl;unfold Program.built;rw[hT.inf hti,hT.gI hti,hd];simp only[hzv,hT.inf hte];exact p1
    .cases h
   .cases h
  .cases h
 .cases h
theorem Fi{α:Type}(n:Nat)(l:List α):(rep n l).length=n*l.length:=by
 induction n with
 | zero=>simp[rep]
 | succ n ih=>simp only[rep,List.length_append,ih,Nat.add_mul,Nat.one_mul];omega
theorem Rb{α:Type}(n:Nat)(l:List α)(q:Nat)(h:q<n*l.length):(rep n l)[q]? = l[q%l.length]?:=by
 induction n generalizing q with
 | zero=>simp at h
 | succ n ih =>
  simp only[rep];rw[Nat.add_mul,Nat.one_mul]at h;by_cases hq:q<l.length
  .rw [List.getElem?_append_left hq,Nat.mod_eq_of_lt hq]
  .rw [List.getElem?_append_right (by omega),ih _ (by omega)]
   congr 1;exact(Nat.mod_eq_sub_mod (by omega)).symm
theorem Rc{bs br:Nat->Prop}{z:List E}{zs:Array Value}(h:bE bs br w z zs.toList)(n:Nat):bE bs br w (rep n z) ((Array.range (n*zs.size)).map (zs[· % zs.size]!)).toList:=by
 have hl:=h.len;simp only[Array.length_toList]at hl;refine⟨by simp[Fi,hl],fun i p x hp hx=>?_⟩;have hi:i<n*zs.size:=by
  have:=(List.getElem?_eq_some_iff.1 hx).1;simpa using this
 have hz:0<zs.size:=by
  rcases Nat.eq_zero_or_pos zs.size with h0|h0
  .rw [h0]at hi;simp at hi
  .exact h0
 rw[Rb _ _ _ (by rw[<-hl];exact hi),<-hl]at hp;have hlt:=Nat.mod_lt i hz;simp[hi]at hx;subst hx;rw[getElem!_pos zs _ hlt];exact h.rep _ p _ hp (by simp[hlt])
theorem FW(hB:∀ b,B b->b<w0.heap.size)(r:Rel w0 B σ a w L)(e:TypeId)(n sz:Nat)(l:List E)(cs:Array Value)(nl:Bool)(hr:bE (bad B L) (bu L) w l cs.toList)(h1:∀ u ∈ cs,u.oneCell'=true)(hlen:cs.size=n*sz)
  (hn':n<=9223372036854775807) (hnl:nl=true->l.all E.dv=true) (hnr:l.all (E.nr 2)=true) :
  Rel w0 B σ a (w.alloc (.cells cs e)) L/\ax (bad B L) (bu L) (w.alloc (.cells cs e)) (.sl nl n sz fun i j=>l.getD (i*sz+j) (.v (.bool false))) (.slice (some ⟨w.heap.size,0,none⟩) n n):=by
 have hb:Below w.heap.size w (w.alloc (.cells cs e)):=(Below.refl _ _).alloc (Nat.le_refl _) _;have hl:gN L w L (w.alloc (.cells cs e)):=⟨hb.size,fun _ _ h=>h,fun x hx _=>hb.block x hx⟩
 refine⟨r.later hb,?_⟩;have hin:∀ i j,i<n->j<sz->i*sz+j<cs.size:=by
  intro i j hi hj;rw[hlen];have:=Nat.mul_le_mul_right sz (show i+1<=n from hi);rw[Nat.add_mul,Nat.one_mul]at this;omega
 have hll:=hr.len;simp only[Array.length_toList]at hll;refine .sl nl n sz _ _ n (fun i j=>cs.getD (i*sz+j) undef) (Nat.le_refl _) hn' (fun h=>by cases h) (fun i j hi hj=>?_) (fun i j hi hj=>?_) (fun i j hi hj=>?_) (fun i j hi hj=>?_)
 .have hq:=hin i j hi hj
  have e1:cs.getD (i*sz+j) undef=cs[i*sz+j]:=by simp[hq]
  rw[e1];refine⟨h1 _ (Array.getElem_mem hq),fun hn0=>?_⟩;have hq':i*sz+j<l.length:=by omega
  exact(hr.rep (i*sz+j) _ _ (List.getElem?_eq_getElem hq') (by simp[hq])).dv (List.all_eq_true.1 (hnl hn0) _ (List.getElem_mem hq'))
 .have hq:=hin i j hi hj
  have hq':i*sz+j<l.length:=by omega
  rw[List.getD_eq_getElem?_getD,List.getElem?_eq_getElem hq'];exact List.all_eq_true.1 hnr _ (List.getElem_mem hq')
 .have hq:=hin i j hi hj
  refine⟨w.heap.size,0,rfl,fun hbad=>?_,by simp,?_⟩
  .rcases hbad with hx|⟨id,hx⟩
   .have:=hB _ hx;have:=r.he.size;omega
   .have:=(r.hw id _ hx).2;omega
  .rw [Nat.zero_add,World.cell?_alloc_new]
   simp[hq]
 .have hq:=hin i j hi hj
  have hq':i*sz+j<l.length:=by omega
  have e1:cs.getD (i*sz+j) undef=cs[i*sz+j]:=by simp[hq]
  rw[e1,List.getD_eq_getElem?_getD,List.getElem?_eq_getElem hq'];exact hl.rep (hr.rep (i*sz+j) _ _ (List.getElem?_eq_getElem hq') (by simp[hq]))
theorem Ot{l:List E}{vs:List Value}{bs br:Nat->Prop}{w:World}(h:bE bs br w l vs)(hl:l.all E.dv=true):∀ v ∈ vs,gS v=false:=by
 intro v hv;obtain⟨i,hi⟩:=List.mem_iff_getElem?.1 hv;obtain⟨hi1,_⟩:=List.getElem?_eq_some_iff.1 hi;have hil:i<l.length:=by have:=h.len;omega
 exact(h.rep i _ v (List.getElem?_eq_getElem hil) hi).dv (List.all_eq_true.1 hl _ (List.getElem_mem hil))
theorem MJ(hT:cD P T)(hB:∀ b,B b->b<w0.heap.size){t:TypeId}{n:Nat}{ps:Array (Nat×Operand)}(hop:o.op = .buildSlice t n ps)(r:Rel w0 B σ a w L)(h:aS P K T O σ o=some u):bC P K w0 B σ o a w u:=by
 simp only[aS,hop]at h;split at h
 .rename_i tt htt
  split at h
  .rename_i e hd
   split at h
   .rename_i te hte
    split at h
    .rename_i z hz
     split at h
     .rename_i hc
      simp only[Bool.and_eq_true]at hc;have c1:=beq_iff.1 hc.1.1;have c2:=Nat.le_of_ble_eq_true hc.2;obtain⟨zv,hzv,hrep⟩:=rU hz;obtain⟨q1,q2⟩:=hrep (bad B L) (bu L) w;have hu:P.underlying t=some (.slice e):=by rw[hT.gI htt,hd]
      have hzl:zv.cells.size=te.i.size:=by have:=q1.len;simp only[Array.length_toList]at this;omega
      obtain⟨l,hl,h⟩:=Option.bind_eq_some_iff.1 h;obtain⟨cs,p1,p2,p3⟩:=wI r hl (Rc q1 n) (fun v hv=>by
       simp only[Array.mem_map,Array.mem_range]at hv;obtain⟨q,hq,rfl⟩:=hv;have hz0:0<zv.cells.size:=by
        rcases Nat.eq_zero_or_pos zv.cells.size with h0|h0
        .rw [h0]at hq;simp at hq
        .exact h0
       rw[getElem!_pos zv.cells _ (Nat.mod_lt q hz0)];exact q2 _ (by simp))
      have hlen:l.length=n*te.i.size:=by
       have:∀ (ps:List (Nat×Operand)) (l m:List E),gz σ (fun i=>some (i*te.i.size,te.i.size)) l ps=some m->m.length=l.length:=by
        intro ps
        induction ps with
        | nil=>intro l m h;simp only[gz]at h;cases h;rfl
        | cons p ps ih =>
         intro l m h;obtain⟨i,x⟩:=p;simp only[gz]at h;split at h
         .split at h
          .split at h
           .rename_i hc
            simp only[Bool.and_eq_true]at hc;have:=Nat.le_of_ble_eq_true hc.2;rw[ih _ _ h];simp[mI];omega
           .cases h
          .cases h
         .cases h
       rw[this _ _ _ hl,Fi,c1]
      have hcs:cs.size=n*te.i.size:=by have:=p2.len;simp only[Array.length_toList]at this;omega
      have hfill:Instr.fill (fun i=>some (i*te.i.size,te.i.size)) ((Array.range (n*te.i.size)).map (zv.cells[· % zv.cells.size]!)) (ps.map fun(x:Nat×Operand)=>(x.1,a.eval x.2)).toList=some cs:=by
       rw[Ep,<-hzl];rw[<-hzl]at p1;exact p1
      have hrun:(execOp a.eval o).run P w = .ok (.value (.slice (some ⟨w.heap.size,0,none⟩) n n)) (w.alloc (.cells cs e)):=by
       have hlim:¬(n*te.i.size>16777216):=by omega
       by_cases h0:n*te.i.size=0
       .have e0:∀ g:Nat->Value,(Array.range 0).map g = #[]:=fun g=>by simp[Array.range]
        have hfill0:=hfill;rw[h0,e0]at hfill0;have z24:¬(0>2^24):=by decide
        simp only[execOp,hop,Instr.buildSlice,Sem.run_bind,run_underlying hu,Result.andThen_ok,jY hT w hte,hlim,if_false,h0,z24,if_true,Sem.run_pure,e0,hfill0,newRow,run_newObj_alloc]
       .simp only[execOp,hop,Instr.buildSlice,Sem.run_bind,run_underlying hu,Result.andThen_ok,jY hT w hte,hlim,if_false,h0,Sem.run_pure,Fz hT w hte hzv,hfill,newRow,run_newObj_alloc]
      have hn2:n<=9223372036854775807:=by
       have:=Nat.le_mul_of_pos_right n (Nat.le_of_ble_eq_true hc.1.2);omega
      by_cases hnr:l.all (E.nr 2)=true
      .simp only[hnr,Bool.not_true,Bool.false_eq_true,if_false]at h
       split at h
       .
        obtain⟨id,hdst,hno,hnl,rfl⟩:=nI h;have hb:Below w.heap.size w (w.alloc (.cells cs e)):=(Below.refl _ _).alloc (Nat.le_refl _) _;have ht:Touch L w id (fun x=>x=w.heap.size) (w.alloc (.cells cs e)):=⟨fun x hx=>⟨.inr (by omega),by simp;omega⟩,hb.size,fun x hx _=>hb.block x hx,rfl,rfl,rfl⟩
        have hlt:=ht.later (.slice (some ⟨w.heap.size,0,none⟩) n n) (fun _=>undef);have hlt1:∀ i j,i<n->j<te.i.size->i*te.i.size+j<n*te.i.size:=by
         intro i j hi hj;have:=Nat.mul_le_mul_right te.i.size (show i+1<=n from hi);rw[Nat.add_mul,Nat.one_mul]at this;omega
        refine⟨_,_,_,.inl hrun,r.new id _ (fun x=>x=w.heap.size) (.slice (some ⟨w.heap.size,0,none⟩) n n) (fun _=>undef) _ hno (fun x hx=>by subst hx;simp) hb
         ⟨fun i j=>cs.getD (i*te.i.size+j) undef,.inr ⟨w.heap.size,n,cs,Lk.eC,heap_alloc_new w _,Nat.le_refl _,by unfold maxLen;omega,hcs,fun i j hi hj=>?_,fun hn u hu=>?_⟩,fun x=>?_,fun i j hi hj=>?_⟩ hnl,Lk.mP,Lk.eC.symm⟩
        .have hq:i*te.i.size+j<cs.size:=by rw[hcs];exact hlt1 i j hi hj
         have e1:cs.getD (i*te.i.size+j) undef=cs[i*te.i.size+j]:=by simp[hq]
         show cs[i*te.i.size+j]? = some (cs.getD (i*te.i.size+j) undef)/\(cs.getD (i*te.i.size+j) undef).oneCell'=true;rw[e1];exact⟨by simp[hq],p3 _ (by simp)⟩
        .exact Ot p2 hn u (by simpa using hu)
        .rw [Lk.gW,Lk.eC]
         simp only[Value.ownBlock,Option.some.injEq];exact eq_comm
        .have hq:i*te.i.size+j<cs.size:=by rw[hcs];exact hlt1 i j hi hj
         have hql:i*te.i.size+j<l.length:=by rw[hlen];exact hlt1 i j hi hj
         have e1:cs.getD (i*te.i.size+j) undef=cs[i*te.i.size+j]:=by simp[hq]
         simp only[List.getD_eq_getElem?_getD,List.getElem?_eq_getElem hql,Option.getD_some,e1];exact⟨hlt.rep (p2.rep _ _ _ (List.getElem?_eq_getElem hql) (by simp[hq])),List.all_eq_true.1 hnr _ (List.getElem_mem hql)⟩
       split at h
       .rename_i hall
        cases h;obtain⟨r',hp⟩:=FW hB r e n te.i.size l cs true p2 p3 hcs hn2 (fun _=>hall) hnr;exact⟨_,_,L,.inl hrun,r',hp⟩
       .cases h
        obtain⟨r',hp⟩:=FW hB r e n te.i.size l cs false p2 p3 hcs hn2 (fun h=>by cases h) hnr;exact⟨_,_,L,.inl hrun,r',hp⟩
      .simp [hnr]at h
     .cases h
    .cases h
   .cases h
  .cases h
 .cases h
end
open Go.RowKit
theorem we{P:Program}{t e:TypeId}(h:P.underlying t=some (.slice e)):P.elem t=e:=by simp[Program.elem,h]
theorem KY{P:Program}{t e:TypeId}{n:Nat}(h:P.underlying t=some (.array n e)):P.elem t=e/\P.arrayLen t=n:=by simp[Program.elem,Program.arrayLen,h]
section
variable {P:Program} {K:World->Prop} {T:List TI} {O:eu} {w0:World} {B:Nat->Prop} {σ:PS} {o:Oper} {a:Act} {w:World} {L:Lk} {u:Out}
theorem MQ(hT:cD P T){t:TypeId}{x i:Operand}(hop:o.op = .indexAddr t x i)(r:Rel w0 B σ a w L)(h:aS P K T O σ o=some u)(ho:∀ q,q ∈ u.aM->q):bC P K w0 B σ o a w u:=by
 simp only[aS,hop,sS]at h;have hx:=r.op x;have hi:=r.op i;split at h
 .rename_i k z hpi
  rw[hpi]at hi;have hi:=ax.bQ hi;split at h
  .rename_i tt htt
   split at h
   .
    rename_i e hd;have hu:P.underlying t=some (.slice e):=by rw[hT.gI htt,hd]
    have he:=we hu;split at h
    .rename_i te hte
     have hrun:∀ (ad:Addr) (n c:Nat),a.eval x = .slice (some ad) n c->0<=z->z<n->(execOp a.eval o).run P w = .ok (.value (.pointer (some (ad.add (z.toNat*te.i.size))))) w:=by
      intro ad n c e1 h0 h1;have hr:=run_indexAt_slice (P:=P) w t ad n c k z (by rw[he];exact hu);rw[if_pos ⟨h0,h1⟩,he,jY hT w hte]at hr;simp only[execOp,hop,e1,hi,Sem.run_bind,hr,Result.andThen_ok,Sem.run_pure]
     split at h
     .rename_i nl n sz el hpx
      rw[hpx]at hx;split at h
      .rename_i hs
       simp only[Bool.and_eq_true]at hs;have hs0:=Nat.le_of_ble_eq_true hs.2;have hs:=beq_iff.1 hs.1;cases h;have hz:0<=z/\z<n:=ho _ (by simp);have hzn:z.toNat<n:=by omega
       generalize hq:a.eval x=q at hx;cases hx with
       | sl _ _ _ _ A c f hc hm h0 hl hnr cell kk =>
        obtain⟨b,of,e1,hb,hlt,_⟩:=cell z.toNat 0 hzn hs0;subst e1;refine bC.pure r (hrun ⟨b,of,none⟩ n c hq hz.1 hz.2) rfl ?_;rw[Addr.add_lit,hs];refine .ref sz _ b _ (fun j=>f z.toNat j) (fun hm=>hb (.inr hm)) hlt (fun j hj=>(hl _ _ hzn hj).1) (fun j hj=>?_) (fun j hj=>kk _ _ hzn hj);obtain⟨b',of',e2,_,_,hc'⟩:=cell z.toNat j hzn hj;cases e2;rwa[<-Nat.add_assoc]at hc'
      .cases h
     .rename_i id hpx
      rw[hpx]at hx;split at h
      .rename_i nl T1 n sz el hbo
       split at h
       .rename_i hs
        have hs:=beq_iff.1 hs;cases h;have hz:0<=z/\z<n:=ho _ (by simp);obtain⟨f,h1,h2,h3⟩:=r.hb id _ hbo;obtain⟨k1,k2⟩:=hx;rcases h1 with⟨h1,hn0⟩|⟨b,c,cur,h1,hg,hnc,hcm,hcs,hcell,hnl⟩
        .omega
        .rw [h1]at k2
         refine bC.pure r (hrun ⟨b,0,none⟩ n c k2 hz.1 hz.2) rfl ⟨k1,b,n,c,h1,?_⟩;rw[Addr.add_lit,hs,Nat.zero_add,Nat.add_zero]
       .cases h
      .rename_i nl T1 T0 n sz len el pend hbo
       split at h
       .rename_i hs
        have hs:=beq_iff.1 hs;cases h;have hz:0<=z/\z<n:=ho _ (by simp);obtain⟨b,c,cur,f,h1,h2,h3,h4,h5,h6,h7,h8,h9,h10,h11⟩:=r.hb id _ hbo;obtain⟨k1,k2⟩:=hx;rw[h1]at k2;refine bC.pure r (hrun ⟨b,0,none⟩ n c k2 hz.1 hz.2) rfl ⟨k1,b,n,c,h1,?_⟩;rw[Addr.add_lit,hs,Nat.zero_add,Nat.add_zero]
       .cases h
      .cases h
     .cases h
    .cases h
   .
    rename_i n e hd;have hu:P.underlying t=some (.array n e):=by rw[hT.gI htt,hd]
    obtain⟨he,hn⟩:=KY hu;split at h
    .rename_i te hte
     have hrun:∀ (ad:Addr),a.eval x = .pointer (some ad)->0<=z->z<n->(execOp a.eval o).run P w = .ok (.value (.pointer (some (ad.add (z.toNat*te.i.size))))) w:=by
      intro ad e1 h0 h1;have hr:=run_indexAt_array (P:=P) w t ad k z (by rw[he,hn];exact hu);rw[hn,if_pos ⟨h0,h1⟩,he,jY hT w hte]at hr;simp only[execOp,hop,e1,hi,Sem.run_bind,hr,Result.andThen_ok,Sem.run_pure]
     split at h
     .rename_i id off hpx
      rw[hpx]at hx;cases h;have hz:0<=z/\z<n:=ho _ (by simp);obtain⟨k1,b,k2,k3⟩:=hx;refine bC.pure r (hrun _ k3 hz.1 hz.2) rfl ⟨k1,b,k2,?_⟩;rw[Addr.add_lit]
     .rename_i m el hpx
      rw[hpx]at hx;split at h
      .rename_i hs
       have hs:=beq_iff.1 hs;cases h;have hz:0<=z/\z<n:=ho _ (by simp);have hin:∀ j,j<te.i.size->z.toNat*te.i.size+j<m:=by
        intro j hj;rw[<-hs];have:=Nat.mul_le_mul_right te.i.size (show z.toNat+1<=n by omega);rw[Nat.add_mul,Nat.one_mul]at this;omega
       generalize hq:a.eval x=q at hx;cases hx with
       | ref _ _ b of f hb hlt hl cell kk =>
        refine bC.pure r (hrun _ hq hz.1 hz.2) rfl ?_;rw[Addr.add_lit];refine .ref te.i.size _ b _ (fun j=>f (z.toNat*te.i.size+j)) hb hlt (fun j hj=>hl _ (hin j hj)) (fun j hj=>?_) (fun j hj=>kk _ (hin j hj));have:=cell _ (hin j hj);rwa[<-Nat.add_assoc]at this
      .cases h
     .cases h
    .cases h
   .cases h
  .cases h
 .cases h
theorem M1(hT:cD P T){t:TypeId}{x:Operand}{lo hi:Option Operand}(hop:o.op = .slice t x lo hi none)(r:Rel w0 B σ a w L)(h:aS P K T O σ o=some u)(ho:∀ q,q ∈ u.aM->q):bC P K w0 B σ o a w u:=by
 simp only[aS,hop,sV]at h;have hx:=r.op x;split at h
 .rename_i nl n sz el hpx
  rw[hpx]at hx;split at h
  .rename_i tt htt
   split at h
   .rename_i e hd
    have hu:P.underlying t=some (.slice e):=by rw[hT.gI htt,hd]
    have he:=we hu;have hu':P.underlying t=some (.slice (P.elem t)):=by rw[he];exact hu
    split at h
    .rename_i te hte
     split at h
     .rename_i hs
      have hs:=beq_iff.1 hs;generalize hq:a.eval x=q at hx;cases hx with
      | sl _ _ _ _ A c f hc hm h0 hl hnr cell kk =>
       have fin:∀ l h':Nat,l<=h'->h'<=n->ax (bad B L) (bu L) w (.sl nl (h'-l) sz fun i j=>el (l+i) j) (sliced A l h' c te.i.size):=by
        intro l h' hlh hhn;unfold sliced;refine .sl nl (h'-l) sz _ _ (c-l) (fun i j=>f (l+i) j) (by omega) (by omega) (fun hA=>?_) (fun i j hi hj=>hl _ _ (by omega) hj) (fun i j hi hj=>hnr _ _ (by omega) hj) (fun i j hi hj=>?_) (fun i j hi hj=>kk _ _ (by omega) hj)
        .split at hA
         .have:=h0 hA;omega
         .have:=h0 (by simpa using hA);omega
        .obtain ⟨b,of,e1,hb,hlt,hcell⟩:=cell (l+i) j (by omega) hj
         subst e1;rw[if_neg (by omega)];refine⟨b,of+l*te.i.size,by rw[Option.map_some,Addr.add_lit],hb,hlt,?_⟩;rw[hs];rw[Nat.add_mul]at hcell;rw[<-hcell];congr 2;omega
       have run:∀ (l h':Nat) (lo' hi':Option Value),lo.map a.eval=lo'->hi.map a.eval=hi'->(Instr.slice t (.slice A n c) lo' hi' none).run P w = .ok (sliced A l h' c te.i.size) w ->
         (execOp a.eval o).run P w = .ok (.value (sliced A l h' c te.i.size)) w:=by
        intro l h' lo' hi' e1 e2 hr;simp only[execOp,hop,Sem.run_bind,hq,e1,e2,Option.map_none,run_sliceAt_slice (P:=P) w t _ _ _ _ hu',hr,Result.andThen_ok,Sem.run_pure]
       split at h
       .rename_i kh hh hl0 hh0
        cases h;have hb:0<=hh/\hh<=n:=ho _ (by simp);cases lo with
        | some _=>simp at hl0
        | none =>
         cases hi with
         | none=>simp at hh0
         | some hi =>
          simp only[Option.map_some,Option.some.injEq]at hh0;have hv:=r.op hi;rw[hh0]at hv;have hv:=ax.bQ hv;have hr:=run_slice_h (P:=P) w t A n c hu' kh hh hb.1 (by omega);rw[he,jY hT w hte]at hr;have hf:=fin 0 hh.toNat (Nat.zero_le _) (by omega)
          simp only[Nat.sub_zero,Nat.zero_add]at hf;exact bC.pure r (run 0 hh.toNat none (some (.int kh hh)) rfl (by rw[Option.map_some,hv]) hr) rfl hf
       .rename_i kl ll hl0 hh0
        cases h;have hb:0<=ll/\ll<=n:=ho _ (by simp);cases hi with
        | some _=>simp at hh0
        | none =>
         cases lo with
         | none=>simp at hl0
         | some lo =>
          simp only[Option.map_some,Option.some.injEq]at hl0;have hv:=r.op lo;rw[hl0]at hv;have hv:=ax.bQ hv;have hr:=run_slice_l (P:=P) w t A n c hu' kl ll hb.1 hb.2;rw[he,jY hT w hte]at hr;exact bC.pure r (run ll.toNat n (some (.int kl ll)) none (by rw[Option.map_some,hv]) rfl hr) rfl (fin ll.toNat n (by omega) (Nat.le_refl _))
       .rename_i kl ll kh hh hl0 hh0
        cases h;have hb:0<=ll/\ll<=hh/\hh<=n:=ho _ (by simp);cases hi with
        | none=>simp at hh0
        | some hi =>
         cases lo with
         | none=>simp at hl0
         | some lo =>
          simp only[Option.map_some,Option.some.injEq]at hl0 hh0;have hv:=r.op lo;rw[hl0]at hv;have hv:=ax.bQ hv;have hv2:=r.op hi;rw[hh0]at hv2;have hv2:=ax.bQ hv2;have hr:=run_slice_lh (P:=P) w t A n c hu' kl kh ll hh hb.1 hb.2.1 (by omega);rw[he,jY hT w hte]at hr
          exact bC.pure r (run ll.toNat hh.toNat (some (.int kl ll)) (some (.int kh hh)) (by rw[Option.map_some,hv]) (by rw[Option.map_some,hv2]) hr) rfl (fin ll.toNat hh.toNat (by omega) (by omega))
       .cases h
     .cases h
    .cases h
   .cases h
  .cases h
 .cases h
end
open Go.RowKit
section
variable {P:Program} {K:World->Prop} {T:List TI} {O:eu} {w0:World} {B:Nat->Prop} {σ:PS} {o:Oper} {a:Act} {w:World} {L:Lk} {u:Out}
theorem J9{x:Value}{l:List E}(h:(E.v x).cells? = some l):∀ e,e ∈ l->e.nr 2=true:=by
 intro e he;cases x<;>simp only[E.cells?]at h
 case agg cs =>
  split at h
  .cases h
   obtain⟨q,_,rfl⟩:=List.mem_map.1 he;rfl
  .cases h
 all_goals
  split at h
  .cases h
   simp only[List.mem_singleton]at he;subst he;rfl
  .cases h
theorem TS{ti:TI}{l:List E}(h:lQ ti=some l):∀ e,e ∈ l->e.nr 2=true:=by
 unfold lQ at h;split at h
 .exact J9 h
 .cases h
theorem xj{l:List E}{vs:List Value}{bs br:Nat->Prop}(h:bE bs br w l vs)(hl:l.all E.dv=true):∀ v ∈ vs,gS v=false:=by
 intro v hv;obtain⟨q,hq⟩:=List.mem_iff_getElem?.1 hv;have hql:q<l.length:=by rw[<-h.len];exact(List.getElem?_eq_some_iff.1 hq).1
 exact(h.rep q _ v (List.getElem?_eq_getElem hql) hq).dv (List.all_eq_true.1 hl _ (List.getElem_mem hql))
theorem Du{z:Array Value}{n q:Nat}(hz:0<z.size)(hq:q<n):(madeCells z n)[q]? = some (z[q%z.size]'(Nat.mod_lt _ hz)):=by
 unfold madeCells;simp[hq];rw[getElem!_pos z _ (Nat.mod_lt _ hz)]
theorem Dv{z:Array Value}{n:Nat}(hz:0<z.size){v:Value}(hv:v ∈ madeCells z n):v ∈ z:=by
 unfold madeCells at hv;simp only[Array.mem_map,Array.mem_range]at hv;obtain⟨q,hq,rfl⟩:=hv;rw[getElem!_pos z _ (Nat.mod_lt _ hz)];exact Array.getElem_mem _
theorem MU(hT:cD P T){t:TypeId}{l c:Operand}(hop:o.op = .makeSlice t l c)(r:Rel w0 B σ a w L)(h:aS P K T O σ o=some u)(ho:∀ q,q ∈ u.aM->q):bC P K w0 B σ o a w u:=by
 simp only[aS,hop,sU]at h;have hl:=r.op l;have hc:=r.op c;split at h
 .rename_i bx aM hbx
  obtain⟨id,hdst,hno,hnl,rfl⟩:=nI h;clear h;simp only[Ch]at hbx;split at hbx
  rotate_left
  .cases hbx
  rename_i kl zl kc zc hpl hpc;rw[hpl]at hl;rw[hpc]at hc;have hl:=ax.bQ hl;have hc:=ax.bQ hc;split at hbx
  .rename_i tt htt
   split at hbx
   .rename_i e hd
    have hu:P.underlying t=some (.slice e):=by rw[hT.gI htt,hd]
    split at hbx
    .rename_i te hte
     split at hbx
     .rename_i z hz
      split at hbx
      .rename_i hcond
       simp only[Bool.and_eq_true]at hcond;have c1:=beq_iff.1 hcond.1;have c2:=Nat.le_of_ble_eq_true hcond.2;obtain⟨zv,hzv,hrep⟩:=rU hz;obtain⟨q1,q2⟩:=hrep (bad B L) (bu L) w;have hzl:zv.cells.size=te.i.size:=by have:=q1.len;simp only[Array.length_toList]at this;omega
       have hz0:0<zv.cells.size:=by omega
       have key:∀ (h1:0<=zl/\zl<=zc) (h2:(te.i.bytes:Int)*zc<=281474976710656/\zc<=9223372036854775807),
         (execOp a.eval o).run P w = .ok (.value (.slice (some ⟨w.heap.size,0,none⟩) zl.toNat zc.toNat)) (w.alloc (.cells (madeCells zv.cells (zc.toNat*te.i.size)) e)):=by
        intro h1 h2;have hr:=run_make (P:=P) w t e te.i zv hu (hT.inf hte) hzv kl kc zl zc h1.1 h1.2 h2.1 h2.2;simp only[execOp,hop,hl,hc,Sem.run_bind,hr,Result.andThen_ok,Sem.run_pure]
       have hb:∀ o':Obj,Below w.heap.size w (w.alloc o'):=fun o'=>(Below.refl _ _).alloc (Nat.le_refl _) _
       have lens:zl<=zc->zc<=9223372036854775807->zl.toNat<=zc.toNat/\zc.toNat<=maxLen:=by intro h1 h2;unfold maxLen;omega
       split at hbx
       .
        rename_i e0 hd0;split at hbx
        .rename_i t0 ht0
         obtain⟨y,ys,hys,hy,hnil⟩:=q1.cK;have hy:=ax.bQ hy;have hnil:=hnil.fB;subst hy hnil;have hzc:zv.cells = #[.slice none 0 0]:=by apply Array.ext';rw[hys]
         have hsz:te.i.size=1:=by rw[<-hzl,hzc];rfl
         cases hbx;have h1:0<=zl/\zl<=zc:=ho _ (by simp);have h2:(te.i.bytes:Int)*zc<=281474976710656/\zc<=9223372036854775807:=ho _ (by simp);have hlen:=lens h1.2 h2.2;have hall:∀ v,v ∈ madeCells zv.cells (zc.toNat*te.i.size)->v = .slice none 0 0:=fun v hv=>by
          have:=Dv hz0 hv;rw[hzc]at this;simpa using this
         refine⟨_,_,_,.inl (key h1 h2),r.new id _ (fun x=>x=w.heap.size) (.slice (some ⟨w.heap.size,0,none⟩) zl.toNat zc.toNat) (fun _=>.slice none 0 0) _ hno (fun x hx=>by subst hx;simp) (hb _)
          ⟨w.heap.size,zc.toNat,_,fun _ _ _=>undef,Lk.eC,heap_alloc_new w _,hlen.1,hlen.2,by rw[size_madeCells,hsz,Nat.mul_one],fun k hk _=>?_,fun v hv=>?_,fun k hk=>?_,fun x=>?_,fun k k' x hk hk' h1=>?_,fun k hk=>?_⟩ hnl,Lk.mP,Lk.eC.symm⟩
         .rw [Lk.gp]
          have hq:k<zc.toNat*te.i.size:=by rw[hsz];omega
          have hg:=Du hz0 hq;rw[hg];exact congrArg some (hall _ (Array.mem_of_getElem? hg))
         .rw [hall v hv];exact⟨rfl,rfl⟩
         .rw [Lk.gp]
          exact⟨.inl ⟨rfl,rfl⟩,fun i j hi=>absurd hi (Nat.not_lt_zero i)⟩
         .rw [Lk.gW]
          simp only[Lk.gp,Value.ownBlock];simp
         .rw [Lk.gp]at h1
          simp[Value.ownBlock]at h1
         .rw [Lk.gp]
          simp[Value.ownBlock]
        .cases hbx
       .cases hbx
        have h1:0<=zl/\zl<=zc:=ho _ (by simp);have h2:(te.i.bytes:Int)*zc<=281474976710656/\zc<=9223372036854775807:=ho _ (by simp);have hlen:=lens h1.2 h2.2;refine⟨_,_,_,.inl (key h1 h2),r.new id _ (fun x=>x=w.heap.size) (.slice (some ⟨w.heap.size,0,none⟩) zl.toNat zc.toNat) (fun _=>undef) _ hno (fun x hx=>by subst hx;simp) (hb _)
         ⟨fun _ j=>zv.cells.getD j undef,.inr ⟨w.heap.size,zc.toNat,_,Lk.eC,heap_alloc_new w _,hlen.1,hlen.2,size_madeCells _ _,fun i j hi hj=>?_,fun hn v hv=>?_⟩,fun x=>?_,fun i j hi hj=>?_⟩ hnl,Lk.mP,Lk.eC.symm⟩
        .have hq:i*te.i.size+j<zc.toNat*te.i.size:=by
          have:=Nat.mul_le_mul_right te.i.size (show i+1<=zc.toNat by omega);rw[Nat.add_mul,Nat.one_mul]at this;omega
         have hmod:(i*te.i.size+j)%zv.cells.size=j:=by rw[hzl,Nat.mul_comm,Nat.mul_add_mod,Nat.mod_eq_of_lt hj]
         have hj':j<zv.cells.size:=by omega
         rw[Du hz0 hq];simp only[hmod];have e1:zv.cells.getD j undef=zv.cells[j]:=by simp[hj']
         rw[e1];exact⟨rfl,q2 _ (by simp)⟩
        .exact xj q1 hn v (by have:=Dv hz0 hv;simpa using this)
        .rw [Lk.gW,Lk.eC]
         simp only[Value.ownBlock,Option.some.injEq];exact eq_comm
        .have hj':j<zv.cells.size:=by omega
         have hjz:j<z.length:=by omega
         have e1:zv.cells.getD j undef=zv.cells[j]:=by simp[hj']
         simp only[e1];rw[List.getD_eq_getElem?_getD,List.getElem?_eq_getElem hjz];obtain⟨p1,_⟩:=hrep (bad B (L.set id (fun x=>x=w.heap.size) (.slice (some ⟨w.heap.size,0,none⟩) zl.toNat zc.toNat) (fun _=>undef))) (bu (L.set id (fun x=>x=w.heap.size) (.slice (some ⟨w.heap.size,0,none⟩) zl.toNat zc.toNat) (fun _=>undef))) (w.alloc (.cells (madeCells zv.cells (zc.toNat*te.i.size)) e))
         exact⟨p1.rep j _ _ (List.getElem?_eq_getElem hjz) (by simp[hj']),TS hz _ (List.getElem_mem hjz)⟩
      .cases hbx
     .cases hbx
    .cases hbx
   .cases hbx
  .cases hbx
 .cases h
theorem MR(hT:cD P T){x:Operand}{t:TypeId}{c:Call}(hc:c={ callee:=.builtin .len,args:=#[x],argTypes:=#[t] })(hop:o.op = .call c){e:TypeId}(hd:descOf T t=some (.slice e))(r:Rel w0 B σ a w L){rr:Value×List Nat}(h:jq (σ.op x) σ=some rr)(hu:u={ r:=.e (.v rr.1),rb:=rr.2 }):bC P K w0 B σ o a w u:=by
 obtain⟨ti,h1,h2⟩:=oK hd;have hut:P.underlying t=some (.slice e):=by rw[hT.gI h1,h2]
 have he:=we hut;have hx:=r.op x;have key:∀ (A:Option Addr) (n cp:Nat),a.eval x = .slice A n cp->rr.1 = .int .i64 (n:Int)->bC P K w0 B σ o a w u:=by
  intro A n cp e1 e2;have hr:=run_len_slice (P:=P) w t o.type A n cp (by rw[he];exact hut);subst hu;refine bC.pure r (v:=.int .i64 (n:Int)) ?_ rfl (by rw[e2];exact .v _);subst hc;have em:(#[x]:Array Operand).map a.eval = #[a.eval x]:=by simp
  simp only[execOp,hop,resolve,em,e1,Sem.run_bind,Sem.run_pure,Result.andThen_ok,invoke,builtin,hr];rfl
 cases hp:σ.op x with
 | e y =>
  rw[hp]at h hx;cases y with
  | sl nl n sz el =>
   simp only[jq,Option.some.injEq]at h;generalize hq:a.eval x=q at hx;cases hx with
   | sl _ _ _ _ A c f hc hm h0 hl hnr cell kk=>exact key A n c hq (by rw[<-h])
  | v y =>
   have hx:=ax.bQ hx;cases y with
   | slice A n cp =>
    simp only[jq,Option.some.injEq]at h;exact key A n cp hx (by rw[<-h])
   | _=>simp[jq]at h
  | _=>simp[jq]at h
 | own id =>
  rw[hp]at h hx;obtain⟨_,k2⟩:=hx;simp only[jq]at h;split at h
  .rename_i nl T1 n sz el hbo
   simp only[Option.some.injEq]at h;obtain⟨f,q1,_,_⟩:=r.hb id _ hbo;rcases q1 with⟨q1,q0⟩|⟨b,c,cur,q1,_⟩
   .rw [q1]at k2
    exact key none 0 0 k2 (by rw[<-h,q0])
   .rw [q1]at k2
    exact key _ n c k2 (by rw[<-h])
  .rename_i nl T1 T0 n sz len el pend hbo
   simp only[Option.some.injEq]at h;obtain⟨b,c,cur,f,q1,_⟩:=r.hb id _ hbo;rw[q1]at k2;exact key _ n c k2 (by rw[<-h])
  .cases h
 | _=>rw[hp]at h;simp[jq]at h
end
open Go.RowKit
section
variable {P:Program} {K:World->Prop} {T:List TI} {O:eu} {w0:World} {B:Nat->Prop} {σ:PS} {o:Oper} {a:Act} {w:World} {L:Lk} {u:Out}
theorem fl.gq{v:Value}{T:TypeId}{n sz:Nat}{f:Nat->Nat->Value}{nl nl':Bool}(h:fl w v T n sz f nl)(k:nl'=true->nl=true):fl w v T n sz f nl':=by
 rcases h with h|⟨b,c,cur,h1,h2,h3,h4,h5,h6,h7⟩
 .exact .inl h
 .exact .inr ⟨b,c,cur,h1,h2,h3,h4,h5,h6,fun q=>h7 (k q)⟩
theorem CH(hT:cD P T){s x:Operand}{t:TypeId}{c:Call}(hc:c={ callee:=.builtin .append,args:=#[s,x],argTypes:=#[t,t] })(hop:o.op = .call c)(r:Rel w0 B σ a w L)
  (h:mn T σ o.dst t (σ.op s) (σ.op x)=some u) (ho:∀ q,q ∈ u.aM->q):bC P K w0 B σ o a w u:=by
 have hs:=r.op s;have hx:=r.op x;simp only[mn]at h;split at h
 .rename_i nl2 m sz2 el2 hpx
  rw[hpx]at hx;split at h
  .rename_i tt htt
   split at h
   .rename_i e hd
    have hu:P.underlying t=some (.slice e):=by rw[hT.gI htt,hd]
    split at h
    .rename_i te hte
     split at h
     .rename_i z hz
      split at h
      .rename_i hcond
       simp only[Bool.and_eq_true]at hcond;have c1:=beq_iff.1 hcond.1.1.1;have c2:=Nat.le_of_ble_eq_true hcond.1.1.2;have c3:=Nat.le_of_ble_eq_true hcond.1.2;have c4:=beq_iff.1 hcond.2;obtain⟨zv,hzv,hrep⟩:=rU hz;obtain⟨q1,q2⟩:=hrep (bad B L) (bu L) w;have hzl:zv.cells.size=sz2:=by have:=q1.len;simp only[Array.length_toList]at this;omega
       generalize hqx:a.eval x=vx at hx;cases hx with
       | sl _ _ _ _ A cx g hgc hgm hg0 hgl gnr gcell gk0 =>
       have gk:=fun i j hi hj=>And.intro (gk0 i j hi hj) (gnr i j hi hj)
       have key:∀ (v:Value) (n:Nat) (f:Nat->Nat->Value) (nl:Bool),a.eval s=v->fl w v e n sz2 f nl->(nl=true->nl2=true/\z.all E.dv=true)->(n+m)*te.i.bytes<=140737488355328 ->
         ∃ v' w',(execOp a.eval o).run P w = .ok (.value v') w'/\zL w v e n sz2 m f g nl v' w':=by
        intro v n f nl hv hown hnl hby;obtain⟨v',w',hr,hap⟩:=RK P w t o.type e te.i zv sz2 hu (hT.inf hte) hzv c1 hzl (by omega) c3 (fun u hu=>q2 u (by simpa using hu)) v n f nl hown A m cx g
         (fun k j hk hj=>by obtain⟨b,of,e1,_,_,hcc⟩:=gcell k j hk hj;exact⟨b,of,e1,hcc⟩) (fun hA=>by have:=hg0 hA;omega)
         (fun k j hk hj=>⟨(hgl k j hk hj).1,fun hn=>(hgl k j hk hj).2 (hnl hn).1⟩) (fun hn u hu=>xj q1 (hnl hn).2 u (by simpa using hu)) hby
        refine⟨v',w',?_,hap⟩;subst hc;have em:(#[s,x]:Array Operand).map a.eval = #[a.eval s,a.eval x]:=by simp
        simp only[execOp,hop,resolve,em,hv,hqx,Sem.run_bind,Sem.run_pure,Result.andThen_ok,invoke,builtin,hr]
       split at h
       .
        rename_i id hps;rw[hps]at hs;split at h
        .rename_i nl T1 n sz el hbo
         split at h
         .rename_i hcc
          simp only[Bool.and_eq_true]at hcc;have d1:=beq_iff.1 hcc.1.1;have d2:=beq_iff.1 hcc.1.2;subst d1 d2;cases h;have hby:(n+m)*te.i.bytes<=140737488355328:=ho _ (by simp);obtain⟨f,p1,p2,p3⟩:=r.hb id _ hbo;obtain⟨k1,k2⟩:=hs;have hnl:(nl&&(nl2&&z.all E.dv))=true->nl2=true/\z.all E.dv=true:=fun hn=>by simp only[Bool.and_eq_true]at hn;exact hn.2
          obtain⟨v',w',hrun,hap⟩:=key (L.val id) n f _ k2 (p1.gq fun hn=>by simp only[Bool.and_eq_true]at hn;exact hn.1) hnl hby;have ht:Touch L w id (fun y=>v'.ownBlock=some y) w':=by
           refine⟨fun y hy=>?_,hap.size,fun y hy hno=>hap.eH y hy fun e1=>hno ((p2 y).2 e1),hap.os,hap.tape,hap.output⟩;rcases hap.vw y hy with e1|⟨e1,e2⟩
           .have:=(p2 y).2 e1
            exact⟨.inl this,Nat.lt_of_lt_of_le (r.hw id y this).2 hap.size⟩
           .exact ⟨.inr e1,e2⟩
          have hl:=ht.later v' (L.aL id);have hpt:∀ b,L.val id ≠ .pointer (some b):=fun b e1=>by
           rcases p1 with⟨e2,_⟩|⟨_,_,_,e2,_⟩<;>rw[e1]at e2<;>cases e2
          refine⟨v',w',_,.inl hrun,r.grow id _ _ v' w' hpt ht ⟨fun i j=>if i<n then f i j else g (i-n) j,by rw[Lk.eC];exact hap.own,fun y=>by rw[Lk.gW,Lk.eC],fun i j hi hj=>(fun(q:ax _ _ _ _ _/\_)=>⟨hl.rep q.1,q.2⟩) (?_:_/\_)⟩ (fun hn=>?_),Lk.mP,Lk.eC.symm⟩
          .by_cases hin:i<n
           .simp only[hin,if_true];exact p3 i j hin hj
           .simp only[hin,if_false];exact gk _ _ (by omega) hj
          .have:=hcc.2
           rw[hn]at this;simpa[Bx.nl]using this
         .cases h
        .cases h
       .
        rename_i id k hps;rw[hps]at hs;split at h
        .rename_i nl T1 T0 n sz len el hbo
         split at h
         .rename_i hcc
          simp only[Bool.and_eq_true]at hcc;have d1:=beq_iff.1 hcc.1.1;have d2:=beq_iff.1 hcc.1.2;subst d1 d2;cases h;have hk:k<n:=ho _ (by simp);have hby:(len k+m)*te.i.bytes<=140737488355328:=ho _ (by simp);obtain⟨b,cp,cur,f,p1,p2,p3,p4,p5,p6,p7,p8,p9,p10,p11⟩:=r.hb id _ hbo;obtain⟨k1,k2⟩:=hs;have hnl:nl=true->nl2=true/\z.all E.dv=true:=fun hn=>by have:=hcc.2;rw[hn]at this;simpa using this
          obtain⟨v',w',hrun,hap⟩:=key (L.aL id k) (len k) (f k) nl k2 (p8 k hk).1 hnl hby;have hblk:∀ y,v'.ownBlock=some y->(L.aL id k).ownBlock=some y\/(w.heap.size<=y/\y<w'.heap.size):=hap.vw;have hbs:b<w.heap.size:=(r.hw id b ((p9 b).2 (.inl rfl))).2;have hinlt:∀ q y,q<n->(L.aL id q).ownBlock=some y->y<w.heap.size:=fun q y hq hy=>(r.hw id y ((p9 y).2 (.inr ⟨q,hq,hy⟩))).2
          have ht:Touch L w id (fun y=>y=b\/∃ q,q<n/\(if q=k then v' else L.aL id q).ownBlock=some y) w':=by
           refine⟨fun y hy=>?_,hap.size,fun y hy hno=>hap.eH y hy fun e1=>hno ((p9 y).2 (.inr ⟨k,hk,e1⟩)),hap.os,hap.tape,hap.output⟩;rcases hy with rfl|⟨q,hq,hy⟩
           .exact ⟨.inl ((p9 y).2 (.inl rfl)),Nat.lt_of_lt_of_le hbs hap.size⟩
           .by_cases hqk:q=k
            .subst hqk
             rw[if_pos rfl]at hy;rcases hblk y hy with e1|⟨e1,e2⟩
             .have:=(p9 y).2 (.inr ⟨q,hq,e1⟩)
              exact⟨.inl this,Nat.lt_of_lt_of_le (r.hw id y this).2 hap.size⟩
             .exact ⟨.inr e1,e2⟩
            .rw [if_neg hqk]at hy
             have:=(p9 y).2 (.inr ⟨q,hq,hy⟩);exact⟨.inl this,Nat.lt_of_lt_of_le (r.hw id y this).2 hap.size⟩
          have hl:=ht.later (L.val id) (fun q=>if q=k then v' else L.aL id q);have hkeep:∀ y,y<w.heap.size->(L.aL id k).ownBlock≠some y->w'.heap[y]? = w.heap[y]?:=hap.eH;refine⟨v',w',_,.inl hrun,r.jR id _ _ (fun q=>if q=k then v' else L.aL id q) w' ht
           ⟨b,cp,cur,fun q i j=>if q=k then(if i<len q then f q i j else g (i-len q) j)else f q i j,by rw[Lk.eC];exact p1,by rw[hkeep b hbs (p11 k hk)];exact p2,p3,p4,p5,fun q hq hqk=>?_,p7,fun q hq=>?_,fun y=>?_,fun q q' y hq hq' hy hy'=>?_,fun q hq hy=>?_⟩ (fun hn=>?_),Lk.mP,?_⟩
          .have hne:q≠k:=fun e1=>hqk (by rw[e1])
           rw[Lk.gp,if_neg hne];exact p6 q hq (by simp)
          .rw [Lk.gp]
           by_cases hqk:q=k
           .subst hqk
            simp only[if_true];refine⟨hap.own,fun i j hi hj=>(fun(q:ax _ _ _ _ _/\_)=>⟨hl.rep q.1,q.2⟩) (?_:_/\_)⟩;by_cases hin:i<len q
            .simp only[hin,if_true];exact(p8 q hq).2 i j hin hj
            .simp only[hin,if_false];exact gk _ _ (by omega) hj
           .simp only[hqk,if_false]
            obtain⟨s1,s2⟩:=p8 q hq;exact⟨s1.block fun y hy=>hkeep y (hinlt q y hq hy) fun e1=>hqk (p10 q k y hq hk hy e1),fun i j hi hj=>⟨hl.rep (s2 i j hi hj).1,(s2 i j hi hj).2⟩⟩
          .rw [Lk.gW]
           simp only[Lk.gp]
          .simp only[Lk.gp]at hy hy'
           by_cases h1:q=k
           .subst h1
            by_cases h2:q'=q
            .exact h2.symm
            .rw [if_pos rfl]at hy
             rw[if_neg h2]at hy';rcases hblk y hy with e1|⟨e1,_⟩
             .exact p10 q q' y hq hq' e1 hy'
             .have:=hinlt q' y hq' hy';omega
           .rw [if_neg h1]at hy
            by_cases h2:q'=k
            .subst h2
             rw[if_pos rfl]at hy';rcases hblk y hy' with e1|⟨e1,_⟩
             .exact p10 q q' y hq hq' hy e1
             .have:=hinlt q y hq hy;omega
            .rw [if_neg h2]at hy'
             exact p10 q q' y hq hq' hy hy'
          .simp only[Lk.gp]at hy
           by_cases h1:q=k
           .subst h1
            rw[if_pos rfl]at hy;rcases hblk b hy with e1|⟨e1,_⟩
            .exact p11 q hq e1
            .omega
           .rw [if_neg h1]at hy
            exact p11 q hq hy
          .have:=r.hl hn id _ hbo
           exact this
          .rw [Lk.gp,if_pos rfl]
         .cases h
        .cases h
       .
        rename_i hps;rw[hps]at hs;have hs:=ax.bQ hs;obtain⟨id,hdst,hno,hnl',rfl⟩:=nI h;have hby:m*te.i.bytes<=140737488355328:=ho _ (by simp);obtain⟨v',w',hrun,hap⟩:=key _ 0 g (nl2&&z.all E.dv) hs (.inl ⟨rfl,rfl⟩) (fun hn=>by simpa using hn) (by simpa using hby);have hb:Below w.heap.size w w':=⟨hap.os,hap.tape,hap.output,hap.size,fun y hy=>hap.eH y hy (by simp[Value.ownBlock])⟩
        have hO:∀ y,v'.ownBlock=some y->w.heap.size<=y/\y<w'.heap.size:=fun y hy=>by
         rcases hap.vw y hy with e1|e1
         .simp [Value.ownBlock]at e1
         .exact e1
        have ht:Touch L w id (fun y=>v'.ownBlock=some y) w':=⟨fun y hy=>⟨.inr (hO y hy).1,(hO y hy).2⟩,hb.size,fun y hy _=>hb.block y hy,hb.os,hb.tape,hb.output⟩
        have hl:=ht.later v' (fun _=>undef);have hown:=hap.own;rw[Nat.zero_add]at hown;refine⟨v',w',_,.inl hrun,r.new id _ (fun y=>v'.ownBlock=some y) v' (fun _=>undef) w' hno hO hb ⟨fun i j=>if i<0 then g i j else g (i-0) j,by rw[Lk.eC];exact hown,fun y=>by rw[Lk.gW,Lk.eC],fun i j hi hj=>(fun(q:ax _ _ _ _ _/\_)=>⟨hl.rep q.1,q.2⟩) (?_:_/\_)⟩ hnl',Lk.mP,Lk.eC.symm⟩
        simp only[Nat.not_lt_zero,if_false,Nat.sub_zero];exact gk i j hi hj
       .cases h
      .cases h
     .cases h
    .cases h
   .cases h
  .cases h
 .cases h
theorem ME(hT:cD P T)(hB:∀ b,B b->b<w0.heap.size){s x:Operand}{t:TypeId}{c:Call}(hc:c={ callee:=.builtin .append,args:=#[s,x],argTypes:=#[t,t] })(hop:o.op = .call c)(r:Rel w0 B σ a w L)
  (h:nv T σ o.dst t (σ.op s) (σ.op x)=some u) (ho:∀ q,q ∈ u.aM->q):bC P K w0 B σ o a w u:=by
 unfold nv at h;split at h
 .rename_i u0 h0
  split at h
  .rename_i id nl T1 n sz el id' hf hr
   split at h
   .rename_i hid
    have hid:=beq_iff.1 hid;subst hid;cases h;have r2:Rel w0 B { σ with nl:=false } a w L:=⟨r.hd,r.hs,r.ht,r.hb,r.hv,r.hn,r.hw,r.hi,r.he,fun h=>by cases h⟩
    obtain⟨v,w',L1,hrun,hrel,hrep⟩:=CH (K:=K) hT hc hop r2 h0 fun q hq=>ho q (List.mem_cons_of_mem _ hq)
    rw[hf]at hrel;rw[hr]at hrep;obtain⟨L',k1,k2⟩:=Rel.fin hB hrel;refine⟨v,w',L',hrun,⟨k1.hd,k1.hs,k1.ht,k1.hb,k1.hv,k1.hn,k1.hw,k1.hi,k1.he,fun hn i b hb=>r.hl hn i b ?_⟩,?_⟩
    .have hb:look (σ.b.filter fun x=>!Nat.beq x.1 id') i=some b:=hb
     rw[xn]at hb;split at hb
     .cases hb
     .exact hb
    rw[hrep.2];exact k2
   .cases h
  .cases h
 .cases h
theorem MV{x y:Operand}{c:Call}(hc:c.callee = .builtin .max/\c.args = #[x,y])(hop:o.op = .call c)(r:Rel w0 B σ a w L){k k':IntKind}{p q:Int}(hx:σ.op x = .e (.v (.int k p)))(hy:σ.op y = .e (.v (.int k' q)))
  (hu:u={ r:=.e (.v (.int k (if q>p then q else p))) }):bC P K w0 B σ o a w u:=by
 have h1:=r.op x;have h2:=r.op y;rw[hx]at h1;rw[hy]at h2;have h1:=ax.bQ h1;have h2:=ax.bQ h2;subst hu;refine bC.pure r (v:=.int k (if q>p then q else p)) ?_ rfl (.v _);have em:(#[x,y]:Array Operand).map a.eval = #[.int k p,.int k' q]:=by simp[h1,h2]
 simp only[execOp,hop,resolve,hc.1,hc.2,em,Sem.run_bind,Sem.run_pure,Result.andThen_ok,invoke,builtin,run_max_int2]
theorem MW{x y z:Operand}{c:Call}(hc:c.callee = .builtin .max/\c.args = #[x,y,z])(hop:o.op = .call c)(r:Rel w0 B σ a w L){k k' k'':IntKind}{p q s:Int}(hx:σ.op x = .e (.v (.int k p)))(hy:σ.op y = .e (.v (.int k' q)))(hz:σ.op z = .e (.v (.int k'' s)))
  (hu:u={ r:=.e (.v (.int k (if s>(if q>p then q else p)then s else(if q>p then q else p)))) }):bC P K w0 B σ o a w u:=by
 have h1:=r.op x;have h2:=r.op y;have h3:=r.op z;rw[hx]at h1;rw[hy]at h2;rw[hz]at h3;have h1:=ax.bQ h1;have h2:=ax.bQ h2;have h3:=ax.bQ h3;subst hu;refine bC.pure r (v:=.int k (if s>(if q>p then q else p)then s else(if q>p then q else p))) ?_ rfl (.v _);have em:(#[x,y,z]:Array Operand).map a.eval = #[.int k p,.int k' q,.int k'' s]:=by simp[h1,h2,h3]
 simp only[execOp,hop,resolve,hc.1,hc.2,em,Sem.run_bind,Sem.run_pure,Result.andThen_ok,invoke,builtin,run_max_int3]
theorem MX{x y:Operand}{c:Call}(hc:c.callee = .builtin .min/\c.args = #[x,y])(hop:o.op = .call c)(r:Rel w0 B σ a w L){k k':IntKind}{p q:Int}(hx:σ.op x = .e (.v (.int k p)))(hy:σ.op y = .e (.v (.int k' q)))
  (hu:u={ r:=.e (.v (.int k (if q<p then q else p))) }):bC P K w0 B σ o a w u:=by
 have h1:=r.op x;have h2:=r.op y;rw[hx]at h1;rw[hy]at h2;have h1:=ax.bQ h1;have h2:=ax.bQ h2;subst hu;refine bC.pure r (v:=.int k (if q<p then q else p)) ?_ rfl (.v _);have em:(#[x,y]:Array Operand).map a.eval = #[.int k p,.int k' q]:=by simp[h1,h2]
 simp only[execOp,hop,resolve,hc.1,hc.2,em,Sem.run_bind,Sem.run_pure,Result.andThen_ok,invoke,builtin,run_min_int2]
end
open Go.RowKit
structure Gd(P:Program)(K:World->Prop)(w0:World)(B:Nat->Prop):Prop where
 k:K w0
 xT:∀ w w',K w->Below w.heap.size w w'->K w'
 hB:∀ b,B b->b<w0.heap.size/\eo w0 b
theorem eo.pn{w w':World}{b:Nat}(h:eo w b)(hb:w'.heap[b]? = w.heap[b]?):eo w' b:=by
 intro o x e;exact h o x (by rw[<-e];exact(World.cell?_of_block (w:=w) (w':=w') hb).symm)
theorem eo.xJ{w:World}{b:Nat}{cs:Array Value}{T:TypeId}{fr:Nat×Nat}(hg:w.heap[b]? = some (.cells cs T fr))(h:∀ v,v ∈ cs->gS v=false):eo w b:=by
 intro o x e;simp only[World.cell?,hg]at e;simp only[Option.isSome_none,Bool.false_eq_true,if_false]at e;have:=h _ (Array.mem_of_getElem? e);cases this
section
variable {P:Program} {K:World->Prop} {T:List TI} {O:eu} {w0:World} {B:Nat->Prop} {σ:PS} {o:Oper} {a:Act} {w:World} {L:Lk} {u:Out}
theorem fl.tJ{v:Value}{T:TypeId}{n sz:Nat}{f:Nat->Nat->Value}(h:fl w v T n sz f true){x:Nat}(hx:v.ownBlock=some x):eo w x:=by
 rcases h with⟨rfl,_⟩|⟨b,c,cur,rfl,hg,_,_,_,_,hnl⟩
 .simp [Value.ownBlock]at hx
 .simp [Value.ownBlock]at hx
  subst hx;exact eo.xJ hg (hnl rfl)
theorem gv.tJ{id:Nat}{b:Bx}(h:gv (bad B L) (bu L) L w id b)(hn:b.nl=true){x:Nat}(hx:L.own id x):eo w x:=by
 cases b with
 | cells T l =>
  obtain⟨b,vs,h1,h2,h3,h4,h5⟩:=h;obtain rfl:=(h2 x).1 hx;exact eo.xJ h3 fun v hv=>xj h4 hn v (by simpa using hv)
 | row nl T n sz el =>
  obtain⟨f,h1,h2,h3⟩:=h;have hn:nl=true:=hn;subst hn;exact h1.tJ ((h2 x).1 hx)
 | rows nl T1 T0 n sz len el pend =>
  obtain⟨b,c,cur,f,h1,h2,h3,h4,h5,h6,h7,h8,h9,h10,h11⟩:=h;have hn:nl=true:=hn;subst hn;rcases(h9 x).1 hx with rfl|⟨k,hk,hkx⟩
  .exact eo.xJ h2 fun v hv=>(h7 v hv).2
  .exact (h8 k hk).1.tJ hkx
theorem Rel.AS(g:Gd P K w0 B)(r:Rel w0 B σ a w L)(hn:σ.nl=true):∀ b,bad B L b->b<w.heap.size/\eo w b:=by
 intro b hb;rcases hb with hb|⟨id,hb⟩
 .obtain ⟨h1,h2⟩:=g.hB b hb
  exact⟨Nat.lt_of_lt_of_le h1 r.he.size,h2.pn (r.he.block b h1)⟩
 .refine ⟨(r.hw id b hb).2,?_⟩
  have hl:=(r.hv id).1 (r.hn id b hb);obtain⟨bx,hbx⟩:=Option.isSome_iff_exists.1 hl;exact(r.hb id bx hbx).tJ (r.hl hn id bx hbx) hb
theorem gv.ref{id:Nat}{Tt:TypeId}{l:List E}(h:gv (bad B L) (bu L) L w id (.cells Tt l)){b:Nat}(hv:L.val id = .pointer (some ⟨b,0,none⟩))(hlt:∀ x,L.own id x->x<w.heap.size) :
  ax (bad B L) (fun _=>False) w (.ref l.length fun j=>l.getD j .any) (.pointer (some ⟨b,0,none⟩)):=by
 obtain⟨b',vs,h1,h2,h3,h4,h5⟩:=h;rw[hv]at h1;cases h1;refine .ref _ _ b 0 (fun j=>vs.getD j undef) (fun h=>h) (hlt b ((h2 b).2 rfl)) (fun j hj=>?_) (fun j hj=>?_) (fun j hj=>?_)
 .have hj':j<vs.length:=by rw[h4.len];exact hj
  rw[List.getD_eq_getElem?_getD,List.getElem?_eq_getElem hj'];exact h5 _ (List.getElem_mem hj')
 .have hj':j<vs.length:=by rw[h4.len];exact hj
  simp only[World.cell?,h3];simp[hj']
 .have hj':j<vs.length:=by rw[h4.len];exact hj
  rw[List.getD_eq_getElem?_getD,List.getElem?_eq_getElem hj,List.getD_eq_getElem?_getD,List.getElem?_eq_getElem hj'];exact(h4.rep j _ _ (List.getElem?_eq_getElem hj) (List.getElem?_eq_getElem hj')).gq (fun _ h=>h) (fun _ h=>h.elim)
theorem CV.sZ(r:Rel w0 B σ a w L){c:CV}{e:E}{is:List Nat}(h:c.ext σ=some (e,is)){v:Value}(hv:kO (bad B L) (bu L) L w c v):ax (bad B L) (fun _=>False) w e v:=by
 cases c with
 | e x=>simp only[CV.ext,Option.some.injEq,Prod.mk.injEq]at h;obtain⟨rfl,_⟩:=h;exact hv.gq (fun _ h=>h) (fun _ h=>h.elim)
 | box id =>
  simp only[CV.ext]at h;split at h
  .rename_i Tt l hbo
   simp only[Option.some.injEq,Prod.mk.injEq]at h;obtain⟨rfl,_⟩:=h;obtain⟨_,b,k2,rfl⟩:=hv;exact(r.hb id _ hbo).ref k2 fun x hx=>(r.hw id x hx).2
  .cases h
theorem Cl(r:Rel w0 B σ a w L){l:List CV}{es:List E}{is:List Nat}(h:extAll σ l=some (es,is)){vs:List Value}(hlen:vs.length=l.length)
  (hv:∀ (i:Nat) (c:CV) (x:Value),l[i]? = some c->vs[i]? = some x->kO (bad B L) (bu L) L w c x):bE (bad B L) (fun _=>False) w es vs:=by
 induction l generalizing es is vs with
 | nil=>simp only[extAll,Option.some.injEq,Prod.mk.injEq]at h;obtain⟨rfl,_⟩:=h;obtain rfl:=List.eq_nil_of_length_eq_zero hlen;exact .nil _ _ _
 | cons c l ih =>
  cases vs with
  | nil=>simp at hlen
  | cons v vs =>
   simp only[extAll]at h;split at h
   .rename_i x i xs js h1 h2
    simp only[Option.some.injEq,Prod.mk.injEq]at h;obtain⟨rfl,_⟩:=h;exact .cons (CV.sZ r h1 (hv 0 c v rfl rfl)) (ih h2 (by simpa using hlen) fun i c x hc hx=>hv (i+1) c x (by simpa using hc) (by simpa using hx))
   .cases h
theorem PV.sZ(r:Rel w0 B σ a w L){p:PV}{e:E}{is:List Nat}(h:p.ext σ=some (e,is))(hno:p.nA=false){v:Value}(hv:dI (bad B L) (bu L) L w p v):ax (bad B L) (fun _=>False) w e v:=by
 cases p with
 | e x=>simp only[PV.ext,Option.some.injEq,Prod.mk.injEq]at h;obtain⟨rfl,_⟩:=h;exact ax.gq (fun _ h=>h) (fun _ h=>h.elim) hv
 | box id off =>
  cases off with
  | succ=>simp[PV.ext]at h
  | zero =>
   simp only[PV.ext]at h;split at h
   .rename_i Tt l hbo
    simp only[Option.some.injEq,Prod.mk.injEq]at h;obtain⟨rfl,_⟩:=h;obtain⟨_,b,k2,rfl⟩:=hv;exact(r.hb id _ hbo).ref k2 fun x hx=>(r.hw id x hx).2
   .cases h
 | gw f cap =>
  simp only[PV.ext]at h;split at h
  .rename_i xs js h1
   simp only[Option.some.injEq,Prod.mk.injEq]at h;obtain⟨rfl,_⟩:=h;obtain⟨vs,rfl,k2,k3⟩:=hv;have:=Cl r h1 k2 k3;exact .fn f xs vs this.len this.rep
  .cases h
 | own id=>cases hno
 | _=>simp[PV.ext]at h
theorem PV.LP(r:Rel w0 B σ a w L){p:PV}{e:E}{is:List Nat}(h:p.ext σ=some (e,is)){v:Value}(hv:dI (bad B L) (bu L) L w p v):ax (fun _=>False) (fun _=>False) w e v:=by
 by_cases hno:p.nA=false
 .exact (PV.sZ r h hno hv).gq (fun _ h=>h.elim) (fun _ h=>h)
 .cases p with
  | own id =>
   obtain⟨_,rfl⟩:=hv;simp only[PV.ext]at h;split at h
   .rename_i nl T n sz el hbo
    simp only[Option.some.injEq,Prod.mk.injEq]at h;obtain⟨rfl,_⟩:=h;obtain⟨f,h1,h2,h3⟩:=r.hb id _ hbo;generalize hvv:L.val id=v at *
    rcases h1 with⟨rfl,rfl⟩|⟨b,c,cur,rfl,hg,hnc,hcm,hcs,hcell,hnl⟩
    .exact .sl nl 0 sz el none 0 f (Nat.le_refl _) (by decide) (fun _=>rfl) (fun i j hi=>absurd hi (Nat.not_lt_zero i)) (fun i j hi=>absurd hi (Nat.not_lt_zero i)) (fun i j hi=>absurd hi (Nat.not_lt_zero i)) (fun i j hi=>absurd hi (Nat.not_lt_zero i))
    .have hob:=(h2 b).2 rfl
     refine .sl nl n sz el _ c f hnc (by unfold maxLen at hcm;omega) (fun h=>by cases h) (fun i j hi hj=>⟨(hcell i j hi hj).2,fun hn=>hnl hn _ (Array.mem_of_getElem? (hcell i j hi hj).1)⟩) (fun i j hi hj=>(h3 i j hi hj).2)
      (fun i j hi hj=>⟨b,0,rfl,fun h=>h,(r.hw id b hob).2,?_⟩) (fun i j hi hj=>((h3 i j hi hj).1.gq (fun _ h=>h.elim) (fun _ h=>h)).nr 2 (h3 i j hi hj).2)
     rw[Nat.zero_add];simp only[World.cell?,hg];simpa using(hcell i j hi hj).1
   .cases h
  | _=>exact absurd rfl hno
theorem Ap(r:Rel w0 B σ a w L){l:List Operand}{es:List E}{is:List Nat}(h:jk σ l=some (es,is)):bE (fun _=>False) (fun _=>False) w es (l.map a.eval):=by
 induction l generalizing es is with
 | nil=>simp only[jk,Option.some.injEq,Prod.mk.injEq]at h;obtain⟨rfl,_⟩:=h;exact .nil _ _ _
 | cons x l ih =>
  simp only[jk]at h;split at h
  .rename_i y i xs js h1 h2
   simp only[Option.some.injEq,Prod.mk.injEq]at h;obtain⟨rfl,_⟩:=h;exact .cons (PV.LP r h1 (r.op x)) (ih h2)
  .cases h
theorem Ao(r:Rel w0 B σ a w L){l:List Operand}{es:List E}{is:List Nat}(h:jk σ l=some (es,is))(hno:(l.map σ.op).any PV.nA=false):bE (bad B L) (fun _=>False) w es (l.map a.eval):=by
 induction l generalizing es is with
 | nil=>simp only[jk,Option.some.injEq,Prod.mk.injEq]at h;obtain⟨rfl,_⟩:=h;exact .nil _ _ _
 | cons x l ih =>
  simp only[jk]at h;split at h
  .rename_i y i xs js h1 h2
   simp only[Option.some.injEq,Prod.mk.injEq]at h;obtain⟨rfl,_⟩:=h;simp only[List.map_cons,List.any_cons,Bool.or_eq_false_iff]at hno;exact .cons (PV.sZ r h1 hno.1 (r.op x)) (ih h2 hno.2)
  .cases h
def rX(P:Program)(K:World->Prop)(w0:World)(B:Nat->Prop)(σ:PS)(o:Oper)(a:Act)(w:World)(u:Out):Prop :=
 ∀ (Kc:Act->World->Prop) (Q:Exit->Act->World->Prop),(∀ v w' L',Rel w0 B (σ.fI u.f) a w' L'->dI (bad B L') (bu L') L' w' u.r v->Kc (a.put o.dst v) w')->o.wp P a w Kc Q
theorem bC.er(h:bC P K w0 B σ o a w u):rX P K w0 B σ o a w u:=by
 intro Kc Q hk;obtain⟨v,w',L',hrun,hr,hp⟩:=h;unfold Oper.wp;rcases hrun with hrun|⟨hrun,rfl⟩
 .rw [hrun];exact hk v w' L' hr hp
 .rw [hrun];exact hk _ w' L' hr hp
theorem BQ(g:Gd P K w0 B)(r:Rel w0 B σ a w L){c:Call}{f:Operand}(hop:o.op = .call c)(hf:c.callee = .value f){gf:FuncId}{xs ys:List E}{is:List Nat}{us:List Value}
  {ow:Bool} (hfv:a.eval f = .func (.func gf) #[] us.toArray) (hxs0:bE (fun _=>False) (fun _=>False) w xs (c.args.toList.map a.eval)) (hxs:ow=false->bE (bad B L) (fun _=>False) w xs (c.args.toList.map a.eval)) (hus:bE (bad B L) (fun _=>False) w ys us)
  (h:mo P K O σ o.dst gf (xs++ys) is ow=some u) (ho:∀ q,q ∈ u.aM->q):rX P K w0 B σ o a w u:=by
 intro Kc Q hk;simp only[mo]at h;split at h
 .rename_i res hres
  split at h
  .rename_i hc
   cases h;have pc:PC P K gf (xs++ys) res:=ho _ (by simp);have hargs0:=hxs0.app (hus.mono fun _ _=>ax.gq (bs':=fun _=>False) (fun _ h=>h.elim) (fun _ h=>h));have hrun:(execOp a.eval o).run P w = .ok (.enter gf ((c.args.toList.map a.eval)++us).toArray) w:=by
    have e1:c.args.map a.eval=(c.args.toList.map a.eval).toArray:=by apply Array.ext';simp
    have e2:#[]++(c.args.toList.map a.eval).toArray++us.toArray=((c.args.toList.map a.eval)++us).toArray:=by simp
    simp only[execOp,hop,resolve,hf,hfv,Deferred.ofValue,Sem.run_bind,Sem.run_pure,Result.andThen_ok,invoke,e1,e2,pc.call]
   unfold Oper.wp;rw[hrun];show Calls P gf _ w _;have hK:K w:=g.xT _ _ g.k r.he;by_cases hpl:res.plain 3=true
   .refine (pc.run w (fun _=>False) _ hK (fun _ h=>h.elim) hargs0).mono ?_
    rintro e w' ⟨v,rfl,hb,hv⟩;exact hk v w' L (r.later hb) (ax.plain (w:=w') hv 3 hpl)
   .have hn:σ.nl=true/\ow=false:=by simpa[hpl]using hc
    refine(pc.run w (bad B L) _ hK (r.AS g hn.1) ((hxs hn.2).app hus)).mono ?_;rintro e w' ⟨v,rfl,hb,hv⟩;exact hk v w' L (r.later hb) (ax.gq (fun _ h=>h) (fun _ _=>trivial) hv)
  .split at h
   .rename_i hc
    cases h;have pc:oi P K gf (xs++ys) res:=ho _ (by simp);have hrun:(execOp a.eval o).run P w = .ok (.enter gf ((c.args.toList.map a.eval)++us).toArray) w:=by
     have e1:c.args.map a.eval=(c.args.toList.map a.eval).toArray:=by apply Array.ext';simp
     have e2:#[]++(c.args.toList.map a.eval).toArray++us.toArray=((c.args.toList.map a.eval)++us).toArray:=by simp
     simp only[execOp,hop,resolve,hf,hfv,Deferred.ofValue,Sem.run_bind,Sem.run_pure,Result.andThen_ok,invoke,e1,e2,pc.call]
    unfold Oper.wp;rw[hrun];show Calls P gf _ w _;have hK:K w:=g.xT _ _ g.k r.he;have hn:ow=false:=by simpa using hc
    refine(pc.run w (bad B L) _ hK (fun b hb=>?_) ((hxs hn).app hus)).mono ?_
    .rcases hb with hb|⟨id,hb⟩
     .exact Nat.lt_of_lt_of_le (g.hB b hb).1 r.he.size
     .exact (r.hw id b hb).2
    .rintro e w' ⟨v,rfl,hb,hv⟩
     exact hk v w' L (r.later hb) (ax.gq (fun _ h=>h) (fun _ _=>trivial) hv)
   .cases h
 .split at h
  .rename_i d hd
   split at h
   .rename_i nl T n sz el hnw hno
    split at h
    .rename_i hc
     cases h;simp only[Bool.and_eq_true]at hc;have pc:ji P K gf (xs++ys) nl T n sz el:=ho _ (by simp);have hrun:(execOp a.eval o).run P w = .ok (.enter gf ((c.args.toList.map a.eval)++us).toArray) w:=by
      have e1:c.args.map a.eval=(c.args.toList.map a.eval).toArray:=by apply Array.ext';simp
      have e2:#[]++(c.args.toList.map a.eval).toArray++us.toArray=((c.args.toList.map a.eval)++us).toArray:=by simp
      simp only[execOp,hop,resolve,hf,hfv,Deferred.ofValue,Sem.run_bind,Sem.run_pure,Result.andThen_ok,invoke,e1,e2,pc.call]
     unfold Oper.wp;rw[hrun];show Calls P gf _ w _;have hK:K w:=g.xT _ _ g.k r.he;have hn:ow=false:=by simpa using hc.2
     refine(pc.run w (bad B L) _ hK (r.AS g hc.1.1) ((hxs hn).app hus)).mono ?_
     .rintro e w' ⟨v,rfl,hb,gg,hown,hblk,hel⟩
      have hl:=(r.later hb)
      have hnew:=r.new d (.row nl T n sz el) (fun x=>v.ownBlock=some x) v (fun _=>undef) w' hno hblk hb
       ⟨gg,by rw[Lk.eC];exact hown,fun x=>by rw[Lk.gW,Lk.eC],fun i j hi hj=>⟨?_,(hel i j hi hj).2⟩⟩ (by simp[Bx.nl,hc.1.2])
      .exact hk v w' _ hnew ⟨Lk.mP,Lk.eC.symm⟩
      .refine (hel i j hi hj).1.gq (fun b h=>?_) (fun _ _=>trivial)
       rcases h with h|⟨id,h⟩
       .exact .inl (.inl h)
       .by_cases e:id=d
        .subst e;exact .inr ((Lk.gW b).1 h)
        .exact .inl (.inr ⟨id,(Lk.mQ e b).1 h⟩)
    .cases h
   .cases h
  .cases h
theorem wm(hT:cD P T)(g:Gd P K w0 B)(r:Rel w0 B σ a w L)(h:aS P K T O σ o=some u)(ho:∀ q,q ∈ u.aM->q):rX P K w0 B σ o a w u:=by
 cases hop:o.op with
 | move x=>exact(MY (P:=P) (K:=K) hop r h).er
 | assign x=>exact(MF (P:=P) (K:=K) hop r h).er
 | pick c x y=>exact(M0 (P:=P) (K:=K) hop r h).er
 | alloc t=>exact(MD hT hop r h).er
 | box t x=>exact(MH (P:=P) (K:=K) hop r h).er
 | build t ps=>exact(MI hT hop r h).er
 | buildSlice t n ps=>exact(MJ hT (fun b hb=>(g.hB b hb).1) hop r h).er
 | load t x=>exact(MS hT hop r h ho).er
 | store t x y=>exact(M3 hT hop r h ho).er
 | nilCheck x=>exact(MZ (P:=P) (K:=K) hop r h).er
 | binOp op t x y yt=>exact(MG hT hop r h ho).er
 | unOp op t x=>exact(M4 (P:=P) (K:=K) hop r h ho).er
 | convert s d x=>exact(MK hT hop r h).er
 | makeFunc fn first cap=>exact(MT (P:=P) (K:=K) hop r h).er
 | makeSlice t l c=>exact(MU hT hop r h ho).er
 | slice t x lo hi mx =>
  cases mx with
  | none=>exact(M1 hT hop r h ho).er
  | some=>simp[aS,hop]at h
 | fieldAddr t x f=>exact(MN hT hop r h).er
 | indexAddr t x i=>exact(MQ hT hop r h ho).er
 | index t x i=>exact(MO hT hop r h ho).er
 | field t x f=>exact(MM hT hop r h).er
 | extract x i=>exact(ML (P:=P) (K:=K) hop r h).er
 | call c =>
  obtain⟨callee,args,ats⟩:=c;cases callee with
  | builtin b =>
   simp only[aS,hop]at h;cases b
   case len =>
    dsimp only at h;split at h
    .rename_i x t hx ht
     have ha:args = #[x]:=by apply Array.ext';simpa using hx
     have hta:ats = #[t]:=by apply Array.ext';simpa using ht
     split at h
     .rename_i e hd
      obtain⟨rr,hr,rfl⟩:=Option.map_eq_some_iff.1 h;exact(MR hT (by rw[ha,hta]) hop hd r hr rfl).er
     .cases h
    .cases h
   case append =>
    dsimp only at h;split at h
    .rename_i s x t t' hx ht
     have ha:args = #[s,x]:=by apply Array.ext';simpa using hx
     have hta:ats = #[t,t']:=by apply Array.ext';simpa using ht
     split at h
     .rename_i htt
      have htt:=beq_iff.1 htt;subst htt;split at h
      .exact (ME hT (fun b hb=>(g.hB b hb).1) (by rw[ha,hta]) hop r h ho).er
      .exact (CH hT (by rw[ha,hta]) hop r h ho).er
     .cases h
    .cases h
   case max =>
    dsimp only at h;split at h
    .rename_i k p k' q hx
     rcases args with⟨l⟩
     rcases l with _|⟨x,_|⟨y,_|⟨z,l⟩⟩⟩<;>simp at hx
     cases h;exact(MV (P:=P) (K:=K) ⟨rfl,rfl⟩ hop r hx.1 hx.2 rfl).er
    .rename_i k p k' q k'' s hx
     rcases args with⟨l⟩
     rcases l with _|⟨x,_|⟨y,_|⟨z,_|⟨z',l⟩⟩⟩⟩<;>simp at hx
     cases h;exact(MW (P:=P) (K:=K) ⟨rfl,rfl⟩ hop r hx.1 hx.2.1 hx.2.2 rfl).er
    .cases h
   case min =>
    dsimp only at h;split at h
    .rename_i k p k' q hx
     rcases args with⟨l⟩
     rcases l with _|⟨x,_|⟨y,_|⟨z,l⟩⟩⟩<;>simp at hx
     cases h;exact(MX (P:=P) (K:=K) ⟨rfl,rfl⟩ hop r hx.1 hx.2 rfl).er
    .cases h
   all_goals cases h
  | value f =>
   simp only[aS,hop]at h;have hfv:=r.op f;split at h
   .rename_i gf cap xs is hpf hxs
    rw[hpf]at hfv;obtain⟨us,e1,hus⟩:=ax.Ct hfv;exact BQ g r hop rfl e1 (Ap r hxs) (fun hno=>Ao r hxs hno) (hus.mono fun _ _=>ax.gq (fun _ h=>h) (fun _ h=>h.elim)) h ho
   .rename_i gf cap xs is hpf hxs
    rw[hpf]at hfv;obtain⟨us,e1,k2,k3⟩:=hfv;split at h
    .rename_i ys js hys
     exact BQ g r hop rfl e1 (Ap r hxs) (fun hno=>Ao r hxs hno) (Cl r hys k2 k3) h ho
    .cases h
   .cases h
  | invoke _ _=>simp[aS,hop]at h
 | _=>simp[aS,hop]at h
theorem Ls(hT:cD P T)(g:Gd P K w0 B)(r:Rel w0 B σ a w L)(h:iQ P K T O σ o=some u)(ho:∀ q,q ∈ u.aM->q):rX P K w0 B σ o a w u:=by
 unfold iQ at h;split at h
 .rename_i u0 h0
  split at h
  .split at h
   .rename_i p hp
    cases h;have he:PV.le u0.r p:=ho _ (by simp);have:=wm hT g r h0 (fun q hq=>ho q (by simp[hq]));intro Kc Q hk;exact this Kc Q fun v w' L' hr hv=>hk v w' L' hr (he _ _ _ _ _ hv)
   .cases h
    exact wm hT g r h0 ho
  .cases h
   exact wm hT g r h0 ho
 .cases h
end
open Go.RowKit
section
variable {P:Program} {K:World->Prop} {T:List TI} {O:eu} {σ τ:PS} {o:Oper} {u:Out}
theorem Pt{x:Operand}(h:∀ t,x = .tmp t->σ.get t=τ.get t):τ.op x=σ.op x:=by
 cases x with
 | tmp t=>exact(h t rfl).symm
 | _=>rfl
theorem QI{p:PV}{m:Nat}{l:List E}{is:List Nat}{aM:List Prop}(h:σ.read p m=some (l,is,aM))(hb:∀ id,id ∈ is->σ.bo id=τ.bo id):τ.read p m=some (l,is,aM):=by
 cases p with
 | box id off =>
  have h0:=h;simp only[PS.read]at h;split at h
  .split at h
   .simp only[Option.some.injEq,Prod.mk.injEq]at h
    obtain⟨_,rfl,_⟩:=h;simp only[PS.read,<-hb id (by simp)];exact h0
   .cases h
  .cases h
 | eZ id sz i j =>
  have h0:=h;simp only[PS.read]at h;split at h
  .split at h
   .simp only[Option.some.injEq,Prod.mk.injEq]at h
    obtain⟨_,rfl,_⟩:=h;simp only[PS.read,<-hb id (by simp)];exact h0
   .cases h
  .cases h
 | e x=>cases x<;>exact h
 | _=>exact h
theorem Ka{c:CV}{e:E}{is:List Nat}(h:c.ext σ=some (e,is))(hb:∀ id,id ∈ is->σ.bo id=τ.bo id):c.ext τ=some (e,is):=by
 cases c with
 | e x=>exact h
 | box id =>
  have h0:=h;simp only[CV.ext]at h;split at h
  .simp only[Option.some.injEq,Prod.mk.injEq]at h
   obtain⟨_,rfl⟩:=h;simp only[CV.ext,<-hb id (by simp)];exact h0
  .cases h
theorem Ck{l:List CV}{es:List E}{is:List Nat}(h:extAll σ l=some (es,is))(hb:∀ id,id ∈ is->σ.bo id=τ.bo id):extAll τ l=some (es,is):=by
 induction l generalizing es is with
 | nil=>exact h
 | cons c l ih =>
  simp only[extAll]at h;split at h
  .rename_i x i xs js h1 h2
   simp only[Option.some.injEq,Prod.mk.injEq]at h;obtain⟨rfl,rfl⟩:=h;simp only[extAll,Ka h1 fun id hi=>hb id (by simp[hi]),ih h2 fun id hi=>hb id (by simp[hi])]
  .cases h
theorem PL{p:PV}{e:E}{is:List Nat}(h:p.ext σ=some (e,is))(hb:∀ id,id ∈ is->σ.bo id=τ.bo id):p.ext τ=some (e,is):=by
 cases p with
 | e x=>exact h
 | box id off =>
  cases off with
  | succ=>exact h
  | zero =>
   have h0:=h;simp only[PV.ext]at h;split at h
   .simp only[Option.some.injEq,Prod.mk.injEq]at h
    obtain⟨_,rfl⟩:=h;simp only[PV.ext,<-hb id (by simp)];exact h0
   .cases h
 | gw f cap =>
  simp only[PV.ext]at h;split at h
  .rename_i xs js h1
   simp only[Option.some.injEq,Prod.mk.injEq]at h;obtain⟨rfl,rfl⟩:=h;simp only[PV.ext,Ck h1 hb]
  .cases h
 | own id =>
  have h0:=h;simp only[PV.ext]at h;split at h
  .simp only[Option.some.injEq,Prod.mk.injEq]at h
   obtain⟨_,rfl⟩:=h;simp only[PV.ext,<-hb id (by simp)];exact h0
  .cases h
 | _=>exact h
theorem An{l:List Operand}{es:List E}{is:List Nat}(h:jk σ l=some (es,is))(hg:∀ x,x ∈ l->τ.op x=σ.op x)(hb:∀ id,id ∈ is->σ.bo id=τ.bo id):jk τ l=some (es,is):=by
 induction l generalizing es is with
 | nil=>exact h
 | cons c l ih =>
  simp only[jk]at h;split at h
  .rename_i x i xs js h1 h2
   simp only[Option.some.injEq,Prod.mk.injEq]at h;obtain⟨rfl,rfl⟩:=h;simp only[jk,hg c (by simp),PL h1 fun id hi=>hb id (by simp[hi]),ih h2 (fun x hx=>hg x (by simp[hx])) fun id hi=>hb id (by simp[hi])]
  .cases h
theorem Cp{place:Nat->Option (Nat×Nat)}{ps:List (Nat×Operand)}(hg:∀ x,x ∈ ps.map (·.2)->τ.op x=σ.op x):∀ l,gz τ place l ps=gz σ place l ps:=by
 induction ps with
 | nil=>intro l;rfl
 | cons p ps ih =>
  intro l;obtain⟨i,x⟩:=p;simp only[gz,hg x (by simp),ih fun x hx=>hg x (by simp only[List.map_cons,List.mem_cons];exact .inr hx)]
theorem qI{d:Option Tmp}{b:Bx}{rr:Nat->PV}{aM:List Prop}(h:jT σ d b rr aM=some u)(hnl:σ.nl=τ.nl)(hn:∀ id b,u.f = .new id b->τ.bo id=none):jT τ d b rr aM=some u:=by
 obtain⟨id,rfl,hno,hc,rfl⟩:=nI h;rw[hnl]at hc;simp only[jT,hn id b rfl,hc,if_true]
theorem Cg{d:Option Tmp}{t:TypeId}{s x:PV}{u:Out}(h:mn T σ d t s x=some u)(hb:∀ id,id ∈ u.rb->σ.bo id=τ.bo id)(hnl:σ.nl=τ.nl)(hn:∀ id b,u.f = .new id b->τ.bo id=none):mn T τ d t s x=some u:=by
 simp only[mn]at h ⊢;split at h
 .split at h
  .split at h
   .split at h
    .split at h
     .split at h
      .rename_i hc
       simp only[hc,if_true];split at h
       .rename_i id
        split at h
        .rename_i hbo
         split at h
         .rename_i hcc
          cases h;simp only[<-hb id (by simp),<-hnl,hbo,hcc,if_true]
         .cases h
        .cases h
       .rename_i id k
        split at h
        .rename_i hbo
         split at h
         .rename_i hcc
          cases h;simp only[<-hb id (by simp),hbo,hcc,if_true]
         .cases h
        .cases h
       .exact qI h hnl hn
       .cases h
      .cases h
     .cases h
    .cases h
   .cases h
  .cases h
 .cases h
theorem Lg{d:Option Tmp}{t:TypeId}{s x:PV}{u:Out}(h:nv T σ d t s x=some u)(hb:∀ id,id ∈ u.rb->σ.bo id=τ.bo id)(hnl:σ.nl=τ.nl):nv T τ d t s x=some u:=by
 unfold nv at h ⊢;split at h
 .rename_i u0 h0
  split at h
  .rename_i id nl T1 n sz el id' hf hr
   split at h
   .rename_i hid
    cases h;have:=Cg (σ:={ σ with nl:=false }) (τ:={ τ with nl:=false }) h0 hb rfl fun i b e=>by rw[hf]at e;cases e
    rw[this];simp only[hf,hr,hid,if_true]
   .cases h
  .cases h
 .cases h
theorem Li(h:aS P K T O σ o=some u)(hg:∀ x,x ∈ o.op.operands->τ.op x=σ.op x)(hb:∀ id,id ∈ u.rb->σ.bo id=τ.bo id)(hnl:σ.nl=τ.nl)(hn:∀ id b,u.f = .new id b->τ.bo id=none) :
  aS P K T O τ o=some u:=by
 cases hop:o.op with
 | move x=>rw[hop]at hg;simp only[aS,hop]at h ⊢;rw[hg x (by simp[Op.operands])];exact h
 | assign x=>rw[hop]at hg;simp only[aS,hop]at h ⊢;rw[hg x (by simp[Op.operands])];exact h
 | pick c x y=>rw[hop]at hg;simp only[aS,hop]at h ⊢;rw[hg c (by simp[Op.operands]),hg x (by simp[Op.operands]),hg y (by simp[Op.operands])];exact h
 | nilCheck x=>rw[hop]at hg;simp only[aS,hop]at h ⊢;rw[hg x (by simp[Op.operands])];exact h
 | binOp op t x y yt=>rw[hop]at hg;simp only[aS,hop]at h ⊢;rw[hg x (by simp[Op.operands]),hg y (by simp[Op.operands])];exact h
 | unOp op t x=>rw[hop]at hg;simp only[aS,hop]at h ⊢;rw[hg x (by simp[Op.operands])];exact h
 | convert s d x=>rw[hop]at hg;simp only[aS,hop]at h ⊢;rw[hg x (by simp[Op.operands])];exact h
 | index t x i=>rw[hop]at hg;simp only[aS,hop]at h ⊢;rw[hg x (by simp[Op.operands]),hg i (by simp[Op.operands])];exact h
 | extract x i=>rw[hop]at hg;simp only[aS,hop]at h ⊢;rw[hg x (by simp[Op.operands])];exact h
 | fieldAddr t x f=>rw[hop]at hg;simp only[aS,hop]at h ⊢;rw[hg x (by simp[Op.operands])];exact h
 | field t x f=>rw[hop]at hg;simp only[aS,hop]at h ⊢;rw[hg x (by simp[Op.operands])];exact h
 | makeFunc fn first cap =>
  rw[hop]at hg;cases fn with
  | func f =>
   simp only[aS,hop]at h ⊢;have:cap.toList.map τ.op=cap.toList.map σ.op:=List.map_congr_left fun x hx=>hg x (by simp only[Op.operands,Array.mem_append];exact .inr (by simpa using hx))
   rw[this];exact h
  | _=>simp[aS,hop]at h
 | slice t x lo hi mx =>
  rw[hop]at hg;cases mx with
  | some=>simp[aS,hop]at h
  | none =>
   simp only[aS,hop]at h ⊢;have e1:lo.map τ.op=lo.map σ.op:=by cases lo with
    | none=>rfl
    | some y=>simp only[Option.map_some];rw[hg y (by simp[Op.operands])]
   have e2:hi.map τ.op=hi.map σ.op:=by cases hi with
    | none=>rfl
    | some y=>simp only[Option.map_some];rw[hg y (by simp[Op.operands])]
   rw[hg x (by simp[Op.operands]),e1,e2];exact h
 | alloc t =>
  simp only[aS,hop]at h ⊢;split at h
  .split at h
   .exact qI h hnl hn
   .cases h
  .cases h
 | box t x =>
  rw[hop]at hg;simp only[aS,hop]at h ⊢;rw[hg x (by simp[Op.operands])];split at h
  .split at h
   .exact qI h hnl hn
   .cases h
  .cases h
 | build t ps =>
  rw[hop]at hg;simp only[aS,hop]at h ⊢;have hf:∀ place l,gz τ place l ps.toList=gz σ place l ps.toList:=fun place=>Cp fun x hx=>hg x (by simpa[Op.operands]using hx)
  simp only[hf];exact h
 | buildSlice t n ps =>
  rw[hop]at hg;simp only[aS,hop]at h ⊢;have hf:∀ place l,gz τ place l ps.toList=gz σ place l ps.toList:=fun place=>Cp fun x hx=>hg x (by simpa[Op.operands]using hx)
  simp only[hf];split at h
  .split at h
   .split at h
    .split at h
     .split at h
      .rename_i hif
       rw[if_pos hif];obtain⟨l,hl,h⟩:=Option.bind_eq_some_iff.1 h;refine Option.bind_eq_some_iff.2 ⟨l,hl,?_⟩;split at h
       .cases h
       .rename_i h1
        rw[if_neg h1];split at h
        .rename_i h2
         rw[if_pos h2];exact qI h hnl hn
        .rename_i h2
         rw[if_neg h2];exact h
      .cases h
     .cases h
    .cases h
   .cases h
  .cases h
 | load t x =>
  rw[hop]at hg;simp only[aS,hop,sT]at h ⊢;rw[hg x (by simp[Op.operands])];split at h
  .rename_i ti hti
   split at h
   .rename_i id i n hra
    have hra':nV τ (σ.op x)=some (id,i,n):=by
     have hid:σ.bo id=τ.bo id:=by
      split at h
      .cases h
      .cases h;exact hb id (by simp)
     cases hp:σ.op x with
     | eZ id' sz i' j =>
      rw[hp]at hra;have h0:=hra;simp only[nV]at hra;split at hra
      .split at hra
       .simp only[Option.some.injEq,Prod.mk.injEq]at hra
        obtain⟨rfl,_,_⟩:=hra;simp only[nV,<-hid];exact h0
       .cases hra
      .cases hra
     | _=>rw[hp]at hra;cases hra
    simp only[hra'];exact h
   .rename_i hra
    have key:∀ is,(∃ l aM,σ.read (σ.op x) ti.i.size=some (l,is,aM))->(∀ id,id ∈ is->σ.bo id=τ.bo id)->nV τ (σ.op x)=none:=by
     rintro is ⟨l,aM,hr⟩ hb';cases hp:σ.op x with
     | eZ id sz i j =>
      rw[hp]at hr hra;simp only[PS.read]at hr;split at hr
      .rename_i hbo
       split at hr
       .simp only[Option.some.injEq,Prod.mk.injEq]at hr
        obtain⟨_,rfl,_⟩:=hr;simp only[nV,<-hb' id (by simp),hbo]
       .cases hr
      .cases hr
     | _=>rfl
    cases hr:σ.read (σ.op x) ti.i.size with
    | none=>rw[hr]at h;cases h
    | some y =>
     obtain⟨l,is,aM⟩:=y;have hrb:u.rb=is:=by
      rw[hr]at h;simp only[qE]at h;split at h
      .cases h;rfl
      .split at h
       .cases h;rfl
       .cases h
     have hb':∀ id,id ∈ is->σ.bo id=τ.bo id:=fun id hi=>hb id (by rw[hrb];exact hi)
     rw[key is ⟨l,aM,hr⟩ hb'];simp only;rw[QI hr hb'];rw[hr]at h;exact h
  .cases h
 | store t x y =>
  rw[hop]at hg;simp only[aS,hop,sW]at h ⊢;rw[hg x (by simp[Op.operands]),hg y (by simp[Op.operands])];split at h
  .split at h
   .rename_i id off e _ _
    split at h
    .rename_i hbo hm
     split at h
     .rename_i hc
      cases h;rw[hnl]at hc;simp only[<-hb id (by simp),hbo,hm,hc,if_true]
     .cases h
    .cases h
   .rename_i id sz i j e _ _
    split at h
    .rename_i hbo hm
     split at h
     .rename_i hc
      cases h;simp only[<-hb id (by simp),hbo,hm,hc,if_true]
     .cases h
    .cases h
   .rename_i id i id' k _ _
    split at h
    .rename_i hbo
     split at h
     .rename_i hc
      cases h;simp only[<-hb id (by simp),hbo,hc,if_true]
     .cases h
    .cases h
   .cases h
  .cases h
 | makeSlice t l c =>
  rw[hop]at hg;simp only[aS,hop,sU]at h ⊢;rw[hg l (by simp[Op.operands]),hg c (by simp[Op.operands])];split at h
  .exact qI h hnl hn
  .cases h
 | indexAddr t x i =>
  rw[hop]at hg;simp only[aS,hop,sS]at h ⊢;rw[hg x (by simp[Op.operands]),hg i (by simp[Op.operands])];split at h
  .split at h
   .split at h
    .split at h
     .split at h
      .exact h
      .rename_i id _
       split at h
       .rename_i hbo
        split at h
        .rename_i hc
         cases h;simp only[<-hb id (by simp),hbo,hc,if_true]
        .cases h
       .rename_i hbo
        split at h
        .rename_i hc
         cases h;simp only[<-hb id (by simp),hbo,hc,if_true]
        .cases h
       .cases h
      .cases h
     .cases h
    .exact h
    .cases h
   .cases h
  .cases h
 | call c =>
  rw[hop]at hg;obtain⟨callee,args,ats⟩:=c;have ha:∀ x,x ∈ args.toList->τ.op x=σ.op x:=fun x hx=>hg x (by simp only[Op.operands,Call.operands,Array.mem_append];exact .inr (by simpa using hx))
  have hmap:args.toList.map τ.op=args.toList.map σ.op:=List.map_congr_left ha;cases callee with
  | builtin b =>
   simp only[aS,hop]at h ⊢;cases b
   case len =>
    dsimp only at h ⊢;split at h
    .rename_i x t hx ht
     split at h
     .obtain ⟨rr,hr,rfl⟩:=Option.map_eq_some_iff.1 h
      rw[ha x (by rw[hx];simp)];have:jq (σ.op x) τ=some rr:=by
       cases hp:σ.op x with
       | own id =>
        rw[hp]at hr;have h0:=hr;simp only[jq]at hr;split at hr
        .simp only[Option.some.injEq]at hr
         subst hr;simp only[jq,<-hb id (by simp)];exact h0
        .simp only[Option.some.injEq]at hr
         subst hr;simp only[jq,<-hb id (by simp)];exact h0
        .cases hr
       | e y =>
        rw[hp]at hr;cases y with
        | v z=>cases z<;>exact hr
        | _=>exact hr
       | _=>rw[hp]at hr;exact hr
      rw[this];rfl
     .cases h
    .cases h
   case append =>
    dsimp only at h ⊢;split at h
    .rename_i s x t t' hx ht
     split at h
     .rename_i htt
      simp only[htt,if_true];rw[ha x (by rw[hx];simp),ha s (by rw[hx];simp)];have hc0:sk O o.dst=sk O o.dst:=rfl;split at h
      .rename_i hao
       simp only[hao,if_true];exact Lg h hb hnl
      .rename_i hao
       simp only[hao,if_false,Bool.false_eq_true];exact Cg h hb hnl hn
     .cases h
    .cases h
   case max=>dsimp only at h ⊢;rw[hmap];exact h
   case min=>dsimp only at h ⊢;rw[hmap];exact h
   all_goals cases h
  | value f =>
   have hf:τ.op f=σ.op f:=hg f (by simp[Op.operands,Call.operands]);simp only[aS,hop]at h ⊢;have how:(args.toList.map τ.op).any PV.nA=(args.toList.map σ.op).any PV.nA:=by rw[hmap]
   rw[hf,how];have ec:∀ {gf:FuncId} {zs:List E} {is:List Nat} {ow:Bool},mo P K O σ o.dst gf zs is ow=some u->u.rb=is/\mo P K O τ o.dst gf zs is ow=some u:=by
    intro gf zs is ow hh;simp only[mo]at hh ⊢;rw[hnl]at hh;split at hh
    .rename_i res hres
     refine⟨?_,hh⟩;split at hh
     .cases hh;rfl
     .split at hh
      .cases hh;rfl
      .cases hh
    .split at hh
     .rename_i d hd
      split at hh
      .rename_i nl T n sz el h1 h2
       split at hh
       .rename_i hc
        cases hh;have h3:=hn _ _ rfl;rw[h1,h3];simp only[hc,if_true];constructor<;>first|rfl|trivial
       .cases hh
      .cases hh
     .cases hh
   split at h
   .rename_i gf cap xs is hpf hxs
    obtain⟨e1,e2⟩:=ec h;rw[An hxs ha fun id hi=>hb id (by rw[e1];exact hi),hpf];exact e2
   .rename_i gf cap xs is hpf hxs
    split at h
    .rename_i ys js hys
     obtain⟨e1,e2⟩:=ec h;rw[An hxs ha fun id hi=>hb id (by rw[e1];simp[hi]),hpf];simp only;rw[Ck hys fun id hi=>hb id (by rw[e1];simp[hi])];exact e2
    .cases h
   .cases h
  | invoke _ _=>simp[aS,hop]at h
 | _=>simp[aS,hop]at h
end
open Go.RowKit
theorem OR{l:List Operand}{t:Tmp}(h:Operand.tmp t ∈ l):t ∈ tmpsOf l:=by
 induction l with
 | nil=>simp at h
 | cons x l ih =>
  rcases List.mem_cons.1 h with h|h
  .subst h;simp[tmpsOf]
  .have:=ih h
   cases x<;>simp[tmpsOf,this]
theorem Nk{l:List Nat}{n:Nat}:wP l n=true↔n ∈ l:=by
 unfold wP;rw[List.any_eq_true];constructor
 .rintro ⟨x,hx,hb⟩;have:=beq_iff.1 hb;subst this;exact hx
 .intro h;exact⟨n,h,Nat.beq_refl n⟩
theorem tK{l:List Nat}{d:Option Nat}(h:pj l d=true){x:Nat}(hx:d=some x):x ∉ l:=by
 subst hx;simp only[pj,Bool.not_eq_true']at h;intro hm;rw[Nk.2 hm]at h;cases h
theorem uN{a b:Option Nat}(h:uM a b=true){x y:Nat}(hx:a=some x)(hy:b=some y):x≠y:=by
 subst hx hy;simp only[uM,Bool.not_eq_true']at h;intro e;rw[beq_iff.2 e]at h;cases h
theorem rL(f:fX)(p:PV):p.void f=if keeps f p then p else .e .any:=by
 cases f<;>cases p<;>simp only[PV.void,keeps,if_true]
 all_goals (split<;>rename_i h<;>simp[h])
theorem xd{f:fX}{p:PV}(h:keeps f p=true):p.void f=p:=by rw[rL,if_pos h]
theorem Oa(f:fX):keeps f (.e .any)=true:=by cases f<;>rfl
theorem Tl(p:PV)(f g:fX):(p.void f).void g=(p.void g).void f:=by
 rw[rL f p,rL g p];cases h1:keeps f p<;>cases h2:keeps g p<;>simp only[if_true,Bool.false_eq_true,if_false,rL,Oa,h1,h2]
structure gh(σ τ:PS):Prop where
 n:σ.n=τ.n
 nl:σ.nl=τ.nl
 get:∀ t,σ.get t=τ.get t
 bo:∀ id,σ.bo id=τ.bo id
theorem gh.refl(σ:PS):gh σ σ:=⟨rfl,rfl,fun _=>rfl,fun _=>rfl⟩
theorem gh.symm{σ τ:PS}(h:gh σ τ):gh τ σ:=⟨h.n.symm,h.nl.symm,fun t=>(h.get t).symm,fun i=>(h.bo i).symm⟩
theorem gh.trans{σ τ υ:PS}(h:gh σ τ)(k:gh τ υ):gh σ υ:=⟨h.n.trans k.n,h.nl.trans k.nl,fun t=>(h.get t).trans (k.get t),fun i=>(h.bo i).trans (k.bo i)⟩
theorem Rel.same{w0:World}{B:Nat->Prop}{σ τ:PS}{a:Act}{w:World}{L:Lk}(r:Rel w0 B σ a w L)(h:gh σ τ):Rel w0 B τ a w L :=
 ⟨r.hd,r.hs.trans h.n,fun t=>by rw[<-h.get];exact r.ht t,fun id b hb=>r.hb id b (by rw[h.bo];exact hb),fun id=>by rw[<-h.bo];exact r.hv id,r.hn,r.hw,r.hi,r.he,fun hn id b hb=>r.hl (by rw[h.nl];exact hn) id b (by rw[h.bo];exact hb)⟩
theorem nf(σ:PS)(f:fX)(id:Nat):(σ.fI f).bo id=match f with
  | .none=>σ.bo id
  | .new i b | .jg i b | .grow i b | .jR i b=>if i=id then some b else σ.bo id
  | .fin i=>if i=id then none else σ.bo id:=by
 cases f<;>first|rfl|exact tC _ _ _ _|exact xn _ _ _
theorem qt(σ:PS)(d:Option Tmp)(u:Out)(t:Nat):(σ.app d u).get t=if d=some t then u.r else(σ.get t).void u.f:=by
 unfold PS.app;cases d with
 | none =>
  rw[if_neg (by simp)];exact PS.tc σ u.f t
 | some d =>
  rw[PS.wO,PS.tc];simp only[Option.some.injEq]
theorem nd(σ:PS)(d:Option Tmp)(u:Out)(id:Nat):(σ.app d u).bo id=(σ.fI u.f).bo id:=PS.IY _ _ _ _
theorem qN(σ:PS)(d:Option Tmp)(u:Out):(σ.app d u).n=σ.n:=by unfold PS.app;rw[PS.xv];rfl
theorem qR(σ:PS)(d:Option Tmp)(u:Out):(σ.app d u).nl=σ.nl:=by unfold PS.app;rw[PS.Pk];rfl
theorem mf(σ:PS)(d:Option Tmp)(u:Out)(id:Nat)(h:u.f.id≠some id):(σ.app d u).bo id=σ.bo id:=by
 rw[nd,nf];cases hf:u.f<;>rw[hf]at h<;>simp only[fX.id,ne_eq,Option.some.injEq]at h<;>first|rfl|exact if_neg h
section
variable {P:Program} {K:World->Prop} {T:List TI} {O:eu} {ops:Array Oper} {σ τ:PS} {o:Oper} {u:Out}
theorem Ll(h:aS P K T O σ o=some u){x:Operand}(hx:x ∈ o.op.operands):x ∈ qV o.op:=by
 obtain⟨dst,op,ty,pos,after,guard⟩:=o;simp only at hx ⊢;cases op<;>first
  | (simp only[aS]at h;cases h;done)
  | (exfalso;simp[Op.operands]at hx;done)
  | (simpa[Op.operands,qV]using hx)
  | (simpa[Op.operands,qV,or_assoc]using hx)
  | skip
 case call c =>
  obtain⟨callee,args,ats⟩:=c;cases callee<;>simpa[Op.operands,qV,Call.operands]using hx
theorem qJ{d:Option Tmp}{b:Bx}{rr:Nat->PV}{aM:List Prop}(h:jT σ d b rr aM=some u){id:Nat}{b':Bx}(hf:u.f = .new id b'):σ.bo id=none:=by
 obtain⟨i,_,hno,_,rfl⟩:=nI h;cases hf;exact hno
theorem Lj(h:aS P K T O σ o=some u){id:Nat}{b:Bx}(hf:u.f = .new id b):σ.bo id=none:=by
 cases hop:o.op
 case alloc =>
  simp only[aS,hop]at h;split at h
  .split at h
   .exact qJ h hf
   .cases h
  .cases h
 case box =>
  simp only[aS,hop]at h;split at h
  .split at h
   .exact qJ h hf
   .cases h
  .cases h
 case makeSlice =>
  simp only[aS,hop,sU]at h;split at h
  .exact qJ h hf
  .cases h
 case makeFunc fn first cap =>
  cases fn with
  | func f =>
   simp only[aS,hop]at h
   repeat' split at h
   all_goals first
    | (cases h;done)
    | (cases h;cases hf;done)
  | _=>simp[aS,hop]at h
 case slice t x lo hi mx =>
  cases mx with
  | none =>
   simp only[aS,hop,sV]at h
   repeat' split at h
   all_goals first
    | (cases h;done)
    | (cases h;cases hf;done)
  | some=>simp[aS,hop]at h
 case call c =>
  obtain⟨callee,args,ats⟩:=c;cases callee with
  | builtin b =>
   simp only[aS,hop]at h;cases b
   case append =>
    dsimp only at h;split at h
    .split at h
     .split at h
      .unfold nv at h
       split at h
       .split at h
        .split at h
         .cases h;cases hf
         .cases h
        .cases h
       .cases h
      .simp only[mn]at h
       repeat' split at h
       all_goals first
        | (cases h;done)
        | exact qJ h hf
        | (cases h;cases hf;done)
     .cases h
    .cases h
   all_goals
    dsimp only at h
    repeat' split at h
    all_goals first
     | (cases h;done)
     | (cases h;cases hf;done)
     | (obtain⟨_,_,rfl⟩:=Option.map_eq_some_iff.1 h;cases hf)
  | value f =>
   simp only[aS,hop]at h
   repeat' split at h
   all_goals first
    | (cases h;done)
    | (simp only[mo]at h;repeat' split at h)
   all_goals first
    | (cases h;done)
    | (cases h;cases hf;done)
    | (cases h;cases hf;assumption)
  | invoke _ _=>simp[aS,hop]at h
 all_goals
  simp only[aS,hop,sW,sS,sV,sT,qE]at h
  repeat' split at h
  all_goals first
   | (cases h;done)
   | (cases h;cases hf;done)
   | (obtain⟨_,_,rfl⟩:=Option.map_eq_some_iff.1 h;cases hf)
   | skip
 all_goals first
  | (obtain⟨_,_,h⟩:=Option.bind_eq_some_iff.1 h;repeat' split at h)
  | skip
 all_goals first
  | exact qJ h hf
  | (cases h;done)
  | (cases h;cases hf;done)
theorem wA(h:iQ P K T O σ o=some u):∃ u0,aS P K T O σ o=some u0/\u0.rb=u.rb/\u0.f=u.f:=by
 unfold iQ at h;split at h
 .rename_i u0 h0
  split at h
  .split at h
   .cases h;exact⟨u0,h0,rfl,rfl⟩
   .cases h;exact⟨_,h0,rfl,rfl⟩
  .cases h;exact⟨_,h0,rfl,rfl⟩
 .cases h
theorem Lr(h:iQ P K T O σ o=some u)(hg:∀ x,x ∈ o.op.operands->τ.op x=σ.op x)(hb:∀ id,id ∈ u.rb->σ.bo id=τ.bo id)(hnl:σ.nl=τ.nl)(hn:∀ id b,u.f = .new id b->τ.bo id=none) :
  iQ P K T O τ o=some u:=by
 obtain⟨u0,h0,e1,e2⟩:=wA h;have:=Li (τ:=τ) h0 hg (by rw[e1];exact hb) hnl (by rw[e2];exact hn);unfold iQ at h ⊢;rw[h0]at h;rw[this];exact h
theorem qo(h:fJ P K T O ops σ o=some u):jv σ o.dst=true/\u.rd=(looks ops o).map σ.get/\((lP ops σ o=some true/\∃ u0,iQ P K T O σ o=some u0/\u={ u0 with rd:=(looks ops o).map σ.get })\/(lP ops σ o=some false/\u={ r:=.e (.v (.tuple #[])),rd:=(looks ops o).map σ.get })):=by
 unfold fJ at h;split at h
 .rename_i hi
  split at h
  .rename_i hw
   split at h
   .rename_i u0 h0
    cases h;exact⟨hi,rfl,.inl ⟨hw,u0,h0,rfl⟩⟩
   .cases h
  .rename_i hw
   cases h;exact⟨hi,rfl,.inr ⟨hw,rfl⟩⟩
  .cases h
 .cases h
theorem wo(h:fJ P K T O ops σ o=some u)(hg:∀ t,t ∈ looks ops o->σ.get t=τ.get t)(hb:∀ id,id ∈ u.rb->σ.bo id=τ.bo id)(hnl:σ.nl=τ.nl)(hsz:σ.n=τ.n)(hn:∀ id b,u.f = .new id b->τ.bo id=none) :
  fJ P K T O ops τ o=some u:=by
 obtain⟨hi,_,hw⟩:=qo h;have hin:jv τ o.dst=jv σ o.dst:=by cases o.dst<;>simp[jv,hsz]
 have hwe:lP ops τ o=lP ops σ o:=by
  unfold lP;cases hgd:o.guard with
  | none=>rfl
  | some jw =>
   obtain⟨j,want⟩:=jw;cases hd:(ops[j]?).bind (·.dst)with
   | none=>simp[hd]
   | some t =>
    simp only[hd];rw[hg t (by unfold looks;rw[hgd];simp[hd])]
 have hrd:(looks ops o).map τ.get=(looks ops o).map σ.get:=List.map_congr_left fun t ht=>(hg t ht).symm
 unfold fJ;rw[hin,hi,hwe,hrd];simp only[if_true];rcases hw with⟨hw,u0,h0,rfl⟩|⟨hw,rfl⟩
 .rw [hw]
  have hop:∀ x,x ∈ o.op.operands->τ.op x=σ.op x:=by
   intro x hx;obtain⟨u1,h1,_,_⟩:=wA h0;have hm:=Ll h1 hx;refine Pt fun t ht=>hg t ?_
   subst ht;unfold looks;exact List.mem_append_left _ (OR hm)
  simp only[Lr h0 hop hb hnl hn]
 .rw [hw]
theorem wq(h:fJ P K T O ops σ o=some u){id:Nat}{b:Bx}(hf:u.f = .new id b):σ.bo id=none:=by
 obtain⟨_,_,⟨_,u0,h0,rfl⟩|⟨_,rfl⟩⟩:=qo h
 .obtain ⟨u1,h1,_,e2⟩:=wA h0
  exact Lj h1 (by rw[e2];exact hf)
 .cases hf
theorem Lm(h:fJ P K T O ops σ o=some u)(hs:gh σ τ):fJ P K T O ops τ o=some u :=
 wo h (fun t _=>hs.get t) (fun id _=>hs.bo id) hs.nl hs.n fun id b hf=>by rw[<-hs.bo];exact wq h hf
theorem Hr(hs:gh σ τ)(d:Option Tmp)(u:Out):gh (σ.app d u) (τ.app d u) :=
 ⟨by rw[qN,qN];exact hs.n,by rw[qR,qR];exact hs.nl,fun t=>by rw[qt,qt,hs.get],fun id=>by rw[nd,nd,nf,nf,hs.bo]⟩
theorem swap{O':eu}{x y:Oper×Out}(hi:indep ops x y=true)(h1:fJ P K T O ops σ x.1=some x.2)(h2:fJ P K T O' ops (σ.app x.1.dst x.2) y.1=some y.2) :
  fJ P K T O' ops σ y.1=some y.2/\fJ P K T O ops (σ.app y.1.dst y.2) x.1=some x.2/\gh ((σ.app x.1.dst x.2).app y.1.dst y.2) ((σ.app y.1.dst y.2).app x.1.dst x.2):=by
 simp only[indep,Bool.and_eq_true]at hi;obtain⟨⟨⟨⟨⟨⟨⟨⟨⟨i1,i2⟩,i3⟩,i4⟩,i5⟩,i6⟩,i7⟩,i8⟩,i9⟩,i10⟩:=hi;obtain⟨_,rx,_⟩:=qo h1;obtain⟨_,ry,_⟩:=qo h2;have r1:fJ P K T O' ops σ y.1=some y.2:=by
  refine wo h2 (fun t ht=>?_) (fun id hid=>mf _ _ _ _ fun e=>tK i4 e hid) (qR _ _ _) (qN _ _ _) fun id b hf=>?_
  .have hg:(σ.app x.1.dst x.2).get t=(σ.get t).void x.2.f:=by
    rw[qt,if_neg fun e=>tK i1 e ht]
   rw[hg];by_cases hv:x.2.f.uS=true
   .have hna:xF ((σ.get t).void x.2.f)=true:=by
     have h9:y.2.rd.all xF=true:=by simpa[hv]using i9
     rw[ry]at h9;exact List.all_eq_true.1 h9 _ (List.mem_map.2 ⟨t,ht,hg⟩)
    rw[rL]at hna ⊢;split at hna
    .rename_i hk;rw[if_pos hk]
    .cases hna
   .cases hf:x.2.f<;>rw[hf]at hv<;>first|exact absurd rfl hv|(cases σ.get t<;>rfl)
  .have:=wq h2 hf
   rwa[mf _ _ _ _ fun e=>uN i6 e (by rw[hf];rfl) rfl]at this
 refine⟨r1,?_,?_⟩
 .refine wo h1 (fun t ht=>?_) (fun id hid=>(mf _ _ _ _ fun e=>tK i5 e hid).symm) (qR _ _ _).symm (qN _ _ _).symm fun id b hf=>?_
  .rw [qt,if_neg fun e=>tK i3 e ht]
   rw[rx]at i10;exact(xd (List.all_eq_true.1 i10 _ (List.mem_map.2 ⟨t,ht,rfl⟩))).symm
  .rw [mf _ _ _ _ fun e=>uN i6 (by rw[hf];rfl) e rfl]
   exact wq h1 hf
 .refine ⟨by simp only[qN],by simp only[qR],fun t=>?_,fun id=>?_⟩
  .simp only[qt]
   by_cases hx:x.1.dst=some t
   .have hy:¬y.1.dst=some t:=fun e=>uN i2 hx e rfl
    rw[if_neg hy,if_pos hx,if_pos hx,xd i8]
   .by_cases hy:y.1.dst=some t
    .rw [if_pos hy,if_neg hx,if_pos hy,xd i7]
    .rw [if_neg hy,if_neg hx,if_neg hx,if_neg hy,Tl]
  .by_cases hx:x.2.f.id=some id
   .have hy:y.2.f.id≠some id:=fun e=>uN i6 hx e rfl
    rw[mf _ _ _ _ hy,nd,nd,nf,nf,mf _ _ _ _ hy]
   .rw [mf _ _ x.2 _ hx]
    rw[nd,nd,nf,nf,mf _ _ _ _ hx]
end
section
variable {P:Program} {K:World->Prop} {T:List TI} {O:eu} {ops:Array Oper}
def jj(P:Program)(K:World->Prop)(T:List TI)(ops:Array Oper):List (Oper×Out)->PS->PS->Prop
 | [],σ,τ=>gh σ τ
 | x::l,σ,τ=>(∃ O,fJ P K T O ops σ x.1=some x.2)/\jj P K T ops l (σ.app x.1.dst x.2) τ
theorem jj.same{l:List (Oper×Out)}{σ σ2 τ:PS}(h:jj P K T ops l σ τ)(hs:gh σ σ2):jj P K T ops l σ2 τ:=by
 induction l generalizing σ σ2 with
 | nil=>exact hs.symm.trans h
 | cons x l ih=>exact⟨h.1.imp fun _ h=>Lm h hs,ih h.2 (Hr hs _ _)⟩
theorem jj.front{A C:List (Oper×Out)}{y:Oper×Out}{σ τ:PS}(h:jj P K T ops (A++y::C) σ τ)(hi:∀ x,x ∈ A->indep ops x y=true) :
  (∃ O,fJ P K T O ops σ y.1=some y.2)/\jj P K T ops (A++C) (σ.app y.1.dst y.2) τ:=by
 induction A generalizing σ with
 | nil=>exact h
 | cons x A ih =>
  obtain⟨⟨O1,h1⟩,h2⟩:=h;obtain⟨⟨O2,k1⟩,k2⟩:=ih h2 fun z hz=>hi z (by simp[hz])
  obtain⟨s1,s2,s3⟩:=swap (hi x (by simp)) h1 k1;exact⟨⟨O2,s1⟩,⟨O1,s2⟩,k2.same s3⟩
theorem Ln{l:List Oper}{σ τ:PS}{us:List (Oper×Out)}(h:mq P K T O ops l σ=some (us,τ)):jj P K T ops us σ τ/\us.map (·.1)=l:=by
 induction l generalizing σ us with
 | nil=>simp only[mq,Option.some.injEq,Prod.mk.injEq]at h;obtain⟨rfl,rfl⟩:=h;exact⟨gh.refl _,rfl⟩
 | cons o l ih =>
  simp only[mq]at h;split at h
  .rename_i u hu
   split at h
   .rename_i us' τ' h'
    simp only[Option.some.injEq,Prod.mk.injEq]at h;obtain⟨rfl,rfl⟩:=h;obtain⟨i1,i2⟩:=ih h';exact⟨⟨⟨_,hu⟩,i1⟩,by simp[i2]⟩
   .cases h
  .cases h
end
open Go.RowKit
section
variable {P:Program} {K:World->Prop} {T:List TI} {O:eu} {w0:World} {B:Nat->Prop} {σ τ:PS} {o:Oper} {a:Act} {w:World} {L:Lk} {u:Out} {ops:Array Oper}
theorem GI(r:Rel w0 B σ a w L){b:Bool}(h:lP ops σ o=some b):Region.wanted o (yielded ops a.tmps)=b:=by
 unfold lP at h;unfold Region.wanted;split at h
 .rename_i hg
  rw[hg];simpa using h
 .rename_i j want hg
  rw[hg];simp only;split at h
  .rename_i t ht
   have hv:=r.ht t;have key:∀ q:Bool,σ.get t = .e (.v (.bool q))->yielded ops a.tmps j=some q:=by
    intro q hq;rw[hq]at hv;have hv:=ax.bQ hv;unfold yielded;rw[ht];simp only[Option.bind_some];have hlt:a.tmps[t]? = some (.bool q):=by
     by_cases hs:t<a.tmps.size
     .simpa [hs]using hv
     .simp [hs,undef]at hv
    rw[hlt]
   split at h
   .rename_i hq
    rw[key true hq];simp only[Option.some.injEq]at h;subst h;cases want<;>rfl
   .rename_i hq
    rw[key false hq];simp only[Option.some.injEq]at h;subst h;cases want<;>rfl
   .rename_i q hq
    rw[hq]at hv;have hv:=ax.bQ hv;have hn:yielded ops a.tmps j=none:=by
     unfold yielded;rw[ht];simp only[Option.bind_some];by_cases hs:t<a.tmps.size
     .rw [show a.tmps[t]? = some (.tuple q)by simpa[hs]using hv]
     .simp [hs]
    rw[hn];simp only[Option.some.injEq]at h;subst h;cases want<;>rfl
   .cases h
  .cases h
theorem wu(hT:cD P T)(g:Gd P K w0 B)(r:Rel w0 B σ a w L)(h:fJ P K T O ops σ o=some u)(ho:∀ q,q ∈ u.aM->q)(Kc:Act->World->Prop)(Q:Exit->Act->World->Prop)
  (hk:∀ a' w' L',Rel w0 B (σ.app o.dst u) a' w' L'->Kc a' w') :
  (Region.wanted o (yielded ops a.tmps)=true/\o.wp P a w Kc Q)\/(Region.wanted o (yielded ops a.tmps)=false/\Kc (a.put o.dst undef) w):=by
 obtain⟨hi,_,⟨hw,u0,h0,rfl⟩|⟨hw,rfl⟩⟩:=qo h
 .refine .inl ⟨GI r hw,Ls hT g r h0 ho Kc Q fun v w' L' hr hp=>hk _ w' L' ?_⟩
  have hi':jv (σ.fI u0.f) o.dst=true:=by cases hd:o.dst<;>rw[hd]at hi<;>exact hi
  exact hr.put o.dst u0.r v hi' hp
 .exact .inr ⟨GI r hw,hk _ w L (r.put o.dst (.e (.v (.tuple #[]))) undef hi (.v _))⟩
theorem Lp(hT:cD P T)(g:Gd P K w0 B){l:List Oper}{us:List (Oper×Out)}{Q:Exit->Act->World->Prop}(h:mq P K T O ops l σ=some (us,τ))(ho:∀ q,q ∈ pQ us->q)(r:Rel w0 B σ a w L)
  (hq:∀ a' w' L',Rel w0 B τ a' w' L'->Q .normal a' w'):wpList P ops Q l a w:=by
 induction l generalizing σ a w L us with
 | nil =>
  simp only[mq,Option.some.injEq,Prod.mk.injEq]at h;obtain⟨rfl,rfl⟩:=h;exact hq a w L r
 | cons o l ih =>
  simp only[mq]at h;split at h
  .rename_i u hu
   split at h
   .rename_i us' τ' h'
    simp only[Option.some.injEq,Prod.mk.injEq]at h;obtain⟨rfl,rfl⟩:=h;simp only[pQ,List.mem_append]at ho;unfold wpList;rcases wu hT g r hu (fun q hq=>ho q (.inl hq)) (wpList P ops Q l) Q (fun a' w' L' hr=>ih h' (fun q hq=>ho q (.inr hq)) hr)with⟨h1,h2⟩|⟨h1,h2⟩
    .rw [if_pos h1];exact .inl h2
    .rw [if_neg (by rw[h1];simp)];exact h2
   .cases h
  .cases h
structure Left(ops:Array Oper)(listed:Array Bool)(R:List (Nat×Oper×Out)):Prop where
 at_:∀ x,x ∈ R->ops[x.1]? = some x.2.1/\listed.getD x.1 true=false
 all:∀ i,i<ops.size->listed.getD i true=false->∃ x,x ∈ R/\x.1=i
 pw:R.Pairwise fun x y=>x.1<y.1/\(reach ops 3 y.2.1 x.1||indep ops x.2 y.2)=true
 ed:∀ x,x ∈ R->∀ e,e ∈ x.2.1.after->Region.binds .any e=true->e.on<x.1
 up:∀ x,x ∈ R->∀ j z,ops[j]? = some z->ny z x.1=true->listed.getD j true=false
theorem Left.reach{listed:Array Bool}{R:List (Nat×Oper×Out)}(h:Left ops listed R){x:Nat×Oper×Out}(hx:x ∈ R):∀ (n:Nat) (j:Nat) (z:Oper),ops[j]? = some z->Pu.reach ops n z x.1=true ->
  listed.getD j true=false/\∃ e,e ∈ z.after/\Region.binds .any e=true/\listed.getD e.on true=false/\e.on<ops.size:=by
 have direct:∀ (j:Nat) (z:Oper),ops[j]? = some z->ny z x.1=true->listed.getD j true=false/\∃ e,e ∈ z.after/\Region.binds .any e=true/\listed.getD e.on true=false/\e.on<ops.size:=by
  intro j z hz he;refine⟨h.up x hx j z hz he,?_⟩;unfold ny at he;obtain⟨e,he1,he2⟩:=List.any_eq_true.1 he;simp only[Bool.and_eq_true]at he2;have hat:=h.at_ x hx;refine⟨e,by simpa using he1,he2.1,?_,?_⟩
  .rw [beq_iff.1 he2.2];exact hat.2
  .rw [beq_iff.1 he2.2];exact(Array.getElem?_eq_some_iff.1 hat.1).1
 intro n
 induction n with
 | zero=>exact direct
 | succ n ih =>
  intro j z hz hr;simp only[Pu.reach,Bool.or_eq_true]at hr;rcases hr with hr|hr
  .exact direct j z hz hr
  .obtain ⟨e,he1,he2⟩:=List.any_eq_true.1 hr
   simp only[Bool.and_eq_true]at he2;obtain⟨he2,he3⟩:=he2;split at he3
   .rename_i z' hz'
    obtain⟨k1,_⟩:=ih e.on z' hz' he3;have hlt:=(Array.getElem?_eq_some_iff.1 hz').1;obtain⟨x',hx',hxe⟩:=h.all e.on hlt k1;refine⟨h.up x' hx' j z hz ?_,e,by simpa using he1,he2,k1,hlt⟩;unfold ny;refine List.any_eq_true.2 ⟨e,he1,?_⟩;rw[he2,hxe];simp
   .cases he3
theorem yr{md:Region.Mode}{listed:Array Bool}{i:Nat}:i ∈ Region.ready md ops listed↔i<ops.size/\listed.getD i true=false/\∃ o,ops[i]? = some o/\∀ e,e ∈ o.after->Region.binds md e=true->listed.getD e.on false=true:=by
 unfold Region.ready;rw[List.mem_filter];simp only[List.mem_range,Bool.and_eq_true,Bool.not_eq_true'];constructor
 .rintro ⟨h1,h2,h3⟩
  refine⟨h1,h2,ops[i],by simp[h1],fun e he hb=>?_⟩;rw[Array.getElem?_eq_getElem h1]at h3;simp only[Option.map_some,Option.getD_some,Array.all_eq_true_iff_forall_mem]at h3;have:=h3 e he;simpa[hb]using this
 .rintro ⟨h1,h2,o,h3,h4⟩
  refine⟨h1,h2,?_⟩;rw[h3];simp only[Option.map_some,Option.getD_some,Array.all_eq_true_iff_forall_mem];intro e he;cases hb:Region.binds md e with
  | false=>rfl
  | true=>simpa using h4 e he hb
theorem Ak(hT:cD P T)(g:Gd P K w0 B){Q:Exit->Act->World->Prop}(hq:∀ a' w' L',Rel w0 B τ a' w' L'->Q .normal a' w') :
  ∀ (fuel:Nat) (listed:Array Bool) (R:List (Nat×Oper×Out)) (σ:PS) (a:Act) (w:World) (L:Lk),R.length=fuel->listed.size=ops.size->Left ops listed R->(∀ x,x ∈ R->∀ q,q ∈ x.2.2.aM->q) ->
   jj P K T ops (R.map (·.2)) σ τ->Rel w0 B σ a w L->wpAny P .any ops Q fuel listed a w:=by
 intro fuel
 induction fuel with
 | zero =>
  intro listed R σ a w L hlen hls hleft ho hruns r;have hR:=List.eq_nil_of_length_eq_zero hlen;subst hR;refine⟨?_,hq a w L (r.same hruns)⟩;apply List.eq_nil_iff_forall_not_mem.2;intro i hi;obtain⟨h1,h2,_⟩:=yr.1 hi;obtain⟨x,hx,_⟩:=hleft.all i h1 h2;simp at hx
 | succ fuel ih =>
  intro listed R σ a w L hlen hls hleft ho hruns r;refine⟨fun hnil=>?_,fun i hi=>?_⟩
  .
   exfalso;cases R with
   | nil=>simp at hlen
   | cons x R =>
    have hx:=hleft.at_ x (by simp);have hlt:x.1<ops.size:=(Array.getElem?_eq_some_iff.1 hx.1).1;have:x.1 ∈ Region.ready .any ops listed:=yr.2 ⟨hlt,hx.2,x.2.1,hx.1,fun e he hb=>by
     have hon:=hleft.ed x (by simp) e he hb;cases hl:listed.getD e.on true with
     | true =>
      have:e.on<listed.size:=by omega
      simp[this]at hl ⊢;exact hl
     | false =>
      exfalso;obtain⟨y,hy,hy2⟩:=hleft.all e.on (by omega) hl;rcases List.mem_cons.1 hy with hy|hy
      .subst hy;omega
      .have:=(List.pairwise_cons.1 hleft.pw).1 y hy;omega⟩
    rw[hnil]at this;simp at this
  .obtain ⟨h1,h2,o,h3,h4⟩:=yr.1 hi
   obtain⟨y,hy,hyi⟩:=hleft.all i h1 h2;subst hyi;obtain⟨A,C,rfl⟩:=List.append_of_mem hy;have hyat:=hleft.at_ y hy;have hind:∀ x,x ∈ A->indep ops x.2 y.2=true:=by
    intro x hx;have hp:=(List.pairwise_append.1 hleft.pw).2.2 x hx y (by simp);rcases Bool.or_eq_true_iff.1 hp.2 with he|he
    .exfalso
     obtain⟨_,e,he1,he2,hxl,hlt⟩:=hleft.reach (show x ∈ A++y::C by simp[hx]) 3 y.1 y.2.1 hyat.1 he;have hob:o=y.2.1:=by rw[hyat.1]at h3;exact(Option.some.inj h3).symm
     have hl:=h4 e (by rw[hob];exact he1) he2;have hxs:e.on<listed.size:=by rw[hls];exact hlt
     simp[hxs]at hl hxl;rw[hl]at hxl;cases hxl
    .exact he
   rw[List.map_append,List.map_cons]at hruns;obtain⟨⟨O,k1⟩,k2⟩:=hruns.front (fun x hx=>by
    obtain⟨z,hz,rfl⟩:=List.mem_map.1 hx;exact hind z hz)
   have hleft':Left ops (listed.setIfInBounds y.1 true) (A++C):=by
    have hne:∀ x,x ∈ A++C->x.1≠y.1:=by
     intro x hx;rcases List.mem_append.1 hx with hx|hx
     .have:=((List.pairwise_append.1 hleft.pw).2.2 x hx y (by simp)).1;omega
     .have:=((List.pairwise_cons.1 (List.pairwise_append.1 hleft.pw).2.1).1 x hx).1;omega
    have hsub:∀ x,x ∈ A++C->x ∈ A++y::C:=fun x hx=>by
     rcases List.mem_append.1 hx with hx|hx<;>simp[hx]
    refine⟨fun x hx=>?_,fun j hj hl=>?_,?_,fun x hx=>hleft.ed x (hsub x hx),fun x hx j z hz he=>?_⟩
    .obtain ⟨q1,q2⟩:=hleft.at_ x (hsub x hx)
     refine⟨q1,?_⟩;have hxs:x.1<listed.size:=by rw[hls];exact(Array.getElem?_eq_some_iff.1 q1).1
     simp[hxs]at q2 ⊢;rw[Array.getElem_setIfInBounds_ne _ (fun e=>hne x hx e.symm)];exact q2
    .have hjs:j<listed.size:=by omega
     by_cases hjy:j=y.1
     .subst hjy
      simp[hjs]at hl
     .have:listed.getD j true=false:=by
       simp[hjs]at hl ⊢;rw[Array.getElem_setIfInBounds_ne _ (fun e=>hjy e.symm)]at hl;exact hl
      obtain⟨x,hx,hxj⟩:=hleft.all j hj this;refine⟨x,?_,hxj⟩;rcases List.mem_append.1 hx with hx|hx
      .simp [hx]
      .rcases List.mem_cons.1 hx with hx|hx
       .subst hx;exact absurd hxj.symm hjy
       .simp [hx]
    .exact hleft.pw.sublist (List.Sublist.append (List.Sublist.refl A) (List.sublist_cons_self y C))
    .have q:=hleft.up x (hsub x hx) j z hz he
     have hjs:j<listed.size:=by rw[hls];exact(Array.getElem?_eq_some_iff.1 hz).1
     by_cases hjy:j=y.1
     .exfalso
      subst hjy;rw[hyat.1]at hz h3;cases hz;cases h3;unfold ny at he;obtain⟨e,he1,he2⟩:=List.any_eq_true.1 he;simp only[Bool.and_eq_true]at he2;have hl:=h4 e (by simpa using he1) he2.1;rw[beq_iff.1 he2.2]at hl;have hxl:=(hleft.at_ x (hsub x hx))
      have hxs:x.1<listed.size:=by rw[hls];exact(Array.getElem?_eq_some_iff.1 hxl.1).1
      have hxl:=hxl.2;simp[hxs]at hl hxl;rw[hl]at hxl;cases hxl
     .simp [hjs]at q ⊢
      rw[Array.getElem_setIfInBounds_ne _ (fun e=>hjy e.symm)];exact q
   unfold wpOp;rw[hyat.1];simp only;rcases wu hT g r k1 (ho y (by simp)) (wpAny P .any ops Q fuel (listed.setIfInBounds y.1 true)) Q (fun a' w' L' hr=>ih _ (A++C) _ a' w' L' (by simp at hlen ⊢;omega) (by simpa using hls) hleft' (fun x hx=>ho x (by
     rcases List.mem_append.1 hx with hx|hx<;>simp[hx])) (by rw[List.map_append];exact k2) hr)with⟨p1,p2⟩|⟨p1,p2⟩
   .rw [if_pos p1];exact .inl p2
   .rw [if_neg (by rw[p1];simp)];exact p2
theorem Dc{us:List (Oper×Out)}(hus:us.map (·.1)=ops.toList)(hp:nP ops 0 us=true) :
  ∃ R:List (Nat×Oper×Out),R.map (·.2)=us/\R.length=ops.size/\Left ops (Array.replicate ops.size false) R:=by
 have key:∀ (us:List (Oper×Out)) (k:Nat),nP ops k us=true->(∀ j x,us[j]? = some x->ops[k+j]? = some x.1) ->
   ∃ R:List (Nat×Oper×Out),R.map (·.2)=us/\(∀ j x,R[j]? = some x->x.1=k+j)/\(∀ x,x ∈ R->ops[x.1]? = some x.2.1)/\(R.Pairwise fun x y=>x.1<y.1/\(reach ops 3 y.2.1 x.1||indep ops x.2 y.2)=true) /\
    (∀ x,x ∈ R->∀ e,e ∈ x.2.1.after->Region.binds .any e=true->e.on<x.1):=by
  intro us
  induction us with
  | nil=>exact fun k _ _=>⟨[],rfl,fun j x h=>by simp at h,fun x h=>by simp at h,List.Pairwise.nil,fun x h=>by simp at h⟩
  | cons x us ih =>
   intro k hp hat
   simp only[nP,Bool.and_eq_true]at hp;obtain⟨R,r1,r2,r3,r4,r5⟩:=ih (k+1) hp.2 (fun j y hy=>by have:=hat (j+1) y (by simpa using hy);rwa[show k+(j+1)=k+1+j by omega]at this);have hge:∀ y,y ∈ R->k<y.1/\y.2 ∈ us:=by
    intro y hy;obtain⟨j,hj⟩:=List.mem_iff_getElem?.1 hy;have:=r2 j y hj;exact⟨by omega,by rw[<-r1];exact List.mem_map.2 ⟨y,hy,rfl⟩⟩
   refine⟨(k,x)::R,by simp[r1],fun j y hy=>?_,fun y hy=>?_,?_,fun y hy=>?_⟩
   .cases j with
    | zero=>simp at hy;subst hy;rfl
    | succ j=>have:=r2 j y (by simpa using hy);omega
   .rcases List.mem_cons.1 hy with hy|hy
    .subst hy;have:=hat 0 x rfl;simpa using this
    .exact r3 y hy
   .rw [List.pairwise_cons]
    refine⟨fun y hy=>⟨(hge y hy).1,?_⟩,r4⟩;exact List.all_eq_true.1 hp.1.2 y.2 (hge y hy).2
   .rcases List.mem_cons.1 hy with hy|hy
    .subst hy
     intro e he hb;have:=List.all_eq_true.1 hp.1.1 e (by simpa using he);simpa[hb]using this
    .exact r5 y hy
 obtain⟨R,r1,r2,r3,r4,r5⟩:=key us 0 hp (fun j x hx=>by
  rw[Nat.zero_add];have:=congrArg (·[j]?) hus;simp only[List.getElem?_map,hx,Option.map_some]at this;simpa using this.symm)
 have hlen:R.length=ops.size:=by
  have h1:=congrArg List.length r1;have h2:=congrArg List.length hus;simp at h1 h2;omega
 refine⟨R,r1,hlen,fun x hx=>⟨r3 x hx,?_⟩,fun i hi _=>?_,r4,r5,fun x hx j z hz _=>by have:=(Array.getElem?_eq_some_iff.1 hz).1;simp[this]⟩
 .have:=(Array.getElem?_eq_some_iff.1 (r3 x hx)).1
  simp[this]
 .have hi':i<R.length:=by omega
  exact⟨R[i],List.getElem_mem hi',by have:=r2 i R[i] (List.getElem?_eq_getElem hi');omega⟩
theorem Ra(hT:cD P T)(hm:P.follows .mixedOrders=true)(g:Gd P K w0 B){id:Nat}{draw:Bool}{aM:List Prop}{Q:Exit->Act->World->Prop}(h:wB P K T O ops draw σ=some (τ,aM))(ho:∀ q,q ∈ aM->q)
  (r:Rel w0 B σ a w L) (hq:∀ a' w' L',Rel w0 B τ a' w' L'->Q .normal a' w'):(Code.region id ops draw).wp P Q a w:=by
 unfold wB at h;split at h
 .rename_i us τ' h'
  split at h
  .rename_i hc
   simp only[Option.some.injEq,Prod.mk.injEq]at h;obtain⟨rfl,rfl⟩:=h;cases draw with
   | false=>exact wp_region_list (Lp hT g h' ho r hq)
   | true =>
    obtain⟨k1,k2⟩:=Ln h';obtain⟨R,r1,r2,r3⟩:=Dc k2 (by simpa using hc);refine wp_region_any hm (Ak hT g hq ops.size (Array.replicate ops.size false) R σ a w.drew L r2 (by simp) r3 (fun x hx q hq'=>ho q ?_) (by rw[r1];exact k1) r.drew);have hx':x.2 ∈ us:=by rw[<-r1];exact List.mem_map.2 ⟨x,hx,rfl⟩
    clear ho k1 k2 r1 h' hc
    induction us with
    | nil=>simp at hx'
    | cons y us ih =>
     simp only[pQ,List.mem_append];rcases List.mem_cons.1 hx' with e|e
     .subst e;exact .inl hq'
     .exact .inr (ih e)
  .cases h
 .cases h
end
open Go.RowKit
def PS.le(σ τ:PS):Prop:=∀ (w0:World) (B:Nat->Prop) (a:Act) (w:World) (L:Lk),(∀ b,B b->b<w0.heap.size)->Rel w0 B σ a w L->∃ L',Rel w0 B τ a w L'
theorem PS.le.refl(σ:PS):PS.le σ σ:=fun _ _ _ _ L _ r=>⟨L,r⟩
theorem PS.le.trans{σ τ υ:PS}(h:PS.le σ τ)(k:PS.le τ υ):PS.le σ υ:=fun w0 B a w L g r=>let⟨L',r'⟩:=h w0 B a w L g r;k w0 B a w L' g r'
theorem PV.le.refl(p:PV):PV.le p p:=fun _ _ _ _ _ h=>h
def Bx.le(a b:Bx):Prop:=(a.nl=true->b.nl=true)/\∀ (bs br:Nat->Prop) (L:Lk) (w:World) (id:Nat),gv bs br L w id a->gv bs br L w id b
theorem Bx.le.refl(a:Bx):Bx.le a a:=⟨id,fun _ _ _ _ _ h=>h⟩
def kg(σ:PS):List (Nat×PV)->Prop
 | []=>True
 | (k,p)::l=>PV.le (σ.get k) p/\kg σ l
def jK(σ:PS):List (Nat×Bx)->Prop
 | []=>True
 | (id,b)::l=>(∃ b',σ.bo id=some b'/\Bx.le b' b)/\jK σ l
def px(τ:PS):Bool:=τ.t.all fun x=>x.2.refs.all fun id=>(look τ.b id).isSome
theorem xp{α:Type}{l:List (Nat×α)}{t:Nat}{x:α}(h:look l t=some x):(t,x) ∈ l:=by
 induction l with
 | nil=>cases h
 | cons y l ih =>
  obtain⟨k,z⟩:=y;rw[iE]at h;split at h
  .rename_i e;cases h;subst e;exact .head _
  .exact .tail _ (ih h)
theorem kg.get{σ:PS}{l:List (Nat×PV)}(h:kg σ l){t:Nat}{p:PV}(k:look l t=some p):PV.le (σ.get t) p:=by
 induction l with
 | nil=>cases k
 | cons y l ih =>
  obtain⟨q,z⟩:=y;rw[iE]at k;split at k
  .rename_i e;cases k;subst e;exact h.1
  .exact ih h.2 k
theorem jK.get{σ:PS}{l:List (Nat×Bx)}(h:jK σ l){t:Nat}{b:Bx}(k:look l t=some b):∃ b',σ.bo t=some b'/\Bx.le b' b:=by
 induction l with
 | nil=>cases k
 | cons y l ih =>
  obtain⟨q,z⟩:=y;rw[iE]at k;split at k
  .rename_i e;cases k;subst e;exact h.1
  .exact ih h.2 k
theorem PS.le.eH{σ τ:PS}(hn:σ.n=τ.n)(hnl:τ.nl=σ.nl)(hr:px τ=true)(ht:kg σ τ.t)(hb:jK σ τ.b):PS.le σ τ:=fun w0 B a w L _ r=>by
 let L':Lk:=⟨fun id=>L.live id/\(τ.bo id).isSome=true,fun id x=>L.own id x/\(τ.bo id).isSome=true,L.val,L.aL⟩
 have hlt:gN L w L' w:=⟨Nat.le_refl _,fun x _ ⟨id,h,_⟩=>⟨id,h⟩,fun _ _ _=>rfl⟩
 refine⟨L',r.hd,by rw[<-hn];exact r.hs,fun t=>?_,fun id b h=>?_,fun id=>?_,fun id x h=>⟨r.hn id x h.1,h.2⟩,fun id x h=>r.hw id x h.1,fun id id' x h k=>r.hi id id' x h.1 k.1,r.he,fun h id b k=>?_⟩
 .have hg:τ.get t=((look τ.t t)).getD (.e .any):=rfl
  cases hl:look τ.t t with
  | none=>rw[hg,hl];exact .any _
  | some p =>
   rw[hg,hl];have:=ht.get hl _ _ _ _ _ (r.ht t);refine dI.move hlt this fun id hid hlive=>⟨⟨hlive,?_⟩,rfl,fun _=>rfl⟩
   have q:=List.all_eq_true.1 hr _ (xp hl);exact List.all_eq_true.1 q id hid
 .obtain ⟨b',h1,h2⟩:=hb.get h
  have hs:(τ.bo id).isSome=true:=by rw[h];rfl
  exact(h2.2 _ _ _ _ _ (r.hb id b' h1)).later hlt rfl (fun x=>⟨fun q=>q.1,fun q=>⟨q,hs⟩⟩) (fun _=>rfl) fun _ _=>rfl
 .show L.live id/\(τ.bo id).isSome=true↔(τ.bo id).isSome=true
  refine⟨fun h=>h.2,fun h=>⟨(r.hv id).2 ?_,h⟩⟩;obtain⟨b,hbo⟩:=Option.isSome_iff_exists.1 h;obtain⟨b',h1,_⟩:=hb.get hbo;rw[h1];rfl
 .obtain ⟨b',h1,h2⟩:=hb.get k
  exact h2.1 (r.hl (by rw[<-hnl];exact h) id b' h1)
def qd(σ:PS):List Nat->List (Nat×Bx)
 | []=>[]
 | i::l=>match σ.bo i with
  | some b=>(i,b)::qd σ l
  | none=>qd σ l
def PS.cut(ts bs:List Nat)(σ:PS):PS:={ n:=σ.n,nl:=σ.nl,t:=ts.map fun t=>(t,σ.get t),b:=qd σ bs }
theorem kg.cut(σ:PS):∀ ts:List Nat,kg σ (ts.map fun t=>(t,σ.get t))
 | []=>trivial
 | _::l=>⟨PV.le.refl _,kg.cut σ l⟩
theorem jK.cut(σ:PS):∀ bs:List Nat,jK σ (qd σ bs)
 | []=>trivial
 | i::l=>by
  unfold qd;split
  .rename_i b h
   exact⟨⟨b,h,Bx.le.refl b⟩,jK.cut σ l⟩
  .exact jK.cut σ l
theorem PS.le.cut{σ:PS}(ts bs:List Nat)(hr:px (σ.cut ts bs)=true):PS.le σ (σ.cut ts bs):=PS.le.eH rfl rfl hr (kg.cut σ ts) (jK.cut σ bs)
open Go.RowKit
def Ex.to:Ex->Exit
 | .normal=>.normal
 | .exit id=>.exit id
 | .ret=>.ret
def Sp(P:Program)(K:World->Prop)(c:Code)(σ:PS)(Q:Ex->PS->Prop):Prop :=
 ∀ (w0:World) (B:Nat->Prop) (a:Act) (w:World) (L:Lk),Gd P K w0 B->Rel w0 B σ a w L->c.wp P (fun e a' w'=>∃ ex τ L',e=ex.to/\Q ex τ/\Rel w0 B τ a' w' L') a w
theorem Sp.mono{P:Program}{K:World->Prop}{c:Code}{σ:PS}{Q Q':Ex->PS->Prop}(h:Sp P K c σ Q)(hq:∀ e τ,Q e τ->Q' e τ):Sp P K c σ Q' :=
 fun w0 B a w L g r=>Code.wp_mono (fun _ _ _ ⟨ex,τ,L',h1,h2,h3⟩=>⟨ex,τ,L',h1,hq _ _ h2,h3⟩) (h w0 B a w L g r)
abbrev Lo:=List (Nat×(Ex×PS×List Nat×List Nat))
def gR(P:Program)(K:World->Prop)(T:List TI)(O:eu)(lo:Lo):Code->PS->Option (Ex×PS×List Prop)
 | .skip,σ=>some (.normal,σ,[])
 | .region _ ops d,σ=>match wB P K T O ops d σ with
  | some (τ,aM)=>some (.normal,τ,aM)
  | none=>none
 | .seq a b,σ=>match gR P K T O lo a σ with
  | some (.normal,τ,aM)=>match gR P K T O lo b τ with
   | some (e,υ,obs')=>some (e,υ,aM++obs')
   | none=>none
  | r=>r
 | .cond c a b,σ=>match σ.op c with
  | .e (.v (.bool true))=>gR P K T O lo a σ
  | .e (.v (.bool false))=>gR P K T O lo b σ
  | _=>none
 | .block id b,σ=>match gR P K T O lo b σ with
  | some (.exit i,τ,aM)=>if Nat.beq i id then some (.normal,τ,aM)else some (.exit i,τ,aM)
  | r=>r
 | .exit id,σ=>some (.exit id,σ,[])
 | .ret,σ=>some (.ret,σ,[])
 | .loop b,σ=>match look lo (oW b)with
  | some (e,τ,ts,bs)=>if px (σ.cut ts bs)then some (e,τ,[Sp P K (.loop b) (σ.cut ts bs) (fun e' τ'=>e'=e/\τ'=τ)])else none
  | none=>none
 | _,_=>none
section
variable {P:Program} {K:World->Prop} {T:List TI} {O:eu} {lo:Lo}
theorem Ci(hT:cD P T)(hm:P.follows .mixedOrders=true){c:Code}{σ τ:PS}{e:Ex}{aM:List Prop}(h:gR P K T O lo c σ=some (e,τ,aM))(ho:∀ q,q ∈ aM->q) :
  Sp P K c σ (fun e' τ'=>e'=e/\τ'=τ):=by
 induction c generalizing σ τ e aM with
 | skip =>
  simp only[gR,Option.some.injEq,Prod.mk.injEq]at h;obtain⟨rfl,rfl,_⟩:=h;exact fun w0 B a w L g r=>wp_skip ⟨.normal,_,L,rfl,⟨rfl,rfl⟩,r⟩
 | region id ops d =>
  simp only[gR]at h;split at h
  .rename_i τ' obs' h'
   simp only[Option.some.injEq,Prod.mk.injEq]at h;obtain⟨rfl,rfl,rfl⟩:=h;exact fun w0 B a w L g r=>Ra hT hm g h' ho r fun a' w' L' hr=>⟨.normal,_,L',rfl,⟨rfl,rfl⟩,hr⟩
  .cases h
 | seq x y ihx ihy =>
  simp only[gR]at h;split at h
  .rename_i τ' obs' hx
   split at h
   .rename_i e2 υ obs2 hy
    simp only[Option.some.injEq,Prod.mk.injEq]at h;obtain⟨rfl,rfl,rfl⟩:=h;intro w0 B a w L g r;refine wp_seq (Code.wp_mono ?_ (ihx hx (fun q hq=>ho q (by simp[hq])) w0 B a w L g r));rintro ex a' w' ⟨e1,τ1,L',rfl,⟨rfl,rfl⟩,hr⟩;exact ihy hy (fun q hq=>ho q (by simp[hq])) w0 B a' w' L' g hr
   .cases h
  .rename_i hne
   intro w0 B a w L g r;refine wp_seq (Code.wp_mono ?_ (ihx h ho w0 B a w L g r));rintro ex a' w' ⟨e1,τ1,L',rfl,⟨rfl,rfl⟩,hr⟩;cases e1 with
   | normal=>exact absurd h (by intro h;exact hne _ _ h)
   | exit i=>exact⟨.exit i,τ1,L',rfl,⟨rfl,rfl⟩,hr⟩
   | ret=>exact⟨.ret,τ1,L',rfl,⟨rfl,rfl⟩,hr⟩
 | cond c x y ihx ihy =>
  simp only[gR]at h;split at h
  .rename_i hc
   intro w0 B a w L g r;have hv:=r.op c;rw[hc]at hv;exact wp_cond_true (ax.bQ hv) (ihx h ho w0 B a w L g r)
  .rename_i hc
   intro w0 B a w L g r;have hv:=r.op c;rw[hc]at hv;exact wp_cond_false (ax.bQ hv) (ihy h ho w0 B a w L g r)
  .cases h
 | block id b ih =>
  simp only[gR]at h;split at h
  .rename_i i τ' obs' hb
   intro w0 B a w L g r;split at h
   .rename_i hi
    have hi:=beq_iff.1 hi;subst hi;simp only[Option.some.injEq,Prod.mk.injEq]at h;obtain⟨rfl,rfl,rfl⟩:=h;refine wp_block (Code.wp_mono ?_ (ih hb ho w0 B a w L g r));rintro ex a' w' ⟨e1,τ1,L',rfl,⟨rfl,rfl⟩,hr⟩;show Exit.inBlock i _ (.exit i) a' w';simp only[Exit.inBlock,if_true];exact⟨.normal,_,L',rfl,⟨rfl,rfl⟩,hr⟩
   .rename_i hi
    have hi:i≠id:=fun e=>hi (beq_iff.2 e)
    simp only[Option.some.injEq,Prod.mk.injEq]at h;obtain⟨rfl,rfl,rfl⟩:=h;refine wp_block (Code.wp_mono ?_ (ih hb ho w0 B a w L g r));rintro ex a' w' ⟨e1,τ1,L',rfl,⟨rfl,rfl⟩,hr⟩;show Exit.inBlock id _ (.exit i) a' w';simp only[Exit.inBlock,hi,if_false];exact⟨.exit i,_,L',rfl,⟨rfl,rfl⟩,hr⟩
  .rename_i hne
   intro w0 B a w L g r;refine wp_block (Code.wp_mono ?_ (ih h ho w0 B a w L g r));rintro ex a' w' ⟨e1,τ1,L',rfl,⟨rfl,rfl⟩,hr⟩;cases e1 with
   | normal=>exact⟨.normal,_,L',rfl,⟨rfl,rfl⟩,hr⟩
   | exit i=>exact absurd h (by intro h;exact hne _ _ _ h)
   | ret=>exact⟨.ret,_,L',rfl,⟨rfl,rfl⟩,hr⟩
 | exit id =>
  simp only[gR,Option.some.injEq,Prod.mk.injEq]at h;obtain⟨rfl,rfl,_⟩:=h;exact fun w0 B a w L g r=>wp_exit ⟨.exit id,_,L,rfl,⟨rfl,rfl⟩,r⟩
 | ret =>
  simp only[gR,Option.some.injEq,Prod.mk.injEq]at h;obtain⟨rfl,rfl,_⟩:=h;exact fun w0 B a w L g r=>wp_ret ⟨.ret,_,L,rfl,⟨rfl,rfl⟩,r⟩
 | loop b ih =>
  simp only[gR]at h;split at h
  .rename_i e' τ' ts bs hl
   split at h
   .rename_i hr
    simp only[Option.some.injEq,Prod.mk.injEq]at h;obtain⟨rfl,rfl,rfl⟩:=h;intro w0 B a w L g r;obtain⟨L',r'⟩:=PS.le.cut ts bs hr w0 B a w L (fun b hb=>(g.hB b hb).1) r;have hs:=ho _ (List.mem_singleton.2 rfl);exact hs w0 B a w L' g r'
   .cases h
  .cases h
 | _=>cases h
theorem Sp.loop{b:Code}{Q:Ex->PS->Prop}(J:Nat->PS->Prop)(hstep:∀ n σ,J n σ->Sp P K b σ (fun e τ=>(e = .normal/\∃ m,m<n/\J m τ)\/(e ≠ .normal/\Q e τ))) :
  ∀ n σ,J n σ->Sp P K (.loop b) σ Q:=by
 intro n0 σ0 hJ0 w0 B a0 w1 L0 g r0 bf k cs;have key:∀ n σ a w L,J n σ->Rel w0 B σ a w L ->
   ∃ e a' w',(∃ ex τ L',e=ex.to/\Q ex τ/\Rel w0 B τ a' w' L')/\Arrives P (lone (bf.at a (.code b :: .inLoop b::k)) cs w) bf k cs e a' w':=by
  intro n
  induction n using Nat.strongRecOn with
  | _ n ih =>
   intro σ a w L hJ r;obtain⟨e,a₁,w₁,⟨ex,υ,L2,rfl,hq,hr2⟩,harr⟩:=hstep n σ hJ w0 B a w L g r bf (.inLoop b::k) cs;rcases hq with⟨rfl,m,hm,hJm⟩|⟨hne,hq⟩
   .obtain ⟨e₂,a₂,w₂,hq₂,harr₂⟩:=ih m hm υ a₁ w₁ L2 hJm hr2
    exact⟨e₂,a₂,w₂,hq₂,.of_steps (Steps.trans harr (.one step_inLoop)) harr₂⟩
   .cases ex with
    | normal=>exact absurd rfl hne
    | exit i=>exact⟨_,a₁,w₁,⟨.exit i,υ,L2,rfl,hq,hr2⟩,.pass (x:=.inLoop b) rfl (fun _ _=>.inl (by simp[Ex.to])) harr⟩
    | ret=>exact⟨_,a₁,w₁,⟨.ret,υ,L2,rfl,hq,hr2⟩,.pass (x:=.inLoop b) rfl (fun _ _=>.inl (by simp[Ex.to])) harr⟩
 obtain⟨e,a',w',hq,harr⟩:=key n0 σ0 a0 w1 L0 hJ0 r0;exact⟨e,a',w',hq,.of_steps (.one step_loop) harr⟩
theorem SV{w0:World}{B:Nat->Prop}{σ:PS}{a:Act}{w:World}{L:Lk}(hB:∀ b,B b->b<w0.heap.size)(r:Rel w0 B σ a w L){p:PV}{e:E}(h:uI σ p=some e){v:Value}(hv:dI (bad B L) (bu L) L w p v) :
  ax B (fun _=>True) w e v:=by
 have hbB:∀ id x,L.own id x->¬B x:=fun id x hx hb=>by have:=hB x hb;have:=(r.hw id x hx).1;omega
 have own:∀ (v:Value) (T:TypeId) (n sz:Nat) (f:Nat->Nat->Value) (nl:Bool) (el:Nat->Nat->E) (id:Nat),fl w v T n sz f nl->(∀ x,v.ownBlock=some x->L.own id x) ->
   (∀ i j,i<n->j<sz->ax (bad B L) (bu L) w (el i j) (f i j)/\(el i j).nr 2=true)->ax B (fun _=>True) w (.sl nl n sz el) v:=by
  intro v T n sz f nl el id h1 h2 h3;rcases h1 with⟨rfl,rfl⟩|⟨b,c,cur,rfl,hg,hnc,hcm,hcs,hcell,hnl⟩
  .exact .sl nl 0 sz el none 0 f (Nat.le_refl _) (by decide) (fun _=>rfl) (fun i j hi=>absurd hi (Nat.not_lt_zero i)) (fun i j hi=>absurd hi (Nat.not_lt_zero i)) (fun i j hi=>absurd hi (Nat.not_lt_zero i)) (fun i j hi=>absurd hi (Nat.not_lt_zero i))
  .have hob:=h2 b rfl
   refine .sl nl n sz el _ c f hnc (by unfold maxLen at hcm;omega) (fun h=>by cases h) (fun i j hi hj=>⟨(hcell i j hi hj).2,fun hn=>hnl hn _ (Array.mem_of_getElem? (hcell i j hi hj).1)⟩) (fun i j hi hj=>(h3 i j hi hj).2)
    (fun i j hi hj=>⟨b,0,rfl,hbB id b hob,(r.hw id b hob).2,?_⟩) (fun i j hi hj=>((h3 i j hi hj).1.gq (fun _ h=>.inl h) (fun _ h=>h)).nr 2 (h3 i j hi hj).2)
   rw[Nat.zero_add];simp only[World.cell?,hg];simpa using(hcell i j hi hj).1
 cases p with
 | e x =>
  simp only[uI]at h;split at h
  .rename_i hn
   cases h;exact(ax.gq (bs':=B) (br':=bu L) (fun _ h=>.inl h) (fun _ h=>h) hv).nr 3 hn
  .cases h
 | own id =>
  obtain⟨_,rfl⟩:=hv;simp only[uI]at h;split at h
  .rename_i nl T n sz el hbo
   cases h;obtain⟨f,h1,h2,h3⟩:=r.hb id _ hbo;exact own _ T n sz f nl el id h1 (fun x hx=>(h2 x).2 hx) h3
  .rename_i nl T1 T0 n sz len el hbo
   cases h;obtain⟨b,c,cur,f,h1,h2,h3,h4,h5,h6,h7,h8,h9,h10,h11⟩:=r.hb id _ hbo;have hob:L.own id b:=(h9 b).2 (.inl rfl);rw[h1];refine .sl true n 1 _ _ c (fun k _=>L.aL id k) h3 (by unfold maxLen at h4;omega) (fun h=>by cases h) (fun k j hk hj=>?_) (fun k j hk hj=>rfl)
    (fun k j hk hj=>⟨b,0,rfl,hbB id b hob,(r.hw id b hob).2,?_⟩) (fun k j hk hj=>own _ T0 (len k) sz (f k) nl (el k) id (h8 k hk).1 (fun x hx=>(h9 x).2 (.inr ⟨k,hk,hx⟩)) (h8 k hk).2)
   .obtain ⟨q1,q2⟩:=h7 _ (Array.mem_of_getElem? (h6 k hk (by simp)))
    exact⟨q1,fun _=>q2⟩
   .rw [Nat.zero_add,Nat.mul_one]
    obtain rfl:j=0:=by omega
    simp only[World.cell?,h2];simpa using h6 k hk (by simp)
  .cases h
 | _=>cases h
def nT(tmps:Array Value):ResultVar->Sem Value
 | .tmp t=>Pure.pure (tmps.getD t undef)
 | .cell q t=>do loadVar t (<-asAddr (tmps.getD q undef))
theorem yB(fn:Func)(tmps:Array Value):results fn tmps=(do
  let vs <-fn.results.mapM (nT tmps)
  Pure.pure (if h:vs.size=1 then vs[0]else .tuple vs)):=by
 unfold results;congr 1
theorem Rg{w0:World}{B:Nat->Prop}{σ:PS}{a:Act}{w:World}{L:Lk}(hT:cD P T)(hB:∀ b,B b->b<w0.heap.size)(r:Rel w0 B σ a w L){x:ResultVar}{e:E}(h:yA T σ x=some e) :
  ∃ v,(nT a.tmps x).run P w = .ok v w/\ax B (fun _=>True) w e v:=by
 cases x with
 | tmp t=>exact⟨_,rfl,SV hB r h (r.ht t)⟩
 | cell q t =>
  simp only[yA]at h;split at h
  .rename_i ti hti
   split at h
   .rename_i l is hrd
    obtain⟨b,of,vs,e1,h1,h2,h3⟩:=r.read (r.ht q) hrd (fun q hq=>by simp at hq);by_cases ha:ti.isAgg=true
    .rw [if_pos ha]at h
     split at h
     .rename_i hn
      cases h;refine⟨.agg vs.toArray,?_,(ax.gq (bs':=B) (br':=bu L) (fun _ h=>.inl h) (fun _ h=>h) h1.agg).nr 3 hn⟩;simp only[nT,e1,asAddr,Sem.run_bind,Sem.run_pure,Result.andThen_ok,Fy hT w hti ha b of vs h2 h3]
     .cases h
    .rw [if_neg ha]at h
     split at h
     .rename_i y
      split at h
      .rename_i hn
       cases h;obtain⟨z,zs,rfl,hz,_⟩:=h1.cK;refine⟨z,?_,(ax.gq (bs':=B) (br':=bu L) (fun _ h=>.inl h) (fun _ h=>h) hz).nr 3 hn⟩;simp only[nT,e1,asAddr,Sem.run_bind,Sem.run_pure,Result.andThen_ok,yK hT w hti (by simpa using ha) b of z (by simpa using h3 0 z rfl)]
      .cases h
     .cases h
   .cases h
  .cases h
theorem Re{w0:World}{B:Nat->Prop}{σ:PS}{a:Act}{w:World}{L:Lk}(hT:cD P T)(hB:∀ b,B b->b<w0.heap.size)(r:Rel w0 B σ a w L){l:List ResultVar}{es:List E}(h:pz T σ l=some es) :
  ∃ vs,(l.mapM (nT a.tmps)).run P w = .ok vs w/\bE B (fun _=>True) w es vs:=by
 induction l generalizing es with
 | nil=>simp only[pz,Option.some.injEq]at h;subst h;exact⟨[],rfl,.nil _ _ _⟩
 | cons x l ih =>
  simp only[pz]at h;split at h
  .rename_i e es' h1 h2
   cases h;obtain⟨v,q1,q2⟩:=Rg hT hB r h1;obtain⟨vs,p1,p2⟩:=ih h2;refine⟨v::vs,?_,.cons q2 p2⟩;rw[List.mapM_cons];simp only[Sem.run_bind,q1,Result.andThen_ok,p1,Sem.run_pure]
  .cases h
theorem Rf{w0:World}{B:Nat->Prop}{σ:PS}{a:Act}{w:World}{L:Lk}(hT:cD P T)(hB:∀ b,B b->b<w0.heap.size)(r:Rel w0 B σ a w L){fn:Func}{e:E}(h:rq T fn σ=some e) :
  ∃ v,(results fn a.tmps).run P w = .ok v w/\ax B (fun _=>True) w e v:=by
 unfold rq at h;have main:∀ es,pz T σ fn.results.toList=some es->∃ vs:List Value,(fn.results.mapM (nT a.tmps)).run P w = .ok vs.toArray w/\bE B (fun _=>True) w es vs:=by
  intro es hes;obtain⟨vs,h1,h2⟩:=Re hT hB r hes;refine⟨vs,?_,h2⟩;rw[Array.mapM_eq_mapM_toList];simp only[Sem.run_map,h1,Result.andThen_ok]
 split at h
 .rename_i y hy
  cases h;obtain⟨vs,h1,h2⟩:=main _ hy;obtain⟨v,vs',rfl,hv,hnil⟩:=h2.cK;have:=hnil.fB;subst this;refine⟨v,?_,hv⟩;rw[yB,Sem.run_bind,h1];simp
 .rename_i l hne hl
  cases h;obtain⟨vs,h1,h2⟩:=main _ hl;refine⟨.tuple vs.toArray,?_,h2.aq⟩;rw[yB,Sem.run_bind,h1];have hlen:¬vs.length=1:=by
   rw[h2.len];intro e1
   match l,e1 with
   | [y],_=>exact hne y rfl
  simp[hlen]
 .cases h
theorem Nz(args:List E):∀ (k t:Nat),look (qu k args) t=if k<=t then(args[t-k]?).map .e else none:=by
 induction args with
 | nil=>intro k t;simp[qu,look]
 | cons x l ih =>
  intro k t;simp only[qu];rw[iE,ih (k+1) t];by_cases h:k=t
  .subst h;simp
  .rw [if_neg h]
   by_cases h2:k<=t
   .rw [if_pos (by omega),if_pos h2,show t-k=(t-(k+1))+1 by omega]
    simp
   .rw [if_neg (by omega),if_neg h2]
theorem Rel.init{B:Nat->Prop}{w:World}{fn:Func}{args:List E}{vs:List Value}(hr:bE B (fun _=>False) w args vs)(hn:args.length<=fn.ntmps)(nl:Bool)(_hB:∀ b,B b->b<w.heap.size/\eo w b) :
  Rel w B (lg fn nl args) { tmps:=vs.toArray++Array.replicate (fn.ntmps-vs.toArray.size) undef,defers:=[] } w ⟨fun _=>False,fun _ _=>False,fun _=>undef,fun _ _=>undef⟩:=by
 have hlen:=hr.len;refine⟨rfl,by simp[lg];omega,fun t=>?_,fun id b hb=>(by cases hb),fun id=>⟨fun h=>h.elim,fun h=>(by cases h)⟩,fun _ _ h=>h.elim,fun _ _ h=>h.elim,fun _ _ _ h=>h.elim,Below.refl _ _,fun _ id b hb=>(by cases hb)⟩;have hg:(lg fn nl args).get t=((args[t]?).map PV.e).getD (.e .any):=by
  unfold PS.get lg;rw[Nz];simp
 rw[hg];by_cases ht:t<args.length
 .have ht':t<vs.length:=by omega
  rw[List.getElem?_eq_getElem ht];have hv:(vs.toArray++Array.replicate (fn.ntmps-vs.toArray.size) undef).getD t undef=vs[t]:=by
   simp[Array.getElem?_append,ht']
  show ax _ _ _ _ _;rw[hv];exact(hr.rep t _ _ (List.getElem?_eq_getElem ht) (List.getElem?_eq_getElem ht')).gq (fun b h=>h.elim id fun⟨_,h⟩=>h.elim) (fun _ ⟨_,h⟩=>h.elim)
 .rw [List.getElem?_eq_none (by omega)]
  exact .any _
theorem PC.tE(hT:cD P T)(hm:P.follows .mixedOrders=true)(hp:∀ w w',K w->Below w.heap.size w w'->K w'){f:FuncId}{fn:Func}{c:Code}{args:List E}{res:E}(hcall:∀ (vs:Array Value) (w:World),(callFunc f vs).run P w = .ok (.enter f vs) w)
  (hf:P.funcs[f]? = some fn) (hb:fn.body=some c) (hn:args.length<=fn.ntmps) (nl:Bool)
  (h:Sp P K c (lg fn nl args) (fun e τ=>(e = .ret\/e = .normal)/\∃ r,rq T fn τ=some r/\∀ (bs br:Nat->Prop) (w:World) (v:Value),ax bs br w r v->ax bs br w res v)):PC P K f args res:=by
 refine⟨hcall,fun w B vs hK hB hr=>calls_of_wp hf hb ?_⟩;have hr0:=Rel.init (fn:=fn) hr hn nl hB;refine Code.wp_mono ?_ (h w B _ w _ ⟨hK,hp,hB⟩ hr0);rintro e a' w' ⟨ex,τ,L',rfl,⟨he,r,hres,hle⟩,hr'⟩;obtain⟨v,h1,h2⟩:=Rf hT (fun b hb=>(hB b hb).1) hr' hres
 have hpost:a'.defers=[]/\∃ v,(results fn a'.tmps).run P w' = .ok v w'/\∃ v',Ending.returned v = .returned v'/\Below w.heap.size w w'/\ax B (fun _=>True) w' res v':=⟨hr'.hd,v,h1,v,rfl,hr'.he,hle _ _ _ _ h2⟩
 rcases he with rfl|rfl
 .exact hpost
 .exact hpost
theorem ji.tE(hT:cD P T)(hm:P.follows .mixedOrders=true)(hp:∀ w w',K w->Below w.heap.size w w'->K w'){f:FuncId}{fn:Func}{c:Code}{args:List E}(hcall:∀ (vs:Array Value) (w:World),(callFunc f vs).run P w = .ok (.enter f vs) w)
  (hf:P.funcs[f]? = some fn) (hb:fn.body=some c) (hn:args.length<=fn.ntmps) (nl:Bool) {nl':Bool} {T0:TypeId} {n sz:Nat} {el:Nat->Nat->E}
  (h:Sp P K c (lg fn nl args) (fun e τ=>(e = .ret\/e = .normal)/\∃ t id b,fn.results.toList=[.tmp t]/\τ.get t = .own id/\τ.bo id=some b/\∀ (bs br:Nat->Prop) (L:Lk) (w:World),gv bs br L w id b->gv bs br L w id (.row nl' T0 n sz el))):ji P K f args nl' T0 n sz el:=by
 refine⟨hcall,fun w B vs hK hB hr=>calls_of_wp hf hb ?_⟩;have hr0:=Rel.init (fn:=fn) hr hn nl hB;refine Code.wp_mono ?_ (h w B _ w _ ⟨hK,hp,hB⟩ hr0);rintro e a' w' ⟨ex,τ,L',rfl,⟨he,t,id,b,hres,hg,hbo,hle⟩,hr'⟩;have ho:=hr'.ht t;rw[hg]at ho;obtain⟨hlive,hv⟩:=ho;obtain⟨f0,h1,h2,h3⟩:=hle _ _ _ _ (hr'.hb id b hbo);have hrun:(results fn a'.tmps).run P w' = .ok (L'.val id) w':=by
  rw[yB,Sem.run_bind,Array.mapM_eq_mapM_toList,hres,Sem.run_map,List.mapM_cons];simp only[nT,Sem.run_bind,Sem.run_pure,Result.andThen_ok,List.mapM_nil,hv];simp
 have hpost:a'.defers=[]/\∃ v,(results fn a'.tmps).run P w' = .ok v w'/\∃ v',Ending.returned v = .returned v'/\Below w.heap.size w w'/\∃ g,fl w' v' T0 n sz g nl'/\(∀ x,v'.ownBlock=some x->w.heap.size<=x/\x<w'.heap.size) /\
   ∀ i j,i<n->j<sz->ax (fun b=>B b\/v'.ownBlock=some b) (fun _=>True) w' (el i j) (g i j)/\(el i j).nr 2=true:=by
  refine⟨hr'.hd,_,hrun,_,rfl,hr'.he,f0,h1,fun x hx=>hr'.hw id x ((h2 x).2 hx),fun i j hi hj=>⟨?_,(h3 i j hi hj).2⟩⟩;refine((h3 i j hi hj).1.gq (bs':=fun b=>B b\/(L'.val id).ownBlock=some b) (br':=bu L') (fun b hb=>?_) (fun _ h=>h)).nr 2 (h3 i j hi hj).2;rcases hb with hb|hb
  .exact .inl hb
  .exact .inr ⟨id,(h2 b).2 hb⟩
 rcases he with rfl|rfl
 .exact hpost
 .exact hpost
theorem PC.of(hT:cD P T)(hm:P.follows .mixedOrders=true)(hp:∀ w w',K w->Below w.heap.size w w'->K w'){f:FuncId}{fn:Func}{c:Code}{args:List E}{res:E}(hcall:∀ (vs:Array Value) (w:World),(callFunc f vs).run P w = .ok (.enter f vs) w)
  (hf:P.funcs[f]? = some fn) (hb:fn.body=some c) (hn:args.length<=fn.ntmps) (nl:Bool) (O:eu) (lo:Lo) {e:Ex} {τ:PS} {aM:List Prop}
  (h:gR P K T O lo c (lg fn nl args)=some (e,τ,aM)) (he:e = .ret\/e = .normal) (hres:rq T fn τ=some res) (ho:∀ q,q ∈ aM->q):PC P K f args res :=
 PC.tE hT hm hp hcall hf hb hn nl ((Ci hT hm h ho).mono fun e' τ' ⟨h1,h2⟩=>by subst h1 h2;exact⟨he,res,hres,fun _ _ _ _ h=>h⟩)
end
end Go.Proofs.YtdgnpeddgdclhaaGreatDoor.Pu
