/- Lemmas that the last file uses. -/
import Derived.Test.YtgdahmmlddfimaaGreatDoorM01
import Derived.Deep.DeepCutAuto
set_option linter.unusedSimpArgs false
set_option linter.unusedVariables false
set_option linter.defProp false
set_option maxHeartbeats 4000000
open Go.Proofs.Tryz
namespace Go.Proofs.YtgdahmmlddfimaaGreatDoor.Pu
open Go.RowKit
section
variable {P:Program} {K:World->Prop} {T:List TI} {O:q8} {σ τ:PS} {o:Oper} {u:kO}
def ajs{x:Operand}(h:∀ t,x = .tmp t->σ.get t=τ.get t):τ.op x=σ.op x:=by
 cases x with
 |tmp t=>exact(h t rfl).symm
 |_=>rfl
def akK{id off m:Nat}{l:List E}{is:List Nat}{jV:List Prop}(h:σ.read (.box id off) m=some (l,is,jV)):is=[id]:=by
 simp only[PS.read]at h;split at h
 .split at h
  .simp only[bM,bW]at h;exact h.2.1.symm
  .cases h
 .split at h
  .obtain ⟨es,GS,h⟩:=ch.1 h;simp only[bW]at h;exact h.2.1.symm
  .cases h
 .cases h
def ais{ti:TI}{l:List E}{is:List Nat}{jV:List Prop}(h:Cc ti (some (l,is,jV))=some u):u.rb=is:=by
 simp only[Cc]at h;split at h
 .cases h;rfl
 .split at h
  .cases h;rfl
  .cases h
def aeB{ti:TI}{bi bq:Option Bx}{id off q:Nat}(h:EJ ti bi bq id off q=some u):u.rb=[id,q]:=by
 unfold EJ at h;split at h
 .rename_i hM;cases h;unfold JR at hM;split at hM
  .split at hM
   .cases hM;rfl
   .cases hM
  .cases hM
 .unfold JQ at h;split at h
  .split at h
   .cases h;rfl
   .cases h
  .cases h
def akL{p:PV}{m:Nat}{l:List E}{is:List Nat}{jV:List Prop}(h:σ.read p m=some (l,is,jV))(hb:∀ id,id ∈ is->σ.bo id=τ.bo id):τ.read p m=some (l,is,jV):=by
 cases p with
 |box id off=>
  have h0:=h;simp only[PS.read]at h;split at h
  .split at h
   .simp only[bM,bW]at h;obtain⟨_,rfl,_⟩:=h;simp only[PS.read,<-hb id aH];exact h0
   .cases h
  .split at h
   .obtain ⟨es,GS,h⟩:=ch.1 h;simp only[bW]at h;obtain⟨_,rfl,_⟩:=h;simp only[PS.read,<-hb id aH];exact h0
   .cases h
  .cases h
 |nQ id sz i j=>
  have h0:=h;simp only[PS.read]at h;split at h
  .split at h
   .simp only[bM,bW]at h;obtain⟨_,rfl,_⟩:=h;simp only[PS.read,<-hb id aH];exact h0
   .cases h
  .cases h
 |rE id sz k i j=>
  have h0:=h;simp only[PS.read]at h;split at h
  .split at h
   .simp only[bM,bW]at h;obtain⟨_,rfl,_⟩:=h;simp only[PS.read,<-hb id aH];exact h0
   .cases h
  .cases h
 |e x=>cases x<;>exact h
 |_=>exact h
def adv{c:CV}{e:E}{is:List Nat}(h:c.ext σ=some (e,is))(hb:∀ id,id ∈ is->σ.bo id=τ.bo id):c.ext τ=some (e,is):=by
 cases c with
 |e x=>exact h
 |box id=>
  have h0:=h;simp only[CV.ext]at h;split at h
  .simp only[bM,bW]at h;obtain⟨_,rfl⟩:=h;simp only[CV.ext,<-hb id aH];exact h0
  .cases h
 |row id=>
  have h0:=h;simp only[CV.ext]at h;split at h
  .split at h
   .simp only[bM,bW]at h;obtain⟨_,rfl⟩:=h;simp only[CV.ext,<-hb id aH];exact h0
   .cases h
  .cases h
def TF{l:List CV}{es:List E}{is:List Nat}(h:wb σ l=some (es,is))(hb:∀ id,id ∈ is->σ.bo id=τ.bo id):wb τ l=some (es,is):=by
 induction l generalizing es is with
 |nil=>exact h
 |cons c l ih=>
  simp only[wb]at h;split at h
  .rename_i x i xs js h1 h2;simp only[bM,bW]at h;obtain⟨rfl,rfl⟩:=h;simp only[wb,adv h1 λid hi=>hb id (by simp[hi]),ih h2 λid hi=>hb id (by simp[hi])]
  .cases h
def ajW{p:PV}{e:E}{is:List Nat}(h:p.ext σ=some (e,is))(hb:∀ id,id ∈ is->σ.bo id=τ.bo id):p.ext τ=some (e,is):=by
 cases p with
 |e x=>exact h
 |box id off=>
  cases off with
  |succ=>exact h
  |zero=>
   have h0:=h;simp only[PV.ext]at h;split at h
   .simp only[bM,bW]at h;obtain⟨_,rfl⟩:=h;simp only[PV.ext,<-hb id aH];exact h0
   .cases h
 |ql f cap=>
  simp only[PV.ext]at h;split at h
  .rename_i xs js h1;simp only[bM,bW]at h;obtain⟨rfl,rfl⟩:=h;simp only[PV.ext,TF h1 hb]
  .cases h
 |own id=>
  have h0:=h;simp only[PV.ext]at h;split at h
  .simp only[bM,bW]at h;obtain⟨_,rfl⟩:=h;simp only[PV.ext,<-hb id aH];exact h0
  .simp only[bM,bW]at h;obtain⟨_,rfl⟩:=h;simp only[PV.ext,<-hb id aH];exact h0
  .cases h
 |iU id k=>
  have h0:=h;simp only[PV.ext]at h;split at h
  .split at h
   .simp only[bM,bW]at h;obtain⟨_,rfl⟩:=h;simp only[PV.ext,<-hb id aH];exact h0
   .cases h
  .cases h
 |_=>exact h
def RN{l:List Operand}{es:List E}{is:List Nat}(h:uX σ l=some (es,is))(hg:∀ x,x ∈ l->τ.op x=σ.op x)(hb:∀ id,id ∈ is->σ.bo id=τ.bo id):uX τ l=some (es,is):=by
 induction l generalizing es is with
 |nil=>exact h
 |cons c l ih=>
  simp only[uX]at h;split at h
  .rename_i x i xs js h1 h2;simp only[bM,bW]at h;obtain⟨rfl,rfl⟩:=h;simp only[uX,hg c aH,ajW h1 λid hi=>hb id (by simp[hi]),ih h2 (λx hx=>hg x (by simp[hx])) λid hi=>hb id (by simp[hi])]
  .cases h
def ahy{p:PV}{e:E}{is:List Nat}(h:p.ext σ=some (e,is))(hb:∀ id,id ∈ is->σ.bo id=τ.bo id):p.xz τ=p.xz σ:=by
 cases p with
 |own id=>
  have hid:σ.bo id=τ.bo id:=by
   simp only[PV.ext]at h;split at h
   .simp only[bM,bW]at h;obtain⟨_,rfl⟩:=h;exact hb id aH 
   .simp only[bM,bW]at h;obtain⟨_,rfl⟩:=h;exact hb id aH 
   .cases h
  simp only[PV.xz,hid]
 |_=>rfl
def RJ{l:List Operand}{es:List E}{is:List Nat}(h:uX σ l=some (es,is))(hg:∀ x,x ∈ l->τ.op x=σ.op x)(hb:∀ id,id ∈ is->σ.bo id=τ.bo id):(l.map τ.op).any (PV.xz τ)=(l.map σ.op).any (PV.xz σ):=by
 induction l generalizing es is with
 |nil=>rfl
 |cons c l ih=>
  simp only[uX]at h;split at h
  .rename_i x i xs js h1 h2;simp only[bM,bW]at h;obtain⟨rfl,rfl⟩:=h;simp only[e9,ej,hg c aH,ahy h1 λid hi=>hb id (by simp[hi]),ih h2 (λx hx=>hg x (by simp[hx])) λid hi=>hb id (by simp[hi])]
  .cases h
def TW{place:Nat->Option (Nat×Nat)}{ps:List (Nat×Operand)}(hg:∀ x,x ∈ ps.map (·.2)->τ.op x=σ.op x):∀ l,th τ place l ps=th σ place l ps:=by
 induction ps with
 |nil=>intro l;rfl
 |cons p ps ih=>
  intro l;obtain⟨i,x⟩:=p;simp only[th,hg x aH,ih λx hx=>hg x (by simp only[e9,dw];exact .inr hx)]
def Px{d:Option Tmp}{b:Bx}{rr:Nat->PV}{jV:List Prop}(h:AV σ d b rr jV=some u)(jZ:σ.nl=τ.nl)(hn:∀ id b,u.f = .new id b->τ.bo id=none):AV τ d b rr jV=some u:=by
 obtain⟨id,rfl,kZ,hc,rfl⟩:=HW h;rw[jZ]at hc;simp only[AV,hn id b rfl,hc,bN]
def Xz{d:Nat}{b:Bx}(h:σ.bo d=τ.bo d):vH τ d b=vH σ d b:=by unfold vH;rw[h]
def XB{d:Nat}{is:List Nat}(h:σ.bo d=τ.bo d):A0 τ d is=A0 σ d is:=by unfold A0;rw[h]
def XC{d:Nat}{b:Bx}{is:List Nat}{u:kO}(hf:u.f=vH σ d b)(hr:u.rb=A0 σ d is)(hb:∀ id,id ∈ u.rb->σ.bo id=τ.bo id)(hn:∀ id b,u.f = .new id b->τ.bo id=none):σ.bo d=τ.bo d:=by
 cases jD:σ.bo d with
 |none=>exact(hn d b (by rw[hf,vH,jD])).symm
 |some x=>rw[<-jD];exact hb d (by rw[hr,A0,jD];simp)
def W1{d:Option Tmp}{b:Bx}{rr:Nat->PV}(h:Cf σ d b rr=some u)(hb:∀ id,id ∈ u.rb->σ.bo id=τ.bo id)(jZ:σ.nl=τ.nl)(hn:∀ id b,u.f = .new id b->τ.bo id=none):Cf τ d b rr=some u:=by
 obtain⟨id,rfl,hc,rfl⟩:=KL h;have e:σ.bo id=τ.bo id:=XC (b:=b) (is:=[]) rfl rfl hb hn;rw[jZ]at hc;simp only[Cf,hc,bN,Xz e,XB e]
def TA{d:Option Tmp}{t:TypeId}{s x:PV}{u:kO}(h:BK T σ d t s x=some u)(hb:∀ id,id ∈ u.rb->σ.bo id=τ.bo id)(jZ:σ.nl=τ.nl)(hn:∀ id b,u.f = .new id b->τ.bo id=none):BK T τ d t s x=some u:=by
 simp only[BK]at h ⊢;split at h
 .split at h
  .split at h
   .split at h
    .split at h
     .split at h
      .rename_i hc;simp only[hc,bN];split at h
       .rename_i id;split at h
        .rename_i jD;split at h
         .rename_i pv;cases h;simp only[<-hb id aH,<-jZ,jD,pv,bN]
         .cases h
        .cases h
       .rename_i id k;split at h
        .rename_i jD;split at h
         .rename_i pv;cases h;simp only[<-hb id aH,jD,pv,bN]
         .cases h
        .cases h
       .exact Px h jZ hn
       .cases h
      .cases h
     .cases h
    .cases h
   .cases h
  .cases h
 .cases h
def aex{d:Option Tmp}{t:TypeId}{s x:PV}{u:kO}(h:C2 T σ d t s x=some u)(hb:∀ id,id ∈ u.rb->σ.bo id=τ.bo id)(jZ:σ.nl=τ.nl):C2 T τ d t s x=some u:=by
 unfold C2 at h ⊢;split at h
 .rename_i u0 h0;split at h
  .rename_i id nl T1 n sz el id' hf hr;split at h
   .rename_i hid;cases h;have:=TA (σ:={ σ with nl:=false }) (τ:={ τ with nl:=false }) h0 hb rfl λi b e=>by rw[hf]at e;cases e
    rw[this];simp only[hf,hr,hid,bN]
   .cases h
  .cases h
 .cases h
def aeC{d:Option Tmp}{t:TypeId}{n q:Nat}{u:kO}(h:C4 T σ d t n q=some u)(hb:∀ id,id ∈ u.rb->σ.bo id=τ.bo id):C4 T τ d t n q=some u:=by
 unfold C4 at h ⊢;split at h
 .rename_i id;have h0:=h;split at h
  .rename_i h1 h2 h3;split at h
   .rename_i hc;cases h;simp only[<-hb id aH,<-hb q aH];exact h0
   .cases h
  .cases h
 .cases h
def aez{d:Option Tmp}{t:TypeId}{s:PV}{q:Nat}{u:kO}(h:C3 T σ d t s q=some u)(hb:∀ id,id ∈ u.rb->σ.bo id=τ.bo id):C3 T τ d t s q=some u:=by
 unfold C3 at h ⊢;have h0:=h;split at h
 .rename_i h1 h2;split at h
  .rename_i id;split at h
   .rename_i h3;split at h
    .rename_i hc;cases h;simp only[<-hb id aH,<-hb q aH];exact h0
    .cases h
   .cases h
  .rename_i id;split at h
   .rename_i h3;split at h
    .rename_i hc;cases h;simp only[<-hb id aH,<-hb q aH];exact h0
    .cases h
   .cases h
  .cases h
 .cases h
def ajP{ps:List (Nat×Operand)}(hg:∀ x,x ∈ ps.map (·.2)->τ.op x=σ.op x):Cm τ ps=Cm σ ps:=by
 unfold Cm;split
 .rw [hg _ aH]
 .rfl
def aeD(h:jW P K T O σ o=some u)(hg:∀ x,x ∈ o.op.operands->τ.op x=σ.op x)(hb:∀ id,id ∈ u.rb->σ.bo id=τ.bo id)(jZ:σ.nl=τ.nl)(hn:∀ id b,u.f = .new id b->τ.bo id=none):
 jW P K T O τ o=some u:=by
 cases iJ:o.op with
 |move x=>rw[iJ]at hg;simp only[jW,iJ]at h ⊢;rw[hg x aQ];exact h
 |assign x=>rw[iJ]at hg;simp only[jW,iJ]at h ⊢;rw[hg x aQ];exact h
 |pick c x y=>rw[iJ]at hg;simp only[jW,iJ]at h ⊢;rw[hg c aQ,hg x aQ,hg y aQ];exact h
 |nilCheck x=>rw[iJ]at hg;simp only[jW,iJ]at h ⊢;rw[hg x aQ];exact h
 |binOp op t x y yt=>rw[iJ]at hg;simp only[jW,iJ]at h ⊢;rw[hg x aQ,hg y aQ];exact h
 |unOp op t x=>rw[iJ]at hg;simp only[jW,iJ]at h ⊢;rw[hg x aQ];exact h
 |convert s d x=>rw[iJ]at hg;simp only[jW,iJ]at h ⊢;rw[hg x aQ];exact h
 |index t x i=>rw[iJ]at hg;simp only[jW,iJ]at h ⊢;rw[hg x aQ,hg i aQ];exact h
 |extract x i=>rw[iJ]at hg;simp only[jW,iJ]at h ⊢;rw[hg x aQ];exact h
 |fieldAddr t x f=>rw[iJ]at hg;simp only[jW,iJ]at h ⊢;rw[hg x aQ];exact h
 |field t x f=>rw[iJ]at hg;simp only[jW,iJ]at h ⊢;rw[hg x aQ];exact h
 |lookup t x i ok=>
  rw[iJ]at hg;cases ok with
  |true=>simp[jW,iJ]at h
  |false=>simp only[jW,iJ]at h ⊢;rw[hg x aQ,hg i aQ];exact h
 |makeFunc fn first cap=>
  rw[iJ]at hg;cases fn with
  |func f=>
   simp only[jW,iJ]at h ⊢;have:cap.toList.map τ.op=cap.toList.map σ.op:=fu λx hx=>hg x (by simp only[Op.operands,fL];exact .inr (by simpa using hx))
   rw[this];exact h
  |_=>simp[jW,iJ]at h
 |slice t x lo hi mx=>
  rw[iJ]at hg;cases mx with
  |some=>simp[jW,iJ]at h
  |none=>
   simp only[jW,iJ]at h ⊢;have e1:lo.map τ.op=lo.map σ.op:=by cases lo with
    |none=>rfl
    |some y=>simp only[cM];rw[hg y aQ]
   have e2:hi.map τ.op=hi.map σ.op:=by cases hi with
    |none=>rfl
    |some y=>simp only[cM];rw[hg y aQ]
   rw[hg x aQ,e1,e2];exact h
 |alloc t=>
  simp only[jW,iJ]at h ⊢;split at h
  .split at h
   .exact W1 h hb jZ hn
   .cases h
  .cases h
 |box t x=>
  rw[iJ]at hg;simp only[jW,iJ]at h ⊢;rw[hg x aQ];split at h
  .split at h
   .exact W1 h hb jZ hn
   .cases h
  .cases h
 |build t ps=>
  rw[iJ]at hg;simp only[jW,iJ]at h ⊢;have hf:∀ place l,th τ place l ps.toList=th σ place l ps.toList:=λplace=>TW λx hx=>hg x (by simpa[Op.operands]using hx)
  simp only[hf];exact h
 |buildSlice t n ps=>
  rw[iJ]at hg;simp only[jW,iJ]at h ⊢;have hf:∀ place l,th τ place l ps.toList=th σ place l ps.toList:=λplace=>TW λx hx=>hg x (by simpa[Op.operands]using hx)
  have ho:Cm τ ps.toList=Cm σ ps.toList:=ajP λx hx=>hg x (by simpa[Op.operands]using hx)
  simp only[hf,ho];split at h
  .exact aeC h hb
  split at h
  .split at h
   .split at h
    .split at h
     .split at h
      .rename_i hif;rw[bB hif];obtain⟨l,hl,h⟩:=ia.1 h;refine ia.2 ⟨l,hl,?_⟩;split at h
       .cases h
       .rename_i h1;rw[bA h1];split at h
        .rename_i h2;rw[bB h2];exact Px h jZ hn
        .rename_i h2;rw[bA h2];exact h
      .cases h
     .cases h
    .cases h
   .cases h
  .cases h
 |load t x=>
  rw[iJ]at hg;simp only[jW,iJ,JL]at h ⊢;rw[hg x aQ];split at h
  .rename_i ti oQ;split at h
   .rename_i id q qh;have hid:σ.bo id=τ.bo id:=by
     split at h
     .cases h
     .cases h;exact hb id aH 
    have Ot:C8 τ (σ.op x)=some (id,q):=by
     cases hp:σ.op x with
     |box id' off=>
      rw[hp]at qh;have h0:=qh;simp only[C8]at qh;split at qh
      .obtain ⟨q',hq,qh⟩:=ch.1 qh;simp only[bW]at qh;obtain⟨rfl,rfl⟩:=qh;simp only[C8,<-hid];exact h0
      .cases qh
     |_=>rw[hp]at qh;cases qh
    simp only[Ot];exact h
   rename_i qh;have Ot:C8 τ (σ.op x)=none:=by
    cases hp:σ.op x with
    |box id off=>
     have hid:id ∈ u.rb:=by
      rw[hp]at h;have h':Cc ti (σ.read (.box id off) ti.i.size)=some u:=h;cases hr:σ.read (.box id off) ti.i.size with
      |none=>rw[hr]at h';cases h'
      |some y=>
       obtain⟨l,is,jV⟩:=y;rw[hr]at h';rw[ais h',akK hr];simp
     rw[hp]at qh;simp only[C8,<-hb id hid];exact qh
    |_=>rfl
   simp only[Ot];unfold JM at h ⊢;split at h
   .rename_i id i n qU;have ag8:D9 τ (σ.op x)=some (id,i,n):=by
     have hid:σ.bo id=τ.bo id:=by
      split at h
      .cases h
      .cases h;exact hb id aH 
     cases hp:σ.op x with
     |nQ id' sz i' j=>
      rw[hp]at qU;have h0:=qU;simp only[D9]at qU;split at qU
      .split at qU
       .simp only[bM,bW]at qU;obtain⟨rfl,_,_⟩:=qU;simp only[D9,<-hid];exact h0
       .cases qU
      .cases qU
     |_=>rw[hp]at qU;cases qU
    simp only[ag8];exact h
   .rename_i qU;have key:∀ is,(∃ l jV,σ.read (σ.op x) ti.i.size=some (l,is,jV))->(∀ id,id ∈ is->σ.bo id=τ.bo id)->D9 τ (σ.op x)=none:=by
     rintro is ⟨l,jV,hr⟩ ns;cases hp:σ.op x with
     |nQ id sz i j=>
      rw[hp]at hr qU;simp only[PS.read]at hr;split at hr
      .rename_i jD;split at hr
       .simp only[bM,bW]at hr;obtain⟨_,rfl,_⟩:=hr;simp only[D9,<-ns id aH,jD]
       .cases hr
      .cases hr
     |_=>rfl
    cases hr:σ.read (σ.op x) ti.i.size with
    |none=>rw[hr]at h;cases h
    |some y=>
     obtain⟨l,is,jV⟩:=y;have Ds:u.rb=is:=by
      rw[hr]at h;simp only[Cc]at h;split at h
      .cases h;rfl
      .split at h
       .cases h;rfl
       .cases h
     have ns:∀ id,id ∈ is->σ.bo id=τ.bo id:=λid hi=>hb id (by rw[Ds];exact hi)
     rw[key is ⟨l,jV,hr⟩ ns];simp only;rw[akL hr ns];rw[hr]at h;exact h
  .cases h
 |store t x y=>
  rw[iJ]at hg;simp only[jW,iJ,JP]at h ⊢;rw[hg x aQ,hg y aQ];split at h
  .split at h
   .rename_i id off e _ _;split at h
    .rename_i jD hm;split at h
     .rename_i hc;cases h;rw[jZ]at hc;simp only[<-hb id aH,jD,hm,hc,bN]
     .cases h
    .rename_i jD hm;split at h
     .rename_i hc;cases h;simp only[<-hb id aH,jD,hm,hc,bN]
     .cases h
    .cases h
   .rename_i id off q _ _;have e:=aeB h;rw[<-hb id (by rw[e];simp),<-hb q (by rw[e];simp)];exact h
   .rename_i id sz i j e _ _;split at h
    .rename_i jD hm;split at h
     .rename_i hc;cases h;simp only[<-hb id aH,jD,hm,hc,bN]
     .cases h
    .cases h
   .rename_i id i id' k _ _;split at h
    .rename_i jD;split at h
     .rename_i hc;cases h;simp only[<-hb id aH,jD,hc,bN]
     .cases h
    .cases h
   .cases h
  .cases h
 |makeSlice t l c=>
  rw[iJ]at hg;simp only[jW,iJ,JN]at h ⊢;rw[hg l aQ,hg c aQ];split at h
  .exact Px h jZ hn
  .cases h
 |indexAddr t x i=>
  rw[iJ]at hg;simp only[jW,iJ,JK]at h ⊢;rw[hg x aQ,hg i aQ];split at h
  .split at h
   .split at h
    .split at h
     .split at h
      .exact h
      .exact h
      .rename_i id _;split at h
       .rename_i jD;split at h
        .rename_i hc;cases h;simp only[<-hb id aH,jD,hc,bN]
        .cases h
       .rename_i jD;split at h
        .rename_i hc;cases h;simp only[<-hb id aH,jD,hc,bN]
        .cases h
       .cases h
      .rename_i id _ _;split at h
       .rename_i jD;split at h
        .rename_i hc;cases h;simp only[<-hb id aH,jD,hc,bN]
        .cases h
       .cases h
      .cases h
     .cases h
    .exact h
    .cases h
   .cases h
  .cases h
 |call c=>
  rw[iJ]at hg;obtain⟨callee,args,ats⟩:=c;have ha:∀ x,x ∈ args.toList->τ.op x=σ.op x:=λx hx=>hg x (by simp only[Op.operands,Call.operands,fL];exact .inr (by simpa using hx))
  have Va:args.toList.map τ.op=args.toList.map σ.op:=fu ha;cases callee with
  |builtin b=>
   simp only[jW,iJ]at h ⊢;cases b
   case len=>
    dsimp only at h ⊢;split at h
    .rename_i x t hx ht;split at h
     .obtain ⟨rr,hr,rfl⟩:=ch.1 h;rw[ha x (by rw[hx];simp)];have:tG (σ.op x) τ=some rr:=by
       cases hp:σ.op x with
       |own id=>
        rw[hp]at hr;have h0:=hr;simp only[tG]at hr;split at hr
        .simp only[bM]at hr;subst hr;simp only[tG,<-hb id aH];exact h0
        .simp only[bM]at hr;subst hr;simp only[tG,<-hb id aH];exact h0
        .cases hr
       |iU id k=>
        rw[hp]at hr;have h0:=hr;simp only[tG]at hr;split at hr
        .split at hr
         .simp only[bM]at hr;subst hr;simp only[tG,<-hb id aH];exact h0
         .cases hr
        .cases hr
       |e y=>
        rw[hp]at hr;cases y with
        |v z=>cases z<;>exact hr
        |_=>exact hr
       |_=>rw[hp]at hr;exact hr
      rw[this];rfl
     .cases h
    .cases h
   case append=>
    dsimp only at h ⊢;split at h
    .rename_i s x t t' hx ht;split at h
     .rename_i rB;simp only[rB,bN];rw[ha x (by rw[hx];simp),ha s (by rw[hx];simp)];have pV:Jj O o.dst=Jj O o.dst:=rfl;split at h
      .exact aez h hb
      split at h
      .rename_i Ob;simp only[Ob,bN];exact aex h hb jZ
      .rename_i Ob;simp only[Ob,bI,bR];exact TA h hb jZ hn
     .cases h
    .cases h
   case max=>dsimp only at h ⊢;rw[Va];exact h
   case min=>dsimp only at h ⊢;rw[Va];exact h
   all_goals cases h
  |value f=>
   have hf:τ.op f=σ.op f:=hg f (by simp[Op.operands,Call.operands]);simp only[jW,iJ]at h ⊢;rw[hf];have ec:∀ {gf:FuncId} {zs:List E} {is:List Nat} {ow:Bool},BL P K O σ o.dst gf zs is ow=some u->(∀ id,id ∈ is->id ∈ u.rb)/\BL P K O τ o.dst gf zs is ow=some u:=by
    intro gf zs is ow hh;simp only[BL]at hh ⊢;rw[jZ]at hh;split at hh
    .rename_i kt G9;refine⟨?_,hh⟩;split at hh
     .cases hh;exact λ_ h=>h
     .split at hh
      .cases hh;exact λ_ h=>h
      .split at hh
       .cases hh;exact λ_ h=>h
       .cases hh
    .split at hh
     .rename_i d hd;split at hh
      .rename_i nl T n sz el h1;split at hh
       .rename_i hc;cases hh;have e:=XC (σ:=σ) (τ:=τ) (b:=.row nl T n sz el) (is:=is) rfl rfl hb hn;refine⟨λid hid=>?_,?_⟩
        .unfold A0;split
         .exact hid
         .simp [hid]
        .simp only[hc,bN,Xz e,XB e]
       .cases hh
      .cases hh
     .cases hh
   split at h
   .rename_i gf cap xs is Dl qH;obtain⟨e1,e2⟩:=ec h;rw[RJ qH ha λid hi=>hb id (e1 id hi),RN qH ha λid hi=>hb id (e1 id hi),Dl];exact e2
   .rename_i gf cap xs is Dl qH;split at h
    .rename_i ys js Dx;obtain⟨e1,e2⟩:=ec h;rw[RJ qH ha λid hi=>hb id (e1 id (by simp[hi])),RN qH ha λid hi=>hb id (e1 id (by simp[hi])),Dl];simp only;rw[TF Dx λid hi=>hb id (e1 id (by simp[hi]))];exact e2
    .cases h
   .cases h
  |invoke _ _=>simp[jW,iJ]at h
 |_=>simp[jW,iJ]at h
end
def aiK{l:List Operand}{t:Tmp}(h:Operand.tmp t ∈ l):t ∈ FX l:=by
 induction l with
 |nil=>simp at h
 |cons x l ih=>
  rcases dw.1 h with h|h
  .subst h;simp[FX]
  .have:=ih h;cases x<;>simp[FX,this]
def agG{l:List Nat}{n:Nat}:Of l n=true↔n ∈ l:=by
 unfold Of;rw[ep];constructor
 .rintro ⟨x,hx,hb⟩;have:=lv.1 hb;subst this;exact hx
 .intro h;exact⟨n,h,cJ n⟩
def Fx{l:List Nat}{d:Option Nat}(h:yJ l d=true){x:Nat}(hx:d=some x):x ∉ l:=by
 subst hx;simp only[yJ,eB]at h;intro hm;rw[agG.2 hm]at h;cases h
def FZ{a b:Option Nat}(h:L4 a b=true){x y:Nat}(hx:a=some x)(hy:b=some y):x≠y:=by
 subst hx hy;simp only[L4,eB]at h;intro e;rw[lv.2 e]at h;cases h
def F1{f:mJ}(hf:f.yC=false)(p:PV):p.lH f=if AP f p then p else .e .any:=by
 cases f<;>first|(cases hf;done)|skip
 all_goals (cases p<;>simp only[PV.lH,AP,bN])
 all_goals (split<;>rename_i h<;>simp[h])
def Pk{f:mJ}(hf:f.yC=false){p:PV}(h:AP f p=true):p.lH f=p:=by rw[F1 hf,bB h]
def ahY(f:mJ):AP f (.e .any)=true:=by cases f<;>rfl
def aok(p:PV){f g:mJ}(hf:f.yC=false)(hg:g.yC=false):(p.lH f).lH g=(p.lH g).lH f:=by
 rw[F1 hf p,F1 hg p];cases h1:AP f p<;>cases h2:AP g p<;>simp only[bN,bR,bI,F1 hf,F1 hg,ahY,h1,h2]
structure tf(σ τ:PS):Prop where
 n:σ.n=τ.n
 nl:σ.nl=τ.nl
 get:∀ t,σ.get t=τ.get t
 bo:∀ id,σ.bo id=τ.bo id
def tf.refl(σ:PS):tf σ σ:=⟨rfl,rfl,λ_=>rfl,λ_=>rfl⟩
def tf.symm{σ τ:PS}(h:tf σ τ):tf τ σ:=⟨h.n.symm,h.nl.symm,λt=>(h.get t).symm,λi=>(h.bo i).symm⟩
def tf.trans{σ τ υ:PS}(h:tf σ τ)(k:tf τ υ):tf σ υ:=⟨h.n.trans k.n,h.nl.trans k.nl,λt=>(h.get t).trans (k.get t),λi=>(h.bo i).trans (k.bo i)⟩
def jx.rk{w0:World}{B:Nat->Prop}{σ τ:PS}{a:Act}{w:World}{L:Lk}(r:jx w0 B σ a w L)(h:tf σ τ):jx w0 B τ a w L:=
 ⟨r.hd,r.hs.trans h.n,λt=>by rw[<-h.get];exact r.ht t,λid b hb=>r.hb id b (by rw[h.bo];exact hb),λid=>by rw[<-h.bo];exact r.hv id,r.hn,r.hw,r.hi,r.he,λhn id b hb=>r.hl (by rw[h.nl];exact hn) id b (by rw[h.bo];exact hb)⟩
def Bz(σ:PS)(f:mJ)(id:Nat):(σ.oN f).bo id=match f with
 | .none=>σ.bo id
 | .new i b | .sy i b | .qg i b | .tH i b | .xK i b=>if i=id then some b else(σ.bo id).map (Bx.rF (PV.lH f))
 | .fin i=>if i=id then none else(σ.bo id).map (Bx.rF (PV.lH f))
 | .pj i r b=>if i=id then some b else if r=id then none else(σ.bo id).map (Bx.rF (PV.lH f)):=by
 have key:=PS.BA σ f id;cases f with
 |none=>rfl
 |fin i=>
  show look ((σ.pre (.fin i)).filter λx=>!Nat.beq x.1 i) id=_;rw[DN,key]
 |pj i r b=>
  show look (uW ((σ.pre (.pj i r b)).filter λx=>!Nat.beq x.1 r) i b) id=_;rw[DO,DN,key]
 |_=>exact(DO _ _ _ _).trans (by rw[key])
def aoj{f:mJ}{p:PV}(hv:f.wZ=true)(h:(p.lG.any λr=>f.AL.any λi=>Nat.beq i r)=false):p.lH f=p:=by
 cases f with
 |none=>cases hv
 |new=>cases hv
 |sy=>cases hv
 |qg i b=>exact aaE (by simpa[mJ.AL]using h)
 |tH i b=>
  have h':p.lG.any (Nat.beq i)=false:=by simpa[mJ.AL]using h
  cases p with
  |iU j k=>
   have:Nat.beq j i=false:=by
    simp only[PV.lG,ej,fz,ff]at h';exact df λe=>by rw[e,cJ]at h';cases h'
   simp[PV.lH,this]
  |rE j s k x y=>
   have:Nat.beq j i=false:=by
    simp only[PV.lG,ej,fz,ff]at h';exact df λe=>by rw[e,cJ]at h';cases h'
   simp[PV.lH,this]
  |_=>rfl
 |fin i=>
  have h':p.lG.any (Nat.beq i)=false:=by simpa[mJ.AL]using h
  cases p<;>(simp only[PV.lH];rw[h'];rfl)
 |xK i b=>
  have h':p.lG.any (Nat.beq i)=false:=by simpa[mJ.AL]using h
  cases p<;>(simp only[PV.lH];rw[h'];rfl)
 |pj i r b=>exact Rc (by simpa[mJ.AL]using h)
def agX{f:mJ}{b:Bx}(h:b.pJ f=false):b.rF (PV.lH f)=b:=by
 refine WY λp hp=>?_
 by_cases hv:f.wZ=true
 .refine aoj hv ?_;unfold Bx.pJ at h;rw[hv,di]at h;rw[dg]at h ⊢;intro r hr;exact h r (dt.2 ⟨p,hp,hr⟩)
 .exact aaG (by simpa using hv) p
def aiy{α:Type}{l:List (Nat×α)}{t:Nat}{x:α}(h:look l t=some x):(t,x) ∈ l:=by
 induction l with
 |nil=>cases h
 |cons y l ih=>
  obtain⟨k,z⟩:=y;rw[uc]at h;split at h
  .rename_i e;cases h;subst e;exact .head _
  .exact .tail _ (ih h)
def AA{σ:PS}{f:mJ}:σ.pJ f=false↔∀ id b,σ.bo id=some b->b.pJ f=false:=by
 unfold PS.pJ;by_cases hv:f.wZ=true
 .rw [hv,di];constructor
  .intro h id b hb;have:=dg.1 h (id,b) (aiy hb);simpa[hb]using this
  .intro h;rw[dg];intro x hx;split
   .rename_i b hb;rw[h _ _ hb];simp
   .simp
 .have Vt:f.wZ=false:=by simpa using hv
  rw[Vt,Bool.false_and];exact⟨λ_ id b _=>by unfold Bx.pJ;rw[Vt];rfl,λ_=>rfl⟩
def agW{σ τ:PS}(h:∀ id,σ.bo id=τ.bo id)(f:mJ):τ.pJ f=σ.pJ f:=by
 cases h1:σ.pJ f with
 |false=>exact AA.2 λid b hb=>AA.1 h1 id b (by rw[h];exact hb)
 |true=>
  cases h2:τ.pJ f with
  |true=>rfl
  |false=>rw[AA.2 λid b hb=>AA.1 h2 id b (by rw[<-h];exact hb)]at h1;cases h1
def GH(σ:PS)(d:Option Tmp)(u:kO)(t:Nat):(σ.app d u).get t=if d=some t then u.r else(σ.get t).lH u.f:=by
 unfold PS.app;cases d with
 |none=>
  rw[bA aH];exact PS.Db σ u.f t
 |some d=>
  rw[PS.NL,PS.Db];simp only[bM]
def By(σ:PS)(d:Option Tmp)(u:kO)(id:Nat):(σ.app d u).bo id=(σ.oN u.f).bo id:=PS.acr _ _ _ _
def Ic(σ:PS)(d:Option Tmp)(u:kO):(σ.app d u).n=σ.n:=by unfold PS.app;rw[PS.PF];rfl
def Ii(σ:PS)(d:Option Tmp)(u:kO):(σ.app d u).nl=σ.nl:=by unfold PS.app;rw[PS.ajg];rfl
def xd(σ:PS)(d:Option Tmp)(u:kO)(id:Nat)(hm:u.f.yC=false)(hh:σ.pJ u.f=false)(h:u.f.id≠some id):(σ.app d u).bo id=σ.bo id:=by
 have e:(σ.bo id).map (Bx.rF (PV.lH u.f))=σ.bo id:=by
  cases hb:σ.bo id with
  |none=>rfl
  |some b=>simp only[cM];rw[agX (AA.1 hh id b hb)]
 rw[By,Bz];cases hf:u.f<;>rw[hf]at h hm e<;>simp only[mJ.id,du,bM]at h<;>first|rfl|exact(bA h).trans e|cases hm
def PT{σ τ:PS}{f:mJ}(h:∀ id,f.id=some id->σ.bo id=τ.bo id):τ.yK f=σ.yK f:=by
 unfold PS.yK;split
 .rename_i i hi;rw[h i hi]
 .rfl
section
variable {P:Program} {K:World->Prop} {T:List TI} {O:q8} {ig:Array Oper} {σ τ:PS} {o:Oper} {u:kO}
def aeF(h:jW P K T O σ o=some u){x:Operand}(hx:x ∈ o.op.operands):x ∈ Io o.op:=by
 obtain⟨dst,op,ty,pos,after,guard⟩:=o;simp only at hx ⊢;cases op<;>first
  | (simp only[jW]at h;cases h;done)
  | (exfalso;simp[Op.operands]at hx;done)
  | (simpa[Op.operands,Io]using hx)
  | (simpa[Op.operands,Io,or_assoc]using hx)
  |skip
 case call c=>
  obtain⟨callee,args,ats⟩:=c;cases callee<;>simpa[Op.operands,Io,Call.operands]using hx
def Py{d:Option Tmp}{b:Bx}{rr:Nat->PV}{jV:List Prop}(h:AV σ d b rr jV=some u){id:Nat}{b':Bx}(hf:u.f = .new id b'):σ.bo id=none:=by
 obtain⟨i,_,kZ,_,rfl⟩:=HW h;cases hf;exact kZ
def XA{d:Nat}{b:Bx}{id:Nat}{b':Bx}(hf:vH σ d b = .new id b'):σ.bo id=none:=by
 unfold vH at hf;split at hf
 .rename_i h;cases hf;exact h
 .cases hf
def W2{d:Option Tmp}{b:Bx}{rr:Nat->PV}(h:Cf σ d b rr=some u){id:Nat}{b':Bx}(hf:u.f = .new id b'):σ.bo id=none:=by
 obtain⟨i,_,_,rfl⟩:=KL h;exact XA hf
def aeA{ti:TI}{bi bq:Option Bx}{i off q:Nat}(h:EJ ti bi bq i off q=some u)(id:Nat)(b:Bx):u.f ≠ .new id b:=by
 intro hf;unfold EJ at h;split at h
 .rename_i hM;cases h;unfold JR at hM;split at hM
  .split at hM
   .cases hM;cases hf
   .cases hM
  .cases hM
 .unfold JQ at h;split at h
  .split at h
   .cases h;cases hf
   .cases h
  .cases h
def aeE(h:jW P K T O σ o=some u){id:Nat}{b:Bx}(hf:u.f = .new id b):σ.bo id=none:=by
 cases iJ:o.op
 case alloc=>
  simp only[jW,iJ]at h;split at h
  .split at h
   .exact W2 h hf
   .cases h
  .cases h
 case box=>
  simp only[jW,iJ]at h;split at h
  .split at h
   .exact W2 h hf
   .cases h
  .cases h
 case makeSlice=>
  simp only[jW,iJ,JN]at h;split at h
  .exact Py h hf
  .cases h
 case makeFunc fn first cap=>
  cases fn with
  |func f=>
   simp only[jW,iJ]at h
   repeat' split at h
   all_goals first
    | (cases h;done)
    | (cases h;cases hf;done)
  |_=>simp[jW,iJ]at h
 case lookup t x i ok=>
  cases ok with
  |true=>simp[jW,iJ]at h
  |false=>
   simp only[jW,iJ]at h
   repeat' split at h
   all_goals first
    | (cases h;done)
    | (cases h;cases hf;done)
 case slice t x lo hi mx=>
  cases mx with
  |none=>
   simp only[jW,iJ,JO]at h
   repeat' split at h
   all_goals first
    | (cases h;done)
    | (cases h;cases hf;done)
  |some=>simp[jW,iJ]at h
 case call c=>
  obtain⟨callee,args,ats⟩:=c;cases callee with
  |builtin b=>
   simp only[jW,iJ]at h;cases b
   case append=>
    dsimp only at h;split at h
    .split at h
     .split at h
      .unfold C3 at h
       repeat' split at h
       all_goals first
        | (cases h;done)
        | (cases h;cases hf;done)
      split at h
      .unfold C2 at h;split at h
       .split at h
        .split at h
         .cases h;cases hf
         .cases h
        .cases h
       .cases h
      .simp only[BK]at h
       repeat' split at h
       all_goals first
        | (cases h;done)
        |exact Py h hf
        | (cases h;cases hf;done)
     .cases h
    .cases h
   all_goals
    dsimp only at h
    repeat' split at h
    all_goals first
     | (cases h;done)
     | (cases h;cases hf;done)
     | (obtain⟨_,_,rfl⟩:=ch.1 h;cases hf)
  |value f=>
   simp only[jW,iJ]at h
   repeat' split at h
   all_goals first
    | (cases h;done)
    | (simp only[BL]at h;repeat' split at h)
   all_goals first
    | (cases h;done)
    | (cases h;cases hf;done)
    | (cases h;cases hf;assumption)
    | (cases h;exact XA hf)
  |invoke _ _=>simp[jW,iJ]at h
 all_goals
  simp only[jW,iJ,JP,JK,JO,JL,JM,Cc,C4]at h
  repeat' split at h
  all_goals first
   |exact absurd hf (aeA h _ _)
   | (cases h;done)
   | (cases h;cases hf;done)
   | (obtain⟨_,_,rfl⟩:=ch.1 h;cases hf)
   |skip
 all_goals first
  | (obtain⟨_,_,h⟩:=ia.1 h;repeat' split at h)
  |skip
 all_goals first
  |exact Py h hf
  | (cases h;done)
  | (cases h;cases hf;done)
def Nv(h:wa P K T O σ o=some u):∃ u0,jW P K T O σ o=some u0/\u0.rb=u.rb/\u0.f=u.f:=by
 unfold wa at h;split at h
 .rename_i u0 h0;split at h
  .split at h
   .cases h;exact⟨u0,h0,rfl,rfl⟩
   .cases h;exact⟨_,h0,rfl,rfl⟩
  .cases h;exact⟨_,h0,rfl,rfl⟩
 .cases h
def aeH(h:wa P K T O σ o=some u)(hg:∀ x,x ∈ o.op.operands->τ.op x=σ.op x)(hb:∀ id,id ∈ u.rb->σ.bo id=τ.bo id)(jZ:σ.nl=τ.nl)(hn:∀ id b,u.f = .new id b->τ.bo id=none):
 wa P K T O τ o=some u:=by
 obtain⟨u0,h0,e1,e2⟩:=Nv h;have:=aeD (τ:=τ) h0 hg (by rw[e1];exact hb) jZ (by rw[e2];exact hn);unfold wa at h ⊢;rw[h0]at h;rw[this];exact h
def EK(h:sf P K T O ig σ o=some u):xy σ o.dst=true/\u.rd=(looks ig o).map σ.get/\((Bl ig σ o=some true/\∃ u0,wa P K T O σ o=some u0/\u={ u0 with rd:=(looks ig o).map σ.get,hb:=σ.pJ u0.f,ob:=σ.yK u0.f })\/(Bl ig σ o=some false/\u={ r:=.e (.v (.tuple #[])),rd:=(looks ig o).map σ.get })):=by
 unfold sf at h;split at h
 .rename_i hi;split at h
  .rename_i hw;split at h
   .rename_i u0 h0;cases h;exact⟨hi,rfl,.inl ⟨hw,u0,h0,rfl⟩⟩
   .cases h
  .rename_i hw;cases h;exact⟨hi,rfl,.inr ⟨hw,rfl⟩⟩
  .cases h
 .cases h
def Nt(h:sf P K T O ig σ o=some u)(hg:∀ t,t ∈ looks ig o->σ.get t=τ.get t)(hb:∀ id,id ∈ u.rb->σ.bo id=τ.bo id)(jZ:σ.nl=τ.nl)(lL:σ.n=τ.n)(hn:∀ id b,u.f = .new id b->τ.bo id=none)(hh:τ.pJ u.f=σ.pJ u.f)(ho:τ.yK u.f=σ.yK u.f):
 sf P K T O ig τ o=some u:=by
 obtain⟨hi,_,hw⟩:=EK h;have lI:xy τ o.dst=xy σ o.dst:=by cases o.dst<;>simp[xy,lL]
 have Vz:Bl ig τ o=Bl ig σ o:=by
  unfold Bl;cases qS:o.guard with
  |none=>rfl
  |some jw=>
   obtain⟨j,want⟩:=jw;cases hd:(ig[j]?).bind (·.dst)with
   |none=>simp[hd]
   |some t=>
    simp only[hd];rw[hg t (by unfold looks;rw[qS];simp[hd])]
 have OM:(looks ig o).map τ.get=(looks ig o).map σ.get:=fu λt ht=>(hg t ht).symm
 unfold sf;rw[lI,hi,Vz,OM];simp only[bN];rcases hw with⟨hw,u0,h0,rfl⟩|⟨hw,rfl⟩
 .rw [hw];have iJ:∀ x,x ∈ o.op.operands->τ.op x=σ.op x:=by
   intro x hx;obtain⟨u1,h1,_,_⟩:=Nv h0;have hm:=aeF h1 hx;refine ajs λt ht=>hg t ?_
   subst ht;unfold looks;exact List.mem_append_left _ (aiK hm)
  simp only[aeH h0 iJ hb jZ hn];simp only at hh ho;rw[hh,ho]
 .rw [hw]
def Nu(h:sf P K T O ig σ o=some u){id:Nat}{b:Bx}(hf:u.f = .new id b):σ.bo id=none:=by
 obtain⟨_,_,⟨_,u0,h0,rfl⟩|⟨_,rfl⟩⟩:=EK h
 .obtain ⟨u1,h1,_,e2⟩:=Nv h0;exact aeE h1 (by rw[e2];exact hf)
 .cases hf
def aeG(h:sf P K T O ig σ o=some u)(hs:tf σ τ):sf P K T O ig τ o=some u:=
 Nt h (λt _=>hs.get t) (λid _=>hs.bo id) hs.nl hs.n (λid b hf=>by rw[<-hs.bo];exact Nu h hf) (agW hs.bo _) (PT λid _=>hs.bo id)
def TC(h:sf P K T O ig σ o=some u):u.hb=σ.pJ u.f/\u.ob=σ.yK u.f:=by
 obtain⟨_,_,⟨_,u0,_,rfl⟩|⟨_,rfl⟩⟩:=EK h
 .exact ⟨rfl,rfl⟩
 .exact ⟨rfl,rfl⟩
def abv(hs:tf σ τ)(d:Option Tmp)(u:kO):tf (σ.app d u) (τ.app d u):=
 ⟨by rw[Ic,Ic];exact hs.n,by rw[Ii,Ii];exact hs.nl,λt=>by rw[GH,GH,hs.get],λid=>by rw[By,By,Bz,Bz,hs.bo]⟩
def ahg{f:mJ}(hm:f.yC=false)(r:Nat):(f.AL.any λi=>Nat.beq i r)=true↔f.id=some r:=by
 cases f<;>first|(cases hm;done)|simp[mJ.AL,mJ.id,lv]
def U3{f:mJ}(hm:f.yC=false){b:Bx}(h:∀ r,f.id=some r->r ∉ b.lG):b.pJ f=false:=by
 unfold Bx.pJ;rw[apP];right;rw[dg];intro r hr hi;exact h r ((ahg hm r).1 hi) hr
def agV{x y:mJ}{σ:PS}{d:Option Tmp}{u:kO}(hu:u.f=x)(m1:x.yC=false)(m2:y.yC=false)(hx:σ.pJ x=false)(hy:σ.pJ y=false)(hc:yJ x.M5 y.id=true):(σ.app d u).pJ y=false:=by
 subst hu;refine AA.2 λid b hb=>?_
 by_cases e:u.f.id=some id
 .refine U3 m2 λr hr hm=>?_
  have hn:=Fx hc hr;rw[By,Bz]at hb;cases hf:u.f<;>rw[hf]at e hb hn m1<;>simp only[mJ.id,bM]at e<;>first
   | (cases e;done)
   | (cases m1;done)
   | (subst e;simp only[bN,bM]at hb;subst hb;exact hn hm)
   | (subst e;simp at hb;done)
 .rw [xd _ _ _ _ m1 hx e]at hb;exact AA.1 hy id b hb
def ana{O':q8}{x y:Oper×kO}(hi:DA ig x y=true)(h1:sf P K T O ig σ x.1=some x.2)(h2:sf P K T O' ig (σ.app x.1.dst x.2) y.1=some y.2):
 sf P K T O' ig σ y.1=some y.2/\sf P K T O ig (σ.app y.1.dst y.2) x.1=some x.2/\tf ((σ.app x.1.dst x.2).app y.1.dst y.2) ((σ.app y.1.dst y.2).app x.1.dst x.2):=by
 simp only[DA,bQ]at hi;obtain⟨⟨⟨⟨⟨⟨⟨⟨⟨⟨⟨⟨⟨⟨⟨⟨⟨i1,i2⟩,i3⟩,i4⟩,i5⟩,i6⟩,i7⟩,i8⟩,i9⟩,i10⟩,m1⟩,m2⟩,v1⟩,v2⟩,o1⟩,o2⟩,c1⟩,c2⟩:=hi;simp only[eB]at m1 m2 v1 v2;obtain⟨_,rx,_⟩:=EK h1;obtain⟨_,ry,_⟩:=EK h2;obtain⟨fx1,fx2⟩:=TC h1;obtain⟨fy1,fy2⟩:=TC h2;have hx:σ.pJ x.2.f=false:=by rw[<-fx1];exact v1
 have rD:(σ.app x.1.dst x.2).pJ y.2.f=false:=by rw[<-fy1];exact v2
 have hy:σ.pJ y.2.f=false:=by
  refine AA.2 λid b hb=>?_
  by_cases e:x.2.f.id=some id
  .refine U3 m2 λr hr hm=>?_
   have:=Fx o1 hr;rw[fx2]at this;unfold PS.yK at this;rw[e]at this;simp only[hb]at this;exact this hm
  .exact AA.1 rD id b (by rw[xd _ _ _ _ m1 hx e];exact hb)
 have yB:(σ.app y.1.dst y.2).pJ x.2.f=false:=agV rfl m2 m1 hy hx c2;have r1:sf P K T O' ig σ y.1=some y.2:=by
  refine Nt h2 (λt ht=>?_) (λid hid=>xd _ _ _ _ m1 hx λe=>Fx i4 e hid) (Ii _ _ _) (Ic _ _ _) (λid b hf=>?_) (by rw[hy,rD]) (PT λid e=>xd _ _ _ _ m1 hx λe'=>FZ i6 e' e rfl)
  .have hg:(σ.app x.1.dst x.2).get t=(σ.get t).lH x.2.f:=by
    rw[GH,bA λe=>Fx i1 e ht]
   rw[hg];by_cases hv:x.2.f.wZ=true
   .have ru:PM ((σ.get t).lH x.2.f)=true:=by
     have h9:y.2.rd.all PM=true:=by simpa[hv]using i9
     rw[ry]at h9;exact bU.1 h9 _ (dz.2 ⟨t,ht,hg⟩)
    rw[F1 m1]at ru ⊢;split at ru
    .rename_i hk;rw[bB hk]
    .cases ru
   .cases hf:x.2.f<;>rw[hf]at hv<;>first|exact absurd rfl hv|(cases σ.get t<;>rfl)
  .have:=Nu h2 hf;rwa[xd _ _ _ _ m1 hx λe=>FZ i6 e (by rw[hf];rfl) rfl]at this
 refine⟨r1,?_,?_⟩
 .refine Nt h1 (λt ht=>?_) (λid hid=>(xd _ _ _ _ m2 hy λe=>Fx i5 e hid).symm) (Ii _ _ _).symm (Ic _ _ _).symm (λid b hf=>?_) (by rw[hx,yB]) (PT λid e=>(xd _ _ _ _ m2 hy λe'=>FZ i6 e e' rfl).symm)
  .rw [GH,bA λe=>Fx i3 e ht];rw[rx]at i10;exact(Pk m2 (bU.1 i10 _ (dz.2 ⟨t,ht,rfl⟩))).symm
  .rw [xd _ _ _ _ m2 hy λe=>FZ i6 (by rw[hf];rfl) e rfl];exact Nu h1 hf
 .refine ⟨by simp only[Ic],by simp only[Ii],λt=>?_,λid=>?_⟩
  .simp only[GH];by_cases hx:x.1.dst=some t
   .have hy:¬y.1.dst=some t:=λe=>FZ i2 hx e rfl
    rw[bA hy,bB hx,bB hx,Pk m2 i8]
   .by_cases hy:y.1.dst=some t
    .rw [bB hy,bA hx,bB hy,Pk m1 i7]
    .rw [bA hy,bA hx,bA hx,bA hy,aok _ m1 m2]
  .by_cases ex:x.2.f.id=some id
   .have ey:y.2.f.id≠some id:=λe=>FZ i6 ex e rfl
    rw[xd _ _ _ _ m2 rD ey,By,By,Bz,Bz,xd _ _ _ _ m2 hy ey]
   .rw [xd _ _ x.2 _ m1 yB ex];rw[By,By,Bz,Bz,xd _ _ _ _ m1 hx ex]
end
section
variable {P:Program} {K:World->Prop} {T:List TI} {O:q8} {ig:Array Oper}
def xQ(P:Program)(K:World->Prop)(T:List TI)(ig:Array Oper):List (Oper×kO)->PS->PS->Prop
 | [],σ,τ=>tf σ τ
 |x::l,σ,τ=>(∃ O,sf P K T O ig σ x.1=some x.2)/\xQ P K T ig l (σ.app x.1.dst x.2) τ
def xQ.rk{l:List (Oper×kO)}{σ σ2 τ:PS}(h:xQ P K T ig l σ τ)(hs:tf σ σ2):xQ P K T ig l σ2 τ:=by
 induction l generalizing σ σ2 with
 |nil=>exact hs.symm.trans h
 |cons x l ih=>exact⟨h.1.imp λ_ h=>aeG h hs,ih h.2 (abv hs _ _)⟩
def xQ.afA{A C:List (Oper×kO)}{y:Oper×kO}{σ τ:PS}(h:xQ P K T ig (A++y::C) σ τ)(hi:∀ x,x ∈ A->DA ig x y=true):
 (∃ O,sf P K T O ig σ y.1=some y.2)/\xQ P K T ig (A++C) (σ.app y.1.dst y.2) τ:=by
 induction A generalizing σ with
 |nil=>exact h
 |cons x A ih=>
  obtain⟨⟨O1,h1⟩,h2⟩:=h;obtain⟨⟨O2,k1⟩,k2⟩:=ih h2 λz hz=>hi z (by simp[hz])
  obtain⟨s1,s2,s3⟩:=ana (hi x aH) h1 k1;exact⟨⟨O2,s1⟩,⟨O1,s2⟩,k2.rk s3⟩
end
section
variable {P:Program} {K:World->Prop} {T:List TI} {O:q8} {w0:World} {B:Nat->Prop} {σ τ:PS} {o:Oper} {a:Act} {w:World} {L:Lk} {u:kO} {ig:Array Oper}
def aaL(r:jx w0 B σ a w L){b:Bool}(h:Bl ig σ o=some b):Region.wanted o (yielded ig a.tmps)=b:=by
 unfold Bl at h;unfold Region.wanted;split at h
 .rename_i hg;rw[hg];simpa using h
 .rename_i j want hg;rw[hg];simp only;split at h
  .rename_i t ht;have hv:=r.ht t;have key:∀ q:Bool,σ.get t = .e (.v (.bool q))->yielded ig a.tmps j=some q:=by
    intro q hq;rw[hq]at hv;have hv:=iQ.kX hv;unfold yielded;rw[ht];simp only[Option.bind_some];have iK:a.tmps[t]? = some (.bool q):=by
     by_cases hs:t<a.tmps.size
     .simpa [hs]using hv
     .simp [hs,undef]at hv
    rw[iK]
   split at h
   .rename_i hq;rw[key true hq];simp only[bM]at h;subst h;cases want<;>rfl
   .rename_i hq;rw[key false hq];simp only[bM]at h;subst h;cases want<;>rfl
   .rename_i q hq;rw[hq]at hv;have hv:=iQ.kX hv;have hn:yielded ig a.tmps j=none:=by
     unfold yielded;rw[ht];simp only[Option.bind_some];by_cases hs:t<a.tmps.size
     .rw [show a.tmps[t]? = some (.tuple q)by simpa[hs]using hv]
     .simp [hs]
    rw[hn];simp only[bM]at h;subst h;cases want<;>rfl
   .cases h
  .cases h
def TD(hT:mV P T)(g:Gd P K w0 B)(r:jx w0 B σ a w L)(h:sf P K T O ig σ o=some u)(ho:∀ q,q ∈ u.jV->q)(Kc:Act->World->Prop)(Q:Exit->Act->World->Prop)
 (hk:∀ a' w' L',jx w0 B (σ.app o.dst u) a' w' L'->Kc a' w'):
 (Region.wanted o (yielded ig a.tmps)=true/\o.wp P a w Kc Q)\/(Region.wanted o (yielded ig a.tmps)=false/\Kc (a.put o.dst undef) w):=by
 obtain⟨hi,_,⟨hw,u0,h0,rfl⟩|⟨hw,rfl⟩⟩:=EK h
 .refine .inl ⟨aaL r hw,aeI hT g r h0 ho Kc Q λv w' L' hr hp=>hk _ w' L' ?_⟩;have oc:xy (σ.oN u0.f) o.dst=true:=by cases hd:o.dst<;>rw[hd]at hi<;>exact hi
  exact hr.put o.dst u0.r v oc hp
 .exact .inr ⟨aaL r hw,hk _ w L (r.put o.dst (.e (.v (.tuple #[]))) undef hi (.v _))⟩
structure Left(ig:Array Oper)(listed:Array Bool)(R:List (Nat×Oper×kO)):Prop where
 mS:∀ x,x ∈ R->ig[x.1]? = some x.2.1/\listed.getD x.1 true=false
 all:∀ i,i<ig.size->listed.getD i true=false->∃ x,x ∈ R/\x.1=i
 pw:R.Pairwise λx y=>x.1<y.1/\(Cs ig 3 y.2.1 x.1||DA ig x.2 y.2)=true
 ed:∀ x,x ∈ R->∀ e,e ∈ x.2.1.after->Region.binds .any e=true->e.on<x.1
 up:∀ x,x ∈ R->∀ j z,ig[j]? = some z->DC z x.1=true->listed.getD j true=false
def Left.Cs{listed:Array Bool}{R:List (Nat×Oper×kO)}(h:Left ig listed R){x:Nat×Oper×kO}(hx:x ∈ R):∀ (n:Nat) (j:Nat) (z:Oper),ig[j]? = some z->Pu.Cs ig n z x.1=true ->
 listed.getD j true=false/\∃ e,e ∈ z.after/\Region.binds .any e=true/\listed.getD e.on true=false/\e.on<ig.size:=by
 have direct:∀ (j:Nat) (z:Oper),ig[j]? = some z->DC z x.1=true->listed.getD j true=false/\∃ e,e ∈ z.after/\Region.binds .any e=true/\listed.getD e.on true=false/\e.on<ig.size:=by
  intro j z hz he;refine⟨h.up x hx j z hz he,?_⟩;unfold DC at he;obtain⟨e,mP,lZ⟩:=ep.1 he;simp only[bQ]at lZ;have qR:=h.mS x hx;refine⟨e,by simpa using mP,lZ.1,?_,?_⟩
  .rw [lv.1 lZ.2];exact qR.2
  .rw [lv.1 lZ.2];exact(dr.1 qR.1).1
 intro n
 induction n with
 |zero=>exact direct
 |succ n ih=>
  intro j z hz hr;simp only[Pu.Cs,eo]at hr;rcases hr with hr|hr
  .exact direct j z hz hr
  .obtain ⟨e,mP,lZ⟩:=ep.1 hr;simp only[bQ]at lZ;obtain⟨lZ,Om⟩:=lZ;split at Om
   .rename_i z' zD;obtain⟨k1,_⟩:=ih e.on z' zD Om;have iK:=(dr.1 zD).1;obtain⟨x',yB,Fi⟩:=h.all e.on iK k1;refine⟨h.up x' yB j z hz ?_,e,by simpa using mP,lZ,k1,iK⟩;unfold DC;refine ep.2 ⟨e,mP,?_⟩;rw[lZ,Fi];simp
   .cases Om
def Qo{md:Region.Mode}{listed:Array Bool}{i:Nat}:i ∈ Region.ready md ig listed↔i<ig.size/\listed.getD i true=false/\∃ o,ig[i]? = some o/\∀ e,e ∈ o.after->Region.binds md e=true->listed.getD e.on false=true:=by
 unfold Region.ready;rw[List.mem_filter];simp only[b6,bQ,eB];constructor
 .rintro ⟨h1,h2,h3⟩;refine⟨h1,h2,ig[i],by simp[h1],λe he hb=>?_⟩;rw[Array.getElem?_eq_getElem h1]at h3;simp only[cM,apO,ap7]at h3;have:=h3 e he;simpa[hb]using this
 .rintro ⟨h1,h2,o,h3,h4⟩;refine⟨h1,h2,?_⟩;rw[h3];simp only[cM,apO,ap7];intro e he;cases hb:Region.binds md e with
  |false=>rfl
  |true=>simpa using h4 e he hb
def abq(hT:mV P T)(g:Gd P K w0 B){Q:Exit->Act->World->Prop}(hq:∀ a' w' L',jx w0 B τ a' w' L'->Q .normal a' w'):
 ∀ (fuel:Nat) (listed:Array Bool) (R:List (Nat×Oper×kO)) (σ:PS) (a:Act) (w:World) (L:Lk),R.length=fuel->listed.size=ig.size->Left ig listed R->(∀ x,x ∈ R->∀ q,q ∈ x.2.2.jV->q) ->
  xQ P K T ig (R.map (·.2)) σ τ->jx w0 B σ a w L->wpAny P .any ig Q fuel listed a w:=by
 intro fuel
 induction fuel with
 |zero=>
  intro listed R σ a w L hlen E4 hleft ho Kv r;have hR:=dH hlen;subst hR;refine⟨?_,hq a w L (r.rk Kv)⟩;apply List.eq_nil_iff_forall_not_mem.2;intro i hi;obtain⟨h1,h2,_⟩:=Qo.1 hi;obtain⟨x,hx,_⟩:=hleft.all i h1 h2;simp at hx
 |succ fuel ih=>
  intro listed R σ a w L hlen E4 hleft ho Kv r;refine⟨λDj=>?_,λi hi=>?_⟩
  .
   exfalso;cases R with
   |nil=>simp at hlen
   |cons x R=>
    have hx:=hleft.mS x aH;have iK:x.1<ig.size:=(dr.1 hx.1).1;have:x.1 ∈ Region.ready .any ig listed:=Qo.2 ⟨iK,hx.2,x.2.1,hx.1,λe he hb=>by
     have Fa:=hleft.ed x aH e he hb;cases hl:listed.getD e.on true with
     |true=>
      have:e.on<listed.size:= aC ;simp[this]at hl ⊢;exact hl
     |false=>
      exfalso;obtain⟨y,hy,Fj⟩:=hleft.all e.on aC hl;rcases dw.1 hy with hy|hy
      .subst hy;omega
      .have:=(apQ.1 hleft.pw).1 y hy;omega⟩
    rw[Dj]at this;simp at this
  .obtain ⟨h1,h2,o,h3,h4⟩:=Qo.1 hi;obtain⟨y,hy,hyi⟩:=hleft.all i h1 h2;subst hyi;obtain⟨A,C,rfl⟩:=List.append_of_mem hy;have KC:=hleft.mS y hy;have agU:∀ x,x ∈ A->DA ig x.2 y.2=true:=by
    intro x hx;have hp:=(apR.1 hleft.pw).2.2 x hx y aH;rcases Bool.or_eq_true_iff.1 hp.2 with he|he
    .exfalso;obtain⟨_,e,mP,lZ,jG,iK⟩:=hleft.Cs (show x ∈ A++y::C by simp[hx]) 3 y.1 y.2.1 KC.1 he;have tN:o=y.2.1:=by rw[KC.1]at h3;exact(apS h3).symm
     have hl:=h4 e (by rw[tN];exact mP) lZ;have qH:e.on<listed.size:=by rw[E4];exact iK
     simp[qH]at hl jG;rw[hl]at jG;cases jG
    .exact he
   rw[gU,e9]at Kv;obtain⟨⟨O,k1⟩,k2⟩:=Kv.afA (λx hx=>by
    obtain⟨z,hz,rfl⟩:=dz.1 hx;exact agU z hz)
   have agY:Left ig (listed.setIfInBounds y.1 true) (A++C):=by
    have kB:∀ x,x ∈ A++C->x.1≠y.1:=by
     intro x hx;rcases dK.1 hx with hx|hx
     .have:=((apR.1 hleft.pw).2.2 x hx y aH).1;omega
     .have:=((apQ.1 (apR.1 hleft.pw).2.1).1 x hx).1;omega
    have B5:∀ x,x ∈ A++C->x ∈ A++y::C:=λx hx=>by
     rcases dK.1 hx with hx|hx<;>simp[hx]
    refine⟨λx hx=>?_,λj hj hl=>?_,?_,λx hx=>hleft.ed x (B5 x hx),λx hx j z hz he=>?_⟩
    .obtain ⟨q1,q2⟩:=hleft.mS x (B5 x hx);refine⟨q1,?_⟩;have qH:x.1<listed.size:=by rw[E4];exact(dr.1 q1).1
     simp[qH]at q2 ⊢;rw[apT _ (λe=>kB x hx e.symm)];exact q2
    .have Kh:j<listed.size:= aC ;by_cases EZ:j=y.1
     .subst EZ;simp[Kh]at hl
     .have:listed.getD j true=false:=by
       simp[Kh]at hl ⊢;rw[apT _ (λe=>EZ e.symm)]at hl;exact hl
      obtain⟨x,hx,VA⟩:=hleft.all j hj this;refine⟨x,?_,VA⟩;rcases dK.1 hx with hx|hx
      .simp [hx]
      .rcases dw.1 hx with hx|hx
       .subst hx;exact absurd VA.symm EZ
       .simp [hx]
    .exact hleft.pw.sublist (List.Sublist.append (List.Sublist.refl A) (List.sublist_cons_self y C))
    .have q:=hleft.up x (B5 x hx) j z hz he;have Kh:j<listed.size:=by rw[E4];exact(dr.1 hz).1
     by_cases EZ:j=y.1
     .exfalso;subst EZ;rw[KC.1]at hz h3;cases hz;cases h3;unfold DC at he;obtain⟨e,mP,lZ⟩:=ep.1 he;simp only[bQ]at lZ;have hl:=h4 e (by simpa using mP) lZ.1;rw[lv.1 lZ.2]at hl;have jG:=(hleft.mS x (B5 x hx))
      have qH:x.1<listed.size:=by rw[E4];exact(dr.1 jG.1).1
      have jG:=jG.2;simp[qH]at hl jG;rw[hl]at jG;cases jG
     .simp [Kh]at q ⊢;rw[apT _ (λe=>EZ e.symm)];exact q
   unfold wpOp;rw[KC.1];simp only;rcases TD hT g r k1 (ho y aH) (wpAny P .any ig Q fuel (listed.setIfInBounds y.1 true)) Q (λa' w' L' hr=>ih _ (A++C) _ a' w' L' (by simp at hlen ⊢;omega) (by simpa using E4) agY (λx hx=>ho x (by
    rcases dK.1 hx with hx|hx<;>simp[hx])) (by rw[gU];exact k2) hr)with⟨p1,p2⟩|⟨p1,p2⟩
   .rw [bB p1];exact .inl p2
   .rw [bA (by rw[p1];simp)];exact p2
def ah5{us:List (Oper×kO)}(AI:us.map (·.1)=ig.toList)(hp:FC ig 0 us=true):
 ∃ R:List (Nat×Oper×kO),R.map (·.2)=us/\R.length=ig.size/\Left ig (Array.replicate ig.size false) R:=by
 have key:∀ (us:List (Oper×kO)) (k:Nat),FC ig k us=true->(∀ j x,us[j]? = some x->ig[k+j]? = some x.1) ->
  ∃ R:List (Nat×Oper×kO),R.map (·.2)=us/\(∀ j x,R[j]? = some x->x.1=k+j)/\(∀ x,x ∈ R->ig[x.1]? = some x.2.1)/\(R.Pairwise λx y=>x.1<y.1/\(Cs ig 3 y.2.1 x.1||DA ig x.2 y.2)=true) /\
   (∀ x,x ∈ R->∀ e,e ∈ x.2.1.after->Region.binds .any e=true->e.on<x.1):=by
  intro us
  induction us with
  |nil=>exact λk _ _=>⟨[],rfl,λj x h=>by simp at h,λx h=>by simp at h,List.Pairwise.nil,λx h=>by simp at h⟩
  |cons x us ih=>
   intro k hp qR;simp only[FC,bQ]at hp;obtain⟨R,r1,r2,r3,r4,r5⟩:=ih (k+1) hp.2 (λj y hy=>by have:=qR (j+1) y (by simpa using hy);rwa[(aC:k+(j+1)=k+1+j)]at this);have tJ:∀ y,y ∈ R->k<y.1/\y.2 ∈ us:=by
    intro y hy;obtain⟨j,hj⟩:=dI.1 hy;have:=r2 j y hj;exact⟨aC,by rw[<-r1];exact dz.2 ⟨y,hy,rfl⟩⟩
   refine⟨(k,x)::R,by simp[r1],λj y hy=>?_,λy hy=>?_,?_,λy hy=>?_⟩
   .cases j with
    |zero=>simp at hy;subst hy;rfl
    |succ j=>have:=r2 j y (by simpa using hy);omega
   .rcases dw.1 hy with hy|hy
    .subst hy;have:=qR 0 x rfl;simpa using this
    .exact r3 y hy
   .rw [apQ];refine⟨λy hy=>⟨(tJ y hy).1,?_⟩,r4⟩;exact bU.1 hp.1.2 y.2 (tJ y hy).2
   .rcases dw.1 hy with hy|hy
    .subst hy;intro e he hb;have:=bU.1 hp.1.1 e (by simpa using he);simpa[hb]using this
    .exact r5 y hy
 obtain⟨R,r1,r2,r3,r4,r5⟩:=key us 0 hp (λj x hx=>by
  rw[cD];have:=congrArg (·[j]?) AI;simp only[cG,hx,cM]at this;simpa using this.symm)
 have hlen:R.length=ig.size:=by
  have h1:=congrArg List.length r1;have h2:=congrArg List.length AI;simp at h1 h2;omega
 refine⟨R,r1,hlen,λx hx=>⟨r3 x hx,?_⟩,λi hi _=>?_,r4,r5,λx hx j z hz _=>by have:=(dr.1 hz).1;simp[this]⟩
 .have:=(dr.1 (r3 x hx)).1;simp[this]
 .have oc:i<R.length:= aC ;exact⟨R[i],cK oc,by have:=r2 i R[i] (bJ oc);omega⟩
end
def PS.le(σ τ:PS):Prop:=∀ (w0:World) (B:Nat->Prop) (a:Act) (w:World) (L:Lk),(∀ b,B b->b<w0.heap.size)->jx w0 B σ a w L->∃ L',jx w0 B τ a w L'
def PS.le.refl(σ:PS):PS.le σ σ:=λ_ _ _ _ L _ r=>⟨L,r⟩
def PS.le.trans{σ τ υ:PS}(h:PS.le σ τ)(k:PS.le τ υ):PS.le σ υ:=λw0 B a w L g r=>let⟨L',r'⟩:=h w0 B a w L g r;k w0 B a w L' g r'
def PV.le.refl(p:PV):PV.le p p:=λ_ _ _ _ _ h=>h
def Bx.le(a b:Bx):Prop:=(a.nl=true->b.nl=true)/\∀ (bs br:Nat->Prop) (L:Lk) (w:World) (id:Nat),nW bs br L w id a->nW bs br L w id b
def Bx.le.refl(a:Bx):Bx.le a a:=⟨id,λ_ _ _ _ _ h=>h⟩
def yU(σ:PS):List (Nat×PV)->Prop
 | []=>True
 | (k,p)::l=>PV.le (σ.get k) p/\yU σ l
def xO(σ:PS):List (Nat×Bx)->Prop
 | []=>True
 | (id,b)::l=>(∃ b',σ.bo id=some b'/\Bx.le b' b)/\xO σ l
def IC(τ:PS):Bool:=(τ.t.all λx=>x.2.lG.all λid=>(look τ.b id).isSome)&&(τ.b.all λx=>x.2.lG.all λid=>(look τ.b id).isSome)
def Hv{α:Type}{l:List (Nat×α)}{t:Nat}{x:α}(h:look l t=some x):(t,x) ∈ l:=by
 induction l with
 |nil=>cases h
 |cons y l ih=>
  obtain⟨k,z⟩:=y;rw[uc]at h;split at h
  .rename_i e;cases h;subst e;exact .head _
  .exact .tail _ (ih h)
def yU.get{σ:PS}{l:List (Nat×PV)}(h:yU σ l){t:Nat}{p:PV}(k:look l t=some p):PV.le (σ.get t) p:=by
 induction l with
 |nil=>cases k
 |cons y l ih=>
  obtain⟨q,z⟩:=y;rw[uc]at k;split at k
  .rename_i e;cases k;subst e;exact h.1
  .exact ih h.2 k
def xO.get{σ:PS}{l:List (Nat×Bx)}(h:xO σ l){t:Nat}{b:Bx}(k:look l t=some b):∃ b',σ.bo t=some b'/\Bx.le b' b:=by
 induction l with
 |nil=>cases k
 |cons y l ih=>
  obtain⟨q,z⟩:=y;rw[uc]at k;split at k
  .rename_i e;cases k;subst e;exact h.1
  .exact ih h.2 k
def PS.le.pO{σ τ:PS}(hn:σ.n=τ.n)(jZ:τ.nl=σ.nl)(hr:IC τ=true)(ht:yU σ τ.t)(hb:xO σ τ.b):PS.le σ τ:=λw0 B a w L _ r=>by
 let L':Lk:=⟨λid=>L.mz id/\(τ.bo id).isSome=true,λid x=>L.own id x/\(τ.bo id).isSome=true,L.val,L.iU⟩
 have iK:r9 L w L' w:=⟨bF _,λx _ ⟨id,h,_⟩=>⟨id,h⟩,λ_ _ _=>rfl⟩
 refine⟨L',r.hd,by rw[<-hn];exact r.hs,λt=>?_,λid b h=>?_,λid=>?_,λid x h=>⟨r.hn id x h.1,h.2⟩,λid x h=>r.hw id x h.1,λid id' x h k=>r.hi id id' x h.1 k.1,r.he,λh id b k=>?_⟩
 .have hg:τ.get t=((look τ.t t)).getD (.e .any):=rfl;cases hl:look τ.t t with
  |none=>rw[hg,hl];exact .any _
  |some p=>
   rw[hg,hl];have:=ht.get hl _ _ _ _ _ (r.ht t);refine lF.move iK this λid hid qi=>⟨⟨qi,?_⟩,rfl,λ_=>rfl⟩
   have q:=bU.1 (ic.1 hr).1 _ (Hv hl);exact bU.1 q id hid
 .obtain ⟨b',h1,h2⟩:=hb.get h;have hs:(τ.bo id).isSome=true:=by rw[h];rfl
  refine(h2.2 _ _ _ _ _ (r.hb id b' h1)).later iK rfl (λx=>⟨λq=>q.1,λq=>⟨q,hs⟩⟩) (λ_=>rfl) (λ_ _=>rfl) λp v hp k=>lF.move iK k λid hid qi=>⟨⟨qi,?_⟩,rfl,λ_=>rfl⟩
  have q:=bU.1 (ic.1 hr).2 _ (Hv h);exact bU.1 q id (dt.2 ⟨p,hp,hid⟩)
 .show L.mz id/\(τ.bo id).isSome=true↔(τ.bo id).isSome=true;refine⟨λh=>h.2,λh=>⟨(r.hv id).2 ?_,h⟩⟩;obtain⟨b,jD⟩:=ib.1 h;obtain⟨b',h1,_⟩:=hb.get jD;rw[h1];rfl
 .obtain ⟨b',h1,h2⟩:=hb.get k;exact h2.1 (r.hl (by rw[<-jZ];exact h) id b' h1)
def Gk(σ:PS):List Nat->List (Nat×Bx)
 | []=>[]
 |i::l=>match σ.bo i with
  |some b=>(i,b)::Gk σ l
  |none=>Gk σ l
def PS.cut(ts bs:List Nat)(σ:PS):PS:={ n:=σ.n,nl:=σ.nl,t:=ts.map λt=>(t,σ.get t),b:=Gk σ bs }
def yU.cut(σ:PS):∀ ts:List Nat,yU σ (ts.map λt=>(t,σ.get t))
 | []=>trivial
 |_::l=>⟨PV.le.refl _,yU.cut σ l⟩
def xO.cut(σ:PS):∀ bs:List Nat,xO σ (Gk σ bs)
 | []=>trivial
 |i::l=>by
  unfold Gk;split
  .rename_i b h;exact⟨⟨b,h,Bx.le.refl b⟩,xO.cut σ l⟩
  .exact xO.cut σ l
def PS.le.cut{σ:PS}(ts bs:List Nat)(hr:IC (σ.cut ts bs)=true):PS.le σ (σ.cut ts bs):=PS.le.pO rfl rfl hr (yU.cut σ ts) (xO.cut σ bs)
def Ex.to:Ex->Exit
 | .normal=>.normal
 | .exit id=>.exit id
 | .ret=>.ret
def Sp(P:Program)(K:World->Prop)(c:Code)(σ:PS)(Q:Ex->PS->Prop):Prop:=
 ∀ (w0:World) (B:Nat->Prop) (a:Act) (w:World) (L:Lk),Gd P K w0 B->jx w0 B σ a w L->c.wp P (λe a' w'=>∃ ex τ L',e=ex.to/\Q ex τ/\jx w0 B τ a' w' L') a w
def Sp.mono{P:Program}{K:World->Prop}{c:Code}{σ:PS}{Q Q':Ex->PS->Prop}(h:Sp P K c σ Q)(hq:∀ e τ,Q e τ->Q' e τ):Sp P K c σ Q':=
 λw0 B a w L g r=>Code.wp_mono (λ_ _ _ ⟨ex,τ,L',h1,h2,h3⟩=>⟨ex,τ,L',h1,hq _ _ h2,h3⟩) (h w0 B a w L g r)
abbrev Lo:=List (Nat×(Ex×PS×List Nat×List Nat))
section
variable {P:Program} {K:World->Prop} {T:List TI} {O:q8} {lo:Lo}
def Sp.loop{b:Code}{Q:Ex->PS->Prop}(J:Nat->PS->Prop)(qG:∀ n σ,J n σ->Sp P K b σ (λe τ=>(e = .normal/\∃ m,m<n/\J m τ)\/(e ≠ .normal/\Q e τ))):
 ∀ n σ,J n σ->Sp P K (.loop b) σ Q:=by
 intro n0 σ0 hJ0 w0 B a0 w1 L0 g r0 bf k cs;have key:∀ n σ a w L,J n σ->jx w0 B σ a w L ->
  ∃ e a' w',(∃ ex τ L',e=ex.to/\Q ex τ/\jx w0 B τ a' w' L')/\Arrives P (lone (bf.at a (.code b :: .inLoop b::k)) cs w) bf k cs e a' w':=by
  intro n
  induction n using Nat.strongRecOn with
  |_ n ih=>
   intro σ a w L hJ r;obtain⟨e,a₁,w₁,⟨ex,υ,L2,rfl,hq,oE⟩,uE⟩:=qG n σ hJ w0 B a w L g r bf (.inLoop b::k) cs;rcases hq with⟨rfl,m,hm,NS⟩|⟨kB,hq⟩
   .obtain ⟨e₂,a₂,w₂,OL,Oe⟩:=ih m hm υ a₁ w₁ L2 NS oE;exact⟨e₂,a₂,w₂,OL,.of_steps (Steps.trans uE (.one step_inLoop)) Oe⟩
   .cases ex with
    |normal=>exact absurd rfl kB
    |exit i=>exact⟨_,a₁,w₁,⟨.exit i,υ,L2,rfl,hq,oE⟩,.pass (x:=.inLoop b) rfl (λ_ _=>.inl (by simp[Ex.to])) uE⟩
    |ret=>exact⟨_,a₁,w₁,⟨.ret,υ,L2,rfl,hq,oE⟩,.pass (x:=.inLoop b) rfl (λ_ _=>.inl (by simp[Ex.to])) uE⟩
 obtain⟨e,a',w',hq,uE⟩:=key n0 σ0 a0 w1 L0 hJ0 r0;exact⟨e,a',w',hq,.of_steps (.one step_loop) uE⟩
def anN{w0:World}{B:Nat->Prop}{σ:PS}{a:Act}{w:World}{L:Lk}(hB:∀ b,B b->b<w0.heap.size)(r:jx w0 B σ a w L){p:PV}{e:E}(h:IW σ p=some e){v:Value}(hv:lF (jl B L) (jH L) L w p v):
 iQ B (λ_=>True) w e v:=by
 have UM:∀ id x,L.own id x->¬B x:=λid x hx hb=>by have:=hB x hb;have:=(r.hw id x hx).1;omega
 have own:∀ (v:Value) (T:TypeId) (n sz:Nat) (f:Nat->Nat->Value) (nl:Bool) (el:Nat->Nat->E) (id:Nat),oh w v T n sz f nl->(∀ x,v.ownBlock=some x->L.own id x) ->
  (∀ i j,i<n->j<sz->iQ (jl B L) (jH L) w (el i j) (f i j)/\(el i j).nr 2=true)->iQ B (λ_=>True) w (.sl nl n sz el) v:=by
  intro v T n sz f nl el id h1 h2 h3;rcases h1 with⟨rfl,rfl⟩|⟨b,c,cur,rfl,hg,ph,oo,mX,kF,jZ⟩
  .exact .sl nl 0 sz el none 0 f (bF _) aE (λ_=>rfl) (λi j hi=>absurd hi (bG i)) (λi j hi=>absurd hi (bG i)) (λi j hi=>absurd hi (bG i)) (λi j hi=>absurd hi (bG i))
  .have tN:=h2 b rfl;refine .sl nl n sz el _ c f ph (by unfold maxLen at oo;omega) (λh=>by cases h) (λi j hi hj=>⟨(kF i j hi hj).2,λhn=>jZ hn _ (eh (kF i j hi hj).1)⟩) (λi j hi hj=>(h3 i j hi hj).2)
    (λi j hi hj=>⟨b,0,rfl,UM id b tN,(r.hw id b tN).2,?_⟩) (λi j hi hj=>((h3 i j hi hj).1.q6 (λ_ h=>.inl h) (λ_ h=>h)).nr 2 (h3 i j hi hj).2)
   rw[cD];simp only[World.cell?,hg];simpa using(kF i j hi hj).1
 cases p with
 |e x=>
  simp only[IW]at h;split at h
  .rename_i hn;cases h;exact(iQ.q6 (bs':=B) (br':=jH L) (λ_ h=>.inl h) (λ_ h=>h) hv).nr 3 hn
  .cases h
 |own id=>
  obtain⟨_,rfl⟩:=hv;simp only[IW]at h;split at h
  .rename_i nl T n sz el jD;cases h;obtain⟨f,h1,h2,h3⟩:=r.hb id _ jD;exact own _ T n sz f nl el id h1 (λx hx=>(h2 x).2 hx) h3
  .rename_i nl T1 T0 n sz len el jD;cases h;rcases r.hb id _ jD with⟨h1,h2,_⟩|jo
   .subst h2;rw[h1];exact .sl true 0 1 _ none 0 (λ_ _=>undef) (bF _) aE (λ_=>rfl) (λi j hi=>absurd hi (bG i)) (λi j hi=>absurd hi (bG i)) (λi j hi=>absurd hi (bG i)) (λi j hi=>absurd hi (bG i))
   obtain⟨b,c,cur,f,h1,h2,h3,h4,h5,h6,h7,h8,h9,sE,sU⟩:=jo;have tN:L.own id b:=(h9 b).2 (.inl rfl);rw[h1];refine .sl true n 1 _ _ c (λk _=>L.iU id k) h3 (by unfold maxLen at h4;omega) (λh=>by cases h) (λk j hk hj=>?_) (λk j hk hj=>rfl)
    (λk j hk hj=>⟨b,0,rfl,UM id b tN,(r.hw id b tN).2,?_⟩) (λk j hk hj=>own _ T0 (len k) sz (f k) nl (el k) id (h8 k hk).1 (λx hx=>(h9 x).2 (.inr ⟨k,hk,hx⟩)) (h8 k hk).2)
   .obtain ⟨_,q1,q2⟩:=(h8 k hk).1.head;exact⟨q1,λ_=>q2⟩
   .rw [cD,cI];obtain rfl:j=0:= aC ;simp only[World.cell?,h2];simpa using h6 k hk aH 
  .cases h
 |iU id k=>
  obtain⟨_,rfl⟩:=hv;simp only[IW]at h;split at h
  .rename_i nl T1 T0 n sz len el jD;split at h
   .rename_i hk;have hk:k<n:=by simpa[fJ]using hk
    cases h;obtain⟨b,c,cur,f,h1,h2,h3,h4,h5,h6,h7,h8,h9,sE,sU⟩:=(r.hb id _ jD).xL aC;exact own _ T0 (len k) sz (f k) nl (el k) id (h8 k hk).1 (λx hx=>(h9 x).2 (.inr ⟨k,hk,hx⟩)) (h8 k hk).2
   .cases h
  .cases h
 |_=>cases h
def D7(tmps:Array Value):ResultVar->Sem Value
 | .tmp t=>Pure.pure (tmps.getD t undef)
 | .cell q t=>do loadVar t (<-asAddr (tmps.getD q undef))
def Qv(fn:Func)(tmps:Array Value):results fn tmps=(do
 let vs <-fn.results.mapM (D7 tmps)
 Pure.pure (if h:vs.size=1 then vs[0]else .tuple vs)):=by
 unfold results;congr 1
def alk{w0:World}{B:Nat->Prop}{σ:PS}{a:Act}{w:World}{L:Lk}(hT:mV P T)(hB:∀ b,B b->b<w0.heap.size)(r:jx w0 B σ a w L){x:ResultVar}{e:E}(h:Qt T σ x=some e):
 ∃ v,(D7 a.tmps x).run P w = .ok v w/\iQ B (λ_=>True) w e v:=by
 cases x with
 |tmp t=>exact⟨_,rfl,anN hB r h (r.ht t)⟩
 |cell q t=>
  simp only[Qt]at h;split at h
  .rename_i ti oQ;split at h
   .rename_i l is OM;obtain⟨b,of,vs,e1,h1,h2,h3⟩:=r.read (r.ht q) OM (λq hq=>by simp at hq);by_cases ha:ti.isAgg=true
    .rw [bB ha]at h;split at h
     .rename_i hn;cases h;refine⟨.agg vs.toArray,?_,(iQ.q6 (bs':=B) (br':=jH L) (λ_ h=>.inl h) (λ_ h=>h) h1.agg).nr 3 hn⟩;simp only[D7,e1,asAddr,Sem.run_bind,Sem.run_pure,Result.andThen_ok,Za hT w oQ ha b of vs h2 h3]
     .cases h
    .rw [bA ha]at h;split at h
     .rename_i y;split at h
      .rename_i hn;cases h;obtain⟨z,zs,rfl,hz,_⟩:=h1.ni;refine⟨z,?_,(iQ.q6 (bs':=B) (br':=jH L) (λ_ h=>.inl h) (λ_ h=>h) hz).nr 3 hn⟩;simp only[D7,e1,asAddr,Sem.run_bind,Sem.run_pure,Result.andThen_ok,LA hT w oQ (by simpa using ha) b of z (by simpa using h3 0 z rfl)]
      .cases h
     .cases h
   .cases h
  .cases h
def ali{w0:World}{B:Nat->Prop}{σ:PS}{a:Act}{w:World}{L:Lk}(hT:mV P T)(hB:∀ b,B b->b<w0.heap.size)(r:jx w0 B σ a w L){l:List ResultVar}{es:List E}(h:FJ T σ l=some es):
 ∃ vs,(l.mapM (D7 a.tmps)).run P w = .ok vs w/\kJ B (λ_=>True) w es vs:=by
 induction l generalizing es with
 |nil=>simp only[FJ,bM]at h;subst h;exact⟨[],rfl,.nil _ _ _⟩
 |cons x l ih=>
  simp only[FJ]at h;split at h
  .rename_i e es' h1 h2;cases h;obtain⟨v,q1,q2⟩:=alk hT hB r h1;obtain⟨vs,p1,p2⟩:=ih h2;refine⟨v::vs,?_,.cons q2 p2⟩;rw[fP];simp only[Sem.run_bind,q1,Result.andThen_ok,p1,Sem.run_pure]
  .cases h
def alj{w0:World}{B:Nat->Prop}{σ:PS}{a:Act}{w:World}{L:Lk}(hT:mV P T)(hB:∀ b,B b->b<w0.heap.size)(r:jx w0 B σ a w L){fn:Func}{e:E}(h:Ls T fn σ=some e):
 ∃ v,(results fn a.tmps).run P w = .ok v w/\iQ B (λ_=>True) w e v:=by
 unfold Ls at h;have main:∀ es,FJ T σ fn.results.toList=some es->∃ vs:List Value,(fn.results.mapM (D7 a.tmps)).run P w = .ok vs.toArray w/\kJ B (λ_=>True) w es vs:=by
  intro es GS;obtain⟨vs,h1,h2⟩:=ali hT hB r GS;refine⟨vs,?_,h2⟩;rw[ap8];simp only[Sem.run_map,h1,Result.andThen_ok]
 split at h
 .rename_i y hy;cases h;obtain⟨vs,h1,h2⟩:=main _ hy;obtain⟨v,vs',rfl,hv,Dj⟩:=h2.ni;have:=Dj.rS;subst this;refine⟨v,?_,hv⟩;rw[Qv,Sem.run_bind,h1];simp
 .rename_i l kB hl;cases h;obtain⟨vs,h1,h2⟩:=main _ hl;refine⟨.tuple vs.toArray,?_,h2.iE⟩;rw[Qv,Sem.run_bind,h1];have hlen:¬vs.length=1:=by
   rw[h2.len];intro e1
   match l,e1 with
   | [y],_=>exact kB y rfl
  simp[hlen]
 .cases h
def ahk(args:List E):∀ (k t:Nat),look (Hl k args) t=if k<=t then(args[t-k]?).map .e else none:=by
 induction args with
 |nil=>intro k t;simp[Hl,look]
 |cons x l ih=>
  intro k t;simp only[Hl];rw[uc,ih (k+1) t];by_cases h:k=t
  .subst h;simp
  .rw [bA h];by_cases h2:k<=t
   .rw [bB aC,bB h2,(aC:t-k=(t-(k+1))+1)];simp
   .rw [bA aC,bA h2]
def jx.init{B:Nat->Prop}{w:World}{fn:Func}{args:List E}{vs:List Value}(hr:kJ B (λ_=>False) w args vs)(hn:args.length<=fn.ntmps)(nl:Bool)(_hB:∀ b,B b->b<w.heap.size/\pD w b):
 jx w B (B7 fn nl args) { tmps:=vs.toArray++Array.replicate (fn.ntmps-vs.toArray.size) undef,defers:=[] } w ⟨λ_=>False,λ_ _=>False,λ_=>undef,λ_ _=>undef⟩:=by
 have hlen:=hr.len;refine⟨rfl,by simp[B7];omega,λt=>?_,λid b hb=>(by cases hb),λid=>⟨λh=>h.elim,λh=>(by cases h)⟩,λ_ _ h=>h.elim,λ_ _ h=>h.elim,λ_ _ _ h=>h.elim,Below.refl _ _,λ_ id b hb=>(by cases hb)⟩;have hg:(B7 fn nl args).get t=((args[t]?).map PV.e).getD (.e .any):=by
  unfold PS.get B7;rw[ahk];simp
 rw[hg];by_cases ht:t<args.length
 .have Kz:t<vs.length:= aC ;rw[bJ ht];have hv:(vs.toArray++Array.replicate (fn.ntmps-vs.toArray.size) undef).getD t undef=vs[t]:=by
   simp[Array.getElem?_append,Kz]
  show iQ _ _ _ _ _;rw[hv];exact(hr.lf t _ _ (bJ ht) (bJ Kz)).q6 (λb h=>h.elim id λ⟨_,h⟩=>h.elim) (λ_ ⟨_,h⟩=>h.elim)
 .rw [cz aC];exact .any _
def PC.Pz(hT:mV P T)(hm:P.follows .mixedOrders=true)(hp:∀ w w',K w->Below w.heap.size w w'->K w'){f:FuncId}{fn:Func}{c:Code}{args:List E}{kt:E}(yg:∀ (vs:Array Value) (w:World),(callFunc f vs).run P w = .ok (.enter f vs) w)
 (hf:P.funcs[f]? = some fn) (hb:fn.body=some c) (hn:args.length<=fn.ntmps) (nl:Bool)
 (h:Sp P K c (B7 fn nl args) (λe τ=>(e = .ret\/e = .normal)/\∃ r,Ls T fn τ=some r/\∀ (bs br:Nat->Prop) (w:World) (v:Value),iQ bs br w r v->iQ bs br w kt v)):PC P K f args kt:=by
 refine⟨yg,λw B vs hK hB hr=>calls_of_wp hf hb ?_⟩;have zz:=jx.init (fn:=fn) hr hn nl hB;refine Code.wp_mono ?_ (h w B _ w _ ⟨hK,hp,hB⟩ zz);rintro e a' w' ⟨ex,τ,L',rfl,⟨he,r,G9,hle⟩,yy⟩;obtain⟨v,h1,h2⟩:=alj hT (λb hb=>(hB b hb).1) yy G9;have G7:a'.defers=[]/\∃ v,(results fn a'.tmps).run P w' = .ok v w'/\∃ v',Ending.returned v = .returned v'/\Below w.heap.size w w'/\iQ B (λ_=>True) w' kt v':=⟨yy.hd,v,h1,v,rfl,yy.he,hle _ _ _ _ h2⟩
 rcases he with rfl|rfl
 .exact G7
 .exact G7
def vS.Pz(hT:mV P T)(hm:P.follows .mixedOrders=true)(hp:∀ w w',K w->Below w.heap.size w w'->K w'){f:FuncId}{fn:Func}{c:Code}{args:List E}(yg:∀ (vs:Array Value) (w:World),(callFunc f vs).run P w = .ok (.enter f vs) w)
 (hf:P.funcs[f]? = some fn) (hb:fn.body=some c) (hn:args.length<=fn.ntmps) (nl:Bool) {nl':Bool} {T0:TypeId} {n sz:Nat} {el:Nat->Nat->E}
 (h:Sp P K c (B7 fn nl args) (λe τ=>(e = .ret\/e = .normal)/\∃ t id b,fn.results.toList=[.tmp t]/\τ.get t = .own id/\τ.bo id=some b/\∀ (bs br:Nat->Prop) (L:Lk) (w:World),nW bs br L w id b->nW bs br L w id (.row nl' T0 n sz el))):vS P K f args nl' T0 n sz el:=by
 refine⟨yg,λw B vs hK hB hr=>calls_of_wp hf hb ?_⟩;have zz:=jx.init (fn:=fn) hr hn nl hB;refine Code.wp_mono ?_ (h w B _ w _ ⟨hK,hp,hB⟩ zz);rintro e a' w' ⟨ex,τ,L',rfl,⟨he,t,id,b,G9,hg,jD,hle⟩,yy⟩;have ho:=yy.ht t;rw[hg]at ho;obtain⟨qi,hv⟩:=ho;obtain⟨f0,h1,h2,h3⟩:=hle _ _ _ _ (yy.hb id b jD);have lE:(results fn a'.tmps).run P w' = .ok (L'.val id) w':=by
  rw[Qv,Sem.run_bind,ap8,G9,Sem.run_map,fP];simp only[D7,Sem.run_bind,Sem.run_pure,Result.andThen_ok,List.mapM_nil,hv];simp
 have G7:a'.defers=[]/\∃ v,(results fn a'.tmps).run P w' = .ok v w'/\∃ v',Ending.returned v = .returned v'/\Below w.heap.size w w'/\∃ g,oh w' v' T0 n sz g nl'/\(∀ x,v'.ownBlock=some x->w.heap.size<=x/\x<w'.heap.size) /\
  ∀ i j,i<n->j<sz->iQ (λb=>B b\/v'.ownBlock=some b) (λ_=>True) w' (el i j) (g i j)/\(el i j).nr 2=true:=by
  refine⟨yy.hd,_,lE,_,rfl,yy.he,f0,h1,λx hx=>yy.hw id x ((h2 x).2 hx),λi j hi hj=>⟨?_,(h3 i j hi hj).2⟩⟩;refine((h3 i j hi hj).1.q6 (bs':=λb=>B b\/(L'.val id).ownBlock=some b) (br':=jH L') (λb hb=>?_) (λ_ h=>h)).nr 2 (h3 i j hi hj).2;rcases hb with hb|hb
  .exact .inl hb
  .exact .inr ⟨id,(h2 b).2 hb⟩
 rcases he with rfl|rfl
 .exact G7
 .exact G7
end
def Ja(P:Program):List TI->Prop
 | []=>True
 |x::l=>(P.underlying x.id=some x.d/\P.info? x.id=some x.i)/\Ja P l
def Ja.ok{P:Program}{T:List TI}(h:Ja P T):mV P T:=by
 induction T with
 |nil=>intro x hx;simp at hx
 |cons y l ih=>
  intro x hx;rcases dw.1 hx with hx|hx
  .subst hx;exact h.1
  .exact ih h.2 x hx
def E.le(p q:E):Prop:=∀ (bs br:Nat->Prop) (w:World) (v:Value),iQ bs br w p v->iQ bs br w q v
def E.le.refl(p:E):E.le p p:=λ_ _ _ _ h=>h
def E.le.ji{p q:E}(h:p=q):E.le p q:=h▸E.le.refl p
def E.le.trans{p q r:E}(h:E.le p q)(k:E.le q r):E.le p r:=λ_ _ _ _ x=>k _ _ _ _ (h _ _ _ _ x)
def PV.le.e{p q:E}(h:E.le p q):aj p q:=λbs br _ w v k=>h bs br w v k
def PV.le.bool{a b:Bool}(h:a=b):aj (.v (.bool a)) (.v (.bool b)):=PV.le.e (.ji (by rw[h]))
def PV.le.int{k:IntKind}{a b:Int}(h:a=b):aj (.v (.int k a)) (.v (.int k b)):=PV.le.e (.ji (by rw[h]))
def aq(a b:Int)(h:a=b):aj (.v (.int .i64 a)) (.v (.int .i64 b)):=.int h
inductive tc:List E->List E->Prop
 |nil:tc [] []
 |cons {p q:E} {l m:List E} (h:E.le p q) (k:tc l m):tc (p::l) (q::m)
def tc.refl:∀ l:List E,tc l l
 | []=>.nil
 |p::l=>.cons (.refl p) (tc.refl l)
def tc.Lr{l m:List E}(h:tc l m){bs br:Nat->Prop}{w:World}{vs:List Value}(k:kJ bs br w l vs):kJ bs br w m vs:=by
 induction h generalizing vs with
 |nil=>exact k
 |cons h _ ih=>
  obtain⟨x,ys,rfl,h1,h2⟩:=k.ni;exact .cons (h _ _ _ _ h1) (ih h2)
def E.le.agg{l m:List E}(h:tc l m):E.le (.agg l) (.agg m):=λ_ _ _ _ k=>by
 obtain⟨vs,rfl,hr⟩:=iQ.CQ k;exact(h.Lr hr).agg
def E.le.iE{l m:List E}(h:tc l m):E.le (.iE l) (.iE m):=λ_ _ _ _ k=>by
 obtain⟨vs,rfl,hr⟩:=iQ.aay k;exact(h.Lr hr).iE
def E.le.nil(nl:Bool)(sz:Nat)(el:Nat->Nat->E):E.le (.v (.slice none 0 0)) (.sl nl 0 sz el):=λ_ _ _ _ k=>by
 obtain rfl:=iQ.kX k;exact .sl nl 0 sz el none 0 (λ_ _=>undef) (bF _) aE (λ_=>rfl) (λi j h=>absurd h (bG i)) (λi j h=>absurd h (bG i)) (λi j h=>absurd h (bG i)) (λi j h=>absurd h (bG i))
def E.le.sl{nl:Bool}{n sz:Nat}{el el':Nat->Nat->E}(h:∀ i j,i<n->j<sz->E.le (el i j) (el' i j)/\(el' i j).nr 2=true):E.le (.sl nl n sz el) (.sl nl n sz el'):=λbs br w v k=>by
 cases k with
 |sl _ _ _ _ A c f hc hm h0 hl hr cell kk=>
  exact .sl nl n sz el' A c f hc hm h0 hl (λi j hi hj=>(h i j hi hj).2) cell λi j hi hj=>(h i j hi hj).1 _ _ _ _ (kk i j hi hj)
def PC.le{P:Program}{K:World->Prop}{f:FuncId}{args args':List E}{kt res':E}(h:PC P K f args kt)(ha:tc args' args)(hr:E.le kt res'):PC P K f args' res':=
 ⟨h.call,λw B vs hK hB sK=>(h.run w B vs hK hB (ha.Lr sK)).mono λ_ _ ⟨v,h1,h2,h3⟩=>⟨v,h1,h2,hr _ _ _ _ h3⟩⟩
def PC.kt{P:Program}{K:World->Prop}{f:FuncId}{args:List E}{kt res':E}(h:PC P K f args kt)(hr:E.le kt res'):PC P K f args res':=h.le (tc.refl _) hr
end Go.Proofs.YtgdahmmlddfimaaGreatDoor.Pu
namespace Go.Proofs.YtgdahmmlddfimaaGreatDoor
open Go.RowKit Fp
def wL(A:Option Addr)(c:Nat)(L:List Nat)(w:World)(hs:Sl w A c L):
 Calls prog 263 #[.slice A L.length c] w λe w'=>e = .returned (.slice A (iT L).length c)/\w=w':=by
 have hc:=hs.cap;have hl:=hs.rO;go_enter func263,ntmps263;go_wp2;go_loop [3] (λi=>∃ k:Nat,k<=L.length/\i = .int .i64 k/\np L=np (L.take k)) (λi=>(intOf i).toNat)
 case atStart=>exact⟨L.length,bF _,rfl,aH⟩
 case round=>
  obtain⟨k,hk,rfl,ht⟩:=hrel;have HT:=aqi ht;clear ht;by_cases h0:0<k
  .obtain ⟨ab,ao,rfl,hb,h1⟩:=hs.mS (i:=k-1) aC ;have e1:((k:Int)-1).toNat=k-1:= aC ;have Z:=aqi (Q5 L (k-1) aC);have NZ:=aqi (Q4 L (k-1) aC);rw[gS h0]at Z NZ;generalize L[k-1]=x at *
   by_cases hx:x=0
   .have Hx:=aqi hx;clear hx;have hb:((x:Int)==0)=true:=by have:=Hx.out;simp;omega
    go_wp2;go_round
    case rel=>exact⟨k-1,aC,by go_num,by rw[HT.out,Z.out Hx.out]⟩
    case measure=>simp[intOf];omega
   .have hb:((x:Int)==0)=false:= aN ;go_wp2;go_ret;exact⟨Lv (by show _=np L;rw[HT.out,NZ.out hx]),rfl⟩
  .go_wp2;go_ret;have:k=0:= aC ;subst this;exact⟨Lv (by show _=np L;rw[HT.out];rfl),rfl⟩
def aet(A:Option Addr)(c:Nat)(L:List Nat)(w:World)(hs:Sl w A c L):
 Calls prog 258 #[.slice A L.length c] w λe w'=>e = .returned (.slice A (iT L).length c)/\w=w':=by
 have hc:=hs.cap;have hl:=hs.rO;go_enter func258,ntmps258;go_wp2;go_loop [3] (λi=>∃ k:Nat,k<=L.length/\i = .int .i64 k/\np L=np (L.take k)) (λi=>(intOf i).toNat)
 case atStart=>exact⟨L.length,bF _,rfl,aH⟩
 case round=>
  obtain⟨k,hk,rfl,ht⟩:=hrel;have HT:=aqi ht;clear ht;by_cases h0:0<k
  .obtain ⟨ab,ao,rfl,hb,h1⟩:=hs.mS (i:=k-1) aC ;have e1:((k:Int)-1).toNat=k-1:= aC ;have Z:=aqi (Q5 L (k-1) aC);have NZ:=aqi (Q4 L (k-1) aC);rw[gS h0]at Z NZ;generalize L[k-1]=x at *
   by_cases hx:x=0
   .have Hx:=aqi hx;clear hx;have hb:((x:Int)==0)=true:=by have:=Hx.out;simp;omega
    go_wp2;go_round
    case rel=>exact⟨k-1,aC,by go_num,by rw[HT.out,Z.out Hx.out]⟩
    case measure=>simp[intOf];omega
   .have hb:((x:Int)==0)=false:= aN ;go_wp2;go_ret;exact⟨Lv (by show _=np L;rw[HT.out,NZ.out hx]),rfl⟩
  .go_wp2;go_ret;have:k=0:= aC ;subst this;exact⟨Lv (by show _=np L;rw[HT.out];rfl),rfl⟩
def Sl.vO{w:World}{A:Option Addr}{c:Nat}{L:List Nat}(h:Sl w A c L):Sl w A c (iT L):=(h.take (np L)).eqv (LY L).symm
def aco:Go.Shelf.Ren:=⟨λ|128=>296|n=>n,λ|51=>171|3=>3|4=>4|46=>190|5=>5|9=>9|n=>n,λ|n=>n⟩
def acj:Go.Proofs.Lays.n128 prog aco:={
 mixed:= aF 
 f128:=func296.trans (congrArg some aF)
 t3:=underlying3
 a3:=Tryz.isAgg3
 z3:=Tryz.sizeOf3
 v3:=Tryz.zeroValue3
 t4:=underlying4
 a4:=Tryz.isAgg4
 z4:=Tryz.sizeOf4
 v4:=Tryz.zeroValue4
 t5:=underlying5
 a5:=Tryz.isAgg5
 z5:=Tryz.sizeOf5
 v5:=Tryz.zeroValue5
 t9:=underlying9
 a9:=Tryz.isAgg9
 z9:=Tryz.sizeOf9
 v9:=Tryz.zeroValue9
 t46:=underlying190
 a46:=Tryz.isAgg190
 z46:=Tryz.sizeOf190
 v46:=Tryz.zeroValue190
 t51:=underlying171
 a51:=Tryz.isAgg171
 z51:=Tryz.sizeOf171
 v51:=Tryz.zeroValue171 }
def Ww(x:Nat)(hx:x<4294967296)(w:World):
 Calls prog 296 #[.int .u32 x] w λe w'=>e = .returned (.int .i64 (iB x))/\w=w':=by
 refine(Any.bits_Len32 acj x w aC aC).mono ?_;rintro e w' ⟨rfl,rfl⟩;rw[gE,acf x hx];exact⟨rfl,rfl⟩
def anX(x k idx:Nat)(w:World)(pd:((x:Int)==0)=false)
 (key:bits BinOp.and IntKind.u32 (x:Int) (-(x:Int)%4294967296)*125613361%4294967296/134217728=(idx:Int))
 (hi:idx<32) (hk:k<32) (kF:w.cell? ⟨0,idx,none⟩=some (.int .u8 k)):
 Calls prog 292 #[.int .u32 x] w λe w'=>e = .returned (.int .i64 k)/\w=w':=by
 go_enter func292,ntmps292;go_wp2_with (simp only[key])
 go_ret;exact⟨rfl,rfl⟩
def anW(x:Nat)(h0:x≠0)(hx:x<4294967296)(w:World)(hT:Tb w):
 Calls prog 292 #[.int .u32 x] w λe w'=>e = .returned (.int .i64 (kn x))/\w=w':=by
 rw[<-adT x h0 hx];obtain⟨E3,hk⟩:=Lib.lowest_bit 32 x h0 hx;obtain⟨hi,ahb⟩:=Lib.deBruijn32_at _ hk;have kF:=hT _ hi;rw[ahb]at kF;exact anX x _ _ w aN (tz32_key x _ hx h0 E3) hi hk kF
def i64_in(n:Int)(h0:-9223372036854775808<=n)(h1:n<=9223372036854775807):IntKind.i64.wrap n=n:=by rw[IntKind.wrap_i64];omega
def Se{L M:List Nat}{n:Nat}(hs:iZ L)(hM:iT L=M)(hn:M.length=n+1):
 ∃ x,M[n]? = some x/\x<4294967296/\(32*(n:Int)+(iB x:Int))=(iB (val L):Int)/\iB x<=32:=by
 have hk:iZ M:=hM▸hs.iT;have ht:nX M:=hM▸Bf L;rcases apH M with rfl|⟨l,x,rfl⟩
 .simp at hn
 .simp only[apI,cC,fm,Nat.add_right_cancel_iff]at hn hk ht hM ⊢;subst hn;have hx:x≠0:=by simpa using(CH _).1 ht aH 
  have iK:x<4294967296:=hk x aH;refine⟨x,aH,iK,?_,mK.2 iK⟩;have:=acn hk hx;rw[<-hM,qZ]at this;omega
def Xh(A:Option Addr)(c:Nat)(L:List Nat)(w:World)(hs:Sl w A c L)(hlen:L.length<=100000000):
 Calls prog 265 #[.slice A L.length c] w λe w'=>e = .returned (.int .i64 (iB (val L)))/\w=w':=by
 have hT:=aqi (wL A c L w hs);have lj:=hs.vO;have o9:=qw L;unfold np at o9;generalize hM:iT L=M at *
 obtain⟨n,hn⟩:∃ n,n=M.length:=⟨_,rfl⟩
 rw[<-hn]at hT o9;rcases n with _|n
 .have hv:iB (val L)=0:=by rw[<-qZ,hM,dH hn.symm];rfl
  have HV:=aqi hv;clear hv hM hn;go_enter func265,ntmps265;go_wp2_with (go_at_call 263;refine hT.out.mono ?_;rintro e w' ⟨rfl,rfl⟩)
  go_ret;exact⟨by rw[HV.out];rfl,rfl⟩
 .obtain ⟨x,hx,iK,hb,agI⟩:=Se hs.ok hM hn.symm;obtain⟨ab,ao,rfl,_,kF⟩:=lj.cell _ _ hx;have HB:=aqi hb;clear hb hM hn hx;go_enter func265,ntmps265;go_wp2_with (first|(go_at_call 263;refine hT.out.mono ?_;rintro e w' ⟨rfl,rfl⟩)|(go_at_call 296;refine(Ww x iK _).mono ?_;rintro e w' ⟨rfl,rfl⟩))
  go_ret;exact⟨pz HB.out,rfl⟩
def ack{x:Nat}(h:x≠0):iB x=iB (x/2)+1:=by
 by_cases h1:x/2=0
 .have:x=1:= aC ;subst this;rfl
 .have e1:=vP h1;have e2:=tv (x/2);have e3:=pF h1;generalize iB (x/2)=k at *
  obtain⟨j,rfl⟩:∃ j,k=j+1:=⟨k-1,aC⟩
  rw[fo]at e1;refine Aj ?_ ?_
  .rw [bS];omega
  .rw [bS];omega
def YI(A:Option Addr)(c:Nat)(L:List Nat)(w:World)(hs:Sl w A c L)(ht:nX L)(hlen:L.length<=100000000):
 Calls prog 156 #[.slice A L.length c] w λe w'=>e = .returned (.int .i64 (iB (val L)))/\w=w':=by
 obtain⟨n,hn⟩:∃ n,n=L.length:=⟨_,rfl⟩
 rcases n with _|n
 .have hv:iB (val L)=0:=by rw[dH hn.symm];rfl
  have HV:=aqi hv;rw[<-hn];clear hv ht hn;go_enter func156,ntmps156;go_wp2;go_ret;exact⟨by rw[HV.out];rfl,rfl⟩
 .obtain ⟨x,hx,iK,hb,agI⟩:=Se hs.ok ht hn.symm;obtain⟨ab,ao,rfl,_,kF⟩:=hs.cell _ _ hx;have HB:=aqi hb;rw[<-hn]at hlen ⊢;clear hb ht hn hx;go_enter func156,ntmps156;go_wp2;go_loop [3,4] (λm y=>∃ (k z:Nat),z<4294967296/\y = .int .u32 z/\m = .int .i64 k/\k<=10000000000/\k+iB z=iB (val L)) (λ_ y=>(intOf y).toNat)
  case atStart=>exact⟨32*n,x,iK,rfl,by go_num,aC,by have:=HB.out;omega⟩
  case round=>
   obtain⟨k,z,hz,rfl,rfl,hk,he⟩:=hrel;have HE:=aqi he;clear he;by_cases h0:0<z
   .have hh:=aqi (ack (x:=z) aC);have yi:k<=3300000000:=by have:=HE.out;have:=HB.out;omega
    go_wp2;go_round
    case rel=>exact⟨k+1,z/2,aC,by go_num,by go_num,aC,by rw[<-HE.out,hh.out];omega⟩
    case measure=>simp[intOf];omega
   .obtain rfl:z=0:= aC ;go_wp2;go_ret;exact⟨pz (by rw[<-HE.out];rfl),rfl⟩
def SS{L M:List Nat}(hL:iZ L)(h:(iT L).length<(iT M).length):lp (val L) (val M) = -1:=by
 have:=L6 hL.iT (Bf M) h;rw[qZ,qZ]at this;unfold lp;rw[bB this]
def SR{L M:List Nat}(hM:iZ M)(h:(iT M).length<(iT L).length):lp (val L) (val M)=1:=by
 have:=L6 hM.iT (Bf L) h;rw[qZ,qZ]at this;unfold lp;rw[bA aC,bB this]
def JA{M N:List Nat}(hM:iZ M){k x y:Nat}(hl:M.length=N.length)(hx:M[k]? = some x)(hy:N[k]? = some y)(hd:M.drop (k+1)=N.drop (k+1))(h:x<y):val M<val N:=by
 obtain⟨h1,rfl⟩:=cE.1 hx;obtain⟨h2,rfl⟩:=cE.1 hy;exact aod hM k h1 hl hd h
def Tj{M N:List Nat}{k x:Nat}(hx:M[k]? = some x)(hy:N[k]? = some x)(hd:M.drop (k+1)=N.drop (k+1)):M.drop k=N.drop k:=by
 obtain⟨h1,e1⟩:=cE.1 hx;obtain⟨h2,e2⟩:=cE.1 hy;rw[fG h1,fG h2,e1,e2,hd]
def KO(A B:Option Addr)(c d:Nat)(L M:List Nat)(w:World)(hs:Sl w A c L)(hr:Sl w B d M)(h1:L.length<=100000000)(_h2:M.length<=100000000):
 Calls prog 223 #[.slice A L.length c,.slice B M.length d] w λe w'=>e = .returned (.int .i64 (lp (val L) (val M)))/\iV w w':=by
 have hT:=aqi (wL A c L w hs);have hU:=aqi (wL B d M w hr);have lj:=hs.vO;have oE:=hr.vO;have o9:=qw L;have qD:=qw M;unfold np at o9 qD;by_cases iK:(iT L).length<(iT M).length
 .have HV:=aqi (SS hs.ok iK);have kB:(((iT L).length:Int) != ((iT M).length:Nat))=true:= aN ;generalize (iT L).length=n at *
  generalize (iT M).length=m at *
  clear lj oE;go_enter func223,ntmps223;go_wp2_with fail;refine hT.out.mono ?_;rintro e w' ⟨rfl,rfl⟩;go_wp2_with fail;refine hU.out.mono ?_;rintro e w' ⟨rfl,rfl⟩;go_wp2;go_ret;exact⟨pz (by rw[HV.out]),iV.refl _⟩
 .by_cases GV:(iT M).length<(iT L).length
  .have HV:=aqi (SR hr.ok GV);have kB:(((iT L).length:Int) != ((iT M).length:Nat))=true:= aN ;generalize (iT L).length=n at *
   generalize (iT M).length=m at *
   clear lj oE;go_enter func223,ntmps223;go_wp2_with fail;refine hT.out.mono ?_;rintro e w' ⟨rfl,rfl⟩;go_wp2_with fail;refine hU.out.mono ?_;rintro e w' ⟨rfl,rfl⟩;go_wp2;go_ret;exact⟨pz (by rw[HV.out]),iV.refl _⟩
  .have hl:(iT L).length=(iT M).length:= aC ;have HL:=aqi hl;rw[<-hl]at hU qD;have e1:=qZ L;have e2:=qZ M;generalize iT L=P at *
   generalize iT M=Q at *
   have E1:=aqi e1;have E2:=aqi e2;clear e1 e2 hl GV iK;obtain⟨n,hn⟩:∃ n,n=P.length:=⟨_,rfl⟩
   rw[<-hn]at hT hU qD o9;have HN:=aqi hn;clear hn;have kB:((n:Int) != (n:Int))=false:= aH ;have okP:=lj.ok;have DZ:=oE.ok;go_enter func223,ntmps223;go_wp2_with fail;refine hT.out.mono ?_;rintro e w' ⟨rfl,rfl⟩;go_wp2_with fail;refine hU.out.mono ?_;rintro e w' ⟨rfl,rfl⟩;go_wp2;go_loopw [5] (λi wr=>∃ k:Nat,k<=n/\i = .int .i64 ((k:Int)-1)/\P.drop k=Q.drop k/\iV w wr) (λi _=>(intOf i+1).toNat)
   case atStart=>exact⟨n,bF _,rfl,by rw[eO (by rw[<-HN.out];exact bF _),eO (by rw[<-HL.out,<-HN.out];exact bF _)],iV.refl _⟩
   case round=>
    obtain⟨k,hk,rfl,hd,hb⟩:=hrel;have HD:=aqi hd;clear hd;rcases k with _|k
    .go_wp2;go_ret;have e:P=Q:=by simpa using HD.out
     exact⟨pz (by rw[<-E1.out,<-E2.out,e];unfold lp;simp),hb⟩
    .have Di:k<P.length:=by have:=HN.out;omega
     have AD:k<Q.length:=by have:=HN.out;have:=HL.out;omega
     have HP:=aqi (bJ Di);have HQ:=aqi (bJ AD);obtain⟨ab,ao,rfl,_,c1⟩:=(lj.below hb).mS Di;obtain⟨bb,bo,rfl,_,c2⟩:=(oE.below hb).mS AD;have Kk:(k:Int)<n:= aC ;have oO:(0:Int)<=k:= aC ;have x0:(0:Int)<=P[k]:= aC ;have y0:(0:Int)<=Q[k]:= aC ;generalize P[k]=x at *
     generalize Q[k]=y at *
     clear Di AD;by_cases rC:x<y
     .have OX:(x:Int)<y:= aC ;go_wp2;go_quiet (fail);go_wp2;go_ret;have h:=JA okP HL.out HP.out HQ.out HD.out rC;rw[E1.out,E2.out]at h;exact⟨pz (by unfold lp;rw[bB h]),below_drewN hb _⟩
     .have OX:¬(x:Int)<y:= aC ;by_cases OY:y<x
      .have OZ:(y:Int)<x:= aC ;go_wp2;go_quiet (fail);go_wp2;go_quiet (fail);go_wp2;go_ret;have h:=JA DZ HL.out.symm HQ.out HP.out HD.out.symm OY;rw[E1.out,E2.out]at h;exact⟨pz (by unfold lp;rw[bA aC,bB h]),below_drewN (below_drewN hb _) _⟩
      .have OZ:¬(y:Int)<x:= aC ;have HX:=aqi (aC:x=y);go_wp2;go_quiet (fail);go_wp2;go_quiet (fail);go_wp2;go_roundw
       case rel=>exact⟨k,aC,by go_num,Tj HP.out (by rw[HX.out];exact HQ.out) HD.out,by repeat (first|exact hb|refine below_drewN ?_ _)⟩
       case measure=>simp[intOf];try omega
def YJ(A B:Option Addr)(c d:Nat)(P Q:List Nat)(w:World)(lj:Sl w A c P)(oE:Sl w B d Q)(tP:nX P)(tQ:nX Q)(h1:P.length<=100000000)(_h2:Q.length<=100000000):
 Calls prog 97 #[.slice A P.length c,.slice B Q.length d] w λe w'=>e = .returned (.int .i64 (lp (val P) (val Q)))/\iV w w':=by
 have tP':iT P=P:=tP;have tQ':iT Q=Q:=tQ;by_cases iK:P.length<Q.length
 .have HV:=aqi (SS (M:=Q) lj.ok (by rw[tP',tQ'];exact iK));have kB:((P.length:Int) != (Q.length:Nat))=true:= aN ;generalize P.length=n at *
  generalize Q.length=m at *
  clear lj oE tP' tQ' tP tQ;go_enter func97,ntmps97;go_wp2;go_ret;exact⟨pz (by rw[HV.out]),iV.refl _⟩
 .by_cases GV:Q.length<P.length
  .have HV:=aqi (SR (L:=P) oE.ok (by rw[tP',tQ'];exact GV));have kB:((P.length:Int) != (Q.length:Nat))=true:= aN ;generalize P.length=n at *
   generalize Q.length=m at *
   clear lj oE tP' tQ' tP tQ;go_enter func97,ntmps97;go_wp2;go_ret;exact⟨pz (by rw[HV.out]),iV.refl _⟩
  .have hl:P.length=Q.length:= aC ;have HL:=aqi hl;rw[<-hl];clear hl GV iK tP' tQ' tP tQ _h2;obtain⟨n,hn⟩:∃ n,n=P.length:=⟨_,rfl⟩
   rw[<-hn]at h1 ⊢;have HN:=aqi hn;clear hn;have kB:((n:Int) != (n:Int))=false:= aH ;have okP:=lj.ok;have DZ:=oE.ok;go_enter func97,ntmps97;go_wp2;go_loopw [5] (λi wr=>∃ k:Nat,k<=n/\i = .int .i64 ((k:Int)-1)/\P.drop k=Q.drop k/\iV w wr) (λi _=>(intOf i+1).toNat)
   case atStart=>exact⟨n,bF _,rfl,by rw[eO (by rw[<-HN.out];exact bF _),eO (by rw[<-HL.out,<-HN.out];exact bF _)],iV.refl _⟩
   case round=>
    obtain⟨k,hk,rfl,hd,hb⟩:=hrel;have HD:=aqi hd;clear hd;rcases k with _|k
    .go_wp2;go_ret;have e:P=Q:=by simpa using HD.out
     exact⟨pz (by rw[e];unfold lp;simp),hb⟩
    .have Di:k<P.length:=by have:=HN.out;omega
     have AD:k<Q.length:=by have:=HN.out;have:=HL.out;omega
     have HP:=aqi (bJ Di);have HQ:=aqi (bJ AD);obtain⟨ab,ao,rfl,_,c1⟩:=(lj.below hb).mS Di;obtain⟨bb,bo,rfl,_,c2⟩:=(oE.below hb).mS AD;have Kk:(k:Int)<n:= aC ;have oO:(0:Int)<=k:= aC ;have x0:(0:Int)<=P[k]:= aC ;have y0:(0:Int)<=Q[k]:= aC ;generalize P[k]=x at *
     generalize Q[k]=y at *
     clear Di AD;by_cases rC:x<y
     .have OX:(x:Int)<y:= aC ;go_wp2;go_quiet (fail);go_wp2;go_ret;have h:=JA okP HL.out HP.out HQ.out HD.out rC;exact⟨pz (by unfold lp;rw[bB h]),below_drewN hb _⟩
     .have OX:¬(x:Int)<y:= aC ;by_cases OY:y<x
      .have OZ:(y:Int)<x:= aC ;go_wp2;go_quiet (fail);go_wp2;go_quiet (fail);go_wp2;go_ret;have h:=JA DZ HL.out.symm HQ.out HP.out HD.out.symm OY;exact⟨pz (by unfold lp;rw[bA aC,bB h]),below_drewN (below_drewN hb _) _⟩
      .have OZ:¬(y:Int)<x:= aC ;have HX:=aqi (aC:x=y);go_wp2;go_quiet (fail);go_wp2;go_quiet (fail);go_wp2;go_roundw
       case rel=>exact⟨k,aC,by go_num,Tj HP.out (by rw[HX.out];exact HQ.out) HD.out,by repeat (first|exact hb|refine below_drewN ?_ _)⟩
       case measure=>simp[intOf];try omega
def MZ(A:Option Addr)(c:Nat)(L:List Nat)(w:World)(hs:Sl w A c L):
 Calls prog 260 #[.slice A L.length c] w λe w'=>e = .returned (.slice A L.length L.length)/\w=w':=by
 have hc:=hs.cap;have hl:=hs.rO;go_enter func260,ntmps260;go_wp2;go_ret;exact⟨rfl,rfl⟩
def Sl.SI{w:World}{A:Option Addr}{c:Nat}{L:List Nat}(h:Sl w A c L):Sl w A L.length L:=
 ⟨bF _,bH h.cap h.rO,h.ok,(λe=>by have:=h.zL e;have:=h.cap;omega),h.cell⟩
def M1(A:Option Addr)(c:Nat)(L:List Nat)(w:World)(hs:Sl w A c L)(hlen:L.length<=100000000):
 Calls prog 204 #[.slice A L.length c] w (vU w L):=by
 have hc:=hs.cap;have hl:=hs.rO;rcases A with _|ad
 .have h0:=hs.zL rfl;subst h0;have:L=[]:=dH aC;subst this;have q:=λ(w:World) (n' c':Nat)=>Lib.run_eql_slice_nil (P:=prog) w 29 _ none 0 0 n' c' underlying29
  simp only[Option.isNone_none]at q;go_enter func204,ntmps204;go_wp2;go_ret;exact⟨none,0,rfl,Sl.nil _,iV.refl _⟩
 .have q:=λ(w:World) (n' c':Nat)=>Lib.run_eql_slice_nil (P:=prog) w 29 _ (some ad) L.length c n' c' underlying29
  simp only[Option.isNone_some]at q;go_enter func204,ntmps204;have lL:([]:List Nat).length+L.length<=10000000000:= aN ;have h1:=Ow.empty w w.heap.size (bF _);have h2:=hs.alloc (.cells #[] 171);have h3:=sN (w:=w) (bF _) (.cells #[] 171);go_wp2_with (at_builtin;go_must (refine tA aG _ _ aG w.heap.size _ [] aG h1 _ _ _ L aG aG h2 lL h3 ?_);intro v' w' mi hg qR)
  obtain⟨A',c',rfl,pN⟩:=mi.sl;go_ret;exact⟨A',c',rfl,pN,(iV.alloc _ _).grown hg (sN (bF _) _) (λk hk=>by simp[Value.ownBlock]at hk;omega)⟩
def FH(A:Option Addr)(c:Nat)(L:List Nat)(w:World)(hs:Sl w A c L)(hlen:L.length<=100000000):
 Calls prog 227 #[.slice A L.length c] w (vU w (iT L)):=by
 have hc:=hs.cap;have hl:=hs.rO;have fin:∀ k:Nat,k=(iT L).length->Hid (iT L=L.take k):=λk hk=>by rw[hk];exact LY L
 go_enter func227,ntmps227;go_wp2;go_loop [3] (λi=>∃ k:Nat,k<=L.length/\i = .int .i64 k/\np L=np (L.take k)) (λi=>(intOf i).toNat)
 case atStart=>exact⟨L.length,bF _,rfl,aH⟩
 case round=>
  obtain⟨k,hk,rfl,ht⟩:=hrel;have HT:=aqi ht;clear ht;have lL:([]:List Nat).length+(L.take k).length<=10000000000:=by rw[cF];simp;omega
  have HK:=aqi (show k=(L.take k).length by rw[cF];omega);have h1:=Ow.empty w w.heap.size (bF _);have h2:=(hs.take k).alloc (.cells #[] 171);have h3:=sN (w:=w) (bF _) (.cells #[] 171);by_cases h0:0<k
  .obtain ⟨ab,ao,rfl,hb,KB⟩:=hs.mS (i:=k-1) aC ;have e1:((k:Int)-1).toNat=k-1:= aC ;have Z:=aqi (Q5 L (k-1) aC);have NZ:=aqi (Q4 L (k-1) aC);rw[gS h0]at Z NZ;generalize L[k-1]=x at *
   by_cases hx:x=0
   .have Hx:=aqi hx;clear hx;have hb:((x:Int)==0)=true:=by have:=Hx.out;simp;omega
    clear fin;go_wp2;go_round
    case rel=>exact⟨k-1,aC,by go_num,by rw[HT.out,Z.out Hx.out]⟩
    case measure=>simp[intOf];omega
   .have hb:((x:Int)==0)=false:= aN ;have F:=fin k (by show k=np L;rw[HT.out,NZ.out hx]);clear fin;go_wp2_with (at_builtin;go_must (refine tA aG _ _ aG w.heap.size _ [] aG h1 _ _ _ (L.take k) aG HK.out h2 lL h3 ?_);intro v' w' mi hg qR)
    obtain⟨A',c',rfl,pN⟩:=mi.sl;go_ret;rw[F.out];exact⟨A',c',rfl,pN,(iV.alloc _ _).grown hg (sN (bF _) _) (λk hk=>by simp[Value.ownBlock]at hk;omega)⟩
  .have:k=0:= aC ;subst this;have F:=fin 0 (by show 0=np L;rw[HT.out];rfl);clear fin;go_wp2_with (at_builtin;go_must (refine tA aG _ _ aG w.heap.size _ [] aG h1 _ _ _ (L.take 0) aG HK.out h2 lL h3 ?_);intro v' w' mi hg qR)
   obtain⟨A',c',rfl,pN⟩:=mi.sl;go_ret;rw[F.out];exact⟨A',c',rfl,pN,(iV.alloc _ _).grown hg (sN (bF _) _) (λk hk=>by simp[Value.ownBlock]at hk;omega)⟩
def WM(A:Option Addr)(n c:Nat)(w:World):
 Calls prog 268 #[.slice A n c] w λe w'=>e = .returned (.bool (decide (256<n)))/\w=w':=by
 by_cases h:256<n
 .have h':(256:Int)<n:= aC ;go_enter func268,ntmps268;go_wp2;go_ret;exact⟨by simp[h],rfl⟩
 .have h':¬(256:Int)<n:= aC ;go_enter func268,ntmps268;go_wp2;go_ret;exact⟨aH,rfl⟩
def Mr(w:World)(g:Nat)(xs:List (Option Addr×Nat×Nat)):Prop:=∀ i x,xs[i]? = some x->w.cell? ⟨g,i,none⟩=some (.slice x.1 x.2.1 x.2.2)
def yS(xs:List (Option Addr×Nat×Nat)):Bool:=xs.any λx=>decide (256<x.2.1)
def aa6(xs:List (Option Addr×Nat×Nat))(w:World)(e:Ending)(w':World):Prop:=
 ∃ n:Int,e = .returned (.int .i64 n)/\(0<=n↔yS xs=true)/\w=w'
def ahi(g:Nat)(xs:List (Option Addr×Nat×Nat))(w:World)(hs:Mr w g xs)(hn:xs.length<=1000):
 Calls prog 302 #[.slice (some ⟨g,0,none⟩) xs.length xs.length,.func (.func 268) #[] #[]] w (aa6 xs w):=by
 go_enter func302,ntmps302;go_wp2;go_loop [8] (λi=>∃ k:Nat,k<=xs.length/\i = .int .i64 k/\yS (xs.take k)=false) (λi=>xs.length-(intOf i).toNat)
 case atStart=>exact⟨0,cj _,rfl,rfl⟩
 case round=>
  obtain⟨k,hk,rfl,ht⟩:=hrel;have HT:=aqi ht;clear ht;by_cases h0:k<xs.length
  .have hc:=hs k _ (bJ h0);have e1:((k:Int)).toNat=k:= aC ;have ec:=abi g k;have HX:=aqi (show yS (xs.take (k+1))=(yS (xs.take k)||decide (256<xs[k].2.1))by
    unfold yS;rw[gq h0,List.any_append];simp)
   have HM:=aqi (cK h0);generalize xs[k]=x at *
   obtain⟨A,n,c⟩:=x;simp only at hc HX;by_cases hx:256<n
   .have hb:decide (256<n)=true:=by simp[hx]
    go_wp2_with (go_at_call 268;refine(WM A n c _).mono ?_;rw[hb];rintro e w' ⟨rfl,rfl⟩)
    go_ret;refine⟨_,rfl,⟨λ_=>?_,λ_=> aC⟩,rfl⟩;unfold yS;rw[ep];exact⟨_,HM.out,by simpa using hx⟩
   .have hb:decide (256<n)=false:= aN ;go_wp2_with (go_at_call 268;refine(WM A n c _).mono ?_;rw[hb];rintro e w' ⟨rfl,rfl⟩)
    go_round
    case rel=>exact⟨k+1,aC,by go_num,by rw[HX.out,HT.out,hb];rfl⟩
    case measure=>simp[intOf];omega
  .go_wp2;go_ret;have e:xs.take k=xs:=cW aC;have:=HT.out;rw[e]at this;exact⟨_,rfl,by rw[this];simp,rfl⟩
def adP(g:Nat)(xs:List (Option Addr×Nat×Nat))(w:World)(hs:Mr w g xs)(hn:xs.length<=1000):
 Calls prog 267 #[.slice (some ⟨g,0,none⟩) xs.length xs.length,.func (.func 268) #[] #[]] w λe w'=>e = .returned (.bool (yS xs))/\w=w':=by
 have H:=aqi (ahi g xs w hs hn);go_enter func267,ntmps267;go_wp2_with fail;refine H.out.mono ?_;rintro e w' ⟨n,rfl,hn,rfl⟩;have HN:=aqi hn;clear hn;go_wp2;go_ret;refine⟨Lu ?_,rfl⟩;have:=HN.out;cases h:yS xs<;>simp[h]at this ⊢ <;> omega
def WO(g:Nat)(xs:List (Option Addr×Nat×Nat))(w:World)(hs:Mr w g xs)(hn:xs.length<=1000):
 Calls prog 230 #[.slice (some ⟨g,0,none⟩) xs.length xs.length] w λe w'=>e = .returned (.bool (yS xs))/\w=w':=by
 have H:=aqi (adP g xs w hs hn);go_enter func230,ntmps230;go_wp2_with fail;refine H.out.mono ?_;rintro e w' ⟨rfl,rfl⟩;go_wp2;go_ret;exact⟨rfl,rfl⟩
def Pr(g:Nat)(A:Option Addr)(n c:Nat)(w:World)(b:Bool)(h:w.cell? ⟨g,0,none⟩=some (.slice A n c))(hb:b=decide (256<n)):
 Calls prog 230 #[.slice (some ⟨g,0,none⟩) 1 1] w λe w'=>e = .returned (.bool b)/\w=w':=by
 have:=WO g [(A,n,c)] w (λi x hx=>by
  obtain⟨h1,h2⟩:=cE.1 hx;obtain rfl:i=0:=by simp at h1;omega
  simp at h2;subst h2;exact h) aH 
 simpa[yS,hb]using this
def WN(g:Nat)(A B:Option Addr)(n c m d:Nat)(w:World)(b:Bool)(h:w.cell? ⟨g,0,none⟩=some (.slice A n c))(k:w.cell? ⟨g,1,none⟩=some (.slice B m d))(hb:b=(decide (256<n)||decide (256<m))):
 Calls prog 230 #[.slice (some ⟨g,0,none⟩) 2 2] w λe w'=>e = .returned (.bool b)/\w=w':=by
 have:=WO g [(A,n,c),(B,m,d)] w (λi x hx=>by
  obtain⟨h1,h2⟩:=cE.1 hx;simp at h1;rcases i with _|_|i
  .simp at h2;subst h2;exact h
  .simp at h2;subst h2;exact k
  .omega) aH 
 simpa[yS,hb]using this
def Ie(A:Option Addr)(c:Nat)(L:List Nat)(w:World)(hs:Sl w A c L)(hl:(iT L).length<=256):
 Calls prog 231 #[.slice A L.length c] w (Ek w (iT L) 0):=by
 have hT:=aqi (wL A c L w hs);have lj:=hs.vO;have hC:=hs.cap;have hL:=hs.rO;have H2:=aqi (λw' (h:Sl w' A c (iT L))=>MZ A c (iT L) w' h);generalize iT L=M at *
 obtain⟨n,hn⟩:∃ n,n=M.length:=⟨_,rfl⟩
 rw[<-hn]at hT hl H2;have HN:=aqi hn;clear hn;go_enter func231,ntmps231;go_wp2_with fail;refine hT.out.mono ?_;rintro e w' ⟨rfl,rfl⟩;go_wp2_with fail;refine(Pr _ A n c _ false ?_ aN).mono ?_
 .go_simp
 rintro e w' ⟨rfl,rfl⟩;go_wp2_with fail;refine(H2.out _ (lj.alloc _)).mono ?_;rintro e w' ⟨rfl,rfl⟩;go_wp2;go_ret2;exact⟨A,n,by rw[HN.out];rfl,by have:=lj.SI.alloc (.cells #[.slice A n c] 29);rw[HN.out]at this ⊢;exact this,iV.alloc _ _⟩
def L3(a b:Nat)(ha:a<18446744073709551616)(hb:b<18446744073709551616):bits .or .u64 (a:Int) (b:Int)=((a |||b:Nat):Int):=by
 have hx:a |||b<2^64:=apU aC aC 
 have h1:(BitVec.ofInt 64 (a:Int)).toNat=a:=by
  rw[ado,aps];exact cH aC 
 have h2:(BitVec.ofInt 64 (b:Int)).toNat=b:=by
  rw[ado,aps];exact cH aC 
 show IntKind.u64.wrap ((BitVec.ofInt 64 (a:Int) |||BitVec.ofInt 64 (b:Int)).toNat:Int)=_;rw[BitVec.toNat_or,h1,h2,IntKind.wrap_u64];omega
def K4(a b k:Nat)(h:a<2^k):a |||b*2^k=a+b*2^k:=by
 rw[bT,Nat.or_comm,<-Nat.two_pow_add_eq_or_of_lt h];omega
def Sl.drop{w:World}{A:Option Addr}{c:Nat}{L:List Nat}(h:Sl w A c L)(k:Nat):Sl w (A.map (·.add k)) (c-k) (L.drop k):=
 ⟨by have:=h.cap;rw[fe];omega,bH (fA _ _) h.rO,h.ok.drop k,(λe=>by
  rcases A with _|ad
  .rw [h.zL rfl];omega
  .cases e),λi x hx=>by
  rw[dN]at hx;obtain⟨b,o,rfl,h1,h2⟩:=h.cell _ _ hx;exact⟨b,o+k,by rw[cM,CP],h1,by rw[dq];exact h2⟩⟩
def part(T:List Nat)(k:Nat):List Nat:=T.take k++List.replicate (T.length-k) 0
def ajT(T:List Nat):part T 0=List.replicate T.length 0:=by unfold part;simp
def ajR(T:List Nat):part T T.length=T:=by unfold part;simp
def ajS(T:List Nat)(k:Nat)(h:k<T.length):(part T k)[k]? = some 0:=by
 unfold part;rw[fK bc,cF,fB,bB aC]
def XY(T:List Nat)(k x:Nat)(h:T[k]? = some x):(part T k).set k x=part T (k+1):=by
 obtain⟨h1,rfl⟩:=cE.1 h;unfold part;rw[List.set_append_right _ _ bc,cF,dF aC,dA,
  gq h1,(aC:T.length-k=(T.length-(k+1))+1),List.replicate_succ,List.set_cons_zero,gZ]
 rfl
def amD(x y s:Nat)(hx:x<4294967296)(hy:y<4294967296):
 bits BinOp.or IntKind.u64 (x:Int) ((y:Int)*4294967296)/2^s%4294967296=(((x+4294967296*y)/2^s%4294967296:Nat):Int):=by
 have e:((y:Int)*4294967296)=((y*2^32:Nat):Int):= aH ;rw[e,L3 x (y*2^32) aC aC,K4 x y 32 aC];simp[bT]
def amE(x s:Nat):(x:Int)/2^s%4294967296=(((x+4294967296*0)/2^s%4294967296:Nat):Int):=by
 simp
def PK(A:Option Addr)(c:Nat)(L:List Nat)(n:Nat)(w:World)(hs:Sl w A c L)(hlen:L.length<=100000000)(hn:n<=65536):
 Calls prog 232 #[.slice A L.length c,.int .i64 n] w (vU w (rI (n%32) ((iT L).drop (n/32)))):=by
 have hT:=aqi (wL A c L w hs);have lj:=hs.vO;have o9:=qw L;have hC:=lj.cap;have hL:=hs.rO;unfold np at o9;generalize iT L=M at *
 obtain⟨m,hm⟩:∃ m,m=M.length:=⟨_,rfl⟩
 rw[<-hm]at hT o9 hC;have HM:=aqi hm;clear hm;by_cases h0:m<=n/32
 .go_enter func232,ntmps232;go_wp2_with fail;refine hT.out.mono ?_;rintro e w' ⟨rfl,rfl⟩;go_wp2;go_ret;have:M.drop (n/32)=[]:=eO (by rw[<-HM.out];exact h0);rw[this];exact⟨none,0,rfl,Sl.nil _,iV.refl _⟩
 .obtain ⟨ab,ao,rfl,_,_⟩:=lj.mS (i:=0) (by have:=HM.out;omega);have hK:=lj.drop (n/32);have wo:=aqi (show m-n/32=(M.drop (n/32)).length by rw[fe,HM.out]);have pv:n/32<c:= aC ;have qT:=Hy (m-n/32) aC;have nJ:0<m-n/32:= aC ;have ze:m-n/32<=100000000:= aC ;generalize M.drop (n/32)=K at *
  simp only[cM,CP]at hK;have BT:=aqi (LK (n%32) K);have N6:=aqi (ZP (n%32) K);have GP:=aqi (Cj (n%32) K);generalize rI (n%32) K=T at *
  go_enter func232,ntmps232;go_wp2_with fail;refine hT.out.mono ?_;rintro e w' ⟨rfl,rfl⟩;go_wp2;go_loopw [25] (λi wr=>∃ k:Nat,k<=m-n/32/\i = .int .i64 k/\Rw wr w.heap.size (part T k)/\iV w wr) (λi _=>m-n/32-(intOf i).toNat)
  case atStart=>
   refine⟨0,cj _,rfl,?_,iV.alloc _ _⟩;rw[ajT,BT.out,<-wo.out];exact Rw.AS _ _
  case round=>
   obtain⟨k,hk,rfl,hR,hb⟩:=hrel;by_cases iK:k<m-n/32
   .have wu:k<K.length:=by have:=wo.out;omega
    obtain⟨ab',ao',e',_,c1⟩:=(hK.below hb).mS wu;cases e';have hg:=N6.out k wu;have nK:K[k]<4294967296:=hK.ok.get wu;have HK:=aqi (bJ wu);have c3:=hR.cell (ajS T k (by have:=BT.out;omega));have c4:=hR.frozen k;by_cases Kl:k+1<m-n/32
    .have AB:k+1<K.length:=by have:=wo.out;omega
     obtain⟨ab',ao',e',_,c2⟩:=(hK.below hb).mS AB;cases e';have hy:K.getD (k+1) 0=K[k+1]:=by rw[bE,bJ AB];rfl
     rw[hy]at hg;have rh:K[k+1]<4294967296:=hK.ok.get AB;have HG:=aqi hg;clear hg hy;generalize K[k]=x at *
     generalize K[k+1]=y at *
     clear wu AB;go_wp2;go_roundw
     case rel=>
      rw[amD x y (n%32) nK rh];exact⟨k+1,aC,by go_num,by rw[<-XY T k _ HG.out];exact hR.set k _,hb.setCell (bF _) _⟩
     case measure=>simp[intOf];omega
    .have hy:K.getD (k+1) 0=0:=by rw[bE,cz (by have:=wo.out;omega)];rfl
     rw[hy]at hg;have HG:=aqi hg;clear hg hy;generalize K[k]=x at *
     clear wu;go_wp2;go_roundw
     case rel=>
      rw[amE x (n%32)];exact⟨k+1,aC,by go_num,by rw[<-XY T k _ HG.out];exact hR.set k _,hb.setCell (bF _) _⟩
     case measure=>simp[intOf];omega
   .go_wp2;go_ret;obtain rfl:k=m-n/32:= aC ;rw[wo.out,<-BT.out,ajR]at hR;have:=hR.sl GP.out (by have:=BT.out;have:=wo.out;omega);rw[BT.out,<-wo.out]at this;exact⟨_,_,by rw[BT.out,<-wo.out];rfl,this,hb⟩
def amC{L:List Nat}(h:iZ L)(n:Nat):iT (rI (n%32) ((iT L).drop (n/32)))=ij (val L/2^n):=by
 rw[sx (Cj _ _),L7 h.iT,qZ]
def Rs(w:World)(A:Option Addr)(n c:Nat):(w.alloc (.cells #[.slice A n c] 29)).cell? ⟨w.heap.size,0,none⟩=some (.slice A n c):=by
 rw[World.cell?_alloc_at _ _ _ _ rfl];rfl
def Rt(w:World)(A B:Option Addr)(n c m d:Nat):(w.alloc (.cells #[.slice A n c,.slice B m d] 29)).cell? ⟨w.heap.size,0,none⟩=some (.slice A n c):=by
 rw[World.cell?_alloc_at _ _ _ _ rfl];rfl
def Ru(w:World)(A B:Option Addr)(n c m d:Nat):(w.alloc (.cells #[.slice A n c,.slice B m d] 29)).cell? ⟨w.heap.size,1,none⟩=some (.slice B m d):=by
 rw[World.cell?_alloc_at _ _ _ _ rfl];rfl
def Xq(A:Option Addr)(c:Nat)(L:List Nat)(n:Nat)(w:World)(hs:Sl w A c L)(hlen:L.length<=256)(hn:n<=65536):
 Calls prog 175 #[.slice A L.length c,.int .i64 n] w (Ek w (ij (val L/2^n)) 0):=by
 have hf:decide (256<L.length)=false:= aN ;have h3:=aqi (amC hs.ok n);have h4:(iT (rI (n%32) ((iT L).drop (n/32)))).length<=256:=by
  have h1:=qw (rI (n%32) ((iT L).drop (n/32)));unfold np at h1;rw[LK,fe]at h1;have h2:=qw L;unfold np at h2;omega
 have H1:=aqi (λw (h:Sl w A c L)=>PK A c L n w h aC hn);generalize rI (n%32) ((iT L).drop (n/32))=T at *
 go_enter func175,ntmps175;go_wp2_with fail;refine(Pr _ A _ c _ false (Rs _ _ _ _) aN).mono ?_;rintro e w' ⟨rfl,rfl⟩;go_wp2_with fail;refine(H1.out _ (hs.alloc _)).mono ?_;rintro e w' ⟨A',c',rfl,pN,hb⟩;go_wp2_with fail;refine(Ie A' c' T _ pN h4).mono ?_;rintro e w'' ⟨A'',c'',rfl,sL,ns⟩;go_wp2;go_ret2;rw[<-h3.out];exact⟨A'',c'',rfl,sL,(iV.alloc _ _).trans (hb.trans ns)⟩
def Ps(n c:Nat)(hc:n<=c)(hn:c<=10000000000)(w:World):
 (Instr.makeSlice 29 (.int .i64 (n:Int)) (.int .i64 (c:Int))).run prog w = .ok (.slice (some ⟨w.heap.size,0,none⟩) n c) (w.alloc (.cells (pn (List.replicate c 0)).toArray 171)):=by
 obtain⟨i,hi,hz,h1,h2⟩:=info_parts O7;have hr:=run_make (P:=prog) w 29 171 i _ underlying29 hi hz .i64 .i64 n c aC aC (by rw[h2];omega) aC;rw[hr,gE,gE,h1,cI];refine congrArg (λcs=>Result.ok (Value.slice (some ⟨w.heap.size,0,none⟩) n c) (w.alloc (.cells cs 171))) ?_;apply Array.ext
 .simp [madeCells,pn]
 .intro i h1 h2;simp[madeCells,pn,Value.cells,dZ]
def Ow.AS(w:World)(base n c:Nat)(hb:base<=w.heap.size)(hc:n<=c)(hn:c<=10000000000):
 Ow (w.alloc (.cells (pn (List.replicate c 0)).toArray 171)) base (.slice (some ⟨w.heap.size,0,none⟩) n c) (List.replicate n 0):=
 ⟨⟨by simp[pn],.inr ⟨w.heap.size,c,_,aH,hb,heap_alloc_new w _,by simpa using hc,by simp only[maxLen];omega,by simp[pn],by
  simp[pn,List.take_replicate,dF hc]⟩⟩,iZ.FI n⟩
def iV.own{w w1 w2:World}(h:iV w w1)(v:Value)(L:List Nat)(ho:Ow w1 w.heap.size v L)(hg:w1.grownBy w2 v.ownBlock):iV w w2:=
 h.grown hg h.size (λk hk=>(ho.row.lt k hk).1)
def QU(x q s:Nat)(hx:x<4294967296)(hs:s<32)(hq:q<2^s):
 bits BinOp.or IntKind.u64 (IntKind.u64.wrap ((x:Int)*2^s)) (q:Int)=((x*2^s+q:Nat):Int)/\x*2^s+q<18446744073709551616/\(x*2^s+q)/4294967296<2^s:=by
 have hp:2^s<=2^31:=b5 aE aC;have e31:(2:Nat)^31=2147483648:= aE ;have h1:(x+1)*2^s<=4294967296*2^s:=bY _ hx;rw[cr,cv]at h1;have h2:x*2^s<4294967296*2^s:=dG hx (bL aE);refine⟨?_,aC,aC⟩;have e:((x:Int)*2^s)=((x*2^s:Nat):Int):= aH ;rw[e,IntKind.wrap_u64,show((x*2^s:Nat):Int)%18446744073709551616=((x*2^s:Nat):Int)by omega,L3 _ _ aC aC,Nat.or_comm,K4 q x s hq,Nat.add_comm]
def Xu(A:Option Addr)(c:Nat)(L:List Nat)(n:Nat)(w:World)(hs:Sl w A c L)(hlen:L.length<=100000000)(hn:n<=65536):
 Calls prog 293 #[.slice A L.length c,.int .i64 n] w (λe w'=>∃ T,val T=val L*2^n/\iZ T/\T.length=n/32+(iT L).length+1/\vU w T e w'):=by
 have hT:=aqi (wL A c L w hs);have lj:=hs.vO;have o9:=qw L;have hC:=lj.cap;have hL:=hs.rO;unfold np at o9;have hv:=aqi (qZ L);generalize iT L=M at *
 obtain⟨m,hm⟩:∃ m,m=M.length:=⟨_,rfl⟩
 rw[<-hm]at hT o9 hC;have HM:=aqi hm;clear hm;have qT:=Ps (n/32) (n/32+m+1) aC aC;rw[show((n/32:Nat):Int)=n/32 by omega,show((n/32+m+1:Nat):Int)=n/32+m+1 by omega]at qT;have GN:=aqi (Ow.AS w w.heap.size (n/32) (n/32+m+1) (bF _) aC aC);go_enter func293,ntmps293;go_wp2_with fail;refine hT.out.mono ?_;rintro e w' ⟨rfl,rfl⟩;go_wp2;go_loopw [5,6,23] (λv cy i wr=>∃ (k q:Nat) (O:List Nat),k<=m/\i = .int .i64 k/\cy = .int .u64 q/\q<2^(n%32)/\O.length=n/32+k/\val O+4294967296^(n/32+k)*q=val (M.take k)*2^(n%32)*4294967296^(n/32)/\Ow wr w.heap.size v O/\iV w wr) (λ_ _ i _=>m-(intOf i).toNat)
 case atStart=>
  exact⟨0,0,List.replicate (n/32) 0,cj _,rfl,rfl,bL aE,aH,by simp[CI],GN.out,iV.alloc _ _⟩
 case round=>
  obtain⟨k,q,O,hk,rfl,rfl,hq,hO,lV,lQ,hb⟩:=hrel;have HV:=aqi lV;have HO:=aqi hO;have GL:O.length<=200000000:= aC ;have xr:=aqi hq;clear lV hO hq;obtain⟨OA,Oc,rfl,yo⟩:=lQ.sl;by_cases iK:k<m
  .have qp:k<M.length:=by have:=HM.out;omega
   obtain⟨ab,ao,rfl,_,c1⟩:=(lj.below hb).mS qp;have nK:M[k]<4294967296:=lj.ok.get qp;have HX:=aqi (QT (c:=q) (s:=n%32) (n0:=n/32) qp HO.out HV.out);generalize M[k]=x at *
   obtain⟨hw,xw,xx⟩:=QU x q (n%32) nK (bV _ aE) xr.out;generalize x*2^(n%32)+q=z at *
   have Dz:=aqi xx;clear xx;have lL:O.length+[z%4294967296].length<=10000000000:= aN ;go_wp2_with (at_builtin;go_must (refine tA aG _ _ aG w.heap.size _ O aG (lQ.alloc _) _ _ _ [z%4294967296] aG aG (Sl.vI _ _ (z%4294967296) aC aC) lL (sN hb.size _) ?_);intro v' w1 pL hg qR)
   go_roundw
   case rel=>
    exact⟨k+1,z/4294967296,O++[z%4294967296],aC,by go_num,by go_num,Dz.out,by rw[cC,HO.out];rfl,HX.out,pL,(hb.trans (iV.alloc _ _)).own _ _ (lQ.alloc _) hg⟩
   case measure=>simp[intOf];omega
  .obtain rfl:k=m:= aC ;have lL:O.length+[q].length<=10000000000:= aN ;have Ku:q<4294967296:=by
    have:=xr.out;have hp:2^(n%32)<=2^31:=b5 aE aC;have e31:(2:Nat)^31=2147483648:= aE ;omega
   have Vi:(q:Int)%4294967296=q:= aC ;go_wp2_with (at_builtin;go_must (refine tA aG _ _ aG w.heap.size _ O aG (lQ.alloc _) _ _ _ [q] aG aG (Sl.vI _ _ q aC aC) lL (sN hb.size _) ?_);intro v' w1 pL hg qR)
   obtain⟨A',c',rfl,pN⟩:=pL.sl;go_ret;refine⟨O++[q],?_,pN.ok,by rw[cC,HO.out,<-HM.out];rfl,A',c',rfl,pN,(hb.trans (iV.alloc _ _)).own _ _ (lQ.alloc _) hg⟩;have h:=HV.out;rw[cW (by rw[HM.out];exact bF _)]at h;rw[wY,HO.out,rJ,Bh,cT,cg,h,<-hv.out,ui,bO,<-bK];congr 2;omega
def Xn(A:Option Addr)(c:Nat)(L:List Nat)(n:Nat)(w:World)(hs:Sl w A c L)(hlen:L.length<=256)(hn:n<=65536)(sj:(ij (val L*2^n)).length<=256):
 Calls prog 261 #[.slice A L.length c,.int .i64 n] w (Ek w (ij (val L*2^n)) 0):=by
 have H1:=aqi (λw (h:Sl w A c L)=>Xu A c L n w h aC hn);obtain⟨R,hR⟩:∃ R,R=ij (val L*2^n):=⟨_,rfl⟩
 rw[<-hR]at sj ⊢;have HR:=aqi hR;clear hR;go_enter func261,ntmps261;go_wp2_with fail;refine(Pr _ A _ c _ false (Rs _ _ _ _) aN).mono ?_;rintro e w' ⟨rfl,rfl⟩;go_wp2_with fail;refine(H1.out _ (hs.alloc _)).mono ?_;rintro e w' ⟨T,hT,GP,-,A',c',rfl,pN,hb⟩;have h3:=aqi (show iT T=R by rw[sx GP,hT,HR.out]);clear hT GP;go_wp2_with fail;refine(Ie A' c' T _ pN (by rw[h3.out];exact sj)).mono ?_;rintro e w'' ⟨A'',c'',rfl,sL,ns⟩;go_wp2;go_ret2;rw[<-h3.out];exact⟨A'',c'',rfl,sL,(iV.alloc _ _).trans (hb.trans ns)⟩
def amA(A:Option Addr)(c:Nat)(L:List Nat)(n:Nat)(w:World)(hs:Sl w A c L)(hlen:L.length<=256)(hn:n<=65536)(sj:(ij (val L*2^n)).length<=256):
 Calls prog 220 #[.slice A L.length c,.int .i64 n] w (vU w (ij (val L*2^n))):=by
 have H1:=aqi (Xn A c L n w hs hlen hn sj);generalize ij (val L*2^n)=R at *
 go_enter func220,ntmps220;go_wp2_with fail;refine H1.out.mono ?_;rintro e w'' ⟨A'',c'',rfl,sL,ns⟩;go_wp2;go_ret;exact⟨A'',c'',rfl,sL,ns⟩
def an5(a b:Nat)(ha:a<18446744073709551616)(hb:b<18446744073709551616):bits .and .u64 (a:Int) (b:Int)=((a &&& b:Nat):Int):=by
 have hx:a &&& b<2^64:=fS _ aC;have h1:(BitVec.ofInt 64 (a:Int)).toNat=a:=by
  rw[ado,aps];exact cH aC 
 have h2:(BitVec.ofInt 64 (b:Int)).toNat=b:=by
  rw[ado,aps];exact cH aC 
 show IntKind.u64.wrap ((BitVec.ofInt 64 (a:Int) &&& BitVec.ofInt 64 (b:Int)).toNat:Int)=_;rw[BitVec.toNat_and,h1,h2,IntKind.wrap_u64];omega
def Ai(z:Nat)(hz:z<18446744073709551616):bits BinOp.and IntKind.u64 (z:Int) 4294967295=(z:Int)%4294967296:=by
 have e:(4294967295:Int)=((4294967295:Nat):Int):=rfl;rw[e,an5 z _ hz aC,show(4294967295:Nat)=2^32-1 by decide,ap9];simp
def ak0(A:Option Addr)(c:Nat)(M:List Nat)(n:Nat)(w:World)(lj:Sl w A c M)(hlen:M.length<=1000)(hn:n<=65536):
 Calls prog 168 #[.slice A M.length c,.int .i64 n] w (vU w (ij (val M*2^n))):=by
 have hC:=lj.cap;have hL:=lj.rO;obtain⟨m,hm⟩:∃ m,m=M.length:=⟨_,rfl⟩
 rw[<-hm]at hlen hC ⊢;have HM:=aqi hm;clear hm;have qT:=Ps (n/32) (n/32) aC aC;rw[show((n/32:Nat):Int)=n/32 by omega]at qT;have GN:=aqi (Ow.AS w w.heap.size (n/32) (n/32) (bF _) aC aC);go_enter func168,ntmps168;go_wp2;go_loopw [5,6,7] (λv cy i wr=>∃ (k q:Nat) (O:List Nat),k<=m/\i = .int .i64 k/\cy = .int .u64 q/\q<2^(n%32)/\O.length=n/32+k/\val O+4294967296^(n/32+k)*q=val (M.take k)*2^(n%32)*4294967296^(n/32)/\Ow wr w.heap.size v O/\iV w wr) (λ_ _ i _=>m-(intOf i).toNat)
 case atStart=>
  exact⟨0,0,List.replicate (n/32) 0,cj _,rfl,rfl,bL aE,aH,by simp[CI],GN.out,iV.alloc _ _⟩
 case round=>
  obtain⟨k,q,O,hk,rfl,rfl,hq,hO,lV,lQ,hb⟩:=hrel;have HV:=aqi lV;have HO:=aqi hO;have GL:O.length<=3100:= aC ;have xr:=aqi hq;clear lV hO hq;obtain⟨OA,Oc,rfl,yo⟩:=lQ.sl;by_cases iK:k<m
  .have qp:k<M.length:=by have:=HM.out;omega
   obtain⟨ab,ao,rfl,_,c1⟩:=(lj.below hb).mS qp;have nK:M[k]<4294967296:=lj.ok.get qp;have HX:=aqi (QT (c:=q) (s:=n%32) (n0:=n/32) qp HO.out HV.out);generalize M[k]=x at *
   obtain⟨hw,xw,xx⟩:=QU x q (n%32) nK (bV _ aE) xr.out;generalize x*2^(n%32)+q=z at *
   have Dz:=aqi xx;clear xx;have lL:O.length+[z%4294967296].length<=10000000000:= aN ;have AF:=Ai z xw;go_wp2_with (at_builtin;go_must (refine tA aG _ _ aG w.heap.size _ O aG (lQ.alloc _) _ _ _ [z%4294967296] aG aG (Sl.vI _ _ (z%4294967296) aC aC) lL (sN hb.size _) ?_);intro v' w1 pL hg qR)
   go_roundw
   case rel=>
    exact⟨k+1,z/4294967296,O++[z%4294967296],aC,by go_num,by go_num,Dz.out,by rw[cC,HO.out];rfl,HX.out,pL,(hb.trans (iV.alloc _ _)).own _ _ (lQ.alloc _) hg⟩
   case measure=>simp[intOf];omega
  .obtain rfl:k=m:= aC ;have lL:O.length+[q].length<=10000000000:= aN ;have Ku:q<4294967296:=by
    have:=xr.out;have hp:2^(n%32)<=2^31:=b5 aE aC;have e31:(2:Nat)^31=2147483648:= aE ;omega
   have Vi:(q:Int)%4294967296=q:= aC ;have yh:Hid (iT (O++[q])=ij (val M*2^n)):=by
    show iT (O++[q])=ij (val M*2^n);rw[sx (lQ.ok.append (iZ.cons Ku iZ.nil))];have h:=HV.out;rw[cW (by rw[HM.out];exact bF _)]at h;rw[wY,HO.out,rJ,Bh,cT,cg,h,ui,bO,<-bK];congr 3;omega
   go_wp2_with (at_builtin;go_must (refine tA aG _ _ aG w.heap.size _ O aG (lQ.alloc _) _ _ _ [q] aG aG (Sl.vI _ _ q aC aC) lL (sN hb.size _) ?_);intro v' w1 pL hg qR;obtain⟨P,hP⟩:∃ P,P=O++[q]:=⟨_,rfl⟩;rw[<-hP]at pL yh;have J3:P.length<=3101:=(by rw[hP];simp;omega);clear hP;obtain⟨A',c',rfl,pN⟩:=pL.sl)
   refine(FH A' c' P _ pN aC).mono ?_;rintro e w' ⟨A'',c'',rfl,sL,ns⟩;go_wp2;go_ret;rw[<-yh.out];exact⟨A'',c'',rfl,sL,((hb.trans (iV.alloc _ _)).own _ _ (lQ.alloc _) hg).trans ns⟩
def amG(x y s:Nat)(hx:x<4294967296)(hy:y<4294967296):
 bits BinOp.and IntKind.u64 (bits BinOp.or IntKind.u64 (x:Int) ((y:Int)*4294967296)/2^s) 4294967295=(((x+4294967296*y)/2^s%4294967296:Nat):Int):=by
 have e:((y:Int)*4294967296)=((y*2^32:Nat):Int):= aH ;rw[e,L3 x (y*2^32) aC aC,K4 x y 32 aC];have h:(x+y*2^32)/2^s<18446744073709551616:=cQ (cw _ _) aC;have h2:=Ai _ h;rw[show(((x+y*2^32:Nat):Int)/2^s)=(((x+y*2^32)/2^s:Nat):Int)by simp,h2];simp[bT]
def amF(x s:Nat)(hx:x<4294967296):bits BinOp.and IntKind.u64 ((x:Int)/2^s) 4294967295=(((x+4294967296*0)/2^s%4294967296:Nat):Int):=by
 have h:x/2^s<18446744073709551616:=cQ (cw _ _) aC;rw[show((x:Int)/2^s)=((x/2^s:Nat):Int)by simp,Ai _ h];simp
def ak5(A:Option Addr)(c:Nat)(M:List Nat)(n:Nat)(w:World)(lj:Sl w A c M)(hlen:M.length<=3000)(hn:n<=100000):
 Calls prog 229 #[.slice A M.length c,.int .i64 n] w (vU w (ij (val M/2^n))):=by
 have hC:=lj.cap;have hL:=lj.rO;have yh:Hid (iT (rI (n%32) (M.drop (n/32)))=ij (val M/2^n)):=by
  show _=_;rw[sx (Cj _ _),L7 lj.ok]
 obtain⟨R,hR⟩:∃ R,R=ij (val M/2^n):=⟨_,rfl⟩
 rw[<-hR]at yh ⊢;clear hR;obtain⟨m,hm⟩:∃ m,m=M.length:=⟨_,rfl⟩
 rw[<-hm]at hlen hC ⊢;have HM:=aqi hm;clear hm;by_cases h0:m<=n/32
 .go_enter func229,ntmps229;go_wp2;go_ret;have:M.drop (n/32)=[]:=eO (by rw[<-HM.out];exact h0);have h:=yh.out;rw[this]at h;rw[<-h];exact⟨none,0,rfl,Sl.nil _,iV.refl _⟩
 .obtain ⟨ab,ao,rfl,_,_⟩:=lj.mS (i:=0) (by have:=HM.out;omega);have hK:=lj.drop (n/32);have wo:=aqi (show m-n/32=(M.drop (n/32)).length by rw[fe,HM.out]);have pv:n/32<c:= aC ;have nJ:0<m-n/32:= aC ;have ze:m-n/32<=3000:= aC ;generalize M.drop (n/32)=K at *
  simp only[cM,CP]at hK;have BT:=aqi (LK (n%32) K);have N6:=aqi (ZP (n%32) K);have GP:=aqi (Cj (n%32) K);generalize rI (n%32) K=T at *
  go_enter func229,ntmps229;go_wp2;go_loopw [5,6] (λv i wr=>∃ (k:Nat) (O:List Nat),k<=m-n/32/\i = .int .i64 k/\O=T.take k/\Ow wr w.heap.size v O/\iV w wr) (λ_ i _=>m-n/32-(intOf i).toNat)
  case atStart=>
   exact⟨0,[],cj _,rfl,aH,Ow.nil _ _,iV.refl _⟩
  case round=>
   obtain⟨k,O,hk,rfl,hO,lQ,hb⟩:=hrel;have GL:O.length<=3000:=by rw[hO,cF];omega
   have HO:=aqi hO;clear hO;obtain⟨OA,Oc,rfl,yo⟩:=lQ.sl;by_cases iK:k<m-n/32
   .have wu:k<K.length:=by have:=wo.out;omega
    obtain⟨ab',ao',e',_,c1⟩:=(hK.below hb).mS wu;cases e';have hg:=N6.out k wu;have nK:K[k]<4294967296:=hK.ok.get wu;have HK:=aqi (bJ wu);by_cases Kl:k+1<m-n/32
    .have AB:k+1<K.length:=by have:=wo.out;omega
     obtain⟨ab',ao',e',_,c2⟩:=(hK.below hb).mS AB;cases e';have hy:K.getD (k+1) 0=K[k+1]:=by rw[bE,bJ AB];rfl
     rw[hy]at hg;have rh:K[k+1]<4294967296:=hK.ok.get AB;have HG:=aqi hg;clear hg hy;generalize K[k]=x at *
     generalize K[k+1]=y at *
     clear wu AB;have hw:=amG x y (n%32) nK rh;have hz:(x+4294967296*y)/2^(n%32)%4294967296<4294967296:=bV _ aE;generalize (x+4294967296*y)/2^(n%32)%4294967296=z at *
     have lL:O.length+[z].length<=10000000000:= aN ;go_wp2_with (at_builtin;go_must (refine tA aG _ _ aG w.heap.size _ O aG (lQ.alloc _) _ _ _ [z] aG aG (Sl.vI _ _ z aC aC) lL (sN hb.size _) ?_);intro v' w1 pL hg qR)
     go_roundw
     case rel=>
      exact⟨k+1,O++[z],aC,by go_num,by rw[HO.out,apV,HG.out];rfl,pL,(hb.trans (iV.alloc _ _)).own _ _ (lQ.alloc _) hg⟩
     case measure=>simp[intOf];omega
    .have hy:K.getD (k+1) 0=0:=by rw[bE,cz (by have:=wo.out;omega)];rfl
     rw[hy]at hg;have HG:=aqi hg;clear hg hy;generalize K[k]=x at *
     clear wu;have hw:=amF x (n%32) nK;have hz:(x+4294967296*0)/2^(n%32)%4294967296<4294967296:=bV _ aE;generalize (x+4294967296*0)/2^(n%32)%4294967296=z at *
     have lL:O.length+[z].length<=10000000000:= aN ;go_wp2_with (at_builtin;go_must (refine tA aG _ _ aG w.heap.size _ O aG (lQ.alloc _) _ _ _ [z] aG aG (Sl.vI _ _ z aC aC) lL (sN hb.size _) ?_);intro v' w1 pL hg qR)
     go_roundw
     case rel=>
      exact⟨k+1,O++[z],aC,by go_num,by rw[HO.out,apV,HG.out];rfl,pL,(hb.trans (iV.alloc _ _)).own _ _ (lQ.alloc _) hg⟩
     case measure=>simp[intOf];omega
   .have hOT:Hid (iT O=R):=by
     show iT O=R;rw[HO.out,cW (by rw[BT.out,<-wo.out];omega)];exact yh.out
    go_wp2_with fail;refine(FH OA Oc O _ yo aC).mono ?_;rintro e w' ⟨A'',c'',rfl,sL,ns⟩;go_wp2;go_ret;rw[<-hOT.out];exact⟨A'',c'',rfl,sL,hb.trans ns⟩
def BP{L:List Nat}{k:Nat}(h:k<L.length):L.getD k 0=L[k]:=by
 rw[bE,bJ h];rfl
def ER{L:List Nat}{k:Nat}(h:¬k<L.length):L.getD k 0=0:=by
 rw[bE,cz aC];rfl
def ak4(A B:Option Addr)(c d:Nat)(L M:List Nat)(w:World)(hs:Sl w A c L)(hr:Sl w B d M)(h1:L.length<=3000)(h2:M.length<=3000):
 Calls prog 170 #[.slice A L.length c,.slice B M.length d] w (vU w (ij (val L+val M))):=by
 have HLl:=aqi (rfl:L.length=L.length);obtain⟨l,hl⟩:∃ l,l=L.length:=⟨_,rfl⟩
 obtain⟨m,hm⟩:∃ m,m=M.length:=⟨_,rfl⟩
 rw[<-hl]at h1 ⊢;rw[<-hm]at h2 ⊢;have HL:=aqi hl;have HM:=aqi hm;clear hl hm HLl;go_enter func170,ntmps170;go_wp2;go_loopw [5,6,7] (λv cy i wr=>∃ (k q:Nat) (O:List Nat),(k<=l\/k<=m)/\i = .int .i64 k/\cy = .int .u64 q/\q<=1/\O.length=k/\val O+4294967296^k*q=val (L.take k)+val (M.take k)/\Ow wr w.heap.size v O/\iV w wr) (λ_ _ i _=>3000-(intOf i).toNat)
 case atStart=>exact⟨0,0,[],.inl (cj _),rfl,rfl,aE,rfl,aH,Ow.nil _ _,iV.refl _⟩
 case round=>
  obtain⟨k,q,O,hk,rfl,rfl,hq,hO,lV,lQ,hb⟩:=hrel;have HS:=aqi (abk (x:=L.getD k 0) (y:=M.getD k 0) hO lV (xN L k) (xN M k));have HV:=aqi lV;have HO:=aqi hO;have GL:O.length<=3000:= aC ;have OB:k<=3000:= aC ;clear lV hO hk;obtain⟨OA,Oc,rfl,yo⟩:=lQ.sl;have AF:=λz:Nat=>λh:z<8589934593=>Ai z aC 
  by_cases hl:k<l
  .have U8:(k:Int)<l:= aC ;have wA:k<L.length:=by have:=HL.out;omega
   obtain⟨ab,ao,rfl,_,c1⟩:=(hs.below hb).mS wA;have nK:L[k]<4294967296:=hs.ok.get wA;rw[BP wA]at HS;generalize L[k]=x at *
   clear wA;by_cases hm:k<m
   .have Ko:(k:Int)<m:= aC ;have qp:k<M.length:=by have:=HM.out;omega
    obtain⟨bb,bo,rfl,_,c2⟩:=(hr.below hb).mS qp;have rh:M[k]<4294967296:=hr.ok.get qp;rw[BP qp]at HS;generalize M[k]=y at *
    clear qp;have qT:=AF (q+x+y) aC;simp only[gJ]at qT;clear AF;have lL:O.length+[(q+x+y)%4294967296].length<=10000000000:= aN ;go_wp2_with (at_builtin;go_must (refine tA aG _ _ aG w.heap.size _ O aG (lQ.alloc _) _ _ _ [(q+x+y)%4294967296] aG aG (Sl.vI _ _ ((q+x+y)%4294967296) aC aC) lL (sN hb.size _) ?_);intro v' w1 pL hg qR)
    go_roundw
    case rel=>
     exact⟨k+1,(q+x+y)/4294967296,O++[(q+x+y)%4294967296],aC,by go_num,by go_num,aC,by rw[cC,HO.out];rfl,HS.out,pL,(hb.trans (iV.alloc _ _)).own _ _ (lQ.alloc _) hg⟩
    case measure=>simp[intOf];omega
   .have Ko:¬(k:Int)<m:= aC ;rw[ER (by have:=HM.out;omega)]at HS;have qT:=AF (q+x+0) aC;simp only[gJ,cg]at qT;clear AF;have lL:O.length+[(q+x+0)%4294967296].length<=10000000000:= aN ;go_wp2_with (at_builtin;go_must (refine tA aG _ _ aG w.heap.size _ O aG (lQ.alloc _) _ _ _ [(q+x+0)%4294967296] aG aG (Sl.vI _ _ ((q+x+0)%4294967296) aC aC) lL (sN hb.size _) ?_);intro v' w1 pL hg qR)
    go_roundw
    case rel=>
     exact⟨k+1,(q+x+0)/4294967296,O++[(q+x+0)%4294967296],aC,by go_num,by go_num,aC,by rw[cC,HO.out];rfl,HS.out,pL,(hb.trans (iV.alloc _ _)).own _ _ (lQ.alloc _) hg⟩
    case measure=>simp[intOf];omega
  .have U8:¬(k:Int)<l:= aC ;have hlF:decide ((k:Int)<l)=false:=by simpa using U8
   rw[ER (L:=L) (by have:=HL.out;omega)]at HS;by_cases hm:k<m
   .have Ko:(k:Int)<m:= aC ;have qp:k<M.length:=by have:=HM.out;omega
    obtain⟨bb,bo,rfl,_,c2⟩:=(hr.below hb).mS qp;have rh:M[k]<4294967296:=hr.ok.get qp;rw[BP qp]at HS;generalize M[k]=y at *
    clear qp;have qT:=AF (q+0+y) aC;simp only[gJ,cg]at qT;clear AF;have lL:O.length+[(q+0+y)%4294967296].length<=10000000000:= aN ;go_wp2_with (at_builtin;go_must (refine tA aG _ _ aG w.heap.size _ O aG (lQ.alloc _) _ _ _ [(q+0+y)%4294967296] aG aG (Sl.vI _ _ ((q+0+y)%4294967296) aC aC) lL (sN hb.size _) ?_);intro v' w1 pL hg qR)
    go_roundw
    case rel=>
     exact⟨k+1,(q+0+y)/4294967296,O++[(q+0+y)%4294967296],aC,by go_num,by go_num,aC,by rw[cC,HO.out];rfl,HS.out,pL,(hb.trans (iV.alloc _ _)).own _ _ (lQ.alloc _) hg⟩
    case measure=>simp[intOf];omega
   .have Ko:¬(k:Int)<m:= aC ;clear AF;have Ku:(q:Int)%4294967296=q:= aC ;have yh:Hid (iT (O++[q])=ij (val L+val M)):=by
     show iT (O++[q])=_;rw[sx (lQ.ok.append (iZ.cons aC iZ.nil)),wY,HO.out];have h:=HV.out;rw[cW (by have:=HL.out;omega),cW (by have:=HM.out;omega)]at h;simp only[rJ,Bh,cT,cg];rw[h]
    have lL:O.length+[q].length<=10000000000:= aN ;go_wp2_with (at_builtin;go_must (refine tA aG _ _ aG w.heap.size _ O aG (lQ.alloc _) _ _ _ [q] aG aG (Sl.vI _ _ q aC aC) lL (sN hb.size _) ?_);intro v' w1 pL hg qR;obtain⟨P,hP⟩:∃ P,P=O++[q]:=⟨_,rfl⟩;rw[<-hP]at pL yh;have J3:P.length<=3001:=(by rw[hP];simp;omega);clear hP;obtain⟨A',c',rfl,pN⟩:=pL.sl)
    refine(FH A' c' P _ pN aC).mono ?_;rintro e w' ⟨A'',c'',rfl,sL,ns⟩;go_wp2;go_ret;rw[<-yh.out];exact⟨A'',c'',rfl,sL,((hb.trans (iV.alloc _ _)).own _ _ (lQ.alloc _) hg).trans ns⟩
def anZ(x s:Nat)(hx:x<4294967296):bits BinOp.and IntKind.u32 ((x:Int)/2^s) 1=((x/2^s%2:Nat):Int):=by
 have h:x/2^s<4294967296:=cQ (cw _ _) aC;rw[show((x:Int)/2^s)=((x/2^s:Nat):Int)by simp,show(1:Int)=((1:Nat):Int)from rfl,bits_and_u32_nat _ _ h aE,Nat.and_one_is_mod]
def ale(A:Option Addr)(c:Nat)(L:List Nat)(w:World)(hs:Sl w A c L)(h1:L.length<=3000)(h0:val L≠0):
 Calls prog 228 #[.slice A L.length c] w λe w'=>e = .returned (.int .i64 (kn (val L)))/\w=w':=by
 have hz:=Gj hs.ok h0;have HB:=aqi (λk (hk:k<kn (val L))=>ach h0 hk);have HE:=aqi (acg h0);have HV:=aqi (λk=>aci hs.ok k);generalize kn (val L)=t at *
 go_enter func228,ntmps228;go_wp2;go_loop [3] (λi=>∃ k:Nat,k<=t/\i = .int .i64 k) (λi=>t-(intOf i).toNat)
 case atStart=>exact⟨0,cj _,rfl⟩
 case round=>
  obtain⟨k,hk,rfl⟩:=hrel;have wA:k/32<L.length:= aC ;obtain⟨ab,ao,rfl,_,c1⟩:=hs.mS wA;have hv:=HV.out k wA;have nK:L[k/32]<4294967296:=hs.ok.get wA;generalize L[k/32]=x at *
  clear HV;have Df:=anZ x (k%32) nK;rw[<-hv]at Df;clear hv;by_cases hkt:k<t
  .rw [HB.out k hkt]at Df;have hb:(bits BinOp.and IntKind.u32 ((x:Int)/2^(k%32)) 1==0)=true:=by rw[Df];rfl
   clear Df;go_wp2;go_round
   case rel=>exact⟨k+1,aC,by go_num⟩
   case measure=>simp[intOf];omega
  .obtain rfl:k=t:= aC ;rw[HE.out]at Df;have hb:(bits BinOp.and IntKind.u32 ((x:Int)/2^(k%32)) 1==0)=false:=by rw[Df];rfl
   clear Df;go_wp2;go_ret;exact⟨rfl,rfl⟩
def ak1(A B:Option Addr)(c d:Nat)(L M:List Nat)(w:World)(hs:Sl w A c L)(hr:Sl w B d M)(h1:L.length<=3000)(h2:M.length<=L.length)(hle:val M<=val L):
 Calls prog 171 #[.slice A L.length c,.slice B M.length d] w (vU w (ij (val L-val M))):=by
 obtain⟨l,hl⟩:∃ l,l=L.length:=⟨_,rfl⟩
 obtain⟨m,hm⟩:∃ m,m=M.length:=⟨_,rfl⟩
 rw[<-hl]at h1 h2 ⊢;rw[<-hm]at h2 ⊢;have HL:=aqi hl;have HM:=aqi hm;clear hl hm;have HLE:=aqi hle;clear hle;go_enter func171,ntmps171;go_wp2;go_loopw [5,6,7] (λv cy i wr=>∃ (k q:Nat) (O:List Nat),k<=l/\i = .int .i64 k/\cy = .int .u64 q/\q<=1/\O.length=k/\val O+val (M.take k)=val (L.take k)+4294967296^k*q/\Ow wr w.heap.size v O/\iV w wr) (λ_ _ i _=>l-(intOf i).toNat)
 case atStart=>exact⟨0,0,[],cj _,rfl,rfl,aE,rfl,aH,Ow.nil _ _,iV.refl _⟩
 case round=>
  obtain⟨k,q,O,hk,rfl,rfl,hq,hO,lV,lQ,hb⟩:=hrel;have HS:=aqi (λ(x y:Nat) (e1:L.getD k 0=x) (e2:M.getD k 0=y) (dd c':Nat)=>am3 (x:=x) (y:=y) (d:=dd) (c':=c') hO lV ((xN L k).trans (by rw[e1])) ((xN M k).trans (by rw[e2])));have HV:=aqi lV;have HO:=aqi hO;have GL:O.length<=3000:= aC ;clear lV hO;obtain⟨OA,Oc,rfl,yo⟩:=lQ.sl;by_cases hl:k<l
  .have wA:k<L.length:=by have:=HL.out;omega
   obtain⟨ab,ao,rfl,_,c1⟩:=(hs.below hb).mS wA;have nK:L[k]<4294967296:=hs.ok.get wA;have HX:=aqi (BP wA);generalize L[k]=x at *
   clear wA;by_cases hm:k<m
   .have qp:k<M.length:=by have:=HM.out;omega
    obtain⟨bb,bo,rfl,_,c2⟩:=(hr.below hb).mS qp;have rh:M[k]<4294967296:=hr.ok.get qp;have HY:=aqi (BP qp);generalize M[k]=y at *
    clear qp;have qT:=Ai (x+4294967296-(q+y)) aC;rw[show((x+4294967296-(q+y):Nat):Int)=x+4294967296-(q+y)by omega]at qT;have lL:O.length+[(x+4294967296-(q+y))%4294967296].length<=10000000000:= aN ;go_wp2_with (at_builtin;go_must (refine tA aG _ _ aG w.heap.size _ O aG (lQ.alloc _) _ _ _ [(x+4294967296-(q+y))%4294967296] aG aG (Sl.vI _ _ ((x+4294967296-(q+y))%4294967296) aC aC) lL (sN hb.size _) ?_);intro v' w1 pL hg qR)
    go_roundw
    case rel=>
     exact⟨k+1,1-(x+4294967296-(q+y))/4294967296,O++[(x+4294967296-(q+y))%4294967296],aC,by go_num,by rw[show(1-((x:Int)+4294967296-(q+y))/4294967296)=((1-(x+4294967296-(q+y))/4294967296:Nat):Int)by omega],aC,by rw[cC,HO.out];rfl,HS.out x y HX.out HY.out _ _ aC,pL,(hb.trans (iV.alloc _ _)).own _ _ (lQ.alloc _) hg⟩
    case measure=>simp[intOf];omega
   .have Ko:¬(k:Int)<m:= aC ;have HY:=aqi (ER (L:=M) (k:=k) (by have:=HM.out;omega));have qT:=Ai (x+4294967296-q) aC;rw[show((x+4294967296-q:Nat):Int)=x+4294967296-q by omega]at qT;have lL:O.length+[(x+4294967296-q)%4294967296].length<=10000000000:= aN ;go_wp2_with (at_builtin;go_must (refine tA aG _ _ aG w.heap.size _ O aG (lQ.alloc _) _ _ _ [(x+4294967296-q)%4294967296] aG aG (Sl.vI _ _ ((x+4294967296-q)%4294967296) aC aC) lL (sN hb.size _) ?_);intro v' w1 pL hg qR)
    go_roundw
    case rel=>
     exact⟨k+1,1-(x+4294967296-q)/4294967296,O++[(x+4294967296-q)%4294967296],aC,by go_num,by rw[show(1-((x:Int)+4294967296-q)/4294967296)=((1-(x+4294967296-q)/4294967296:Nat):Int)by omega],aC,by rw[cC,HO.out];rfl,HS.out x 0 HX.out HY.out _ _ aC,pL,(hb.trans (iV.alloc _ _)).own _ _ (lQ.alloc _) hg⟩
    case measure=>simp[intOf];omega
  .obtain rfl:k=l:= aC ;have yh:Hid (iT O=ij (val L-val M)):=by
    show iT O=_;have h:=HV.out;rw[cW (l:=L) (by have:=HL.out;omega),cW (l:=M) (by have:=HM.out;omega)]at h;rw[sx lQ.ok,(Z6 lQ.ok HO.out h HLE.out).2]
   go_wp2_with fail;refine(FH OA Oc O _ yo aC).mono ?_;rintro e w' ⟨A'',c'',rfl,sL,ns⟩;go_wp2;go_ret;rw[<-yh.out];exact⟨A'',c'',rfl,sL,hb.trans ns⟩
def Xf{O:List Nat}{p a b c o:Nat}(ho:O[p]? = some o):
 val (O.set p ((a*b+o+c)%4294967296))+4294967296^(p+1)*((a*b+o+c)/4294967296)=val O+4294967296^p*c+4294967296^p*(a*b):=by
 obtain⟨hp,rfl⟩:=cE.1 ho;have h:=Ra (x:=(a*b+O[p]+c)%4294967296) hp;have e:=congrArg (4294967296^p * ·) (eP (a*b+O[p]+c) 4294967296);simp only[b9]at e;rw[bS,bO];omega
def Sy{O:List Nat}{p c o:Nat}(ho:O[p]? = some o):
 val (O.set p ((o+c)%4294967296))+4294967296^(p+1)*((o+c)/4294967296)=val O+4294967296^p*c:=by
 have h:=Xf (a:=0) (b:=0) (c:=c) ho;simpa using h
def sR(x:Nat)(h:x<18446744073709551616):IntKind.u64.wrap (x:Int)=x:=by rw[IntKind.wrap_u64];omega
def Fp.iZ.ZI{L:List Nat}(h:iZ L)(k:Nat)(x:Nat):iZ (L.set k (x%4294967296)):=h.set k (bV _ aE)
def Li(s:Bool)(A:Option Addr)(c:Nat)(L:List Nat)(e:Int)(w:World)(hs:Sl w A c L)(hlen:L.length<=3000)(mP:-1000000<=e)(lZ:e<=1000000):
 Calls prog 169 #[.bool s,.slice A L.length c,.int .i64 e] w (yW w (canon s (val L) e)):=by
 by_cases h0:val L=0
 .have pV:=aqi (show canon s (val L) e=iS by unfold canon;rw[bB h0];rfl);have OQ:iT L=[]:=by rw[sx hs.ok,h0,oV]
  have hT:=aqi (λw (h:Sl w A c L)=>FH A c L w h aC);rw[OQ]at hT;clear OQ h0;go_enter func169,ntmps169;go_wp2_with fail;refine(hT.out _ (hs.alloc _)).mono ?_;rintro e w' ⟨A',c',rfl,pN,hb⟩;have bx:=(j8.new w false none 0 0 0).ext hb;have b0:=bx.c0;have b1:=bx.c1;have b2:=bx.c2;have f0:=bx.fr 0;have f1:=bx.fr 1;have f2:=bx.fr 2;go_wp2;rw[pV.out];have hz:ij iS.m=[]:=oV;exact vY rfl rfl rfl (bx.set _ _ _ _ _) (by rw[hz];rfl) (by rw[hz];exact bx.wS (Sl.nil _) _ _ _ _ _) (j8.vL ((iV.alloc _ _).trans hb) (bF _) _ _ _ _ _)
 .have pV:=aqi (show canon s (val L) e=⟨s,val L/2^kn (val L),e+kn (val L)⟩by unfold canon;rw[bA h0]);have hT:=aqi (λw (h:Sl w A c L)=>FH A c L w h aC);have Vo:=qw L;unfold np at Vo;have hv:=qZ L;have mc:=hs.ok.iT;generalize iT L=M at *
  rw[<-hv]at h0 pV ⊢;clear hv;have hZ:=aqi (λA c w (h:Sl w A c M)=>ale A c M w h aC h0);have vj:kn (val M)<=100000:=by have:=Gj mc h0;omega
  have hR:=aqi (λA c w (h:Sl w A c M)=>ak5 A c M (kn (val M)) w h aC vj);have uD:M.length≠0:=by intro h;rw[dH h]at h0;exact h0 rfl
  generalize val M/2^kn (val M)=q at *
  generalize kn (val M)=t at *
  obtain⟨m,hm⟩:∃ m,m=M.length:=⟨_,rfl⟩
  go_enter func169,ntmps169;go_wp2_with fail;refine(hT.out _ (hs.alloc _)).mono ?_;rintro e' w1 ⟨A1,c1,rfl,wD,lh⟩;go_wp2_with fail;refine(hZ.out _ _ _ wD).mono ?_;rintro e' w2 ⟨rfl,rfl⟩;go_wp2_with fail;refine(hR.out _ _ _ wD).mono ?_;rintro e' w2 ⟨A2,c2,rfl,lj,om⟩;have hb:=lh.trans om;have bx:=(j8.new w false none 0 0 0).ext hb;have b0:=bx.c0;have b1:=bx.c1;have b2:=bx.c2;have f0:=bx.fr 0;have f1:=bx.fr 1;have f2:=bx.fr 2;go_wp2;rw[pV.out];exact vY rfl rfl rfl (bx.set _ _ _ _ _) rfl (bx.wS lj _ _ _ _ _) (j8.vL ((iV.alloc _ _).trans hb) (bF _) _ _ _ _ _)
def aep(A:Option Addr)(c:Nat)(L:List Nat)(w:World)(hs:Sl w A c L)(h1:L.length<=3000)(h0:val L≠0)(hT:Tb w):
 Calls prog 259 #[.slice A L.length c] w λe w'=>e = .returned (.int .i64 (kn (val L)))/\w=w':=by
 have mc:=hs.ok;have HV:=aqi (λi hi h hx=>adS mc i hi h hx);have H0:=aqi h0;clear h0;go_enter func259,ntmps259;go_wp2;go_loop [3,8] (λn i=>∃ k:Nat,k<=L.length/\i = .int .i64 k/\n = .int .i64 ((32*k:Nat):Int)/\∀ j,(hj:j<k)->L[j]? = some 0) (λ_ i=>L.length-(intOf i).toNat)
 case atStart=>exact⟨0,cj _,rfl,rfl,λj hj=> aC⟩
 case round=>
  obtain⟨k,hk,rfl,rfl,hz⟩:=hrel;have HZ:=aqi hz;clear hz;by_cases iK:k<L.length
  .obtain ⟨ab,ao,rfl,_,c1⟩:=hs.mS iK;have nK:L[k]<4294967296:=mc.get iK;have HG:=aqi (bJ iK);have HC:=aqi (λhx=>HV.out k iK (λj hj=>by have:=HZ.out j hj;rw[bJ aC]at this;simpa using this) hx);clear HV;generalize L[k]=x at *
   by_cases hx:x=0
   .have HX:=aqi hx;clear hx;have hb:((x:Int) != 0)=false:=by have:=HX.out;simp;omega
    go_wp2;go_round
    case rel=>exact⟨k+1,aC,by go_num,by go_num,λj hj=>by
     by_cases e:j=k
     .subst e;rw[HG.out,HX.out]
     .exact HZ.out j aC⟩
    case measure=>simp[intOf];omega
   .have hb:((x:Int) != 0)=true:= aN ;have HX:=aqi (HC.out hx);have aoW:kn x<=32:=by
     have h1:=K9 hx;rcases gv 32 (kn x)with h|h
     .have:=apt (a:=2) aE h;have e:(2:Nat)^32=4294967296:= aE ;omega
     .exact h
    go_wp2_with (go_at_call 292;refine(anW x hx nK _ hT).mono ?_;rintro e w' ⟨rfl,rfl⟩)
    go_ret;exact⟨pz (by rw[HX.out];simp),rfl⟩
  .exfalso;have:val L=0:=by
    rw[I1];intro y hy;obtain⟨j,hj,rfl⟩:=List.getElem_of_mem hy;have:=HZ.out j aC;rw[bJ hj]at this;simpa using this
   exact H0.out this
def JG(s:Bool)(A:Option Addr)(c:Nat)(L:List Nat)(e:Int)(w:World)(hs:Sl w A c L)(_hlen:L.length<=100000)(o9:(iT L).length<=256)(mP:-1000000<=e)(lZ:e<=1000000)(vh:Tb w):
 Calls prog 219 #[.bool s,.slice A L.length c,.int .i64 e] w (yW w (canon s (val L) e)):=by
 have hT:=aqi (λw (h:Sl w A c L)=>aet A c L w h);have lj:=hs.vO;have hv:=qZ L;have mc:=hs.ok.iT;have Du:=Bf L;generalize iT L=M at *
 rw[<-hv];clear hv;by_cases h0:val M=0
 .have pV:=aqi (show canon s (val M) e=iS by unfold canon;rw[bB h0];rfl);have uD:Hid (M.length=0):=by
   show M.length=0;rw[Du.Gx mc,h0,oV];rfl
  obtain⟨m,hm⟩:∃ m,m=M.length:=⟨_,rfl⟩
  rw[<-hm]at hT uD;clear hm h0;obtain rfl:m=0:=uD.out;clear uD;go_enter func219,ntmps219;go_wp2_with fail;refine(hT.out _ (hs.alloc _)).mono ?_;rintro e w' ⟨rfl,rfl⟩;have bx:=j8.new w false none 0 0 0;have b0:=bx.c0;have b1:=bx.c1;have b2:=bx.c2;have f0:=bx.fr 0;have f1:=bx.fr 1;have f2:=bx.fr 2;go_wp2;rw[pV.out];have hz:ij iS.m=[]:=oV;exact vY rfl rfl rfl bx (by rw[hz];rfl) (by rw[hz];exact Sl.nil _) (iV.alloc _ _)
 .have pV:=aqi (show canon s (val M) e=⟨s,val M/2^kn (val M),e+kn (val M)⟩by unfold canon;rw[bA h0]);have hZ:=aqi (λA c w (h:Sl w A c M) (ht:Tb w)=>aep A c M w h aC h0 ht);have vj:kn (val M)<=65536:=by have:=Gj mc h0;omega
  have hR:=aqi (λA c w (h:Sl w A c M)=>Xq A c M (kn (val M)) w h o9 vj);have uD:M.length≠0:=by intro h;rw[dH h]at h0;exact h0 rfl
  have yx:(ij (val M/2^kn (val M))).length<=256:=by
   refine xB (cQ (cw _ _) ?_);exact ca (po mc) (b5 aE o9)
  generalize val M/2^kn (val M)=q at *
  generalize kn (val M)=t at *
  have hK:=aqi (λA c w (h:Sl w A c (ij q))=>M1 A c (ij q) w h aC);have hP:=aqi (λA c w (h:Sl w A c (ij q))=>MZ A c (ij q) w h);obtain⟨Q,hQ⟩:∃ Q,Q=ij q:=⟨_,rfl⟩
  have HQ:=aqi hQ;rw[<-hQ]at hR hK hP yx;clear hQ;go_enter func219,ntmps219;go_wp2_with fail;refine(hT.out _ (hs.alloc _)).mono ?_;rintro e' w1 ⟨rfl,rfl⟩;go_wp2_with fail;refine(hZ.out _ _ _ (lj.alloc _) (vh.alloc _)).mono ?_;rintro e' w2 ⟨rfl,rfl⟩;go_wp2_with fail;refine(hR.out _ _ _ (lj.alloc _)).mono ?_;rintro e' w2 ⟨A2,c2,rfl,ag9,om⟩;go_wp2_with fail;refine(hK.out _ _ _ ag9).mono ?_;rintro e' w3 ⟨A3,c3,rfl,Hb,sG⟩;go_wp2_with fail;refine(hP.out _ _ _ Hb).mono ?_;rintro e' w4 ⟨rfl,rfl⟩;have hb:=om.trans sG;have bx:=(j8.new w false none 0 0 0).ext hb;have b0:=bx.c0;have b1:=bx.c1;have b2:=bx.c2;have f0:=bx.fr 0;have f1:=bx.fr 1;have f2:=bx.fr 2;go_wp2;rw[pV.out];rw[HQ.out]at Hb ⊢;exact vY rfl rfl rfl (bx.set _ _ _ _ _) rfl (bx.wS Hb.SI _ _ _ _ _) (j8.vL ((iV.alloc _ _).trans hb) (bF _) _ _ _ _ _)
def Nh(A:Option Addr)(c:Nat)(L:List Nat)(w:World)(hs:Sl w A c L)(hlen:L.length<=100000000):
 Calls prog 225 #[.slice A L.length c] w λe w'=>e = .returned (.int .i64 (iB (val L)))/\w=w':=by
 have H:=aqi (Xh A c L w hs hlen);go_enter func225,ntmps225;go_wp2_with fail;refine H.out.mono ?_;rintro e w' ⟨rfl,rfl⟩;go_wp2;go_ret;exact⟨rfl,rfl⟩
def wG(m:Nat)(e:Int):Bool:=decide (oR ⟨false,m,e⟩)
def O6(s:Bool)(A:Option Addr)(c:Nat)(L:List Nat)(e:Int)(w:World)(hs:Sl w A c L)(hlen:L.length<=100000000)(mP:-9223372036854775808<=e)(lZ:e<=9223372036854775807):
 Calls prog 166 #[.agg #[.bool s,.slice A L.length c,.int .i64 e]] w λr w'=>r = .returned (.bool (wG (val L) e))/\iV w w':=by
 have H:=aqi (λw (h:Sl w A c L)=>Nh A c L w h hlen);have hn:Hid (wG (val L) e=decide (iB (val L)=0\/iB (val L)<=4096 /\ -16384<=e/\e<=16384/\(iB (val L):Int)+e<=16384)):=by
  have h:iB (val L)=0↔val L=0:=by
   constructor
   .intro h;apply ct;intro h0;have:=pF h0;omega
   .intro h;rw[h];rfl
  exact apW.2 (or_congr h.symm Iff.rfl)
 have As:iB (val L)<=32*L.length:=mK.2 (by rw[<-ui];exact po hs.ok);generalize iB (val L)=n at *
 generalize wG (val L) e=b at *
 have agM:n=0\/(0<n/\4096<n)\/(0<n/\n<=4096/\e < -16384)\/(0<n/\n<=4096 /\ -16384<=e/\16384<e)\/(0<n/\n<=4096 /\ -16384<=e/\e<=16384/\16384<(n:Int)+e)\/(0<n/\n<=4096 /\ -16384<=e/\e<=16384/\(n:Int)+e<=16384):= aC ;rcases agM with h|⟨h,h1⟩|⟨h,h1,h2⟩|⟨h,h1,h2,h3⟩|⟨h,h1,h2,h3,h4⟩|⟨h,h1,h2,h3,h4⟩
 .subst h;have hb:b=true:=by rw[hn.out];simp
  clear hn;subst hb;go_enter func166,ntmps166;go_wp2_with fail;refine(H.out _ (hs.alloc _)).mono ?_;rintro r w' ⟨rfl,rfl⟩;go_wp2;go_ret;exact⟨rfl,iV.alloc _ _⟩
 .have hb:b=false:=by rw[hn.out];simp;omega
  have sk:((n:Int)==0)=false:= aN ;have uI:decide ((n:Int)<=4096)=false:= aN ;clear hn;subst hb;go_enter func166,ntmps166;go_wp2_with fail;refine(H.out _ (hs.alloc _)).mono ?_;rintro r w' ⟨rfl,rfl⟩;go_wp2;go_ret;exact⟨rfl,iV.alloc _ _⟩
 .have hb:b=false:=by rw[hn.out];simp;omega
  have sk:((n:Int)==0)=false:= aN ;have uI:decide ((n:Int)<=4096)=true:= aN ;have mY:decide (-16384<=e)=false:= aN ;clear hn;subst hb;go_enter func166,ntmps166;go_wp2_with fail;refine(H.out _ (hs.alloc _)).mono ?_;rintro r w' ⟨rfl,rfl⟩;go_wp2;go_ret;exact⟨rfl,iV.alloc _ _⟩
 .have hb:b=false:=by rw[hn.out];simp;omega
  have sk:((n:Int)==0)=false:= aN ;have uI:decide ((n:Int)<=4096)=true:= aN ;have mY:decide (-16384<=e)=true:= aN ;have E8:decide (e<=16384)=false:= aN ;clear hn;subst hb;go_enter func166,ntmps166;go_wp2_with fail;refine(H.out _ (hs.alloc _)).mono ?_;rintro r w' ⟨rfl,rfl⟩;go_wp2;go_ret;exact⟨rfl,iV.alloc _ _⟩
 .have hb:b=false:=by rw[hn.out];simp;omega
  have sk:((n:Int)==0)=false:= aN ;have uI:decide ((n:Int)<=4096)=true:= aN ;have mY:decide (-16384<=e)=true:= aN ;have E8:decide (e<=16384)=true:= aN ;have hn4:decide ((n:Int)+e<=16384)=false:= aN ;clear hn;subst hb;go_enter func166,ntmps166;go_wp2_with fail;refine(H.out _ (hs.alloc _)).mono ?_;rintro r w' ⟨rfl,rfl⟩;go_wp2;go_ret;exact⟨rfl,iV.alloc _ _⟩
 .have hb:b=true:=by rw[hn.out];simp;omega
  have sk:((n:Int)==0)=false:= aN ;have uI:decide ((n:Int)<=4096)=true:= aN ;have mY:decide (-16384<=e)=true:= aN ;have E8:decide (e<=16384)=true:= aN ;have hn4:decide ((n:Int)+e<=16384)=true:= aN ;clear hn;subst hb;go_enter func166,ntmps166;go_wp2_with fail;refine(H.out _ (hs.alloc _)).mono ?_;rintro r w' ⟨rfl,rfl⟩;go_wp2;go_ret;exact⟨rfl,iV.alloc _ _⟩
def qc(s:Bool)(L:List Nat)(e:Int):Prop:=nX L/\L.length<=256/\Dy.ix ⟨s,val L,e⟩
def Ti(s:Bool)(e:Int):qc s [] e↔s=false/\e=0:=by
 unfold qc;constructor
 .rintro ⟨_,_,hc,_⟩;rcases hc with⟨_,h1,h2⟩|h
  .exact ⟨h1,h2⟩
  .simp at h
 .rintro ⟨rfl,rfl⟩;exact⟨nX.nil,aH,tC⟩
def Th{s:Bool}{L:List Nat}{e:Int}{x y:Nat}(hx:L[0]? = some x)(hy:L[L.length-1]? = some y):
 qc s L e↔L.length<=256/\x%2=1/\y≠0/\wG (val L) e=true:=by
 have Vg:val L%2=x%2:=by
  cases L with
  |nil=>simp at hx
  |cons z l=>simp at hx;subst hx;simp only[rJ];omega
 have Du:nX L↔y≠0:=by
  rw[CH];obtain⟨h1,h2⟩:=cE.1 hy;constructor
  .intro h;rw[<-h2];exact h aC 
  .intro h _;rw[h2];exact h
 unfold qc wG;rw[Du,apu];constructor
 .rintro ⟨h1,h2,hc,hr⟩;have yy:oR ⟨false,val L,e⟩:=hr;refine⟨h2,?_,h1,yy⟩;rcases hc with⟨h,_,_⟩|h
  .exfalso;have:=(Du.2 h1).Bi (by intro h0;subst h0;simp at hx);simp only at h;omega
  .rw [<-Vg];exact h
 .rintro ⟨h1,h2,h3,h4⟩;exact⟨h3,h1,.inr (by show val L%2=1;rw[Vg];exact h2),h4⟩
def rL{b:Bool}{P:Prop}(h:b=true↔P)(hn:¬P):b=false:=by
 cases b
 .rfl
 .exact absurd (h.1 rfl) hn
def MH{b:Bool}{P:Prop}(h:b=true↔P)(hn:P):b=true:=h.2 hn
def R8{b v:Bool}{P:Prop}(h:b=true↔P)(hn:P↔v=true):b=v:=by
 cases b<;>cases v<;>simp_all
def C1(s:Bool)(A:Option Addr)(c:Nat)(L:List Nat)(e:Int)(w:World)(b:Bool)(hs:Sl w A c L)(mP:-9223372036854775808<=e)(lZ:e<=9223372036854775807)(hb:b=true↔qc s L e):
 Calls prog 91 #[.agg #[.bool s,.slice A L.length c,.int .i64 e]] w λr w'=>r = .returned (.bool b)/\iV w w':=by
 have EX:=hs.cap;have vj:=hs.rO;by_cases hL:L=[]
 .subst hL;rw[Ti]at hb;cases s
  .by_cases h:e=0
   .subst h;have:b=true:=by simpa using hb
    clear hb;subst this;go_enter func91,ntmps91;go_wp2;go_ret;exact⟨rfl,iV.alloc _ _⟩
   .have:b=false:=rL hb (by simp[h]);have h':(e==0)=false:= aN ;clear hb;subst this;go_enter func91,ntmps91;go_wp2;go_ret;exact⟨rfl,iV.alloc _ _⟩
  .have:b=false:=rL hb aH ;clear hb;subst this;go_enter func91,ntmps91;go_wp2;go_ret;exact⟨rfl,iV.alloc _ _⟩
 .have uL:0<L.length:=fh.2 hL;clear hL;obtain⟨ab,ao,rfl,_,c1⟩:=hs.mS uL;obtain⟨ab',ao',e',_,c2⟩:=hs.mS (i:=L.length-1) aC;cases e';have nK:=hs.ok.get uL;have rh:=hs.ok.get (aC:L.length-1<L.length);rw[Th (bJ uL) (bJ (aC:L.length-1<L.length))]at hb;have c1':w.cell? ⟨ab,ao,none⟩=some (.int .u32 (L[0]:Int)):=c1;clear c1;generalize L[0]=x at *
  generalize L[L.length-1]=y at *
  have HB:=aqi hb;clear hb;have H:=aqi (λw (h:Sl w (some ⟨ab,ao,none⟩) c L) (hl:L.length<=256)=>O6 s _ c L e w h aC mP lZ);obtain⟨n,hn⟩:∃ n,n=L.length:=⟨_,rfl⟩
  rw[<-hn]at uL c2 H HB EX ⊢;clear hn;generalize wG (val L) e=v at *
  have sk:((n:Int)==0)=false:= aN ;by_cases h1:n<=256
  .have uI:decide ((n:Int)<=256)=true:= aN ;by_cases h2:x%2=1
   .have mY:((x:Int)%2==1)=true:= aN ;by_cases h3:y=0
    .have:b=false:=rL HB.out (by simp[h3]);have E8:((y:Int) != 0)=false:= aN ;clear HB;subst this;go_enter func91,ntmps91;go_wp2;go_ret;exact⟨rfl,iV.alloc _ _⟩
    .have:b=v:=R8 HB.out (by simp[h1,h2,h3]);have E8:((y:Int) != 0)=true:= aN ;clear HB;subst this;go_enter func91,ntmps91;go_wp2_with fail;refine(H.out _ (hs.alloc _) h1).mono ?_;rintro r w' ⟨rfl,ns⟩;go_wp2;go_ret;exact⟨rfl,(iV.alloc _ _).trans ns⟩
   .have:b=false:=rL HB.out (λh=>h2 h.2.1);have mY:((x:Int)%2==1)=false:= aN ;clear HB;subst this;go_enter func91,ntmps91;go_wp2;go_ret;exact⟨rfl,iV.alloc _ _⟩
  .have:b=false:=rL HB.out (λh=>h1 h.1);have uI:decide ((n:Int)<=256)=false:= aN ;clear HB;subst this;go_enter func91,ntmps91;go_wp2;go_ret;exact⟨rfl,iV.alloc _ _⟩
def Pp{n k:Nat}(h:iB n<=32*k):(ij n).length<=k:=xB (by rw[ui];exact mK.1 h)
def aeh(d:Dy):qc d.neg (ij d.m) d.e↔d.ix:=by
 unfold qc;rw[kP];constructor
 .exact λh=>h.2.2
 .intro h;refine⟨wW _,?_,h⟩;rcases h.range with h0|⟨h1,_⟩
  .rw [h0,oV];simp
  .exact Pp aC 
def qc.Gx{s:Bool}{L:List Nat}{e:Int}(h:qc s L e)(hk:iZ L):L=ij (val L):=h.1.Gx hk
def qc.len{s:Bool}{L:List Nat}{e:Int}(h:qc s L e):L.length<=256:=h.2.1
def qc.bits{s:Bool}{L:List Nat}{e:Int}(h:qc s L e):iB (val L)<=4096:=by
 rcases h.2.2.range with h0|⟨h1,_⟩
 .simp only at h0;rw[h0];decide
 .exact h1
def qc.exp{s:Bool}{L:List Nat}{e:Int}(h:qc s L e):-16384<=e/\e<=16384:=by
 rcases h.2.2.range with h0|⟨_,h1,h2,_⟩
 .rcases h.2.2.canon with⟨_,_,h3⟩|h3
  .simp only at h3;omega
  .simp only at h0 h3;omega
 .exact ⟨h1,h2⟩
def Ni(s:Bool)(A:Option Addr)(c:Nat)(L:List Nat)(e:Int)(w:World)(hs:Sl w A c L)(hd:qc s L e):
 Calls prog 185 #[.agg #[.bool s,.slice A L.length c,.int .i64 e]] w λr w'=>r = .returned (.int .i64 (Dy.iI ⟨s,val L,e⟩))/\iV w w':=by
 obtain⟨mP,lZ⟩:=hd.exp;have hl:=hd.len;have hbt:=hd.bits;have HV:=aqi (λw (h:Sl w A c L)=>C1 s A c L e w true h aC aC (by simp[hd]));have HS:=aqi (λw (h:Sl w A c L)=>Nh A c L w h aC);by_cases h0:L=[]
 .subst h0;go_enter func185,ntmps185;go_wp2_with fail;refine(HV.out _ (hs.alloc _)).mono ?_;rintro r w' ⟨rfl,hb⟩;have bx:=(j8.new w s A 0 c e).ext hb;have b0:=bx.c0;have b1:=bx.c1;have b2:=bx.c2;go_wp2;go_ret;exact⟨rfl,(iV.alloc _ _).trans hb⟩
 .have uL:0<L.length:=fh.2 h0;have tp:val L≠0:=by have:=hd.1.Bi h0;omega
  have ht:=aqi (show Dy.iI ⟨s,val L,e⟩=iB (val L)+e by unfold Dy.iI;rw[bA tp]);clear h0 tp;generalize Dy.iI ⟨s,val L,e⟩=t at *
  generalize iB (val L)=q at *
  have hw:IntKind.i64.wrap ((q:Int)+e)=q+e:=i64_in _ aC aC;have sk:((L.length:Int)==0)=false:=bk aC;go_enter func185,ntmps185;go_wp2_with fail;refine(HV.out _ (hs.alloc _)).mono ?_;rintro r w' ⟨rfl,hb⟩;have bx:=(j8.new w s A L.length c e).ext hb;have b0:=bx.c0;have b1:=bx.c1;have b2:=bx.c2;have pN:=(hs.alloc _).below hb;go_wp2_with fail;go_region_held3 (λw'=>w'.cell? ⟨w.heap.size,1,none⟩=some (.slice A L.length c)/\w'.cell? ⟨w.heap.size,2,none⟩=some (.int .i64 e)) (go_keep)
   (first|(go_at_call 225;refine(HS.out _ ?_).mono ?_;(exact pN.drew);rintro r w'' ⟨rfl,rfl⟩))
  go_wp2;go_ret;exact⟨pz (by rw[ht.out]),Below.drew ((iV.alloc _ _).trans hb)⟩
def aei(s:Bool)(A:Option Addr)(c:Nat)(L:List Nat)(e:Int)(w:World)(hs:Sl w A c L)(hd:qc s L e):
 Calls prog 173 #[.agg #[.bool s,.slice A L.length c,.int .i64 e]] w λr w'=>r = .returned (.int .i64 (iB (val L)))/\iV w w':=by
 obtain⟨mP,lZ⟩:=hd.exp;have hl:=hd.len;have HV:=aqi (λw (h:Sl w A c L)=>C1 s A c L e w true h aC aC (by simp[hd]));have HS:=aqi (λw (h:Sl w A c L)=>Nh A c L w h aC);go_enter func173,ntmps173;go_wp2_with fail;refine(HV.out _ (hs.alloc _)).mono ?_;rintro r w' ⟨rfl,hb⟩;have bx:=(j8.new w s A L.length c e).ext hb;have b0:=bx.c0;have b1:=bx.c1;have b2:=bx.c2;go_wp2_with fail;refine(HS.out _ ((hs.alloc _).below hb)).mono ?_;rintro r w' ⟨rfl,rfl⟩;go_wp2;go_ret;exact⟨rfl,(iV.alloc _ _).trans hb⟩
def Ng(s:Bool)(A:Option Addr)(c:Nat)(L:List Nat)(e:Int)(w:World)(hs:Sl w A c L)(hd:qc s L e):
 Calls prog 92 #[.agg #[.bool s,.slice A L.length c,.int .i64 e]] w λr w'=>r = .returned (.int .i64 (Dy.jq ⟨s,val L,e⟩))/\iV w w':=by
 obtain⟨mP,lZ⟩:=hd.exp;have hl:=hd.len;have HV:=aqi (λw (h:Sl w A c L)=>C1 s A c L e w true h aC aC (by simp[hd]));by_cases h0:L=[]
 .subst h0;go_enter func92,ntmps92;go_wp2_with fail;refine(HV.out _ (hs.alloc _)).mono ?_;rintro r w' ⟨rfl,hb⟩;have bx:=(j8.new w s A 0 c e).ext hb;have b0:=bx.c0;have b1:=bx.c1;have b2:=bx.c2;go_wp2;go_ret;exact⟨rfl,(iV.alloc _ _).trans hb⟩
 .have uL:0<L.length:=fh.2 h0;have tp:val L≠0:=by have:=hd.1.Bi h0;omega
  have ht:=aqi (show Dy.jq ⟨s,val L,e⟩=if s then -1 else 1 by unfold Dy.jq;rw[bA tp]);clear h0 tp;generalize Dy.jq ⟨s,val L,e⟩=t at *
  have sk:((L.length:Int)==0)=false:=bk aC;go_enter func92,ntmps92;go_wp2_with fail;refine(HV.out _ (hs.alloc _)).mono ?_;rintro r w' ⟨rfl,hb⟩;have bx:=(j8.new w s A L.length c e).ext hb;have b0:=bx.c0;have b1:=bx.c1;have b2:=bx.c2;cases s
  .go_wp2;go_ret;exact⟨pz (by rw[ht.out];rfl),(iV.alloc _ _).trans hb⟩
  .go_wp2;go_ret;exact⟨pz (by rw[ht.out];rfl),(iV.alloc _ _).trans hb⟩
def aeW(e:Int)(w:World)(b:Bool)(hb:b=true↔(-32768<=e/\e<=32768)):
 Calls prog 233 #[.int .i64 e] w λr w'=>r = .returned (.bool b)/\w=w':=by
 by_cases h1:-32768<=e
 .have d1:decide (-32768<=e)=true:=by simpa using h1
  by_cases h2:e<=32768
  .have d2:decide (e<=32768)=true:=by simpa using h2
   have:=MH hb ⟨h1,h2⟩;clear hb;subst this;go_enter func233,ntmps233;go_wp2;go_ret;exact⟨rfl,rfl⟩
  .have d2:decide (e<=32768)=false:=by simpa using h2
   have:=rL hb (λh=>h2 h.2);clear hb;subst this;go_enter func233,ntmps233;go_wp2;go_ret;exact⟨rfl,rfl⟩
 .have d1:decide (-32768<=e)=false:=by simpa using h1
  have:=rL hb (λh=>h1 h.1);clear hb;subst this;go_enter func233,ntmps233;go_wp2;go_ret;exact⟨rfl,rfl⟩
def SC(d:Dy)(A:Option Addr)(c:Nat)(w:World)(hs:Sl w A c (ij d.m))(hl:(ij d.m).length<=100000000)(mP:-10000000<=d.e)(lZ:d.e<=10000000)(hd:oR d):
 Calls prog 222 #[.agg #[.bool d.neg,.slice A (ij d.m).length c,.int .i64 d.e]] w (Ae w d 0):=by
 obtain⟨s,m,e⟩:=d;simp only at *
 have hr:wG m e=true:=by unfold wG;exact bC hd
 have HV:=aqi (λw (h:Sl w A c (ij m))=>O6 s A c (ij m) e w h hl aC aC);rw[kP,hr]at HV;clear hr hd;go_enter func222,ntmps222;go_wp2_with fail;refine(HV.out _ ((hs.alloc _).alloc _)).mono ?_;rintro r w' ⟨rfl,hb⟩;have bx:=((j8.new w s A (ij m).length c e).alloc (.cells #[.bool false,.slice none 0 0,.int .i64 0] 31)).ext hb;have by_:=(j8.new (w.alloc (.cells #[.bool s,.slice A (ij m).length c,.int .i64 e] 31)) false none 0 0 0).ext hb;have b0:=bx.c0;have b1:=bx.c1;have b2:=bx.c2;have bz:(w.alloc (.cells #[.bool s,.slice A (ij m).length c,.int .i64 e] 31)).heap.size=w.heap.size+1:= aH ;rw[bz]at by_;have c0:=by_.c0;have c1:=by_.c1;have c2:=by_.c2;have f0:=by_.fr 0;have f1:=by_.fr 1;have f2:=by_.fr 2;have pN:=((hs.alloc (.cells #[.bool s,.slice A (ij m).length c,.int .i64 e] 31)).alloc (.cells #[.bool false,.slice none 0 0,.int .i64 0] 31)).below hb;have ns:iV w w':=((iV.alloc _ _).trans (iV.alloc _ _)).trans hb;clear bz;go_wp2;exact EI rfl rfl rfl rfl (by_.set _ _ _ _ _) rfl (by_.wS pN _ _ _ _ _) (j8.vL ns aC _ _ _ _ _)
def ady(d:Dy)(A:Option Addr)(c:Nat)(w:World)(hs:Sl w A c (ij d.m))(hl:(ij d.m).length<=100000000)(mP:-10000000<=d.e)(lZ:d.e<=10000000)(hd:¬oR d):
 Calls prog 222 #[.agg #[.bool d.neg,.slice A (ij d.m).length c,.int .i64 d.e]] w (Ae w iS 9):=by
 obtain⟨s,m,e⟩:=d;simp only at *
 have hr:wG m e=false:=by unfold wG;exact bD hd
 have HV:=aqi (λw (h:Sl w A c (ij m))=>O6 s A c (ij m) e w h hl aC aC);rw[kP,hr]at HV;clear hr hd;go_enter func222,ntmps222;go_wp2_with fail;refine(HV.out _ ((hs.alloc _).alloc _)).mono ?_;rintro r w' ⟨rfl,hb⟩;have by_:=(j8.new (w.alloc (.cells #[.bool s,.slice A (ij m).length c,.int .i64 e] 31)) false none 0 0 0).ext hb;have bz:(w.alloc (.cells #[.bool s,.slice A (ij m).length c,.int .i64 e] 31)).heap.size=w.heap.size+1:= aH ;rw[bz]at by_;have c0:=by_.c0;have c1:=by_.c1;have c2:=by_.c2;have f0:=by_.fr 0;have f1:=by_.fr 1;have f2:=by_.fr 2;have ns:iV w w':=((iV.alloc _ _).trans (iV.alloc _ _)).trans hb;have hz:ij iS.m=[]:=oV;have HZ:=aqi hz;clear bz hz;go_wp2;exact EI rfl rfl rfl rfl (by_.set _ _ _ _ _) (by rw[HZ.out];rfl) (by rw[HZ.out];exact by_.wS (Sl.nil _) _ _ _ _ _) (j8.vL ns aC _ _ _ _ _)
def aiG(s:Bool)(A:Option Addr)(c:Nat)(L:List Nat)(e:Int)(w:World)(hs:Sl w A c L)(hlen:L.length<=256)(mP:-32768<=e)(lZ:e<=32768)(vh:Tb w)(hd:oR (canon s (val L) e)):
 Calls prog 176 #[.bool s,.slice A L.length c,.int .i64 e] w (Ae w (canon s (val L) e) 0):=by
 have lr:decide (256<(L.length:Int))=false:=bD aC;have HE:=aqi (λw=>aeW e w true (by simp[mP,lZ]));have HC:=aqi (λw (h:Sl w A c L) (ht:Tb w)=>JG s A c L e w h aC (by have:=qw L;unfold np at this;omega) aC aC ht);have lh:(ij (canon s (val L) e).m).length<=100000000:=by
  unfold canon;split
  .simp [oV]
  .refine bH (xB (k:=256) (cQ (cw _ _) ?_)) aE ;exact ca (po hs.ok) (b5 aE hlen)
 have om:-10000000<=(canon s (val L) e).e/\(canon s (val L) e).e<=10000000:=by
  unfold canon;split
  .simp
  .rename_i h0;have:=Gj hs.ok h0;simp only;omega
 obtain⟨om,sG⟩:=om;have HK:=aqi (λA c w (h:Sl w A c (ij (canon s (val L) e).m))=>SC _ A c w h lh om sG hd);generalize canon s (val L) e=d at *
 clear hd lh om sG;go_enter func176,ntmps176;go_wp2_with fail;refine(HE.out _).mono ?_;rintro r w' ⟨rfl,rfl⟩;go_wp2_with fail;refine(HC.out _ (hs.alloc _) (vh.alloc _)).mono ?_;rintro r w1 ⟨A1,c1,rfl,wD,lh⟩;go_wp2_with fail;refine(HK.out _ _ _ wD).mono ?_;rintro r w2 ⟨A2,c2,rfl,lj,om⟩;have hb:=lh.trans om;have bx:=(j8.new w false none 0 0 0).ext hb;have b0:=bx.c0;have b1:=bx.c1;have b2:=bx.c2;have f0:=bx.fr 0;have f1:=bx.fr 1;have f2:=bx.fr 2;go_wp2;exact EI rfl rfl rfl rfl (bx.set _ _ _ _ _) rfl (bx.wS lj _ _ _ _ _) (j8.vL ((iV.alloc _ _).trans hb) (bF _) _ _ _ _ _)
def anY(x:Nat)(hx:x<4294967296):bits BinOp.and IntKind.u32 (x:Int) 1=((x%2:Nat):Int):=by
 rw[show(1:Int)=((1:Nat):Int)from rfl,bits_and_u32_nat _ _ hx aE,Nat.and_one_is_mod]
def ahh{m:Nat}(h0:m≠0)(e:Int):wG m e=true↔(iB m<=4096 /\ -16384<=e/\e<=16384/\(iB m:Int)+e<=16384):=by
 have h:wG m e=true↔oR ⟨false,m,e⟩:=apu;rw[h];constructor
 .rintro (h|h)
  .exact absurd h h0
  .exact h
 .exact λh=>.inr h
def Lm(s:Bool)(A:Option Addr)(c:Nat)(L:List Nat)(e:Int)(w:World)(b:Bool)(hs:Sl w A c L)(mP:-9223372036854775808<=e)(lZ:e<=9223372036854775807)(hb:b=true↔qc s L e):
 Calls prog 74 #[.agg #[.bool s,.slice A L.length c,.int .i64 e]] w λr w'=>r = .returned (.bool b)/\iV w w':=by
 have EX:=hs.cap;have vj:=hs.rO;by_cases hL:L=[]
 .subst hL;rw[Ti]at hb;cases s
  .by_cases h:e=0
   .subst h;have:b=true:=by simpa using hb
    clear hb;subst this;go_enter func74,ntmps74;go_wp2;go_ret;exact⟨rfl,iV.alloc _ _⟩
   .have:b=false:=rL hb (by simp[h]);have h':(e==0)=false:= aN ;clear hb;subst this;go_enter func74,ntmps74;go_wp2;go_ret;exact⟨rfl,iV.alloc _ _⟩
  .have:b=false:=rL hb aH ;clear hb;subst this;go_enter func74,ntmps74;go_wp2;go_ret;exact⟨rfl,iV.alloc _ _⟩
 .have uL:0<L.length:=fh.2 hL;obtain⟨ab,ao,rfl,_,c1⟩:=hs.mS uL;obtain⟨ab',ao',e',_,c2⟩:=hs.mS (i:=L.length-1) aC;cases e';have nK:=hs.ok.get uL;have rh:=hs.ok.get (aC:L.length-1<L.length);rw[Th (bJ uL) (bJ (aC:L.length-1<L.length))]at hb;have c1':w.cell? ⟨ab,ao,none⟩=some (.int .u32 (L[0]:Int)):=c1;have UB:=aqi (show L[L.length-1]≠0->nX L from λh=>(CH L).2 (λ_=>h));have yd:=aqi (show L[L.length-1]≠0->val L≠0 from λh=>by have:=((CH L).2 (λ_=>h)).Bi hL;omega);clear c1 hL;generalize L[0]=x at *
  generalize L[L.length-1]=y at *
  have HB:=aqi hb;clear hb;have H:=aqi (λw (h:Sl w (some ⟨ab,ao,none⟩) c L) (hl:L.length<=256) (ht:nX L)=>YI _ c L w h ht aC);have hr:Hid (val L≠0->(wG (val L) e=true↔(iB (val L)<=4096 /\ -16384<=e/\e<=16384/\(iB (val L):Int)+e<=16384))):=λh0=>by
   exact ahh h0 e
  obtain⟨n,hn⟩:∃ n,n=L.length:=⟨_,rfl⟩
  rw[<-hn]at uL c2 H HB EX ⊢;have HN:=aqi hn;clear hn;have sk:((n:Int)==0)=false:= aN ;by_cases h1:n<=256
  .have uI:decide (256<(n:Int))=false:=bD aC ;by_cases h3:y=0
   .have:b=false:=rL HB.out (by simp[h3]);have E8:((y:Int)==0)=true:= aN ;clear HB hr;subst this;go_enter func74,ntmps74;go_wp2;go_ret;exact⟨rfl,iV.alloc _ _⟩
   .have E8:((y:Int)==0)=false:=bk aC ;have hand:=anY x nK;by_cases h2:x%2=1
    .have mY:(bits BinOp.and IntKind.u32 (x:Int) 1==0)=false:=by rw[hand,h2];rfl
     clear hand;have h0:=yd.out h3;have Du:=UB.out h3;have As:iB (val L)<=32*n:=mK.2 (by rw[<-ui,HN.out];exact po hs.ok);have HB2:Hid (b=true↔(iB (val L)<=4096 /\ -16384<=e/\e<=16384/\(iB (val L):Int)+e<=16384)):=by
      show b=true↔_;rw[HB.out,hr.out h0];simp[h1,h2,h3]
     have H2:=aqi (λw h=>H.out w h h1 Du);clear HB hr h0 Du UB yd H;generalize iB (val L)=q at *
     by_cases h4:-16384<=e
     .have d4:decide (e < -16384)=false:=bD aC ;by_cases h5:e<=16384
      .have d5:decide (16384<e)=false:=bD aC ;by_cases h6:q<=4096
       .have d6:decide ((q:Int)<=4096)=true:=bC aC ;by_cases h7:(q:Int)+e<=16384
        .have d7:decide ((q:Int)+e<=16384)=true:=bC h7;have:=MH HB2.out ⟨h6,h4,h5,h7⟩;clear HB2;subst this;go_enter func74,ntmps74;go_wp2_with fail;refine(H2.out _ (hs.alloc _)).mono ?_;rintro r w' ⟨rfl,rfl⟩;go_wp2;go_ret;exact⟨rfl,iV.alloc _ _⟩
        .have d7:decide ((q:Int)+e<=16384)=false:=bD h7;have:=rL HB2.out (λh=>h7 h.2.2.2);clear HB2;subst this;go_enter func74,ntmps74;go_wp2_with fail;refine(H2.out _ (hs.alloc _)).mono ?_;rintro r w' ⟨rfl,rfl⟩;go_wp2;go_ret;exact⟨rfl,iV.alloc _ _⟩
       .have d6:decide ((q:Int)<=4096)=false:=bD aC ;have:=rL HB2.out (λh=>h6 h.1);clear HB2;subst this;go_enter func74,ntmps74;go_wp2_with fail;refine(H2.out _ (hs.alloc _)).mono ?_;rintro r w' ⟨rfl,rfl⟩;go_wp2;go_ret;exact⟨rfl,iV.alloc _ _⟩
      .have d5:decide (16384<e)=true:=bC aC ;have:=rL HB2.out (λh=>h5 h.2.2.1);clear HB2;subst this;go_enter func74,ntmps74;go_wp2;go_ret;exact⟨rfl,iV.alloc _ _⟩
     .have d4:decide (e < -16384)=true:=bC aC ;have:=rL HB2.out (λh=>h4 h.2.1);clear HB2;subst this;go_enter func74,ntmps74;go_wp2;go_ret;exact⟨rfl,iV.alloc _ _⟩
    .have mY:(bits BinOp.and IntKind.u32 (x:Int) 1==0)=true:=by rw[hand,(aC:x%2=0)];rfl
     have:b=false:=rL HB.out (λh=>h2 h.2.1);clear HB hand hr;subst this;go_enter func74,ntmps74;go_wp2;go_ret;exact⟨rfl,iV.alloc _ _⟩
  .have:b=false:=rL HB.out (λh=>h1 h.1);have uI:decide (256<(n:Int))=true:=bC aC;clear HB hr;subst this;go_enter func74,ntmps74;go_wp2;go_ret;exact⟨rfl,iV.alloc _ _⟩
def akV(e:Int)(w:World)(b:Bool)(hb:b=true↔(-32768<=e/\e<=32768)):
 Calls prog 199 #[.int .i64 e] w λr w'=>r = .returned (.bool b)/\w=w':=by
 by_cases h1:-32768<=e
 .have d1:decide (-32768<=e)=true:=by simpa using h1
  by_cases h2:e<=32768
  .have d2:decide (e<=32768)=true:=by simpa using h2
   have:=MH hb ⟨h1,h2⟩;clear hb;subst this;go_enter func199,ntmps199;go_wp2;go_ret;exact⟨rfl,rfl⟩
  .have d2:decide (e<=32768)=false:=by simpa using h2
   have:=rL hb (λh=>h2 h.2);clear hb;subst this;go_enter func199,ntmps199;go_wp2;go_ret;exact⟨rfl,rfl⟩
 .have d1:decide (-32768<=e)=false:=by simpa using h1
  have:=rL hb (λh=>h1 h.1);clear hb;subst this;go_enter func199,ntmps199;go_wp2;go_ret;exact⟨rfl,rfl⟩
def akS(d:Dy)(A:Option Addr)(c:Nat)(w:World)(hs:Sl w A c (ij d.m))(hl:(ij d.m).length<=100000000)(mP:-10000000<=d.e)(lZ:d.e<=10000000)(hd:d.ix):
 Calls prog 95 #[.agg #[.bool d.neg,.slice A (ij d.m).length c,.int .i64 d.e]] w (Ae w d 0):=by
 obtain⟨s,m,e⟩:=d;simp only at *
 have HV:=aqi (λw (h:Sl w A c (ij m))=>Lm s A c (ij m) e w true h aC aC (iff_of_true rfl ((aeh ⟨s,m,e⟩).2 hd)));clear hd;go_enter func95,ntmps95;go_wp2_with fail;refine(HV.out _ ((hs.alloc _).alloc _)).mono ?_;rintro r w' ⟨rfl,hb⟩;have bx:=((j8.new w s A (ij m).length c e).alloc (.cells #[.bool false,.slice none 0 0,.int .i64 0] 31)).ext hb;have by_:=(j8.new (w.alloc (.cells #[.bool s,.slice A (ij m).length c,.int .i64 e] 31)) false none 0 0 0).ext hb;have b0:=bx.c0;have b1:=bx.c1;have b2:=bx.c2;have bz:(w.alloc (.cells #[.bool s,.slice A (ij m).length c,.int .i64 e] 31)).heap.size=w.heap.size+1:= aH ;rw[bz]at by_;have c0:=by_.c0;have c1:=by_.c1;have c2:=by_.c2;have f0:=by_.fr 0;have f1:=by_.fr 1;have f2:=by_.fr 2;have pN:=((hs.alloc (.cells #[.bool s,.slice A (ij m).length c,.int .i64 e] 31)).alloc (.cells #[.bool false,.slice none 0 0,.int .i64 0] 31)).below hb;have ns:iV w w':=((iV.alloc _ _).trans (iV.alloc _ _)).trans hb;clear bz;go_wp2;exact EI rfl rfl rfl rfl (by_.set _ _ _ _ _) rfl (by_.wS pN _ _ _ _ _) (j8.vL ns aC _ _ _ _ _)
def ak8(s:Bool)(A:Option Addr)(c:Nat)(L:List Nat)(e:Int)(w:World)(hs:Sl w A c L)(ht:nX L):
 Calls prog 157 #[.agg #[.bool s,.slice A L.length c,.int .i64 e]] w λr w'=>r = .returned (.int .i64 (Dy.jq ⟨s,val L,e⟩))/\iV w w':=by
 have hl:=hs.len;by_cases h0:L=[]
 .subst h0;go_enter func157,ntmps157;go_wp2;go_ret;exact⟨rfl,iV.alloc _ _⟩
 .have uL:0<L.length:=fh.2 h0;have tp:val L≠0:=by have:=ht.Bi h0;omega
  have ht:=aqi (show Dy.jq ⟨s,val L,e⟩=if s then -1 else 1 by unfold Dy.jq;rw[bA tp]);clear h0 tp;generalize Dy.jq ⟨s,val L,e⟩=t at *
  have sk:((L.length:Int)==0)=false:=bk aC;cases s
  .go_enter func157,ntmps157;go_wp2;go_ret;exact⟨pz (by rw[ht.out];rfl),iV.alloc _ _⟩
  .go_enter func157,ntmps157;go_wp2;go_ret;exact⟨pz (by rw[ht.out];rfl),iV.alloc _ _⟩
def alb(s:Bool)(A:Option Addr)(c:Nat)(L:List Nat)(e:Int)(w:World)(hs:Sl w A c L)(ht:nX L)(hl:L.length<=100000)(mP:-1000000<=e)(lZ:e<=1000000):
 Calls prog 158 #[.agg #[.bool s,.slice A L.length c,.int .i64 e]] w λr w'=>r = .returned (.int .i64 (Dy.iI ⟨s,val L,e⟩))/\iV w w':=by
 have HS:=aqi (λw (h:Sl w A c L)=>YI A c L w h ht aC);have As:iB (val L)<=32*L.length:=mK.2 (by rw[<-ui];exact po hs.ok);by_cases h0:L=[]
 .subst h0;go_enter func158,ntmps158;go_wp2;go_ret;exact⟨rfl,iV.alloc _ _⟩
 .have uL:0<L.length:=fh.2 h0;have tp:val L≠0:=by have:=ht.Bi h0;omega
  have ht:=aqi (show Dy.iI ⟨s,val L,e⟩=iB (val L)+e by unfold Dy.iI;rw[bA tp]);clear h0 tp;generalize Dy.iI ⟨s,val L,e⟩=t at *
  generalize iB (val L)=q at *
  have hw:IntKind.i64.wrap ((q:Int)+e)=q+e:=i64_in _ aC aC;have sk:((L.length:Int)==0)=false:=bk aC;have pN:=hs.alloc (.cells #[.bool s,.slice A L.length c,.int .i64 e] 31);go_enter func158,ntmps158;go_wp2_with fail;go_region_held3 (λw'=>w'.cell? ⟨w.heap.size,1,none⟩=some (.slice A L.length c)/\w'.cell? ⟨w.heap.size,2,none⟩=some (.int .i64 e)) (go_keep)
   (first|(go_at_call 156;refine(HS.out _ ?_).mono ?_;(exact pN.drew);rintro r w'' ⟨rfl,rfl⟩))
  go_wp2;go_ret;exact⟨pz (by rw[ht.out]),Below.drew (iV.alloc _ _)⟩
def ak2(s:Bool)(A:Option Addr)(c:Nat)(L:List Nat)(e:Int)(w:World)(hs:Sl w A c L)(ht:nX L):
 Calls prog 159 #[.agg #[.bool s,.slice A L.length c,.int .i64 e]] w (yW w (iO ⟨s,val L,e⟩)):=by
 have hl:=hs.len;have HL:=aqi (ht.Gx hs.ok);by_cases h0:L=[]
 .subst h0;have HZ:=aqi oV;cases s
  .go_enter func159,ntmps159;go_wp2;exact vY (d:=iO ⟨false,val [],e⟩) rfl rfl rfl (j8.vG aH _ _ _ _ _) (by show _=(ij 0).length;rw[HZ.out];rfl) (by show Sl _ _ _ (ij 0);rw[HZ.out];exact(hs.alloc _).alloc _) ((iV.alloc _ _).trans (iV.alloc _ _))
  .go_enter func159,ntmps159;go_wp2;exact vY (d:=iO ⟨true,val [],e⟩) rfl rfl rfl (j8.vG aH _ _ _ _ _) (by show _=(ij 0).length;rw[HZ.out];rfl) (by show Sl _ _ _ (ij 0);rw[HZ.out];exact(hs.alloc _).alloc _) ((iV.alloc _ _).trans (iV.alloc _ _))
 .have uL:0<L.length:=fh.2 h0;have tp:val L≠0:=by have:=ht.Bi h0;omega
  have hd:=aqi (show iO ⟨s,val L,e⟩=⟨!s,val L,e⟩by unfold iO;simp[tp]);clear h0 tp ht;rw[hd.out];cases s
  .go_enter func159,ntmps159;go_wp2;exact vY (d:=⟨!false,val L,e⟩) rfl rfl rfl (j8.vG aH _ _ _ _ _) (by show _=(ij (val L)).length;rw[<-HL.out]) (by show Sl _ _ _ (ij (val L));rw[<-HL.out];exact(hs.alloc _).alloc _) ((iV.alloc _ _).trans (iV.alloc _ _))
  .go_enter func159,ntmps159;go_wp2;exact vY (d:=⟨!true,val L,e⟩) rfl rfl rfl (j8.vG aH _ _ _ _ _) (by show _=(ij (val L)).length;rw[<-HL.out]) (by show Sl _ _ _ (ij (val L));rw[<-HL.out];exact(hs.alloc _).alloc _) ((iV.alloc _ _).trans (iV.alloc _ _))
def adK{a b:Nat}:lp a b=0↔a=b:=by
 unfold lp;by_cases h:a<b
 .rw [bB h];omega
 .by_cases h':b<a
  .rw [bA h,bB h'];omega
  .rw [bA h,bA h'];omega
def akT(s:Bool)(A:Option Addr)(c:Nat)(L:List Nat)(e:Int)(t:Bool)(B:Option Addr)(d:Nat)(M:List Nat)(f:Int)(w:World)(b:Bool)
 (hs:Sl w A c L) (hr:Sl w B d M) (tL:nX L) (tM:nX M) (h1:L.length<=100000) (_h2:M.length<=100000) (hb:b=true↔(s=t/\e=f/\L=M)):
 Calls prog 34 #[.agg #[.bool s,.slice A L.length c,.int .i64 e],.agg #[.bool t,.slice B M.length d,.int .i64 f]] w λr w'=>r = .returned (.bool b)/\iV w w':=by
 have hE:iV w ((w.alloc (.cells #[.bool s,.slice A L.length c,.int .i64 e] 31)).alloc (.cells #[.bool t,.slice B M.length d,.int .i64 f] 31)):=(iV.alloc _ _).trans (iV.alloc _ _);by_cases h:s=t
 .subst h;by_cases h':e=f
  .subst h';have ns:b=true↔L=M:=by rw[hb];simp
   clear hb;by_cases hl:L.length=M.length
   .have HC:=aqi (λw (h:Sl w A c L) (k:Sl w B d M)=>YJ A B c d L M w h k tL tM aC aC);have hv:Hid (b=(lp (val L) (val M)==0)):=by
     show b=_;refine R8 ns ?_;rw[beq_iff_eq,adK];exact⟨λh=>by rw[h],λh=>nX.ext tL tM hs.ok hr.ok h⟩
    generalize lp (val L) (val M)=v at *
    rw[<-hl]at HC hE ⊢;have hse:(e==e)=true:= aH ;have lj:=(hs.alloc (.cells #[.bool s,.slice A L.length c,.int .i64 e] 31)).alloc (.cells #[.bool s,.slice B L.length d,.int .i64 e] 31);have oE:=(hr.alloc (.cells #[.bool s,.slice A L.length c,.int .i64 e] 31)).alloc (.cells #[.bool s,.slice B L.length d,.int .i64 e] 31);clear ns hl tL tM;cases s
    .go_enter func34,ntmps34;go_wp2_with fail;refine(HC.out _ lj oE).mono ?_;rintro r w' ⟨rfl,lh⟩;go_wp2;go_ret;exact⟨Lu hv.out.symm,hE.trans lh⟩
    .go_enter func34,ntmps34;go_wp2_with fail;refine(HC.out _ lj oE).mono ?_;rintro r w' ⟨rfl,lh⟩;go_wp2;go_ret;exact⟨Lu hv.out.symm,hE.trans lh⟩
   .have:=rL ns (λh=>hl (by rw[h]));clear ns;subst this;have kB:((L.length:Int)==M.length)=false:=bk aC;generalize L.length=n at *
    generalize M.length=m at *
    cases s
    .go_enter func34,ntmps34;go_wp2;go_ret;exact⟨rfl,hE⟩
    .go_enter func34,ntmps34;go_wp2;go_ret;exact⟨rfl,hE⟩
  .have:=rL hb (λh=>h' h.2.1);clear hb;subst this;have kB:(e==f)=false:=bk h';cases s
   .go_enter func34,ntmps34;go_wp2;go_ret;exact⟨rfl,hE⟩
   .go_enter func34,ntmps34;go_wp2;go_ret;exact⟨rfl,hE⟩
 .have:=rL hb (λh'=>h h'.1);clear hb;subst this;cases s<;>cases t
  .exact absurd rfl h
  .go_enter func34,ntmps34;go_wp2;go_ret;exact⟨rfl,hE⟩
  .go_enter func34,ntmps34;go_wp2;go_ret;exact⟨rfl,hE⟩
  .exact absurd rfl h
def Sl.LZ(w:World)(g:Nat)(hg:w.heap.size=g)(y z:Int)(p q:Nat)(e:y=(p:Int))(e':z=(q:Int))(hp:p<4294967296)(hq:q<4294967296):
 Sl (w.alloc (.cells #[.int .u32 y,.int .u32 z] 171)) (some ⟨g,0,none⟩) 2 [p,q]:=by
 subst e e' hg;refine⟨bF _,aE,iZ.cons hp (iZ.cons hq iZ.nil),(λh=>by cases h),λi y hy=>?_⟩;obtain⟨h1,h2⟩:=cE.1 hy;simp at h1;refine⟨_,_,rfl,aH,?_⟩;rw[cD,World.cell?_alloc_at _ _ _ _ rfl];rcases i with _|_|i
 .simp at h2;subst h2;rfl
 .simp at h2;subst h2;rfl
 .omega
def akY(n:Nat)(w:World)(hn:n<4294967296):
 Calls prog 126 #[.int .i64 n] w (yW w (canon false n 0)):=by
 have hm:=Ai n aC;have qD:(n:Int)%4294967296=n:= aC ;rw[qD]at hm;have hd:(n:Int)/4294967296=0:= aC ;have iK:¬(n:Int)<0:= aC ;have Oi:decide ((n:Int)<0)=false:=bD iK;have hu:IntKind.u64.wrap (n:Int)=n:=by rw[IntKind.wrap_u64];omega
 have HC:=aqi (λ(A:Option Addr) c w (h:Sl w A c [n,0])=>Li false A c [n,0] 0 w h aH aE aE);have hv:val [n,0]=n:= aH ;rw[hv]at HC;clear hv;generalize canon false n 0=d at *
 go_enter func126,ntmps126;go_wp2_with fail;refine(HC.out _ _ _ (Sl.LZ _ _ aH _ _ n 0 rfl rfl hn aE)).mono ?_;rintro r w1 ⟨A1,c1,rfl,wD,lh⟩;have mr:iV (w.alloc (.cells #[.bool false,.slice none 0 0,.int .i64 0] 31)) w1:=(iV.alloc _ _).trans lh;have bx:=(j8.new w false none 0 0 0).ext mr;have b0:=bx.c0;have b1:=bx.c1;have b2:=bx.c2;have f0:=bx.fr 0;have f1:=bx.fr 1;have f2:=bx.fr 2;go_wp2;exact vY rfl rfl rfl (bx.set _ _ _ _ _) rfl (bx.wS wD _ _ _ _ _) (j8.vL ((iV.alloc _ _).trans mr) (bF _) _ _ _ _ _)
end Go.Proofs.YtgdahmmlddfimaaGreatDoor
namespace Go.Proofs.YtgdahmmlddfimaaGreatDoor.Fp
def Ez(s:Bool)(e:Int):canon s 0 e=iS:=by unfold canon;rw[bB rfl];rfl
def Jv(s:Bool)(x:Nat)(k:Int):kR (if s then -(x:Int)else(x:Int)) k=canon s x k:=by
 unfold kR;cases s
 .have h:decide ((x:Int)<0)=false:=bD aC ;simp only[bR,bI];rw[h,fi]
 .by_cases h:x=0
  .subst h;simp[Ez]
  .have h:decide (-(x:Int)<0)=true:=bC aC ;simp only[bN];rw[h,gK,fi]
def am6{s:Bool}{m n:Nat}{e f k:Int}(hm:m≠0)(hn:n≠0)(hk:min e f=k):
 iH ⟨s,m,e⟩ ⟨s,n,f⟩=canon s (m*2^(e-k).toNat+n*2^(f-k).toNat) k:=by
 unfold iH;rw[bA hm,bA hn];simp only[hk];rw[<-Jv];unfold Dy.num Dy.kG;cases s
 .simp
 .simp;congr 1;omega
def am4{s t:Bool}{m n:Nat}{e f k:Int}(hm:m≠0)(hn:n≠0)(hk:min e f=k)(hs:s≠t)(tJ:n*2^(f-k).toNat<=m*2^(e-k).toNat):
 iH ⟨s,m,e⟩ ⟨t,n,f⟩=canon s (m*2^(e-k).toNat-n*2^(f-k).toNat) k:=by
 unfold iH;rw[bA hm,bA hn];simp only[hk];rw[<-Jv];unfold Dy.num Dy.kG;simp only;generalize m*2^(e-k).toNat=x at *
 generalize n*2^(f-k).toNat=y at *
 congr 1;cases s<;>cases t<;>simp at hs ⊢ <;> omega
def am5{s t:Bool}{m n:Nat}{e f k:Int}(hm:m≠0)(hn:n≠0)(hk:min e f=k)(hs:s≠t)(iK:m*2^(e-k).toNat<n*2^(f-k).toNat):
 iH ⟨s,m,e⟩ ⟨t,n,f⟩=canon t (n*2^(f-k).toNat-m*2^(e-k).toNat) k:=by
 unfold iH;rw[bA hm,bA hn];simp only[hk];rw[<-Jv];unfold Dy.num Dy.kG;simp only;generalize m*2^(e-k).toNat=x at *
 generalize n*2^(f-k).toNat=y at *
 congr 1;cases s<;>cases t<;>simp at hs ⊢ <;> omega
def aii{L:List Nat}(h:iZ L)(n:Nat):(ij (val L*2^n)).length<=L.length+n/32+1:=by
 refine xB ?_;have h1:=po h;rw[ui]at h1 ⊢;have h2:val L*2^n<2^(32*L.length)*2^n:=dG h1 (bL aE);rw[<-bK]at h2;exact ca h2 (b5 aE aC)
def aih{a b k:Nat}(ha:(ij a).length<=k)(hb:(ij b).length<=k):(ij (a+b)).length<=k+1:=by
 refine xB ?_;have h1:=Hw ha;have h2:=Hw hb;rw[bS];omega
def nA{a b:Nat}(h:a<=b):(ij a).length<=(ij b).length:=
 xB (cQ h (Hw (bF _)))
end Go.Proofs.YtgdahmmlddfimaaGreatDoor.Fp
namespace Go.Proofs.YtgdahmmlddfimaaGreatDoor
open Go.RowKit Fp
def nC(a b:Dy):Dy:=canon (a.neg != b.neg) (a.m*b.m) (a.e+b.e)
def aik{L:List Nat}{k:Nat}(h:iZ L)(hl:L.length<=k):(ij (val L)).length<=k:=
 xB (ca (po h) (b5 aE hl))
end Go.Proofs.YtgdahmmlddfimaaGreatDoor
namespace Go.Proofs.YtgdahmmlddfimaaGreatDoor.Fp
def aiF{d:Dy}{j k:Int}(h1:j<=k)(h2:k<=d.e):d.kG j=d.kG k*2^(k-j).toNat:=by
 unfold Dy.kG;rw[bO,<-bK];congr 2;omega
def KS{d:Dy}{j k:Int}(h1:j<=k)(h2:k<=d.e):d.num j=d.num k*((2^(k-j).toNat:Nat):Int):=by
 unfold Dy.num;rw[aiF h1 h2];split
 .rw [fC,Int.neg_mul]
 .rw [fC]
def xF{d:Dy}(h:d.m=0)(k:Int):d.num k=0:=by
 unfold Dy.num;rw[WX h];split<;>rfl
def xV(x y:Int):Int:=if x<y then -1 else if y<x then 1 else 0
def SM(x y:Int){p:Nat}(hp:0<p):xV (x*(p:Int)) (y*(p:Int))=xV x y:=by
 unfold xV;have h:(0:Int)<p:= aC ;have a:=@Int.mul_lt_mul_right (p:Int) x y h;have b:=@Int.mul_lt_mul_right (p:Int) y x h;simp only[a,b]
def qx(d:Dy)(k:Int):Prop:=d.m=0\/k<=d.e
def qx.le{d:Dy}{j k:Int}(h:qx d k)(hj:j<=k):qx d j:=by
 rcases h with h|h
 .exact .inl h
 .exact .inr aC 
def qx.num{d:Dy}{j k:Int}(h:qx d k)(hj:j<=k):d.num j=d.num k*((2^(k-j).toNat:Nat):Int):=by
 rcases h with h|h
 .rw [xF h,xF h,Int.zero_mul]
 .exact KS hj h
def EA{a b:Dy}{k:Int}(ha:qx a k)(hb:qx b k):jf a b=xV (a.num k) (b.num k):=by
 have e0:jf a b=xV (a.num (min a.e b.e)) (b.num (min a.e b.e)):=rfl;rw[e0];obtain⟨j,h1,h2⟩:∃ j:Int,j<=k/\j<=min a.e b.e:=⟨min k (min a.e b.e),aC,aC⟩
 have a1:=ha.num h1;have b1:=hb.num h1;have a2:=(show qx a (min a.e b.e)from .inr aC).num h2;have b2:=(show qx b (min a.e b.e)from .inr aC).num h2;rw[<-SM _ _ (p:=2^(min a.e b.e-j).toNat) (bL aE),<-a2,<-b2,a1,b1,SM _ _ (bL aE)]
def aiE{s:Bool}{m:Nat}{e k:Int}(h:k<=e):(canon s m e).kG k=m*2^(e-k).toNat:=by
 unfold canon;split
 .rename_i h0;subst h0;simp[Dy.kG]
 .rename_i h0;unfold Dy.kG;simp only;have e1:=Gt h0
  conv=>rhs;rw[<-e1]
  rw[bO,<-bK];congr 2;omega
def DY{s:Bool}{m:Nat}{e k:Int}(h:k<=e):(canon s m e).num k=if s then -((m*2^(e-k).toNat:Nat):Int)else((m*2^(e-k).toNat:Nat):Int):=by
 by_cases h0:m=0
 .subst h0;rw[xF (by simp[canon])];simp
 .have:(canon s m e).neg=s:=by unfold canon;rw[bA h0]
  unfold Dy.num;rw[aiE h,this]
def XJ{m:Nat}{e k:Int}(h:k<=e):(canon false m e).num k=((m*2^(e-k).toNat:Nat):Int):=by
 rw[DY h];simp
def PN{z e k:Int}(h:k<=e):(kR z e).num k=z*((2^(e-k).toNat:Nat):Int):=by
 unfold kR;rw[DY h];by_cases hz:z<0
 .simp only[hz,fT,bN];rw[fC,<-Int.neg_mul];congr 1;omega
 .simp only[hz,apv];rw[fC,show(z.natAbs:Int)=z by omega];simp
def Bs{s:Bool}{m:Nat}{e k:Int}(h:k<=e):qx (canon s m e) k:=by
 unfold canon;split
 .exact .inl rfl
 .exact .inr (by simp only;omega)
def Mu{z e k:Int}(h:k<=e):qx (kR z e) k:=Bs h
def LP{a b:Dy}{k:Int}(ha:qx a k)(hb:qx b k):(iH a b).num k=a.num k+b.num k:=by
 unfold iH;by_cases h1:a.m=0
 .rw [bB h1,xF h1,Int.zero_add]
 .rw [bA h1];by_cases h2:b.m=0
  .rw [bB h2,xF h2,Int.add_zero]
  .rw [bA h2];have ea:k<=a.e:=by rcases ha with h|h;exact absurd h h1;exact h
   have eb:k<=b.e:=by rcases hb with h|h;exact absurd h h2;exact h
   have hm:k<=min a.e b.e:= aC ;rw[PN hm,Int.add_mul,<-KS hm aC,<-KS hm aC]
def Jb{a b:Dy}{k:Int}(ha:qx a k)(hb:qx b k):qx (iH a b) k:=by
 unfold iH;by_cases h1:a.m=0
 .rw [bB h1];exact hb
 .rw [bA h1];by_cases h2:b.m=0
  .rw [bB h2];exact ha
  .rw [bA h2];have ea:k<=a.e:=by rcases ha with h|h;exact absurd h h1;exact h
   have eb:k<=b.e:=by rcases hb with h|h;exact absurd h h2;exact h
   exact Mu aC 
def Ey{a b:Dy}(ha:a.oe)(hb:b.oe):(iH a b).oe:=by
 unfold iH;split
 .exact hb
 .split
  .exact ha
  .exact ux _ _ _
def Mv{d:Dy}{k:Int}(h:qx d k):qx (iO d) k:=h
def PO{d:Dy}(k:Int):(iO d).num k = -(d.num k):=by
 by_cases h:d.m=0
 .rw [xF h,xF (by exact h)];rfl
 .exact XK d k h
def Nj{a b:Dy}(ha:a.oe)(hb:b.oe){k:Int}(h1:qx a k)(h2:qx b k)(h:a.num k=b.num k):a=b:=by
 have zero:∀ {d:Dy},d.oe->d.m=0->d=iS:=by
  intro d hd h0;obtain⟨s,m,e⟩:=d;rcases hd with⟨x,y,z⟩|hd
  .simp only at x y z;subst x y z;rfl
  .simp only at hd h0;omega
 have nz:∀ {d:Dy},d.num k=0->d.m=0:=by
  intro d hd;by_cases h0:d.m=0
  .exact h0
  .exfalso;have:=AT h0 k;unfold Dy.num at hd;split at hd<;>omega
 by_cases za:a.m=0
 .have zb:b.m=0:=nz (by rw[<-h];exact xF za k);rw[zero ha za,zero hb zb]
 .have zb:b.m≠0:=λzb=>za (nz (by rw[h];exact xF zb k))
  have oa:a.m%2=1:=by rcases ha with⟨x,_,_⟩|x;exact absurd x za;exact x
  have ob:b.m%2=1:=by rcases hb with⟨x,_,_⟩|x;exact absurd x zb;exact x
  have ea:k<=a.e:=by rcases h1 with h|h;exact absurd h za;exact h
  have eb:k<=b.e:=by rcases h2 with h|h;exact absurd h zb;exact h
  have pa:=AT za k;have pb:=AT zb k;have hm:a.neg=b.neg/\a.kG k=b.kG k:=by
   unfold Dy.num at h;cases x:a.neg<;>cases y:b.neg<;>simp[x,y]at h<;>first|exact⟨rfl,aC⟩|(exfalso;omega)
  have hc:=congrArg kn hm.2;unfold Dy.kG at hc;rw[An oa,An ob]at hc;have qD:=hm.2;unfold Dy.kG at qD;rw[hc]at qD;have sI:=aqa (bL aE) qD;obtain⟨s,m,e⟩:=a;obtain⟨t,n,f⟩:=b;simp only at *
  have:e=f:= aC ;rw[hm.1,sI,this]
end Go.Proofs.YtgdahmmlddfimaaGreatDoor.Fp
namespace Go.Proofs.YtgdahmmlddfimaaGreatDoor
open Go.RowKit Fp
def ZL(A:Option Addr)(c:Nat)(M:List Nat)(n:Int)(w:World)(lj:Sl w A c M)(hlen:M.length<=256)(h0:0<=n)(hn:n<=65536)(sj:(ij (val M*2^n.toNat)).length<=256):
 Calls prog 220 #[.slice A M.length c,.int .i64 n] w (vU w (ij (val M*2^n.toNat))):=by
 obtain⟨k,rfl⟩:=fU h0;exact amA A c M k w lj hlen aC sj
set_option maxHeartbeats 8000000 in
def aen(s : Bool)(A : Option Addr)(c : Nat)(L : List Nat)(e : Int)(t : Bool)(B : Option Addr)(d : Nat)(M : List Nat)(f : Int)(w : World)
    (hs : Sl w A c L) (hr : Sl w B d M) (da : qc s L e) (db : qc t M f) (xk : val L≠0) (uD : val M≠0):
    Calls prog 183 #[.agg #[.bool s,.slice A L.length c,.int .i64 e],.agg #[.bool t,.slice B M.length d,.int .i64 f]] w λr w' => r = .returned (.int .i64 (uy ⟨s,val L,e⟩ ⟨t,val M,f⟩))/\iV w w' := by
  obtain⟨mP,lZ⟩ := da.exp;obtain⟨Oo,Oq⟩ := db.exp;have hl := da.len;have hm := db.len;have hE : iV w ((w.alloc (.cells #[.bool s,.slice A L.length c,.int .i64 e] 31)).alloc (.cells #[.bool t,.slice B M.length d,.int .i64 f] 31)) := (iV.alloc _ _).trans (iV.alloc _ _);have my := ((j8.new w s A L.length c e).alloc (.cells #[.bool t,.slice B M.length d,.int .i64 f] 31)).drew;have mL := (j8.vG (W := w.alloc (.cells #[.bool s,.slice A L.length c,.int .i64 e] 31)) (g := w.heap.size+1) aH t B M.length d f).drew;have AH := (hs.below hE).drew;have Dr := (hr.below hE).drew;have HE := aqi (hE.trans (iV.drew _));clear hE;have HTa := aqi (λw (h : Sl w A c L) => Ni s A c L e w h da);have HTb := aqi (λw (h : Sl w B d M) => Ni t B d M f w h db);have Hlt := aqi (λh => SO (a := ⟨s,val L,e⟩) (b := ⟨t,val M,f⟩) xk uD h);have Hgt := aqi (λh => SN (a := ⟨s,val L,e⟩) (b := ⟨t,val M,f⟩) xk uD h);have Hta := aqi (show Dy.iI ⟨s,val L,e⟩=iB (val L)+e by unfold Dy.iI;rw[bA xk]);have Htb := aqi (show Dy.iI ⟨t,val M,f⟩=iB (val M)+f by unfold Dy.iI;rw[bA uD]);obtain⟨k,hk⟩ : ∃ k,min e f=k := ⟨_,rfl⟩
  have hke : k<=e := aC ;have hkf : k<=f := aC ;have oq : -17000<=k := aC ;have OB := aqi (aC:k=e\/k=f);have Vz : IntKind.i64.wrap (e-k)=e-k := i64_in _ aC aC;have hwf : IntKind.i64.wrap (f-k)=f-k := i64_in _ aC aC;have HM := aqi (show uy ⟨s,val L,e⟩ ⟨t,val M,f⟩=lp (val L*2^(e-k).toNat) (val M*2^(f-k).toNat)by unfold uy;simp only[hk];rfl);have Hfa := aqi (show iB (val L)+e=iB (val M)+f->iB (val L*2^(e-k).toNat)<=4096 from λh => by
    rw[sC xk];have := da.bits;have := db.bits;have := OB.out;omega)
  have Hfb := aqi (show iB (val L)+e=iB (val M)+f->iB (val M*2^(f-k).toNat)<=4096 from λh => by
    rw[sC uD];have := da.bits;have := db.bits;have := OB.out;omega)
  have HXa := aqi (λw (h : Sl w A c L) sj => ZL A c L (e-k) w h hl aC aC sj);have HXb := aqi (λw (h : Sl w B d M) sj => ZL B d M (f-k) w h hm aC aC sj);generalize Dy.iI ⟨s,val L,e⟩=ta at *
  generalize Dy.iI ⟨t,val M,f⟩=tb at *
  generalize uy ⟨s,val L,e⟩ ⟨t,val M,f⟩=R at *
  generalize val L*2^(e-k).toNat=x at *
  generalize val M*2^(f-k).toNat=y at *
  have HC := aqi (λA B c d w (h : Sl w A c (ij x)) (k : Sl w B d (ij y)) hx hy => KO A B c d (ij x) (ij y) w h k hx hy);rw[kP,kP]at HC;clear xk uD da db hl hm;go_enter func183,ntmps183;go_wp2_with fail;go_region_held3 (λw' => w'.cell? ⟨w.heap.size,0,none⟩=some (.bool s)/\w'.cell? ⟨w.heap.size,1,none⟩=some (.slice A L.length c)/\w'.cell? ⟨w.heap.size,2,none⟩=some (.int .i64 e)/\w'.cell? ⟨w.heap.size+1,0,none⟩=some (.bool t)/\w'.cell? ⟨w.heap.size+1,1,none⟩=some (.slice B M.length d)/\w'.cell? ⟨w.heap.size+1,2,none⟩=some (.int .i64 f))
    (first
      |exact⟨my.c0,my.c1,my.c2,mL.c0,mL.c1,mL.c2⟩
      |exact⟨(my.ext jo).c0,(my.ext jo).c1,(my.ext jo).c2,(mL.ext jo).c0,(mL.ext jo).c1,(mL.ext jo).c2⟩
      |exact⟨(my.ext jE).c0,(my.ext jE).c1,(my.ext jE).c2,(mL.ext jE).c0,(mL.ext jE).c1,(mL.ext jE).c2⟩
      |exact⟨(my.ext (jo.trans jE)).c0,(my.ext (jo.trans jE)).c1,(my.ext (jo.trans jE)).c2,(mL.ext (jo.trans jE)).c0,(mL.ext (jo.trans jE)).c1,(mL.ext (jo.trans jE)).c2⟩
      |exact⟨(my.ext (jE.trans jo)).c0,(my.ext (jE.trans jo)).c1,(my.ext (jE.trans jo)).c2,(mL.ext (jE.trans jo)).c0,(mL.ext (jE.trans jo)).c1,(mL.ext (jE.trans jo)).c2⟩
      |exact⟨(my.ext ((jo.trans jE).trans nk)).c0,(my.ext ((jo.trans jE).trans nk)).c1,(my.ext ((jo.trans jE).trans nk)).c2,(mL.ext ((jo.trans jE).trans nk)).c0,(mL.ext ((jo.trans jE).trans nk)).c1,(mL.ext ((jo.trans jE).trans nk)).c2⟩
      |exact⟨(my.ext ((jE.trans jo).trans nk)).c0,(my.ext ((jE.trans jo).trans nk)).c1,(my.ext ((jE.trans jo).trans nk)).c2,(mL.ext ((jE.trans jo).trans nk)).c0,(mL.ext ((jE.trans jo).trans nk)).c1,(mL.ext ((jE.trans jo).trans nk)).c2⟩)
    (first
      | (go_at_call_of 185 (Value.agg #[.bool s,.slice A L.length c,.int .i64 e])
         refine(HTa.out _ ?_).mono ?_
         (first|exact AH|exact AH.below jE)
         rintro r wx ⟨rfl,jo⟩)
      | (go_at_call_of 185 (Value.agg #[.bool t,.slice B M.length d,.int .i64 f])
         refine(HTb.out _ ?_).mono ?_
         (first|exact Dr|exact Dr.below jo)
         rintro r wy ⟨rfl,jE⟩))
  first
    | (have rC := jo.trans jE)
    | (have rC := jE.trans jo)
  have cx1 := (my.ext rC).drew;have cx2 := (mL.ext rC).drew;have lj := (AH.below rC).drew;have oE := (Dr.below rC).drew;have cx1n := (my.ext rC)
  have cx2n := (mL.ext rC)
  have HF := aqi ((HE.out.trans rC).trans (iV.drew _));have HFr := aqi (HE.out.trans rC);clear jo jE rC;by_cases h1 : ta<tb
  . have hR := aqi (Hlt.out h1)
    go_wp2;go_ret;exact⟨pz hR.out.symm,HFr.out⟩
  . by_cases h2 : tb<ta
    . have hR := aqi (Hgt.out h2)
      go_wp2;go_ret;exact⟨pz hR.out.symm,HFr.out⟩
    . have ot : (iB (val L) : Int)+e=iB (val M)+f := by rw[<-Hta.out,<-Htb.out];omega
      have qh := Pp (k := 128) (Hfa.out ot);have hfb := Pp (k := 128) (Hfb.out ot);have HXa2 := aqi (λw h => HXa.out w h aC);have HXb2 := aqi (λw h => HXb.out w h aC);have HC2 := aqi (λA B c d w h k => HC.out A B c d w h k aC aC);have b0 := cx1n.c0;have b1 := cx1n.c1;have b2 := cx1n.c2;have d0 := cx2n.c0;have d1 := cx2n.c1;have d2 := cx2n.c2;clear ot qh hfb;go_wp2_with fail;go_region_held3 (λw' => w'.cell? ⟨w.heap.size,0,none⟩=some (.bool s)/\w'.cell? ⟨w.heap.size,1,none⟩=some (.slice A L.length c)/\w'.cell? ⟨w.heap.size,2,none⟩=some (.int .i64 e)/\w'.cell? ⟨w.heap.size+1,0,none⟩=some (.bool t)/\w'.cell? ⟨w.heap.size+1,1,none⟩=some (.slice B M.length d)/\w'.cell? ⟨w.heap.size+1,2,none⟩=some (.int .i64 f))
        (first
          |exact⟨cx1.c0,cx1.c1,cx1.c2,cx2.c0,cx2.c1,cx2.c2⟩
          |exact⟨(cx1.ext jo).c0,(cx1.ext jo).c1,(cx1.ext jo).c2,(cx2.ext jo).c0,(cx2.ext jo).c1,(cx2.ext jo).c2⟩
          |exact⟨(cx1.ext jE).c0,(cx1.ext jE).c1,(cx1.ext jE).c2,(cx2.ext jE).c0,(cx2.ext jE).c1,(cx2.ext jE).c2⟩
          |exact⟨(cx1.ext (jo.trans jE)).c0,(cx1.ext (jo.trans jE)).c1,(cx1.ext (jo.trans jE)).c2,(cx2.ext (jo.trans jE)).c0,(cx2.ext (jo.trans jE)).c1,(cx2.ext (jo.trans jE)).c2⟩
          |exact⟨(cx1.ext (jE.trans jo)).c0,(cx1.ext (jE.trans jo)).c1,(cx1.ext (jE.trans jo)).c2,(cx2.ext (jE.trans jo)).c0,(cx2.ext (jE.trans jo)).c1,(cx2.ext (jE.trans jo)).c2⟩
          |exact⟨(cx1.ext ((jo.trans jE).trans nk)).c0,(cx1.ext ((jo.trans jE).trans nk)).c1,(cx1.ext ((jo.trans jE).trans nk)).c2,(cx2.ext ((jo.trans jE).trans nk)).c0,(cx2.ext ((jo.trans jE).trans nk)).c1,(cx2.ext ((jo.trans jE).trans nk)).c2⟩
          |exact⟨(cx1.ext ((jE.trans jo).trans nk)).c0,(cx1.ext ((jE.trans jo).trans nk)).c1,(cx1.ext ((jE.trans jo).trans nk)).c2,(cx2.ext ((jE.trans jo).trans nk)).c0,(cx2.ext ((jE.trans jo).trans nk)).c1,(cx2.ext ((jE.trans jo).trans nk)).c2⟩)
        (first
          | (go_at_call_of 220 (Value.slice A L.length c)
             refine(HXa2.out _ ?_).mono ?_
             (first|exact lj|exact lj.below jE)
             rintro r wx ⟨Ax,cx,rfl,Vm,jo⟩)
          | (go_at_call_of 220 (Value.slice B M.length d)
             refine(HXb2.out _ ?_).mono ?_
             (first|exact oE|exact oE.below jo)
             rintro r wy ⟨Ay,cy,rfl,Vn,jE⟩)
          | (go_at_call 223
             refine(HC2.out _ _ _ _ _ ?_ ?_).mono ?_
             (first|exact Vm.below jE|exact Vm)
             (first|exact Vn|exact Vn.below jo)
             rintro r wz ⟨rfl,nk⟩))
      all_goals
        go_wp2;go_ret
        (first|exact⟨pz HM.out.symm,HF.out.trans ((jo.trans jE).trans nk)⟩|exact⟨pz HM.out.symm,HF.out.trans ((jE.trans jo).trans nk)⟩)
def ZT{d:Dy}:d.jq=0↔d.m=0:=by
 rcases FP d with⟨h1,h2⟩|⟨h1,_,h2⟩|⟨h1,_,h2⟩<;>simp[h1,h2]
def ael(s : Bool)(A : Option Addr)(c : Nat)(L : List Nat)(e : Int)(t : Bool)(B : Option Addr)(d : Nat)(M : List Nat)(f : Int)(w : World)
    (hs : Sl w A c L) (hr : Sl w B d M) (da : qc s L e) (db : qc t M f):
    Calls prog 108 #[.agg #[.bool s,.slice A L.length c,.int .i64 e],.agg #[.bool t,.slice B M.length d,.int .i64 f]] w λr w' => r = .returned (.int .i64 (jf ⟨s,val L,e⟩ ⟨t,val M,f⟩))/\iV w w' := by
  obtain⟨mP,lZ⟩ := da.exp;obtain⟨Oo,Oq⟩ := db.exp;have HVa := aqi (λw (h : Sl w A c L) => C1 s A c L e w true h aC aC (by simp[da]));have HVb := aqi (λw (h : Sl w B d M) => C1 t B d M f w true h aC aC (by simp[db]));have HSa := aqi (λw (h : Sl w A c L) => Ng s A c L e w h da);have HSb := aqi (λw (h : Sl w B d M) => Ng t B d M f w h db);have HK := aqi (λh1 h2 w (h : Sl w A c L) (k : Sl w B d M) => aen s A c L e t B d M f w h k da db h1 h2);have HP := aqi (EC ⟨s,val L,e⟩ ⟨t,val M,f⟩);have z1 : Hid (Dy.jq ⟨s,val L,e⟩=0↔val L=0) := ZT;have z2 : Hid (Dy.jq ⟨t,val M,f⟩=0↔val M=0) := ZT;have Kw : Dy.jq ⟨s,val L,e⟩=0\/Dy.jq ⟨s,val L,e⟩ = -1\/Dy.jq ⟨s,val L,e⟩=1 := by
    rcases FP ⟨s,val L,e⟩with⟨_,h⟩|⟨_,_,h⟩|⟨_,_,h⟩<;>simp[h]
  have oo : uy ⟨s,val L,e⟩ ⟨t,val M,f⟩ = -1\/uy ⟨s,val L,e⟩ ⟨t,val M,f⟩=0\/uy ⟨s,val L,e⟩ ⟨t,val M,f⟩=1 := by
    unfold uy lp;split;simp;split<;>simp
  generalize Dy.jq ⟨s,val L,e⟩=sa at *
  generalize Dy.jq ⟨t,val M,f⟩=sb at *
  generalize uy ⟨s,val L,e⟩ ⟨t,val M,f⟩=cm at *
  generalize jf ⟨s,val L,e⟩ ⟨t,val M,f⟩=R at *
  have Dw : IntKind.i64.wrap (sa*cm)=sa*cm := i64_in _ (by rcases Kw with rfl|rfl|rfl<;>omega) (by rcases Kw with rfl|rfl|rfl<;>omega);have HH := aqi Kw;clear Kw oo da db;go_enter func108,ntmps108;go_wp2_with fail;refine(HVa.out _ ((hs.alloc _).alloc _)).mono ?_;rintro r w1 ⟨rfl,lh⟩;have my := ((j8.new w s A L.length c e).alloc (.cells #[.bool t,.slice B M.length d,.int .i64 f] 31)).ext lh;have mL := (j8.vG (W := w.alloc (.cells #[.bool s,.slice A L.length c,.int .i64 e] 31)) (g := w.heap.size+1) aH t B M.length d f).ext lh;have b0 := my.c0;have b1 := my.c1;have b2 := my.c2;have d0 := mL.c0;have d1 := mL.c1;have d2 := mL.c2;have hE := (((iV.alloc w (.cells #[.bool s,.slice A L.length c,.int .i64 e] 31)).trans (iV.alloc _ (.cells #[.bool t,.slice B M.length d,.int .i64 f] 31))).trans lh)
  go_wp2_with fail;refine(HVb.out _ (hr.below hE)).mono ?_;rintro r w2 ⟨rfl,om⟩;have J1 := hE.trans om;have my := (my.ext om).drew;have mL := (mL.ext om).drew;have AH := (hs.below J1).drew;have Dr := (hr.below J1).drew;have HE := aqi (J1.trans (iV.drew _));clear hE J1 lh om b0 b1 b2 d0 d1 d2;go_wp2_with fail;go_region_held3 (λw' => w'.cell? ⟨w.heap.size,0,none⟩=some (.bool s)/\w'.cell? ⟨w.heap.size,1,none⟩=some (.slice A L.length c)/\w'.cell? ⟨w.heap.size,2,none⟩=some (.int .i64 e)/\w'.cell? ⟨w.heap.size+1,0,none⟩=some (.bool t)/\w'.cell? ⟨w.heap.size+1,1,none⟩=some (.slice B M.length d)/\w'.cell? ⟨w.heap.size+1,2,none⟩=some (.int .i64 f))
    (first
      |exact⟨my.c0,my.c1,my.c2,mL.c0,mL.c1,mL.c2⟩
      |exact⟨(my.ext jo).c0,(my.ext jo).c1,(my.ext jo).c2,(mL.ext jo).c0,(mL.ext jo).c1,(mL.ext jo).c2⟩
      |exact⟨(my.ext jE).c0,(my.ext jE).c1,(my.ext jE).c2,(mL.ext jE).c0,(mL.ext jE).c1,(mL.ext jE).c2⟩
      |exact⟨(my.ext (jo.trans jE)).c0,(my.ext (jo.trans jE)).c1,(my.ext (jo.trans jE)).c2,(mL.ext (jo.trans jE)).c0,(mL.ext (jo.trans jE)).c1,(mL.ext (jo.trans jE)).c2⟩
      |exact⟨(my.ext (jE.trans jo)).c0,(my.ext (jE.trans jo)).c1,(my.ext (jE.trans jo)).c2,(mL.ext (jE.trans jo)).c0,(mL.ext (jE.trans jo)).c1,(mL.ext (jE.trans jo)).c2⟩)
    (first
      | (go_at_call_of 92 (Value.agg #[.bool s,.slice A L.length c,.int .i64 e])
         refine(HSa.out _ ?_).mono ?_
         (first|exact AH|exact AH.below jE)
         rintro r wx ⟨rfl,jo⟩)
      | (go_at_call_of 92 (Value.agg #[.bool t,.slice B M.length d,.int .i64 f])
         refine(HSb.out _ ?_).mono ?_
         (first|exact Dr|exact Dr.below jo)
         rintro r wy ⟨rfl,jE⟩))
  first
    | (have rC := jo.trans jE)
    | (have rC := jE.trans jo)
  have cx1 := (my.ext rC)
  have cx2 := (mL.ext rC)
  have lj := (AH.below rC)
  have oE := (Dr.below rC)
  have HFr := aqi (HE.out.trans rC);clear jo jE rC;by_cases h1 : sa<sb
  . have hR := aqi (show R = -1 by rw[HP.out,bB h1])
    go_wp2;go_ret;exact⟨pz hR.out.symm,HFr.out⟩
  . by_cases h2 : sb<sa
    . have hR := aqi (show R=1 by rw[HP.out,bA h1,bB h2])
      go_wp2;go_ret;exact⟨pz hR.out.symm,HFr.out⟩
    . by_cases h3 : sa=0
      . have hR := aqi (show R=0 by rw[HP.out,bA h1,bA h2,bB h3])
        have hz : (sa==0)=true := by simp[h3]
        go_wp2;go_ret;exact⟨pz hR.out.symm,HFr.out⟩
      . have hR := aqi (show R=sa*cm by rw[HP.out,bA h1,bA h2,bA h3])
        have hz : (sa==0)=false := bk h3;have HK2 := aqi (HK.out (λh => h3 (z1.out.2 h)) (λh => h3 (by have := z2.out.2 h;omega)));have b0 := cx1.c0;have b1 := cx1.c1;have b2 := cx1.c2;have d0 := cx2.c0;have d1 := cx2.c1;have d2 := cx2.c2;go_wp2_with fail;refine(HK2.out _ lj oE).mono ?_;rintro r w3 ⟨rfl,sG⟩;go_wp2;go_ret;exact⟨pz hR.out.symm,HFr.out.trans sG⟩
def Sv{L:List Nat}(h:iZ L)(hl:L.length<=256)(s:Bool)(e:Int):(ij (canon s (val L) e).m).length<=100000000:=by
 unfold canon;split
 .simp [oV]
 .refine bH (xB (k:=256) (cQ (cw _ _) ?_)) aE ;exact ca (po h) (b5 aE hl)
def Su{L:List Nat}(h:iZ L)(hl:L.length<=256)(s:Bool)(e:Int)(h1:-9000000<=e)(h2:e<=9000000):-10000000<=(canon s (val L) e).e/\(canon s (val L) e).e<=10000000:=by
 unfold canon;split
 .simp
 .rename_i h0;have:=Gj h h0;simp only;omega
def ak7(s:Bool)(A:Option Addr)(c:Nat)(L:List Nat)(e k:Int)(w:World)(hs:Sl w A c L)(hd:qc s L e)(oq:-32768<=k)(yi:k<=32768)(hr:oR (canon s (val L) (e+k))):
 Calls prog 125 #[.agg #[.bool s,.slice A L.length c,.int .i64 e],.int .i64 k] w (Ae w (canon s (val L) (e+k)) 0):=by
 obtain⟨mP,lZ⟩:=hd.exp;have hlen:=hd.len;have HV:=aqi (λw (h:Sl w A c L)=>Lm s A c L e w true h aC aC (by simp[hd]));have HX:=aqi (λw=>akV k w true (by simp[oq,yi]));have hw:IntKind.i64.wrap (e+k)=e+k:=i64_in _ aC aC;have HC:=aqi (λw (h:Sl w A c L)=>Li s A c L (e+k) w h aC aC aC);have lh:=Sv hs.ok hlen s (e+k);obtain⟨om,sG⟩:=Su hs.ok hlen s (e+k) aC aC;have hv:(canon s (val L) (e+k)).ix:=⟨ux _ _ _,hr⟩
 have HK:=aqi (λA c w (h:Sl w A c (ij (canon s (val L) (e+k)).m))=>akS _ A c w h lh om sG hv);generalize canon s (val L) (e+k)=D at *
 clear hd hr hv lh om sG;go_enter func125,ntmps125;go_wp2_with fail;refine(HV.out _ ((hs.alloc _).alloc _)).mono ?_;rintro r w1 ⟨rfl,lh⟩;have my:=((j8.new w s A L.length c e).alloc (.cells #[.bool false,.slice none 0 0,.int .i64 0] 31)).ext lh;have mL:=(j8.vG (W:=w.alloc (.cells #[.bool s,.slice A L.length c,.int .i64 e] 31)) (g:=w.heap.size+1) aH false none 0 0 0).ext lh;have b0:=my.c0;have b1:=my.c1;have b2:=my.c2;have hE:=(((iV.alloc w (.cells #[.bool s,.slice A L.length c,.int .i64 e] 31)).trans (iV.alloc _ (.cells #[.bool false,.slice none 0 0,.int .i64 0] 31))).trans lh)
 have AH:=hs.below hE;have HE:=aqi hE;clear hE lh;go_wp2_with fail;refine(HX.out _).mono ?_;rintro r w2 ⟨rfl,rfl⟩;go_wp2_with fail;refine(HC.out _ AH).mono ?_;rintro r w2 ⟨A1,c1,rfl,wD,om⟩;go_wp2_with fail;refine(HK.out _ _ _ wD).mono ?_;rintro r w3 ⟨A2,c2,rfl,lj,sG⟩;have bz:=mL.ext (om.trans sG);have z0:=bz.c0;have z1:=bz.c1;have z2:=bz.c2;have f0:=bz.fr 0;have f1:=bz.fr 1;have f2:=bz.fr 2;go_wp2;exact EI rfl rfl rfl rfl (bz.set _ _ _ _ _) rfl (bz.wS lj _ _ _ _ _) (j8.vL (HE.out.trans (om.trans sG)) aC _ _ _ _ _)
abbrev DV(d:Dy)(A:Option Addr)(c:Nat):Value:=.agg #[.bool d.neg,.slice A (ij d.m).length c,.int .i64 d.e]
def WG{n k:Nat}(h:iB n<=32*k):(ij n).length<=k:=by
 refine xB (ca (tv _) ?_);rw[ui];exact b5 aE h
def Fp.Dy.ix.xf{d:Dy}(h:d.ix):qc d.neg (ij d.m) d.e:=by
 refine⟨wW _,WG ?_,by rw[kP];exact h⟩;rcases h.range with h0|⟨h1,_⟩
 .rw [h0];exact cj _
 .omega
def Fp.Dy.ix.len{d:Dy}(h:d.ix):(ij d.m).length<=256:=h.xf.2.1
def Fp.Dy.ix.exp{d:Dy}(h:d.ix):-16384<=d.e/\d.e<=16384:=h.xf.exp
def Fp.Dy.ix.bits{d:Dy}(h:d.ix):iB d.m<=4096:=by have:=h.xf.bits;rwa[kP]at this
def j8.all{w:World}{g n c:Nat}{s:Bool}{A:Option Addr}{e:Int}(h:j8 w g s A n c e):w.cell? ⟨g,0,none⟩=some (.bool s)/\w.cell? ⟨g,1,none⟩=some (.slice A n c)/\w.cell? ⟨g,2,none⟩=some (.int .i64 e):=⟨h.c0,h.c1,h.c2⟩
def j8.C5{w:World}{g n c:Nat}{s:Bool}{A:Option Addr}{e:Int}(h:j8 w g s A n c e){g':Nat}(kB:g'≠g)(i:Nat)(v:Value):j8 (w.setCell ⟨g',i,none⟩ v) g s A n c e:=by
 unfold j8 at h ⊢;simp only[World.setCell,fH];rw[bA kB];exact h
def j8.ND{w:World}{g n c:Nat}{s:Bool}{A:Option Addr}{e:Int}(h:j8 w g s A n c e){g':Nat}(kB:g'≠g)(v0 v1 v2:Value):
 j8 (((w.setCell ⟨g',0,none⟩ v0).setCell ⟨g',1,none⟩ v1).setCell ⟨g',2,none⟩ v2) g s A n c e:=((h.C5 kB 0 v0).C5 kB 1 v1).C5 kB 2 v2
structure Bq(d:Dy):Prop where
 len:(ij d.m).length<=256
 lo:-17000<=d.e
 hi:d.e<=17000
def Fp.Dy.ix.zK{d:Dy}(h:d.ix):Bq d:=⟨h.len,by have:=h.exp;omega,by have:=h.exp;omega⟩
def akU(a b:Dy)(A B:Option Addr)(c d:Nat)(w:World)(r:Bool)(h:Sl w A c (ij a.m))(k:Sl w B d (ij b.m))(ha:(ij a.m).length<=100000)(hb:(ij b.m).length<=100000)(hr:r=true↔a=b):
 Calls prog 34 #[DV a A c,DV b B d] w λe w'=>e = .returned (.bool r)/\iV w w':=
 akT a.neg A c (ij a.m) a.e b.neg B d (ij b.m) b.e w r h k (wW _) (wW _) ha hb (by
  rw[hr];obtain⟨s,m,e⟩:=a;obtain⟨t,n,f⟩:=b;simp only[Dy.mk.injEq];constructor
  .rintro ⟨x,y,z⟩;exact⟨x,z,by rw[y]⟩
  .rintro ⟨x,y,z⟩;have:=congrArg val z;rw[kP,kP]at this;exact⟨x,this,y⟩)
def aem(a b:Dy)(A B:Option Addr)(c d:Nat)(w:World)(h:Sl w A c (ij a.m))(k:Sl w B d (ij b.m))(ha:a.ix)(hb:b.ix):
 Calls prog 108 #[DV a A c,DV b B d] w λe w'=>e = .returned (.int .i64 (jf a b))/\iV w w':=by
 have:=ael a.neg A c (ij a.m) a.e b.neg B d (ij b.m) b.e w h k ha.xf hb.xf;rw[kP,kP]at this;exact this
def aej(a:Dy)(A:Option Addr)(c:Nat)(w:World)(h:Sl w A c (ij a.m))(ha:a.ix):
 Calls prog 173 #[DV a A c] w λe w'=>e = .returned (.int .i64 (iB a.m))/\iV w w':=by
 have:=aei a.neg A c (ij a.m) a.e w h ha.xf;rw[kP]at this;exact this
def aer(a:Dy)(A:Option Addr)(c:Nat)(w:World)(h:Sl w A c (ij a.m))(ha:a.ix):
 Calls prog 92 #[DV a A c] w λe w'=>e = .returned (.int .i64 a.jq)/\iV w w':=by
 have:=Ng a.neg A c (ij a.m) a.e w h ha.xf;rw[kP]at this;exact this
def Tn(a:Dy)(A:Option Addr)(c:Nat)(w:World)(h:Sl w A c (ij a.m))(ha:a.ix):
 Calls prog 91 #[DV a A c] w λe w'=>e = .returned (.bool true)/\iV w w':=
 C1 a.neg A c (ij a.m) a.e w true h (by have:=ha.exp;omega) (by have:=ha.exp;omega) (by simp[ha.xf])
open Pu
def Rv:∀ w w',Tb w->Below w.heap.size w w'->Tb w':=λ_ _ h hb=>h.below hb
def mixed:prog.follows .mixedOrders=true:= aF 
abbrev ie(f:FuncId)(args:List E)(kt:E):Prop:=PC prog Tb f args kt
def ik(L:List Nat):E:=.sl false L.length 1 λi _=>.v (.int .u32 (L.getD i 0:Int))
def iz(d:Dy):E:=.agg [.v (.bool d.neg),ik (ij d.m),.v (.int .i64 d.e)]
abbrev iP(z:Int):E:=.v (.int .i64 z)
abbrev bP(b:Bool):E:=.v (.bool b)
abbrev ar:List E:=[bP false,.v (.slice none 0 0),iP 0]
abbrev au:List E:=[bP false,.v (.slice none 0 0),iP 0,bP false,.v (.slice none 0 0),iP 0,bP false]
def yQ{bs br:Nat->Prop}{w:World}{L:List Nat}{v:Value}(hk:iZ L)(h:iQ bs br w (ik L) v):∃ A c,v = .slice A L.length c/\Sl w A c L:=by
 cases h with
 |sl _ _ _ _ A c f hc hm h0 hl hr cell kk=>
  refine⟨A,c,rfl,hc,hm,hk,h0,λi x hx=>?_⟩;obtain⟨hi,yB⟩:=cE.1 hx;obtain⟨b,o,e1,_,iK,kF⟩:=cell i 0 hi aE;have hv:=iQ.kX (kk i 0 hi aE);refine⟨b,o,e1,iK,?_⟩;rw[cI,cg,hv]at kF;rw[kF];simp[bE,hx]
def CE{B br:Nat->Prop}{w w':World}{A:Option Addr}{c:Nat}{L:List Nat}(hB:∀ b,B b->b<w.heap.size/\pD w b)(hb:iV w w')(h:Sl w' A c L):iQ B br w' (ik L) (.slice A L.length c):=by
 refine .sl false L.length 1 _ A c (λi _=>.int .u32 (L.getD i 0:Int)) h.cap h.rO h.zL (λi j _ _=>⟨rfl,λh=>by cases h⟩) (λi j _ _=>rfl) (λi j hi hj=>?_) (λi j _ _=>.v _)
 .obtain rfl:j=0:= aC ;obtain⟨b,o,e1,iK,kF⟩:=h.mS hi;have e2:L.getD i 0=L[i]:=by simp[bE,hi]
  refine⟨b,o,e1,λBW=>?_,iK,by rw[cI,cg,kF,e2]⟩;obtain⟨h1,h2⟩:=hB b BW;exact(h2.Fz (hb.block b h1)) _ _ kF
def JH{bs br:Nat->Prop}{w:World}{d:Dy}{v:Value}(h:iQ bs br w (iz d) v):∃ A c,v=DV d A c/\Sl w A c (ij d.m):=by
 obtain⟨vs,rfl,q⟩:=iQ.CQ (show iQ bs br w (.agg _) v from h);obtain⟨v1,vs,rfl,h1,q⟩:=q.ni;obtain⟨v2,vs,rfl,h2,q⟩:=q.ni;obtain⟨v3,vs,rfl,h3,q⟩:=q.ni;obtain rfl:=q.rS;obtain rfl:=iQ.kX h1;obtain rfl:=iQ.kX h3;obtain⟨A,c,rfl,hs⟩:=yQ (mQ _) h2;exact⟨A,c,rfl,hs⟩
def Tl{B br:Nat->Prop}{w w':World}{A:Option Addr}{c:Nat}{d:Dy}(hB:∀ b,B b->b<w.heap.size/\pD w b)(hb:iV w w')(h:Sl w' A c (ij d.m)):iQ B br w' (iz d) (DV d A c):=
 kJ.agg (.cons (.v _) (.cons (CE hB hb h) (.cons (.v _) (.nil _ _ _))))
section
variable {f:FuncId} {a b:Dy}
def zT(hc:∀ (vs:Array Value) (w:World),(callFunc f vs).run prog w = .ok (.enter f vs) w){kt:E}{R:World->Ending->World->Prop}
 (H:∀ A c w,Sl w A c (ij a.m)->Tb w->Calls prog f #[DV a A c] w (R w)) (hR:∀ (B:Nat->Prop) w e w',(∀ b,B b->b<w.heap.size/\pD w b)->R w e w'->∃ v,e = .returned v/\Below w.heap.size w w'/\iQ B (λ_=>True) w' kt v):ie f [iz a] kt:=by
 refine⟨hc,λw B vs hK hB hr=>?_⟩;obtain⟨v1,vs,rfl,h1,hr⟩:=hr.ni;obtain rfl:=hr.rS;obtain⟨A,c,rfl,s1⟩:=JH h1;exact(H A c w s1 hK).mono λe w' h=>hR B w e w' hB h
def XZ(hc:∀ (vs:Array Value) (w:World),(callFunc f vs).run prog w = .ok (.enter f vs) w){kt:E}{R:World->Ending->World->Prop}
 (H:∀ A c A' c' w,Sl w A c (ij a.m)->Sl w A' c' (ij b.m)->Tb w->Calls prog f #[DV a A c,DV b A' c'] w (R w)) (hR:∀ (B:Nat->Prop) w e w',(∀ b,B b->b<w.heap.size/\pD w b)->R w e w'->∃ v,e = .returned v/\Below w.heap.size w w'/\iQ B (λ_=>True) w' kt v):ie f [iz a,iz b] kt:=by
 refine⟨hc,λw B vs hK hB hr=>?_⟩;obtain⟨v1,vs,rfl,h1,hr⟩:=hr.ni;obtain⟨v2,vs,rfl,h2,hr⟩:=hr.ni;obtain rfl:=hr.rS;obtain⟨A,c,rfl,s1⟩:=JH h1;obtain⟨A',c',rfl,s2⟩:=JH h2;exact(H A c A' c' w s1 s2 hK).mono λe w' h=>hR B w e w' hB h
end
def rv{x:Value}:∀ (B:Nat->Prop) (w:World) (e:Ending) (w':World),(∀ b,B b->b<w.heap.size/\pD w b)->(e = .returned x/\iV w w')->∃ v,e = .returned v/\Below w.heap.size w w'/\iQ B (λ_=>True) w' (.v x) v:=
 λ_ _ _ _ _ h=>⟨x,h.1,h.2,.v x⟩
def rd{d:Dy}:∀ (B:Nat->Prop) (w:World) (e:Ending) (w':World),(∀ b,B b->b<w.heap.size/\pD w b)->yW w d e w'->∃ v,e = .returned v/\Below w.heap.size w w'/\iQ B (λ_=>True) w' (iz d) v:=
 λ_ _ _ _ hB ⟨_,_,h1,h2,h3⟩=>⟨_,h1,h3,Tl hB h3 h2⟩
def Ql{d:Dy}{n:Int}:∀ (B:Nat->Prop) (w:World) (e:Ending) (w':World),(∀ b,B b->b<w.heap.size/\pD w b)->Ae w d n e w'->∃ v,e = .returned v/\Below w.heap.size w w'/\iQ B (λ_=>True) w' (.iE [iz d,iP n]) v:=
 λ_ _ _ _ hB ⟨_,_,h1,h2,h3⟩=>⟨_,h1,h3,kJ.iE (.cons (Tl hB h3 h2) (.cons (.v _) (.nil _ _ _)))⟩
def Bm:E.le (.agg ar) (iz iS):=by
 have:iz iS = .agg [bP false,.sl false 0 1 λi _=>.v (.int .u32 (((ij 0).getD i 0:Nat):Int)),iP 0]:=by
  show E.agg [bP false,ik (ij 0),iP 0]=_;unfold ik;rw[oV];rfl
 rw[this];exact .agg (.cons (.refl _) (.cons (.nil _ _ _) (.cons (.refl _) .nil)))
def nR(a b:Dy)(ha:a.ix)(hb:b.ix):ie 108 [iz a,iz b] (iP (jf a b)):=XZ call108 (λA c A' c' w h k _=>aem a b A A' c c' w h k ha hb) rv
def qd(a:Dy)(ha:a.ix):ie 92 [iz a] (iP a.jq):=zT call92 (λA c w h _=>aer a A c w h ha) rv
def sT(a:Dy)(ha:a.ix):ie 91 [iz a] (bP true):=zT call91 (λA c w h _=>Tn a A c w h ha) rv
def JF(a:Dy)(ha:a.ix):ie 173 [iz a] (iP (iB a.m)):=zT call173 (λA c w h _=>aej a A c w h ha) rv
def zY(t e:Nat)(s:String):TI:=⟨t,.slice e,⟨.slice e,s,1,24,true,8,8,some (.slice none 0 0),false,#[]⟩⟩
def vN(t:Nat)(d:TypeDesc)(s:String):TI:=⟨t,d,⟨d,s,1,8,true,8,8,some (.nilFunc),false,#[]⟩⟩
def TT:List TI:=[
 ⟨3,.int .i64,⟨.int .i64, "int", 1,8,false,8,8,some (.int .i64 0),true,#[]⟩⟩,
 ⟨4,.bool,⟨.bool, "bool", 1,1,false,1,1,some (.bool false),true,#[]⟩⟩,
 ⟨9,.string,⟨.string, "string", 1,16,true,8,8,some (.string ⟨#[]⟩),true,#[]⟩⟩,zY 22 107 "[]api.Op",zY 23 3 "[]int",
 ⟨25,.struct #[⟨"Ins", 3,0,false, "", "", 0⟩,⟨"Ops", 22,1,false, "", "", 8⟩,⟨"Outs", 23,2,false, "", "", 32⟩],⟨.named "flowpipe/api.Tape" 24, "api.Tape", 3,56,true,8,8,some (.agg #[.int .i64 0,.slice none 0 0,.slice none 0 0]),false,#[]⟩⟩,zY 26 39 "[]api.Interval",
 ⟨28,.struct #[⟨"Tape", 25,0,false, "", "", 0⟩,⟨"States", 3,3,false, "", "", 56⟩,⟨"Params", 26,4,false, "", "", 64⟩],⟨.named "flowpipe/api.System" 27, "api.System", 5,88,true,8,8,some (.agg #[.int .i64 0,.slice none 0 0,.slice none 0 0,.int .i64 0,.slice none 0 0]),false,#[]⟩⟩,zY 29 171 "[]uint32",
 ⟨31,.struct #[⟨"Neg", 4,0,false, "", "", 0⟩,⟨"M", 29,1,false, "", "", 8⟩,⟨"E", 3,2,false, "", "", 32⟩],⟨.named "flowpipe/api.Dyadic" 30, "api.Dyadic", 3,40,true,8,8,some (.agg #[.bool false,.slice none 0 0,.int .i64 0]),false,#[]⟩⟩,
 ⟨33,.struct #[⟨"From", 31,0,false, "", "", 0⟩,⟨"To", 31,3,false, "", "", 40⟩,⟨"Tube", 26,6,false, "", "", 80⟩,⟨"End", 26,7,false, "", "", 104⟩],⟨.named "flowpipe/api.Segment" 32, "api.Segment", 8,128,true,8,8,some (.agg #[.bool false,.slice none 0 0,.int .i64 0,.bool false,.slice none 0 0,.int .i64 0,.slice none 0 0,.slice none 0 0]),false,#[]⟩⟩,vN 36 (.func #[31] #[4] false) "func(api.Dyadic) bool",
 ⟨39,.struct #[⟨"Lo", 31,0,false, "", "", 0⟩,⟨"Hi", 31,3,false, "", "", 40⟩,⟨"All", 4,6,false, "", "", 80⟩],⟨.named "flowpipe/api.Interval" 38, "api.Interval", 7,88,true,8,8,some (.agg #[.bool false,.slice none 0 0,.int .i64 0,.bool false,.slice none 0 0,.int .i64 0,.bool false]),false,#[]⟩⟩,
 ⟨41,.struct #[⟨"Segment", 3,0,false, "", "", 0⟩,⟨"Kind", 3,1,false, "", "", 8⟩,⟨"Dir", 3,2,false, "", "", 16⟩,⟨"When", 39,3,false, "", "", 24⟩,⟨"Where", 26,10,false, "", "", 112⟩],⟨.named "flowpipe/cross.Crossing" 40, "cross.Crossing", 11,136,true,8,8,some (.agg #[.int .i64 0,.int .i64 0,.int .i64 0,.bool false,.slice none 0 0,.int .i64 0,.bool false,.slice none 0 0,.int .i64 0,.bool false,.slice none 0 0]),false,#[]⟩⟩,
 ⟨42,.int .i64,⟨.named "flowpipe/api.Errno" 3, "api.Errno", 1,8,false,8,8,some (.int .i64 0),true,#[]⟩⟩,vN 46 (.func #[41,41] #[4] false) "func(cross.Crossing, cross.Crossing) bool",zY 48 33 "[]api.Segment",
 ⟨50,.struct #[⟨"Start", 26,0,false, "", "", 0⟩,⟨"Segments", 48,1,false, "", "", 24⟩],⟨.named "flowpipe/api.Pipe" 49, "api.Pipe", 2,48,true,8,8,some (.agg #[.slice none 0 0,.slice none 0 0]),false,#[]⟩⟩,vN 52 (.func #[33] #[4] false) "func(api.Segment) bool",zY 53 41 "[]cross.Crossing",vN 62 (.func #[3] #[4] false) "func(int) bool",zY 66 31 "[]api.Dyadic",zY 72 26 "[][]api.Interval",
 ⟨81,.struct #[⟨"Method", 3,0,false, "", "", 0⟩,⟨"Order", 3,1,false, "", "", 8⟩,⟨"Prec", 3,2,false, "", "", 16⟩,⟨"Step", 31,3,false, "", "", 24⟩,⟨"Tol", 3,6,false, "", "", 64⟩,⟨"Most", 3,7,false, "", "", 72⟩],⟨.named "flowpipe/api.Config" 80, "api.Config", 8,80,true,8,8,some (.agg #[.int .i64 0,.int .i64 0,.int .i64 0,.bool false,.slice none 0 0,.int .i64 0,.int .i64 0,.int .i64 0]),false,#[]⟩⟩,
 ⟨93,.struct #[⟨"N", 3,0,false, "", "", 0⟩,⟨"D", 3,1,false, "", "", 8⟩],⟨.named "flowpipe/api.Ratio" 92, "api.Ratio", 2,16,false,8,8,some (.agg #[.int .i64 0,.int .i64 0]),true,#[]⟩⟩,vN 103 (.func #[39] #[4] false) "func(api.Interval) bool",vN 104 (.func #[26] #[4] false) "func([]api.Interval) bool",
 ⟨107,.struct #[⟨"Kind", 3,0,false, "", "", 0⟩,⟨"A", 3,1,false, "", "", 8⟩,⟨"B", 3,2,false, "", "", 16⟩,⟨"N", 3,3,false, "", "", 24⟩,⟨"C", 93,4,false, "", "", 32⟩],⟨.named "flowpipe/api.Op" 106, "api.Op", 6,48,false,8,8,some (.agg #[.int .i64 0,.int .i64 0,.int .i64 0,.int .i64 0,.int .i64 0,.int .i64 0]),true,#[]⟩⟩,vN 113 (.func #[39,39,3] #[39] false) "func(api.Interval, api.Interval, int) api.Interval",vN 121 (.func #[39,39] #[4] false) "func(api.Interval, api.Interval) bool",zY 155 72 "[][][]api.Interval",
 ⟨171,.int .u32,⟨.int .u32, "uint32", 1,4,false,4,4,some (.int .u32 0),true,#[]⟩⟩,vN 179 (.func #[31,3] #[31,42] false) "func(api.Dyadic, int) (api.Dyadic, api.Errno)",
 ⟨189,.int .u64,⟨.int .u64, "uint64", 1,8,false,8,8,some (.int .u64 0),true,#[]⟩⟩,
 ⟨190,.int .u64,⟨.int .u64, "uint", 1,8,false,8,8,some (.int .u64 0),true,#[]⟩⟩,vN 209 (.func #[39,39] #[39] false) "func(api.Interval, api.Interval) api.Interval",
 ⟨215,.struct #[⟨"m", 29,0,false, "", "flowpipe/round", 0⟩,⟨"e", 3,1,false, "", "flowpipe/round", 24⟩,⟨"more", 4,2,false, "", "flowpipe/round", 32⟩],⟨.named "flowpipe/round.exact" 214, "round.exact", 3,40,true,8,8,some (.agg #[.slice none 0 0,.int .i64 0,.bool false]),false,#[]⟩⟩,
 ⟨219,.func #[31,31,3] #[31,42] false,⟨.named "flowpipe/interval.rounded" 160, "interval.rounded", 1,8,true,8,8,some (.nilFunc),false,#[]⟩⟩,
 ⟨220,.array 2 31,⟨.array 2 31, "[2]api.Dyadic", 6,80,true,8,8,some (.agg #[.bool false,.slice none 0 0,.int .i64 0,.bool false,.slice none 0 0,.int .i64 0]),false,#[]⟩⟩,
 ⟨221,.array 4 220,⟨.array 4 220, "[4][2]api.Dyadic", 24,320,true,8,8,some (.agg #[.bool false,.slice none 0 0,.int .i64 0,.bool false,.slice none 0 0,.int .i64 0,.bool false,.slice none 0 0,.int .i64 0,.bool false,.slice none 0 0,.int .i64 0,.bool false,.slice none 0 0,.int .i64 0,.bool false,.slice none 0 0,.int .i64 0,.bool false,.slice none 0 0,.int .i64 0,.bool false,.slice none 0 0,.int .i64 0]),false,#[]⟩⟩,zY 225 29 "[][]uint32",vN 227 (.func #[29] #[4] false) "func([]uint32) bool",vN 250 (.func #[3] #[39] false) "func(int) api.Interval",
 ⟨266,.map 3 270,⟨.map 3 270, "map[int]func(gradient.node) api.Interval", 1,8,true,8,8,some (.map none),false,#[]⟩⟩,
 ⟨269,.struct #[⟨"o", 107,0,false, "", "flowpipe/gradient", 0⟩,⟨"v", 39,6,false, "", "flowpipe/gradient", 48⟩,⟨"a", 39,13,false, "", "flowpipe/gradient", 136⟩,⟨"b", 39,20,false, "", "flowpipe/gradient", 224⟩,⟨"da", 39,27,false, "", "flowpipe/gradient", 312⟩,⟨"db", 39,34,false, "", "flowpipe/gradient", 400⟩,⟨"p", 3,41,false, "", "flowpipe/gradient", 488⟩],⟨.named "flowpipe/gradient.node" 268, "gradient.node", 42,496,true,8,8,some (.agg #[.int .i64 0,.int .i64 0,.int .i64 0,.int .i64 0,.int .i64 0,.int .i64 0,.bool false,.slice none 0 0,.int .i64 0,.bool false,.slice none 0 0,.int .i64 0,.bool false,.bool false,.slice none 0 0,.int .i64 0,.bool false,.slice none 0 0,.int .i64 0,.bool false,.bool false,.slice none 0 0,.int .i64 0,.bool false,.slice none 0 0,.int .i64 0,.bool false,.bool false,.slice none 0 0,.int .i64 0,.bool false,.slice none 0 0,.int .i64 0,.bool false,.bool false,.slice none 0 0,.int .i64 0,.bool false,.slice none 0 0,.int .i64 0,.bool false,.int .i64 0]),false,#[]⟩⟩,vN 270 (.func #[269] #[39] false) "func(gradient.node) api.Interval",
 ⟨272,.struct #[⟨"p", 3,0,false, "", "flowpipe/exponent", 0⟩],⟨.named "flowpipe/exponent.work" 271, "exponent.work", 1,8,false,8,8,some (.agg #[.int .i64 0]),true,#[⟨"flowpipe/exponent.add", 209,#[],some (347,false)⟩,⟨"flowpipe/exponent.div", 209,#[],some (346,false)⟩,⟨"flowpipe/exponent.exp", 195,#[],some (370,false)⟩,⟨"flowpipe/exponent.halved", 252,#[],some (345,false)⟩,⟨"flowpipe/exponent.log", 195,#[],some (348,false)⟩,⟨"flowpipe/exponent.mul", 209,#[],some (349,false)⟩,⟨"flowpipe/exponent.small", 103,#[],some (372,false)⟩]⟩⟩,
 ⟨278,.struct #[⟨"neg", 4,0,false, "", "flowpipe/circle", 0⟩,⟨"m", 29,1,false, "", "flowpipe/circle", 8⟩],⟨.named "flowpipe/circle.fix" 277, "circle.fix", 2,32,true,8,8,some (.agg #[.bool false,.slice none 0 0]),false,#[⟨"flowpipe/circle.add", 289,#[],some (385,false)⟩,⟨"flowpipe/circle.by", 285,#[],some (388,false)⟩,⟨"flowpipe/circle.minus", 283,#[],some (376,false)⟩,⟨"flowpipe/circle.times", 286,#[],some (382,false)⟩,⟨"flowpipe/circle.zero", 34,#[],some (386,false)⟩]⟩⟩,vN 289 (.func #[278] #[278] false) "func(circle.fix) circle.fix"]
def Mt:mV prog TT:=Ja.ok ⟨⟨underlying3,aF⟩,⟨underlying4,aF⟩,⟨underlying9,aF⟩,⟨underlying22,aF⟩,⟨underlying23,aF⟩,⟨underlying25,aF⟩,⟨underlying26,aF⟩,⟨underlying28,aF⟩,⟨underlying29,aF⟩,⟨underlying31,aF⟩,⟨underlying33,aF⟩,⟨underlying36,aF⟩,⟨underlying39,aF⟩,⟨underlying41,aF⟩,⟨underlying42,aF⟩,⟨underlying46,aF⟩,⟨underlying48,aF⟩,⟨underlying50,aF⟩,⟨underlying52,aF⟩,⟨underlying53,aF⟩,⟨underlying62,aF⟩,⟨underlying66,aF⟩,⟨underlying72,aF⟩,⟨underlying81,aF⟩,⟨underlying93,aF⟩,⟨underlying103,aF⟩,⟨underlying104,aF⟩,⟨underlying107,aF⟩,⟨underlying113,aF⟩,⟨underlying121,aF⟩,⟨underlying155,aF⟩,⟨underlying171,aF⟩,⟨underlying179,aF⟩,⟨underlying189,aF⟩,⟨underlying190,aF⟩,⟨underlying209,aF⟩,⟨underlying215,aF⟩,⟨underlying219,aF⟩,⟨underlying220,aF⟩,⟨underlying221,aF⟩,⟨underlying225,aF⟩,⟨underlying227,aF⟩,⟨underlying250,aF⟩,⟨underlying266,aF⟩,⟨underlying269,aF⟩,⟨underlying270,aF⟩,⟨underlying272,aF⟩,⟨underlying278,aF⟩,⟨underlying289,aF⟩,trivial⟩
end Go.Proofs.YtgdahmmlddfimaaGreatDoor
namespace Go.Proofs.YtgdahmmlddfimaaGreatDoor.Pu
open Go.RowKit
def E.kY:E->Nat->Nat->E
 | .sl _ _ _ el,i,j=>el i j
 | .nZ _ _ _ _ el,i,j=>el i j
 |_,_,_=>.any
section
variable {P:Program} {K:World->Prop}
def Sp.pre{c:Code}{σ τ:PS}{Q:Ex->PS->Prop}(h:PS.le σ τ)(k:Sp P K c τ Q):Sp P K c σ Q:=λw0 B a w L g r=>
 let⟨L',r'⟩:=h w0 B a w L (λb hb=>(g.hB b hb).1) r;k w0 B a w L' g r'
def Sp.post{c:Code}{σ:PS}{Q Q':Ex->PS->Prop}(h:Sp P K c σ Q)(k:∀ e τ,Q e τ->∃ τ',PS.le τ τ'/\Q' e τ'):Sp P K c σ Q':=λw0 B a w L g r=>
 Code.wp_mono (λ_ _ _ ⟨ex,τ,L',h1,h2,h3⟩=>let⟨τ',q1,q2⟩:=k ex τ h2;let⟨L2,r2⟩:=q1 w0 B _ _ L' (λb hb=>(g.hB b hb).1) h3;⟨ex,τ',L2,h1,q2,r2⟩) (h w0 B a w L g r)
def Sp.fam{α:Type}(f:α->PS)(p:α->Prop)(m:α->Nat){b:Code}{e:Ex}{τ:PS}
 (step:∀ x,p x->Sp P K b (f x) (λe' υ=>(e' = .normal/\∃ y,p y/\m y<m x/\υ=f y)\/(e' ≠ .normal/\e'=e/\υ=τ))) {σ:PS} (x:α) (hx:p x) (h0:PS.le σ (f x)):
 Sp P K (.loop b) σ (λe' υ=>e'=e/\υ=τ):=by
 refine Sp.pre h0 ?_;refine Sp.loop (Q:=λe' υ=>e'=e/\υ=τ) (λn σ=>∃ x,p x/\m x=n/\σ=f x) (λn σ ⟨x,h1,h2,h3⟩=>?_) (m x) (f x) ⟨x,hx,rfl,rfl⟩;subst h3 h2;exact(step x h1).mono λe' υ h=>h.imp (λ⟨q1,y,q2,q3,q4⟩=>⟨q1,m y,q3,y,q2,rfl,q4⟩) id
def Sp.ae2{α:Type}{f:α->PS}{p:α->Prop}{m:α->Nat}{b:Code}{e:Ex}{τ υ:PS}{x:α}(y:α)(h:Sp P K b (f x) (λe' υ'=>e' = .normal/\υ'=υ))(hy:p y)(hm:m y<m x)(hl:PS.le υ (f y)):
 Sp P K b (f x) (λe' υ=>(e' = .normal/\∃ y,p y/\m y<m x/\υ=f y)\/(e' ≠ .normal/\e'=e/\υ=τ)):=
 h.post λ_ _ ⟨h1,h2⟩=>⟨f y,h2▸hl,.inl ⟨h1,y,hy,hm,rfl⟩⟩
def Sp.ae3{α:Type}{f:α->PS}{p:α->Prop}{m:α->Nat}{b:Code}{e:Ex}{τ υ:PS}{x:α}(h:Sp P K b (f x) (λe' υ'=>e'=e/\υ'=υ))(he:e ≠ .normal)(hl:PS.le υ τ):
 Sp P K b (f x) (λe' υ=>(e' = .normal/\∃ y,p y/\m y<m x/\υ=f y)\/(e' ≠ .normal/\e'=e/\υ=τ)):=
 h.post λ_ _ ⟨h1,h2⟩=>⟨τ,h2▸hl,.inr ⟨h1▸he,h1,rfl⟩⟩
end
def Cd(k:Nat):Code->Option Code
 | .loop b=>if Nat.beq (GC b) k then some b else Cd k b
 | .seq a b=>match Cd k a with
  |some c=>some c
  |none=>Cd k b
 | .cond _ a b=>match Cd k a with
  |some c=>some c
  |none=>Cd k b
 | .block _ b=>Cd k b
 | .scope b=>Cd k b
 |_=>none
def acs(k:Nat)(fn:Func):Code:=((fn.body.bind (Cd k)).getD .skip)
def Bx.le.ji{a b:Bx}(h:a=b):Bx.le a b:=h▸Bx.le.refl a
def Bx.le.cells{T:TypeId}{l m:List E}(hn:(l.all E.ng=true->m.all E.ng=true))(h:tc l m):Bx.le (.cells T l) (.cells T m):=⟨hn,λ_ _ _ _ _ ⟨b,vs,h1,h2,h3,h4,h5⟩=>⟨b,vs,h1,h2,h3,h.Lr h4,h5⟩⟩
inductive F8:List PV->List PV->Prop
 |nil:F8 [] []
 |cons {p q:PV} {l m:List PV} (h:PV.le p q) (k:F8 l m):F8 (p::l) (q::m)
def F8.len{l m:List PV}(h:F8 l m):l.length=m.length:=by
 induction h with
 |nil=>rfl
 |cons _ _ ih=>simp[ih]
def Bx.le.row{nl:Bool}{T:TypeId}{n n' sz:Nat}{el el':Nat->Nat->E}(hn:n=n')(h:∀ i j,i<n->j<sz->E.le (el i j) (el' i j)/\(el' i j).nr 2=true):Bx.le (.row nl T n sz el) (.row nl T n' sz el'):=
 ⟨id,λ_ _ _ _ _ ⟨f,h1,h2,h3⟩=>by subst hn;exact⟨f,h1,h2,λi j hi hj=>⟨(h i j hi hj).1 _ _ _ _ (h3 i j hi hj).1,(h i j hi hj).2⟩⟩⟩
def Bx.le.ke{nl:Bool}{T1 T0:TypeId}{n n' sz:Nat}{len len':Nat->Nat}{el el':Nat->Nat->Nat->E}{pend:Option Nat}(hn:n=n')(hl:∀ k,k<n->len k=len' k)
 (h:∀ k i j,k<n->i<len k->j<sz->E.le (el k i j) (el' k i j)/\(el' k i j).nr 2=true):Bx.le (.ke nl T1 T0 n sz len el pend) (.ke nl T1 T0 n' sz len' el' pend):=
 ⟨id,λ_ _ _ _ _ hh=>by
  subst hn;rcases hh with hh|⟨b,c,cur,f,h1,h2,h3,h4,h5,h6,h7,h8,h9,sE,sU⟩
  .exact .inl hh
  refine .inr ⟨b,c,cur,f,h1,h2,h3,h4,h5,h6,h7,λk hk=>?_,h9,sE,sU⟩;rw[<-hl k hk];exact⟨(h8 k hk).1,λi j hi hj=>⟨(h k i j hk hi hj).1 _ _ _ _ ((h8 k hk).2 i j hi hj).1,(h k i j hk hi hj).2⟩⟩⟩
def Bx.le.alG{T1 T0 sz:Nat}{len:Nat->Nat}{el:Nat->Nat->E}{el':Nat->Nat->Nat->E}:Bx.le (.row true T1 0 1 el) (.ke true T1 T0 0 sz len el' none):=
 ⟨id,λ_ _ _ _ _ ⟨f,h1,h2,h3⟩=>by
  rcases h1 with⟨h,_⟩|⟨b,c,cur,h,hg,ph,oo,mX,kF,jZ⟩
  .refine .inl ⟨h,rfl,λx hx=>?_⟩;have:=(h2 x).1 hx;rw[h]at this;simp[Value.ownBlock]at this
  .refine .inr ⟨b,c,cur,λ_ _ _=>undef,h,hg,ph,oo,aC,λk hk=>absurd hk (bG k),jZ rfl,λk hk=>absurd hk (bG k),λx=>?_,λk k' x hk=>absurd hk (bG k),λk hk=>absurd hk (bG k)⟩;rw[h2,h];simp only[Value.ownBlock,bM];exact⟨λe=>.inl e.symm,λe=>e.elim (λe=>e.symm) λ⟨k,hk,_⟩=>absurd hk (bG k)⟩⟩
def PS.le.ahX{σ τ:PS}(hn:σ.n=τ.n)(jZ:(τ.b.all λx=>x.2.nl)=true)(hr:IC τ=true)(ht:yU σ τ.t)(hb:xO σ τ.b):PS.le σ τ:=λw0 B a w L _ r=>by
 let L':Lk:=⟨λid=>L.mz id/\(τ.bo id).isSome=true,λid x=>L.own id x/\(τ.bo id).isSome=true,L.val,L.iU⟩
 have iK:r9 L w L' w:=⟨bF _,λx _ ⟨id,h,_⟩=>⟨id,h⟩,λ_ _ _=>rfl⟩
 refine⟨L',r.hd,by rw[<-hn];exact r.hs,λt=>?_,λid b h=>?_,λid=>?_,λid x h=>⟨r.hn id x h.1,h.2⟩,λid x h=>r.hw id x h.1,λid id' x h k=>r.hi id id' x h.1 k.1,r.he,λh id b k=>?_⟩
 .have hg:τ.get t=((look τ.t t)).getD (.e .any):=rfl;cases hl:look τ.t t with
  |none=>rw[hg,hl];exact .any _
  |some p=>
   rw[hg,hl];have:=ht.get hl _ _ _ _ _ (r.ht t);refine lF.move iK this λid hid qi=>⟨⟨qi,?_⟩,rfl,λ_=>rfl⟩
   have q:=bU.1 (ic.1 hr).1 _ (Hv hl);exact bU.1 q id hid
 .obtain ⟨b',h1,h2⟩:=hb.get h;have hs:(τ.bo id).isSome=true:=by rw[h];rfl
  refine(h2.2 _ _ _ _ _ (r.hb id b' h1)).later iK rfl (λx=>⟨λq=>q.1,λq=>⟨q,hs⟩⟩) (λ_=>rfl) (λ_ _=>rfl) λp v hp k=>lF.move iK k λid hid qi=>⟨⟨qi,?_⟩,rfl,λ_=>rfl⟩
  have q:=bU.1 (ic.1 hr).2 _ (Hv h);exact bU.1 q id (dt.2 ⟨p,hp,hid⟩)
 .show L.mz id/\(τ.bo id).isSome=true↔(τ.bo id).isSome=true;refine⟨λh=>h.2,λh=>⟨(r.hv id).2 ?_,h⟩⟩;obtain⟨b,jD⟩:=ib.1 h;obtain⟨b',h1,_⟩:=hb.get jD;rw[h1];rfl
 .exact bU.1 jZ _ (Hv k)
def PV.wk(id:Nat)(e:E)(p:PV):PV:=match p with
 | .own i=>if Nat.beq i id then .e e else .own i
 |p=>if p.lG.any (Nat.beq id)then .e .any else p
def PS.wk(σ:PS)(id:Nat)(e:E):PS:={ σ with t:=σ.t.map λx=>(x.1,x.2.wk id e),b:=(σ.b.filter λx=>!Nat.beq x.1 id).map λx=>(x.1,x.2.rF (PV.wk id e)) }
def Bx.as:Bx->Option E
 | .row nl _ n sz el=>some (.sl nl n sz el)
 | .ke nl _ _ n sz len el none=>some (.sl true n 1 λk _=>.sl nl (len k) sz (el k))
 |_=>none
def PS.le.freeze{σ:PS}(id:Nat){b:Bx}{e:E}(jD:σ.bo id=some b)(he:b.as=some e):PS.le σ (σ.wk id e):=λw0 B a w L hB r=>by
 let L':Lk:=⟨λi=>L.mz i/\i≠id,λi x=>L.own i x/\i≠id,L.val,L.iU⟩
 have iK:r9 L w L' w:=⟨bF _,λx _ ⟨i,h,_⟩=>⟨i,h⟩,λ_ _ _=>rfl⟩
 have si:∀ i,(σ.wk id e).bo i=if i=id then none else(σ.bo i).map (Bx.rF (PV.wk id e)):=by
  intro i;unfold PS.bo PS.wk;simp only[KJ];by_cases h:i=id
  .subst h;rw[bB rfl,WQ];rfl
  .rw [bA h,Hu _ _ _ (λe=>h e.symm)]
 have BW:∀ x,L.own id x->¬jl B L' x:=by
  rintro x hx (h|⟨i,h1,h2⟩)
  .have:=hB x h;have:=(r.hw id x hx).1;omega
  .exact h2 (r.hi i id x h1 hx)
 have own:∀ (v:Value) (T:TypeId) (n sz:Nat) (f:Nat->Nat->Value) (nl:Bool) (el:Nat->Nat->E),oh w v T n sz f nl->(∀ x,v.ownBlock=some x->L.own id x) ->
  (∀ i j,i<n->j<sz->iQ (jl B L) (jH L) w (el i j) (f i j)/\(el i j).nr 2=true)->iQ (jl B L') (jH L') w (.sl nl n sz el) v:=by
  intro v T n sz f nl el h1 h2 h3;rcases h1 with⟨rfl,rfl⟩|⟨b,c,cur,rfl,hg,ph,oo,mX,kF,jZ⟩
  .exact .sl nl 0 sz el none 0 f (bF _) aE (λ_=>rfl) (λi j hi=>absurd hi (bG i)) (λi j hi=>absurd hi (bG i)) (λi j hi=>absurd hi (bG i)) (λi j hi=>absurd hi (bG i))
  .have tN:=h2 b rfl;refine .sl nl n sz el _ c f ph (by unfold maxLen at oo;omega) (λh=>by cases h) (λi j hi hj=>⟨(kF i j hi hj).2,λhn=>jZ hn _ (eh (kF i j hi hj).1)⟩) (λi j hi hj=>(h3 i j hi hj).2)
    (λi j hi hj=>⟨b,0,rfl,BW b tN,(r.hw id b tN).2,?_⟩) (λi j hi hj=>iK.lf (h3 i j hi hj).1)
   rw[cD];simp only[World.cell?,hg];simpa using(kF i j hi hj).1
 have hold:∀ v,v=L.val id->iQ (jl B L') (jH L') w e v:=by
  rintro v rfl;have UO:=r.hb id b jD;cases b with
  |cells T l=>cases he
  |qe nl T l=>cases he
  |row nl T n sz el=>
   cases he;obtain⟨f,h1,h2,h3⟩:=UO;exact own _ T n sz f nl el h1 (λx hx=>(h2 x).2 hx) h3
  |ke nl T1 T0 n sz len el pend=>
   cases pend with
   |some k=>cases he
   |none=>
    cases he;rcases UO with⟨h1,h2,_⟩|jo
    .subst h2;rw[h1];exact .sl true 0 1 _ none 0 (λ_ _=>undef) (bF _) aE (λ_=>rfl) (λi j hi=>absurd hi (bG i)) (λi j hi=>absurd hi (bG i)) (λi j hi=>absurd hi (bG i)) (λi j hi=>absurd hi (bG i))
    obtain⟨b,c,cur,f,h1,h2,h3,h4,h5,h6,h7,h8,h9,sE,sU⟩:=jo;have tN:L.own id b:=(h9 b).2 (.inl rfl);rw[h1];refine .sl true n 1 _ _ c (λk _=>L.iU id k) h3 (by unfold maxLen at h4;omega) (λh=>by cases h) (λk j hk hj=>?_) (λk j hk hj=>rfl)
     (λk j hk hj=>⟨b,0,rfl,BW b tN,(r.hw id b tN).2,?_⟩) (λk j hk hj=>own _ T0 (len k) sz (f k) nl (el k) (h8 k hk).1 (λx hx=>(h9 x).2 (.inr ⟨k,hk,hx⟩)) (h8 k hk).2)
    .obtain ⟨_,q1,q2⟩:=(h8 k hk).1.head;exact⟨q1,λ_=>q2⟩
    .rw [cD,cI];obtain rfl:j=0:= aC ;simp only[World.cell?,h2];simpa using h6 k hk aH 
 have hT:∀ (p:PV) (v:Value),lF (jl B L) (jH L) L w p v->lF (jl B L') (jH L') L' w (p.wk id e) v:=by
  intro p v k;have move:∀ (p:PV) (v:Value),lF (jl B L) (jH L) L w p v->(p.lG.any (Nat.beq id))=false->lF (jl B L') (jH L') L' w p v:=by
   intro p v k hp;refine lF.move iK k λi hi qi=>⟨⟨qi,?_⟩,rfl,λ_=>rfl⟩
   rintro rfl;have:=dg.1 hp i hi;simp at this
  have gen:∀ (p:PV) (v:Value),lF (jl B L) (jH L) L w p v->lF (jl B L') (jH L') L' w (if p.lG.any (Nat.beq id)then .e .any else p) v:=by
   intro p v k;cases hp:p.lG.any (Nat.beq id)with
   |true=>exact .any _
   |false=>exact move p v k hp
  cases p with
  |own i=>
   simp only[PV.wk];by_cases hi:i=id
   .subst hi;rw[cJ,bB rfl];exact hold _ k.2
   .rw [df hi,bA aE];exact⟨⟨k.1,hi⟩,k.2⟩
  |_=>exact gen _ _ k
 refine⟨L',r.hd,r.hs,λt=>?_,λi b' h=>?_,λi=>?_,λi x h=>⟨r.hn i x h.1,h.2⟩,λi x h=>r.hw i x h.1,λi i' x h k=>r.hi i i' x h.1 k.1,r.he,λh i b' k=>?_⟩
 .have hg:(σ.wk id e).get t=(σ.get t).wk id e:=by
   unfold PS.get PS.wk;rw[KJ];cases look σ.t t<;>rfl
  rw[hg];exact hT _ _ (r.ht t)
 .rw [si]at h;split at h
  .cases h
  .rename_i hi;obtain⟨b0',mr,rfl⟩:=ch.1 h;exact nW.map (g:=λp=>p) iK (by rw[DQ];exact r.hb i b0' mr) rfl (λx=>⟨λq=>q.1,λq=>⟨q,hi⟩⟩) (λ_=>rfl) (λ_ _=>rfl) λp v _ k=>hT p v k
 .rw [si];show L.mz i/\i≠id↔_;by_cases hi:i=id
  .subst hi;simp
  .simp only[hi,du,fg,fN,bI,fv];exact r.hv i
 .rw [si]at k;split at k
  .cases k
  .obtain ⟨b0',mr,rfl⟩:=ch.1 k;rw[DR];exact r.hl h i b0' mr
def PS.Eo(σ:PS)(t id:Nat)(b:Bx):PS:={ σ with t:=(t,.own id)::σ.t.filter (λx=>!Nat.beq x.1 t),b:=(id,b)::σ.b }
def PS.le.abl{σ:PS}(t id:Nat){nl:Bool}{T:TypeId}{sz:Nat}{el:Nat->Nat->E}(jD:σ.bo id=none)(hg:σ.get t = .e (.v (.slice none 0 0)))(jZ:σ.nl=true->nl=true):PS.le σ (σ.Eo t id (.row nl T 0 sz el)):=λw0 B a w L hB r=>by
 have qq:¬L.mz id:=λh=>by have:=(r.hv id).1 h;rw[jD]at this;cases this
 let L':Lk:=⟨λi=>L.mz i\/i=id,L.own,λi=>if i=id then .slice none 0 0 else L.val i,L.iU⟩
 have iK:r9 L w L' w:=⟨bF _,λx _ h=>h,λ_ _ _=>rfl⟩
 have si:∀ i,(σ.Eo t id (.row nl T 0 sz el)).bo i=if i=id then some (.row nl T 0 sz el)else σ.bo i:=by
  intro i;unfold PS.bo PS.Eo;rw[uc];by_cases h:id=i
  .rw [bB h,bB h.symm]
  .rw [bA h,bA (λe=>h e.symm)]
 have hv:a.tmps.getD t undef = .slice none 0 0:=by
  have:=r.ht t;rw[hg]at this;exact iQ.kX this
 refine⟨L',r.hd,r.hs,λs=>?_,λi b' h=>?_,λi=>?_,λi x h=>.inl (r.hn i x h),r.hw,r.hi,r.he,λh i b' k=>?_⟩
 .have hgs:(σ.Eo t id (.row nl T 0 sz el)).get s=if t=s then .own id else σ.get s:=by
   unfold PS.get PS.Eo;simp only[uc];by_cases h:t=s
   .rw [bB h,bB h];rfl
   .rw [bA h,bA h,Hu _ _ _ h]
  rw[hgs];by_cases h:t=s
  .subst h;rw[bB rfl,hv];exact⟨.inr rfl,(bB rfl).symm⟩
  .rw [bA h];refine lF.move iK (r.ht s) λi _ qi=>⟨.inl qi,bA (λ(q:i=id)=>qq (q▸qi)),λ_=>rfl⟩
 .rw [si]at h;split at h
  .rename_i hi;subst hi;cases h;refine⟨λ_ _=>undef,.inl ⟨bB rfl,rfl⟩,λx=>⟨λq=>absurd (r.hn _ _ q) qq,λq=>?_⟩,λi j hi=>absurd hi (bG i)⟩;have e1:L'.val i = .slice none 0 0:=bB rfl;rw[e1]at q;cases q
  .rename_i hi;exact(r.hb i b' h).later iK (bA hi) (λ_=>Iff.rfl) (λ_=>rfl) (λ_ _=>rfl) λp v _ k=>lF.move iK k λi _ qi=>⟨.inl qi,bA (λ(q:i=id)=>qq (q▸qi)),λ_=>rfl⟩
 .rw [si];show L.mz i\/i=id↔_;by_cases hi:i=id
  .subst hi;simp
  .simp only[hi,or_false,bI];exact r.hv i
 .rw [si]at k;split at k
  .cases k;exact jZ h
  .exact r.hl h i b' k
def Bx.IV:Bx->Option (Bool×TypeId×List PV)
 | .cells T l=>some (l.all E.ng,T,l.map .e)
 | .qe nl T l=>some (nl,T,l)
 |_=>none
def nW.IV{B:Nat->Prop}{L:Lk}{w:World}{id:Nat}{b:Bx}{nl:Bool}{T:TypeId}{l:List PV}(h:nW (jl B L) (jH L) L w id b)(hf:b.IV=some (nl,T,l)):nW (jl B L) (jH L) L w id (.qe nl T l):=by
 cases b with
 |cells T' l'=>
  cases hf;obtain⟨b,vs,h1,h2,h3,h4,h5⟩:=h;refine⟨b,vs,h1,h2,h3,by rw[h4.len,bZ],λi p v hp hv=>?_,λu hu=>⟨h5 u hu,λhn=>KH h4 hn u hu⟩⟩;rw[cG]at hp;obtain⟨e,he,rfl⟩:=ch.1 hp;exact h4.lf i e v he hv
 |qe nl' T' l'=>cases hf;exact h
 |row=>cases hf
 |ke=>cases hf
def anM{b:Bx}{nl:Bool}{T:TypeId}{l:List PV}(hf:b.IV=some (nl,T,l)):b.nl=nl:=by
 cases b<;>cases hf<;>rfl
def isNil:PV->Bool
 | .e (.v (.slice none 0 0))=>true
 |_=>false
def ahx{p:PV}(h:isNil p=true):p = .e (.v (.slice none 0 0)):=by
 unfold isNil at h;split at h
 .rfl
 .cases h
def PS.Mz(σ:PS)(d off id:Nat)(b:Bx):Option PS:=match σ.bo id,σ.bo d with
 |none,some bd=>match bd.IV with
  |some (nl,T,l)=>match l[off]? with
   |some p=>if isNil p then some { σ with b:=(id,b)::(d,.qe nl T (l.set off (.own id)))::σ.b }else none
   |none=>none
  |none=>none
 |_,_=>none
def PS.le.abm{σ τ:PS}{d off id:Nat}{nl:Bool}{T:TypeId}{sz:Nat}{el:Nat->Nat->E}(h:σ.Mz d off id (.row nl T 0 sz el)=some τ)(jZ:σ.nl=true->nl=true):PS.le σ τ:=λw0 B a w L hB r=>by
 unfold PS.Mz at h;split at h
 .rename_i bd jD GQ;split at h
  .rename_i nl' T' l hf;split at h
   .rename_i p hp;split at h
    .rename_i hn;obtain rfl:=ahx hn;cases h;have kB:d≠id:=λe=>by subst e;rw[jD]at GQ;cases GQ
     have qq:¬L.mz id:=λh=>by have:=(r.hv id).1 h;rw[jD]at this;cases this
     let L':Lk:=⟨λi=>L.mz i\/i=id,L.own,λi=>if i=id then .slice none 0 0 else L.val i,L.iU⟩
     have iK:r9 L w L' w:=⟨bF _,λx _ h=>h,λ_ _ _=>rfl⟩
     have OH:∀ (p:PV) (v:Value),lF (jl B L) (jH L) L w p v->lF (jl B L') (jH L') L' w p v:=λp v k=>lF.move iK k λi _ qi=>⟨.inl qi,bA (λ(q:i=id)=>qq (q▸qi)),λ_=>rfl⟩
     have si:∀ i,PS.bo { σ with b:=(id,.row nl T 0 sz el)::(d,.qe nl' T' (l.set off (.own id)))::σ.b } i=if i=id then some (.row nl T 0 sz el)else if i=d then some (.qe nl' T' (l.set off (.own id)))else σ.bo i:=by
      intro i;unfold PS.bo;simp only[uc];by_cases h:id=i
      .rw [bB h,bB h.symm]
      .rw [bA h,bA (show ¬i=id from λe=>h e.symm)];by_cases h2:d=i
       .rw [bB h2,bB h2.symm]
       .rw [bA h2,bA (λe=>h2 e.symm)]
     refine⟨L',r.hd,r.hs,λs=>OH _ _ (r.ht s),λi b' h=>?_,λi=>?_,λi x h=>.inl (r.hn i x h),r.hw,r.hi,r.he,λh i b' k=>?_⟩
     .rw [si]at h;split at h
      .rename_i hi;subst hi;cases h;refine⟨λ_ _=>undef,.inl ⟨bB rfl,rfl⟩,λx=>⟨λq=>absurd (r.hn _ _ q) qq,λq=>?_⟩,λi j hi=>absurd hi (bG i)⟩;have e1:L'.val i = .slice none 0 0:=bB rfl;rw[e1]at q;cases q
      .rename_i hi;split at h
       .rename_i hd;subst hd;cases h;obtain⟨b,vs,h1,h2,h3,h4,h5,h6⟩:=(r.hb i _ GQ).IV hf;refine⟨b,vs,(bA hi).trans h1,h2,h3,by simpa using h4,λj p v B4 hv=>?_,h6⟩;rw[apX]at B4;split at B4
        .rename_i hj;subst hj;split at B4
         .cases B4;have tp:=iQ.kX (h5 off _ v hp hv);exact⟨.inr rfl,tp.trans (bB rfl).symm⟩
         .cases B4
        .exact OH _ _ (h5 j p v B4 hv)
       .exact (r.hb i b' h).later iK (bA hi) (λ_=>Iff.rfl) (λ_=>rfl) (λ_ _=>rfl) λp v _ k=>OH p v k
     .rw [si];show L.mz i\/i=id↔_;by_cases hi:i=id
      .subst hi;simp
      .simp only[hi,or_false,bI];by_cases hd:i=d
       .subst hd;simp only[bN,Option.isSome_some,iff_true];exact(r.hv i).2 (by rw[GQ];rfl)
       .simp only[hd,bI];exact r.hv i
     .rw [si]at k;split at k
      .cases k;exact jZ h
      .split at k
       .cases k;show nl'=true;rw[<-anM hf];exact r.hl h d _ GQ
       .exact r.hl h i b' k
    .cases h
   .cases h
  .cases h
 .cases h
end Go.Proofs.YtgdahmmlddfimaaGreatDoor.Pu
namespace Go.Proofs.YtgdahmmlddfimaaGreatDoor.Fp
def nU(x i:Nat)(b o:List Nat):Nat->List Nat×Nat
 | 0=>(o,0)
 |k+1=>
  let r:=nU x i b o k
  let z:=x*b.getD k 0+r.1.getD (i+k) 0+r.2
  (r.1.set (i+k) (z%4294967296),z/4294967296)
def mj(a b:List Nat):Nat->List Nat
 | 0=>List.replicate (a.length+b.length) 0
 |i+1=>
  let r:=nU (a.getD i 0) i b (mj a b i) b.length
  r.1.set (i+b.length) (r.2%4294967296)
def Xe{x y:Nat}(hx:x<4294967296)(hy:y<4294967296):x*y<=18446744065119617025:=by
 have:=dR (aC:x<=4294967295) (aC:y<=4294967295);omega
def Eh{L:List Nat}{k x:Nat}(hk:k<L.length):val (L.set k x)+4294967296^k*L.getD k 0=val L+4294967296^k*x:=by
 have:=Ra (x:=x) hk;rwa[bE,bJ hk]
def BQ{L:List Nat}{k j x:Nat}(h:k≠j):(L.set k x).getD j 0=L.getD j 0:=by
 simp only[bE,List.getElem?_set_ne h]
def afO{L:List Nat}{k x:Nat}(h:k<L.length):(L.set k x).getD k 0=x:=by
 simp[bE,h]
structure aba(x i:Nat)(b o:List Nat)(k:Nat)(r:List Nat×Nat):Prop where
 ok:iZ r.1
 len:r.1.length=o.length
 lt:r.2<4294967296
 eq:val r.1+4294967296^(i+k)*r.2=val o+4294967296^i*(x*val (b.take k))
 rk:∀ j,i+k<=j->r.1.getD j 0=o.getD j 0
def H9{x i:Nat}{b o:List Nat}(hx:x<4294967296)(hb:iZ b)(ho:iZ o)(hl:i+b.length<=o.length):∀ k,k<=b.length->aba x i b o k (nU x i b o k)
 | 0,_=>⟨ho,rfl,Nat.zero_lt_succ _,by simp[nU,val],λ_ _=>rfl⟩
 |k+1,hk=>by
  obtain⟨h1,h2,h3,h4,h5⟩:=H9 hx hb ho hl k aC;have hy:=hb.getD k;have hw:=h1.getD (i+k);have hm:=Xe hx hy;have hv:=xN b k;simp only[nU];generalize nU x i b o k=r at *
  generalize hz:x*b.getD k 0+r.1.getD (i+k) 0+r.2=z;have Dt:=Eh (L:=r.1) (k:=i+k) (x:=z%4294967296) aC;refine⟨h1.set _ (bV _ aE),by simpa using h2,by show z/4294967296<_;omega,?_,λj hj=>?_⟩
  .have e1:z=z%4294967296+4294967296*(z/4294967296):=(eP z _).symm;show val (r.1.set (i+k) (z%4294967296))+4294967296^(i+(k+1))*(z/4294967296)=_;rw[hv,b9 x,b9 (4294967296^i),<-dq (val o),<-h4];have e2:4294967296^(i+(k+1))*(z/4294967296)=4294967296^(i+k)*(4294967296*(z/4294967296)):=by rw[(aC:i+(k+1)=(i+k)+1),bS,bO]
   have e3:4294967296^i*(x*(4294967296^k*b.getD k 0))=4294967296^(i+k)*(x*b.getD k 0):=by rw[bK];simp only[bO,eC]
   rw[e2,e3];have e4:4294967296^(i+k)*z=4294967296^(i+k)*(x*b.getD k 0)+4294967296^(i+k)*r.1.getD (i+k) 0+4294967296^(i+k)*r.2:=by rw[<-hz,b9,b9]
   have e5:4294967296^(i+k)*z=4294967296^(i+k)*(z%4294967296)+4294967296^(i+k)*(4294967296*(z/4294967296)):=by rw[<-b9,<-e1]
   omega
  .show (r.1.set (i+k) _).getD j 0=_;rw[BQ aC,h5 j aC]
structure abb(a b:List Nat)(i:Nat)(o:List Nat):Prop where
 ok:iZ o
 len:o.length=a.length+b.length
 eq:val o=val (a.take i)*val b
 zero:∀ j,i+b.length<=j->o.getD j 0=0
def Ib{a b:List Nat}(ha:iZ a)(hb:iZ b):∀ i,i<=a.length->abb a b i (mj a b i)
 | 0,_=>⟨iZ.FI _,by simp[mj],by simp[mj,CI,val],λj _=>by
  by_cases h:j<a.length+b.length<;>simp[mj,bE,fB,h]⟩
 |i+1,hi=>by
  obtain⟨h1,h2,h3,h4⟩:=Ib ha hb i aC;obtain⟨q1,q2,q3,q4,q5⟩:=H9 (ha.getD i) hb h1 (i:=i) aC b.length (bF _);have hv:=xN a i;simp only[mj];generalize nU (a.getD i 0) i b (mj a b i) b.length=r at *
  have Dt:=Eh (L:=r.1) (k:=i+b.length) (x:=r.2%4294967296) aC;rw[q5 _ (bF _),h4 _ (bF _),cT,cg,cH q3,q4,eD,h3]at Dt;refine⟨q1.set _ (bV _ aE),aN,?_,λj hj=>?_⟩
  .rw [cH q3,Dt,hv,cr,bO]
  .rw [BQ aC,q5 _ aC,h4 _ aC]
def aoe{a b:List Nat}(ha:iZ a)(hb:iZ b):val (mj a b a.length)=val a*val b:=by
 have:=(Ib ha hb a.length (bF _)).eq;rwa[eD]at this
end Go.Proofs.YtgdahmmlddfimaaGreatDoor.Fp
namespace Go.Proofs.YtgdahmmlddfimaaGreatDoor
open Go.RowKit Fp Pu
abbrev qW(L:List Nat):Nat->Nat->E:=λi _=>.v (.int .u32 (L.getD i 0:Int))
def FY(n:Nat):IntKind.u32.wrap (n:Int)=((n%4294967296:Nat):Int):=by rw[IntKind.wrap_u32];omega
def VK(n:Nat)(h:n<9223372036854775808):IntKind.i64.wrap (n:Int)=n:=by rw[IntKind.wrap_i64];omega
def ZO(n:Nat):(n:Int)/2^32=((n/4294967296:Nat):Int):= aC 
def ZV{L:List Nat}{n:Nat}(h:n=L.length):E.le (.sl false n 1 (qW L)) (ik L):=by subst h;exact .refl _
def Y1{T n n':Nat}{L:List Nat}(hn:n=n')(h:∀ i,L.getD i 0=0):Bx.le (.row false T n 1 λ_ j=>[.v (.int .u32 0)].getD j .any) (.row false T n' 1 (qW L)):=
 .row hn λi j _ hj=>by
  obtain rfl:j=0:= aC ;refine⟨.ji ?_,rfl⟩;show E.v (.int .u32 0)=E.v (.int .u32 (L.getD i 0:Int));rw[h i];rfl
def QA{T n n' p:Nat}{L:List Nat}{z:Nat}(hn:n=n')(hp:p<L.length):Bx.le (.row false T n 1 λi' j'=>if i'=p/\0<=j'/\j'<0+1 then[.v (.int .u32 (z:Int))].getD (j'-0) .any else(qW L) i' j') (.row false T n' 1 (qW (L.set p z))):=
 .row hn λi j _ hj=>by
  obtain rfl:j=0:= aC ;refine⟨.ji ?_,rfl⟩;by_cases h:i=p
  .subst h;rw[bB ⟨rfl,aC,aC⟩];show E.v (.int .u32 (z:Int))=E.v (.int .u32 (((L.set i z).getD i 0:Nat):Int));rw[Fp.afO hp]
  .rw [bA (λq=>h q.1)];show E.v (.int .u32 (L.getD i 0:Int))=E.v (.int .u32 (((L.set p z).getD i 0:Nat):Int));rw[Fp.BQ (λq=>h q.symm)]
def YP{k l:IntKind}{a b c d:Int}(h:a=b)(h':c=d):Ending.returned (.tuple #[.int k a,.int l c]) = .returned (.tuple #[.int k b,.int l d]):=by rw[h,h']
def Ga(x y c:Nat)(w:World)(hx:x<4294967296)(hy:y<4294967296)(hc:c<=1):
 Calls prog 294 #[.int .u32 x,.int .u32 y,.int .u32 c] w λe w'=>e = .returned (.tuple #[.int .u32 (((x+y+c)%4294967296:Nat):Int),.int .u32 (((x+y+c)/4294967296:Nat):Int)])/\w=w':=by
 go_enter func294,ntmps294;go_wp2;go_ret2;refine⟨?_,rfl⟩;exact YP aC aC 
def an0(a b:Nat)(ha:a<4294967296)(hb:b<4294967296):bits .or .u32 (a:Int) (b:Int)=((a |||b:Nat):Int):=by
 have h2:a |||b<2^32:=apU ha hb
 show IntKind.u32.wrap ((BitVec.ofInt 32 (a:Int) |||BitVec.ofInt 32 (b:Int)).toNat:Int)=_;rw[BitVec.toNat_or,fV,fV];rw[show((a:Int)%((2^32:Nat):Int)).toNat=a by omega,show((b:Int)%((2^32:Nat):Int)).toNat=b by omega];rw[IntKind.wrap_u32];omega
def aaB(a b:Nat)(ha:a<4294967296)(hb:b<4294967296):bits .and .u32 (a:Int) (b:Int)=((a &&& b:Nat):Int):=by
 have h2:a &&& b<2^32:=fS a hb;show IntKind.u32.wrap ((BitVec.ofInt 32 (a:Int) &&& BitVec.ofInt 32 (b:Int)).toNat:Int)=_;rw[BitVec.toNat_and,fV,fV];rw[show((a:Int)%((2^32:Nat):Int)).toNat=a by omega,show((b:Int)%((2^32:Nat):Int)).toNat=b by omega];rw[IntKind.wrap_u32];omega
def Q8(a b:Nat)(ha:a<4294967296)(hb:b<4294967296):bits .xor .u32 (a:Int) (b:Int)=((a ^^^ b:Nat):Int):=by
 have h2:a ^^^ b<2^32:=fD ha hb;show IntKind.u32.wrap ((BitVec.ofInt 32 (a:Int) ^^^ BitVec.ofInt 32 (b:Int)).toNat:Int)=_;rw[BitVec.toNat_xor,fV,fV];rw[show((a:Int)%((2^32:Nat):Int)).toNat=a by omega,show((b:Int)%((2^32:Nat):Int)).toNat=b by omega];rw[IntKind.wrap_u32];omega
def LX(n:Nat)(h:n<4294967296):n/2147483648=(n.testBit 31).toNat:=by
 rw[Nat.testBit_eq_decide_div_mod_eq,show(2:Nat)^31=2147483648 from rfl];have h2:n/2147483648<2:= aC ;generalize n/2147483648=q at *
 have:q=0\/q=1:= aC ;rcases this with rfl|rfl<;>rfl
def am1(x y c d:Nat)(hx:x<4294967296)(hy:y<4294967296)(hc:c<=1)(hd:d=(x+(4294967296-y)+(4294967296-c))%4294967296):
 (((4294967295 ^^^ x) &&& y) ||| ((4294967295 ^^^ (x ^^^ y)) &&& d))/2147483648=if x<y+c then 1 else 0:=by
 have Dh:d<4294967296:= aC ;have h1:4294967295 ^^^ x<2^32:=fD aE hx;have h2:x ^^^ y<2^32:=fD hx hy;have h3:4294967295 ^^^ (x ^^^ y)<2^32:=fD aE h2;have h4:(4294967295 ^^^ x) &&& y<2^32:=fS _ hy;have h5:(4294967295 ^^^ (x ^^^ y)) &&& d<2^32:=fS _ Dh;rw[LX _ (apU h4 h5)];have tx:=LX x hx;have ty:=LX y hy;have td:=LX d Dh;rw[Nat.testBit_or,Nat.testBit_and,Nat.testBit_and,apY,apY,apY,show(4294967295:Nat).testBit 31=true by decide];clear h1 h2 h3 h4 h5;generalize x.testBit 31=p at *
 generalize y.testBit 31=q at *
 generalize d.testBit 31=r at *
 cases p<;>cases q<;>cases r<;>simp at tx ty td ⊢ <;> omega
def CW(x y c:Nat):Nat:=if x<y+c then 1 else 0
def y6(x y c:Nat):Nat:=(x+(4294967296-y)+(4294967296-c))%4294967296
def Gq(x y c:Nat)(hx:x<4294967296)(hy:y<4294967296)(hc:c<=1):y6 x y c+y+c=x+4294967296*CW x y c/\CW x y c<=1/\y6 x y c<4294967296:=by
 unfold y6 CW;split<;>omega
def Z5(x y c:Nat)(w:World)(hx:x<4294967296)(hy:y<4294967296)(hc:c<=1):
 Calls prog 295 #[.int .u32 x,.int .u32 y,.int .u32 c] w λe w'=>e = .returned (.tuple #[.int .u32 (y6 x y c:Nat),.int .u32 (CW x y c:Nat)])/\w=w':=by
 go_enter func295,ntmps295;go_wp2;go_ret2;refine⟨?_,rfl⟩;have hd:((x:Int)-y-c)%4294967296=(y6 x y c:Int):=by unfold y6;omega
 have hb:=am1 x y c (y6 x y c) hx hy hc rfl;have hl:=(Gq x y c hx hy hc).2.2;have em:IntKind.u32.max=((4294967295:Nat):Int):=rfl;refine YP hd ?_;rw[hd,em,Q8 _ _ aE hx,Q8 _ _ hx hy];have h1:4294967295 ^^^ x<2^32:=fD aE hx;have h2:x ^^^ y<2^32:=fD hx hy;have h3:4294967295 ^^^ (x ^^^ y)<2^32:=fD aE h2;rw[Q8 _ _ aE h2,aaB _ _ h1 hy,aaB _ _ h3 hl];have h4:(4294967295 ^^^ x) &&& y<2^32:=fS _ hy;have h5:(4294967295 ^^^ (x ^^^ y)) &&& y6 x y c<2^32:=fS _ hl;rw[an0 _ _ h4 h5];unfold CW;rw[<-hb];omega
def RE{O:List Nat}{k c x y P Q P' Q':Nat}(ho:O[k]? = some 0)(h:val O+4294967296^k*c=P+Q)
 (hP:P'=P+4294967296^k*x) (hQ:Q'=Q+4294967296^k*y):
 val (O.set k ((x+y+c)%4294967296))+4294967296^(k+1)*((x+y+c)/4294967296)=P'+Q':=by
 have h1:=Xf (a:=1) (b:=x+y) (c:=c) ho;rw[cv,cg]at h1;rw[h1,h,hP,hQ,b9];omega
def Z7{O:List Nat}{k c x y d c' P Q P' Q':Nat}(ho:O[k]? = some 0)(h:val O+Q=P+4294967296^k*c)
 (hP:P'=P+4294967296^k*x) (hQ:Q'=Q+4294967296^k*y) (hd:d+y+c=x+4294967296*c'):
 val (O.set k d)+Q'=P'+4294967296^(k+1)*c':=by
 obtain⟨hk,h0⟩:=cE.1 ho;have h1:=Ra (x:=d) hk;rw[h0,cT,cg]at h1;have e:=congrArg (4294967296^k * ·) hd;simp only[b9,<-bO]at e;rw[bS,h1,hP,hQ];omega
def vW(O:List Nat)(k:Nat):Prop:=∀ j,k<=j->j<O.length->O[j]? = some 0
def vW.at{O:List Nat}{k:Nat}(h:vW O k)(hk:k<O.length):O[k]? = some 0:=h k (bF _) hk
def vW.set{O:List Nat}{k:Nat}(h:vW O k)(v:Nat):vW (O.set k v) (k+1):=λj h1 h2=>by
 rw[List.getElem?_set_ne aC];exact h j aC (by simpa using h2)
def vW.Rf(n:Nat):vW (List.replicate n 0) 0:=λj _ h=>by
 rw[fB];rw[bB (by simpa using h)]
def Mq(w:World)(v n:Nat)(e:Ending)(w':World):Prop:=∃ T,val T=v/\iZ T/\T.length=n/\vU w T e w'
def Rq(w:World)(v n:Nat)(e:Ending)(w':World):Prop:=∃ T,val T=v/\iZ T/\T.length<=n/\vU w T e w'
def ai8(A B:Option Addr)(c d:Nat)(L M:List Nat)(w:World)(hs:Sl w A c L)(hr:Sl w B d M)(h1:L.length<=3000)(_h2:M.length<=3000)(hc:M.length<=L.length):
 Calls prog 262 #[.slice A L.length c,.slice B M.length d] w (Mq w (val L+val M) (L.length+1)):=by
 obtain⟨l,hl⟩:∃ l,l=L.length:=⟨_,rfl⟩
 obtain⟨m,hm⟩:∃ m,m=M.length:=⟨_,rfl⟩
 rw[<-hl,<-hm]at hc;rw[<-hl]at h1;rw[<-hm]at _h2;have HL:=aqi hl;have HM:=aqi hm;rw[<-hl,<-hm];clear hl hm;have d0:decide ((l:Int)<m)=false:=bD aC;have d1:decide (l<m)=false:=bD aC;have qT:=Hy (l+1) aC;rw[show((l+1:Nat):Int)=l+1 by omega]at qT;have zh:=aqi (Rw.AS w (l+1));go_enter func262,ntmps262;go_wp2;go_loopw [6,7,8,9,23] (λcy _ _ _ i wr=>∃ (k q:Nat) (O:List Nat),k<=l/\i = .int .i64 k/\cy = .int .u32 q/\q<=1/\O.length=l+1/\iZ O/\vW O k/\val O+4294967296^k*q=val (L.take k)+val (M.take k)/\Rw wr w.heap.size O/\iV w wr) (λ_ _ _ _ i _=>l-(intOf i).toNat)
 case atStart=>
  exact⟨0,0,List.replicate (l+1) 0,cj _,rfl,rfl,aE,aH,iZ.FI _,vW.Rf _,by simp[CI],zh.out,iV.alloc _ _⟩
 case round=>
  obtain⟨k,q,O,hk,rfl,rfl,hq,hO,mc,hz,lV,hR,hb⟩:=hrel;have HV:=aqi lV;have HO:=aqi hO;clear lV hO;have HZ:=aqi hz;clear hz;by_cases iK:k<l
  .have vi:k<L.length:=by have:=HL.out;omega
   obtain⟨ab,ao,e1,_,c1⟩:=(hs.below hb).mS vi;have nK:L[k]<4294967296:=hs.ok.get vi;have ho:=HZ.out.at (by have:=HO.out;omega)
   have c4:=hR.frozen k;have Kb:=hR.cell ho;have HT:=aqi (CJ L k vi);have HY:=aqi (xN M k);have rh:M.getD k 0<4294967296:=hr.ok.getD k;have HYc:=aqi (λ(h:k<M.length)=>(hr.below hb).mS h);have HYg:=aqi (λ(h:k<M.length)=>BP h);have HYn:=aqi (λ(h:¬k<M.length)=>ER h);have HX:=aqi (rfl:L[k]=L[k]);obtain⟨a,ha⟩:∃ a,a=L[k]:=⟨_,rfl⟩
   rw[<-ha]at c1 nK HT;clear ha HX vi;have HS:=aqi (RE ho HV.out HT.out HY.out);have HN:=aqi (λv=>HZ.out.set v);have HOK:=aqi (λv=>mc.ZI k v);have HR2:=aqi (λv:Nat=>hR.set k v);have HE2:=aqi (λv:Value=>hb.setCell (p:=⟨w.heap.size,k,none⟩) (bF _) v);clear ho hR hb mc;subst e1;by_cases VE:k<m
   .have yj:k<M.length:=by have:=HM.out;omega
    obtain⟨bb,bo,e2,_,c2⟩:=HYc.out yj;subst e2;rw[<-HYg.out yj]at c2;generalize M.getD k 0=b at *
    clear HYc HYg HYn yj;have HA:=aqi (λw=>Ga a b q w nK rh hq);go_wp2_with fail;refine(HA.out _).mono ?_;rintro e w1 ⟨rfl,rfl⟩;go_wp2;go_roundw
    case rel=>
     exact⟨k+1,(a+b+q)/4294967296,O.set k ((a+b+q)%4294967296),aC,by go_num,rfl,aC,by rw[dB];exact HO.out,HOK.out _,HN.out _,HS.out,HR2.out _,HE2.out _⟩
    case measure=>simp[intOf];omega
   .rw [HYn.out (by have:=HM.out;omega)]at HS;clear HYc HYg HYn rh HY;have HA:=aqi (λw=>Ga a 0 q w nK aE hq);go_wp2_with fail;refine(HA.out _).mono ?_;rintro e w1 ⟨rfl,rfl⟩;go_wp2;go_roundw
    case rel=>
     exact⟨k+1,(a+0+q)/4294967296,O.set k ((a+0+q)%4294967296),aC,by go_num,rfl,aC,by rw[dB];exact HO.out,HOK.out _,HN.out _,HS.out,HR2.out _,HE2.out _⟩
    case measure=>simp[intOf];omega
  .obtain rfl:k=l:= aC ;have ho:=HZ.out.at (by have:=HO.out;omega)
   have c4:=hR.frozen k;have Kb:=hR.cell ho;have HF:=aqi (show val (O.set k q)=val L+val M by
    have h:=Sy (c:=q) ho;rw[cD,cH aC,dx aC,cT,cg,HV.out,show L.take k=L from cW (by rw[HL.out];exact bF _),show M.take k=M from cW (by rw[<-HM.out];omega)]at h;omega)
   have HLn:=aqi (show(O.set k q).length=k+1 by rw[dB];exact HO.out);have HOK:Hid (iZ (O.set k q)):=mc.set k aC;have HR2:=aqi (hR.set k q);have HE2:=aqi (λv:Value=>hb.setCell (p:=⟨w.heap.size,k,none⟩) (bF _) v);clear ho hR hb mc;go_wp2;go_ret;have tS:=HR2.out.sl HOK.out (by rw[HLn.out];omega);rw[HLn.out]at tS;exact⟨_,HF.out,HOK.out,HLn.out,_,_,(by rw[HLn.out];rfl),tS,HE2.out _⟩
def ai9(A B:Option Addr)(c d:Nat)(L M:List Nat)(w:World)(hs:Sl w A c L)(hr:Sl w B d M)(h1:L.length<=3000)(h2:M.length<=3000)(hc:L.length<M.length):
 Calls prog 262 #[.slice A L.length c,.slice B M.length d] w (Mq w (val L+val M) (M.length+1)):=by
 obtain⟨l,hl⟩:∃ l,l=L.length:=⟨_,rfl⟩
 obtain⟨m,hm⟩:∃ m,m=M.length:=⟨_,rfl⟩
 rw[<-hl,<-hm]at hc;rw[<-hl]at h1;rw[<-hm]at h2;have HL:=aqi hl;have HM:=aqi hm;rw[<-hl,<-hm];clear hl hm;have d0:decide ((l:Int)<m)=true:=bC aC;have d1:decide (l<m)=true:=bC aC;have qT:=Hy (m+1) aC;rw[show((m+1:Nat):Int)=m+1 by omega]at qT;have zh:=aqi (Rw.AS w (m+1));go_enter func262,ntmps262;go_wp2;go_loopw [6,7,8,9,23] (λcy _ _ _ i wr=>∃ (k q:Nat) (O:List Nat),k<=m/\i = .int .i64 k/\cy = .int .u32 q/\q<=1/\O.length=m+1/\iZ O/\vW O k/\val O+4294967296^k*q=val (M.take k)+val (L.take k)/\Rw wr w.heap.size O/\iV w wr) (λ_ _ _ _ i _=>m-(intOf i).toNat)
 case atStart=>
  exact⟨0,0,List.replicate (m+1) 0,cj _,rfl,rfl,aE,aH,iZ.FI _,vW.Rf _,by simp[CI],zh.out,iV.alloc _ _⟩
 case round=>
  obtain⟨k,q,O,hk,rfl,rfl,hq,hO,mc,hz,lV,hR,hb⟩:=hrel;have HV:=aqi lV;have HO:=aqi hO;clear lV hO;have HZ:=aqi hz;clear hz;by_cases iK:k<m
  .have vi:k<M.length:=by have:=HM.out;omega
   obtain⟨ab,ao,e1,_,c1⟩:=(hr.below hb).mS vi;have nK:M[k]<4294967296:=hr.ok.get vi;have ho:=HZ.out.at (by have:=HO.out;omega)
   have c4:=hR.frozen k;have Kb:=hR.cell ho;have HT:=aqi (CJ M k vi);have HY:=aqi (xN L k);have rh:L.getD k 0<4294967296:=hs.ok.getD k;have HYc:=aqi (λ(h:k<L.length)=>(hs.below hb).mS h);have HYg:=aqi (λ(h:k<L.length)=>BP h);have HYn:=aqi (λ(h:¬k<L.length)=>ER h);have HX:=aqi (rfl:M[k]=M[k]);obtain⟨a,ha⟩:∃ a,a=M[k]:=⟨_,rfl⟩
   rw[<-ha]at c1 nK HT;clear ha HX vi;have HS:=aqi (RE ho HV.out HT.out HY.out);have HN:=aqi (λv=>HZ.out.set v);have HOK:=aqi (λv=>mc.ZI k v);have HR2:=aqi (λv:Nat=>hR.set k v);have HE2:=aqi (λv:Value=>hb.setCell (p:=⟨w.heap.size,k,none⟩) (bF _) v);clear ho hR hb mc;subst e1;by_cases VE:k<l
   .have yj:k<L.length:=by have:=HL.out;omega
    obtain⟨bb,bo,e2,_,c2⟩:=HYc.out yj;subst e2;rw[<-HYg.out yj]at c2;generalize L.getD k 0=b at *
    clear HYc HYg HYn yj;have HA:=aqi (λw=>Ga a b q w nK rh hq);go_wp2_with fail;refine(HA.out _).mono ?_;rintro e w1 ⟨rfl,rfl⟩;go_wp2;go_roundw
    case rel=>
     exact⟨k+1,(a+b+q)/4294967296,O.set k ((a+b+q)%4294967296),aC,by go_num,rfl,aC,by rw[dB];exact HO.out,HOK.out _,HN.out _,HS.out,HR2.out _,HE2.out _⟩
    case measure=>simp[intOf];omega
   .rw [HYn.out (by have:=HL.out;omega)]at HS;clear HYc HYg HYn rh HY;have HA:=aqi (λw=>Ga a 0 q w nK aE hq);go_wp2_with fail;refine(HA.out _).mono ?_;rintro e w1 ⟨rfl,rfl⟩;go_wp2;go_roundw
    case rel=>
     exact⟨k+1,(a+0+q)/4294967296,O.set k ((a+0+q)%4294967296),aC,by go_num,rfl,aC,by rw[dB];exact HO.out,HOK.out _,HN.out _,HS.out,HR2.out _,HE2.out _⟩
    case measure=>simp[intOf];omega
  .obtain rfl:k=m:= aC ;have ho:=HZ.out.at (by have:=HO.out;omega)
   have c4:=hR.frozen k;have Kb:=hR.cell ho;have HF:=aqi (show val (O.set k q)=val L+val M by
    have h:=Sy (c:=q) ho;rw[cD,cH aC,dx aC,cT,cg,HV.out,show M.take k=M from cW (by rw[HM.out];exact bF _),show L.take k=L from cW (by rw[<-HL.out];omega)]at h;omega)
   have HLn:=aqi (show(O.set k q).length=k+1 by rw[dB];exact HO.out);have HOK:Hid (iZ (O.set k q)):=mc.set k aC;have HR2:=aqi (hR.set k q);have HE2:=aqi (λv:Value=>hb.setCell (p:=⟨w.heap.size,k,none⟩) (bF _) v);clear ho hR hb mc;go_wp2;go_ret;have tS:=HR2.out.sl HOK.out (by rw[HLn.out];omega);rw[HLn.out]at tS;exact⟨_,HF.out,HOK.out,HLn.out,_,_,(by rw[HLn.out];rfl),tS,HE2.out _⟩
def Xt(A B:Option Addr)(c d:Nat)(L M:List Nat)(w:World)(hs:Sl w A c L)(hr:Sl w B d M)(h1:L.length<=3000)(h2:M.length<=3000):
 Calls prog 262 #[.slice A L.length c,.slice B M.length d] w (Mq w (val L+val M) (max L.length M.length+1)):=by
 by_cases hc:M.length<=L.length
 .rw [Nat.max_eq_left hc];exact ai8 A B c d L M w hs hr h1 h2 hc
 .rw [Nat.max_eq_right aC];exact ai9 A B c d L M w hs hr h1 h2 aC 
def ai7(A B:Option Addr)(c d:Nat)(L M:List Nat)(w:World)(hs:Sl w A c L)(hr:Sl w B d M)(h1:L.length<=3000)(h2:M.length<=3000):
 Calls prog 262 #[.slice A L.length c,.slice B M.length d] w (Rq w (val L+val M) (max L.length M.length+1)):=
 (Xt A B c d L M w hs hr h1 h2).mono λ_ _ ⟨T,a,b,c,d⟩=>⟨T,a,b,apw c,d⟩
def aja(A B:Option Addr)(c d:Nat)(L M:List Nat)(w:World)(vq:Sl w A c L)(zz:Sl w B d M)(h1:L.length<=3000)(_h2:M.length<=3000)(hle:val M<=val L):
 Calls prog 264 #[.slice A L.length c,.slice B M.length d] w (Rq w (val L-val M) L.length):=by
 have N4:=aqi (λw (h:Sl w A c L)=>wL A c L w h);have N5:=aqi (λw (h:Sl w B d M)=>wL B d M w h);have hs:=vq.vO;have hr:=zz.vO;have Hg:=qZ L;have Vw:=qZ M;have lr:=qw L;have o9:=qw M;have E5:(iT M).length<=(iT L).length:=by
  apply ct;intro h;have:=L6 hs.ok (Bf M) aC;omega
 unfold np at lr o9;rw[<-Hg,<-Vw]at hle ⊢;clear Hg Vw;obtain⟨n1,uI⟩:∃ n,n=L.length:=⟨_,rfl⟩
 obtain⟨n2,mY⟩:∃ n,n=M.length:=⟨_,rfl⟩
 rw[<-uI]at h1 lr N4 ⊢;rw[<-mY]at _h2 o9 N5 ⊢;have HTL:=aqi (N4.out w vq);have HTM:=aqi (N5.out w zz);clear N4 N5 vq zz uI mY;generalize iT L=L at *
 generalize iT M=M at *
 obtain⟨l,hl⟩:∃ l,l=L.length:=⟨_,rfl⟩
 obtain⟨m,hm⟩:∃ m,m=M.length:=⟨_,rfl⟩
 rw[<-hl]at lr HTL E5;rw[<-hm]at o9 HTM E5;have HL:=aqi hl;have HM:=aqi hm;have HLE:=aqi hle;clear hl hm hle;have qT:=Hy l aC;have zh:=aqi (Rw.AS w l);go_enter func264,ntmps264;go_wp2_with fail;refine HTL.out.mono ?_;rintro e w1 ⟨rfl,rfl⟩;go_wp2_with fail;refine HTM.out.mono ?_;rintro e w1 ⟨rfl,rfl⟩;go_wp2;go_loopw [6,7,8,9,19] (λcy _ _ _ i wr=>∃ (k q:Nat) (O:List Nat),k<=l/\i = .int .i64 k/\cy = .int .u32 q/\q<=1/\O.length=l/\iZ O/\vW O k/\val O+val (M.take k)=val (L.take k)+4294967296^k*q/\Rw wr w.heap.size O/\iV w wr) (λ_ _ _ _ i _=>l-(intOf i).toNat)
 case atStart=>
  exact⟨0,0,List.replicate l 0,cj _,rfl,rfl,aE,aH,iZ.FI _,vW.Rf _,by simp[CI],zh.out,iV.alloc _ _⟩
 case round=>
  obtain⟨k,q,O,hk,rfl,rfl,hq,hO,mc,hz,lV,hR,hb⟩:=hrel;have HV:=aqi lV;have HO:=aqi hO;clear lV hO;have HZ:=aqi hz;clear hz;by_cases iK:k<l
  .have vi:k<L.length:=by have:=HL.out;omega
   obtain⟨ab,ao,e1,_,c1⟩:=(hs.below hb).mS vi;have nK:L[k]<4294967296:=hs.ok.get vi;have ho:=HZ.out.at (by have:=HO.out;omega)
   have c4:=hR.frozen k;have Kb:=hR.cell ho;have HT:=aqi (CJ L k vi);have HY:=aqi (xN M k);have rh:M.getD k 0<4294967296:=hr.ok.getD k;have HYc:=aqi (λ(h:k<M.length)=>(hr.below hb).mS h);have HYg:=aqi (λ(h:k<M.length)=>BP h);have HYn:=aqi (λ(h:¬k<M.length)=>ER h);obtain⟨a,ha⟩:∃ a,a=L[k]:=⟨_,rfl⟩
   rw[<-ha]at c1 nK HT;clear ha vi;have HN:=aqi (λv=>HZ.out.set v);have HOK:=aqi (λ(v:Nat) (h:v<4294967296)=>mc.set k h);have HR2:=aqi (λv:Nat=>hR.set k v);have HE2:=aqi (λv:Value=>hb.setCell (p:=⟨w.heap.size,k,none⟩) (bF _) v);have HO0:=aqi ho;clear ho hR hb mc;subst e1;by_cases VE:k<m
   .have yj:k<M.length:=by have:=HM.out;omega
    obtain⟨bb,bo,e2,_,c2⟩:=HYc.out yj;subst e2;rw[<-HYg.out yj]at c2;generalize M.getD k 0=b at *
    clear HYc HYg HYn yj;have HS:=aqi (Z7 HO0.out HV.out HT.out HY.out (Gq a b q nK rh hq).1);have HD:=aqi (Gq a b q nK rh hq).2;have HA:=aqi (λw=>Z5 a b q w nK rh hq);generalize y6 a b q=dd at *
    generalize CW a b q=bb' at *
    go_wp2_with fail;refine(HA.out _).mono ?_;rintro e w1 ⟨rfl,rfl⟩;go_wp2;go_roundw
    case rel=>
     exact⟨k+1,bb',O.set k dd,aC,by go_num,rfl,HD.out.1,by rw[dB];exact HO.out,HOK.out _ HD.out.2,HN.out _,HS.out,HR2.out _,HE2.out _⟩
    case measure=>simp[intOf];omega
   .rw [HYn.out (by have:=HM.out;omega)]at HY;clear HYc HYg HYn rh;have HS:=aqi (Z7 HO0.out HV.out HT.out HY.out (Gq a 0 q nK aE hq).1);have HD:=aqi (Gq a 0 q nK aE hq).2;have HA:=aqi (λw=>Z5 a 0 q w nK aE hq);generalize y6 a 0 q=dd at *
    generalize CW a 0 q=bb' at *
    go_wp2_with fail;refine(HA.out _).mono ?_;rintro e w1 ⟨rfl,rfl⟩;go_wp2;go_roundw
    case rel=>
     exact⟨k+1,bb',O.set k dd,aC,by go_num,rfl,HD.out.1,by rw[dB];exact HO.out,HOK.out _ HD.out.2,HN.out _,HS.out,HR2.out _,HE2.out _⟩
    case measure=>simp[intOf];omega
  .obtain rfl:k=l:= aC ;have HF:=aqi (show val O=val L-val M by
    have h:=HV.out;rw[show L.take k=L from cW (by rw[HL.out];exact bF _),show M.take k=M from cW (by rw[<-HM.out];exact E5)]at h;exact(Z6 mc HO.out h HLE.out).2)
   go_wp2;go_ret;have tS:=hR.sl mc (by rw[HO.out];omega);exact⟨_,HF.out,mc,by rw[HO.out];exact lr,_,_,(by rw[HO.out];rfl),tS,hb⟩
def aav{T:List Nat}{v:Nat}(h:iZ T)(hv:val T=v):iT T=ij v:=by rw[sx h,hv]
def aiU(A B:Option Addr)(c d:Nat)(L M:List Nat)(w:World)(hs:Sl w A c L)(hr:Sl w B d M)(h1:L.length<=256)(h2:M.length<=256)(hf:(ij (val L+val M)).length<=256):
 Calls prog 221 #[.slice A L.length c,.slice B M.length d] w (Ek w (ij (val L+val M)) 0):=by
 have H1:=aqi (λw (h:Sl w A c L) (k:Sl w B d M)=>ai7 A B c d L M w h k aC aC);generalize val L+val M=v at *
 go_enter func221,ntmps221;go_wp2_with fail;refine(WN _ A B _ c _ d _ false (Rt _ _ _ _ _ _ _) (Ru _ _ _ _ _ _ _) aN).mono ?_;rintro e w' ⟨rfl,rfl⟩;go_wp2_with fail;refine(H1.out _ (hs.alloc _) (hr.alloc _)).mono ?_;rintro e w' ⟨T,hv,hk,hl,A',c',rfl,pN,hb⟩;have ht:=aqi (aav hk hv);go_wp2_with fail;refine(Ie A' c' T _ pN (by rw[ht.out];exact hf)).mono ?_;rintro e w'' ⟨A'',c'',rfl,sL,ns⟩;rw[ht.out]at sL ⊢;go_wp2;go_ret2;exact⟨A'',c'',rfl,sL,(iV.alloc _ _).trans (hb.trans ns)⟩
def ai6(A B:Option Addr)(c d:Nat)(L M:List Nat)(w:World)(hs:Sl w A c L)(hr:Sl w B d M)(h1:L.length<=256)(h2:M.length<=256)(hle:val M<=val L):
 Calls prog 224 #[.slice A L.length c,.slice B M.length d] w (Ek w (ij (val L-val M)) 0):=by
 have H1:=aqi (λw (h:Sl w A c L) (k:Sl w B d M)=>aja A B c d L M w h k aC aC hle);have HC:=aqi (λw (h:Sl w A c L) (k:Sl w B d M)=>KO A B c d L M w h k aC aC);have hc:decide (lp (val L) (val M)<0)=false:=by
  apply bD;unfold lp;rw[bA aC];split<;>decide
 have hf:(ij (val L-val M)).length<=256:=bH (nA (fA _ _)) (aik hs.ok h1);generalize val L-val M=v at *
 generalize lp (val L) (val M)=q at *
 clear hle;go_enter func224,ntmps224;go_wp2_with fail;refine(WN _ A B _ c _ d _ false (Rt _ _ _ _ _ _ _) (Ru _ _ _ _ _ _ _) aN).mono ?_;rintro e w' ⟨rfl,rfl⟩;go_wp2_with fail;refine(HC.out _ (hs.alloc _) (hr.alloc _)).mono ?_;rintro e w1 ⟨rfl,lh⟩;go_wp2_with fail;refine(H1.out _ ((hs.alloc _).below lh) ((hr.alloc _).below lh)).mono ?_;rintro e w' ⟨T,hv,hk,hl,A',c',rfl,pN,hb⟩;have ht:=aqi (aav hk hv);go_wp2_with fail;refine(Ie A' c' T _ pN (by rw[ht.out];exact hf)).mono ?_;rintro e w'' ⟨A'',c'',rfl,sL,ns⟩;rw[ht.out]at sL ⊢;go_wp2;go_ret2;exact⟨A'',c'',rfl,sL,(iV.alloc _ _).trans (lh.trans (hb.trans ns))⟩
end Go.Proofs.YtgdahmmlddfimaaGreatDoor
namespace Go.Proofs.YtgdahmmlddfimaaGreatDoor.Fp
def sS(d:Dy):Dy:=if oR d then d else iS
def vc(d:Dy):Int:=if oR d then 0 else 9
def MY{d:Dy}(h:oR d):sS d=d:=bB h
def SD{d:Dy}(h:oR d):vc d=0:=bB h
def SE{d:Dy}(h:¬oR d):sS d=iS:=bA h
def adz{d:Dy}(h:¬oR d):vc d=9:=bA h
def SG{d:Dy}(h:d.oe):(sS d).ix:=by
 by_cases hr:oR d
 .rw [MY hr];exact⟨h,hr⟩
 .rw [SE hr];exact tC
def Z9{a b:Dy}(ha:a.m≠0)(hb:b.m≠0):iH a b=iH b a:=by
 unfold iH;rw[bA ha,bA hb,bA hb,bA ha,Int.min_comm,Int.add_comm]
def ko(m:Nat)(e:Int)(p:Nat):Nat:=(max (max ((iB m:Int)-p) (-16384-e)) 0).toNat
def lR(m:Nat)(e:Int)(more:Bool)(p:Nat)(out:Bool):Nat:=
 m/2^ko m e p+if out=true/\(more=true\/m%2^ko m e p≠0)then 1 else 0
def mW(m:Nat)(e:Int)(more:Bool)(p:Nat)(out:Bool):Bool:=
 decide (lR m e more p out≠0)&&decide (16384<(iB (lR m e more p out):Int)+e+ko m e p)
def kI(neg:Bool)(m:Nat)(e:Int)(more:Bool)(p:Nat)(up:Bool):Dy:=
 if mW m e more p (neg != up)=true then(if(neg != up)=true then iS else canon neg (2^p-1) (16384-p))else canon neg (lR m e more p (neg != up)) (e+ko m e p)
def kp(neg:Bool)(m:Nat)(e:Int)(more:Bool)(p:Nat)(up:Bool):Int:=
 if(mW m e more p (neg != up)&&(neg != up))=true then 9 else 0
def aec{N d k:Nat}:(N/2^d%2^k≠0\/N%2^d≠0)↔N%2^(d+k)≠0:=by
 have e1:N%2^(d+k)=N%2^d+2^d*(N/2^d%2^k):=by rw[bK,Nat.mod_mul]
 have hp:0<2^d:=bL aE;rw[e1];constructor
 .rintro (h|h)
  .have:=gr hp (eE h);omega
  .omega
 .intro h;by_cases h1:N%2^d=0
  .left;intro h2;rw[h1,h2,cT]at h;exact h rfl
  .exact .inr h1
def adW{N:Nat}{E:Int}{more:Bool}{d p:Nat}(hb:p<iB (N/2^d)):
 ko (N/2^d) (E+d) p+d=ko N E p /\
 ∀ out,lR (N/2^d) (E+d) (more||decide (N%2^d≠0)) p out=lR N E more p out:=by
 have hN:d<iB N:=by
  apply ct;intro h;have h1:N<2^d:=mK.1 aC;rw[dx h1]at hb;simp[iB]at hb
 have Og:iB (N/2^d)+d=iB N:=by
  have h0:N/2^d≠0:=by intro h;rw[h]at hb;simp[iB]at hb
  have h1:=vP h0;have h2:=tv (N/2^d);obtain⟨j,hj⟩:∃ j,iB (N/2^d)=j+1:=⟨iB (N/2^d)-1,aC⟩
  rw[hj]at h1 h2 ⊢;rw[fo,dC (bL aE),<-bK]at h1;rw[cS (bL aE),<-bK]at h2;have:=Aj (k:=j+d) h1 (by rw[(aC:j+d+1=j+1+d)];exact h2);omega
 have hk:ko (N/2^d) (E+d) p+d=ko N E p:=by
  unfold ko;omega
 refine⟨hk,λout=>?_⟩;unfold lR;rw[<-hk];generalize ko (N/2^d) (E+d) p=k;have Oj:=@aec N d k;rw[(aC:k+d=d+k),dL,<-bK];congr 1;have:((more||decide (N%2^d≠0))=true\/N/2^d%2^k≠0)↔(more=true\/N%2^(d+k)≠0):=by
  rw[<-Oj];simp only[eo,cL];constructor
  .rintro ((h|h)|h)
   .exact .inl h
   .exact .inr (.inr h)
   .exact .inr (.inl h)
  .rintro (h|h|h)
   .exact .inl (.inl h)
   .exact .inr h
   .exact .inl (.inr h)
 by_cases ho:out=true
 .simp only[ho,true_and,this]
 .rw [bA (λh=>ho h.1),bA (λh=>ho h.1)]
def JB{N:Nat}{E:Int}{more:Bool}{d p:Nat}(neg up:Bool)(hb:p<iB (N/2^d)):
 kI neg (N/2^d) (E+d) (more||decide (N%2^d≠0)) p up=kI neg N E more p up /\
 kp neg (N/2^d) (E+d) (more||decide (N%2^d≠0)) p up=kp neg N E more p up:=by
 obtain⟨hk,hq⟩:=adW (more:=more) (E:=E) hb;have hq:=hq (neg != up);have e1:E+(d:Int)+(ko (N/2^d) (E+d) p:Int)=E+(ko N E p:Int):= aC ;have e2:(iB (lR N E more p (neg != up)):Int)+(E+(d:Int))+(ko (N/2^d) (E+d) p:Int)=(iB (lR N E more p (neg != up)):Int)+E+(ko N E p:Int):= aC ;have ho:mW (N/2^d) (E+d) (more||decide (N%2^d≠0)) p (neg != up)=mW N E more p (neg != up):=by
  unfold mW;rw[hq,e2]
 unfold kI kp;rw[hq,ho,e1];exact⟨rfl,rfl⟩
def MX(s:Bool)(m:Nat)(e:Int)(j:Nat):canon s (m*2^j) (e-j)=canon s m e:=by
 by_cases h0:m=0
 .subst h0;rw[dc];rfl
 .have h1:m*2^j≠0:=dY h0 (eR (bL aE));obtain⟨q,hq,he⟩:=CY h0;have hc:kn (m*2^j)=kn m+j:=by
   conv=>lhs;rw[he,bO,<-bK]
   exact An hq _
  unfold canon;rw[bA h1,bA h0,hc,bK,bT (2^kn m),<-dL,ev _ (bL aE)];rw[(aC:e-(j:Int)+((kn m+j:Nat):Int)=e+(kn m:Int))]
def adV(neg up:Bool)(N:Nat)(E:Int)(j p:Nat)(h0:N≠0):
 kI neg (N*2^j) (E-j) false p up=kI neg N E false p up/\kp neg (N*2^j) (E-j) false p up=kp neg N E false p up:=by
 have Og:=sC h0 j;by_cases hk:ko N E p=0
 .
  have yi:ko (N*2^j) (E-j) p<=j:=by unfold ko at hk ⊢;rw[Og];omega
  obtain⟨i,hi⟩:∃ i,j=i+ko (N*2^j) (E-j) p:=⟨j-ko (N*2^j) (E-j) p,aC⟩
  generalize hK:ko (N*2^j) (E-j) p=k at *
  have hdiv:N*2^j/2^k=N*2^i:=by
   rw[hi,bK,<-bO,ev _ (bL aE)]
  have OF:N*2^j%2^k=0:=by
   rw[hi,bK,<-bO];exact gT _ _
  have hq:∀ out,lR (N*2^j) (E-j) false p out=N*2^i:=λout=>by
   unfold lR;rw[hK,hdiv,OF];simp
  have xr:∀ out,lR N E false p out=N:=λout=>by
   unfold lR;rw[hk];simp[dZ]
  have kB:N*2^i≠0:=dY h0 (eR (bL aE));have ho:∀ out,mW (N*2^j) (E-j) false p out=mW N E false p out:=λout=>by
   unfold mW;rw[hq,xr,hK,hk,sC h0 i];simp only[du,kB,h0,fg,fT,di];rw[apW];omega
  unfold kI kp;rw[ho,hq,xr,hK,hk];rw[(aC:E-(j:Int)+k=E+((0:Nat):Int)-(i:Int)),MX];exact⟨rfl,rfl⟩
 .have yi:ko (N*2^j) (E-j) p=ko N E p+j:=by unfold ko at hk ⊢;rw[Og];omega
  have hq:∀ out,lR (N*2^j) (E-j) false p out=lR N E false p out:=λout=>by
   unfold lR;rw[yi,bK,bT (2^ko N E p),<-dL,ev _ (bL aE),bT N,Nat.mul_mod_mul_left];have:(2^j*(N%2^ko N E p)≠0)↔(N%2^ko N E p≠0):=by
    rw[du,du,Nat.mul_eq_zero];have:=bL (n:=j) (aE:0<2);omega
   simp only[this]
  have ho:∀ out,mW (N*2^j) (E-j) false p out=mW N E false p out:=λout=>by
   unfold mW;rw[hq,yi];congr 2;rw[eq_iff_iff];omega
  unfold kI kp;rw[ho,hq,yi];rw[(aC:E-(j:Int)+((ko N E p+j:Nat):Int)=E+(ko N E p:Int))];exact⟨rfl,rfl⟩
def iM(d:Dy)(p:Nat)(up:Bool):Dy:=kI d.neg d.m d.e false p up
def jY(d:Dy)(p:Nat)(up:Bool):Int:=kp d.neg d.m d.e false p up
def YQ(s up:Bool)(m:Nat)(e:Int)(p:Nat)(h0:m≠0):
 iM (canon s m e) p up=kI s m e false p up/\jY (canon s m e) p up=kp s m e false p up:=by
 have hm:=Gt h0;have hq:m/2^kn m≠0:=by have:=Fy h0;omega
 have h:=adV s up (m/2^kn m) (e+kn m) (kn m) p hq;rw[hm,(aC:e+(kn m:Int)-(kn m:Int)=e)]at h;unfold iM jY canon;rw[bA h0];exact⟨h.1.symm,h.2.symm⟩
def CX{s:Bool}{m:Nat}{e:Int}(h0:m≠0):(iB (canon s m e).m:Int)+(canon s m e).e=iB m+e/\e<=(canon s m e).e/\(canon s m e).m≠0/\iB (canon s m e).m<=iB m:=by
 have hm:=Gt h0;have hq:m/2^kn m≠0:=by have:=Fy h0;omega
 have h:=sC hq (kn m);rw[hm]at h;unfold canon;rw[bA h0];simp only;exact⟨aC,aC,hq,aC⟩
def Tc(m:Nat)(e:Int)(p:Nat):m/2^ko m e p<2^p:=by
 rw[cS (bL aE),<-bK];refine mK.1 ?_;unfold ko;omega
def adn{s:Bool}{q p:Nat}{e:Int}(h:q<=2^p)(hp:1<=p):iB (canon s q e).m<=p:=by
 by_cases h0:q=0
 .subst h0;exact cj _
 .by_cases h1:q=2^p
  .have hc:kn q=p:=by rw[h1];have:=An (m:=1) rfl p;rwa[cv]at this
   unfold canon;rw[bA h0,hc,h1,Nat.div_self (bL aE)];exact bH (mK.2 (show 1<2^1 by decide)) hp
  .exact bH (CX h0).2.2.2 (mK.2 aC)
def SZ(m:Nat)(e:Int)(more:Bool)(p:Nat)(out:Bool):lR m e more p out<=2^p:=by
 have:=Tc m e p;unfold lR;split<;>omega
def uA(neg:Bool)(m:Nat)(e:Int)(more:Bool)(p:Nat)(up:Bool)(hp:1<=p)(im:p<=4096):(kI neg m e more p up).ix:=by
 unfold kI;by_cases ho:mW m e more p (neg != up)=true
 .rw [bB ho];by_cases hn:(neg != up)=true
  .rw [bB hn];exact tC
  .rw [bA hn];have yr:2<=2^p:=by
    have:=b5 (n:=2) aE hp;omega
   have h0:2^p-1≠0:= aC ;have hb:iB (2^p-1)=p:=by
    obtain⟨j,rfl⟩:∃ j,p=j+1:=⟨p-1,aC⟩
    have h2:2^(j+1)=2^j*2:=bS _ _;have h3:=bL (n:=j) (aE:0<2);exact Aj aC aC 
   obtain⟨h1,h2,h3,h4⟩:=CX (s:=neg) (e:=(16384:Int)-p) h0;have h5:=pF h3;exact⟨ux _ _ _,.inr ⟨aC,aC,aC,aC⟩⟩
 .rw [bA ho];refine⟨ux _ _ _,?_⟩;by_cases h0:lR m e more p (neg != up)=0
  .rw [h0];exact .inl rfl
  .have hq:=adn (s:=neg) (e:=e+(ko m e p:Int)) (SZ m e more p (neg != up)) hp;obtain⟨h1,h2,h3,h4⟩:=CX (s:=neg) (e:=e+(ko m e p:Int)) h0;have h5:=pF h3;have h6:-16384<=e+(ko m e p:Int):=by unfold ko;omega
   unfold mW at ho;simp only[du,h0,fg,fT,di,cL]at ho;exact .inr ⟨aC,aC,aC,aC⟩
def Gl{neg:Bool}{m:Nat}{e:Int}{more:Bool}{p:Nat}{up:Bool}:kp neg m e more p up=0↔¬(mW m e more p (neg != up)=true/\(neg != up)=true):=by
 unfold kp;cases mW m e more p (neg != up)<;>cases(neg != up)<;>simp
def S1(neg:Bool)(m:Nat)(e:Int)(more:Bool)(p:Nat)(h1:kp neg m e more p false=0)(h2:kp neg m e more p true=0):
 jf (kI neg m e more p false) (kI neg m e more p true)<=0:=by
 have qE:¬mW m e more p true=true:=by
  cases neg
  .rw [Gl]at h2;simpa using h2
  .rw [Gl]at h1;simpa using h1
 have hle:lR m e more p false<=lR m e more p true:=by
  unfold lR;simp only[bR,false_and,bI];omega
 have lI:¬mW m e more p false=true:=by
  unfold mW at qE ⊢;intro h;apply qE;simp only[bQ,cL]at h ⊢;have:=xS hle;exact⟨aC,aC⟩
 have key:∀ o:Bool,¬mW m e more p o=true:=λo=>by cases o;exact lI;exact qE
 unfold kI;rw[bA (key _),bA (key _)];rw[EA (k:=e+(ko m e p:Int)) (Bs (cN _)) (Bs (cN _)),DY (cN _),DY (cN _)];rw[show(e+(ko m e p:Int)-(e+(ko m e p:Int))).toNat=0 by omega];simp only[cU,cI];unfold xV;cases neg
 .simp only[bR,bI,Bool.false_bne];split
  .decide
  .split<;>omega
 .simp only[bN,Bool.true_bne,fp,fI];split
  .decide
  .split<;>omega
def nE(b:Dy)(low:Int):Nat:=if low<=b.e then b.m*2^(b.e-low).toNat else b.m/2^(low-b.e).toNat
def oG(b:Dy)(low:Int):Bool:=decide (¬low<=b.e)&&decide (b.m%2^(low-b.e).toNat≠0)
def Z8{a b:Dy}(ha:a.oe)(hb:b.oe){K:Int}(h1:K<=a.e)(h2:K<=b.e):iH a b=kR (a.num K+b.num K) K:=by
 refine Nj (k:=K) (Ey ha hb) (ux _ _ _) (Jb (.inr h1) (.inr h2)) (Mu (cN _)) ?_;rw[LP (.inr h1) (.inr h2),PN (cN _),show(K-K).toNat=0 by omega];simp
def Lw{a b:Dy}(ha:a.oe)(hb:b.oe){K:Int}(h1:K<=a.e)(h2:K<=b.e)(s:Bool)(Z:Nat)(h0:Z≠0)(hz:a.num K+b.num K=if s then -(Z:Int)else(Z:Int))(p:Nat)(up:Bool):
 iM (iH a b) p up=kI s Z K false p up/\jY (iH a b) p up=kp s Z K false p up:=by
 have:iH a b=canon s Z K:=by rw[Z8 ha hb h1 h2,hz,Jv]
 rw[this];exact YQ s up Z K p h0
def KR(d:Dy)(K:Int):d.num K=if d.neg then -(d.kG K:Int)else(d.kG K:Int):=rfl
section
variable {a b:Dy} {low:Int} {p:Nat}
def QD(a0:a.m≠0)(b0:b.m≠0)(h1:low<=a.e)(h2:low<=a.iI-p-8)(h3:low<=b.e\/3<=a.iI-b.iI):
 ∃ (K:Int) (d:Nat),K<=a.e/\K<=b.e/\low=K+d/\a.kG K=a.m*2^(a.e-low).toNat*2^d/\nE b low=b.kG K/2^d/\(oG b low=decide (b.kG K%2^d≠0)) /\
  (d=0\/(p+8<=iB (a.m*2^(a.e-low).toNat)/\iB (b.kG K/2^d)+3<=iB (a.m*2^(a.e-low).toNat))):=by
 have ta:a.iI=iB a.m+a.e:=by unfold Dy.iI;rw[bA a0]
 have tb:b.iI=iB b.m+b.e:=by unfold Dy.iI;rw[bA b0]
 have hx:=sC a0 (a.e-low).toNat
 by_cases h:low<=b.e
 .refine ⟨low,0,h1,h,aC,by unfold Dy.kG;simp,?_,?_,.inl rfl⟩
  .unfold nE Dy.kG;rw[bB h];simp
  .unfold oG;simp[h,dZ]
 .refine ⟨b.e,(low-b.e).toNat,aC,cN _,aC,?_,?_,?_,.inr ⟨aC,?_⟩⟩
  .unfold Dy.kG;rw[bO,<-bK];congr 2;omega
  .unfold nE Dy.kG;rw[bA h];simp
  .unfold oG Dy.kG;simp[h]
  .have hm:b.kG b.e=b.m:=by unfold Dy.kG;simp
   rw[hm];have hd:iB (b.m/2^(low-b.e).toNat)<=iB b.m-(low-b.e).toNat:=by
    rw[mK,cS (bL aE),<-bK];exact mK.1 aC 
   have:=h3.resolve_left h;omega
def alL(ha:a.oe)(hb:b.oe)(a0:a.m≠0)(b0:b.m≠0)(h1:low<=a.e)(h2:low<=a.iI-p-8)(h3:low<=b.e\/3<=a.iI-b.iI)(hs:a.neg=b.neg)(up:Bool):
 kI a.neg (a.m*2^(a.e-low).toNat+nE b low) low (oG b low) p up=iM (iH a b) p up/\kp a.neg (a.m*2^(a.e-low).toNat+nE b low) low (oG b low) p up=jY (iH a b) p up:=by
 obtain⟨K,d,k1,k2,rfl,hx,hy,hl,hd⟩:=QD (p:=p) a0 b0 h1 h2 h3;generalize a.m*2^(a.e-(K+d)).toNat=x at *
 have ma:=AT a0 K;have mb:=AT b0 K;obtain⟨r1,r2⟩:=Lw ha hb k1 k2 a.neg (a.kG K+b.kG K) aC (by
  rw[KR a,KR b,<-hs];cases a.neg<;>simp<;>omega) p up
 rw[r1,r2,hy,hl];have e1:(a.kG K+b.kG K)/2^d=x+b.kG K/2^d:=by
  rw[hx,bT x,apK (bL aE)]
 have e2:(a.kG K+b.kG K)%2^d=b.kG K%2^d:=by
  rw[hx,bT x,gF]
 rcases hd with rfl|⟨BY,BZ⟩
 .simp only[cU,fW,dZ]at e1 ⊢;rw[<-e1];have:K+((0:Nat):Int)=K:= aC ;rw[this];simp
 .have hb:p<iB ((a.kG K+b.kG K)/2^d):=by
   rw[e1];have:=xS (aC:x<=x+b.kG K/2^d);omega
  have h:=JB (E:=K) (more:=false) a.neg up hb;rw[e1,e2,apx]at h;exact h
def am2{x N D:Nat}(hD:0<D)(h:N<=x*D):(x*D-N)/D=x-(N/D+if N%D≠0 then 1 else 0)/\((x*D-N)%D≠0↔N%D≠0)/\N/D+(if N%D≠0 then 1 else 0)<=x:=by
 have hN:=c9 N D;have hr:=bV N hD;generalize N/D=q at *
 generalize N%D=r at *
 by_cases h0:r=0
 .subst h0;simp only[du,apM,bI,cg]at hN ⊢;have hq:q<=x:=by
   apply ct;intro h';have:=bY D (aC:x+1<=q);rw[cr,bT q]at this;omega
  have e:x*D-N=(x-q)*D:=by rw[Nat.sub_mul,<-hN,bT q]
  rw[e,ev _ hD,gT];exact⟨rfl,aH,hq⟩
 .have hq:q+1<=x:=by
   apply ct;intro h';have:=bY D (aC:x<=q);rw[bT q]at this;omega
  have e:x*D-N=(D-r)+D*(x-(q+1)):=by
   have h1:D*(x-(q+1))=D*x-D*(q+1):=Nat.mul_sub _ _ _;have h2:D*(q+1)<=D*x:=de _ hq;rw[b9,cI]at h1 h2;rw[bT x];omega
  have iK:D-r<D:= aC ;rw[e,fF _ _ hD,dx iK,eN,cH iK];simp only[du,h0,fg,bN];exact⟨aC,⟨λ_=>trivial,λ_=> aC⟩,hq⟩
def alK(ha:a.oe)(hb:b.oe)(a0:a.m≠0)(b0:b.m≠0)(h1:low<=a.e)(h2:low<=a.iI-p-8)(h3:low<=b.e\/3<=a.iI-b.iI)(hs:a.neg≠b.neg)(up:Bool):
  (a.m*2^(a.e-low).toNat<nE b low+(if oG b low=true then 1 else 0) ->
   kI (!a.neg) (nE b low+(if oG b low=true then 1 else 0)-a.m*2^(a.e-low).toNat) low false p up=iM (iH a b) p up/\kp (!a.neg) (nE b low+(if oG b low=true then 1 else 0)-a.m*2^(a.e-low).toNat) low false p up=jY (iH a b) p up) /\
  (nE b low+(if oG b low=true then 1 else 0)<=a.m*2^(a.e-low).toNat ->
   (a.m*2^(a.e-low).toNat-(nE b low+(if oG b low=true then 1 else 0))=0/\oG b low=false->iH a b=iS) /\
   (¬(a.m*2^(a.e-low).toNat-(nE b low+(if oG b low=true then 1 else 0))=0/\oG b low=false) ->
    kI a.neg (a.m*2^(a.e-low).toNat-(nE b low+(if oG b low=true then 1 else 0))) low (oG b low) p up=iM (iH a b) p up/\kp a.neg (a.m*2^(a.e-low).toNat-(nE b low+(if oG b low=true then 1 else 0))) low (oG b low) p up=jY (iH a b) p up)):=by
 obtain⟨K,d,k1,k2,rfl,hx,hy,hl,hd⟩:=QD (p:=p) a0 b0 h1 h2 h3;generalize a.m*2^(a.e-(K+d)).toNat=x at *
 have ma:=AT a0 K;have mb:=AT b0 K;have Kr:a.num K+b.num K=if a.neg then(b.kG K:Int)-a.kG K else(a.kG K:Int)-b.kG K:=by
  rw[KR a,KR b];cases h:a.neg<;>cases h':b.neg<;>simp[h,h']at hs ⊢ <;> omega
 rw[hy,hl];rcases hd with rfl|⟨BY,BZ⟩
 .
  rw[cU,cI]at hx;have e0:K+((0:Nat):Int)=K:= aC ;simp only[cU,fW,dZ,du,apM,apv,bR,bI,cg,e0,fN];refine⟨λiK=>?_,λhle=>⟨λhz=>?_,λhz=>?_⟩⟩
  .obtain ⟨r1,r2⟩:=Lw ha hb k1 k2 (!a.neg) (b.kG K-x) aC (by
    rw[Kr,hx];cases a.neg<;>simp<;>omega) p up
   exact⟨r1.symm,r2.symm⟩
  .rw [Z8 ha hb k1 k2,Kr,hx];have:x=b.kG K:= aC ;rw[this];cases a.neg<;>simp[kR,canon,iS]
  .obtain ⟨r1,r2⟩:=Lw ha hb k1 k2 a.neg (x-b.kG K) aC (by
    rw[Kr,hx];cases a.neg<;>simp<;>omega) p up
   exact⟨r1.symm,r2.symm⟩
 .
  have hD:=bL (n:=d) (aE:0<2);have pd:x≠0:=by intro h;rw[h]at BY;simp[iB]at BY
  obtain⟨j,hj⟩:∃ j,iB x=j+3:=⟨iB x-3,aC⟩
  have jG:=vP pd;rw[hj,(aC:j+3-1=j+2),bK]at jG;have vt:b.kG K/2^d<2^j:=mK.1 aC;have hle:b.kG K<=x*2^d:=by
   have h5:=c9 (b.kG K) (2^d);have h6:=bV (b.kG K) hD;have h7:2^d*(b.kG K/2^d+1)<=2^d*x:=de _ aC;rw[b9,cI,bT _ x]at h7;omega
  obtain⟨e1,e2,e3⟩:=am2 hD hle;have hc:(if decide (b.kG K%2^d≠0)=true then 1 else 0)=(if b.kG K%2^d≠0 then 1 else 0):=by simp only[cL]
  rw[hc];have As:p<iB (x-(b.kG K/2^d+if b.kG K%2^d≠0 then 1 else 0)):=by
   have h8:2^(j+1)<=x-(b.kG K/2^d+if b.kG K%2^d≠0 then 1 else 0):=by
    rw[bS];have h9:2^j*2^2<=x:=jG;have sE:=bL (n:=j) (aE:0<2);split<;>omega
   have:=yH.2 h8;omega
  refine⟨λiK=> aC,λ_=>⟨λhz=>?_,λ_=>?_⟩⟩
  .exfalso;rw[hz.1]at As;simp[iB]at As
  .obtain ⟨r1,r2⟩:=Lw ha hb k1 k2 a.neg (a.kG K-b.kG K) (by
    intro h;rw[<-hx,h,Nat.zero_div]at e1;rw[<-e1]at As;simp[iB]at As) (by
    rw[Kr];cases a.neg<;>simp<;>omega) p up
   rw[r1,r2,hx];rw[<-e1]at As ⊢;have h:=JB (E:=K) (more:=false) a.neg up As;rw[apx]at h;have e4:decide ((x*2^d-b.kG K)%2^d≠0)=decide (b.kG K%2^d≠0):=apW.2 e2;rw[e4]at h;exact h
end
def jF(m:Nat)(e:Int)(p:Nat):Int:=max (e+iB m-p) (-16384)
def oL(m:Nat)(e:Int)(more:Bool)(p:Nat)(up:Bool):Nat:=
 if jF m e p<=e then m*2^(e-jF m e p).toNat else m/2^(jF m e p-e).toNat+if(up&&(more||decide (m%2^(jF m e p-e).toNat≠0)))=true then 1 else 0
def SY{m:Nat}{e:Int}{more:Bool}{p:Nat}(up:Bool)(h0:m≠0)(hm:more=true->p<iB m)(hp:1<=p):
 (iB (oL m e more p up):Int)+jF m e p<=16384/\kI false m e more p up=canon false (oL m e more p up) (jF m e p)/\kp false m e more p up=0 \/
 16384<(iB (oL m e more p up):Int)+jF m e p/\((up=true/\kI false m e more p up=iS/\kp false m e more p up=9)\/(up=false/\kI false m e more p up=canon false (2^p-1) (16384-p)/\kp false m e more p up=0)):=by
 have qE:(false != up)=up:=by cases up<;>rfl
 by_cases hU:jF m e p<=e
 .
  have hmf:more=false:=by
   cases OG:more with
   |false=>rfl
   |true=>have:=hm OG;unfold jF at hU;omega
  subst hmf;have hK:ko m e p=0:=by unfold jF at hU;unfold ko;omega
  have hQ:lR m e false p up=m:=by unfold lR;rw[hK];simp[dZ]
  have hP:oL m e false p up=m*2^(e-jF m e p).toNat:=by unfold oL;rw[bB hU]
  have hb:iB (oL m e false p up)=iB m+(e-jF m e p).toNat:=by rw[hP];exact sC h0 _
  have hc:canon false (oL m e false p up) (jF m e p)=canon false m e:=by
   rw[hP];have:=MX false m e (e-jF m e p).toNat
   rwa[(aC:e-((e-jF m e p).toNat:Int)=jF m e p)]at this
  have hO:mW m e false p up=decide (16384<(iB m:Int)+e):=by
   unfold mW;rw[hQ,hK];simp[h0]
  by_cases sZ:16384<(iB m:Int)+e
  .refine .inr ⟨aC,?_⟩;unfold kI kp;rw[qE,hO,bC sZ];cases up
   .exact .inr ⟨rfl,rfl,rfl⟩
   .exact .inl ⟨rfl,rfl,rfl⟩
  .refine .inl ⟨aC,?_,?_⟩
   .unfold kI;rw[qE,hO,bD sZ,bA aE,hQ,hK,hc];simp
   .unfold kp;rw[qE,hO,bD sZ];simp
 .have hK:ko m e p=(jF m e p-e).toNat:=by unfold jF at hU ⊢;unfold ko;omega
  have hQ:lR m e more p up=oL m e more p up:=by
   unfold lR oL;rw[bA hU,hK];congr 1;cases up<;>cases more<;>simp
  have heK:e+(ko m e p:Int)=jF m e p:=by rw[hK];omega
  have kB:16384<(iB (oL m e more p up):Int)+jF m e p->oL m e more p up≠0:=by
   intro h hz;have rA:m/2^(jF m e p-e).toNat=0:=by
    unfold oL at hz;rw[bA hU]at hz;exact(Nat.add_eq_zero_iff.1 hz).1
   have iK:m<2^(jF m e p-e).toNat:=by
    rcases Nat.div_eq_zero_iff.1 rA with h|h
    .exact absurd h (eR (bL aE))
    .exact h
   have:=mK.2 iK;rw[hz,tE]at h;have uL:=pF h0;unfold jF at h hU this;omega
  have hO:mW m e more p up=decide (16384<(iB (oL m e more p up):Int)+jF m e p):=by
   unfold mW;rw[hQ,show(iB (oL m e more p up):Int)+e+(ko m e p:Int)=(iB (oL m e more p up):Int)+jF m e p by omega];by_cases sZ:16384<(iB (oL m e more p up):Int)+jF m e p
   .simp [kB sZ]
   .simp [sZ]
  by_cases sZ:16384<(iB (oL m e more p up):Int)+jF m e p
  .refine .inr ⟨sZ,?_⟩;unfold kI kp;rw[qE,hO,bC sZ];cases up
   .exact .inr ⟨rfl,rfl,rfl⟩
   .exact .inl ⟨rfl,rfl,rfl⟩
  .refine .inl ⟨aC,?_,?_⟩
   .unfold kI;rw[qE,hO,bD sZ,bA aE,hQ,heK]
   .unfold kp;rw[qE,hO,bD sZ];simp
def SX{m:Nat}{e:Int}{more:Bool}{p:Nat}{up:Bool}(h0:m≠0):iB (oL m e more p up)<=p+1:=by
 unfold oL;split
 .rename_i h;rw[sC h0];unfold jF at h ⊢;omega
 .rename_i h;have h1:m/2^(jF m e p-e).toNat<2^p:=by
   rw[cS (bL aE),<-bK];refine mK.1 ?_;unfold jF at h ⊢;omega
  refine mK.2 ?_;rw[bS];have:0<2^p:=bL aE;split<;>omega
def pY{m k:Nat}(h:iB m<=32*k):(ij m).length<=k:=by
 refine xB ?_;rw[ui];exact mK.1 h
def CT{m k:Nat}(h:(ij m).length<=k):iB m<=32*k:=by
 have:=Hw h;rw[ui]at this;exact mK.2 this
def Te{m n:Nat}(h:iB m<=n):m/2^n=0/\m%2^n=m:=by
 have:=mK.1 h;exact⟨dx this,cH this⟩
def WR(m n:Nat):(lp (m/2^n*2^n) m != 0)=decide (m%2^n≠0):=by
 have h:=c9 m (2^n);rw[bT]at h;unfold lp;by_cases h0:m%2^n=0
 .rw [bA aC,bA aC];simp[h0]
 .rw [bB aC];simp[h0]
def S3(neg:Bool)(m:Nat)(e:Int)(more:Bool)(p:Nat)(up:Bool):
 kp neg m e more p up=kp false m e more p (up != neg) /\
 (kp false m e more p (up != neg)=0->neg=true->iO (kI false m e more p (up != neg))=kI neg m e more p up) /\
 ((kp false m e more p (up != neg)≠0\/neg=false)->kI false m e more p (up != neg)=kI neg m e more p up):=by
 have qE:(false != (up != neg))=(neg != up):=by cases up<;>cases neg<;>rfl
 have hE:kp neg m e more p up=kp false m e more p (up != neg):=by unfold kp;rw[qE]
 refine⟨hE,λh hn=>?_,λh=>?_⟩
 .have h':=Gl.1 h;rw[qE]at h';have neg_canon:∀ q u,iO (canon false q u)=canon true q u:=by
   intro q u;unfold canon iO;by_cases hq:q=0
   .simp [hq]
   .rw [bA hq,bA hq];have:=Fy hq;have h0:q/2^kn q≠0:= aC ;simp[h0]
  subst hn;unfold kI;rw[qE];by_cases ho:mW m e more p (true != up)=true
  .have hu:(true != up)=false:=by
    cases hq:(true != up)with
    |false=>rfl
    |true=>exact absurd ⟨ho,hq⟩ h'
   rw[bB ho,bB ho,hu];simp only[bR,bI];exact neg_canon _ _
  .rw [bA ho,bA ho];exact neg_canon _ _
 .rcases h with h|h
  .have h1:mW m e more p (neg != up)=true/\(neg != up)=true:=by
    by_cases q:mW m e more p (neg != up)=true/\(neg != up)=true
    .exact q
    .exact absurd (Gl.2 (by rw[qE];exact q)) h
   unfold kI;rw[qE,bB h1.1,bB h1.2,bB h1.1,bB h1.2]
  .subst h;cases up<;>rfl
def jI(a b:Dy)(p:Nat):Int:=if a.iI-b.iI<=2 then min (min a.e (a.iI-p-8)) b.e else min a.e (a.iI-p-8)
def oX(a b:Dy)(p:Nat):Nat:=a.m*2^(a.e-jI a b p).toNat
def nD(a b:Dy)(p:Nat):Nat:=nE b (jI a b p)+if(a.neg != b.neg&&oG b (jI a b p))=true then 1 else 0
def qv(a b:Dy)(p:Nat):Bool:=(a.neg != b.neg)&&decide (oX a b p<nD a b p)
def mH(a b:Dy)(p:Nat):Nat:=if a.neg=b.neg then oX a b p+nD a b p else if oX a b p<nD a b p then nD a b p-oX a b p else oX a b p-nD a b p
def od(a b:Dy)(p:Nat):Bool:=oG b (jI a b p) && !qv a b p
def Qw(a b:Dy)(p:Nat):jI a b p<=a.e/\jI a b p<=a.iI-p-8/\(jI a b p<=b.e\/3<=a.iI-b.iI):=by
 unfold jI;split<;>omega
def IY{a:Dy}(a0:a.m≠0):a.iI=iB a.m+a.e:=by unfold Dy.iI;rw[bA a0]
structure abf(a b:Dy)(p:Nat):Prop where
 lo:-17000<=jI a b p
 hi:jI a b p<=16384
 x:iB (oX a b p)<=4100
 x0:oX a b p≠0
 sh:(a.e-jI a b p).toNat<=60000
 sh2:(b.e-jI a b p).toNat<=60000
 sh3:(jI a b p-b.e).toNat<=60000
 y:iB (nE b (jI a b p))<=4100
 l:oG b (jI a b p)=true->p+8<=iB (oX a b p)/\iB (nE b (jI a b p))+3<=iB (oX a b p)
def LS{a b:Dy}{p:Nat}(ha:a.ix)(hb:b.ix)(a0:a.m≠0)(b0:b.m≠0)(ht:b.iI<=a.iI)(im:p<=512):abf a b p:=by
 have ra:=ha.range.resolve_left a0;have rb:=hb.range.resolve_left b0;have ta:=IY a0;have tb:=IY b0;obtain⟨h1,h2,h3⟩:=Qw a b p;have hx:iB (oX a b p)=iB a.m+(a.e-jI a b p).toNat:=sC a0 _;have E3:jI a b p=a.e\/jI a b p=a.iI-p-8\/(a.iI-b.iI<=2/\jI a b p=b.e):=by unfold jI;split<;>omega
 have hy:iB (nE b (jI a b p))<=iB (oX a b p):=by
  unfold nE;split
  .rw [sC b0];omega
  .have:iB (b.m/2^(jI a b p-b.e).toNat)<=iB b.m-(jI a b p-b.e).toNat:=by
    rw[mK,cS (bL aE),<-bK];exact mK.1 aC 
   omega
 have pa:=pF a0;have pb:=pF b0;refine⟨aC,aC,aC,?_,aC,aC,aC,aC,λhl=>?_⟩
 .intro h;unfold oX at h;exact(dY a0 (eR (bL aE))) h
 .obtain ⟨K,d,k1,k2,k3,k4,k5,k6,k7⟩:=QD (p:=p) a0 b0 h1 h2 h3;rcases k7 with rfl|⟨k7,k8⟩
  .rw [k6]at hl;simp[dZ]at hl
  .rw [k5];exact⟨k7,k8⟩
def QZ{a b:Dy}{p:Nat}(ha:a.ix)(hb:b.ix)(a0:a.m≠0)(b0:b.m≠0)(ht:b.iI<=a.iI)(im:p<=512):
 iB (nD a b p)<=4101/\iB (mH a b p)<=4102/\(od a b p=true->p<iB (mH a b p)):=by
 obtain⟨l1,l2,l3,l4,l5,l6,l7,l8,l9⟩:=LS ha hb a0 b0 ht im;have hy:nD a b p<=nE b (jI a b p)+1:=by unfold nD;split<;>omega
 obtain⟨K,hK⟩:∃ K:Nat,K=4100:=⟨_,rfl⟩
 have g1:4101=K+1:= aC ;have g2:4102=K+2:= aC ;rw[g1,g2];rw[<-hK]at l3 l8;have hy4:nE b (jI a b p)<2^K:=mK.1 l8;have xv:oX a b p<2^K:=mK.1 l3;have e1:(2:Nat)^(K+1)=2*2^K:=by rw[bS];omega
 have e2:(2:Nat)^(K+2)=4*2^K:=by rw[bK];omega
 generalize (2:Nat)^K=Z at *
 refine⟨mK.2 aC,mK.2 ?_,λhl=>?_⟩
 .unfold mH;split
  .omega
  .split<;>omega
 .unfold od at hl;simp only[bQ,eB]at hl;obtain⟨q1,q2⟩:=l9 hl.1;have hX:2^(iB (oX a b p)-1)<=oX a b p:=vP l4;rw[yH];have hY:nE b (jI a b p)<2^(iB (oX a b p)-3):=mK.1 aC;have e3:(2:Nat)^(iB (oX a b p)-1)=4*2^(iB (oX a b p)-3):=by
   rw[(aC:iB (oX a b p)-1=(iB (oX a b p)-3)+2),bK];omega
  have hp:(2:Nat)^p<=2^(iB (oX a b p)-3):=b5 aE aC;unfold mH;split
  .omega
  .rename_i hs;unfold qv at hl;rw[bA (by
    have:=hl.2;simp[hs]at this;omega)]
   omega
def aab{a b:Dy}{p:Nat}(ha:a.ix)(hb:b.ix)(a0:a.m≠0)(b0:b.m≠0)(up:Bool):
 (mH a b p=0/\od a b p=false->iH a b=iS) /\
 (¬(mH a b p=0/\od a b p=false)->kI (a.neg != qv a b p) (mH a b p) (jI a b p) (od a b p) p up=iM (iH a b) p up/\kp (a.neg != qv a b p) (mH a b p) (jI a b p) (od a b p) p up=jY (iH a b) p up):=by
 obtain⟨h1,h2,h3⟩:=Qw a b p;by_cases hs:a.neg=b.neg
 .have hn:(a.neg != b.neg)=false:=by rw[hs];simp
  have e1:qv a b p=false:=by unfold qv;rw[hn];rfl
  have e2:od a b p=oG b (jI a b p):=by unfold od;rw[e1];simp
  have e3:mH a b p=a.m*2^(a.e-jI a b p).toNat+nE b (jI a b p):=by unfold mH;rw[bB hs];unfold oX nD;rw[hn];simp
  have hx:mH a b p≠0:=by
   rw[e3];have:=dY a0 (eR (bL (n:=(a.e-jI a b p).toNat) (show 0<2 by decide)));omega
  refine⟨λh=>absurd h.1 hx,λ_=>?_⟩;rw[e1,e2,e3];have:=alL ha.canon hb.canon a0 b0 h1 h2 h3 hs up;cases hA:a.neg<;>rw[hA]at this<;>exact this
 .have hn:(a.neg != b.neg)=true:=by simpa using hs
  have eY:nD a b p=nE b (jI a b p)+if oG b (jI a b p)=true then 1 else 0:=by unfold nD;rw[hn];simp
  obtain⟨r1,r2⟩:=alK (p:=p) ha.canon hb.canon a0 b0 h1 h2 h3 hs up;rw[<-eY]at r1 r2;change oX a b p<nD a b p->_ at r1;change nD a b p<=oX a b p->_ at r2;by_cases hc:oX a b p<nD a b p
  .have e1:qv a b p=true:=by unfold qv;rw[hn,bC hc];rfl
   have e2:od a b p=false:=by unfold od;rw[e1];simp
   have e3:mH a b p=nD a b p-oX a b p:=by unfold mH;rw[bA hs,bB hc]
   rw[e1,e2,e3];refine⟨λh=> aC,λ_=>?_⟩;have:=r1 hc;cases hA:a.neg<;>rw[hA]at this<;>exact this
  .have e1:qv a b p=false:=by unfold qv;rw[hn,bD hc];rfl
   have e2:od a b p=oG b (jI a b p):=by unfold od;rw[e1];simp
   have e3:mH a b p=oX a b p-nD a b p:=by unfold mH;rw[bA hs,bA hc]
   rw[e1,e2,e3];obtain⟨q1,q2⟩:=r2 aC;refine⟨q1,λh=>?_⟩;have:=q2 h;cases hA:a.neg<;>rw[hA]at this<;>exact this
end Go.Proofs.YtgdahmmlddfimaaGreatDoor.Fp
namespace Go.Proofs.YtgdahmmlddfimaaGreatDoor
open Go.RowKit Fp
def acm(a b:Nat):iB (a*b)<=iB a+iB b:=by
 rw[mK,bK];exact Nat.mul_lt_mul'' (tv a) (tv b)
def ald(a:Dy)(A:Option Addr)(c:Nat)(w:World)(h:Sl w A c (ij a.m))(ha:a.ix):
 Calls prog 74 #[DV a A c] w λe w'=>e = .returned (.bool true)/\iV w w':=
 Lm a.neg A c (ij a.m) a.e w true h (by have:=ha.exp;omega) (by have:=ha.exp;omega) (by simp[ha.xf])
def ak9(a:Dy)(A:Option Addr)(c:Nat)(w:World)(h:Sl w A c (ij a.m)):
 Calls prog 157 #[DV a A c] w λe w'=>e = .returned (.int .i64 a.jq)/\iV w w':=by
 have:=ak8 a.neg A c (ij a.m) a.e w h (wW _);rw[kP]at this;exact this
def alc(a:Dy)(A:Option Addr)(c:Nat)(w:World)(h:Sl w A c (ij a.m))(ha:Bq a):
 Calls prog 158 #[DV a A c] w λe w'=>e = .returned (.int .i64 a.iI)/\iV w w':=by
 have:=alb a.neg A c (ij a.m) a.e w h (wW _) (by have:=ha.len;omega) (by have:=ha.lo;omega) (by have:=ha.hi;omega);rw[kP]at this;exact this
def adx(d:Dy)(A:Option Addr)(c:Nat)(w:World)(hs:Sl w A c (ij d.m))(hl:(ij d.m).length<=100000000)(mP:-10000000<=d.e)(lZ:d.e<=10000000):
 Calls prog 222 #[DV d A c] w (Ae w (sS d) (vc d)):=by
 by_cases hd:oR d
 .rw [MY hd,SD hd];exact SC d A c w hs hl mP lZ hd
 .rw [SE hd,adz hd];exact ady d A c w hs hl mP lZ hd
def Sx(s:Bool)(m:Nat)(e:Int)(A:Option Addr)(c:Nat)(w:World)(hs:Sl w A c (ij m))(hl:(ij m).length<=256)(mP:-1000000<=e)(lZ:e<=1000000)(vh:Tb w):
 Calls prog 219 #[.bool s,.slice A (ij m).length c,.int .i64 e] w (yW w (canon s m e)):=by
 have:=JG s A c (ij m) e w hs aC (by have:=qw (ij m);unfold np at this;omega) mP lZ vh;rw[kP]at this;exact this
def XE{m:Nat}(h:m=0):(((ij m).length:Int)==0)=true:=by rw[h,oV];rfl
def aj7{m:Nat}(h:m≠0):(((ij m).length:Int)==0)=false:=by
 refine bk ?_;have:ij m≠[]:=λe=>h (WD.1 e)
 have:=fh.2 this;omega
def aoU(a b:Dy)(A B:Option Addr)(c d:Nat)(w:World)(_hs:Sl w A c (ij a.m))(hr:Sl w B d (ij b.m))(vh:Tb w)(hb:b.ix)(h0:a.m=0):
 Calls prog 164 #[DV a A c,DV b B d] w (Ae w (sS (iH a b)) (vc (iH a b))):=by
 have Fc:iH a b=b:=by unfold iH;rw[bB h0]
 rw[Fc,MY hb.range,SD hb.range];have hl:=hb.len;obtain⟨mP,lZ⟩:=hb.exp;have HC:=aqi (λw (h:Sl w B d (ij b.m)) (ht:Tb w)=>Sx b.neg b.m b.e B d w h hl aC aC ht);rw[hb.canon.Jw]at HC;have n0:=XE h0;clear Fc h0;have hE:=((iV.alloc w (.cells #[.bool b.neg,.slice B ((ij b.m).length) d,.int .i64 b.e] 31)).trans (iV.alloc (w.alloc (.cells #[.bool b.neg,.slice B ((ij b.m).length) d,.int .i64 b.e] 31)) (.cells #[.bool b.neg,.slice B ((ij b.m).length) d,.int .i64 b.e] 31))).trans (iV.alloc ((w.alloc (.cells #[.bool b.neg,.slice B ((ij b.m).length) d,.int .i64 b.e] 31)).alloc (.cells #[.bool b.neg,.slice B ((ij b.m).length) d,.int .i64 b.e] 31)) (.cells #[.bool false,.slice none 0 0,.int .i64 0] 31));have b1:=((j8.vG (W:=w) (g:=w.heap.size) aH b.neg B ((ij b.m).length) d b.e).alloc (.cells #[.bool b.neg,.slice B ((ij b.m).length) d,.int .i64 b.e] 31)).alloc (.cells #[.bool false,.slice none 0 0,.int .i64 0] 31);have b2:=(j8.vG (W:=(w.alloc (.cells #[.bool b.neg,.slice B ((ij b.m).length) d,.int .i64 b.e] 31))) (g:=w.heap.size+1) aH b.neg B ((ij b.m).length) d b.e).alloc (.cells #[.bool false,.slice none 0 0,.int .i64 0] 31);have b3:=j8.vG (W:=((w.alloc (.cells #[.bool b.neg,.slice B ((ij b.m).length) d,.int .i64 b.e] 31)).alloc (.cells #[.bool b.neg,.slice B ((ij b.m).length) d,.int .i64 b.e] 31))) (g:=w.heap.size+2) aH false none 0 0 0;replace hr:=hr.below hE;replace vh:=vh.below hE;go_enter func164,ntmps164;go_wp2_with fail
 (with_reducible refine(HC.out _ hr vh).mono ?_)
 rintro r w1 ⟨A_h4,c_h4,rfl,h4,hb⟩;replace hE:=hE.trans hb;replace hr:=hr.below hb;replace vh:=vh.below hb;replace b1:=b1.ext hb;replace b2:=b2.ext hb;replace b3:=b3.ext hb;clear hb;have apo:=b3.c0;have yb30:=b3.fr 0;have apq:=b3.c1;have yb31:=b3.fr 1;have apr:=b3.c2;have yb32:=b3.fr 2;go_wp2;exact EI (d:=b) rfl rfl rfl rfl (b3.set _ _ _ _ _) rfl (b3.wS h4 _ _ _ _ _) (j8.vL hE aC _ _ _ _ _)
def aes(a:Dy)(A:Option Addr)(c:Nat)(w:World)(h:Sl w A c (ij a.m))(ha:a.ix):
 Calls prog 185 #[DV a A c] w λe w'=>e = .returned (.int .i64 a.iI)/\iV w w':=by
 have:=Ni a.neg A c (ij a.m) a.e w h ha.xf;rw[kP]at this;exact this
set_option maxRecDepth 100000 in
set_option maxHeartbeats 8000000 in
def aeq(a : Dy)(A : Option Addr)(c : Nat)(w : World)(hs : Sl w A c (ij a.m))(ha : a.ix):
    Calls prog 137 #[DV a A c] w (yW w (iO a)) := by
  have HV := aqi (λw (h : Sl w A c (ij a.m)) => Tn a A c w h ha);have hl := ha.len;by_cases h0 : a.m=0
  . have hz : Hid (iO a=iS) := by
      show iO a=iS;obtain⟨s,m,e⟩ := a;rcases ha.canon with⟨h1,h2,h3⟩|h1
      . simp only at h1 h2 h3;subst h1 h2 h3;rfl
      . simp only at h0 h1;omega
    have n0 := XE h0;clear h0;have hE := (iV.alloc w (.cells #[.bool a.neg,.slice A ((ij a.m).length) c,.int .i64 a.e] 31)).trans (iV.alloc (w.alloc (.cells #[.bool a.neg,.slice A ((ij a.m).length) c,.int .i64 a.e] 31)) (.cells #[.bool false,.slice none 0 0,.int .i64 0] 31));have b1 := (j8.vG (W := w) (g := w.heap.size) aH a.neg A ((ij a.m).length) c a.e).alloc (.cells #[.bool false,.slice none 0 0,.int .i64 0] 31);have b2 := j8.vG (W := (w.alloc (.cells #[.bool a.neg,.slice A ((ij a.m).length) c,.int .i64 a.e] 31))) (g := w.heap.size+1) aH false none 0 0 0;replace hs := hs.below hE;go_enter func137,ntmps137;go_wp2_with fail
    (with_reducible refine(HV.out _ hs).mono ?_)
    rintro r w1 ⟨rfl,hb⟩;replace hE := hE.trans hb;replace hs := hs.below hb;replace b1 := b1.ext hb;replace b2 := b2.ext hb;clear hb;have Mf := b1.c0;have Mg := b1.c1;have Mh := b1.c2;have apl := b2.c0;have yb20 := b2.fr 0;have apm := b2.c1;have yb21 := b2.fr 1;have apn := b2.c2;have yb22 := b2.fr 2;go_wp2;rw[hz.out];exact vY (d := iS) rfl rfl rfl (b2.set _ _ _ _ _) (by rw[show iS.m=0 from rfl,oV];rfl) (by rw[show iS.m=0 from rfl,oV];exact Sl.nil _) (j8.vL hE aC _ _ _ _ _)
  . have n0 := aj7 h0
    have HN := aqi (show iO a=⟨!a.neg,a.m,a.e⟩by unfold iO;simp[h0]);have HC := aqi (λw (h : Sl w A c (ij a.m)) => M1 A c (ij a.m) w h aC);clear h0;have hE := (iV.alloc w (.cells #[.bool a.neg,.slice A ((ij a.m).length) c,.int .i64 a.e] 31)).trans (iV.alloc (w.alloc (.cells #[.bool a.neg,.slice A ((ij a.m).length) c,.int .i64 a.e] 31)) (.cells #[.bool false,.slice none 0 0,.int .i64 0] 31));have b1 := (j8.vG (W := w) (g := w.heap.size) aH a.neg A ((ij a.m).length) c a.e).alloc (.cells #[.bool false,.slice none 0 0,.int .i64 0] 31);have b2 := j8.vG (W := (w.alloc (.cells #[.bool a.neg,.slice A ((ij a.m).length) c,.int .i64 a.e] 31))) (g := w.heap.size+1) aH false none 0 0 0;replace hs := hs.below hE;go_enter func137,ntmps137;go_wp2_with fail
    (with_reducible refine(HV.out _ hs).mono ?_)
    rintro r w1 ⟨rfl,hb⟩;replace hE := hE.trans hb;replace hs := hs.below hb;replace b1 := b1.ext hb;replace b2 := b2.ext hb;clear hb;have Mf := b1.c0;have Mg := b1.c1;have Mh := b1.c2;clear Mf Mg Mh;have Mf := b1.c0;have Mg := b1.c1;have Mh := b1.c2;go_wp2_with fail;clear Mf Mg Mh;replace hs := hs.drew;replace b1 := b1.drew;replace b2 := b2.drew;replace hE := hE.trans (iV.drew _);go_region_held3 (λw' => w'.cell? ⟨w.heap.size,0,none⟩=some (.bool a.neg)/\w'.cell? ⟨w.heap.size,1,none⟩=some (.slice A ((ij a.m).length) c)/\w'.cell? ⟨w.heap.size,2,none⟩=some (.int .i64 a.e))
      (first|with_reducible exact⟨(b1).c0,(b1).c1,(b1).c2⟩|with_reducible exact⟨(b1.ext mr).c0,(b1.ext mr).c1,(b1.ext mr).c2⟩|with_reducible exact⟨((b1.ext mr).ND (g' := w.heap.size+1) aC _ _ _).c0,((b1.ext mr).ND (g' := w.heap.size+1) aC _ _ _).c1,((b1.ext mr).ND (g' := w.heap.size+1) aC _ _ _).c2⟩)
      (first
        | (go_at_call 204
           (with_reducible refine(HC.out _ hs).mono ?_)
           rintro r wx0 ⟨A_h4,c_h4,rfl,h4,mr⟩;have bz := b2.ext mr;have z0 := bz.c0;have z1 := bz.c1;have z2 := bz.c2;have y0 := bz.fr 0;have y1 := bz.fr 1;have y2 := bz.fr 2))
    replace hE := hE.trans mr;replace hs := hs.below mr;replace b1 := b1.ext mr;replace b2 := b2.ext mr;go_wp2;rw[HN.out];exact vY (d := ⟨!a.neg,a.m,a.e⟩) rfl rfl rfl (bz.set _ _ _ _ _) rfl (bz.wS h4 _ _ _ _ _) (j8.vL hE aC _ _ _ _ _)
open Pu
section
variable {f:FuncId} {L M:List Nat} {kt:E}
def Iq(hk:iZ L)(hc:∀ (vs:Array Value) (w:World),(callFunc f vs).run prog w = .ok (.enter f vs) w)
 {R:Option Addr->Nat->World->Ending->World->Prop} (H:∀ A c w,Sl w A c L->Tb w->Calls prog f #[.slice A L.length c] w (R A c w))
 (hR:∀ (A:Option Addr) (c:Nat) (B:Nat->Prop) w e w',Sl w A c L->(∀ b,B b->b<w.heap.size/\pD w b)->R A c w e w'->∃ v,e = .returned v/\Below w.heap.size w w'/\iQ B (λ_=>True) w' kt v):ie f [ik L] kt:=by
 refine⟨hc,λw B vs hK hB hr=>?_⟩;obtain⟨v1,vs,rfl,h1,hr⟩:=hr.ni;obtain rfl:=hr.rS;obtain⟨A,c,rfl,s1⟩:=yQ hk h1;exact(H A c w s1 hK).mono λe w' h=>hR A c B w e w' s1 hB h
def Ir(hk:iZ L){n:Int}(hc:∀ (vs:Array Value) (w:World),(callFunc f vs).run prog w = .ok (.enter f vs) w)
 {R:Option Addr->Nat->World->Ending->World->Prop} (H:∀ A c w,Sl w A c L->Tb w->Calls prog f #[.slice A L.length c,.int .i64 n] w (R A c w))
 (hR:∀ (A:Option Addr) (c:Nat) (B:Nat->Prop) w e w',Sl w A c L->(∀ b,B b->b<w.heap.size/\pD w b)->R A c w e w'->∃ v,e = .returned v/\Below w.heap.size w w'/\iQ B (λ_=>True) w' kt v):ie f [ik L,iP n] kt:=by
 refine⟨hc,λw B vs hK hB hr=>?_⟩;obtain⟨v1,vs,rfl,h1,hr⟩:=hr.ni;obtain⟨v2,vs,rfl,h2,hr⟩:=hr.ni;obtain rfl:=hr.rS;obtain rfl:=iQ.kX h2;obtain⟨A,c,rfl,s1⟩:=yQ hk h1;exact(H A c w s1 hK).mono λe w' h=>hR A c B w e w' s1 hB h
def Cn(hk:iZ L)(hm:iZ M)(hc:∀ (vs:Array Value) (w:World),(callFunc f vs).run prog w = .ok (.enter f vs) w)
 {R:World->Ending->World->Prop} (H:∀ A c B d w,Sl w A c L->Sl w B d M->Tb w->Calls prog f #[.slice A L.length c,.slice B M.length d] w (R w))
 (hR:∀ (B:Nat->Prop) w e w',(∀ b,B b->b<w.heap.size/\pD w b)->R w e w'->∃ v,e = .returned v/\Below w.heap.size w w'/\iQ B (λ_=>True) w' kt v):ie f [ik L,ik M] kt:=by
 refine⟨hc,λw B vs hK hB hr=>?_⟩;obtain⟨v1,vs,rfl,h1,hr⟩:=hr.ni;obtain⟨v2,vs,rfl,h2,hr⟩:=hr.ni;obtain rfl:=hr.rS;obtain⟨A,c,rfl,s1⟩:=yQ hk h1;obtain⟨A',d,rfl,s2⟩:=yQ hm h2;exact(H A c A' d w s1 s2 hK).mono λe w' h=>hR B w e w' hB h
end
def IE{L:List Nat}{n:Int}(B:Nat->Prop)(w:World)(e:Ending)(w':World)(hB:∀ b,B b->b<w.heap.size/\pD w b)(h:Ek w L n e w'):∃ v,e = .returned v/\Below w.heap.size w w'/\iQ B (λ_=>True) w' (.iE [ik L,iP n]) v:=
 let⟨_,_,h1,h2,h3⟩:=h
 ⟨_,h1,h3,kJ.iE (.cons (CE hB h3 h2) (.cons (.v _) (.nil _ _ _)))⟩
def rl{L:List Nat}(B:Nat->Prop)(w:World)(e:Ending)(w':World)(hB:∀ b,B b->b<w.heap.size/\pD w b)(h:vU w L e w'):∃ v,e = .returned v/\Below w.heap.size w w'/\iQ B (λ_=>True) w' (ik L) v:=
 let⟨_,_,h1,h2,h3⟩:=h
 ⟨_,h1,h3,CE hB h3 h2⟩
def vF(L:List Nat)(hk:iZ L):ie 263 [ik L] (ik (iT L)):=
 Iq hk call263 (λA c w h _=>wL A c L w h) λA c B w e w' h hB ⟨h1,h2⟩=>by subst h2;exact⟨_,h1,Below.refl _ _,CE hB (Below.refl _ _) h.vO⟩
def Xi(L:List Nat)(hk:iZ L)(hl:(iT L).length<=256):ie 231 [ik L] (.iE [ik (iT L),iP 0]):=
 Iq hk call231 (λA c w h _=>Ie A c L w h hl) λA c B w e w' h hB r=>IE B w e w' hB r
def aiV(L:List Nat)(hk:iZ L)(hl:L.length<=100000):ie 265 [ik L] (iP (iB (val L))):=
 Iq hk call265 (λA c w h _=>Xh A c L w h aC) λA c B w e w' h hB ⟨h1,h2⟩=>by subst h2;exact⟨_,h1,Below.refl _ _,.v _⟩
def PG(L M:List Nat)(hk:iZ L)(hm:iZ M)(hl:L.length<=100000)(o9:M.length<=100000):ie 223 [ik L,ik M] (iP (lp (val L) (val M))):=
 Cn hk hm call223 (λA c B d w h k _=>KO A B c d L M w h k aC aC) rv
def Xo(m n:Nat)(hl:(ij m).length<=256)(hn:n<=65536)(hf:(ij (m*2^n)).length<=256):ie 261 [ik (ij m),iP (n:Int)] (.iE [ik (ij (m*2^n)),iP 0]):=
 Ir (mQ m) call261 (λA c w h _=>Xn A c (ij m) n w h hl hn (by rw[kP];exact hf)) λA c B w e w' h hB r=>by rw[kP]at r;exact IE B w e w' hB r
def PJ(m n:Nat)(hl:(ij m).length<=256)(hn:n<=65536):ie 175 [ik (ij m),iP (n:Int)] (.iE [ik (ij (m/2^n)),iP 0]):=
 Ir (mQ m) call175 (λA c w h _=>Xq A c (ij m) n w h hl hn) λA c B w e w' h hB r=>by rw[kP]at r;exact IE B w e w' hB r
def KN(m n:Nat)(h1:(ij m).length<=256)(h2:(ij n).length<=256)(hf:(ij (m+n)).length<=256):ie 221 [ik (ij m),ik (ij n)] (.iE [ik (ij (m+n)),iP 0]):=by
 refine Cn (mQ m) (mQ n) call221 (λA c B d w h k _=>aiU A B c d (ij m) (ij n) w h k h1 h2 (by rw[kP,kP];exact hf)) ?_;rw[kP,kP];exact IE
def Ig(m n:Nat)(h1:(ij m).length<=256)(h2:(ij n).length<=256)(hf:n<=m):ie 224 [ik (ij m),ik (ij n)] (.iE [ik (ij (m-n)),iP 0]):=by
 refine Cn (mQ m) (mQ n) call224 (λA c B d w h k _=>ai6 A B c d (ij m) (ij n) w h k h1 h2 (by rw[kP,kP];exact hf)) ?_;rw[kP,kP];exact IE
def ue(m:Nat)(hl:(ij m).length<=100000):ie 265 [ik (ij m)] (iP (iB m)):=by
 have:=aiV (ij m) (mQ m) hl;rwa[kP]at this
def AW(m n:Nat)(hl:(ij m).length<=100000)(o9:(ij n).length<=100000):ie 223 [ik (ij m),ik (ij n)] (iP (lp m n)):=by
 have:=PG (ij m) (ij n) (mQ m) (mQ n) hl o9;rwa[kP,kP]at this
def ve(a:Dy)(ha:a.ix):ie 137 [iz a] (iz (iO a)):=zT call137 (λA c w h _=>aeq a A c w h ha) rd
def pU(a:Dy)(ha:a.ix):ie 185 [iz a] (iP a.iI):=zT call185 (λA c w h _=>aes a A c w h ha) rv
def CZ(s:Bool)(m:Nat)(e:Int)(hl:(ij m).length<=256)(mP:-32768<=e)(lZ:e<=32768)(hd:oR (canon s m e)):ie 176 [bP s,ik (ij m),iP e] (.iE [iz (canon s m e),iP 0]):=by
 refine⟨call176,λw B vs hK hB hr=>?_⟩;obtain⟨v1,vs,rfl,h1,hr⟩:=hr.ni;obtain⟨v2,vs,rfl,h2,hr⟩:=hr.ni;obtain⟨v3,vs,rfl,h3,hr⟩:=hr.ni;obtain rfl:=hr.rS;obtain rfl:=iQ.kX h1;obtain rfl:=iQ.kX h3;obtain⟨A,c,rfl,s1⟩:=yQ (mQ m) h2;have:=aiG s A c (ij m) e w s1 hl mP lZ hK (by rw[kP];exact hd);rw[kP]at this;exact this.mono λe w' h=>Ql B w e w' hB h
def zQ:E.le (.sl false 1 1 λi j=>[E.v (.int .u32 1)].getD (i*1+j) (.v (.bool false))) (ik (ij 1)):=by
 have e1:ij 1=[1]:=by rw[Fs aE,show 1/4294967296=0 by decide,oV]
 rw[e1];refine .sl λi j hi hj=>?_
 obtain rfl:i=0:= aC ;obtain rfl:j=0:= aC ;exact⟨.refl _,rfl⟩
def jg(d:Dy):List E:=[bP d.neg,ik (ij d.m),iP d.e]
def oD(l:List Dy):E:=.sl true l.length 3 λi j=>(jg (l.getD i iS)).getD j .any
def Nk(a:Dy):E.le (.sl true 1 3 λi j=>[bP a.neg,ik (ij a.m),iP a.e].getD (i*3+j) (.v (.bool false))) (oD [a]):=.sl λi j hi hj=>by
 obtain rfl:i=0:= aC ;rcases j with _|_|_|j
 .exact ⟨.refl _,rfl⟩
 .exact ⟨.refl _,rfl⟩
 .exact ⟨.refl _,rfl⟩
 .omega
def xX(a b:Dy):E.le (.sl true 2 3 λi j=>[bP a.neg,ik (ij a.m),iP a.e,bP b.neg,ik (ij b.m),iP b.e].getD (i*3+j) (.v (.bool false))) (oD [a,b]):=.sl λi j hi hj=>by
 obtain rfl|rfl:i=0\/i=1:= aC 
 all_goals
  rcases j with _|_|_|j
  .exact ⟨.refl _,rfl⟩
  .exact ⟨.refl _,rfl⟩
  .exact ⟨.refl _,rfl⟩
  .omega
def qa{n:Nat}(h:n≠0):((n:Int)==0)=false:= aN 
def wM{n:Nat}(h:n=0):((n:Int)==0)=true:=by subst h;rfl
def Xl{n:Nat}(h:n=0):((n:Int) != 0)=false:=by subst h;rfl
def Xm{n:Nat}(h:n≠0):((n:Int) != 0)=true:= aN 
def vz{m:Nat}:(ij m).length=0↔m=0:=by rw[apZ,WD]
def rP{m:Nat}(h:m≠0):(ij m).length≠0:=λq=>h (vz.1 q)
def Fp.Dy.ix.ij{d:Dy}(h:d.ix):(ij d.m).length<=256:=by have:=h.len;omega
end Go.Proofs.YtgdahmmlddfimaaGreatDoor
