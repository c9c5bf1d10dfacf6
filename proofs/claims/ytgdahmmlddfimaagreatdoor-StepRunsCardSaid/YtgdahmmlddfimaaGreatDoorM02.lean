/- Lemmas that the last file uses. -/
import Derived.Test.YtgdahmmlddfimaaGreatDoorM01
import Derived.Deep.DeepCutAuto
set_option linter.unusedSimpArgs false
set_option linter.unusedVariables false
set_option linter.defProp false
set_option maxHeartbeats 4000000
open Go.Proofs.Tryz
namespace Go.Proofs.YtgdahmmlddfimaaGreatDoor.Pu
open Go.RowKit
section
variable {P:Program} {K:World->Prop} {T:List TI} {O:qu} {σ τ:PS} {o:Oper} {u:kq}
def aiA{x:Operand}(h:∀ t,x = .tmp t->σ.get t=τ.get t):τ.op x=σ.op x:=by
 cases x with
 |tmp t=>exact(h t rfl).symm
 |_=>rfl
def ajC{id off m:Nat}{l:List E}{is:List Nat}{jB:List Prop}(h:σ.read (.box id off) m=some (l,is,jB)):is=[id]:=by
 simp only[PS.read]at h;split at h
 .split at h
  .simp only[bA,bI]at h;exact h.2.1.symm
  .cases h
 .split at h
  .obtain ⟨es,F4,h⟩:=bT.1 h;simp only[bI]at h;exact h.2.1.symm
  .cases h
 .cases h
def ahz{ti:TI}{l:List E}{is:List Nat}{jB:List Prop}(h:Bk ti (some (l,is,jB))=some u):u.rb=is:=by
 simp only[Bk]at h;split at h
 .cases h;rfl
 .split at h
  .cases h;rfl
  .cases h
def adP{ti:TI}{bi bq:Option Bx}{id off q:Nat}(h:DM ti bi bq id off q=some u):u.rb=[id,q]:=by
 unfold DM at h;split at h
 .rename_i hM;cases h;unfold I6 at hM;split at hM
  .split at hM
   .cases hM;rfl
   .cases hM
  .cases hM
 .unfold I5 at h;split at h
  .split at h
   .cases h;rfl
   .cases h
  .cases h
def ajD{p:PV}{m:Nat}{l:List E}{is:List Nat}{jB:List Prop}(h:σ.read p m=some (l,is,jB))(hb:∀ id,id ∈ is->σ.bo id=τ.bo id):τ.read p m=some (l,is,jB):=by
 cases p with
 |box id off=>
  have h0:=h;simp only[PS.read]at h;split at h
  .split at h
   .simp only[bA,bI]at h;obtain⟨_,rfl,_⟩:=h;simp only[PS.read,<-hb id aH];exact h0
   .cases h
  .split at h
   .obtain ⟨es,F4,h⟩:=bT.1 h;simp only[bI]at h;obtain⟨_,rfl,_⟩:=h;simp only[PS.read,<-hb id aH];exact h0
   .cases h
  .cases h
 |nm id sz i j=>
  have h0:=h;simp only[PS.read]at h;split at h
  .split at h
   .simp only[bA,bI]at h;obtain⟨_,rfl,_⟩:=h;simp only[PS.read,<-hb id aH];exact h0
   .cases h
  .cases h
 |qQ id sz k i j=>
  have h0:=h;simp only[PS.read]at h;split at h
  .split at h
   .simp only[bA,bI]at h;obtain⟨_,rfl,_⟩:=h;simp only[PS.read,<-hb id aH];exact h0
   .cases h
  .cases h
 |e x=>cases x<;>exact h
 |_=>exact h
def acF{c:CV}{e:E}{is:List Nat}(h:c.ext σ=some (e,is))(hb:∀ id,id ∈ is->σ.bo id=τ.bo id):c.ext τ=some (e,is):=by
 cases c with
 |e x=>exact h
 |box id=>
  have h0:=h;simp only[CV.ext]at h;split at h
  .simp only[bA,bI]at h;obtain⟨_,rfl⟩:=h;simp only[CV.ext,<-hb id aH];exact h0
  .cases h
 |row id=>
  have h0:=h;simp only[CV.ext]at h;split at h
  .split at h
   .simp only[bA,bI]at h;obtain⟨_,rfl⟩:=h;simp only[CV.ext,<-hb id aH];exact h0
   .cases h
  .cases h
def SP{l:List CV}{es:List E}{is:List Nat}(h:uL σ l=some (es,is))(hb:∀ id,id ∈ is->σ.bo id=τ.bo id):uL τ l=some (es,is):=by
 induction l generalizing es is with
 |nil=>exact h
 |cons c l ih=>
  simp only[uL]at h;split at h
  .rename_i x i xs js h1 h2;simp only[bA,bI]at h;obtain⟨rfl,rfl⟩:=h;simp only[uL,acF h1 λid hi=>hb id (by simp[hi]),ih h2 λid hi=>hb id (by simp[hi])]
  .cases h
def aiU{p:PV}{e:E}{is:List Nat}(h:p.ext σ=some (e,is))(hb:∀ id,id ∈ is->σ.bo id=τ.bo id):p.ext τ=some (e,is):=by
 cases p with
 |e x=>exact h
 |box id off=>
  cases off with
  |succ=>exact h
  |zero=>
   have h0:=h;simp only[PV.ext]at h;split at h
   .simp only[bA,bI]at h;obtain⟨_,rfl⟩:=h;simp only[PV.ext,<-hb id aH];exact h0
   .cases h
 |pC f cap=>
  simp only[PV.ext]at h;split at h
  .rename_i xs js h1;simp only[bA,bI]at h;obtain⟨rfl,rfl⟩:=h;simp only[PV.ext,SP h1 hb]
  .cases h
 |own id=>
  have h0:=h;simp only[PV.ext]at h;split at h
  .simp only[bA,bI]at h;obtain⟨_,rfl⟩:=h;simp only[PV.ext,<-hb id aH];exact h0
  .simp only[bA,bI]at h;obtain⟨_,rfl⟩:=h;simp only[PV.ext,<-hb id aH];exact h0
  .cases h
 |iH id k=>
  have h0:=h;simp only[PV.ext]at h;split at h
  .split at h
   .simp only[bA,bI]at h;obtain⟨_,rfl⟩:=h;simp only[PV.ext,<-hb id aH];exact h0
   .cases h
  .cases h
 |_=>exact h
def QC{l:List Operand}{es:List E}{is:List Nat}(h:tX σ l=some (es,is))(hg:∀ x,x ∈ l->τ.op x=σ.op x)(hb:∀ id,id ∈ is->σ.bo id=τ.bo id):tX τ l=some (es,is):=by
 induction l generalizing es is with
 |nil=>exact h
 |cons c l ih=>
  simp only[tX]at h;split at h
  .rename_i x i xs js h1 h2;simp only[bA,bI]at h;obtain⟨rfl,rfl⟩:=h;simp only[tX,hg c aH,aiU h1 λid hi=>hb id (by simp[hi]),ih h2 (λx hx=>hg x (by simp[hx])) λid hi=>hb id (by simp[hi])]
  .cases h
def agH{p:PV}{e:E}{is:List Nat}(h:p.ext σ=some (e,is))(hb:∀ id,id ∈ is->σ.bo id=τ.bo id):p.we τ=p.we σ:=by
 cases p with
 |own id=>
  have hid:σ.bo id=τ.bo id:=by
   simp only[PV.ext]at h;split at h
   .simp only[bA,bI]at h;obtain⟨_,rfl⟩:=h;exact hb id aH 
   .simp only[bA,bI]at h;obtain⟨_,rfl⟩:=h;exact hb id aH 
   .cases h
  simp only[PV.we,hid]
 |_=>rfl
def Qx{l:List Operand}{es:List E}{is:List Nat}(h:tX σ l=some (es,is))(hg:∀ x,x ∈ l->τ.op x=σ.op x)(hb:∀ id,id ∈ is->σ.bo id=τ.bo id):(l.map τ.op).any (PV.we τ)=(l.map σ.op).any (PV.we σ):=by
 induction l generalizing es is with
 |nil=>rfl
 |cons c l ih=>
  simp only[tX]at h;split at h
  .rename_i x i xs js h1 h2;simp only[bA,bI]at h;obtain⟨rfl,rfl⟩:=h;simp only[eo,dH,hg c aH,agH h1 λid hi=>hb id (by simp[hi]),ih h2 (λx hx=>hg x (by simp[hx])) λid hi=>hb id (by simp[hi])]
  .cases h
def S4{place:Nat->Option (Nat×Nat)}{ps:List (Nat×Operand)}(hg:∀ x,x ∈ ps.map (·.2)->τ.op x=σ.op x):∀ l,sy τ place l ps=sy σ place l ps:=by
 induction ps with
 |nil=>intro l;rfl
 |cons p ps ih=>
  intro l;obtain⟨i,x⟩:=p;simp only[sy,hg x aH,ih λx hx=>hg x (by simp only[eo,cV];exact .inr hx)]
def N8{d:Option Tmp}{b:Bx}{rr:Nat->PV}{jB:List Prop}(h:zU σ d b rr jB=some u)(jG:σ.nl=τ.nl)(hn:∀ id b,u.f = .new id b->τ.bo id=none):zU τ d b rr jB=some u:=by
 obtain⟨id,rfl,kp,hc,rfl⟩:=GG h;rw[jG]at hc;simp only[zU,hn id b rfl,hc,bB]
def WJ{d:Nat}{b:Bx}(h:σ.bo d=τ.bo d):uw τ d b=uw σ d b:=by unfold uw;rw[h]
def WL{d:Nat}{is:List Nat}(h:σ.bo d=τ.bo d):z8 τ d is=z8 σ d is:=by unfold z8;rw[h]
def WM{d:Nat}{b:Bx}{is:List Nat}{u:kq}(hf:u.f=uw σ d b)(hr:u.rb=z8 σ d is)(hb:∀ id,id ∈ u.rb->σ.bo id=τ.bo id)(hn:∀ id b,u.f = .new id b->τ.bo id=none):σ.bo d=τ.bo d:=by
 cases jg:σ.bo d with
 |none=>exact(hn d b (by rw[hf,uw,jg])).symm
 |some x=>rw[<-jg];exact hb d (by rw[hr,z8,jg];simp)
def Wc{d:Option Tmp}{b:Bx}{rr:Nat->PV}(h:Bo σ d b rr=some u)(hb:∀ id,id ∈ u.rb->σ.bo id=τ.bo id)(jG:σ.nl=τ.nl)(hn:∀ id b,u.f = .new id b->τ.bo id=none):Bo τ d b rr=some u:=by
 obtain⟨id,rfl,hc,rfl⟩:=J7 h;have e:σ.bo id=τ.bo id:=WM (b:=b) (is:=[]) rfl rfl hb hn;rw[jG]at hc;simp only[Bo,hc,bB,WJ e,WL e]
def SK{d:Option Tmp}{t:TypeId}{s x:PV}{u:kq}(h:AP T σ d t s x=some u)(hb:∀ id,id ∈ u.rb->σ.bo id=τ.bo id)(jG:σ.nl=τ.nl)(hn:∀ id b,u.f = .new id b->τ.bo id=none):AP T τ d t s x=some u:=by
 simp only[AP]at h ⊢;split at h
 .split at h
  .split at h
   .split at h
    .split at h
     .split at h
      .rename_i hc;simp only[hc,bB];split at h
       .rename_i id;split at h
        .rename_i jg;split at h
         .rename_i oN;cases h;simp only[<-hb id aH,<-jG,jg,oN,bB]
         .cases h
        .cases h
       .rename_i id k;split at h
        .rename_i jg;split at h
         .rename_i oN;cases h;simp only[<-hb id aH,jg,oN,bB]
         .cases h
        .cases h
       .exact N8 h jG hn
       .cases h
      .cases h
     .cases h
    .cases h
   .cases h
  .cases h
 .cases h
def adL{d:Option Tmp}{t:TypeId}{s x:PV}{u:kq}(h:B7 T σ d t s x=some u)(hb:∀ id,id ∈ u.rb->σ.bo id=τ.bo id)(jG:σ.nl=τ.nl):B7 T τ d t s x=some u:=by
 unfold B7 at h ⊢;split at h
 .rename_i u0 h0;split at h
  .rename_i id nl T1 n sz el id' hf hr;split at h
   .rename_i hid;cases h;have:=SK (σ:={ σ with nl:=false }) (τ:={ τ with nl:=false }) h0 hb rfl λi b e=>by rw[hf]at e;cases e
    rw[this];simp only[hf,hr,hid,bB]
   .cases h
  .cases h
 .cases h
def adQ{d:Option Tmp}{t:TypeId}{n q:Nat}{u:kq}(h:B9 T σ d t n q=some u)(hb:∀ id,id ∈ u.rb->σ.bo id=τ.bo id):B9 T τ d t n q=some u:=by
 unfold B9 at h ⊢;split at h
 .rename_i id;have h0:=h;split at h
  .rename_i h1 h2 h3;split at h
   .rename_i hc;cases h;simp only[<-hb id aH,<-hb q aH];exact h0
   .cases h
  .cases h
 .cases h
def adN{d:Option Tmp}{t:TypeId}{s:PV}{q:Nat}{u:kq}(h:B8 T σ d t s q=some u)(hb:∀ id,id ∈ u.rb->σ.bo id=τ.bo id):B8 T τ d t s q=some u:=by
 unfold B8 at h ⊢;have h0:=h;split at h
 .rename_i h1 h2;split at h
  .rename_i id;split at h
   .rename_i h3;split at h
    .rename_i hc;cases h;simp only[<-hb id aH,<-hb q aH];exact h0
    .cases h
   .cases h
  .rename_i id;split at h
   .rename_i h3;split at h
    .rename_i hc;cases h;simp only[<-hb id aH,<-hb q aH];exact h0
    .cases h
   .cases h
  .cases h
 .cases h
def aiP{ps:List (Nat×Operand)}(hg:∀ x,x ∈ ps.map (·.2)->τ.op x=σ.op x):Bs τ ps=Bs σ ps:=by
 unfold Bs;split
 .rw [hg _ aH]
 .rfl
def adR(h:jD P K T O σ o=some u)(hg:∀ x,x ∈ o.op.operands->τ.op x=σ.op x)(hb:∀ id,id ∈ u.rb->σ.bo id=τ.bo id)(jG:σ.nl=τ.nl)(hn:∀ id b,u.f = .new id b->τ.bo id=none):
 jD P K T O τ o=some u:=by
 cases iA:o.op with
 |move x=>rw[iA]at hg;simp only[jD,iA]at h ⊢;rw[hg x aP];exact h
 |assign x=>rw[iA]at hg;simp only[jD,iA]at h ⊢;rw[hg x aP];exact h
 |pick c x y=>rw[iA]at hg;simp only[jD,iA]at h ⊢;rw[hg c aP,hg x aP,hg y aP];exact h
 |nilCheck x=>rw[iA]at hg;simp only[jD,iA]at h ⊢;rw[hg x aP];exact h
 |binOp op t x y yt=>rw[iA]at hg;simp only[jD,iA]at h ⊢;rw[hg x aP,hg y aP];exact h
 |unOp op t x=>rw[iA]at hg;simp only[jD,iA]at h ⊢;rw[hg x aP];exact h
 |convert s d x=>rw[iA]at hg;simp only[jD,iA]at h ⊢;rw[hg x aP];exact h
 |index t x i=>rw[iA]at hg;simp only[jD,iA]at h ⊢;rw[hg x aP,hg i aP];exact h
 |extract x i=>rw[iA]at hg;simp only[jD,iA]at h ⊢;rw[hg x aP];exact h
 |fieldAddr t x f=>rw[iA]at hg;simp only[jD,iA]at h ⊢;rw[hg x aP];exact h
 |field t x f=>rw[iA]at hg;simp only[jD,iA]at h ⊢;rw[hg x aP];exact h
 |lookup t x i ok=>
  rw[iA]at hg;cases ok with
  |true=>simp[jD,iA]at h
  |false=>simp only[jD,iA]at h ⊢;rw[hg x aP,hg i aP];exact h
 |makeFunc fn first cap=>
  rw[iA]at hg;cases fn with
  |func f=>
   simp only[jD,iA]at h ⊢;have:cap.toList.map τ.op=cap.toList.map σ.op:=eH λx hx=>hg x (by simp only[Op.operands,eK];exact .inr (by simpa using hx))
   rw[this];exact h
  |_=>simp[jD,iA]at h
 |slice t x lo hi mx=>
  rw[iA]at hg;cases mx with
  |some=>simp[jD,iA]at h
  |none=>
   simp only[jD,iA]at h ⊢;have e1:lo.map τ.op=lo.map σ.op:=by cases lo with
    |none=>rfl
    |some y=>simp only[ct];rw[hg y aP]
   have e2:hi.map τ.op=hi.map σ.op:=by cases hi with
    |none=>rfl
    |some y=>simp only[ct];rw[hg y aP]
   rw[hg x aP,e1,e2];exact h
 |alloc t=>
  simp only[jD,iA]at h ⊢;split at h
  .split at h
   .exact Wc h hb jG hn
   .cases h
  .cases h
 |box t x=>
  rw[iA]at hg;simp only[jD,iA]at h ⊢;rw[hg x aP];split at h
  .split at h
   .exact Wc h hb jG hn
   .cases h
  .cases h
 |build t ps=>
  rw[iA]at hg;simp only[jD,iA]at h ⊢;have hf:∀ place l,sy τ place l ps.toList=sy σ place l ps.toList:=λplace=>S4 λx hx=>hg x (by simpa[Op.operands]using hx)
  simp only[hf];exact h
 |buildSlice t n ps=>
  rw[iA]at hg;simp only[jD,iA]at h ⊢;have hf:∀ place l,sy τ place l ps.toList=sy σ place l ps.toList:=λplace=>S4 λx hx=>hg x (by simpa[Op.operands]using hx)
  have ho:Bs τ ps.toList=Bs σ ps.toList:=aiP λx hx=>hg x (by simpa[Op.operands]using hx)
  simp only[hf,ho];split at h
  .exact adQ h hb
  split at h
  .split at h
   .split at h
    .split at h
     .split at h
      .rename_i hif;rw[a6 hif];obtain⟨l,hl,h⟩:=gG.1 h;refine gG.2 ⟨l,hl,?_⟩;split at h
       .cases h
       .rename_i h1;rw[aZ h1];split at h
        .rename_i h2;rw[a6 h2];exact N8 h jG hn
        .rename_i h2;rw[aZ h2];exact h
      .cases h
     .cases h
    .cases h
   .cases h
  .cases h
 |load t x=>
  rw[iA]at hg;simp only[jD,iA,I0]at h ⊢;rw[hg x aP];split at h
  .rename_i ti qm;split at h
   .rename_i id q pF;have hid:σ.bo id=τ.bo id:=by
     split at h
     .cases h
     .cases h;exact hb id aH 
    have M7:Cc τ (σ.op x)=some (id,q):=by
     cases hp:σ.op x with
     |box id' off=>
      rw[hp]at pF;have h0:=pF;simp only[Cc]at pF;split at pF
      .obtain ⟨q',hq,pF⟩:=bT.1 pF;simp only[bI]at pF;obtain⟨rfl,rfl⟩:=pF;simp only[Cc,<-hid];exact h0
      .cases pF
     |_=>rw[hp]at pF;cases pF
    simp only[M7];exact h
   rename_i pF;have M7:Cc τ (σ.op x)=none:=by
    cases hp:σ.op x with
    |box id off=>
     have hid:id ∈ u.rb:=by
      rw[hp]at h;have h':Bk ti (σ.read (.box id off) ti.i.size)=some u:=h;cases hr:σ.read (.box id off) ti.i.size with
      |none=>rw[hr]at h';cases h'
      |some y=>
       obtain⟨l,is,jB⟩:=y;rw[hr]at h';rw[ahz h',ajC hr];simp
     rw[hp]at pF;simp only[Cc,<-hb id hid];exact pF
    |_=>rfl
   simp only[M7];unfold I1 at h ⊢;split at h
   .rename_i id i n ql;have agd:Db τ (σ.op x)=some (id,i,n):=by
     have hid:σ.bo id=τ.bo id:=by
      split at h
      .cases h
      .cases h;exact hb id aH 
     cases hp:σ.op x with
     |nm id' sz i' j=>
      rw[hp]at ql;have h0:=ql;simp only[Db]at ql;split at ql
      .split at ql
       .simp only[bA,bI]at ql;obtain⟨rfl,_,_⟩:=ql;simp only[Db,<-hid];exact h0
       .cases ql
      .cases ql
     |_=>rw[hp]at ql;cases ql
    simp only[agd];exact h
   .rename_i ql;have key:∀ is,(∃ l jB,σ.read (σ.op x) ti.i.size=some (l,is,jB))->(∀ id,id ∈ is->σ.bo id=τ.bo id)->Db τ (σ.op x)=none:=by
     rintro is ⟨l,jB,hr⟩ mU;cases hp:σ.op x with
     |nm id sz i j=>
      rw[hp]at hr ql;simp only[PS.read]at hr;split at hr
      .rename_i jg;split at hr
       .simp only[bA,bI]at hr;obtain⟨_,rfl,_⟩:=hr;simp only[Db,<-mU id aH,jg]
       .cases hr
      .cases hr
     |_=>rfl
    cases hr:σ.read (σ.op x) ti.i.size with
    |none=>rw[hr]at h;cases h
    |some y=>
     obtain⟨l,is,jB⟩:=y;have Cy:u.rb=is:=by
      rw[hr]at h;simp only[Bk]at h;split at h
      .cases h;rfl
      .split at h
       .cases h;rfl
       .cases h
     have mU:∀ id,id ∈ is->σ.bo id=τ.bo id:=λid hi=>hb id (by rw[Cy];exact hi)
     rw[key is ⟨l,jB,hr⟩ mU];simp only;rw[ajD hr mU];rw[hr]at h;exact h
  .cases h
 |store t x y=>
  rw[iA]at hg;simp only[jD,iA,I4]at h ⊢;rw[hg x aP,hg y aP];split at h
  .split at h
   .rename_i id off e _ _;split at h
    .rename_i jg hm;split at h
     .rename_i hc;cases h;rw[jG]at hc;simp only[<-hb id aH,jg,hm,hc,bB]
     .cases h
    .rename_i jg hm;split at h
     .rename_i hc;cases h;simp only[<-hb id aH,jg,hm,hc,bB]
     .cases h
    .cases h
   .rename_i id off q _ _;have e:=adP h;rw[<-hb id (by rw[e];simp),<-hb q (by rw[e];simp)];exact h
   .rename_i id sz i j e _ _;split at h
    .rename_i jg hm;split at h
     .rename_i hc;cases h;simp only[<-hb id aH,jg,hm,hc,bB]
     .cases h
    .cases h
   .rename_i id i id' k _ _;split at h
    .rename_i jg;split at h
     .rename_i hc;cases h;simp only[<-hb id aH,jg,hc,bB]
     .cases h
    .cases h
   .cases h
  .cases h
 |makeSlice t l c=>
  rw[iA]at hg;simp only[jD,iA,I2]at h ⊢;rw[hg l aP,hg c aP];split at h
  .exact N8 h jG hn
  .cases h
 |indexAddr t x i=>
  rw[iA]at hg;simp only[jD,iA,IZ]at h ⊢;rw[hg x aP,hg i aP];split at h
  .split at h
   .split at h
    .split at h
     .split at h
      .exact h
      .exact h
      .rename_i id _;split at h
       .rename_i jg;split at h
        .rename_i hc;cases h;simp only[<-hb id aH,jg,hc,bB]
        .cases h
       .rename_i jg;split at h
        .rename_i hc;cases h;simp only[<-hb id aH,jg,hc,bB]
        .cases h
       .cases h
      .rename_i id _ _;split at h
       .rename_i jg;split at h
        .rename_i hc;cases h;simp only[<-hb id aH,jg,hc,bB]
        .cases h
       .cases h
      .cases h
     .cases h
    .exact h
    .cases h
   .cases h
  .cases h
 |call c=>
  rw[iA]at hg;obtain⟨callee,args,ats⟩:=c;have ha:∀ x,x ∈ args.toList->τ.op x=σ.op x:=λx hx=>hg x (by simp only[Op.operands,Call.operands,eK];exact .inr (by simpa using hx))
  have Ut:args.toList.map τ.op=args.toList.map σ.op:=eH ha;cases callee with
  |builtin b=>
   simp only[jD,iA]at h ⊢;cases b
   case len=>
    dsimp only at h ⊢;split at h
    .rename_i x t hx ht;split at h
     .obtain ⟨rr,hr,rfl⟩:=bT.1 h;rw[ha x (by rw[hx];simp)];have:sL (σ.op x) τ=some rr:=by
       cases hp:σ.op x with
       |own id=>
        rw[hp]at hr;have h0:=hr;simp only[sL]at hr;split at hr
        .simp only[bA]at hr;subst hr;simp only[sL,<-hb id aH];exact h0
        .simp only[bA]at hr;subst hr;simp only[sL,<-hb id aH];exact h0
        .cases hr
       |iH id k=>
        rw[hp]at hr;have h0:=hr;simp only[sL]at hr;split at hr
        .split at hr
         .simp only[bA]at hr;subst hr;simp only[sL,<-hb id aH];exact h0
         .cases hr
        .cases hr
       |e y=>
        rw[hp]at hr;cases y with
        |v z=>cases z<;>exact hr
        |_=>exact hr
       |_=>rw[hp]at hr;exact hr
      rw[this];rfl
     .cases h
    .cases h
   case append=>
    dsimp only at h ⊢;split at h
    .rename_i s x t t' hx ht;split at h
     .rename_i qN;simp only[qN,bB];rw[ha x (by rw[hx];simp),ha s (by rw[hx];simp)];have px:It O o.dst=It O o.dst:=rfl;split at h
      .exact adN h hb
      split at h
      .rename_i MT;simp only[MT,bB];exact adL h hb jG
      .rename_i MT;simp only[MT,bn,bE];exact SK h hb jG hn
     .cases h
    .cases h
   case max=>dsimp only at h ⊢;rw[Ut];exact h
   case min=>dsimp only at h ⊢;rw[Ut];exact h
   all_goals cases h
  |value f=>
   have hf:τ.op f=σ.op f:=hg f (by simp[Op.operands,Call.operands]);simp only[jD,iA]at h ⊢;rw[hf];have ec:∀ {gf:FuncId} {zs:List E} {is:List Nat} {ow:Bool},AR P K O σ o.dst gf zs is ow=some u->(∀ id,id ∈ is->id ∈ u.rb)/\AR P K O τ o.dst gf zs is ow=some u:=by
    intro gf zs is ow hh;simp only[AR]at hh ⊢;rw[jG]at hh;split at hh
    .rename_i jQ Gg;refine⟨?_,hh⟩;split at hh
     .cases hh;exact λ_ h=>h
     .split at hh
      .cases hh;exact λ_ h=>h
      .split at hh
       .cases hh;exact λ_ h=>h
       .cases hh
    .split at hh
     .rename_i d hd;split at hh
      .rename_i nl T n sz el h1;split at hh
       .rename_i hc;cases hh;have e:=WM (σ:=σ) (τ:=τ) (b:=.row nl T n sz el) (is:=is) rfl rfl hb hn;refine⟨λid hid=>?_,?_⟩
        .unfold z8;split
         .exact hid
         .simp [hid]
        .simp only[hc,bB,WJ e,WL e]
       .cases hh
      .cases hh
     .cases hh
   split at h
   .rename_i gf cap xs is Cu qc;obtain⟨e1,e2⟩:=ec h;rw[Qx qc ha λid hi=>hb id (e1 id hi),QC qc ha λid hi=>hb id (e1 id hi),Cu];exact e2
   .rename_i gf cap xs is Cu qc;split at h
    .rename_i ys js CD;obtain⟨e1,e2⟩:=ec h;rw[Qx qc ha λid hi=>hb id (e1 id (by simp[hi])),QC qc ha λid hi=>hb id (e1 id (by simp[hi])),Cu];simp only;rw[SP CD λid hi=>hb id (e1 id (by simp[hi]))];exact e2
    .cases h
   .cases h
  |invoke _ _=>simp[jD,iA]at h
 |_=>simp[jD,iA]at h
end
def ahR{l:List Operand}{t:Tmp}(h:Operand.tmp t ∈ l):t ∈ EZ l:=by
 induction l with
 |nil=>simp at h
 |cons x l ih=>
  rcases cV.1 h with h|h
  .subst h;simp[EZ]
  .have:=ih h;cases x<;>simp[EZ,this]
def afL{l:List Nat}{n:Nat}:MW l n=true↔n ∈ l:=by
 unfold MW;rw[dz];constructor
 .rintro ⟨x,hx,hb⟩;have:=kO.1 hb;subst this;exact hx
 .intro h;exact⟨n,h,ch n⟩
def Ey{l:List Nat}{d:Option Nat}(h:xp l d=true){x:Nat}(hx:d=some x):x ∉ l:=by
 subst hx;simp only[xp,dO]at h;intro hm;rw[afL.2 hm]at h;cases h
def E4{a b:Option Nat}(h:K4 a b=true){x y:Nat}(hx:a=some x)(hy:b=some y):x≠y:=by
 subst hx hy;simp only[K4,dO]at h;intro e;rw[kO.2 e]at h;cases h
def E6{f:mr}(hf:f.xk=false)(p:PV):p.kW f=if zQ f p then p else .e .any:=by
 cases f<;>first|(cases hf;done)|skip
 all_goals (cases p<;>simp only[PV.kW,zQ,bB])
 all_goals (split<;>rename_i h<;>simp[h])
def NS{f:mr}(hf:f.xk=false){p:PV}(h:zQ f p=true):p.kW f=p:=by rw[E6 hf,a6 h]
def ag8(f:mr):zQ f (.e .any)=true:=by cases f<;>rfl
def ang(p:PV){f g:mr}(hf:f.xk=false)(hg:g.xk=false):(p.kW f).kW g=(p.kW g).kW f:=by
 rw[E6 hf p,E6 hg p];cases h1:zQ f p<;>cases h2:zQ g p<;>simp only[bB,bE,bn,E6 hf,E6 hg,ag8,h1,h2]
structure su(σ τ:PS):Prop where
 n:σ.n=τ.n
 nl:σ.nl=τ.nl
 get:∀ t,σ.get t=τ.get t
 bo:∀ id,σ.bo id=τ.bo id
def su.refl(σ:PS):su σ σ:=⟨rfl,rfl,λ_=>rfl,λ_=>rfl⟩
def su.symm{σ τ:PS}(h:su σ τ):su τ σ:=⟨h.n.symm,h.nl.symm,λt=>(h.get t).symm,λi=>(h.bo i).symm⟩
def su.trans{σ τ υ:PS}(h:su σ τ)(k:su τ υ):su σ υ:=⟨h.n.trans k.n,h.nl.trans k.nl,λt=>(h.get t).trans (k.get t),λi=>(h.bo i).trans (k.bo i)⟩
def iZ.qE{w0:World}{B:Nat->Prop}{σ τ:PS}{a:Act}{w:World}{L:Lk}(r:iZ w0 B σ a w L)(h:su σ τ):iZ w0 B τ a w L:=
 ⟨r.hd,r.hs.trans h.n,λt=>by rw[<-h.get];exact r.ht t,λid b hb=>r.hb id b (by rw[h.bo];exact hb),λid=>by rw[<-h.bo];exact r.hv id,r.hn,r.hw,r.hi,r.he,λhn id b hb=>r.hl (by rw[h.nl];exact hn) id b (by rw[h.bo];exact hb)⟩
def AF(σ:PS)(f:mr)(id:Nat):(σ.oe f).bo id=match f with
 | .none=>σ.bo id
 | .new i b | .rT i b | .pE i b | .sM i b | .wD i b=>if i=id then some b else(σ.bo id).map (Bx.qS (PV.kW f))
 | .fin i=>if i=id then none else(σ.bo id).map (Bx.qS (PV.kW f))
 | .oH i r b=>if i=id then some b else if r=id then none else(σ.bo id).map (Bx.qS (PV.kW f)):=by
 have key:=PS.AG σ f id;cases f with
 |none=>rfl
 |fin i=>
  show look ((σ.pre (.fin i)).filter λx=>!Nat.beq x.1 i) id=_;rw[CQ,key]
 |oH i r b=>
  show look (tU ((σ.pre (.oH i r b)).filter λx=>!Nat.beq x.1 r) i b) id=_;rw[CR,CQ,key]
 |_=>exact(CR _ _ _ _).trans (by rw[key])
def anf{f:mr}{p:PV}(hv:f.vF=true)(h:(p.kV.any λr=>f.zG.any λi=>Nat.beq i r)=false):p.kW f=p:=by
 cases f with
 |none=>cases hv
 |new=>cases hv
 |rT=>cases hv
 |pE i b=>exact ZQ (by simpa[mr.zG]using h)
 |sM i b=>
  have h':p.kV.any (Nat.beq i)=false:=by simpa[mr.zG]using h
  cases p with
  |iH j k=>
   have:Nat.beq j i=false:=by
    simp only[PV.kV,dH,eN,et]at h';exact cM λe=>by rw[e,ch]at h';cases h'
   simp[PV.kW,this]
  |qQ j s k x y=>
   have:Nat.beq j i=false:=by
    simp only[PV.kV,dH,eN,et]at h';exact cM λe=>by rw[e,ch]at h';cases h'
   simp[PV.kW,this]
  |_=>rfl
 |fin i=>
  have h':p.kV.any (Nat.beq i)=false:=by simpa[mr.zG]using h
  cases p<;>(simp only[PV.kW];rw[h'];rfl)
 |wD i b=>
  have h':p.kV.any (Nat.beq i)=false:=by simpa[mr.zG]using h
  cases p<;>(simp only[PV.kW];rw[h'];rfl)
 |oH i r b=>exact P4 (by simpa[mr.zG]using h)
def af1{f:mr}{b:Bx}(h:b.pd f=false):b.qS (PV.kW f)=b:=by
 refine V7 λp hp=>?_
 by_cases hv:f.vF=true
 .refine anf hv ?_;unfold Bx.pd at h;rw[hv,cY]at h;rw[cK]at h ⊢;intro r hr;exact h r (dj.2 ⟨p,hp,hr⟩)
 .exact ZS (by simpa using hv) p
def ahF{α:Type}{l:List (Nat×α)}{t:Nat}{x:α}(h:look l t=some x):(t,x) ∈ l:=by
 induction l with
 |nil=>cases h
 |cons y l ih=>
  obtain⟨k,z⟩:=y;rw[sX]at h;split at h
  .rename_i e;cases h;subst e;exact .head _
  .exact .tail _ (ih h)
def zg{σ:PS}{f:mr}:σ.pd f=false↔∀ id b,σ.bo id=some b->b.pd f=false:=by
 unfold PS.pd;by_cases hv:f.vF=true
 .rw [hv,cY];constructor
  .intro h id b hb;have:=cK.1 h (id,b) (ahF hb);simpa[hb]using this
  .intro h;rw[cK];intro x hx;split
   .rename_i b hb;rw[h _ _ hb];simp
   .simp
 .have UO:f.vF=false:=by simpa using hv
  rw[UO,Bool.false_and];exact⟨λ_ id b _=>by unfold Bx.pd;rw[UO];rfl,λ_=>rfl⟩
def af0{σ τ:PS}(h:∀ id,σ.bo id=τ.bo id)(f:mr):τ.pd f=σ.pd f:=by
 cases h1:σ.pd f with
 |false=>exact zg.2 λid b hb=>zg.1 h1 id b (by rw[h];exact hb)
 |true=>
  cases h2:τ.pd f with
  |true=>rfl
  |false=>rw[zg.2 λid b hb=>zg.1 h2 id b (by rw[<-h];exact hb)]at h1;cases h1
def FT(σ:PS)(d:Option Tmp)(u:kq)(t:Nat):(σ.app d u).get t=if d=some t then u.r else(σ.get t).kW u.f:=by
 unfold PS.app;cases d with
 |none=>
  rw[aZ aH];exact PS.Ce σ u.f t
 |some d=>
  rw[PS.Mz,PS.Ce];simp only[bA]
def AE(σ:PS)(d:Option Tmp)(u:kq)(id:Nat):(σ.app d u).bo id=(σ.oe u.f).bo id:=PS.aby _ _ _ _
def GK(σ:PS)(d:Option Tmp)(u:kq):(σ.app d u).n=σ.n:=by unfold PS.app;rw[PS.Og];rfl
def GO(σ:PS)(d:Option Tmp)(u:kq):(σ.app d u).nl=σ.nl:=by unfold PS.app;rw[PS.aio];rfl
def vK(σ:PS)(d:Option Tmp)(u:kq)(id:Nat)(hm:u.f.xk=false)(hh:σ.pd u.f=false)(h:u.f.id≠some id):(σ.app d u).bo id=σ.bo id:=by
 have e:(σ.bo id).map (Bx.qS (PV.kW u.f))=σ.bo id:=by
  cases hb:σ.bo id with
  |none=>rfl
  |some b=>simp only[ct];rw[af1 (zg.1 hh id b hb)]
 rw[AE,AF];cases hf:u.f<;>rw[hf]at h hm e<;>simp only[mr.id,cU,bA]at h<;>first|rfl|exact(aZ h).trans e|cases hm
def Oz{σ τ:PS}{f:mr}(h:∀ id,f.id=some id->σ.bo id=τ.bo id):τ.xq f=σ.xq f:=by
 unfold PS.xq;split
 .rename_i i hi;rw[h i hi]
 .rfl
section
variable {P:Program} {K:World->Prop} {T:List TI} {O:qu} {gZ:Array Oper} {σ τ:PS} {o:Oper} {u:kq}
def adT(h:jD P K T O σ o=some u){x:Operand}(hx:x ∈ o.op.operands):x ∈ GS o.op:=by
 obtain⟨dst,op,ty,pos,after,guard⟩:=o;simp only at hx ⊢;cases op<;>first
  | (simp only[jD]at h;cases h;done)
  | (exfalso;simp[Op.operands]at hx;done)
  | (simpa[Op.operands,GS]using hx)
  | (simpa[Op.operands,GS,or_assoc]using hx)
  |skip
 case call c=>
  obtain⟨callee,args,ats⟩:=c;cases callee<;>simpa[Op.operands,GS,Call.operands]using hx
def N9{d:Option Tmp}{b:Bx}{rr:Nat->PV}{jB:List Prop}(h:zU σ d b rr jB=some u){id:Nat}{b':Bx}(hf:u.f = .new id b'):σ.bo id=none:=by
 obtain⟨i,_,kp,_,rfl⟩:=GG h;cases hf;exact kp
def WK{d:Nat}{b:Bx}{id:Nat}{b':Bx}(hf:uw σ d b = .new id b'):σ.bo id=none:=by
 unfold uw at hf;split at hf
 .rename_i h;cases hf;exact h
 .cases hf
def Wd{d:Option Tmp}{b:Bx}{rr:Nat->PV}(h:Bo σ d b rr=some u){id:Nat}{b':Bx}(hf:u.f = .new id b'):σ.bo id=none:=by
 obtain⟨i,_,_,rfl⟩:=J7 h;exact WK hf
def adO{ti:TI}{bi bq:Option Bx}{i off q:Nat}(h:DM ti bi bq i off q=some u)(id:Nat)(b:Bx):u.f ≠ .new id b:=by
 intro hf;unfold DM at h;split at h
 .rename_i hM;cases h;unfold I6 at hM;split at hM
  .split at hM
   .cases hM;cases hf
   .cases hM
  .cases hM
 .unfold I5 at h;split at h
  .split at h
   .cases h;cases hf
   .cases h
  .cases h
def adS(h:jD P K T O σ o=some u){id:Nat}{b:Bx}(hf:u.f = .new id b):σ.bo id=none:=by
 cases iA:o.op
 case alloc=>
  simp only[jD,iA]at h;split at h
  .split at h
   .exact Wd h hf
   .cases h
  .cases h
 case box=>
  simp only[jD,iA]at h;split at h
  .split at h
   .exact Wd h hf
   .cases h
  .cases h
 case makeSlice=>
  simp only[jD,iA,I2]at h;split at h
  .exact N9 h hf
  .cases h
 case makeFunc fn first cap=>
  cases fn with
  |func f=>
   simp only[jD,iA]at h
   repeat' split at h
   all_goals first
    | (cases h;done)
    | (cases h;cases hf;done)
  |_=>simp[jD,iA]at h
 case lookup t x i ok=>
  cases ok with
  |true=>simp[jD,iA]at h
  |false=>
   simp only[jD,iA]at h
   repeat' split at h
   all_goals first
    | (cases h;done)
    | (cases h;cases hf;done)
 case slice t x lo hi mx=>
  cases mx with
  |none=>
   simp only[jD,iA,I3]at h
   repeat' split at h
   all_goals first
    | (cases h;done)
    | (cases h;cases hf;done)
  |some=>simp[jD,iA]at h
 case call c=>
  obtain⟨callee,args,ats⟩:=c;cases callee with
  |builtin b=>
   simp only[jD,iA]at h;cases b
   case append=>
    dsimp only at h;split at h
    .split at h
     .split at h
      .unfold B8 at h
       repeat' split at h
       all_goals first
        | (cases h;done)
        | (cases h;cases hf;done)
      split at h
      .unfold B7 at h;split at h
       .split at h
        .split at h
         .cases h;cases hf
         .cases h
        .cases h
       .cases h
      .simp only[AP]at h
       repeat' split at h
       all_goals first
        | (cases h;done)
        |exact N9 h hf
        | (cases h;cases hf;done)
     .cases h
    .cases h
   all_goals
    dsimp only at h
    repeat' split at h
    all_goals first
     | (cases h;done)
     | (cases h;cases hf;done)
     | (obtain⟨_,_,rfl⟩:=bT.1 h;cases hf)
  |value f=>
   simp only[jD,iA]at h
   repeat' split at h
   all_goals first
    | (cases h;done)
    | (simp only[AR]at h;repeat' split at h)
   all_goals first
    | (cases h;done)
    | (cases h;cases hf;done)
    | (cases h;cases hf;assumption)
    | (cases h;exact WK hf)
  |invoke _ _=>simp[jD,iA]at h
 all_goals
  simp only[jD,iA,I4,IZ,I3,I0,I1,Bk,B9]at h
  repeat' split at h
  all_goals first
   |exact absurd hf (adO h _ _)
   | (cases h;done)
   | (cases h;cases hf;done)
   | (obtain⟨_,_,rfl⟩:=bT.1 h;cases hf)
   |skip
 all_goals first
  | (obtain⟨_,_,h⟩:=gG.1 h;repeat' split at h)
  |skip
 all_goals first
  |exact N9 h hf
  | (cases h;done)
  | (cases h;cases hf;done)
def Mi(h:uK P K T O σ o=some u):∃ u0,jD P K T O σ o=some u0/\u0.rb=u.rb/\u0.f=u.f:=by
 unfold uK at h;split at h
 .rename_i u0 h0;split at h
  .split at h
   .cases h;exact⟨u0,h0,rfl,rfl⟩
   .cases h;exact⟨_,h0,rfl,rfl⟩
  .cases h;exact⟨_,h0,rfl,rfl⟩
 .cases h
def adV(h:uK P K T O σ o=some u)(hg:∀ x,x ∈ o.op.operands->τ.op x=σ.op x)(hb:∀ id,id ∈ u.rb->σ.bo id=τ.bo id)(jG:σ.nl=τ.nl)(hn:∀ id b,u.f = .new id b->τ.bo id=none):
 uK P K T O τ o=some u:=by
 obtain⟨u0,h0,e1,e2⟩:=Mi h;have:=adR (τ:=τ) h0 hg (by rw[e1];exact hb) jG (by rw[e2];exact hn);unfold uK at h ⊢;rw[h0]at h;rw[this];exact h
def DN(h:rE P K T O gZ σ o=some u):wc σ o.dst=true/\u.rd=(looks gZ o).map σ.get/\((Ar gZ σ o=some true/\∃ u0,uK P K T O σ o=some u0/\u={ u0 with rd:=(looks gZ o).map σ.get,hb:=σ.pd u0.f,ob:=σ.xq u0.f })\/(Ar gZ σ o=some false/\u={ r:=.e (.v (.tuple #[])),rd:=(looks gZ o).map σ.get })):=by
 unfold rE at h;split at h
 .rename_i hi;split at h
  .rename_i hw;split at h
   .rename_i u0 h0;cases h;exact⟨hi,rfl,.inl ⟨hw,u0,h0,rfl⟩⟩
   .cases h
  .rename_i hw;cases h;exact⟨hi,rfl,.inr ⟨hw,rfl⟩⟩
  .cases h
 .cases h
def Mg(h:rE P K T O gZ σ o=some u)(hg:∀ t,t ∈ looks gZ o->σ.get t=τ.get t)(hb:∀ id,id ∈ u.rb->σ.bo id=τ.bo id)(jG:σ.nl=τ.nl)(kY:σ.n=τ.n)(hn:∀ id b,u.f = .new id b->τ.bo id=none)(hh:τ.pd u.f=σ.pd u.f)(ho:τ.xq u.f=σ.xq u.f):
 rE P K T O gZ τ o=some u:=by
 obtain⟨hi,_,hw⟩:=DN h;have lG:wc τ o.dst=wc σ o.dst:=by cases o.dst<;>simp[wc,kY]
 have UT:Ar gZ τ o=Ar gZ σ o:=by
  unfold Ar;cases Ck:o.guard with
  |none=>rfl
  |some jw=>
   obtain⟨j,want⟩:=jw;cases hd:(gZ[j]?).bind (·.dst)with
   |none=>simp[hd]
   |some t=>
    simp only[hd];rw[hg t (by unfold looks;rw[Ck];simp[hd])]
 have Nq:(looks gZ o).map τ.get=(looks gZ o).map σ.get:=eH λt ht=>(hg t ht).symm
 unfold rE;rw[lG,hi,UT,Nq];simp only[bB];rcases hw with⟨hw,u0,h0,rfl⟩|⟨hw,rfl⟩
 .rw [hw];have iA:∀ x,x ∈ o.op.operands->τ.op x=σ.op x:=by
   intro x hx;obtain⟨u1,h1,_,_⟩:=Mi h0;have hm:=adT h1 hx;refine aiA λt ht=>hg t ?_
   subst ht;unfold looks;exact List.mem_append_left _ (ahR hm)
  simp only[adV h0 iA hb jG hn];simp only at hh ho;rw[hh,ho]
 .rw [hw]
def Mh(h:rE P K T O gZ σ o=some u){id:Nat}{b:Bx}(hf:u.f = .new id b):σ.bo id=none:=by
 obtain⟨_,_,⟨_,u0,h0,rfl⟩|⟨_,rfl⟩⟩:=DN h
 .obtain ⟨u1,h1,_,e2⟩:=Mi h0;exact adS h1 (by rw[e2];exact hf)
 .cases hf
def adU(h:rE P K T O gZ σ o=some u)(hs:su σ τ):rE P K T O gZ τ o=some u:=
 Mg h (λt _=>hs.get t) (λid _=>hs.bo id) hs.nl hs.n (λid b hf=>by rw[<-hs.bo];exact Mh h hf) (af0 hs.bo _) (Oz λid _=>hs.bo id)
def SM(h:rE P K T O gZ σ o=some u):u.hb=σ.pd u.f/\u.ob=σ.xq u.f:=by
 obtain⟨_,_,⟨_,u0,_,rfl⟩|⟨_,rfl⟩⟩:=DN h
 .exact ⟨rfl,rfl⟩
 .exact ⟨rfl,rfl⟩
def aaD(hs:su σ τ)(d:Option Tmp)(u:kq):su (σ.app d u) (τ.app d u):=
 ⟨by rw[GK,GK];exact hs.n,by rw[GO,GO];exact hs.nl,λt=>by rw[FT,FT,hs.get],λid=>by rw[AE,AE,AF,AF,hs.bo]⟩
def agl{f:mr}(hm:f.xk=false)(r:Nat):(f.zG.any λi=>Nat.beq i r)=true↔f.id=some r:=by
 cases f<;>first|(cases hm;done)|simp[mr.zG,mr.id,kO]
def Uk{f:mr}(hm:f.xk=false){b:Bx}(h:∀ r,f.id=some r->r ∉ b.kV):b.pd f=false:=by
 unfold Bx.pd;rw[Bool.and_eq_false_iff];right;rw[cK];intro r hr hi;exact h r ((agl hm r).1 hi) hr
def afZ{x y:mr}{σ:PS}{d:Option Tmp}{u:kq}(hu:u.f=x)(m1:x.xk=false)(m2:y.xk=false)(hx:σ.pd x=false)(hy:σ.pd y=false)(hc:xp x.LV y.id=true):(σ.app d u).pd y=false:=by
 subst hu;refine zg.2 λid b hb=>?_
 by_cases e:u.f.id=some id
 .refine Uk m2 λr hr hm=>?_
  have hn:=Ey hc hr;rw[AE,AF]at hb;cases hf:u.f<;>rw[hf]at e hb hn m1<;>simp only[mr.id,bA]at e<;>first
   | (cases e;done)
   | (cases m1;done)
   | (subst e;simp only[bB,bA]at hb;subst hb;exact hn hm)
   | (subst e;simp at hb;done)
 .rw [vK _ _ _ _ m1 hx e]at hb;exact zg.1 hy id b hb
def amh{O':qu}{x y:Oper×kq}(hi:CH gZ x y=true)(h1:rE P K T O gZ σ x.1=some x.2)(h2:rE P K T O' gZ (σ.app x.1.dst x.2) y.1=some y.2):
 rE P K T O' gZ σ y.1=some y.2/\rE P K T O gZ (σ.app y.1.dst y.2) x.1=some x.2/\su ((σ.app x.1.dst x.2).app y.1.dst y.2) ((σ.app y.1.dst y.2).app x.1.dst x.2):=by
 simp only[CH,bF]at hi;obtain⟨⟨⟨⟨⟨⟨⟨⟨⟨⟨⟨⟨⟨⟨⟨⟨⟨i1,i2⟩,i3⟩,i4⟩,i5⟩,i6⟩,i7⟩,i8⟩,i9⟩,i10⟩,m1⟩,m2⟩,v1⟩,v2⟩,o1⟩,o2⟩,c1⟩,c2⟩:=hi;simp only[dO]at m1 m2 v1 v2;obtain⟨_,rx,_⟩:=DN h1;obtain⟨_,ry,_⟩:=DN h2;obtain⟨fx1,fx2⟩:=SM h1;obtain⟨fy1,fy2⟩:=SM h2;have hx:σ.pd x.2.f=false:=by rw[<-fx1];exact v1
 have qP:(σ.app x.1.dst x.2).pd y.2.f=false:=by rw[<-fy1];exact v2
 have hy:σ.pd y.2.f=false:=by
  refine zg.2 λid b hb=>?_
  by_cases e:x.2.f.id=some id
  .refine Uk m2 λr hr hm=>?_
   have:=Ey o1 hr;rw[fx2]at this;unfold PS.xq at this;rw[e]at this;simp only[hb]at this;exact this hm
  .exact zg.1 qP id b (by rw[vK _ _ _ _ m1 hx e];exact hb)
 have xj:(σ.app y.1.dst y.2).pd x.2.f=false:=afZ rfl m2 m1 hy hx c2;have r1:rE P K T O' gZ σ y.1=some y.2:=by
  refine Mg h2 (λt ht=>?_) (λid hid=>vK _ _ _ _ m1 hx λe=>Ey i4 e hid) (GO _ _ _) (GK _ _ _) (λid b hf=>?_) (by rw[hy,qP]) (Oz λid e=>vK _ _ _ _ m1 hx λe'=>E4 i6 e' e rfl)
  .have hg:(σ.app x.1.dst x.2).get t=(σ.get t).kW x.2.f:=by
    rw[FT,aZ λe=>Ey i1 e ht]
   rw[hg];by_cases hv:x.2.f.vF=true
   .have Cp:Oq ((σ.get t).kW x.2.f)=true:=by
     have h9:y.2.rd.all Oq=true:=by simpa[hv]using i9
     rw[ry]at h9;exact bM.1 h9 _ (cX.2 ⟨t,ht,hg⟩)
    rw[E6 m1]at Cp ⊢;split at Cp
    .rename_i hk;rw[a6 hk]
    .cases Cp
   .cases hf:x.2.f<;>rw[hf]at hv<;>first|exact absurd rfl hv|(cases σ.get t<;>rfl)
  .have:=Mh h2 hf;rwa[vK _ _ _ _ m1 hx λe=>E4 i6 e (by rw[hf];rfl) rfl]at this
 refine⟨r1,?_,?_⟩
 .refine Mg h1 (λt ht=>?_) (λid hid=>(vK _ _ _ _ m2 hy λe=>Ey i5 e hid).symm) (GO _ _ _).symm (GK _ _ _).symm (λid b hf=>?_) (by rw[hx,xj]) (Oz λid e=>(vK _ _ _ _ m2 hy λe'=>E4 i6 e e' rfl).symm)
  .rw [FT,aZ λe=>Ey i3 e ht];rw[rx]at i10;exact(NS m2 (bM.1 i10 _ (cX.2 ⟨t,ht,rfl⟩))).symm
  .rw [vK _ _ _ _ m2 hy λe=>E4 i6 (by rw[hf];rfl) e rfl];exact Mh h1 hf
 .refine ⟨by simp only[GK],by simp only[GO],λt=>?_,λid=>?_⟩
  .simp only[FT];by_cases hx:x.1.dst=some t
   .have hy:¬y.1.dst=some t:=λe=>E4 i2 hx e rfl
    rw[aZ hy,a6 hx,a6 hx,NS m2 i8]
   .by_cases hy:y.1.dst=some t
    .rw [a6 hy,aZ hx,a6 hy,NS m1 i7]
    .rw [aZ hy,aZ hx,aZ hx,aZ hy,ang _ m1 m2]
  .by_cases ex:x.2.f.id=some id
   .have ey:y.2.f.id≠some id:=λe=>E4 i6 ex e rfl
    rw[vK _ _ _ _ m2 qP ey,AE,AE,AF,AF,vK _ _ _ _ m2 hy ey]
   .rw [vK _ _ x.2 _ m1 xj ex];rw[AE,AE,AF,AF,vK _ _ _ _ m1 hx ex]
end
section
variable {P:Program} {K:World->Prop} {T:List TI} {O:qu} {gZ:Array Oper}
def wN(P:Program)(K:World->Prop)(T:List TI)(gZ:Array Oper):List (Oper×kq)->PS->PS->Prop
 | [],σ,τ=>su σ τ
 |x::l,σ,τ=>(∃ O,rE P K T O gZ σ x.1=some x.2)/\wN P K T gZ l (σ.app x.1.dst x.2) τ
def wN.qE{l:List (Oper×kq)}{σ σ2 τ:PS}(h:wN P K T gZ l σ τ)(hs:su σ σ2):wN P K T gZ l σ2 τ:=by
 induction l generalizing σ σ2 with
 |nil=>exact hs.symm.trans h
 |cons x l ih=>exact⟨h.1.imp λ_ h=>adU h hs,ih h.2 (aaD hs _ _)⟩
def wN.aep{A C:List (Oper×kq)}{y:Oper×kq}{σ τ:PS}(h:wN P K T gZ (A++y::C) σ τ)(hi:∀ x,x ∈ A->CH gZ x y=true):
 (∃ O,rE P K T O gZ σ y.1=some y.2)/\wN P K T gZ (A++C) (σ.app y.1.dst y.2) τ:=by
 induction A generalizing σ with
 |nil=>exact h
 |cons x A ih=>
  obtain⟨⟨O1,h1⟩,h2⟩:=h;obtain⟨⟨O2,k1⟩,k2⟩:=ih h2 λz hz=>hi z (by simp[hz])
  obtain⟨s1,s2,s3⟩:=amh (hi x aH) h1 k1;exact⟨⟨O2,s1⟩,⟨O1,s2⟩,k2.qE s3⟩
end
section
variable {P:Program} {K:World->Prop} {T:List TI} {O:qu} {w0:World} {B:Nat->Prop} {σ τ:PS} {o:Oper} {a:Act} {w:World} {L:Lk} {u:kq} {gZ:Array Oper}
def ZX(r:iZ w0 B σ a w L){b:Bool}(h:Ar gZ σ o=some b):Region.wanted o (yielded gZ a.tmps)=b:=by
 unfold Ar at h;unfold Region.wanted;split at h
 .rename_i hg;rw[hg];simpa using h
 .rename_i j want hg;rw[hg];simp only;split at h
  .rename_i t ht;have hv:=r.ht t;have key:∀ q:Bool,σ.get t = .e (.v (.bool q))->yielded gZ a.tmps j=some q:=by
    intro q hq;rw[hq]at hv;have hv:=iC.kC hv;unfold yielded;rw[ht];simp only[Option.bind_some];have iB:a.tmps[t]? = some (.bool q):=by
     by_cases hs:t<a.tmps.size
     .simpa [hs]using hv
     .simp [hs,undef]at hv
    rw[iB]
   split at h
   .rename_i hq;rw[key true hq];simp only[bA]at h;subst h;cases want<;>rfl
   .rename_i hq;rw[key false hq];simp only[bA]at h;subst h;cases want<;>rfl
   .rename_i q hq;rw[hq]at hv;have hv:=iC.kC hv;have hn:yielded gZ a.tmps j=none:=by
     unfold yielded;rw[ht];simp only[Option.bind_some];by_cases hs:t<a.tmps.size
     .rw [show a.tmps[t]? = some (.tuple q)by simpa[hs]using hv]
     .simp [hs]
    rw[hn];simp only[bA]at h;subst h;cases want<;>rfl
   .cases h
  .cases h
def SN(hT:mH P T)(g:Gd P K w0 B)(r:iZ w0 B σ a w L)(h:rE P K T O gZ σ o=some u)(ho:∀ q,q ∈ u.jB->q)(Kc:Act->World->Prop)(Q:Exit->Act->World->Prop)
 (hk:∀ a' w' L',iZ w0 B (σ.app o.dst u) a' w' L'->Kc a' w'):
 (Region.wanted o (yielded gZ a.tmps)=true/\o.wp P a w Kc Q)\/(Region.wanted o (yielded gZ a.tmps)=false/\Kc (a.put o.dst undef) w):=by
 obtain⟨hi,_,⟨hw,u0,h0,rfl⟩|⟨hw,rfl⟩⟩:=DN h
 .refine .inl ⟨ZX r hw,adW hT g r h0 ho Kc Q λv w' L' hr hp=>hk _ w' L' ?_⟩;have mC:wc (σ.oe u0.f) o.dst=true:=by cases hd:o.dst<;>rw[hd]at hi<;>exact hi
  exact hr.put o.dst u0.r v mC hp
 .exact .inr ⟨ZX r hw,hk _ w L (r.put o.dst (.e (.v (.tuple #[]))) undef hi (.v _))⟩
structure Left(gZ:Array Oper)(listed:Array Bool)(R:List (Nat×Oper×kq)):Prop where
 mv:∀ x,x ∈ R->gZ[x.1]? = some x.2.1/\listed.getD x.1 true=false
 all:∀ i,i<gZ.size->listed.getD i true=false->∃ x,x ∈ R/\x.1=i
 pw:R.Pairwise λx y=>x.1<y.1/\(Bz gZ 3 y.2.1 x.1||CH gZ x.2 y.2)=true
 ed:∀ x,x ∈ R->∀ e,e ∈ x.2.1.after->Region.binds .any e=true->e.on<x.1
 up:∀ x,x ∈ R->∀ j z,gZ[j]? = some z->CJ z x.1=true->listed.getD j true=false
def Left.Bz{listed:Array Bool}{R:List (Nat×Oper×kq)}(h:Left gZ listed R){x:Nat×Oper×kq}(hx:x ∈ R):∀ (n:Nat) (j:Nat) (z:Oper),gZ[j]? = some z->Pu.Bz gZ n z x.1=true ->
 listed.getD j true=false/\∃ e,e ∈ z.after/\Region.binds .any e=true/\listed.getD e.on true=false/\e.on<gZ.size:=by
 have direct:∀ (j:Nat) (z:Oper),gZ[j]? = some z->CJ z x.1=true->listed.getD j true=false/\∃ e,e ∈ z.after/\Region.binds .any e=true/\listed.getD e.on true=false/\e.on<gZ.size:=by
  intro j z hz he;refine⟨h.up x hx j z hz he,?_⟩;unfold CJ at he;obtain⟨e,mB,lF⟩:=dz.1 he;simp only[bF]at lF;have qi:=h.mv x hx;refine⟨e,by simpa using mB,lF.1,?_,?_⟩
  .rw [kO.1 lF.2];exact qi.2
  .rw [kO.1 lF.2];exact(cT.1 qi.1).1
 intro n
 induction n with
 |zero=>exact direct
 |succ n ih=>
  intro j z hz hr;simp only[Pu.Bz,ev]at hr;rcases hr with hr|hr
  .exact direct j z hz hr
  .obtain ⟨e,mB,lF⟩:=dz.1 hr;simp only[bF]at lF;obtain⟨lF,M3⟩:=lF;split at M3
   .rename_i z' xY;obtain⟨k1,_⟩:=ih e.on z' xY M3;have iB:=(cT.1 xY).1;obtain⟨x',xj,Eg⟩:=h.all e.on iB k1;refine⟨h.up x' xj j z hz ?_,e,by simpa using mB,lF,k1,iB⟩;unfold CJ;refine dz.2 ⟨e,mB,?_⟩;rw[lF,Eg];simp
   .cases M3
def O3{md:Region.Mode}{listed:Array Bool}{i:Nat}:i ∈ Region.ready md gZ listed↔i<gZ.size/\listed.getD i true=false/\∃ o,gZ[i]? = some o/\∀ e,e ∈ o.after->Region.binds md e=true->listed.getD e.on false=true:=by
 unfold Region.ready;rw[List.mem_filter];simp only[bS,bF,dO];constructor
 .rintro ⟨h1,h2,h3⟩;refine⟨h1,h2,gZ[i],by simp[h1],λe he hb=>?_⟩;rw[Array.getElem?_eq_getElem h1]at h3;simp only[ct,aou,aoM]at h3;have:=h3 e he;simpa[hb]using this
 .rintro ⟨h1,h2,o,h3,h4⟩;refine⟨h1,h2,?_⟩;rw[h3];simp only[ct,aou,aoM];intro e he;cases hb:Region.binds md e with
  |false=>rfl
  |true=>simpa using h4 e he hb
def aaz(hT:mH P T)(g:Gd P K w0 B){Q:Exit->Act->World->Prop}(hq:∀ a' w' L',iZ w0 B τ a' w' L'->Q .normal a' w'):
 ∀ (fuel:Nat) (listed:Array Bool) (R:List (Nat×Oper×kq)) (σ:PS) (a:Act) (w:World) (L:Lk),R.length=fuel->listed.size=gZ.size->Left gZ listed R->(∀ x,x ∈ R->∀ q,q ∈ x.2.2.jB->q) ->
  wN P K T gZ (R.map (·.2)) σ τ->iZ w0 B σ a w L->wpAny P .any gZ Q fuel listed a w:=by
 intro fuel
 induction fuel with
 |zero=>
  intro listed R σ a w L hlen D4 hleft ho JL r;have hR:=di hlen;subst hR;refine⟨?_,hq a w L (r.qE JL)⟩;apply List.eq_nil_iff_forall_not_mem.2;intro i hi;obtain⟨h1,h2,_⟩:=O3.1 hi;obtain⟨x,hx,_⟩:=hleft.all i h1 h2;simp at hx
 |succ fuel ih=>
  intro listed R σ a w L hlen D4 hleft ho JL r;refine⟨λCq=>?_,λi hi=>?_⟩
  .
   exfalso;cases R with
   |nil=>simp at hlen
   |cons x R=>
    have hx:=hleft.mv x aH;have iB:x.1<gZ.size:=(cT.1 hx.1).1;have:x.1 ∈ Region.ready .any gZ listed:=O3.2 ⟨iB,hx.2,x.2.1,hx.1,λe he hb=>by
     have Eb:=hleft.ed x aH e he hb;cases hl:listed.getD e.on true with
     |true=>
      have:e.on<listed.size:= aC ;simp[this]at hl ⊢;exact hl
     |false=>
      exfalso;obtain⟨y,hy,Eh⟩:=hleft.all e.on aC hl;rcases cV.1 hy with hy|hy
      .subst hy;omega
      .have:=(aov.1 hleft.pw).1 y hy;omega⟩
    rw[Cq]at this;simp at this
  .obtain ⟨h1,h2,o,h3,h4⟩:=O3.1 hi;obtain⟨y,hy,hyi⟩:=hleft.all i h1 h2;subst hyi;obtain⟨A,C,rfl⟩:=List.append_of_mem hy;have JS:=hleft.mv y hy;have afY:∀ x,x ∈ A->CH gZ x.2 y.2=true:=by
    intro x hx;have hp:=(aow.1 hleft.pw).2.2 x hx y aH;rcases Bool.or_eq_true_iff.1 hp.2 with he|he
    .exfalso;obtain⟨_,e,mB,lF,lW,iB⟩:=hleft.Bz (show x ∈ A++y::C by simp[hx]) 3 y.1 y.2.1 JS.1 he;have sQ:o=y.2.1:=by rw[JS.1]at h3;exact(aox h3).symm
     have hl:=h4 e (by rw[sQ];exact mB) lF;have qc:e.on<listed.size:=by rw[D4];exact iB
     simp[qc]at hl lW;rw[hl]at lW;cases lW
    .exact he
   rw[gv,eo]at JL;obtain⟨⟨O,k1⟩,k2⟩:=JL.aep (λx hx=>by
    obtain⟨z,hz,rfl⟩:=cX.1 hx;exact afY z hz)
   have af2:Left gZ (listed.setIfInBounds y.1 true) (A++C):=by
    have jl:∀ x,x ∈ A++C->x.1≠y.1:=by
     intro x hx;rcases dr.1 hx with hx|hx
     .have:=((aow.1 hleft.pw).2.2 x hx y aH).1;omega
     .have:=((aov.1 (aow.1 hleft.pw).2.1).1 x hx).1;omega
    have Bg:∀ x,x ∈ A++C->x ∈ A++y::C:=λx hx=>by
     rcases dr.1 hx with hx|hx<;>simp[hx]
    refine⟨λx hx=>?_,λj hj hl=>?_,?_,λx hx=>hleft.ed x (Bg x hx),λx hx j z hz he=>?_⟩
    .obtain ⟨q1,q2⟩:=hleft.mv x (Bg x hx);refine⟨q1,?_⟩;have qc:x.1<listed.size:=by rw[D4];exact(cT.1 q1).1
     simp[qc]at q2 ⊢;rw[aoy _ (λe=>jl x hx e.symm)];exact q2
    .have Jw:j<listed.size:= aC ;by_cases D2:j=y.1
     .subst D2;simp[Jw]at hl
     .have:listed.getD j true=false:=by
       simp[Jw]at hl ⊢;rw[aoy _ (λe=>D2 e.symm)]at hl;exact hl
      obtain⟨x,hx,UU⟩:=hleft.all j hj this;refine⟨x,?_,UU⟩;rcases dr.1 hx with hx|hx
      .simp [hx]
      .rcases cV.1 hx with hx|hx
       .subst hx;exact absurd UU.symm D2
       .simp [hx]
    .exact hleft.pw.sublist (List.Sublist.append (List.Sublist.refl A) (List.sublist_cons_self y C))
    .have q:=hleft.up x (Bg x hx) j z hz he;have Jw:j<listed.size:=by rw[D4];exact(cT.1 hz).1
     by_cases D2:j=y.1
     .exfalso;subst D2;rw[JS.1]at hz h3;cases hz;cases h3;unfold CJ at he;obtain⟨e,mB,lF⟩:=dz.1 he;simp only[bF]at lF;have hl:=h4 e (by simpa using mB) lF.1;rw[kO.1 lF.2]at hl;have lW:=(hleft.mv x (Bg x hx))
      have qc:x.1<listed.size:=by rw[D4];exact(cT.1 lW.1).1
      have lW:=lW.2;simp[qc]at hl lW;rw[hl]at lW;cases lW
     .simp [Jw]at q ⊢;rw[aoy _ (λe=>D2 e.symm)];exact q
   unfold wpOp;rw[JS.1];simp only;rcases SN hT g r k1 (ho y aH) (wpAny P .any gZ Q fuel (listed.setIfInBounds y.1 true)) Q (λa' w' L' hr=>ih _ (A++C) _ a' w' L' (by simp at hlen ⊢;omega) (by simpa using D4) af2 (λx hx=>ho x (by
    rcases dr.1 hx with hx|hx<;>simp[hx])) (by rw[gv];exact k2) hr)with⟨p1,p2⟩|⟨p1,p2⟩
   .rw [a6 p1];exact .inl p2
   .rw [aZ (by rw[p1];simp)];exact p2
def ahf{us:List (Oper×kq)}(zD:us.map (·.1)=gZ.toList)(hp:EF gZ 0 us=true):
 ∃ R:List (Nat×Oper×kq),R.map (·.2)=us/\R.length=gZ.size/\Left gZ (Array.replicate gZ.size false) R:=by
 have key:∀ (us:List (Oper×kq)) (k:Nat),EF gZ k us=true->(∀ j x,us[j]? = some x->gZ[k+j]? = some x.1) ->
  ∃ R:List (Nat×Oper×kq),R.map (·.2)=us/\(∀ j x,R[j]? = some x->x.1=k+j)/\(∀ x,x ∈ R->gZ[x.1]? = some x.2.1)/\(R.Pairwise λx y=>x.1<y.1/\(Bz gZ 3 y.2.1 x.1||CH gZ x.2 y.2)=true) /\
   (∀ x,x ∈ R->∀ e,e ∈ x.2.1.after->Region.binds .any e=true->e.on<x.1):=by
  intro us
  induction us with
  |nil=>exact λk _ _=>⟨[],rfl,λj x h=>by simp at h,λx h=>by simp at h,List.Pairwise.nil,λx h=>by simp at h⟩
  |cons x us ih=>
   intro k hp qi;simp only[EF,bF]at hp;obtain⟨R,r1,r2,r3,r4,r5⟩:=ih (k+1) hp.2 (λj y hy=>by have:=qi (j+1) y (by simpa using hy);rwa[(aC:k+(j+1)=k+1+j)]at this);have sO:∀ y,y ∈ R->k<y.1/\y.2 ∈ us:=by
    intro y hy;obtain⟨j,hj⟩:=dk.1 hy;have:=r2 j y hj;exact⟨aC,by rw[<-r1];exact cX.2 ⟨y,hy,rfl⟩⟩
   refine⟨(k,x)::R,by simp[r1],λj y hy=>?_,λy hy=>?_,?_,λy hy=>?_⟩
   .cases j with
    |zero=>simp at hy;subst hy;rfl
    |succ j=>have:=r2 j y (by simpa using hy);omega
   .rcases cV.1 hy with hy|hy
    .subst hy;have:=qi 0 x rfl;simpa using this
    .exact r3 y hy
   .rw [aov];refine⟨λy hy=>⟨(sO y hy).1,?_⟩,r4⟩;exact bM.1 hp.1.2 y.2 (sO y hy).2
   .rcases cV.1 hy with hy|hy
    .subst hy;intro e he hb;have:=bM.1 hp.1.1 e (by simpa using he);simpa[hb]using this
    .exact r5 y hy
 obtain⟨R,r1,r2,r3,r4,r5⟩:=key us 0 hp (λj x hx=>by
  rw[b5];have:=congrArg (·[j]?) zD;simp only[b6,hx,ct]at this;simpa using this.symm)
 have hlen:R.length=gZ.size:=by
  have h1:=congrArg List.length r1;have h2:=congrArg List.length zD;simp at h1 h2;omega
 refine⟨R,r1,hlen,λx hx=>⟨r3 x hx,?_⟩,λi hi _=>?_,r4,r5,λx hx j z hz _=>by have:=(cT.1 hz).1;simp[this]⟩
 .have:=(cT.1 (r3 x hx)).1;simp[this]
 .have mC:i<R.length:= aC ;exact⟨R[i],cA mC,by have:=r2 i R[i] (bu mC);omega⟩
end
def PS.le(σ τ:PS):Prop:=∀ (w0:World) (B:Nat->Prop) (a:Act) (w:World) (L:Lk),(∀ b,B b->b<w0.heap.size)->iZ w0 B σ a w L->∃ L',iZ w0 B τ a w L'
def PS.le.refl(σ:PS):PS.le σ σ:=λ_ _ _ _ L _ r=>⟨L,r⟩
def PS.le.trans{σ τ υ:PS}(h:PS.le σ τ)(k:PS.le τ υ):PS.le σ υ:=λw0 B a w L g r=>let⟨L',r'⟩:=h w0 B a w L g r;k w0 B a w L' g r'
def PV.le.refl(p:PV):PV.le p p:=λ_ _ _ _ _ h=>h
def Bx.le(a b:Bx):Prop:=(a.nl=true->b.nl=true)/\∀ (bs br:Nat->Prop) (L:Lk) (w:World) (id:Nat),nx bs br L w id a->nx bs br L w id b
def Bx.le.refl(a:Bx):Bx.le a a:=⟨id,λ_ _ _ _ _ h=>h⟩
def xB(σ:PS):List (Nat×PV)->Prop
 | []=>True
 | (k,p)::l=>PV.le (σ.get k) p/\xB σ l
def wK(σ:PS):List (Nat×Bx)->Prop
 | []=>True
 | (id,b)::l=>(∃ b',σ.bo id=some b'/\Bx.le b' b)/\wK σ l
def G9(τ:PS):Bool:=(τ.t.all λx=>x.2.kV.all λid=>(look τ.b id).isSome)&&(τ.b.all λx=>x.2.kV.all λid=>(look τ.b id).isSome)
def GC{α:Type}{l:List (Nat×α)}{t:Nat}{x:α}(h:look l t=some x):(t,x) ∈ l:=by
 induction l with
 |nil=>cases h
 |cons y l ih=>
  obtain⟨k,z⟩:=y;rw[sX]at h;split at h
  .rename_i e;cases h;subst e;exact .head _
  .exact .tail _ (ih h)
def xB.get{σ:PS}{l:List (Nat×PV)}(h:xB σ l){t:Nat}{p:PV}(k:look l t=some p):PV.le (σ.get t) p:=by
 induction l with
 |nil=>cases k
 |cons y l ih=>
  obtain⟨q,z⟩:=y;rw[sX]at k;split at k
  .rename_i e;cases k;subst e;exact h.1
  .exact ih h.2 k
def wK.get{σ:PS}{l:List (Nat×Bx)}(h:wK σ l){t:Nat}{b:Bx}(k:look l t=some b):∃ b',σ.bo t=some b'/\Bx.le b' b:=by
 induction l with
 |nil=>cases k
 |cons y l ih=>
  obtain⟨q,z⟩:=y;rw[sX]at k;split at k
  .rename_i e;cases k;subst e;exact h.1
  .exact ih h.2 k
def PS.le.pj{σ τ:PS}(hn:σ.n=τ.n)(jG:τ.nl=σ.nl)(hr:G9 τ=true)(ht:xB σ τ.t)(hb:wK σ τ.b):PS.le σ τ:=λw0 B a w L _ r=>by
 let L':Lk:=⟨λid=>L.me id/\(τ.bo id).isSome=true,λid x=>L.own id x/\(τ.bo id).isSome=true,L.val,L.iH⟩
 have iB:rz L w L' w:=⟨bg _,λx _ ⟨id,h,_⟩=>⟨id,h⟩,λ_ _ _=>rfl⟩
 refine⟨L',r.hd,by rw[<-hn];exact r.hs,λt=>?_,λid b h=>?_,λid=>?_,λid x h=>⟨r.hn id x h.1,h.2⟩,λid x h=>r.hw id x h.1,λid id' x h k=>r.hi id id' x h.1 k.1,r.he,λh id b k=>?_⟩
 .have hg:τ.get t=((look τ.t t)).getD (.e .any):=rfl;cases hl:look τ.t t with
  |none=>rw[hg,hl];exact .any _
  |some p=>
   rw[hg,hl];have:=ht.get hl _ _ _ _ _ (r.ht t);refine kQ.move iB this λid hid pH=>⟨⟨pH,?_⟩,rfl,λ_=>rfl⟩
   have q:=bM.1 (gJ.1 hr).1 _ (GC hl);exact bM.1 q id hid
 .obtain ⟨b',h1,h2⟩:=hb.get h;have hs:(τ.bo id).isSome=true:=by rw[h];rfl
  refine(h2.2 _ _ _ _ _ (r.hb id b' h1)).later iB rfl (λx=>⟨λq=>q.1,λq=>⟨q,hs⟩⟩) (λ_=>rfl) (λ_ _=>rfl) λp v hp k=>kQ.move iB k λid hid pH=>⟨⟨pH,?_⟩,rfl,λ_=>rfl⟩
  have q:=bM.1 (gJ.1 hr).2 _ (GC h);exact bM.1 q id (dj.2 ⟨p,hp,hid⟩)
 .show L.me id/\(τ.bo id).isSome=true↔(τ.bo id).isSome=true;refine⟨λh=>h.2,λh=>⟨(r.hv id).2 ?_,h⟩⟩;obtain⟨b,jg⟩:=gI.1 h;obtain⟨b',h1,_⟩:=hb.get jg;rw[h1];rfl
 .obtain ⟨b',h1,h2⟩:=hb.get k;exact h2.1 (r.hl (by rw[<-jG];exact h) id b' h1)
def Fw(σ:PS):List Nat->List (Nat×Bx)
 | []=>[]
 |i::l=>match σ.bo i with
  |some b=>(i,b)::Fw σ l
  |none=>Fw σ l
def PS.cut(ts bs:List Nat)(σ:PS):PS:={ n:=σ.n,nl:=σ.nl,t:=ts.map λt=>(t,σ.get t),b:=Fw σ bs }
def xB.cut(σ:PS):∀ ts:List Nat,xB σ (ts.map λt=>(t,σ.get t))
 | []=>trivial
 |_::l=>⟨PV.le.refl _,xB.cut σ l⟩
def wK.cut(σ:PS):∀ bs:List Nat,wK σ (Fw σ bs)
 | []=>trivial
 |i::l=>by
  unfold Fw;split
  .rename_i b h;exact⟨⟨b,h,Bx.le.refl b⟩,wK.cut σ l⟩
  .exact wK.cut σ l
def PS.le.cut{σ:PS}(ts bs:List Nat)(hr:G9 (σ.cut ts bs)=true):PS.le σ (σ.cut ts bs):=PS.le.pj rfl rfl hr (xB.cut σ ts) (wK.cut σ bs)
def Ex.to:Ex->Exit
 | .normal=>.normal
 | .exit id=>.exit id
 | .ret=>.ret
def Sp(P:Program)(K:World->Prop)(c:Code)(σ:PS)(Q:Ex->PS->Prop):Prop:=
 ∀ (w0:World) (B:Nat->Prop) (a:Act) (w:World) (L:Lk),Gd P K w0 B->iZ w0 B σ a w L->c.wp P (λe a' w'=>∃ ex τ L',e=ex.to/\Q ex τ/\iZ w0 B τ a' w' L') a w
def Sp.mono{P:Program}{K:World->Prop}{c:Code}{σ:PS}{Q Q':Ex->PS->Prop}(h:Sp P K c σ Q)(hq:∀ e τ,Q e τ->Q' e τ):Sp P K c σ Q':=
 λw0 B a w L g r=>Code.wp_mono (λ_ _ _ ⟨ex,τ,L',h1,h2,h3⟩=>⟨ex,τ,L',h1,hq _ _ h2,h3⟩) (h w0 B a w L g r)
abbrev Lo:=List (Nat×(Ex×PS×List Nat×List Nat))
section
variable {P:Program} {K:World->Prop} {T:List TI} {O:qu} {lo:Lo}
def Sp.loop{b:Code}{Q:Ex->PS->Prop}(J:Nat->PS->Prop)(lf:∀ n σ,J n σ->Sp P K b σ (λe τ=>(e = .normal/\∃ m,m<n/\J m τ)\/(e ≠ .normal/\Q e τ))):
 ∀ n σ,J n σ->Sp P K (.loop b) σ Q:=by
 intro n0 σ0 hJ0 w0 B a0 w1 L0 g r0 bf k cs;have key:∀ n σ a w L,J n σ->iZ w0 B σ a w L ->
  ∃ e a' w',(∃ ex τ L',e=ex.to/\Q ex τ/\iZ w0 B τ a' w' L')/\Arrives P (lone (bf.at a (.code b :: .inLoop b::k)) cs w) bf k cs e a' w':=by
  intro n
  induction n using Nat.strongRecOn with
  |_ n ih=>
   intro σ a w L hJ r;obtain⟨e,a₁,w₁,⟨ex,υ,L2,rfl,hq,nR⟩,tz⟩:=lf n σ hJ w0 B a w L g r bf (.inLoop b::k) cs;rcases hq with⟨rfl,m,hm,MF⟩|⟨jl,hq⟩
   .obtain ⟨e₂,a₂,w₂,Np,MV⟩:=ih m hm υ a₁ w₁ L2 MF nR;exact⟨e₂,a₂,w₂,Np,.of_steps (Steps.trans tz (.one step_inLoop)) MV⟩
   .cases ex with
    |normal=>exact absurd rfl jl
    |exit i=>exact⟨_,a₁,w₁,⟨.exit i,υ,L2,rfl,hq,nR⟩,.pass (x:=.inLoop b) rfl (λ_ _=>.inl (by simp[Ex.to])) tz⟩
    |ret=>exact⟨_,a₁,w₁,⟨.ret,υ,L2,rfl,hq,nR⟩,.pass (x:=.inLoop b) rfl (λ_ _=>.inl (by simp[Ex.to])) tz⟩
 obtain⟨e,a',w',hq,tz⟩:=key n0 σ0 a0 w1 L0 hJ0 r0;exact⟨e,a',w',hq,.of_steps (.one step_loop) tz⟩
def amM{w0:World}{B:Nat->Prop}{σ:PS}{a:Act}{w:World}{L:Lk}(hB:∀ b,B b->b<w0.heap.size)(r:iZ w0 B σ a w L){p:PV}{e:E}(h:Hr σ p=some e){v:Value}(hv:kQ (iS B L) (jm L) L w p v):
 iC B (λ_=>True) w e v:=by
 have T8:∀ id x,L.own id x->¬B x:=λid x hx hb=>by have:=hB x hb;have:=(r.hw id x hx).1;omega
 have own:∀ (v:Value) (T:TypeId) (n sz:Nat) (f:Nat->Nat->Value) (nl:Bool) (el:Nat->Nat->E) (id:Nat),nE w v T n sz f nl->(∀ x,v.ownBlock=some x->L.own id x) ->
  (∀ i j,i<n->j<sz->iC (iS B L) (jm L) w (el i j) (f i j)/\(el i j).nr 2=true)->iC B (λ_=>True) w (.sl nl n sz el) v:=by
  intro v T n sz f nl el id h1 h2 h3;rcases h1 with⟨rfl,rfl⟩|⟨b,c,cur,rfl,hg,oG,nI,mJ,ke,jG⟩
  .exact .sl nl 0 sz el none 0 f (bg _) aE (λ_=>rfl) (λi j hi=>absurd hi (bj i)) (λi j hi=>absurd hi (bj i)) (λi j hi=>absurd hi (bj i)) (λi j hi=>absurd hi (bj i))
  .have sQ:=h2 b rfl;refine .sl nl n sz el _ c f oG (by unfold maxLen at nI;omega) (λh=>by cases h) (λi j hi hj=>⟨(ke i j hi hj).2,λhn=>jG hn _ (dG (ke i j hi hj).1)⟩) (λi j hi hj=>(h3 i j hi hj).2)
    (λi j hi hj=>⟨b,0,rfl,T8 id b sQ,(r.hw id b sQ).2,?_⟩) (λi j hi hj=>((h3 i j hi hj).1.qt (λ_ h=>.inl h) (λ_ h=>h)).nr 2 (h3 i j hi hj).2)
   rw[b5];simp only[World.cell?,hg];simpa using(ke i j hi hj).1
 cases p with
 |e x=>
  simp only[Hr]at h;split at h
  .rename_i hn;cases h;exact(iC.qt (bs':=B) (br':=jm L) (λ_ h=>.inl h) (λ_ h=>h) hv).nr 3 hn
  .cases h
 |own id=>
  obtain⟨_,rfl⟩:=hv;simp only[Hr]at h;split at h
  .rename_i nl T n sz el jg;cases h;obtain⟨f,h1,h2,h3⟩:=r.hb id _ jg;exact own _ T n sz f nl el id h1 (λx hx=>(h2 x).2 hx) h3
  .rename_i nl T1 T0 n sz len el jg;cases h;rcases r.hb id _ jg with⟨h1,h2,_⟩|ji
   .subst h2;rw[h1];exact .sl true 0 1 _ none 0 (λ_ _=>undef) (bg _) aE (λ_=>rfl) (λi j hi=>absurd hi (bj i)) (λi j hi=>absurd hi (bj i)) (λi j hi=>absurd hi (bj i)) (λi j hi=>absurd hi (bj i))
   obtain⟨b,c,cur,f,h1,h2,h3,h4,h5,h6,h7,h8,h9,qw,se⟩:=ji;have sQ:L.own id b:=(h9 b).2 (.inl rfl);rw[h1];refine .sl true n 1 _ _ c (λk _=>L.iH id k) h3 (by unfold maxLen at h4;omega) (λh=>by cases h) (λk j hk hj=>?_) (λk j hk hj=>rfl)
    (λk j hk hj=>⟨b,0,rfl,T8 id b sQ,(r.hw id b sQ).2,?_⟩) (λk j hk hj=>own _ T0 (len k) sz (f k) nl (el k) id (h8 k hk).1 (λx hx=>(h9 x).2 (.inr ⟨k,hk,hx⟩)) (h8 k hk).2)
   .obtain ⟨_,q1,q2⟩:=(h8 k hk).1.head;exact⟨q1,λ_=>q2⟩
   .rw [b5,b8];obtain rfl:j=0:= aC ;simp only[World.cell?,h2];simpa using h6 k hk aH 
  .cases h
 |iH id k=>
  obtain⟨_,rfl⟩:=hv;simp only[Hr]at h;split at h
  .rename_i nl T1 T0 n sz len el jg;split at h
   .rename_i hk;have hk:k<n:=by simpa[fm]using hk
    cases h;obtain⟨b,c,cur,f,h1,h2,h3,h4,h5,h6,h7,h8,h9,qw,se⟩:=(r.hb id _ jg).wG aC;exact own _ T0 (len k) sz (f k) nl (el k) id (h8 k hk).1 (λx hx=>(h9 x).2 (.inr ⟨k,hk,hx⟩)) (h8 k hk).2
   .cases h
  .cases h
 |_=>cases h
def C9(tmps:Array Value):ResultVar->Sem Value
 | .tmp t=>Pure.pure (tmps.getD t undef)
 | .cell q t=>do loadVar t (<-asAddr (tmps.getD q undef))
def O9(fn:Func)(tmps:Array Value):results fn tmps=(do
 let vs <-fn.results.mapM (C9 tmps)
 Pure.pure (if h:vs.size=1 then vs[0]else .tuple vs)):=by
 unfold results;congr 1
def akc{w0:World}{B:Nat->Prop}{σ:PS}{a:Act}{w:World}{L:Lk}(hT:mH P T)(hB:∀ b,B b->b<w0.heap.size)(r:iZ w0 B σ a w L){x:ResultVar}{e:E}(h:O7 T σ x=some e):
 ∃ v,(C9 a.tmps x).run P w = .ok v w/\iC B (λ_=>True) w e v:=by
 cases x with
 |tmp t=>exact⟨_,rfl,amM hB r h (r.ht t)⟩
 |cell q t=>
  simp only[O7]at h;split at h
  .rename_i ti qm;split at h
   .rename_i l is Nq;obtain⟨b,of,vs,e1,h1,h2,h3⟩:=r.read (r.ht q) Nq (λq hq=>by simp at hq);by_cases ha:ti.isAgg=true
    .rw [a6 ha]at h;split at h
     .rename_i hn;cases h;refine⟨.agg vs.toArray,?_,(iC.qt (bs':=B) (br':=jm L) (λ_ h=>.inl h) (λ_ h=>h) h1.agg).nr 3 hn⟩;simp only[C9,e1,asAddr,Sem.run_bind,Sem.run_pure,Result.andThen_ok,Yf hT w qm ha b of vs h2 h3]
     .cases h
    .rw [aZ ha]at h;split at h
     .rename_i y;split at h
      .rename_i hn;cases h;obtain⟨z,zs,rfl,hz,_⟩:=h1.mG;refine⟨z,?_,(iC.qt (bs':=B) (br':=jm L) (λ_ h=>.inl h) (λ_ h=>h) hz).nr 3 hn⟩;simp only[C9,e1,asAddr,Sem.run_bind,Sem.run_pure,Result.andThen_ok,KL hT w qm (by simpa using ha) b of z (by simpa using h3 0 z rfl)]
      .cases h
     .cases h
   .cases h
  .cases h
def aka{w0:World}{B:Nat->Prop}{σ:PS}{a:Act}{w:World}{L:Lk}(hT:mH P T)(hB:∀ b,B b->b<w0.heap.size)(r:iZ w0 B σ a w L){l:List ResultVar}{es:List E}(h:EM T σ l=some es):
 ∃ vs,(l.mapM (C9 a.tmps)).run P w = .ok vs w/\ki B (λ_=>True) w es vs:=by
 induction l generalizing es with
 |nil=>simp only[EM,bA]at h;subst h;exact⟨[],rfl,.nil _ _ _⟩
 |cons x l ih=>
  simp only[EM]at h;split at h
  .rename_i e es' h1 h2;cases h;obtain⟨v,q1,q2⟩:=akc hT hB r h1;obtain⟨vs,p1,p2⟩:=ih h2;refine⟨v::vs,?_,.cons q2 p2⟩;rw[fA];simp only[Sem.run_bind,q1,Result.andThen_ok,p1,Sem.run_pure]
  .cases h
def akb{w0:World}{B:Nat->Prop}{σ:PS}{a:Act}{w:World}{L:Lk}(hT:mH P T)(hB:∀ b,B b->b<w0.heap.size)(r:iZ w0 B σ a w L){fn:Func}{e:E}(h:KD T fn σ=some e):
 ∃ v,(results fn a.tmps).run P w = .ok v w/\iC B (λ_=>True) w e v:=by
 unfold KD at h;have main:∀ es,EM T σ fn.results.toList=some es->∃ vs:List Value,(fn.results.mapM (C9 a.tmps)).run P w = .ok vs.toArray w/\ki B (λ_=>True) w es vs:=by
  intro es F4;obtain⟨vs,h1,h2⟩:=aka hT hB r F4;refine⟨vs,?_,h2⟩;rw[aoN];simp only[Sem.run_map,h1,Result.andThen_ok]
 split at h
 .rename_i y hy;cases h;obtain⟨vs,h1,h2⟩:=main _ hy;obtain⟨v,vs',rfl,hv,Cq⟩:=h2.mG;have:=Cq.qU;subst this;refine⟨v,?_,hv⟩;rw[O9,Sem.run_bind,h1];simp
 .rename_i l jl hl;cases h;obtain⟨vs,h1,h2⟩:=main _ hl;refine⟨.tuple vs.toArray,?_,h2.ix⟩;rw[O9,Sem.run_bind,h1];have hlen:¬vs.length=1:=by
   rw[h2.len];intro e1
   match l,e1 with
   | [y],_=>exact jl y rfl
  simp[hlen]
 .cases h
def agv(args:List E):∀ (k t:Nat),look (Gs k args) t=if k<=t then(args[t-k]?).map .e else none:=by
 induction args with
 |nil=>intro k t;simp[Gs,look]
 |cons x l ih=>
  intro k t;simp only[Gs];rw[sX,ih (k+1) t];by_cases h:k=t
  .subst h;simp
  .rw [aZ h];by_cases h2:k<=t
   .rw [a6 aC,a6 h2,(aC:t-k=(t-(k+1))+1)];simp
   .rw [aZ aC,aZ h2]
def iZ.init{B:Nat->Prop}{w:World}{fn:Func}{args:List E}{vs:List Value}(hr:ki B (λ_=>False) w args vs)(hn:args.length<=fn.ntmps)(nl:Bool)(_hB:∀ b,B b->b<w.heap.size/\oX w b):
 iZ w B (Bi fn nl args) { tmps:=vs.toArray++Array.replicate (fn.ntmps-vs.toArray.size) undef,defers:=[] } w ⟨λ_=>False,λ_ _=>False,λ_=>undef,λ_ _=>undef⟩:=by
 have hlen:=hr.len;refine⟨rfl,by simp[Bi];omega,λt=>?_,λid b hb=>(by cases hb),λid=>⟨λh=>h.elim,λh=>(by cases h)⟩,λ_ _ h=>h.elim,λ_ _ h=>h.elim,λ_ _ _ h=>h.elim,Below.refl _ _,λ_ id b hb=>(by cases hb)⟩;have hg:(Bi fn nl args).get t=((args[t]?).map PV.e).getD (.e .any):=by
  unfold PS.get Bi;rw[agv];simp
 rw[hg];by_cases ht:t<args.length
 .have JO:t<vs.length:= aC ;rw[bu ht];have hv:(vs.toArray++Array.replicate (fn.ntmps-vs.toArray.size) undef).getD t undef=vs[t]:=by
   simp[Array.getElem?_append,JO]
  show iC _ _ _ _ _;rw[hv];exact(hr.kH t _ _ (bu ht) (bu JO)).qt (λb h=>h.elim id λ⟨_,h⟩=>h.elim) (λ_ ⟨_,h⟩=>h.elim)
 .rw [cj aC];exact .any _
def PC.Oa(hT:mH P T)(hm:P.follows .mixedOrders=true)(hp:∀ w w',K w->Below w.heap.size w w'->K w'){f:FuncId}{fn:Func}{c:Code}{args:List E}{jQ:E}(wX:∀ (vs:Array Value) (w:World),(callFunc f vs).run P w = .ok (.enter f vs) w)
 (hf:P.funcs[f]? = some fn) (hb:fn.body=some c) (hn:args.length<=fn.ntmps) (nl:Bool)
 (h:Sp P K c (Bi fn nl args) (λe τ=>(e = .ret\/e = .normal)/\∃ r,KD T fn τ=some r/\∀ (bs br:Nat->Prop) (w:World) (v:Value),iC bs br w r v->iC bs br w jQ v)):PC P K f args jQ:=by
 refine⟨wX,λw B vs hK hB hr=>calls_of_wp hf hb ?_⟩;have xW:=iZ.init (fn:=fn) hr hn nl hB;refine Code.wp_mono ?_ (h w B _ w _ ⟨hK,hp,hB⟩ xW);rintro e a' w' ⟨ex,τ,L',rfl,⟨he,r,Gg,hle⟩,xh⟩;obtain⟨v,h1,h2⟩:=akb hT (λb hb=>(hB b hb).1) xh Gg;have Ge:a'.defers=[]/\∃ v,(results fn a'.tmps).run P w' = .ok v w'/\∃ v',Ending.returned v = .returned v'/\Below w.heap.size w w'/\iC B (λ_=>True) w' jQ v':=⟨xh.hd,v,h1,v,rfl,xh.he,hle _ _ _ _ h2⟩
 rcases he with rfl|rfl
 .exact Ge
 .exact Ge
def tW.Oa(hT:mH P T)(hm:P.follows .mixedOrders=true)(hp:∀ w w',K w->Below w.heap.size w w'->K w'){f:FuncId}{fn:Func}{c:Code}{args:List E}(wX:∀ (vs:Array Value) (w:World),(callFunc f vs).run P w = .ok (.enter f vs) w)
 (hf:P.funcs[f]? = some fn) (hb:fn.body=some c) (hn:args.length<=fn.ntmps) (nl:Bool) {nl':Bool} {T0:TypeId} {n sz:Nat} {el:Nat->Nat->E}
 (h:Sp P K c (Bi fn nl args) (λe τ=>(e = .ret\/e = .normal)/\∃ t id b,fn.results.toList=[.tmp t]/\τ.get t = .own id/\τ.bo id=some b/\∀ (bs br:Nat->Prop) (L:Lk) (w:World),nx bs br L w id b->nx bs br L w id (.row nl' T0 n sz el))):tW P K f args nl' T0 n sz el:=by
 refine⟨wX,λw B vs hK hB hr=>calls_of_wp hf hb ?_⟩;have xW:=iZ.init (fn:=fn) hr hn nl hB;refine Code.wp_mono ?_ (h w B _ w _ ⟨hK,hp,hB⟩ xW);rintro e a' w' ⟨ex,τ,L',rfl,⟨he,t,id,b,Gg,hg,jg,hle⟩,xh⟩;have ho:=xh.ht t;rw[hg]at ho;obtain⟨pH,hv⟩:=ho;obtain⟨f0,h1,h2,h3⟩:=hle _ _ _ _ (xh.hb id b jg);have kP:(results fn a'.tmps).run P w' = .ok (L'.val id) w':=by
  rw[O9,Sem.run_bind,aoN,Gg,Sem.run_map,fA];simp only[C9,Sem.run_bind,Sem.run_pure,Result.andThen_ok,List.mapM_nil,hv];simp
 have Ge:a'.defers=[]/\∃ v,(results fn a'.tmps).run P w' = .ok v w'/\∃ v',Ending.returned v = .returned v'/\Below w.heap.size w w'/\∃ g,nE w' v' T0 n sz g nl'/\(∀ x,v'.ownBlock=some x->w.heap.size<=x/\x<w'.heap.size) /\
  ∀ i j,i<n->j<sz->iC (λb=>B b\/v'.ownBlock=some b) (λ_=>True) w' (el i j) (g i j)/\(el i j).nr 2=true:=by
  refine⟨xh.hd,_,kP,_,rfl,xh.he,f0,h1,λx hx=>xh.hw id x ((h2 x).2 hx),λi j hi hj=>⟨?_,(h3 i j hi hj).2⟩⟩;refine((h3 i j hi hj).1.qt (bs':=λb=>B b\/(L'.val id).ownBlock=some b) (br':=jm L') (λb hb=>?_) (λ_ h=>h)).nr 2 (h3 i j hi hj).2;rcases hb with hb|hb
  .exact .inl hb
  .exact .inr ⟨id,(h2 b).2 hb⟩
 rcases he with rfl|rfl
 .exact Ge
 .exact Ge
end
def Ii(P:Program):List TI->Prop
 | []=>True
 |x::l=>(P.underlying x.id=some x.d/\P.info? x.id=some x.i)/\Ii P l
def Ii.ok{P:Program}{T:List TI}(h:Ii P T):mH P T:=by
 induction T with
 |nil=>intro x hx;simp at hx
 |cons y l ih=>
  intro x hx;rcases cV.1 hx with hx|hx
  .subst hx;exact h.1
  .exact ih h.2 x hx
def E.le(p q:E):Prop:=∀ (bs br:Nat->Prop) (w:World) (v:Value),iC bs br w p v->iC bs br w q v
def E.le.refl(p:E):E.le p p:=λ_ _ _ _ h=>h
def E.le.iT{p q:E}(h:p=q):E.le p q:=h▸E.le.refl p
def E.le.trans{p q r:E}(h:E.le p q)(k:E.le q r):E.le p r:=λ_ _ _ _ x=>k _ _ _ _ (h _ _ _ _ x)
def PV.le.e{p q:E}(h:E.le p q):aj p q:=λbs br _ w v k=>h bs br w v k
def PV.le.bool{a b:Bool}(h:a=b):aj (.v (.bool a)) (.v (.bool b)):=PV.le.e (.iT (by rw[h]))
def PV.le.int{k:IntKind}{a b:Int}(h:a=b):aj (.v (.int k a)) (.v (.int k b)):=PV.le.e (.iT (by rw[h]))
def aq(a b:Int)(h:a=b):aj (.v (.int .i64 a)) (.v (.int .i64 b)):=.int h
inductive tf:List E->List E->Prop
 |nil:tf [] []
 |cons {p q:E} {l m:List E} (h:E.le p q) (k:tf l m):tf (p::l) (q::m)
def tf.refl:∀ l:List E,tf l l
 | []=>.nil
 |p::l=>.cons (.refl p) (tf.refl l)
def tf.KC{l m:List E}(h:tf l m){bs br:Nat->Prop}{w:World}{vs:List Value}(k:ki bs br w l vs):ki bs br w m vs:=by
 induction h generalizing vs with
 |nil=>exact k
 |cons h _ ih=>
  obtain⟨x,ys,rfl,h1,h2⟩:=k.mG;exact .cons (h _ _ _ _ h1) (ih h2)
def E.le.agg{l m:List E}(h:tf l m):E.le (.agg l) (.agg m):=λ_ _ _ _ k=>by
 obtain⟨vs,rfl,hr⟩:=iC.BV k;exact(h.KC hr).agg
def E.le.ix{l m:List E}(h:tf l m):E.le (.ix l) (.ix m):=λ_ _ _ _ k=>by
 obtain⟨vs,rfl,hr⟩:=iC.ZK k;exact(h.KC hr).ix
def E.le.nil(nl:Bool)(sz:Nat)(el:Nat->Nat->E):E.le (.v (.slice none 0 0)) (.sl nl 0 sz el):=λ_ _ _ _ k=>by
 obtain rfl:=iC.kC k;exact .sl nl 0 sz el none 0 (λ_ _=>undef) (bg _) aE (λ_=>rfl) (λi j h=>absurd h (bj i)) (λi j h=>absurd h (bj i)) (λi j h=>absurd h (bj i)) (λi j h=>absurd h (bj i))
def E.le.sl{nl:Bool}{n sz:Nat}{el el':Nat->Nat->E}(h:∀ i j,i<n->j<sz->E.le (el i j) (el' i j)/\(el' i j).nr 2=true):E.le (.sl nl n sz el) (.sl nl n sz el'):=λbs br w v k=>by
 cases k with
 |sl _ _ _ _ A c f hc hm h0 hl hr cell kk=>
  exact .sl nl n sz el' A c f hc hm h0 hl (λi j hi hj=>(h i j hi hj).2) cell λi j hi hj=>(h i j hi hj).1 _ _ _ _ (kk i j hi hj)
def PC.le{P:Program}{K:World->Prop}{f:FuncId}{args args':List E}{jQ res':E}(h:PC P K f args jQ)(ha:tf args' args)(hr:E.le jQ res'):PC P K f args' res':=
 ⟨h.call,λw B vs hK hB rZ=>(h.run w B vs hK hB (ha.KC rZ)).mono λ_ _ ⟨v,h1,h2,h3⟩=>⟨v,h1,h2,hr _ _ _ _ h3⟩⟩
def PC.jQ{P:Program}{K:World->Prop}{f:FuncId}{args:List E}{jQ res':E}(h:PC P K f args jQ)(hr:E.le jQ res'):PC P K f args res':=h.le (tf.refl _) hr
end Go.Proofs.YtgdahmmlddfimaaGreatDoor.Pu
namespace Go.Proofs.YtgdahmmlddfimaaGreatDoor
open Go.RowKit Fp
def vj(A:Option Addr)(c:Nat)(L:List Nat)(w:World)(hs:Sl w A c L):
 Calls prog 263 #[.slice A L.length c] w λe w'=>e = .returned (.slice A (iG L).length c)/\w=w':=by
 have hc:=hs.cap;have hl:=hs.ri;go_enter func263,ntmps263;go_wp2;go_loop [3] (λi=>∃ k:Nat,k<=L.length/\i = .int .i64 k/\mR L=mR (L.take k)) (λi=>(intOf i).toNat)
 case atStart=>exact⟨L.length,bg _,rfl,aH⟩
 case round=>
  obtain⟨k,hk,rfl,ht⟩:=hrel;have HT:=aoX ht;clear ht;by_cases h0:0<k
  .obtain ⟨ab,ao,rfl,hb,h1⟩:=hs.mv (i:=k-1) aC ;have e1:((k:Int)-1).toNat=k-1:= aC ;have Z:=aoX (PQ L (k-1) aC);have NZ:=aoX (PO L (k-1) aC);rw[gr h0]at Z NZ;generalize L[k-1]=x at *
   by_cases hx:x=0
   .have Hx:=aoX hx;clear hx;have hb:((x:Int)==0)=true:=by have:=Hx.out;simp;omega
    go_wp2;go_round
    case rel=>exact⟨k-1,aC,by go_num,by rw[HT.out,Z.out Hx.out]⟩
    case measure=>simp[intOf];omega
   .have hb:((x:Int)==0)=false:= aN ;go_wp2;go_ret;exact⟨KG (by show _=mR L;rw[HT.out,NZ.out hx]),rfl⟩
  .go_wp2;go_ret;have:k=0:= aC ;subst this;exact⟨KG (by show _=mR L;rw[HT.out];rfl),rfl⟩
def adC(A:Option Addr)(c:Nat)(L:List Nat)(w:World)(hs:Sl w A c L):
 Calls prog 258 #[.slice A L.length c] w λe w'=>e = .returned (.slice A (iG L).length c)/\w=w':=by
 have hc:=hs.cap;have hl:=hs.ri;go_enter func258,ntmps258;go_wp2;go_loop [3] (λi=>∃ k:Nat,k<=L.length/\i = .int .i64 k/\mR L=mR (L.take k)) (λi=>(intOf i).toNat)
 case atStart=>exact⟨L.length,bg _,rfl,aH⟩
 case round=>
  obtain⟨k,hk,rfl,ht⟩:=hrel;have HT:=aoX ht;clear ht;by_cases h0:0<k
  .obtain ⟨ab,ao,rfl,hb,h1⟩:=hs.mv (i:=k-1) aC ;have e1:((k:Int)-1).toNat=k-1:= aC ;have Z:=aoX (PQ L (k-1) aC);have NZ:=aoX (PO L (k-1) aC);rw[gr h0]at Z NZ;generalize L[k-1]=x at *
   by_cases hx:x=0
   .have Hx:=aoX hx;clear hx;have hb:((x:Int)==0)=true:=by have:=Hx.out;simp;omega
    go_wp2;go_round
    case rel=>exact⟨k-1,aC,by go_num,by rw[HT.out,Z.out Hx.out]⟩
    case measure=>simp[intOf];omega
   .have hb:((x:Int)==0)=false:= aN ;go_wp2;go_ret;exact⟨KG (by show _=mR L;rw[HT.out,NZ.out hx]),rfl⟩
  .go_wp2;go_ret;have:k=0:= aC ;subst this;exact⟨KG (by show _=mR L;rw[HT.out];rfl),rfl⟩
def Sl.uC{w:World}{A:Option Addr}{c:Nat}{L:List Nat}(h:Sl w A c L):Sl w A c (iG L):=(h.take (mR L)).eqv (K1 L).symm
def abv:Go.Shelf.Ren:=⟨λ|128=>296|n=>n,λ|51=>171|3=>3|4=>4|46=>190|5=>5|9=>9|n=>n,λ|n=>n⟩
def abp:Go.Proofs.Lays.n128 prog abv:={
 mixed:= aF 
 f128:=func296.trans (congrArg some aF)
 t3:=underlying3
 a3:=Tryz.isAgg3
 z3:=Tryz.sizeOf3
 v3:=Tryz.zeroValue3
 t4:=underlying4
 a4:=Tryz.isAgg4
 z4:=Tryz.sizeOf4
 v4:=Tryz.zeroValue4
 t5:=underlying5
 a5:=Tryz.isAgg5
 z5:=Tryz.sizeOf5
 v5:=Tryz.zeroValue5
 t9:=underlying9
 a9:=Tryz.isAgg9
 z9:=Tryz.sizeOf9
 v9:=Tryz.zeroValue9
 t46:=underlying190
 a46:=Tryz.isAgg190
 z46:=Tryz.sizeOf190
 v46:=Tryz.zeroValue190
 t51:=underlying171
 a51:=Tryz.isAgg171
 z51:=Tryz.sizeOf171
 v51:=Tryz.zeroValue171 }
def VK(x:Nat)(hx:x<4294967296)(w:World):
 Calls prog 296 #[.int .u32 x] w λe w'=>e = .returned (.int .i64 (iq x))/\w=w':=by
 refine(Any.bits_Len32 abp x w aC aC).mono ?_;rintro e w' ⟨rfl,rfl⟩;rw[fT,abl x hx];exact⟨rfl,rfl⟩
def amX(x k idx:Nat)(w:World)(oz:((x:Int)==0)=false)
 (key:bits BinOp.and IntKind.u32 (x:Int) (-(x:Int)%4294967296)*125613361%4294967296/134217728=(idx:Int))
 (hi:idx<32) (hk:k<32) (ke:w.cell? ⟨0,idx,none⟩=some (.int .u8 k)):
 Calls prog 292 #[.int .u32 x] w λe w'=>e = .returned (.int .i64 k)/\w=w':=by
 go_enter func292,ntmps292;go_wp2_with (simp only[key])
 go_ret;exact⟨rfl,rfl⟩
def amW(x:Nat)(h0:x≠0)(hx:x<4294967296)(w:World)(hT:Tb w):
 Calls prog 292 #[.int .u32 x] w λe w'=>e = .returned (.int .i64 (jN x))/\w=w':=by
 rw[<-acW x h0 hx];obtain⟨D3,hk⟩:=Lib.lowest_bit 32 x h0 hx;obtain⟨hi,agh⟩:=Lib.deBruijn32_at _ hk;have ke:=hT _ hi;rw[agh]at ke;exact amX x _ _ w aN (tz32_key x _ hx h0 D3) hi hk ke
def i64_in(n:Int)(h0:-9223372036854775808<=n)(h1:n<=9223372036854775807):IntKind.i64.wrap n=n:=by rw[IntKind.wrap_i64];omega
def Rj{L M:List Nat}{n:Nat}(hs:iN L)(hM:iG L=M)(hn:M.length=n+1):
 ∃ x,M[n]? = some x/\x<4294967296/\(32*(n:Int)+(iq x:Int))=(iq (val L):Int)/\iq x<=32:=by
 have hk:iN M:=hM▸hs.iG;have ht:ny M:=hM▸An L;rcases aon M with rfl|⟨l,x,rfl⟩
 .simp at hn
 .simp only[aoo,cg,fO,Nat.add_right_cancel_iff]at hn hk ht hM ⊢;subst hn;have hx:x≠0:=by simpa using(BO _).1 ht aH 
  have iB:x<4294967296:=hk x aH;refine⟨x,aH,iB,?_,mj.2 iB⟩;have:=abu hk hx;rw[<-hM,qs]at this;omega
def Wr(A:Option Addr)(c:Nat)(L:List Nat)(w:World)(hs:Sl w A c L)(hlen:L.length<=100000000):
 Calls prog 265 #[.slice A L.length c] w λe w'=>e = .returned (.int .i64 (iq (val L)))/\w=w':=by
 have hT:=aoX (vj A c L w hs);have kJ:=hs.uC;have ot:=pV L;unfold mR at ot;generalize hM:iG L=M at *
 obtain⟨n,hn⟩:∃ n,n=M.length:=⟨_,rfl⟩
 rw[<-hn]at hT ot;rcases n with _|n
 .have hv:iq (val L)=0:=by rw[<-qs,hM,di hn.symm];rfl
  have HV:=aoX hv;clear hv hM hn;go_enter func265,ntmps265;go_wp2_with (go_at_call 263;refine hT.out.mono ?_;rintro e w' ⟨rfl,rfl⟩)
  go_ret;exact⟨by rw[HV.out];rfl,rfl⟩
 .obtain ⟨x,hx,iB,hb,afN⟩:=Rj hs.ok hM hn.symm;obtain⟨ab,ao,rfl,_,ke⟩:=kJ.cell _ _ hx;have HB:=aoX hb;clear hb hM hn hx;go_enter func265,ntmps265;go_wp2_with (first|(go_at_call 263;refine hT.out.mono ?_;rintro e w' ⟨rfl,rfl⟩)|(go_at_call 296;refine(VK x iB _).mono ?_;rintro e w' ⟨rfl,rfl⟩))
  go_ret;exact⟨oQ HB.out,rfl⟩
def abr{x:Nat}(h:x≠0):iq x=iq (x/2)+1:=by
 by_cases h1:x/2=0
 .have:x=1:= aC ;subst this;rfl
 .have e1:=tV h1;have e2:=sf (x/2);have e3:=o0 h1;generalize iq (x/2)=k at *
  obtain⟨j,rfl⟩:∃ j,k=j+1:=⟨k-1,aC⟩
  rw[eG]at e1;refine yR ?_ ?_
  .rw [bD];omega
  .rw [bD];omega
def XN(A:Option Addr)(c:Nat)(L:List Nat)(w:World)(hs:Sl w A c L)(ht:ny L)(hlen:L.length<=100000000):
 Calls prog 156 #[.slice A L.length c] w λe w'=>e = .returned (.int .i64 (iq (val L)))/\w=w':=by
 obtain⟨n,hn⟩:∃ n,n=L.length:=⟨_,rfl⟩
 rcases n with _|n
 .have hv:iq (val L)=0:=by rw[di hn.symm];rfl
  have HV:=aoX hv;rw[<-hn];clear hv ht hn;go_enter func156,ntmps156;go_wp2;go_ret;exact⟨by rw[HV.out];rfl,rfl⟩
 .obtain ⟨x,hx,iB,hb,afN⟩:=Rj hs.ok ht hn.symm;obtain⟨ab,ao,rfl,_,ke⟩:=hs.cell _ _ hx;have HB:=aoX hb;rw[<-hn]at hlen ⊢;clear hb ht hn hx;go_enter func156,ntmps156;go_wp2;go_loop [3,4] (λm y=>∃ (k z:Nat),z<4294967296/\y = .int .u32 z/\m = .int .i64 k/\k<=10000000000/\k+iq z=iq (val L)) (λ_ y=>(intOf y).toNat)
  case atStart=>exact⟨32*n,x,iB,rfl,by go_num,aC,by have:=HB.out;omega⟩
  case round=>
   obtain⟨k,z,hz,rfl,rfl,hk,he⟩:=hrel;have HE:=aoX he;clear he;by_cases h0:0<z
   .have hh:=aoX (abr (x:=z) aC);have wZ:k<=3300000000:=by have:=HE.out;have:=HB.out;omega
    go_wp2;go_round
    case rel=>exact⟨k+1,z/2,aC,by go_num,by go_num,aC,by rw[<-HE.out,hh.out];omega⟩
    case measure=>simp[intOf];omega
   .obtain rfl:z=0:= aC ;go_wp2;go_ret;exact⟨oQ (by rw[<-HE.out];rfl),rfl⟩
def RV{L M:List Nat}(hL:iN L)(h:(iG L).length<(iG M).length):kE (val L) (val M) = -1:=by
 have:=K6 hL.iG (An M) h;rw[qs,qs]at this;unfold kE;rw[a6 this]
def RU{L M:List Nat}(hM:iN M)(h:(iG M).length<(iG L).length):kE (val L) (val M)=1:=by
 have:=K6 hM.iG (An L) h;rw[qs,qs]at this;unfold kE;rw[aZ aC,a6 this]
def IM{M N:List Nat}(hM:iN M){k x y:Nat}(hl:M.length=N.length)(hx:M[k]? = some x)(hy:N[k]? = some y)(hd:M.drop (k+1)=N.drop (k+1))(h:x<y):val M<val N:=by
 obtain⟨h1,rfl⟩:=b7.1 hx;obtain⟨h2,rfl⟩:=b7.1 hy;exact am8 hM k h1 hl hd h
def Sj{M N:List Nat}{k x:Nat}(hx:M[k]? = some x)(hy:N[k]? = some x)(hd:M.drop (k+1)=N.drop (k+1)):M.drop k=N.drop k:=by
 obtain⟨h1,e1⟩:=b7.1 hx;obtain⟨h2,e2⟩:=b7.1 hy;rw[fc h1,fc h2,e1,e2,hd]
def J9(A B:Option Addr)(c d:Nat)(L M:List Nat)(w:World)(hs:Sl w A c L)(hr:Sl w B d M)(h1:L.length<=100000000)(_h2:M.length<=100000000):
 Calls prog 223 #[.slice A L.length c,.slice B M.length d] w λe w'=>e = .returned (.int .i64 (kE (val L) (val M)))/\iI w w':=by
 have hT:=aoX (vj A c L w hs);have hU:=aoX (vj B d M w hr);have kJ:=hs.uC;have nR:=hr.uC;have ot:=pV L;have w9:=pV M;unfold mR at ot w9;by_cases iB:(iG L).length<(iG M).length
 .have HV:=aoX (RV hs.ok iB);have jl:(((iG L).length:Int) != ((iG M).length:Nat))=true:= aN ;generalize (iG L).length=n at *
  generalize (iG M).length=m at *
  clear kJ nR;go_enter func223,ntmps223;go_wp2_with fail;refine hT.out.mono ?_;rintro e w' ⟨rfl,rfl⟩;go_wp2_with fail;refine hU.out.mono ?_;rintro e w' ⟨rfl,rfl⟩;go_wp2;go_ret;exact⟨oQ (by rw[HV.out]),iI.refl _⟩
 .by_cases F5:(iG M).length<(iG L).length
  .have HV:=aoX (RU hr.ok F5);have jl:(((iG L).length:Int) != ((iG M).length:Nat))=true:= aN ;generalize (iG L).length=n at *
   generalize (iG M).length=m at *
   clear kJ nR;go_enter func223,ntmps223;go_wp2_with fail;refine hT.out.mono ?_;rintro e w' ⟨rfl,rfl⟩;go_wp2_with fail;refine hU.out.mono ?_;rintro e w' ⟨rfl,rfl⟩;go_wp2;go_ret;exact⟨oQ (by rw[HV.out]),iI.refl _⟩
  .have hl:(iG L).length=(iG M).length:= aC ;have HL:=aoX hl;rw[<-hl]at hU w9;have e1:=qs L;have e2:=qs M;generalize iG L=P at *
   generalize iG M=Q at *
   have E1:=aoX e1;have E2:=aoX e2;clear e1 e2 hl F5 iB;obtain⟨n,hn⟩:∃ n,n=P.length:=⟨_,rfl⟩
   rw[<-hn]at hT hU w9 ot;have HN:=aoX hn;clear hn;have jl:((n:Int) != (n:Int))=false:= aH ;have okP:=kJ.ok;have C3:=nR.ok;go_enter func223,ntmps223;go_wp2_with fail;refine hT.out.mono ?_;rintro e w' ⟨rfl,rfl⟩;go_wp2_with fail;refine hU.out.mono ?_;rintro e w' ⟨rfl,rfl⟩;go_wp2;go_loopw [5] (λi wr=>∃ k:Nat,k<=n/\i = .int .i64 ((k:Int)-1)/\P.drop k=Q.drop k/\iI w wr) (λi _=>(intOf i+1).toNat)
   case atStart=>exact⟨n,bg _,rfl,by rw[dZ (by rw[<-HN.out];exact bg _),dZ (by rw[<-HL.out,<-HN.out];exact bg _)],iI.refl _⟩
   case round=>
    obtain⟨k,hk,rfl,hd,hb⟩:=hrel;have HD:=aoX hd;clear hd;rcases k with _|k
    .go_wp2;go_ret;have e:P=Q:=by simpa using HD.out
     exact⟨oQ (by rw[<-E1.out,<-E2.out,e];unfold kE;simp),hb⟩
    .have Cm:k<P.length:=by have:=HN.out;omega
     have zi:k<Q.length:=by have:=HN.out;have:=HL.out;omega
     have HP:=aoX (bu Cm);have HQ:=aoX (bu zi);obtain⟨ab,ao,rfl,_,c1⟩:=(kJ.below hb).mv Cm;obtain⟨bb,bo,rfl,_,c2⟩:=(nR.below hb).mv zi;have Jz:(k:Int)<n:= aC ;have og:(0:Int)<=k:= aC ;have x0:(0:Int)<=P[k]:= aC ;have y0:(0:Int)<=Q[k]:= aC ;generalize P[k]=x at *
     generalize Q[k]=y at *
     clear Cm zi;by_cases qO:x<y
     .have NA:(x:Int)<y:= aC ;go_wp2;go_quiet (fail);go_wp2;go_ret;have h:=IM okP HL.out HP.out HQ.out HD.out qO;rw[E1.out,E2.out]at h;exact⟨oQ (by unfold kE;rw[a6 h]),below_drewN hb _⟩
     .have NA:¬(x:Int)<y:= aC ;by_cases NB:y<x
      .have NC:(y:Int)<x:= aC ;go_wp2;go_quiet (fail);go_wp2;go_quiet (fail);go_wp2;go_ret;have h:=IM C3 HL.out.symm HQ.out HP.out HD.out.symm NB;rw[E1.out,E2.out]at h;exact⟨oQ (by unfold kE;rw[aZ aC,a6 h]),below_drewN (below_drewN hb _) _⟩
      .have NC:¬(y:Int)<x:= aC ;have HX:=aoX (aC:x=y);go_wp2;go_quiet (fail);go_wp2;go_quiet (fail);go_wp2;go_roundw
       case rel=>exact⟨k,aC,by go_num,Sj HP.out (by rw[HX.out];exact HQ.out) HD.out,by repeat (first|exact hb|refine below_drewN ?_ _)⟩
       case measure=>simp[intOf];try omega
def XP(A B:Option Addr)(c d:Nat)(P Q:List Nat)(w:World)(kJ:Sl w A c P)(nR:Sl w B d Q)(tP:ny P)(tQ:ny Q)(h1:P.length<=100000000)(_h2:Q.length<=100000000):
 Calls prog 97 #[.slice A P.length c,.slice B Q.length d] w λe w'=>e = .returned (.int .i64 (kE (val P) (val Q)))/\iI w w':=by
 have tP':iG P=P:=tP;have tQ':iG Q=Q:=tQ;by_cases iB:P.length<Q.length
 .have HV:=aoX (RV (M:=Q) kJ.ok (by rw[tP',tQ'];exact iB));have jl:((P.length:Int) != (Q.length:Nat))=true:= aN ;generalize P.length=n at *
  generalize Q.length=m at *
  clear kJ nR tP' tQ' tP tQ;go_enter func97,ntmps97;go_wp2;go_ret;exact⟨oQ (by rw[HV.out]),iI.refl _⟩
 .by_cases F5:Q.length<P.length
  .have HV:=aoX (RU (L:=P) nR.ok (by rw[tP',tQ'];exact F5));have jl:((P.length:Int) != (Q.length:Nat))=true:= aN ;generalize P.length=n at *
   generalize Q.length=m at *
   clear kJ nR tP' tQ' tP tQ;go_enter func97,ntmps97;go_wp2;go_ret;exact⟨oQ (by rw[HV.out]),iI.refl _⟩
  .have hl:P.length=Q.length:= aC ;have HL:=aoX hl;rw[<-hl];clear hl F5 iB tP' tQ' tP tQ _h2;obtain⟨n,hn⟩:∃ n,n=P.length:=⟨_,rfl⟩
   rw[<-hn]at h1 ⊢;have HN:=aoX hn;clear hn;have jl:((n:Int) != (n:Int))=false:= aH ;have okP:=kJ.ok;have C3:=nR.ok;go_enter func97,ntmps97;go_wp2;go_loopw [5] (λi wr=>∃ k:Nat,k<=n/\i = .int .i64 ((k:Int)-1)/\P.drop k=Q.drop k/\iI w wr) (λi _=>(intOf i+1).toNat)
   case atStart=>exact⟨n,bg _,rfl,by rw[dZ (by rw[<-HN.out];exact bg _),dZ (by rw[<-HL.out,<-HN.out];exact bg _)],iI.refl _⟩
   case round=>
    obtain⟨k,hk,rfl,hd,hb⟩:=hrel;have HD:=aoX hd;clear hd;rcases k with _|k
    .go_wp2;go_ret;have e:P=Q:=by simpa using HD.out
     exact⟨oQ (by rw[e];unfold kE;simp),hb⟩
    .have Cm:k<P.length:=by have:=HN.out;omega
     have zi:k<Q.length:=by have:=HN.out;have:=HL.out;omega
     have HP:=aoX (bu Cm);have HQ:=aoX (bu zi);obtain⟨ab,ao,rfl,_,c1⟩:=(kJ.below hb).mv Cm;obtain⟨bb,bo,rfl,_,c2⟩:=(nR.below hb).mv zi;have Jz:(k:Int)<n:= aC ;have og:(0:Int)<=k:= aC ;have x0:(0:Int)<=P[k]:= aC ;have y0:(0:Int)<=Q[k]:= aC ;generalize P[k]=x at *
     generalize Q[k]=y at *
     clear Cm zi;by_cases qO:x<y
     .have NA:(x:Int)<y:= aC ;go_wp2;go_quiet (fail);go_wp2;go_ret;have h:=IM okP HL.out HP.out HQ.out HD.out qO;exact⟨oQ (by unfold kE;rw[a6 h]),below_drewN hb _⟩
     .have NA:¬(x:Int)<y:= aC ;by_cases NB:y<x
      .have NC:(y:Int)<x:= aC ;go_wp2;go_quiet (fail);go_wp2;go_quiet (fail);go_wp2;go_ret;have h:=IM C3 HL.out.symm HQ.out HP.out HD.out.symm NB;exact⟨oQ (by unfold kE;rw[aZ aC,a6 h]),below_drewN (below_drewN hb _) _⟩
      .have NC:¬(y:Int)<x:= aC ;have HX:=aoX (aC:x=y);go_wp2;go_quiet (fail);go_wp2;go_quiet (fail);go_wp2;go_roundw
       case rel=>exact⟨k,aC,by go_num,Sj HP.out (by rw[HX.out];exact HQ.out) HD.out,by repeat (first|exact hb|refine below_drewN ?_ _)⟩
       case measure=>simp[intOf];try omega
def LP(A:Option Addr)(c:Nat)(L:List Nat)(w:World)(hs:Sl w A c L):
 Calls prog 260 #[.slice A L.length c] w λe w'=>e = .returned (.slice A L.length L.length)/\w=w':=by
 have hc:=hs.cap;have hl:=hs.ri;go_enter func260,ntmps260;go_wp2;go_ret;exact⟨rfl,rfl⟩
def Sl.RN{w:World}{A:Option Addr}{c:Nat}{L:List Nat}(h:Sl w A c L):Sl w A L.length L:=
 ⟨bg _,bk h.cap h.ri,h.ok,(λe=>by have:=h.yo e;have:=h.cap;omega),h.cell⟩
def LR(A:Option Addr)(c:Nat)(L:List Nat)(w:World)(hs:Sl w A c L)(hlen:L.length<=100000000):
 Calls prog 204 #[.slice A L.length c] w (uE w L):=by
 have hc:=hs.cap;have hl:=hs.ri;rcases A with _|ad
 .have h0:=hs.yo rfl;subst h0;have:L=[]:=di aC;subst this;have q:=λ(w:World) (n' c':Nat)=>Lib.run_eql_slice_nil (P:=prog) w 29 _ none 0 0 n' c' underlying29
  simp only[Option.isNone_none]at q;go_enter func204,ntmps204;go_wp2;go_ret;exact⟨none,0,rfl,Sl.nil _,iI.refl _⟩
 .have q:=λ(w:World) (n' c':Nat)=>Lib.run_eql_slice_nil (P:=prog) w 29 _ (some ad) L.length c n' c' underlying29
  simp only[Option.isNone_some]at q;go_enter func204,ntmps204;have kY:([]:List Nat).length+L.length<=10000000000:= aN ;have h1:=Ow.empty w w.heap.size (bg _);have h2:=hs.alloc (.cells #[] 171);have h3:=r8 (w:=w) (bg _) (.cells #[] 171);go_wp2_with (at_builtin;go_must (refine sG aG _ _ aG w.heap.size _ [] aG h1 _ _ _ L aG aG h2 kY h3 ?_);intro v' w' lM hg qi)
  obtain⟨A',c',rfl,ph⟩:=lM.sl;go_ret;exact⟨A',c',rfl,ph,(iI.alloc _ _).grown hg (r8 (bg _) _) (λk hk=>by simp[Value.ownBlock]at hk;omega)⟩
def EK(A:Option Addr)(c:Nat)(L:List Nat)(w:World)(hs:Sl w A c L)(hlen:L.length<=100000000):
 Calls prog 227 #[.slice A L.length c] w (uE w (iG L)):=by
 have hc:=hs.cap;have hl:=hs.ri;have fin:∀ k:Nat,k=(iG L).length->Hid (iG L=L.take k):=λk hk=>by rw[hk];exact K1 L
 go_enter func227,ntmps227;go_wp2;go_loop [3] (λi=>∃ k:Nat,k<=L.length/\i = .int .i64 k/\mR L=mR (L.take k)) (λi=>(intOf i).toNat)
 case atStart=>exact⟨L.length,bg _,rfl,aH⟩
 case round=>
  obtain⟨k,hk,rfl,ht⟩:=hrel;have HT:=aoX ht;clear ht;have kY:([]:List Nat).length+(L.take k).length<=10000000000:=by rw[b9];simp;omega
  have HK:=aoX (show k=(L.take k).length by rw[b9];omega);have h1:=Ow.empty w w.heap.size (bg _);have h2:=(hs.take k).alloc (.cells #[] 171);have h3:=r8 (w:=w) (bg _) (.cells #[] 171);by_cases h0:0<k
  .obtain ⟨ab,ao,rfl,hb,JR⟩:=hs.mv (i:=k-1) aC ;have e1:((k:Int)-1).toNat=k-1:= aC ;have Z:=aoX (PQ L (k-1) aC);have NZ:=aoX (PO L (k-1) aC);rw[gr h0]at Z NZ;generalize L[k-1]=x at *
   by_cases hx:x=0
   .have Hx:=aoX hx;clear hx;have hb:((x:Int)==0)=true:=by have:=Hx.out;simp;omega
    clear fin;go_wp2;go_round
    case rel=>exact⟨k-1,aC,by go_num,by rw[HT.out,Z.out Hx.out]⟩
    case measure=>simp[intOf];omega
   .have hb:((x:Int)==0)=false:= aN ;have F:=fin k (by show k=mR L;rw[HT.out,NZ.out hx]);clear fin;go_wp2_with (at_builtin;go_must (refine sG aG _ _ aG w.heap.size _ [] aG h1 _ _ _ (L.take k) aG HK.out h2 kY h3 ?_);intro v' w' lM hg qi)
    obtain⟨A',c',rfl,ph⟩:=lM.sl;go_ret;rw[F.out];exact⟨A',c',rfl,ph,(iI.alloc _ _).grown hg (r8 (bg _) _) (λk hk=>by simp[Value.ownBlock]at hk;omega)⟩
  .have:k=0:= aC ;subst this;have F:=fin 0 (by show 0=mR L;rw[HT.out];rfl);clear fin;go_wp2_with (at_builtin;go_must (refine sG aG _ _ aG w.heap.size _ [] aG h1 _ _ _ (L.take 0) aG HK.out h2 kY h3 ?_);intro v' w' lM hg qi)
   obtain⟨A',c',rfl,ph⟩:=lM.sl;go_ret;rw[F.out];exact⟨A',c',rfl,ph,(iI.alloc _ _).grown hg (r8 (bg _) _) (λk hk=>by simp[Value.ownBlock]at hk;omega)⟩
def VW(A:Option Addr)(n c:Nat)(w:World):
 Calls prog 268 #[.slice A n c] w λe w'=>e = .returned (.bool (decide (256<n)))/\w=w':=by
 by_cases h:256<n
 .have h':(256:Int)<n:= aC ;go_enter func268,ntmps268;go_wp2;go_ret;exact⟨by simp[h],rfl⟩
 .have h':¬(256:Int)<n:= aC ;go_enter func268,ntmps268;go_wp2;go_ret;exact⟨aH,rfl⟩
def Lr(w:World)(g:Nat)(xs:List (Option Addr×Nat×Nat)):Prop:=∀ i x,xs[i]? = some x->w.cell? ⟨g,i,none⟩=some (.slice x.1 x.2.1 x.2.2)
def xy(xs:List (Option Addr×Nat×Nat)):Bool:=xs.any λx=>decide (256<x.2.1)
def aaj(xs:List (Option Addr×Nat×Nat))(w:World)(e:Ending)(w':World):Prop:=
 ∃ n:Int,e = .returned (.int .i64 n)/\(0<=n↔xy xs=true)/\w=w'
def ags(g:Nat)(xs:List (Option Addr×Nat×Nat))(w:World)(hs:Lr w g xs)(hn:xs.length<=1000):
 Calls prog 302 #[.slice (some ⟨g,0,none⟩) xs.length xs.length,.func (.func 268) #[] #[]] w (aaj xs w):=by
 go_enter func302,ntmps302;go_wp2;go_loop [8] (λi=>∃ k:Nat,k<=xs.length/\i = .int .i64 k/\xy (xs.take k)=false) (λi=>xs.length-(intOf i).toNat)
 case atStart=>exact⟨0,bV _,rfl,rfl⟩
 case round=>
  obtain⟨k,hk,rfl,ht⟩:=hrel;have HT:=aoX ht;clear ht;by_cases h0:k<xs.length
  .have hc:=hs k _ (bu h0);have e1:((k:Int)).toNat=k:= aC ;have ec:=aau g k;have HX:=aoX (show xy (xs.take (k+1))=(xy (xs.take k)||decide (256<xs[k].2.1))by
    unfold xy;rw[fN h0,List.any_append];simp)
   have HM:=aoX (cA h0);generalize xs[k]=x at *
   obtain⟨A,n,c⟩:=x;simp only at hc HX;by_cases hx:256<n
   .have hb:decide (256<n)=true:=by simp[hx]
    go_wp2_with (go_at_call 268;refine(VW A n c _).mono ?_;rw[hb];rintro e w' ⟨rfl,rfl⟩)
    go_ret;refine⟨_,rfl,⟨λ_=>?_,λ_=> aC⟩,rfl⟩;unfold xy;rw[dz];exact⟨_,HM.out,by simpa using hx⟩
   .have hb:decide (256<n)=false:= aN ;go_wp2_with (go_at_call 268;refine(VW A n c _).mono ?_;rw[hb];rintro e w' ⟨rfl,rfl⟩)
    go_round
    case rel=>exact⟨k+1,aC,by go_num,by rw[HX.out,HT.out,hb];rfl⟩
    case measure=>simp[intOf];omega
  .go_wp2;go_ret;have e:xs.take k=xs:=cH aC;have:=HT.out;rw[e]at this;exact⟨_,rfl,by rw[this];simp,rfl⟩
def acS(g:Nat)(xs:List (Option Addr×Nat×Nat))(w:World)(hs:Lr w g xs)(hn:xs.length<=1000):
 Calls prog 267 #[.slice (some ⟨g,0,none⟩) xs.length xs.length,.func (.func 268) #[] #[]] w λe w'=>e = .returned (.bool (xy xs))/\w=w':=by
 have H:=aoX (ags g xs w hs hn);go_enter func267,ntmps267;go_wp2_with fail;refine H.out.mono ?_;rintro e w' ⟨n,rfl,hn,rfl⟩;have HN:=aoX hn;clear hn;go_wp2;go_ret;refine⟨KF ?_,rfl⟩;have:=HN.out;cases h:xy xs<;>simp[h]at this ⊢ <;> omega
def VY(g:Nat)(xs:List (Option Addr×Nat×Nat))(w:World)(hs:Lr w g xs)(hn:xs.length<=1000):
 Calls prog 230 #[.slice (some ⟨g,0,none⟩) xs.length xs.length] w λe w'=>e = .returned (.bool (xy xs))/\w=w':=by
 have H:=aoX (acS g xs w hs hn);go_enter func230,ntmps230;go_wp2_with fail;refine H.out.mono ?_;rintro e w' ⟨rfl,rfl⟩;go_wp2;go_ret;exact⟨rfl,rfl⟩
def N4(g:Nat)(A:Option Addr)(n c:Nat)(w:World)(b:Bool)(h:w.cell? ⟨g,0,none⟩=some (.slice A n c))(hb:b=decide (256<n)):
 Calls prog 230 #[.slice (some ⟨g,0,none⟩) 1 1] w λe w'=>e = .returned (.bool b)/\w=w':=by
 have:=VY g [(A,n,c)] w (λi x hx=>by
  obtain⟨h1,h2⟩:=b7.1 hx;obtain rfl:i=0:=by simp at h1;omega
  simp at h2;subst h2;exact h) aH 
 simpa[xy,hb]using this
def VX(g:Nat)(A B:Option Addr)(n c m d:Nat)(w:World)(b:Bool)(h:w.cell? ⟨g,0,none⟩=some (.slice A n c))(k:w.cell? ⟨g,1,none⟩=some (.slice B m d))(hb:b=(decide (256<n)||decide (256<m))):
 Calls prog 230 #[.slice (some ⟨g,0,none⟩) 2 2] w λe w'=>e = .returned (.bool b)/\w=w':=by
 have:=VY g [(A,n,c),(B,m,d)] w (λi x hx=>by
  obtain⟨h1,h2⟩:=b7.1 hx;simp at h1;rcases i with _|_|i
  .simp at h2;subst h2;exact h
  .simp at h2;subst h2;exact k
  .omega) aH 
 simpa[xy,hb]using this
def GN(A:Option Addr)(c:Nat)(L:List Nat)(w:World)(hs:Sl w A c L)(hl:(iG L).length<=256):
 Calls prog 231 #[.slice A L.length c] w (Dq w (iG L) 0):=by
 have hT:=aoX (vj A c L w hs);have kJ:=hs.uC;have hC:=hs.cap;have hL:=hs.ri;have H2:=aoX (λw' (h:Sl w' A c (iG L))=>LP A c (iG L) w' h);generalize iG L=M at *
 obtain⟨n,hn⟩:∃ n,n=M.length:=⟨_,rfl⟩
 rw[<-hn]at hT hl H2;have HN:=aoX hn;clear hn;go_enter func231,ntmps231;go_wp2_with fail;refine hT.out.mono ?_;rintro e w' ⟨rfl,rfl⟩;go_wp2_with fail;refine(N4 _ A n c _ false ?_ aN).mono ?_
 .go_simp
 rintro e w' ⟨rfl,rfl⟩;go_wp2_with fail;refine(H2.out _ (kJ.alloc _)).mono ?_;rintro e w' ⟨rfl,rfl⟩;go_wp2;go_ret2;exact⟨A,n,by rw[HN.out];rfl,by have:=kJ.RN.alloc (.cells #[.slice A n c] 29);rw[HN.out]at this ⊢;exact this,iI.alloc _ _⟩
def K3(a b:Nat)(ha:a<18446744073709551616)(hb:b<18446744073709551616):bits .or .u64 (a:Int) (b:Int)=((a |||b:Nat):Int):=by
 have hx:a |||b<2^64:=aoz aC aC 
 have h1:(BitVec.ofInt 64 (a:Int)).toNat=a:=by
  rw[gK,gL];exact ca aC 
 have h2:(BitVec.ofInt 64 (b:Int)).toNat=b:=by
  rw[gK,gL];exact ca aC 
 show IntKind.u64.wrap ((BitVec.ofInt 64 (a:Int) |||BitVec.ofInt 64 (b:Int)).toNat:Int)=_;rw[BitVec.toNat_or,h1,h2,IntKind.wrap_u64];omega
def Kl(a b k:Nat)(h:a<2^k):a |||b*2^k=a+b*2^k:=by
 rw[bG,Nat.or_comm,<-Nat.two_pow_add_eq_or_of_lt h];omega
def Sl.drop{w:World}{A:Option Addr}{c:Nat}{L:List Nat}(h:Sl w A c L)(k:Nat):Sl w (A.map (·.add k)) (c-k) (L.drop k):=
 ⟨by have:=h.cap;rw[er];omega,bk (dP _ _) h.ri,h.ok.drop k,(λe=>by
  rcases A with _|ad
  .rw [h.yo rfl];omega
  .cases e),λi x hx=>by
  rw[dv]at hx;obtain⟨b,o,rfl,h1,h2⟩:=h.cell _ _ hx;exact⟨b,o+k,by rw[ct,BU],h1,by rw[cR];exact h2⟩⟩
def part(T:List Nat)(k:Nat):List Nat:=T.take k++List.replicate (T.length-k) 0
def aiS(T:List Nat):part T 0=List.replicate T.length 0:=by unfold part;simp
def aiQ(T:List Nat):part T T.length=T:=by unfold part;simp
def aiR(T:List Nat)(k:Nat)(h:k<T.length):(part T k)[k]? = some 0:=by
 unfold part;rw[fW aR,b9,eP,a6 aC]
def W8(T:List Nat)(k x:Nat)(h:T[k]? = some x):(part T k).set k x=part T (k+1):=by
 obtain⟨h1,rfl⟩:=b7.1 h;unfold part;rw[List.set_append_right _ _ aR,b9,dg aC,dp,
  fN h1,(aC:T.length-k=(T.length-(k+1))+1),List.replicate_succ,List.set_cons_zero,aos]
 rfl
def alC(x y s:Nat)(hx:x<4294967296)(hy:y<4294967296):
 bits BinOp.or IntKind.u64 (x:Int) ((y:Int)*4294967296)/2^s%4294967296=(((x+4294967296*y)/2^s%4294967296:Nat):Int):=by
 have e:((y:Int)*4294967296)=((y*2^32:Nat):Int):= aH ;rw[e,K3 x (y*2^32) aC aC,Kl x y 32 aC];simp[bG]
def alD(x s:Nat):(x:Int)/2^s%4294967296=(((x+4294967296*0)/2^s%4294967296:Nat):Int):=by
 simp
def On(A:Option Addr)(c:Nat)(L:List Nat)(n:Nat)(w:World)(hs:Sl w A c L)(hlen:L.length<=100000000)(hn:n<=65536):
 Calls prog 232 #[.slice A L.length c,.int .i64 n] w (uE w (qW (n%32) ((iG L).drop (n/32)))):=by
 have hT:=aoX (vj A c L w hs);have kJ:=hs.uC;have ot:=pV L;have hC:=kJ.cap;have hL:=hs.ri;unfold mR at ot;generalize iG L=M at *
 obtain⟨m,hm⟩:∃ m,m=M.length:=⟨_,rfl⟩
 rw[<-hm]at hT ot hC;have HM:=aoX hm;clear hm;by_cases h0:m<=n/32
 .go_enter func232,ntmps232;go_wp2_with fail;refine hT.out.mono ?_;rintro e w' ⟨rfl,rfl⟩;go_wp2;go_ret;have:M.drop (n/32)=[]:=dZ (by rw[<-HM.out];exact h0);rw[this];exact⟨none,0,rfl,Sl.nil _,iI.refl _⟩
 .obtain ⟨ab,ao,rfl,_,_⟩:=kJ.mv (i:=0) (by have:=HM.out;omega);have hK:=kJ.drop (n/32);have uS:=aoX (show m-n/32=(M.drop (n/32)).length by rw[er,HM.out]);have oN:n/32<c:= aC ;have qk:=GD (m-n/32) aC;have mQ:0<m-n/32:= aC ;have xO:m-n/32<=100000000:= aC ;generalize M.drop (n/32)=K at *
  simp only[ct,BU]at hK;have A5:=aoX (KP (n%32) K);have MN:=aoX (YY (n%32) K);have F1:=aoX (Bq (n%32) K);generalize qW (n%32) K=T at *
  go_enter func232,ntmps232;go_wp2_with fail;refine hT.out.mono ?_;rintro e w' ⟨rfl,rfl⟩;go_wp2;go_loopw [25] (λi wr=>∃ k:Nat,k<=m-n/32/\i = .int .i64 k/\Rw wr w.heap.size (part T k)/\iI w wr) (λi _=>m-n/32-(intOf i).toNat)
  case atStart=>
   refine⟨0,bV _,rfl,?_,iI.alloc _ _⟩;rw[aiS,A5.out,<-uS.out];exact Rw.zS _ _
  case round=>
   obtain⟨k,hk,rfl,hR,hb⟩:=hrel;by_cases iB:k<m-n/32
   .have uU:k<K.length:=by have:=uS.out;omega
    obtain⟨ab',ao',e',_,c1⟩:=(hK.below hb).mv uU;cases e';have hg:=MN.out k uU;have nh:K[k]<4294967296:=hK.ok.get uU;have HK:=aoX (bu uU);have c3:=hR.cell (aiR T k (by have:=A5.out;omega));have c4:=hR.frozen k;by_cases JB:k+1<m-n/32
    .have zh:k+1<K.length:=by have:=uS.out;omega
     obtain⟨ab',ao',e',_,c2⟩:=(hK.below hb).mv zh;cases e';have hy:K.getD (k+1) 0=K[k+1]:=by rw[bh,bu zh];rfl
     rw[hy]at hg;have qD:K[k+1]<4294967296:=hK.ok.get zh;have HG:=aoX hg;clear hg hy;generalize K[k]=x at *
     generalize K[k+1]=y at *
     clear uU zh;go_wp2;go_roundw
     case rel=>
      rw[alC x y (n%32) nh qD];exact⟨k+1,aC,by go_num,by rw[<-W8 T k _ HG.out];exact hR.set k _,hb.setCell (bg _) _⟩
     case measure=>simp[intOf];omega
    .have hy:K.getD (k+1) 0=0:=by rw[bh,cj (by have:=uS.out;omega)];rfl
     rw[hy]at hg;have HG:=aoX hg;clear hg hy;generalize K[k]=x at *
     clear uU;go_wp2;go_roundw
     case rel=>
      rw[alD x (n%32)];exact⟨k+1,aC,by go_num,by rw[<-W8 T k _ HG.out];exact hR.set k _,hb.setCell (bg _) _⟩
     case measure=>simp[intOf];omega
   .go_wp2;go_ret;obtain rfl:k=m-n/32:= aC ;rw[uS.out,<-A5.out,aiQ]at hR;have:=hR.sl F1.out (by have:=A5.out;have:=uS.out;omega);rw[A5.out,<-uS.out]at this;exact⟨_,_,by rw[A5.out,<-uS.out];rfl,this,hb⟩
def alB{L:List Nat}(h:iN L)(n:Nat):iG (qW (n%32) ((iG L).drop (n/32)))=gY (val L/2^n):=by
 rw[rS (Bq _ _),K7 h.iG,qs]
def Qi(w:World)(A:Option Addr)(n c:Nat):(w.alloc (.cells #[.slice A n c] 29)).cell? ⟨w.heap.size,0,none⟩=some (.slice A n c):=by
 rw[World.cell?_alloc_at _ _ _ _ rfl];rfl
def Qj(w:World)(A B:Option Addr)(n c m d:Nat):(w.alloc (.cells #[.slice A n c,.slice B m d] 29)).cell? ⟨w.heap.size,0,none⟩=some (.slice A n c):=by
 rw[World.cell?_alloc_at _ _ _ _ rfl];rfl
def Qk(w:World)(A B:Option Addr)(n c m d:Nat):(w.alloc (.cells #[.slice A n c,.slice B m d] 29)).cell? ⟨w.heap.size,1,none⟩=some (.slice B m d):=by
 rw[World.cell?_alloc_at _ _ _ _ rfl];rfl
def Wz(A:Option Addr)(c:Nat)(L:List Nat)(n:Nat)(w:World)(hs:Sl w A c L)(hlen:L.length<=256)(hn:n<=65536):
 Calls prog 175 #[.slice A L.length c,.int .i64 n] w (Dq w (gY (val L/2^n)) 0):=by
 have hf:decide (256<L.length)=false:= aN ;have h3:=aoX (alB hs.ok n);have h4:(iG (qW (n%32) ((iG L).drop (n/32)))).length<=256:=by
  have h1:=pV (qW (n%32) ((iG L).drop (n/32)));unfold mR at h1;rw[KP,er]at h1;have h2:=pV L;unfold mR at h2;omega
 have H1:=aoX (λw (h:Sl w A c L)=>On A c L n w h aC hn);generalize qW (n%32) ((iG L).drop (n/32))=T at *
 go_enter func175,ntmps175;go_wp2_with fail;refine(N4 _ A _ c _ false (Qi _ _ _ _) aN).mono ?_;rintro e w' ⟨rfl,rfl⟩;go_wp2_with fail;refine(H1.out _ (hs.alloc _)).mono ?_;rintro e w' ⟨A',c',rfl,ph,hb⟩;go_wp2_with fail;refine(GN A' c' T _ ph h4).mono ?_;rintro e w'' ⟨A'',c'',rfl,r6,mU⟩;go_wp2;go_ret2;rw[<-h3.out];exact⟨A'',c'',rfl,r6,(iI.alloc _ _).trans (hb.trans mU)⟩
def N5(n c:Nat)(hc:n<=c)(hn:c<=10000000000)(w:World):
 (Instr.makeSlice 29 (.int .i64 (n:Int)) (.int .i64 (c:Int))).run prog w = .ok (.slice (some ⟨w.heap.size,0,none⟩) n c) (w.alloc (.cells (oK (List.replicate c 0)).toArray 171)):=by
 obtain⟨i,hi,hz,h1,h2⟩:=info_parts NJ;have hr:=run_make (P:=prog) w 29 171 i _ underlying29 hi hz .i64 .i64 n c aC aC (by rw[h2];omega) aC;rw[hr,fT,fT,h1,b8];refine congrArg (λcs=>Result.ok (Value.slice (some ⟨w.heap.size,0,none⟩) n c) (w.alloc (.cells cs 171))) ?_;apply Array.ext
 .simp [madeCells,oK]
 .intro i h1 h2;simp[madeCells,oK,Value.cells,dE]
def Ow.zS(w:World)(base n c:Nat)(hb:base<=w.heap.size)(hc:n<=c)(hn:c<=10000000000):
 Ow (w.alloc (.cells (oK (List.replicate c 0)).toArray 171)) base (.slice (some ⟨w.heap.size,0,none⟩) n c) (List.replicate n 0):=
 ⟨⟨by simp[oK],.inr ⟨w.heap.size,c,_,aH,hb,heap_alloc_new w _,by simpa using hc,by simp only[maxLen];omega,by simp[oK],by
  simp[oK,List.take_replicate,dg hc]⟩⟩,iN.EL n⟩
def iI.own{w w1 w2:World}(h:iI w w1)(v:Value)(L:List Nat)(ho:Ow w1 w.heap.size v L)(hg:w1.grownBy w2 v.ownBlock):iI w w2:=
 h.grown hg h.size (λk hk=>(ho.row.lt k hk).1)
def PA(x q s:Nat)(hx:x<4294967296)(hs:s<32)(hq:q<2^s):
 bits BinOp.or IntKind.u64 (IntKind.u64.wrap ((x:Int)*2^s)) (q:Int)=((x*2^s+q:Nat):Int)/\x*2^s+q<18446744073709551616/\(x*2^s+q)/4294967296<2^s:=by
 have hp:2^s<=2^31:=bK aE aC;have e31:(2:Nat)^31=2147483648:= aE ;have h1:(x+1)*2^s<=4294967296*2^s:=bL _ hx;rw[bX,bZ]at h1;have h2:x*2^s<4294967296*2^s:=dh hx (bw aE);refine⟨?_,aC,aC⟩;have e:((x:Int)*2^s)=((x*2^s:Nat):Int):= aH ;rw[e,IntKind.wrap_u64,show((x*2^s:Nat):Int)%18446744073709551616=((x*2^s:Nat):Int)by omega,K3 _ _ aC aC,Nat.or_comm,Kl q x s hq,Nat.add_comm]
def WD(A:Option Addr)(c:Nat)(L:List Nat)(n:Nat)(w:World)(hs:Sl w A c L)(hlen:L.length<=100000000)(hn:n<=65536):
 Calls prog 293 #[.slice A L.length c,.int .i64 n] w (λe w'=>∃ T,val T=val L*2^n/\iN T/\T.length=n/32+(iG L).length+1/\uE w T e w'):=by
 have hT:=aoX (vj A c L w hs);have kJ:=hs.uC;have ot:=pV L;have hC:=kJ.cap;have hL:=hs.ri;unfold mR at ot;have hv:=aoX (qs L);generalize iG L=M at *
 obtain⟨m,hm⟩:∃ m,m=M.length:=⟨_,rfl⟩
 rw[<-hm]at hT ot hC;have HM:=aoX hm;clear hm;have qk:=N5 (n/32) (n/32+m+1) aC aC;rw[show((n/32:Nat):Int)=n/32 by omega,show((n/32+m+1:Nat):Int)=n/32+m+1 by omega]at qk;have FZ:=aoX (Ow.zS w w.heap.size (n/32) (n/32+m+1) (bg _) aC aC);go_enter func293,ntmps293;go_wp2_with fail;refine hT.out.mono ?_;rintro e w' ⟨rfl,rfl⟩;go_wp2;go_loopw [5,6,23] (λv cy i wr=>∃ (k q:Nat) (O:List Nat),k<=m/\i = .int .i64 k/\cy = .int .u64 q/\q<2^(n%32)/\O.length=n/32+k/\val O+4294967296^(n/32+k)*q=val (M.take k)*2^(n%32)*4294967296^(n/32)/\Ow wr w.heap.size v O/\iI w wr) (λ_ _ i _=>m-(intOf i).toNat)
 case atStart=>
  exact⟨0,0,List.replicate (n/32) 0,bV _,rfl,rfl,bw aE,aH,by simp[BP],FZ.out,iI.alloc _ _⟩
 case round=>
  obtain⟨k,q,O,hk,rfl,rfl,hq,hO,lq,lk,hb⟩:=hrel;have HV:=aoX lq;have HO:=aoX hO;have FY:O.length<=200000000:= aC ;have vY:=aoX hq;clear lq hO hq;obtain⟨OA,Oc,rfl,xd⟩:=lk.sl;by_cases iB:k<m
  .have pO:k<M.length:=by have:=HM.out;omega
   obtain⟨ab,ao,rfl,_,c1⟩:=(kJ.below hb).mv pO;have nh:M[k]<4294967296:=kJ.ok.get pO;have HX:=aoX (Pz (c:=q) (s:=n%32) (n0:=n/32) pO HO.out HV.out);generalize M[k]=x at *
   obtain⟨hw,wa,wb⟩:=PA x q (n%32) nh (bH _ aE) vY.out;generalize x*2^(n%32)+q=z at *
   have CE:=aoX wb;clear wb;have kY:O.length+[z%4294967296].length<=10000000000:= aN ;go_wp2_with (at_builtin;go_must (refine sG aG _ _ aG w.heap.size _ O aG (lk.alloc _) _ _ _ [z%4294967296] aG aG (Sl.ux _ _ (z%4294967296) aC aC) kY (r8 hb.size _) ?_);intro v' w1 pf hg qi)
   go_roundw
   case rel=>
    exact⟨k+1,z/4294967296,O++[z%4294967296],aC,by go_num,by go_num,CE.out,by rw[cg,HO.out];rfl,HX.out,pf,(hb.trans (iI.alloc _ _)).own _ _ (lk.alloc _) hg⟩
   case measure=>simp[intOf];omega
  .obtain rfl:k=m:= aC ;have kY:O.length+[q].length<=10000000000:= aN ;have JK:q<4294967296:=by
    have:=vY.out;have hp:2^(n%32)<=2^31:=bK aE aC;have e31:(2:Nat)^31=2147483648:= aE ;omega
   have UB:(q:Int)%4294967296=q:= aC ;go_wp2_with (at_builtin;go_must (refine sG aG _ _ aG w.heap.size _ O aG (lk.alloc _) _ _ _ [q] aG aG (Sl.ux _ _ q aC aC) kY (r8 hb.size _) ?_);intro v' w1 pf hg qi)
   obtain⟨A',c',rfl,ph⟩:=pf.sl;go_ret;refine⟨O++[q],?_,ph.ok,by rw[cg,HO.out,<-HM.out];rfl,A',c',rfl,ph,(hb.trans (iI.alloc _ _)).own _ _ (lk.alloc _) hg⟩;have h:=HV.out;rw[cH (by rw[HM.out];exact bg _)]at h;rw[vE,HO.out,qX,Ap,cF,bR,h,<-hv.out,sF,bC,<-bt];congr 2;omega
def Wx(A:Option Addr)(c:Nat)(L:List Nat)(n:Nat)(w:World)(hs:Sl w A c L)(hlen:L.length<=256)(hn:n<=65536)(rH:(gY (val L*2^n)).length<=256):
 Calls prog 261 #[.slice A L.length c,.int .i64 n] w (Dq w (gY (val L*2^n)) 0):=by
 have H1:=aoX (λw (h:Sl w A c L)=>WD A c L n w h aC hn);obtain⟨R,hR⟩:∃ R,R=gY (val L*2^n):=⟨_,rfl⟩
 rw[<-hR]at rH ⊢;have HR:=aoX hR;clear hR;go_enter func261,ntmps261;go_wp2_with fail;refine(N4 _ A _ c _ false (Qi _ _ _ _) aN).mono ?_;rintro e w' ⟨rfl,rfl⟩;go_wp2_with fail;refine(H1.out _ (hs.alloc _)).mono ?_;rintro e w' ⟨T,hT,F1,-,A',c',rfl,ph,hb⟩;have h3:=aoX (show iG T=R by rw[rS F1,hT,HR.out]);clear hT F1;go_wp2_with fail;refine(GN A' c' T _ ph (by rw[h3.out];exact rH)).mono ?_;rintro e w'' ⟨A'',c'',rfl,r6,mU⟩;go_wp2;go_ret2;rw[<-h3.out];exact⟨A'',c'',rfl,r6,(iI.alloc _ _).trans (hb.trans mU)⟩
def alz(A:Option Addr)(c:Nat)(L:List Nat)(n:Nat)(w:World)(hs:Sl w A c L)(hlen:L.length<=256)(hn:n<=65536)(rH:(gY (val L*2^n)).length<=256):
 Calls prog 220 #[.slice A L.length c,.int .i64 n] w (uE w (gY (val L*2^n))):=by
 have H1:=aoX (Wx A c L n w hs hlen hn rH);generalize gY (val L*2^n)=R at *
 go_enter func220,ntmps220;go_wp2_with fail;refine H1.out.mono ?_;rintro e w'' ⟨A'',c'',rfl,r6,mU⟩;go_wp2;go_ret;exact⟨A'',c'',rfl,r6,mU⟩
def am5(a b:Nat)(ha:a<18446744073709551616)(hb:b<18446744073709551616):bits .and .u64 (a:Int) (b:Int)=((a &&& b:Nat):Int):=by
 have hx:a &&& b<2^64:=fC _ aC;have h1:(BitVec.ofInt 64 (a:Int)).toNat=a:=by
  rw[gK,gL];exact ca aC 
 have h2:(BitVec.ofInt 64 (b:Int)).toNat=b:=by
  rw[gK,gL];exact ca aC 
 show IntKind.u64.wrap ((BitVec.ofInt 64 (a:Int) &&& BitVec.ofInt 64 (b:Int)).toNat:Int)=_;rw[BitVec.toNat_and,h1,h2,IntKind.wrap_u64];omega
def yQ(z:Nat)(hz:z<18446744073709551616):bits BinOp.and IntKind.u64 (z:Int) 4294967295=(z:Int)%4294967296:=by
 have e:(4294967295:Int)=((4294967295:Nat):Int):=rfl;rw[e,am5 z _ hz aC,show(4294967295:Nat)=2^32-1 by decide,aoO];simp
def ajS(A:Option Addr)(c:Nat)(M:List Nat)(n:Nat)(w:World)(kJ:Sl w A c M)(hlen:M.length<=1000)(hn:n<=65536):
 Calls prog 168 #[.slice A M.length c,.int .i64 n] w (uE w (gY (val M*2^n))):=by
 have hC:=kJ.cap;have hL:=kJ.ri;obtain⟨m,hm⟩:∃ m,m=M.length:=⟨_,rfl⟩
 rw[<-hm]at hlen hC ⊢;have HM:=aoX hm;clear hm;have qk:=N5 (n/32) (n/32) aC aC;rw[show((n/32:Nat):Int)=n/32 by omega]at qk;have FZ:=aoX (Ow.zS w w.heap.size (n/32) (n/32) (bg _) aC aC);go_enter func168,ntmps168;go_wp2;go_loopw [5,6,7] (λv cy i wr=>∃ (k q:Nat) (O:List Nat),k<=m/\i = .int .i64 k/\cy = .int .u64 q/\q<2^(n%32)/\O.length=n/32+k/\val O+4294967296^(n/32+k)*q=val (M.take k)*2^(n%32)*4294967296^(n/32)/\Ow wr w.heap.size v O/\iI w wr) (λ_ _ i _=>m-(intOf i).toNat)
 case atStart=>
  exact⟨0,0,List.replicate (n/32) 0,bV _,rfl,rfl,bw aE,aH,by simp[BP],FZ.out,iI.alloc _ _⟩
 case round=>
  obtain⟨k,q,O,hk,rfl,rfl,hq,hO,lq,lk,hb⟩:=hrel;have HV:=aoX lq;have HO:=aoX hO;have FY:O.length<=3100:= aC ;have vY:=aoX hq;clear lq hO hq;obtain⟨OA,Oc,rfl,xd⟩:=lk.sl;by_cases iB:k<m
  .have pO:k<M.length:=by have:=HM.out;omega
   obtain⟨ab,ao,rfl,_,c1⟩:=(kJ.below hb).mv pO;have nh:M[k]<4294967296:=kJ.ok.get pO;have HX:=aoX (Pz (c:=q) (s:=n%32) (n0:=n/32) pO HO.out HV.out);generalize M[k]=x at *
   obtain⟨hw,wa,wb⟩:=PA x q (n%32) nh (bH _ aE) vY.out;generalize x*2^(n%32)+q=z at *
   have CE:=aoX wb;clear wb;have kY:O.length+[z%4294967296].length<=10000000000:= aN ;have zp:=yQ z wa;go_wp2_with (at_builtin;go_must (refine sG aG _ _ aG w.heap.size _ O aG (lk.alloc _) _ _ _ [z%4294967296] aG aG (Sl.ux _ _ (z%4294967296) aC aC) kY (r8 hb.size _) ?_);intro v' w1 pf hg qi)
   go_roundw
   case rel=>
    exact⟨k+1,z/4294967296,O++[z%4294967296],aC,by go_num,by go_num,CE.out,by rw[cg,HO.out];rfl,HX.out,pf,(hb.trans (iI.alloc _ _)).own _ _ (lk.alloc _) hg⟩
   case measure=>simp[intOf];omega
  .obtain rfl:k=m:= aC ;have kY:O.length+[q].length<=10000000000:= aN ;have JK:q<4294967296:=by
    have:=vY.out;have hp:2^(n%32)<=2^31:=bK aE aC;have e31:(2:Nat)^31=2147483648:= aE ;omega
   have UB:(q:Int)%4294967296=q:= aC ;have wY:Hid (iG (O++[q])=gY (val M*2^n)):=by
    show iG (O++[q])=gY (val M*2^n);rw[rS (lk.ok.append (iN.cons JK iN.nil))];have h:=HV.out;rw[cH (by rw[HM.out];exact bg _)]at h;rw[vE,HO.out,qX,Ap,cF,bR,h,sF,bC,<-bt];congr 3;omega
   go_wp2_with (at_builtin;go_must (refine sG aG _ _ aG w.heap.size _ O aG (lk.alloc _) _ _ _ [q] aG aG (Sl.ux _ _ q aC aC) kY (r8 hb.size _) ?_);intro v' w1 pf hg qi;obtain⟨P,hP⟩:∃ P,P=O++[q]:=⟨_,rfl⟩;rw[<-hP]at pf wY;have Jg:P.length<=3101:=(by rw[hP];simp;omega);clear hP;obtain⟨A',c',rfl,ph⟩:=pf.sl)
   refine(EK A' c' P _ ph aC).mono ?_;rintro e w' ⟨A'',c'',rfl,r6,mU⟩;go_wp2;go_ret;rw[<-wY.out];exact⟨A'',c'',rfl,r6,((hb.trans (iI.alloc _ _)).own _ _ (lk.alloc _) hg).trans mU⟩
def alF(x y s:Nat)(hx:x<4294967296)(hy:y<4294967296):
 bits BinOp.and IntKind.u64 (bits BinOp.or IntKind.u64 (x:Int) ((y:Int)*4294967296)/2^s) 4294967295=(((x+4294967296*y)/2^s%4294967296:Nat):Int):=by
 have e:((y:Int)*4294967296)=((y*2^32:Nat):Int):= aH ;rw[e,K3 x (y*2^32) aC aC,Kl x y 32 aC];have h:(x+y*2^32)/2^s<18446744073709551616:=cz (bY _ _) aC;have h2:=yQ _ h;rw[show(((x+y*2^32:Nat):Int)/2^s)=(((x+y*2^32)/2^s:Nat):Int)by simp,h2];simp[bG]
def alE(x s:Nat)(hx:x<4294967296):bits BinOp.and IntKind.u64 ((x:Int)/2^s) 4294967295=(((x+4294967296*0)/2^s%4294967296:Nat):Int):=by
 have h:x/2^s<18446744073709551616:=cz (bY _ _) aC;rw[show((x:Int)/2^s)=((x/2^s:Nat):Int)by simp,yQ _ h];simp
def ajX(A:Option Addr)(c:Nat)(M:List Nat)(n:Nat)(w:World)(kJ:Sl w A c M)(hlen:M.length<=3000)(hn:n<=100000):
 Calls prog 229 #[.slice A M.length c,.int .i64 n] w (uE w (gY (val M/2^n))):=by
 have hC:=kJ.cap;have hL:=kJ.ri;have wY:Hid (iG (qW (n%32) (M.drop (n/32)))=gY (val M/2^n)):=by
  show _=_;rw[rS (Bq _ _),K7 kJ.ok]
 obtain⟨R,hR⟩:∃ R,R=gY (val M/2^n):=⟨_,rfl⟩
 rw[<-hR]at wY ⊢;clear hR;obtain⟨m,hm⟩:∃ m,m=M.length:=⟨_,rfl⟩
 rw[<-hm]at hlen hC ⊢;have HM:=aoX hm;clear hm;by_cases h0:m<=n/32
 .go_enter func229,ntmps229;go_wp2;go_ret;have:M.drop (n/32)=[]:=dZ (by rw[<-HM.out];exact h0);have h:=wY.out;rw[this]at h;rw[<-h];exact⟨none,0,rfl,Sl.nil _,iI.refl _⟩
 .obtain ⟨ab,ao,rfl,_,_⟩:=kJ.mv (i:=0) (by have:=HM.out;omega);have hK:=kJ.drop (n/32);have uS:=aoX (show m-n/32=(M.drop (n/32)).length by rw[er,HM.out]);have oN:n/32<c:= aC ;have mQ:0<m-n/32:= aC ;have xO:m-n/32<=3000:= aC ;generalize M.drop (n/32)=K at *
  simp only[ct,BU]at hK;have A5:=aoX (KP (n%32) K);have MN:=aoX (YY (n%32) K);have F1:=aoX (Bq (n%32) K);generalize qW (n%32) K=T at *
  go_enter func229,ntmps229;go_wp2;go_loopw [5,6] (λv i wr=>∃ (k:Nat) (O:List Nat),k<=m-n/32/\i = .int .i64 k/\O=T.take k/\Ow wr w.heap.size v O/\iI w wr) (λ_ i _=>m-n/32-(intOf i).toNat)
  case atStart=>
   exact⟨0,[],bV _,rfl,aH,Ow.nil _ _,iI.refl _⟩
  case round=>
   obtain⟨k,O,hk,rfl,hO,lk,hb⟩:=hrel;have FY:O.length<=3000:=by rw[hO,b9];omega
   have HO:=aoX hO;clear hO;obtain⟨OA,Oc,rfl,xd⟩:=lk.sl;by_cases iB:k<m-n/32
   .have uU:k<K.length:=by have:=uS.out;omega
    obtain⟨ab',ao',e',_,c1⟩:=(hK.below hb).mv uU;cases e';have hg:=MN.out k uU;have nh:K[k]<4294967296:=hK.ok.get uU;have HK:=aoX (bu uU);by_cases JB:k+1<m-n/32
    .have zh:k+1<K.length:=by have:=uS.out;omega
     obtain⟨ab',ao',e',_,c2⟩:=(hK.below hb).mv zh;cases e';have hy:K.getD (k+1) 0=K[k+1]:=by rw[bh,bu zh];rfl
     rw[hy]at hg;have qD:K[k+1]<4294967296:=hK.ok.get zh;have HG:=aoX hg;clear hg hy;generalize K[k]=x at *
     generalize K[k+1]=y at *
     clear uU zh;have hw:=alF x y (n%32) nh qD;have hz:(x+4294967296*y)/2^(n%32)%4294967296<4294967296:=bH _ aE;generalize (x+4294967296*y)/2^(n%32)%4294967296=z at *
     have kY:O.length+[z].length<=10000000000:= aN ;go_wp2_with (at_builtin;go_must (refine sG aG _ _ aG w.heap.size _ O aG (lk.alloc _) _ _ _ [z] aG aG (Sl.ux _ _ z aC aC) kY (r8 hb.size _) ?_);intro v' w1 pf hg qi)
     go_roundw
     case rel=>
      exact⟨k+1,O++[z],aC,by go_num,by rw[HO.out,aoA,HG.out];rfl,pf,(hb.trans (iI.alloc _ _)).own _ _ (lk.alloc _) hg⟩
     case measure=>simp[intOf];omega
    .have hy:K.getD (k+1) 0=0:=by rw[bh,cj (by have:=uS.out;omega)];rfl
     rw[hy]at hg;have HG:=aoX hg;clear hg hy;generalize K[k]=x at *
     clear uU;have hw:=alE x (n%32) nh;have hz:(x+4294967296*0)/2^(n%32)%4294967296<4294967296:=bH _ aE;generalize (x+4294967296*0)/2^(n%32)%4294967296=z at *
     have kY:O.length+[z].length<=10000000000:= aN ;go_wp2_with (at_builtin;go_must (refine sG aG _ _ aG w.heap.size _ O aG (lk.alloc _) _ _ _ [z] aG aG (Sl.ux _ _ z aC aC) kY (r8 hb.size _) ?_);intro v' w1 pf hg qi)
     go_roundw
     case rel=>
      exact⟨k+1,O++[z],aC,by go_num,by rw[HO.out,aoA,HG.out];rfl,pf,(hb.trans (iI.alloc _ _)).own _ _ (lk.alloc _) hg⟩
     case measure=>simp[intOf];omega
   .have hOT:Hid (iG O=R):=by
     show iG O=R;rw[HO.out,cH (by rw[A5.out,<-uS.out];omega)];exact wY.out
    go_wp2_with fail;refine(EK OA Oc O _ xd aC).mono ?_;rintro e w' ⟨A'',c'',rfl,r6,mU⟩;go_wp2;go_ret;rw[<-hOT.out];exact⟨A'',c'',rfl,r6,hb.trans mU⟩
def AV{L:List Nat}{k:Nat}(h:k<L.length):L.getD k 0=L[k]:=by
 rw[bh,bu h];rfl
def DR{L:List Nat}{k:Nat}(h:¬k<L.length):L.getD k 0=0:=by
 rw[bh,cj aC];rfl
def ajW(A B:Option Addr)(c d:Nat)(L M:List Nat)(w:World)(hs:Sl w A c L)(hr:Sl w B d M)(h1:L.length<=3000)(h2:M.length<=3000):
 Calls prog 170 #[.slice A L.length c,.slice B M.length d] w (uE w (gY (val L+val M))):=by
 have HLl:=aoX (rfl:L.length=L.length);obtain⟨l,hl⟩:∃ l,l=L.length:=⟨_,rfl⟩
 obtain⟨m,hm⟩:∃ m,m=M.length:=⟨_,rfl⟩
 rw[<-hl]at h1 ⊢;rw[<-hm]at h2 ⊢;have HL:=aoX hl;have HM:=aoX hm;clear hl hm HLl;go_enter func170,ntmps170;go_wp2;go_loopw [5,6,7] (λv cy i wr=>∃ (k q:Nat) (O:List Nat),(k<=l\/k<=m)/\i = .int .i64 k/\cy = .int .u64 q/\q<=1/\O.length=k/\val O+4294967296^k*q=val (L.take k)+val (M.take k)/\Ow wr w.heap.size v O/\iI w wr) (λ_ _ i _=>3000-(intOf i).toNat)
 case atStart=>exact⟨0,0,[],.inl (bV _),rfl,rfl,aE,rfl,aH,Ow.nil _ _,iI.refl _⟩
 case round=>
  obtain⟨k,q,O,hk,rfl,rfl,hq,hO,lq,lk,hb⟩:=hrel;have HS:=aoX (aaw (x:=L.getD k 0) (y:=M.getD k 0) hO lq (wJ L k) (wJ M k));have HV:=aoX lq;have HO:=aoX hO;have FY:O.length<=3000:= aC ;have Nd:k<=3000:= aC ;clear lq hO hk;obtain⟨OA,Oc,rfl,xd⟩:=lk.sl;have zp:=λz:Nat=>λh:z<8589934593=>yQ z aC 
  by_cases hl:k<l
  .have Uo:(k:Int)<l:= aC ;have uV:k<L.length:=by have:=HL.out;omega
   obtain⟨ab,ao,rfl,_,c1⟩:=(hs.below hb).mv uV;have nh:L[k]<4294967296:=hs.ok.get uV;rw[AV uV]at HS;generalize L[k]=x at *
   clear uV;by_cases hm:k<m
   .have JD:(k:Int)<m:= aC ;have pO:k<M.length:=by have:=HM.out;omega
    obtain⟨bb,bo,rfl,_,c2⟩:=(hr.below hb).mv pO;have qD:M[k]<4294967296:=hr.ok.get pO;rw[AV pO]at HS;generalize M[k]=y at *
    clear pO;have qk:=zp (q+x+y) aC;simp only[fX]at qk;clear zp;have kY:O.length+[(q+x+y)%4294967296].length<=10000000000:= aN ;go_wp2_with (at_builtin;go_must (refine sG aG _ _ aG w.heap.size _ O aG (lk.alloc _) _ _ _ [(q+x+y)%4294967296] aG aG (Sl.ux _ _ ((q+x+y)%4294967296) aC aC) kY (r8 hb.size _) ?_);intro v' w1 pf hg qi)
    go_roundw
    case rel=>
     exact⟨k+1,(q+x+y)/4294967296,O++[(q+x+y)%4294967296],aC,by go_num,by go_num,aC,by rw[cg,HO.out];rfl,HS.out,pf,(hb.trans (iI.alloc _ _)).own _ _ (lk.alloc _) hg⟩
    case measure=>simp[intOf];omega
   .have JD:¬(k:Int)<m:= aC ;rw[DR (by have:=HM.out;omega)]at HS;have qk:=zp (q+x+0) aC;simp only[fX,bR]at qk;clear zp;have kY:O.length+[(q+x+0)%4294967296].length<=10000000000:= aN ;go_wp2_with (at_builtin;go_must (refine sG aG _ _ aG w.heap.size _ O aG (lk.alloc _) _ _ _ [(q+x+0)%4294967296] aG aG (Sl.ux _ _ ((q+x+0)%4294967296) aC aC) kY (r8 hb.size _) ?_);intro v' w1 pf hg qi)
    go_roundw
    case rel=>
     exact⟨k+1,(q+x+0)/4294967296,O++[(q+x+0)%4294967296],aC,by go_num,by go_num,aC,by rw[cg,HO.out];rfl,HS.out,pf,(hb.trans (iI.alloc _ _)).own _ _ (lk.alloc _) hg⟩
    case measure=>simp[intOf];omega
  .have Uo:¬(k:Int)<l:= aC ;have hlF:decide ((k:Int)<l)=false:=by simpa using Uo
   rw[DR (L:=L) (by have:=HL.out;omega)]at HS;by_cases hm:k<m
   .have JD:(k:Int)<m:= aC ;have pO:k<M.length:=by have:=HM.out;omega
    obtain⟨bb,bo,rfl,_,c2⟩:=(hr.below hb).mv pO;have qD:M[k]<4294967296:=hr.ok.get pO;rw[AV pO]at HS;generalize M[k]=y at *
    clear pO;have qk:=zp (q+0+y) aC;simp only[fX,bR]at qk;clear zp;have kY:O.length+[(q+0+y)%4294967296].length<=10000000000:= aN ;go_wp2_with (at_builtin;go_must (refine sG aG _ _ aG w.heap.size _ O aG (lk.alloc _) _ _ _ [(q+0+y)%4294967296] aG aG (Sl.ux _ _ ((q+0+y)%4294967296) aC aC) kY (r8 hb.size _) ?_);intro v' w1 pf hg qi)
    go_roundw
    case rel=>
     exact⟨k+1,(q+0+y)/4294967296,O++[(q+0+y)%4294967296],aC,by go_num,by go_num,aC,by rw[cg,HO.out];rfl,HS.out,pf,(hb.trans (iI.alloc _ _)).own _ _ (lk.alloc _) hg⟩
    case measure=>simp[intOf];omega
   .have JD:¬(k:Int)<m:= aC ;clear zp;have JK:(q:Int)%4294967296=q:= aC ;have wY:Hid (iG (O++[q])=gY (val L+val M)):=by
     show iG (O++[q])=_;rw[rS (lk.ok.append (iN.cons aC iN.nil)),vE,HO.out];have h:=HV.out;rw[cH (by have:=HL.out;omega),cH (by have:=HM.out;omega)]at h;simp only[qX,Ap,cF,bR];rw[h]
    have kY:O.length+[q].length<=10000000000:= aN ;go_wp2_with (at_builtin;go_must (refine sG aG _ _ aG w.heap.size _ O aG (lk.alloc _) _ _ _ [q] aG aG (Sl.ux _ _ q aC aC) kY (r8 hb.size _) ?_);intro v' w1 pf hg qi;obtain⟨P,hP⟩:∃ P,P=O++[q]:=⟨_,rfl⟩;rw[<-hP]at pf wY;have Jg:P.length<=3001:=(by rw[hP];simp;omega);clear hP;obtain⟨A',c',rfl,ph⟩:=pf.sl)
    refine(EK A' c' P _ ph aC).mono ?_;rintro e w' ⟨A'',c'',rfl,r6,mU⟩;go_wp2;go_ret;rw[<-wY.out];exact⟨A'',c'',rfl,r6,((hb.trans (iI.alloc _ _)).own _ _ (lk.alloc _) hg).trans mU⟩
def amZ(x s:Nat)(hx:x<4294967296):bits BinOp.and IntKind.u32 ((x:Int)/2^s) 1=((x/2^s%2:Nat):Int):=by
 have h:x/2^s<4294967296:=cz (bY _ _) aC;rw[show((x:Int)/2^s)=((x/2^s:Nat):Int)by simp,show(1:Int)=((1:Nat):Int)from rfl,bits_and_u32_nat _ _ h aE,Nat.and_one_is_mod]
def aj5(A:Option Addr)(c:Nat)(L:List Nat)(w:World)(hs:Sl w A c L)(h1:L.length<=3000)(h0:val L≠0):
 Calls prog 228 #[.slice A L.length c] w λe w'=>e = .returned (.int .i64 (jN (val L)))/\w=w':=by
 have hz:=Fv hs.ok h0;have HB:=aoX (λk (hk:k<jN (val L))=>abn h0 hk);have HE:=aoX (abm h0);have HV:=aoX (λk=>abo hs.ok k);generalize jN (val L)=t at *
 go_enter func228,ntmps228;go_wp2;go_loop [3] (λi=>∃ k:Nat,k<=t/\i = .int .i64 k) (λi=>t-(intOf i).toNat)
 case atStart=>exact⟨0,bV _,rfl⟩
 case round=>
  obtain⟨k,hk,rfl⟩:=hrel;have uV:k/32<L.length:= aC ;obtain⟨ab,ao,rfl,_,c1⟩:=hs.mv uV;have hv:=HV.out k uV;have nh:L[k/32]<4294967296:=hs.ok.get uV;generalize L[k/32]=x at *
  clear HV;have Cg:=amZ x (k%32) nh;rw[<-hv]at Cg;clear hv;by_cases hkt:k<t
  .rw [HB.out k hkt]at Cg;have hb:(bits BinOp.and IntKind.u32 ((x:Int)/2^(k%32)) 1==0)=true:=by rw[Cg];rfl
   clear Cg;go_wp2;go_round
   case rel=>exact⟨k+1,aC,by go_num⟩
   case measure=>simp[intOf];omega
  .obtain rfl:k=t:= aC ;rw[HE.out]at Cg;have hb:(bits BinOp.and IntKind.u32 ((x:Int)/2^(k%32)) 1==0)=false:=by rw[Cg];rfl
   clear Cg;go_wp2;go_ret;exact⟨rfl,rfl⟩
def ajT(A B:Option Addr)(c d:Nat)(L M:List Nat)(w:World)(hs:Sl w A c L)(hr:Sl w B d M)(h1:L.length<=3000)(h2:M.length<=L.length)(hle:val M<=val L):
 Calls prog 171 #[.slice A L.length c,.slice B M.length d] w (uE w (gY (val L-val M))):=by
 obtain⟨l,hl⟩:∃ l,l=L.length:=⟨_,rfl⟩
 obtain⟨m,hm⟩:∃ m,m=M.length:=⟨_,rfl⟩
 rw[<-hl]at h1 h2 ⊢;rw[<-hm]at h2 ⊢;have HL:=aoX hl;have HM:=aoX hm;clear hl hm;have HLE:=aoX hle;clear hle;go_enter func171,ntmps171;go_wp2;go_loopw [5,6,7] (λv cy i wr=>∃ (k q:Nat) (O:List Nat),k<=l/\i = .int .i64 k/\cy = .int .u64 q/\q<=1/\O.length=k/\val O+val (M.take k)=val (L.take k)+4294967296^k*q/\Ow wr w.heap.size v O/\iI w wr) (λ_ _ i _=>l-(intOf i).toNat)
 case atStart=>exact⟨0,0,[],bV _,rfl,rfl,aE,rfl,aH,Ow.nil _ _,iI.refl _⟩
 case round=>
  obtain⟨k,q,O,hk,rfl,rfl,hq,hO,lq,lk,hb⟩:=hrel;have HS:=aoX (λ(x y:Nat) (e1:L.getD k 0=x) (e2:M.getD k 0=y) (dd c':Nat)=>amb (x:=x) (y:=y) (d:=dd) (c':=c') hO lq ((wJ L k).trans (by rw[e1])) ((wJ M k).trans (by rw[e2])));have HV:=aoX lq;have HO:=aoX hO;have FY:O.length<=3000:= aC ;clear lq hO;obtain⟨OA,Oc,rfl,xd⟩:=lk.sl;by_cases hl:k<l
  .have uV:k<L.length:=by have:=HL.out;omega
   obtain⟨ab,ao,rfl,_,c1⟩:=(hs.below hb).mv uV;have nh:L[k]<4294967296:=hs.ok.get uV;have HX:=aoX (AV uV);generalize L[k]=x at *
   clear uV;by_cases hm:k<m
   .have pO:k<M.length:=by have:=HM.out;omega
    obtain⟨bb,bo,rfl,_,c2⟩:=(hr.below hb).mv pO;have qD:M[k]<4294967296:=hr.ok.get pO;have HY:=aoX (AV pO);generalize M[k]=y at *
    clear pO;have qk:=yQ (x+4294967296-(q+y)) aC;rw[show((x+4294967296-(q+y):Nat):Int)=x+4294967296-(q+y)by omega]at qk;have kY:O.length+[(x+4294967296-(q+y))%4294967296].length<=10000000000:= aN ;go_wp2_with (at_builtin;go_must (refine sG aG _ _ aG w.heap.size _ O aG (lk.alloc _) _ _ _ [(x+4294967296-(q+y))%4294967296] aG aG (Sl.ux _ _ ((x+4294967296-(q+y))%4294967296) aC aC) kY (r8 hb.size _) ?_);intro v' w1 pf hg qi)
    go_roundw
    case rel=>
     exact⟨k+1,1-(x+4294967296-(q+y))/4294967296,O++[(x+4294967296-(q+y))%4294967296],aC,by go_num,by rw[show(1-((x:Int)+4294967296-(q+y))/4294967296)=((1-(x+4294967296-(q+y))/4294967296:Nat):Int)by omega],aC,by rw[cg,HO.out];rfl,HS.out x y HX.out HY.out _ _ aC,pf,(hb.trans (iI.alloc _ _)).own _ _ (lk.alloc _) hg⟩
    case measure=>simp[intOf];omega
   .have JD:¬(k:Int)<m:= aC ;have HY:=aoX (DR (L:=M) (k:=k) (by have:=HM.out;omega));have qk:=yQ (x+4294967296-q) aC;rw[show((x+4294967296-q:Nat):Int)=x+4294967296-q by omega]at qk;have kY:O.length+[(x+4294967296-q)%4294967296].length<=10000000000:= aN ;go_wp2_with (at_builtin;go_must (refine sG aG _ _ aG w.heap.size _ O aG (lk.alloc _) _ _ _ [(x+4294967296-q)%4294967296] aG aG (Sl.ux _ _ ((x+4294967296-q)%4294967296) aC aC) kY (r8 hb.size _) ?_);intro v' w1 pf hg qi)
    go_roundw
    case rel=>
     exact⟨k+1,1-(x+4294967296-q)/4294967296,O++[(x+4294967296-q)%4294967296],aC,by go_num,by rw[show(1-((x:Int)+4294967296-q)/4294967296)=((1-(x+4294967296-q)/4294967296:Nat):Int)by omega],aC,by rw[cg,HO.out];rfl,HS.out x 0 HX.out HY.out _ _ aC,pf,(hb.trans (iI.alloc _ _)).own _ _ (lk.alloc _) hg⟩
    case measure=>simp[intOf];omega
  .obtain rfl:k=l:= aC ;have wY:Hid (iG O=gY (val L-val M)):=by
    show iG O=_;have h:=HV.out;rw[cH (l:=L) (by have:=HL.out;omega),cH (l:=M) (by have:=HM.out;omega)]at h;rw[rS lk.ok,(Zf lk.ok HO.out h HLE.out).2]
   go_wp2_with fail;refine(EK OA Oc O _ xd aC).mono ?_;rintro e w' ⟨A'',c'',rfl,r6,mU⟩;go_wp2;go_ret;rw[<-wY.out];exact⟨A'',c'',rfl,r6,hb.trans mU⟩
def Wp{O:List Nat}{p a b c o:Nat}(ho:O[p]? = some o):
 val (O.set p ((a*b+o+c)%4294967296))+4294967296^(p+1)*((a*b+o+c)/4294967296)=val O+4294967296^p*c+4294967296^p*(a*b):=by
 obtain⟨hp,rfl⟩:=b7.1 ho;have h:=PY (x:=(a*b+O[p]+c)%4294967296) hp;have e:=congrArg (4294967296^p * ·) (ef (a*b+O[p]+c) 4294967296);simp only[bO]at e;rw[bD,bC];omega
def RC{O:List Nat}{p c o:Nat}(ho:O[p]? = some o):
 val (O.set p ((o+c)%4294967296))+4294967296^(p+1)*((o+c)/4294967296)=val O+4294967296^p*c:=by
 have h:=Wp (a:=0) (b:=0) (c:=c) ho;simpa using h
def sd(x:Nat)(h:x<18446744073709551616):IntKind.u64.wrap (x:Int)=x:=by rw[IntKind.wrap_u64];omega
def Fp.iN.YT{L:List Nat}(h:iN L)(k:Nat)(x:Nat):iN (L.set k (x%4294967296)):=h.set k (bH _ aE)
def Ky(s:Bool)(A:Option Addr)(c:Nat)(L:List Nat)(e:Int)(w:World)(hs:Sl w A c L)(hlen:L.length<=3000)(mB:-1000000<=e)(lF:e<=1000000):
 Calls prog 169 #[.bool s,.slice A L.length c,.int .i64 e] w (xD w (canon s (val L) e)):=by
 by_cases h0:val L=0
 .have px:=aoX (show canon s (val L) e=ju by unfold canon;rw[a6 h0];rfl);have Nu:iG L=[]:=by rw[rS hs.ok,h0,oB]
  have hT:=aoX (λw (h:Sl w A c L)=>EK A c L w h aC);rw[Nu]at hT;clear Nu h0;go_enter func169,ntmps169;go_wp2_with fail;refine(hT.out _ (hs.alloc _)).mono ?_;rintro e w' ⟨A',c',rfl,ph,hb⟩;have bx:=(jI.new w false none 0 0 0).ext hb;have b0:=bx.c0;have b1:=bx.c1;have b2:=bx.c2;have f0:=bx.fr 0;have f1:=bx.fr 1;have f2:=bx.fr 2;go_wp2;rw[px.out];have hz:gY ju.m=[]:=oB;exact uI rfl rfl rfl (bx.set _ _ _ _ _) (by rw[hz];rfl) (by rw[hz];exact bx.vv (Sl.nil _) _ _ _ _ _) (jI.uA ((iI.alloc _ _).trans hb) (bg _) _ _ _ _ _)
 .have px:=aoX (show canon s (val L) e=⟨s,val L/2^jN (val L),e+jN (val L)⟩by unfold canon;rw[aZ h0]);have hT:=aoX (λw (h:Sl w A c L)=>EK A c L w h aC);have UH:=pV L;unfold mR at UH;have hv:=qs L;have kj:=hs.ok.iG;generalize iG L=M at *
  rw[<-hv]at h0 px ⊢;clear hv;have hZ:=aoX (λA c w (h:Sl w A c M)=>aj5 A c M w h aC h0);have ud:jN (val M)<=100000:=by have:=Fv kj h0;omega
  have hR:=aoX (λA c w (h:Sl w A c M)=>ajX A c M (jN (val M)) w h aC ud);have tw:M.length≠0:=by intro h;rw[di h]at h0;exact h0 rfl
  generalize val M/2^jN (val M)=q at *
  generalize jN (val M)=t at *
  obtain⟨m,hm⟩:∃ m,m=M.length:=⟨_,rfl⟩
  go_enter func169,ntmps169;go_wp2_with fail;refine(hT.out _ (hs.alloc _)).mono ?_;rintro e' w1 ⟨A1,c1,rfl,uY,jK⟩;go_wp2_with fail;refine(hZ.out _ _ _ uY).mono ?_;rintro e' w2 ⟨rfl,rfl⟩;go_wp2_with fail;refine(hR.out _ _ _ uY).mono ?_;rintro e' w2 ⟨A2,c2,rfl,kJ,kK⟩;have hb:=jK.trans kK;have bx:=(jI.new w false none 0 0 0).ext hb;have b0:=bx.c0;have b1:=bx.c1;have b2:=bx.c2;have f0:=bx.fr 0;have f1:=bx.fr 1;have f2:=bx.fr 2;go_wp2;rw[px.out];exact uI rfl rfl rfl (bx.set _ _ _ _ _) rfl (bx.vv kJ _ _ _ _ _) (jI.uA ((iI.alloc _ _).trans hb) (bg _) _ _ _ _ _)
def adt(A:Option Addr)(c:Nat)(L:List Nat)(w:World)(hs:Sl w A c L)(h1:L.length<=3000)(h0:val L≠0)(hT:Tb w):
 Calls prog 259 #[.slice A L.length c] w λe w'=>e = .returned (.int .i64 (jN (val L)))/\w=w':=by
 have kj:=hs.ok;have HV:=aoX (λi hi h hx=>acV kj i hi h hx);have H0:=aoX h0;clear h0;go_enter func259,ntmps259;go_wp2;go_loop [3,8] (λn i=>∃ k:Nat,k<=L.length/\i = .int .i64 k/\n = .int .i64 ((32*k:Nat):Int)/\∀ j,(hj:j<k)->L[j]? = some 0) (λ_ i=>L.length-(intOf i).toNat)
 case atStart=>exact⟨0,bV _,rfl,rfl,λj hj=> aC⟩
 case round=>
  obtain⟨k,hk,rfl,rfl,hz⟩:=hrel;have HZ:=aoX hz;clear hz;by_cases iB:k<L.length
  .obtain ⟨ab,ao,rfl,_,c1⟩:=hs.mv iB;have nh:L[k]<4294967296:=kj.get iB;have HG:=aoX (bu iB);have HC:=aoX (λhx=>HV.out k iB (λj hj=>by have:=HZ.out j hj;rw[bu aC]at this;simpa using this) hx);clear HV;generalize L[k]=x at *
   by_cases hx:x=0
   .have HX:=aoX hx;clear hx;have hb:((x:Int) != 0)=false:=by have:=HX.out;simp;omega
    go_wp2;go_round
    case rel=>exact⟨k+1,aC,by go_num,by go_num,λj hj=>by
     by_cases e:j=k
     .subst e;rw[HG.out,HX.out]
     .exact HZ.out j aC⟩
    case measure=>simp[intOf];omega
   .have hb:((x:Int) != 0)=true:= aN ;have HX:=aoX (HC.out hx);have anP:jN x<=32:=by
     have h1:=GZ hx;rcases fQ 32 (jN x)with h|h
     .have:=gM (a:=2) aE h;have e:(2:Nat)^32=4294967296:= aE ;omega
     .exact h
    go_wp2_with (go_at_call 292;refine(amW x hx nh _ hT).mono ?_;rintro e w' ⟨rfl,rfl⟩)
    go_ret;exact⟨oQ (by rw[HX.out];simp),rfl⟩
  .exfalso;have:val L=0:=by
    rw[Hz];intro y hy;obtain⟨j,hj,rfl⟩:=List.getElem_of_mem hy;have:=HZ.out j aC;rw[bu hj]at this;simpa using this
   exact H0.out this
def IU(s:Bool)(A:Option Addr)(c:Nat)(L:List Nat)(e:Int)(w:World)(hs:Sl w A c L)(_hlen:L.length<=100000)(ot:(iG L).length<=256)(mB:-1000000<=e)(lF:e<=1000000)(ua:Tb w):
 Calls prog 219 #[.bool s,.slice A L.length c,.int .i64 e] w (xD w (canon s (val L) e)):=by
 have hT:=aoX (λw (h:Sl w A c L)=>adC A c L w h);have kJ:=hs.uC;have hv:=qs L;have kj:=hs.ok.iG;have CA:=An L;generalize iG L=M at *
 rw[<-hv];clear hv;by_cases h0:val M=0
 .have px:=aoX (show canon s (val M) e=ju by unfold canon;rw[a6 h0];rfl);have tw:Hid (M.length=0):=by
   show M.length=0;rw[CA.FI kj,h0,oB];rfl
  obtain⟨m,hm⟩:∃ m,m=M.length:=⟨_,rfl⟩
  rw[<-hm]at hT tw;clear hm h0;obtain rfl:m=0:=tw.out;clear tw;go_enter func219,ntmps219;go_wp2_with fail;refine(hT.out _ (hs.alloc _)).mono ?_;rintro e w' ⟨rfl,rfl⟩;have bx:=jI.new w false none 0 0 0;have b0:=bx.c0;have b1:=bx.c1;have b2:=bx.c2;have f0:=bx.fr 0;have f1:=bx.fr 1;have f2:=bx.fr 2;go_wp2;rw[px.out];have hz:gY ju.m=[]:=oB;exact uI rfl rfl rfl bx (by rw[hz];rfl) (by rw[hz];exact Sl.nil _) (iI.alloc _ _)
 .have px:=aoX (show canon s (val M) e=⟨s,val M/2^jN (val M),e+jN (val M)⟩by unfold canon;rw[aZ h0]);have hZ:=aoX (λA c w (h:Sl w A c M) (ht:Tb w)=>adt A c M w h aC h0 ht);have ud:jN (val M)<=65536:=by have:=Fv kj h0;omega
  have hR:=aoX (λA c w (h:Sl w A c M)=>Wz A c M (jN (val M)) w h ot ud);have tw:M.length≠0:=by intro h;rw[di h]at h0;exact h0 rfl
  have xg:(gY (val M/2^jN (val M))).length<=256:=by
   refine wk (cz (bY _ _) ?_);exact bQ (oL kj) (bK aE ot)
  generalize val M/2^jN (val M)=q at *
  generalize jN (val M)=t at *
  have hK:=aoX (λA c w (h:Sl w A c (gY q))=>LR A c (gY q) w h aC);have hP:=aoX (λA c w (h:Sl w A c (gY q))=>LP A c (gY q) w h);obtain⟨Q,hQ⟩:∃ Q,Q=gY q:=⟨_,rfl⟩
  have HQ:=aoX hQ;rw[<-hQ]at hR hK hP xg;clear hQ;go_enter func219,ntmps219;go_wp2_with fail;refine(hT.out _ (hs.alloc _)).mono ?_;rintro e' w1 ⟨rfl,rfl⟩;go_wp2_with fail;refine(hZ.out _ _ _ (kJ.alloc _) (ua.alloc _)).mono ?_;rintro e' w2 ⟨rfl,rfl⟩;go_wp2_with fail;refine(hR.out _ _ _ (kJ.alloc _)).mono ?_;rintro e' w2 ⟨A2,c2,rfl,age,kK⟩;go_wp2_with fail;refine(hK.out _ _ _ age).mono ?_;rintro e' w3 ⟨A3,c3,rfl,Gi,qj⟩;go_wp2_with fail;refine(hP.out _ _ _ Gi).mono ?_;rintro e' w4 ⟨rfl,rfl⟩;have hb:=kK.trans qj;have bx:=(jI.new w false none 0 0 0).ext hb;have b0:=bx.c0;have b1:=bx.c1;have b2:=bx.c2;have f0:=bx.fr 0;have f1:=bx.fr 1;have f2:=bx.fr 2;go_wp2;rw[px.out];rw[HQ.out]at Gi ⊢;exact uI rfl rfl rfl (bx.set _ _ _ _ _) rfl (bx.vv Gi.RN _ _ _ _ _) (jI.uA ((iI.alloc _ _).trans hb) (bg _) _ _ _ _ _)
def L6(A:Option Addr)(c:Nat)(L:List Nat)(w:World)(hs:Sl w A c L)(hlen:L.length<=100000000):
 Calls prog 225 #[.slice A L.length c] w λe w'=>e = .returned (.int .i64 (iq (val L)))/\w=w':=by
 have H:=aoX (Wr A c L w hs hlen);go_enter func225,ntmps225;go_wp2_with fail;refine H.out.mono ?_;rintro e w' ⟨rfl,rfl⟩;go_wp2;go_ret;exact⟨rfl,rfl⟩
def vc(m:Nat)(e:Int):Bool:=decide (mZ ⟨false,m,e⟩)
def NI(s:Bool)(A:Option Addr)(c:Nat)(L:List Nat)(e:Int)(w:World)(hs:Sl w A c L)(hlen:L.length<=100000000)(mB:-9223372036854775808<=e)(lF:e<=9223372036854775807):
 Calls prog 166 #[.agg #[.bool s,.slice A L.length c,.int .i64 e]] w λr w'=>r = .returned (.bool (vc (val L) e))/\iI w w':=by
 have H:=aoX (λw (h:Sl w A c L)=>L6 A c L w h hlen);have hn:Hid (vc (val L) e=decide (iq (val L)=0\/iq (val L)<=4096 /\ -16384<=e/\e<=16384/\(iq (val L):Int)+e<=16384)):=by
  have h:iq (val L)=0↔val L=0:=by
   constructor
   .intro h;apply bU;intro h0;have:=o0 h0;omega
   .intro h;rw[h];rfl
  exact aoB.2 (or_congr h.symm Iff.rfl)
 have y5:iq (val L)<=32*L.length:=mj.2 (by rw[<-sF];exact oL hs.ok);generalize iq (val L)=n at *
 generalize vc (val L) e=b at *
 have afR:n=0\/(0<n/\4096<n)\/(0<n/\n<=4096/\e < -16384)\/(0<n/\n<=4096 /\ -16384<=e/\16384<e)\/(0<n/\n<=4096 /\ -16384<=e/\e<=16384/\16384<(n:Int)+e)\/(0<n/\n<=4096 /\ -16384<=e/\e<=16384/\(n:Int)+e<=16384):= aC ;rcases afR with h|⟨h,h1⟩|⟨h,h1,h2⟩|⟨h,h1,h2,h3⟩|⟨h,h1,h2,h3,h4⟩|⟨h,h1,h2,h3,h4⟩
 .subst h;have hb:b=true:=by rw[hn.out];simp
  clear hn;subst hb;go_enter func166,ntmps166;go_wp2_with fail;refine(H.out _ (hs.alloc _)).mono ?_;rintro r w' ⟨rfl,rfl⟩;go_wp2;go_ret;exact⟨rfl,iI.alloc _ _⟩
 .have hb:b=false:=by rw[hn.out];simp;omega
  have rI:((n:Int)==0)=false:= aN ;have tD:decide ((n:Int)<=4096)=false:= aN ;clear hn;subst hb;go_enter func166,ntmps166;go_wp2_with fail;refine(H.out _ (hs.alloc _)).mono ?_;rintro r w' ⟨rfl,rfl⟩;go_wp2;go_ret;exact⟨rfl,iI.alloc _ _⟩
 .have hb:b=false:=by rw[hn.out];simp;omega
  have rI:((n:Int)==0)=false:= aN ;have tD:decide ((n:Int)<=4096)=true:= aN ;have mK:decide (-16384<=e)=false:= aN ;clear hn;subst hb;go_enter func166,ntmps166;go_wp2_with fail;refine(H.out _ (hs.alloc _)).mono ?_;rintro r w' ⟨rfl,rfl⟩;go_wp2;go_ret;exact⟨rfl,iI.alloc _ _⟩
 .have hb:b=false:=by rw[hn.out];simp;omega
  have rI:((n:Int)==0)=false:= aN ;have tD:decide ((n:Int)<=4096)=true:= aN ;have mK:decide (-16384<=e)=true:= aN ;have D9:decide (e<=16384)=false:= aN ;clear hn;subst hb;go_enter func166,ntmps166;go_wp2_with fail;refine(H.out _ (hs.alloc _)).mono ?_;rintro r w' ⟨rfl,rfl⟩;go_wp2;go_ret;exact⟨rfl,iI.alloc _ _⟩
 .have hb:b=false:=by rw[hn.out];simp;omega
  have rI:((n:Int)==0)=false:= aN ;have tD:decide ((n:Int)<=4096)=true:= aN ;have mK:decide (-16384<=e)=true:= aN ;have D9:decide (e<=16384)=true:= aN ;have hn4:decide ((n:Int)+e<=16384)=false:= aN ;clear hn;subst hb;go_enter func166,ntmps166;go_wp2_with fail;refine(H.out _ (hs.alloc _)).mono ?_;rintro r w' ⟨rfl,rfl⟩;go_wp2;go_ret;exact⟨rfl,iI.alloc _ _⟩
 .have hb:b=true:=by rw[hn.out];simp;omega
  have rI:((n:Int)==0)=false:= aN ;have tD:decide ((n:Int)<=4096)=true:= aN ;have mK:decide (-16384<=e)=true:= aN ;have D9:decide (e<=16384)=true:= aN ;have hn4:decide ((n:Int)+e<=16384)=true:= aN ;clear hn;subst hb;go_enter func166,ntmps166;go_wp2_with fail;refine(H.out _ (hs.alloc _)).mono ?_;rintro r w' ⟨rfl,rfl⟩;go_wp2;go_ret;exact⟨rfl,iI.alloc _ _⟩
def pA(s:Bool)(L:List Nat)(e:Int):Prop:=ny L/\L.length<=256/\Dy.ij ⟨s,val L,e⟩
def Si(s:Bool)(e:Int):pA s [] e↔s=false/\e=0:=by
 unfold pA;constructor
 .rintro ⟨_,_,hc,_⟩;rcases hc with⟨_,h1,h2⟩|h
  .exact ⟨h1,h2⟩
  .simp at h
 .rintro ⟨rfl,rfl⟩;exact⟨ny.nil,aH,rU⟩
def Sh{s:Bool}{L:List Nat}{e:Int}{x y:Nat}(hx:L[0]? = some x)(hy:L[L.length-1]? = some y):
 pA s L e↔L.length<=256/\x%2=1/\y≠0/\vc (val L) e=true:=by
 have Uz:val L%2=x%2:=by
  cases L with
  |nil=>simp at hx
  |cons z l=>simp at hx;subst hx;simp only[qX];omega
 have CA:ny L↔y≠0:=by
  rw[BO];obtain⟨h1,h2⟩:=b7.1 hy;constructor
  .intro h;rw[<-h2];exact h aC 
  .intro h _;rw[h2];exact h
 unfold pA vc;rw[CA,gN];constructor
 .rintro ⟨h1,h2,hc,hr⟩;have xh:mZ ⟨false,val L,e⟩:=hr;refine⟨h2,?_,h1,xh⟩;rcases hc with⟨h,_,_⟩|h
  .exfalso;have:=(CA.2 h1).Aq (by intro h0;subst h0;simp at hx);simp only at h;omega
  .rw [<-Uz];exact h
 .rintro ⟨h1,h2,h3,h4⟩;exact⟨h3,h1,.inr (by show val L%2=1;rw[Uz];exact h2),h4⟩
def qZ{b:Bool}{P:Prop}(h:b=true↔P)(hn:¬P):b=false:=by
 cases b
 .rfl
 .exact absurd (h.1 rfl) hn
def LF{b:Bool}{P:Prop}(h:b=true↔P)(hn:P):b=true:=h.2 hn
def Rb{b v:Bool}{P:Prop}(h:b=true↔P)(hn:P↔v=true):b=v:=by
 cases b<;>cases v<;>simp_all
def B6(s:Bool)(A:Option Addr)(c:Nat)(L:List Nat)(e:Int)(w:World)(b:Bool)(hs:Sl w A c L)(mB:-9223372036854775808<=e)(lF:e<=9223372036854775807)(hb:b=true↔pA s L e):
 Calls prog 91 #[.agg #[.bool s,.slice A L.length c,.int .i64 e]] w λr w'=>r = .returned (.bool b)/\iI w w':=by
 have Ci:=hs.cap;have ud:=hs.ri;by_cases hL:L=[]
 .subst hL;rw[Si]at hb;cases s
  .by_cases h:e=0
   .subst h;have:b=true:=by simpa using hb
    clear hb;subst this;go_enter func91,ntmps91;go_wp2;go_ret;exact⟨rfl,iI.alloc _ _⟩
   .have:b=false:=qZ hb (by simp[h]);have h':(e==0)=false:= aN ;clear hb;subst this;go_enter func91,ntmps91;go_wp2;go_ret;exact⟨rfl,iI.alloc _ _⟩
  .have:b=false:=qZ hb aH ;clear hb;subst this;go_enter func91,ntmps91;go_wp2;go_ret;exact⟨rfl,iI.alloc _ _⟩
 .have tG:0<L.length:=ez.2 hL;clear hL;obtain⟨ab,ao,rfl,_,c1⟩:=hs.mv tG;obtain⟨ab',ao',e',_,c2⟩:=hs.mv (i:=L.length-1) aC;cases e';have nh:=hs.ok.get tG;have qD:=hs.ok.get (aC:L.length-1<L.length);rw[Sh (bu tG) (bu (aC:L.length-1<L.length))]at hb;have c1':w.cell? ⟨ab,ao,none⟩=some (.int .u32 (L[0]:Int)):=c1;clear c1;generalize L[0]=x at *
  generalize L[L.length-1]=y at *
  have HB:=aoX hb;clear hb;have H:=aoX (λw (h:Sl w (some ⟨ab,ao,none⟩) c L) (hl:L.length<=256)=>NI s _ c L e w h aC mB lF);obtain⟨n,hn⟩:∃ n,n=L.length:=⟨_,rfl⟩
  rw[<-hn]at tG c2 H HB Ci ⊢;clear hn;generalize vc (val L) e=v at *
  have rI:((n:Int)==0)=false:= aN ;by_cases h1:n<=256
  .have tD:decide ((n:Int)<=256)=true:= aN ;by_cases h2:x%2=1
   .have mK:((x:Int)%2==1)=true:= aN ;by_cases h3:y=0
    .have:b=false:=qZ HB.out (by simp[h3]);have D9:((y:Int) != 0)=false:= aN ;clear HB;subst this;go_enter func91,ntmps91;go_wp2;go_ret;exact⟨rfl,iI.alloc _ _⟩
    .have:b=v:=Rb HB.out (by simp[h1,h2,h3]);have D9:((y:Int) != 0)=true:= aN ;clear HB;subst this;go_enter func91,ntmps91;go_wp2_with fail;refine(H.out _ (hs.alloc _) h1).mono ?_;rintro r w' ⟨rfl,mU⟩;go_wp2;go_ret;exact⟨rfl,(iI.alloc _ _).trans mU⟩
   .have:b=false:=qZ HB.out (λh=>h2 h.2.1);have mK:((x:Int)%2==1)=false:= aN ;clear HB;subst this;go_enter func91,ntmps91;go_wp2;go_ret;exact⟨rfl,iI.alloc _ _⟩
  .have:b=false:=qZ HB.out (λh=>h1 h.1);have tD:decide ((n:Int)<=256)=false:= aN ;clear HB;subst this;go_enter func91,ntmps91;go_wp2;go_ret;exact⟨rfl,iI.alloc _ _⟩
def NX{n k:Nat}(h:iq n<=32*k):(gY n).length<=k:=wk (by rw[sF];exact mj.1 h)
def adk(d:Dy):pA d.neg (gY d.m) d.e↔d.ij:=by
 unfold pA;rw[kr];constructor
 .exact λh=>h.2.2
 .intro h;refine⟨vD _,?_,h⟩;rcases h.range with h0|⟨h1,_⟩
  .rw [h0,oB];simp
  .exact NX aC 
def pA.FI{s:Bool}{L:List Nat}{e:Int}(h:pA s L e)(hk:iN L):L=gY (val L):=h.1.FI hk
def pA.len{s:Bool}{L:List Nat}{e:Int}(h:pA s L e):L.length<=256:=h.2.1
def pA.bits{s:Bool}{L:List Nat}{e:Int}(h:pA s L e):iq (val L)<=4096:=by
 rcases h.2.2.range with h0|⟨h1,_⟩
 .simp only at h0;rw[h0];decide
 .exact h1
def pA.exp{s:Bool}{L:List Nat}{e:Int}(h:pA s L e):-16384<=e/\e<=16384:=by
 rcases h.2.2.range with h0|⟨_,h1,h2,_⟩
 .rcases h.2.2.canon with⟨_,_,h3⟩|h3
  .simp only at h3;omega
  .simp only at h0 h3;omega
 .exact ⟨h1,h2⟩
def L7(s:Bool)(A:Option Addr)(c:Nat)(L:List Nat)(e:Int)(w:World)(hs:Sl w A c L)(hd:pA s L e):
 Calls prog 185 #[.agg #[.bool s,.slice A L.length c,.int .i64 e]] w λr w'=>r = .returned (.int .i64 (Dy.iw ⟨s,val L,e⟩))/\iI w w':=by
 obtain⟨mB,lF⟩:=hd.exp;have hl:=hd.len;have hbt:=hd.bits;have HV:=aoX (λw (h:Sl w A c L)=>B6 s A c L e w true h aC aC (by simp[hd]));have HS:=aoX (λw (h:Sl w A c L)=>L6 A c L w h aC);by_cases h0:L=[]
 .subst h0;go_enter func185,ntmps185;go_wp2_with fail;refine(HV.out _ (hs.alloc _)).mono ?_;rintro r w' ⟨rfl,hb⟩;have bx:=(jI.new w s A 0 c e).ext hb;have b0:=bx.c0;have b1:=bx.c1;have b2:=bx.c2;go_wp2;go_ret;exact⟨rfl,(iI.alloc _ _).trans hb⟩
 .have tG:0<L.length:=ez.2 h0;have sA:val L≠0:=by have:=hd.1.Aq h0;omega
  have ht:=aoX (show Dy.iw ⟨s,val L,e⟩=iq (val L)+e by unfold Dy.iw;rw[aZ sA]);clear h0 sA;generalize Dy.iw ⟨s,val L,e⟩=t at *
  generalize iq (val L)=q at *
  have hw:IntKind.i64.wrap ((q:Int)+e)=q+e:=i64_in _ aC aC;have rI:((L.length:Int)==0)=false:=aU aC;go_enter func185,ntmps185;go_wp2_with fail;refine(HV.out _ (hs.alloc _)).mono ?_;rintro r w' ⟨rfl,hb⟩;have bx:=(jI.new w s A L.length c e).ext hb;have b0:=bx.c0;have b1:=bx.c1;have b2:=bx.c2;have ph:=(hs.alloc _).below hb;go_wp2_with fail;go_region_held3 (λw'=>w'.cell? ⟨w.heap.size,1,none⟩=some (.slice A L.length c)/\w'.cell? ⟨w.heap.size,2,none⟩=some (.int .i64 e)) (go_keep)
   (first|(go_at_call 225;refine(HS.out _ ?_).mono ?_;(exact ph.drew);rintro r w'' ⟨rfl,rfl⟩))
  go_wp2;go_ret;exact⟨oQ (by rw[ht.out]),Below.drew ((iI.alloc _ _).trans hb)⟩
def adl(s:Bool)(A:Option Addr)(c:Nat)(L:List Nat)(e:Int)(w:World)(hs:Sl w A c L)(hd:pA s L e):
 Calls prog 173 #[.agg #[.bool s,.slice A L.length c,.int .i64 e]] w λr w'=>r = .returned (.int .i64 (iq (val L)))/\iI w w':=by
 obtain⟨mB,lF⟩:=hd.exp;have hl:=hd.len;have HV:=aoX (λw (h:Sl w A c L)=>B6 s A c L e w true h aC aC (by simp[hd]));have HS:=aoX (λw (h:Sl w A c L)=>L6 A c L w h aC);go_enter func173,ntmps173;go_wp2_with fail;refine(HV.out _ (hs.alloc _)).mono ?_;rintro r w' ⟨rfl,hb⟩;have bx:=(jI.new w s A L.length c e).ext hb;have b0:=bx.c0;have b1:=bx.c1;have b2:=bx.c2;go_wp2_with fail;refine(HS.out _ ((hs.alloc _).below hb)).mono ?_;rintro r w' ⟨rfl,rfl⟩;go_wp2;go_ret;exact⟨rfl,(iI.alloc _ _).trans hb⟩
def L5(s:Bool)(A:Option Addr)(c:Nat)(L:List Nat)(e:Int)(w:World)(hs:Sl w A c L)(hd:pA s L e):
 Calls prog 92 #[.agg #[.bool s,.slice A L.length c,.int .i64 e]] w λr w'=>r = .returned (.int .i64 (Dy.iM ⟨s,val L,e⟩))/\iI w w':=by
 obtain⟨mB,lF⟩:=hd.exp;have hl:=hd.len;have HV:=aoX (λw (h:Sl w A c L)=>B6 s A c L e w true h aC aC (by simp[hd]));by_cases h0:L=[]
 .subst h0;go_enter func92,ntmps92;go_wp2_with fail;refine(HV.out _ (hs.alloc _)).mono ?_;rintro r w' ⟨rfl,hb⟩;have bx:=(jI.new w s A 0 c e).ext hb;have b0:=bx.c0;have b1:=bx.c1;have b2:=bx.c2;go_wp2;go_ret;exact⟨rfl,(iI.alloc _ _).trans hb⟩
 .have tG:0<L.length:=ez.2 h0;have sA:val L≠0:=by have:=hd.1.Aq h0;omega
  have ht:=aoX (show Dy.iM ⟨s,val L,e⟩=if s then -1 else 1 by unfold Dy.iM;rw[aZ sA]);clear h0 sA;generalize Dy.iM ⟨s,val L,e⟩=t at *
  have rI:((L.length:Int)==0)=false:=aU aC;go_enter func92,ntmps92;go_wp2_with fail;refine(HV.out _ (hs.alloc _)).mono ?_;rintro r w' ⟨rfl,hb⟩;have bx:=(jI.new w s A L.length c e).ext hb;have b0:=bx.c0;have b1:=bx.c1;have b2:=bx.c2;cases s
  .go_wp2;go_ret;exact⟨oQ (by rw[ht.out];rfl),(iI.alloc _ _).trans hb⟩
  .go_wp2;go_ret;exact⟨oQ (by rw[ht.out];rfl),(iI.alloc _ _).trans hb⟩
def ad6(e:Int)(w:World)(b:Bool)(hb:b=true↔(-32768<=e/\e<=32768)):
 Calls prog 233 #[.int .i64 e] w λr w'=>r = .returned (.bool b)/\w=w':=by
 by_cases h1:-32768<=e
 .have d1:decide (-32768<=e)=true:=by simpa using h1
  by_cases h2:e<=32768
  .have d2:decide (e<=32768)=true:=by simpa using h2
   have:=LF hb ⟨h1,h2⟩;clear hb;subst this;go_enter func233,ntmps233;go_wp2;go_ret;exact⟨rfl,rfl⟩
  .have d2:decide (e<=32768)=false:=by simpa using h2
   have:=qZ hb (λh=>h2 h.2);clear hb;subst this;go_enter func233,ntmps233;go_wp2;go_ret;exact⟨rfl,rfl⟩
 .have d1:decide (-32768<=e)=false:=by simpa using h1
  have:=qZ hb (λh=>h1 h.1);clear hb;subst this;go_enter func233,ntmps233;go_wp2;go_ret;exact⟨rfl,rfl⟩
def RL(d:Dy)(A:Option Addr)(c:Nat)(w:World)(hs:Sl w A c (gY d.m))(hl:(gY d.m).length<=100000000)(mB:-10000000<=d.e)(lF:d.e<=10000000)(hd:mZ d):
 Calls prog 222 #[.agg #[.bool d.neg,.slice A (gY d.m).length c,.int .i64 d.e]] w (yL w d 0):=by
 obtain⟨s,m,e⟩:=d;simp only at *
 have hr:vc m e=true:=by unfold vc;exact a7 hd
 have HV:=aoX (λw (h:Sl w A c (gY m))=>NI s A c (gY m) e w h hl aC aC);rw[kr,hr]at HV;clear hr hd;go_enter func222,ntmps222;go_wp2_with fail;refine(HV.out _ ((hs.alloc _).alloc _)).mono ?_;rintro r w' ⟨rfl,hb⟩;have bx:=((jI.new w s A (gY m).length c e).alloc (.cells #[.bool false,.slice none 0 0,.int .i64 0] 31)).ext hb;have by_:=(jI.new (w.alloc (.cells #[.bool s,.slice A (gY m).length c,.int .i64 e] 31)) false none 0 0 0).ext hb;have b0:=bx.c0;have b1:=bx.c1;have b2:=bx.c2;have bz:(w.alloc (.cells #[.bool s,.slice A (gY m).length c,.int .i64 e] 31)).heap.size=w.heap.size+1:= aH ;rw[bz]at by_;have c0:=by_.c0;have c1:=by_.c1;have c2:=by_.c2;have f0:=by_.fr 0;have f1:=by_.fr 1;have f2:=by_.fr 2;have ph:=((hs.alloc (.cells #[.bool s,.slice A (gY m).length c,.int .i64 e] 31)).alloc (.cells #[.bool false,.slice none 0 0,.int .i64 0] 31)).below hb;have mU:iI w w':=((iI.alloc _ _).trans (iI.alloc _ _)).trans hb;clear bz;go_wp2;exact DK rfl rfl rfl rfl (by_.set _ _ _ _ _) rfl (by_.vv ph _ _ _ _ _) (jI.uA mU aC _ _ _ _ _)
def acI(d:Dy)(A:Option Addr)(c:Nat)(w:World)(hs:Sl w A c (gY d.m))(hl:(gY d.m).length<=100000000)(mB:-10000000<=d.e)(lF:d.e<=10000000)(hd:¬mZ d):
 Calls prog 222 #[.agg #[.bool d.neg,.slice A (gY d.m).length c,.int .i64 d.e]] w (yL w ju 9):=by
 obtain⟨s,m,e⟩:=d;simp only at *
 have hr:vc m e=false:=by unfold vc;exact bc hd
 have HV:=aoX (λw (h:Sl w A c (gY m))=>NI s A c (gY m) e w h hl aC aC);rw[kr,hr]at HV;clear hr hd;go_enter func222,ntmps222;go_wp2_with fail;refine(HV.out _ ((hs.alloc _).alloc _)).mono ?_;rintro r w' ⟨rfl,hb⟩;have by_:=(jI.new (w.alloc (.cells #[.bool s,.slice A (gY m).length c,.int .i64 e] 31)) false none 0 0 0).ext hb;have bz:(w.alloc (.cells #[.bool s,.slice A (gY m).length c,.int .i64 e] 31)).heap.size=w.heap.size+1:= aH ;rw[bz]at by_;have c0:=by_.c0;have c1:=by_.c1;have c2:=by_.c2;have f0:=by_.fr 0;have f1:=by_.fr 1;have f2:=by_.fr 2;have mU:iI w w':=((iI.alloc _ _).trans (iI.alloc _ _)).trans hb;have hz:gY ju.m=[]:=oB;have HZ:=aoX hz;clear bz hz;go_wp2;exact DK rfl rfl rfl rfl (by_.set _ _ _ _ _) (by rw[HZ.out];rfl) (by rw[HZ.out];exact by_.vv (Sl.nil _) _ _ _ _ _) (jI.uA mU aC _ _ _ _ _)
def ahN(s:Bool)(A:Option Addr)(c:Nat)(L:List Nat)(e:Int)(w:World)(hs:Sl w A c L)(hlen:L.length<=256)(mB:-32768<=e)(lF:e<=32768)(ua:Tb w)(hd:mZ (canon s (val L) e)):
 Calls prog 176 #[.bool s,.slice A L.length c,.int .i64 e] w (yL w (canon s (val L) e) 0):=by
 have F9:decide (256<(L.length:Int))=false:=bc aC;have HE:=aoX (λw=>ad6 e w true (by simp[mB,lF]));have HC:=aoX (λw (h:Sl w A c L) (ht:Tb w)=>IU s A c L e w h aC (by have:=pV L;unfold mR at this;omega) aC aC ht);have jK:(gY (canon s (val L) e).m).length<=100000000:=by
  unfold canon;split
  .simp [oB]
  .refine bk (wk (k:=256) (cz (bY _ _) ?_)) aE ;exact bQ (oL hs.ok) (bK aE hlen)
 have kK:-10000000<=(canon s (val L) e).e/\(canon s (val L) e).e<=10000000:=by
  unfold canon;split
  .simp
  .rename_i h0;have:=Fv hs.ok h0;simp only;omega
 obtain⟨kK,qj⟩:=kK;have HK:=aoX (λA c w (h:Sl w A c (gY (canon s (val L) e).m))=>RL _ A c w h jK kK qj hd);generalize canon s (val L) e=d at *
 clear hd jK kK qj;go_enter func176,ntmps176;go_wp2_with fail;refine(HE.out _).mono ?_;rintro r w' ⟨rfl,rfl⟩;go_wp2_with fail;refine(HC.out _ (hs.alloc _) (ua.alloc _)).mono ?_;rintro r w1 ⟨A1,c1,rfl,uY,jK⟩;go_wp2_with fail;refine(HK.out _ _ _ uY).mono ?_;rintro r w2 ⟨A2,c2,rfl,kJ,kK⟩;have hb:=jK.trans kK;have bx:=(jI.new w false none 0 0 0).ext hb;have b0:=bx.c0;have b1:=bx.c1;have b2:=bx.c2;have f0:=bx.fr 0;have f1:=bx.fr 1;have f2:=bx.fr 2;go_wp2;exact DK rfl rfl rfl rfl (bx.set _ _ _ _ _) rfl (bx.vv kJ _ _ _ _ _) (jI.uA ((iI.alloc _ _).trans hb) (bg _) _ _ _ _ _)
def amY(x:Nat)(hx:x<4294967296):bits BinOp.and IntKind.u32 (x:Int) 1=((x%2:Nat):Int):=by
 rw[show(1:Int)=((1:Nat):Int)from rfl,bits_and_u32_nat _ _ hx aE,Nat.and_one_is_mod]
def agr{m:Nat}(h0:m≠0)(e:Int):vc m e=true↔(iq m<=4096 /\ -16384<=e/\e<=16384/\(iq m:Int)+e<=16384):=by
 have h:vc m e=true↔mZ ⟨false,m,e⟩:=gN;rw[h];constructor
 .rintro (h|h)
  .exact absurd h h0
  .exact h
 .exact λh=>.inr h
def KA(s:Bool)(A:Option Addr)(c:Nat)(L:List Nat)(e:Int)(w:World)(b:Bool)(hs:Sl w A c L)(mB:-9223372036854775808<=e)(lF:e<=9223372036854775807)(hb:b=true↔pA s L e):
 Calls prog 74 #[.agg #[.bool s,.slice A L.length c,.int .i64 e]] w λr w'=>r = .returned (.bool b)/\iI w w':=by
 have Ci:=hs.cap;have ud:=hs.ri;by_cases hL:L=[]
 .subst hL;rw[Si]at hb;cases s
  .by_cases h:e=0
   .subst h;have:b=true:=by simpa using hb
    clear hb;subst this;go_enter func74,ntmps74;go_wp2;go_ret;exact⟨rfl,iI.alloc _ _⟩
   .have:b=false:=qZ hb (by simp[h]);have h':(e==0)=false:= aN ;clear hb;subst this;go_enter func74,ntmps74;go_wp2;go_ret;exact⟨rfl,iI.alloc _ _⟩
  .have:b=false:=qZ hb aH ;clear hb;subst this;go_enter func74,ntmps74;go_wp2;go_ret;exact⟨rfl,iI.alloc _ _⟩
 .have tG:0<L.length:=ez.2 hL;obtain⟨ab,ao,rfl,_,c1⟩:=hs.mv tG;obtain⟨ab',ao',e',_,c2⟩:=hs.mv (i:=L.length-1) aC;cases e';have nh:=hs.ok.get tG;have qD:=hs.ok.get (aC:L.length-1<L.length);rw[Sh (bu tG) (bu (aC:L.length-1<L.length))]at hb;have c1':w.cell? ⟨ab,ao,none⟩=some (.int .u32 (L[0]:Int)):=c1;have TW:=aoX (show L[L.length-1]≠0->ny L from λh=>(BO L).2 (λ_=>h));have wV:=aoX (show L[L.length-1]≠0->val L≠0 from λh=>by have:=((BO L).2 (λ_=>h)).Aq hL;omega);clear c1 hL;generalize L[0]=x at *
  generalize L[L.length-1]=y at *
  have HB:=aoX hb;clear hb;have H:=aoX (λw (h:Sl w (some ⟨ab,ao,none⟩) c L) (hl:L.length<=256) (ht:ny L)=>XN _ c L w h ht aC);have hr:Hid (val L≠0->(vc (val L) e=true↔(iq (val L)<=4096 /\ -16384<=e/\e<=16384/\(iq (val L):Int)+e<=16384))):=λh0=>by
   exact agr h0 e
  obtain⟨n,hn⟩:∃ n,n=L.length:=⟨_,rfl⟩
  rw[<-hn]at tG c2 H HB Ci ⊢;have HN:=aoX hn;clear hn;have rI:((n:Int)==0)=false:= aN ;by_cases h1:n<=256
  .have tD:decide (256<(n:Int))=false:=bc aC ;by_cases h3:y=0
   .have:b=false:=qZ HB.out (by simp[h3]);have D9:((y:Int)==0)=true:= aN ;clear HB hr;subst this;go_enter func74,ntmps74;go_wp2;go_ret;exact⟨rfl,iI.alloc _ _⟩
   .have D9:((y:Int)==0)=false:=aU aC ;have hand:=amY x nh;by_cases h2:x%2=1
    .have mK:(bits BinOp.and IntKind.u32 (x:Int) 1==0)=false:=by rw[hand,h2];rfl
     clear hand;have h0:=wV.out h3;have CA:=TW.out h3;have y5:iq (val L)<=32*n:=mj.2 (by rw[<-sF,HN.out];exact oL hs.ok);have HB2:Hid (b=true↔(iq (val L)<=4096 /\ -16384<=e/\e<=16384/\(iq (val L):Int)+e<=16384)):=by
      show b=true↔_;rw[HB.out,hr.out h0];simp[h1,h2,h3]
     have H2:=aoX (λw h=>H.out w h h1 CA);clear HB hr h0 CA TW wV H;generalize iq (val L)=q at *
     by_cases h4:-16384<=e
     .have d4:decide (e < -16384)=false:=bc aC ;by_cases h5:e<=16384
      .have d5:decide (16384<e)=false:=bc aC ;by_cases h6:q<=4096
       .have d6:decide ((q:Int)<=4096)=true:=a7 aC ;by_cases h7:(q:Int)+e<=16384
        .have d7:decide ((q:Int)+e<=16384)=true:=a7 h7;have:=LF HB2.out ⟨h6,h4,h5,h7⟩;clear HB2;subst this;go_enter func74,ntmps74;go_wp2_with fail;refine(H2.out _ (hs.alloc _)).mono ?_;rintro r w' ⟨rfl,rfl⟩;go_wp2;go_ret;exact⟨rfl,iI.alloc _ _⟩
        .have d7:decide ((q:Int)+e<=16384)=false:=bc h7;have:=qZ HB2.out (λh=>h7 h.2.2.2);clear HB2;subst this;go_enter func74,ntmps74;go_wp2_with fail;refine(H2.out _ (hs.alloc _)).mono ?_;rintro r w' ⟨rfl,rfl⟩;go_wp2;go_ret;exact⟨rfl,iI.alloc _ _⟩
       .have d6:decide ((q:Int)<=4096)=false:=bc aC ;have:=qZ HB2.out (λh=>h6 h.1);clear HB2;subst this;go_enter func74,ntmps74;go_wp2_with fail;refine(H2.out _ (hs.alloc _)).mono ?_;rintro r w' ⟨rfl,rfl⟩;go_wp2;go_ret;exact⟨rfl,iI.alloc _ _⟩
      .have d5:decide (16384<e)=true:=a7 aC ;have:=qZ HB2.out (λh=>h5 h.2.2.1);clear HB2;subst this;go_enter func74,ntmps74;go_wp2;go_ret;exact⟨rfl,iI.alloc _ _⟩
     .have d4:decide (e < -16384)=true:=a7 aC ;have:=qZ HB2.out (λh=>h4 h.2.1);clear HB2;subst this;go_enter func74,ntmps74;go_wp2;go_ret;exact⟨rfl,iI.alloc _ _⟩
    .have mK:(bits BinOp.and IntKind.u32 (x:Int) 1==0)=true:=by rw[hand,(aC:x%2=0)];rfl
     have:b=false:=qZ HB.out (λh=>h2 h.2.1);clear HB hand hr;subst this;go_enter func74,ntmps74;go_wp2;go_ret;exact⟨rfl,iI.alloc _ _⟩
  .have:b=false:=qZ HB.out (λh=>h1 h.1);have tD:decide (256<(n:Int))=true:=a7 aC;clear HB hr;subst this;go_enter func74,ntmps74;go_wp2;go_ret;exact⟨rfl,iI.alloc _ _⟩
def ajN(e:Int)(w:World)(b:Bool)(hb:b=true↔(-32768<=e/\e<=32768)):
 Calls prog 199 #[.int .i64 e] w λr w'=>r = .returned (.bool b)/\w=w':=by
 by_cases h1:-32768<=e
 .have d1:decide (-32768<=e)=true:=by simpa using h1
  by_cases h2:e<=32768
  .have d2:decide (e<=32768)=true:=by simpa using h2
   have:=LF hb ⟨h1,h2⟩;clear hb;subst this;go_enter func199,ntmps199;go_wp2;go_ret;exact⟨rfl,rfl⟩
  .have d2:decide (e<=32768)=false:=by simpa using h2
   have:=qZ hb (λh=>h2 h.2);clear hb;subst this;go_enter func199,ntmps199;go_wp2;go_ret;exact⟨rfl,rfl⟩
 .have d1:decide (-32768<=e)=false:=by simpa using h1
  have:=qZ hb (λh=>h1 h.1);clear hb;subst this;go_enter func199,ntmps199;go_wp2;go_ret;exact⟨rfl,rfl⟩
def ajK(d:Dy)(A:Option Addr)(c:Nat)(w:World)(hs:Sl w A c (gY d.m))(hl:(gY d.m).length<=100000000)(mB:-10000000<=d.e)(lF:d.e<=10000000)(hd:d.ij):
 Calls prog 95 #[.agg #[.bool d.neg,.slice A (gY d.m).length c,.int .i64 d.e]] w (yL w d 0):=by
 obtain⟨s,m,e⟩:=d;simp only at *
 have HV:=aoX (λw (h:Sl w A c (gY m))=>KA s A c (gY m) e w true h aC aC (iff_of_true rfl ((adk ⟨s,m,e⟩).2 hd)));clear hd;go_enter func95,ntmps95;go_wp2_with fail;refine(HV.out _ ((hs.alloc _).alloc _)).mono ?_;rintro r w' ⟨rfl,hb⟩;have bx:=((jI.new w s A (gY m).length c e).alloc (.cells #[.bool false,.slice none 0 0,.int .i64 0] 31)).ext hb;have by_:=(jI.new (w.alloc (.cells #[.bool s,.slice A (gY m).length c,.int .i64 e] 31)) false none 0 0 0).ext hb;have b0:=bx.c0;have b1:=bx.c1;have b2:=bx.c2;have bz:(w.alloc (.cells #[.bool s,.slice A (gY m).length c,.int .i64 e] 31)).heap.size=w.heap.size+1:= aH ;rw[bz]at by_;have c0:=by_.c0;have c1:=by_.c1;have c2:=by_.c2;have f0:=by_.fr 0;have f1:=by_.fr 1;have f2:=by_.fr 2;have ph:=((hs.alloc (.cells #[.bool s,.slice A (gY m).length c,.int .i64 e] 31)).alloc (.cells #[.bool false,.slice none 0 0,.int .i64 0] 31)).below hb;have mU:iI w w':=((iI.alloc _ _).trans (iI.alloc _ _)).trans hb;clear bz;go_wp2;exact DK rfl rfl rfl rfl (by_.set _ _ _ _ _) rfl (by_.vv ph _ _ _ _ _) (jI.uA mU aC _ _ _ _ _)
def aj0(s:Bool)(A:Option Addr)(c:Nat)(L:List Nat)(e:Int)(w:World)(hs:Sl w A c L)(ht:ny L):
 Calls prog 157 #[.agg #[.bool s,.slice A L.length c,.int .i64 e]] w λr w'=>r = .returned (.int .i64 (Dy.iM ⟨s,val L,e⟩))/\iI w w':=by
 have hl:=hs.len;by_cases h0:L=[]
 .subst h0;go_enter func157,ntmps157;go_wp2;go_ret;exact⟨rfl,iI.alloc _ _⟩
 .have tG:0<L.length:=ez.2 h0;have sA:val L≠0:=by have:=ht.Aq h0;omega
  have ht:=aoX (show Dy.iM ⟨s,val L,e⟩=if s then -1 else 1 by unfold Dy.iM;rw[aZ sA]);clear h0 sA;generalize Dy.iM ⟨s,val L,e⟩=t at *
  have rI:((L.length:Int)==0)=false:=aU aC;cases s
  .go_enter func157,ntmps157;go_wp2;go_ret;exact⟨oQ (by rw[ht.out];rfl),iI.alloc _ _⟩
  .go_enter func157,ntmps157;go_wp2;go_ret;exact⟨oQ (by rw[ht.out];rfl),iI.alloc _ _⟩
def aj2(s:Bool)(A:Option Addr)(c:Nat)(L:List Nat)(e:Int)(w:World)(hs:Sl w A c L)(ht:ny L)(hl:L.length<=100000)(mB:-1000000<=e)(lF:e<=1000000):
 Calls prog 158 #[.agg #[.bool s,.slice A L.length c,.int .i64 e]] w λr w'=>r = .returned (.int .i64 (Dy.iw ⟨s,val L,e⟩))/\iI w w':=by
 have HS:=aoX (λw (h:Sl w A c L)=>XN A c L w h ht aC);have y5:iq (val L)<=32*L.length:=mj.2 (by rw[<-sF];exact oL hs.ok);by_cases h0:L=[]
 .subst h0;go_enter func158,ntmps158;go_wp2;go_ret;exact⟨rfl,iI.alloc _ _⟩
 .have tG:0<L.length:=ez.2 h0;have sA:val L≠0:=by have:=ht.Aq h0;omega
  have ht:=aoX (show Dy.iw ⟨s,val L,e⟩=iq (val L)+e by unfold Dy.iw;rw[aZ sA]);clear h0 sA;generalize Dy.iw ⟨s,val L,e⟩=t at *
  generalize iq (val L)=q at *
  have hw:IntKind.i64.wrap ((q:Int)+e)=q+e:=i64_in _ aC aC;have rI:((L.length:Int)==0)=false:=aU aC;have ph:=hs.alloc (.cells #[.bool s,.slice A L.length c,.int .i64 e] 31);go_enter func158,ntmps158;go_wp2_with fail;go_region_held3 (λw'=>w'.cell? ⟨w.heap.size,1,none⟩=some (.slice A L.length c)/\w'.cell? ⟨w.heap.size,2,none⟩=some (.int .i64 e)) (go_keep)
   (first|(go_at_call 156;refine(HS.out _ ?_).mono ?_;(exact ph.drew);rintro r w'' ⟨rfl,rfl⟩))
  go_wp2;go_ret;exact⟨oQ (by rw[ht.out]),Below.drew (iI.alloc _ _)⟩
def ajU(s:Bool)(A:Option Addr)(c:Nat)(L:List Nat)(e:Int)(w:World)(hs:Sl w A c L)(ht:ny L):
 Calls prog 159 #[.agg #[.bool s,.slice A L.length c,.int .i64 e]] w (xD w (jt ⟨s,val L,e⟩)):=by
 have hl:=hs.len;have HL:=aoX (ht.FI hs.ok);by_cases h0:L=[]
 .subst h0;have HZ:=aoX oB;cases s
  .go_enter func159,ntmps159;go_wp2;exact uI (d:=jt ⟨false,val [],e⟩) rfl rfl rfl (jI.ur aH _ _ _ _ _) (by show _=(gY 0).length;rw[HZ.out];rfl) (by show Sl _ _ _ (gY 0);rw[HZ.out];exact(hs.alloc _).alloc _) ((iI.alloc _ _).trans (iI.alloc _ _))
  .go_enter func159,ntmps159;go_wp2;exact uI (d:=jt ⟨true,val [],e⟩) rfl rfl rfl (jI.ur aH _ _ _ _ _) (by show _=(gY 0).length;rw[HZ.out];rfl) (by show Sl _ _ _ (gY 0);rw[HZ.out];exact(hs.alloc _).alloc _) ((iI.alloc _ _).trans (iI.alloc _ _))
 .have tG:0<L.length:=ez.2 h0;have sA:val L≠0:=by have:=ht.Aq h0;omega
  have hd:=aoX (show jt ⟨s,val L,e⟩=⟨!s,val L,e⟩by unfold jt;simp[sA]);clear h0 sA ht;rw[hd.out];cases s
  .go_enter func159,ntmps159;go_wp2;exact uI (d:=⟨!false,val L,e⟩) rfl rfl rfl (jI.ur aH _ _ _ _ _) (by show _=(gY (val L)).length;rw[<-HL.out]) (by show Sl _ _ _ (gY (val L));rw[<-HL.out];exact(hs.alloc _).alloc _) ((iI.alloc _ _).trans (iI.alloc _ _))
  .go_enter func159,ntmps159;go_wp2;exact uI (d:=⟨!true,val L,e⟩) rfl rfl rfl (jI.ur aH _ _ _ _ _) (by show _=(gY (val L)).length;rw[<-HL.out]) (by show Sl _ _ _ (gY (val L));rw[<-HL.out];exact(hs.alloc _).alloc _) ((iI.alloc _ _).trans (iI.alloc _ _))
def acN{a b:Nat}:kE a b=0↔a=b:=by
 unfold kE;by_cases h:a<b
 .rw [a6 h];omega
 .by_cases h':b<a
  .rw [aZ h,a6 h'];omega
  .rw [aZ h,aZ h'];omega
def ajL(s:Bool)(A:Option Addr)(c:Nat)(L:List Nat)(e:Int)(t:Bool)(B:Option Addr)(d:Nat)(M:List Nat)(f:Int)(w:World)(b:Bool)
 (hs:Sl w A c L) (hr:Sl w B d M) (tL:ny L) (tM:ny M) (h1:L.length<=100000) (_h2:M.length<=100000) (hb:b=true↔(s=t/\e=f/\L=M)):
 Calls prog 34 #[.agg #[.bool s,.slice A L.length c,.int .i64 e],.agg #[.bool t,.slice B M.length d,.int .i64 f]] w λr w'=>r = .returned (.bool b)/\iI w w':=by
 have hE:iI w ((w.alloc (.cells #[.bool s,.slice A L.length c,.int .i64 e] 31)).alloc (.cells #[.bool t,.slice B M.length d,.int .i64 f] 31)):=(iI.alloc _ _).trans (iI.alloc _ _);by_cases h:s=t
 .subst h;by_cases h':e=f
  .subst h';have mU:b=true↔L=M:=by rw[hb];simp
   clear hb;by_cases hl:L.length=M.length
   .have HC:=aoX (λw (h:Sl w A c L) (k:Sl w B d M)=>XP A B c d L M w h k tL tM aC aC);have hv:Hid (b=(kE (val L) (val M)==0)):=by
     show b=_;refine Rb mU ?_;rw[beq_iff_eq,acN];exact⟨λh=>by rw[h],λh=>ny.ext tL tM hs.ok hr.ok h⟩
    generalize kE (val L) (val M)=v at *
    rw[<-hl]at HC hE ⊢;have hse:(e==e)=true:= aH ;have kJ:=(hs.alloc (.cells #[.bool s,.slice A L.length c,.int .i64 e] 31)).alloc (.cells #[.bool s,.slice B L.length d,.int .i64 e] 31);have nR:=(hr.alloc (.cells #[.bool s,.slice A L.length c,.int .i64 e] 31)).alloc (.cells #[.bool s,.slice B L.length d,.int .i64 e] 31);clear mU hl tL tM;cases s
    .go_enter func34,ntmps34;go_wp2_with fail;refine(HC.out _ kJ nR).mono ?_;rintro r w' ⟨rfl,jK⟩;go_wp2;go_ret;exact⟨KF hv.out.symm,hE.trans jK⟩
    .go_enter func34,ntmps34;go_wp2_with fail;refine(HC.out _ kJ nR).mono ?_;rintro r w' ⟨rfl,jK⟩;go_wp2;go_ret;exact⟨KF hv.out.symm,hE.trans jK⟩
   .have:=qZ mU (λh=>hl (by rw[h]));clear mU;subst this;have jl:((L.length:Int)==M.length)=false:=aU aC;generalize L.length=n at *
    generalize M.length=m at *
    cases s
    .go_enter func34,ntmps34;go_wp2;go_ret;exact⟨rfl,hE⟩
    .go_enter func34,ntmps34;go_wp2;go_ret;exact⟨rfl,hE⟩
  .have:=qZ hb (λh=>h' h.2.1);clear hb;subst this;have jl:(e==f)=false:=aU h';cases s
   .go_enter func34,ntmps34;go_wp2;go_ret;exact⟨rfl,hE⟩
   .go_enter func34,ntmps34;go_wp2;go_ret;exact⟨rfl,hE⟩
 .have:=qZ hb (λh'=>h h'.1);clear hb;subst this;cases s<;>cases t
  .exact absurd rfl h
  .go_enter func34,ntmps34;go_wp2;go_ret;exact⟨rfl,hE⟩
  .go_enter func34,ntmps34;go_wp2;go_ret;exact⟨rfl,hE⟩
  .exact absurd rfl h
def Sl.K2(w:World)(g:Nat)(hg:w.heap.size=g)(y z:Int)(p q:Nat)(e:y=(p:Int))(e':z=(q:Int))(hp:p<4294967296)(hq:q<4294967296):
 Sl (w.alloc (.cells #[.int .u32 y,.int .u32 z] 171)) (some ⟨g,0,none⟩) 2 [p,q]:=by
 subst e e' hg;refine⟨bg _,aE,iN.cons hp (iN.cons hq iN.nil),(λh=>by cases h),λi y hy=>?_⟩;obtain⟨h1,h2⟩:=b7.1 hy;simp at h1;refine⟨_,_,rfl,aH,?_⟩;rw[b5,World.cell?_alloc_at _ _ _ _ rfl];rcases i with _|_|i
 .simp at h2;subst h2;rfl
 .simp at h2;subst h2;rfl
 .omega
def ajQ(n:Nat)(w:World)(hn:n<4294967296):
 Calls prog 126 #[.int .i64 n] w (xD w (canon false n 0)):=by
 have hm:=yQ n aC;have w9:(n:Int)%4294967296=n:= aC ;rw[w9]at hm;have hd:(n:Int)/4294967296=0:= aC ;have iB:¬(n:Int)<0:= aC ;have MZ:decide ((n:Int)<0)=false:=bc iB;have hu:IntKind.u64.wrap (n:Int)=n:=by rw[IntKind.wrap_u64];omega
 have HC:=aoX (λ(A:Option Addr) c w (h:Sl w A c [n,0])=>Ky false A c [n,0] 0 w h aH aE aE);have hv:val [n,0]=n:= aH ;rw[hv]at HC;clear hv;generalize canon false n 0=d at *
 go_enter func126,ntmps126;go_wp2_with fail;refine(HC.out _ _ _ (Sl.K2 _ _ aH _ _ n 0 rfl rfl hn aE)).mono ?_;rintro r w1 ⟨A1,c1,rfl,uY,jK⟩;have lV:iI (w.alloc (.cells #[.bool false,.slice none 0 0,.int .i64 0] 31)) w1:=(iI.alloc _ _).trans jK;have bx:=(jI.new w false none 0 0 0).ext lV;have b0:=bx.c0;have b1:=bx.c1;have b2:=bx.c2;have f0:=bx.fr 0;have f1:=bx.fr 1;have f2:=bx.fr 2;go_wp2;exact uI rfl rfl rfl (bx.set _ _ _ _ _) rfl (bx.vv uY _ _ _ _ _) (jI.uA ((iI.alloc _ _).trans lV) (bg _) _ _ _ _ _)
end Go.Proofs.YtgdahmmlddfimaaGreatDoor
namespace Go.Proofs.YtgdahmmlddfimaaGreatDoor.Fp
def DE(s:Bool)(e:Int):canon s 0 e=ju:=by unfold canon;rw[a6 rfl];rfl
def IJ(s:Bool)(x:Nat)(k:Int):j8 (if s then -(x:Int)else(x:Int)) k=canon s x k:=by
 unfold j8;cases s
 .have h:decide ((x:Int)<0)=false:=bc aC ;simp only[bE,bn];rw[h,eB]
 .by_cases h:x=0
  .subst h;simp[DE]
  .have h:decide (-(x:Int)<0)=true:=a7 aC ;simp only[bB];rw[h,fY,eB]
def Zk{s:Bool}{m n:Nat}{e f k:Int}(hm:m≠0)(hn:n≠0)(hk:min e f=k):
 iL ⟨s,m,e⟩ ⟨s,n,f⟩=canon s (m*2^(e-k).toNat+n*2^(f-k).toNat) k:=by
 unfold iL;rw[aZ hm,aZ hn];simp only[hk];rw[<-IJ];unfold Dy.num Dy.jO;cases s
 .simp
 .simp;congr 1;omega
def Zi{s t:Bool}{m n:Nat}{e f k:Int}(hm:m≠0)(hn:n≠0)(hk:min e f=k)(hs:s≠t)(sO:n*2^(f-k).toNat<=m*2^(e-k).toNat):
 iL ⟨s,m,e⟩ ⟨t,n,f⟩=canon s (m*2^(e-k).toNat-n*2^(f-k).toNat) k:=by
 unfold iL;rw[aZ hm,aZ hn];simp only[hk];rw[<-IJ];unfold Dy.num Dy.jO;simp only;generalize m*2^(e-k).toNat=x at *
 generalize n*2^(f-k).toNat=y at *
 congr 1;cases s<;>cases t<;>simp at hs ⊢ <;> omega
def Zj{s t:Bool}{m n:Nat}{e f k:Int}(hm:m≠0)(hn:n≠0)(hk:min e f=k)(hs:s≠t)(iB:m*2^(e-k).toNat<n*2^(f-k).toNat):
 iL ⟨s,m,e⟩ ⟨t,n,f⟩=canon t (n*2^(f-k).toNat-m*2^(e-k).toNat) k:=by
 unfold iL;rw[aZ hm,aZ hn];simp only[hk];rw[<-IJ];unfold Dy.num Dy.jO;simp only;generalize m*2^(e-k).toNat=x at *
 generalize n*2^(f-k).toNat=y at *
 congr 1;cases s<;>cases t<;>simp at hs ⊢ <;> omega
def ahp{L:List Nat}(h:iN L)(n:Nat):(gY (val L*2^n)).length<=L.length+n/32+1:=by
 refine wk ?_;have h1:=oL h;rw[sF]at h1 ⊢;have h2:val L*2^n<2^(32*L.length)*2^n:=dh h1 (bw aE);rw[<-bt]at h2;exact bQ h2 (bK aE aC)
def aho{a b k:Nat}(ha:(gY a).length<=k)(hb:(gY b).length<=k):(gY (a+b)).length<=k+1:=by
 refine wk ?_;have h1:=Es ha;have h2:=Es hb;rw[bD];omega
def mV{a b:Nat}(h:a<=b):(gY a).length<=(gY b).length:=
 wk (cz h (Es (bg _)))
end Go.Proofs.YtgdahmmlddfimaaGreatDoor.Fp
namespace Go.Proofs.YtgdahmmlddfimaaGreatDoor
open Go.RowKit Fp
def nc(a b:Dy):Dy:=canon (a.neg != b.neg) (a.m*b.m) (a.e+b.e)
def ahr{L:List Nat}{k:Nat}(h:iN L)(hl:L.length<=k):(gY (val L)).length<=k:=
 wk (bQ (oL h) (bK aE hl))
end Go.Proofs.YtgdahmmlddfimaaGreatDoor
namespace Go.Proofs.YtgdahmmlddfimaaGreatDoor.Fp
def ahM{d:Dy}{j k:Int}(h1:j<=k)(h2:k<=d.e):d.jO j=d.jO k*2^(k-j).toNat:=by
 unfold Dy.jO;rw[bC,<-bt];congr 2;omega
def Ke{d:Dy}{j k:Int}(h1:j<=k)(h2:k<=d.e):d.num j=d.num k*((2^(k-j).toNat:Nat):Int):=by
 unfold Dy.num;rw[ahM h1 h2];split
 .rw [eR,Int.neg_mul]
 .rw [eR]
def wA{d:Dy}(h:d.m=0)(k:Int):d.num k=0:=by
 unfold Dy.num;rw[V6 h];split<;>rfl
def xI(x y:Int):Int:=if x<y then -1 else if y<x then 1 else 0
def RQ(x y:Int){p:Nat}(hp:0<p):xI (x*(p:Int)) (y*(p:Int))=xI x y:=by
 unfold xI;have h:(0:Int)<p:= aC ;have a:=@Int.mul_lt_mul_right (p:Int) x y h;have b:=@Int.mul_lt_mul_right (p:Int) y x h;simp only[a,b]
def ru(d:Dy)(k:Int):Prop:=d.m=0\/k<=d.e
def ru.num{d:Dy}{j k:Int}(h:ru d k)(hj:j<=k):d.num j=d.num k*((2^(k-j).toNat:Nat):Int):=by
 rcases h with h|h
 .rw [wA h,wA h,Int.zero_mul]
 .exact Ke hj h
def Ft{a b:Dy}{k:Int}(ha:ru a k)(hb:ru b k):jj a b=xI (a.num k) (b.num k):=by
 have e0:jj a b=xI (a.num (min a.e b.e)) (b.num (min a.e b.e)):=rfl;rw[e0];obtain⟨j,h1,h2⟩:∃ j:Int,j<=k/\j<=min a.e b.e:=⟨min k (min a.e b.e),aC,aC⟩
 have a1:=ha.num h1;have b1:=hb.num h1;have a2:=(show ru a (min a.e b.e)from .inr aC).num h2;have b2:=(show ru b (min a.e b.e)from .inr aC).num h2;rw[<-RQ _ _ (p:=2^(min a.e b.e-j).toNat) (bw aE),<-a2,<-b2,a1,b1,RQ _ _ (bw aE)]
def ahL{s:Bool}{m:Nat}{e k:Int}(h:k<=e):(canon s m e).jO k=m*2^(e-k).toNat:=by
 unfold canon;split
 .rename_i h0;subst h0;simp[Dy.jO]
 .rename_i h0;unfold Dy.jO;simp only;have e1:=FD h0
  conv=>rhs;rw[<-e1]
  rw[bC,<-bt];congr 2;omega
def C2{s:Bool}{m:Nat}{e k:Int}(h:k<=e):(canon s m e).num k=if s then -((m*2^(e-k).toNat:Nat):Int)else((m*2^(e-k).toNat:Nat):Int):=by
 by_cases h0:m=0
 .subst h0;rw[wA (by simp[canon])];simp
 .have:(canon s m e).neg=s:=by unfold canon;rw[aZ h0]
  unfold Dy.num;rw[ahL h,this]
def WU{m:Nat}{e k:Int}(h:k<=e):(canon false m e).num k=((m*2^(e-k).toNat:Nat):Int):=by
 rw[C2 h];simp
def Ou{z e k:Int}(h:k<=e):(j8 z e).num k=z*((2^(e-k).toNat:Nat):Int):=by
 unfold j8;rw[C2 h];by_cases hz:z<0
 .simp only[hz,fD,bB];rw[eR,<-Int.neg_mul];congr 1;omega
 .simp only[hz,gO];rw[eR,show(z.natAbs:Int)=z by omega];simp
def Az{s:Bool}{m:Nat}{e k:Int}(h:k<=e):ru (canon s m e) k:=by
 unfold canon;split
 .exact .inl rfl
 .exact .inr (by simp only;omega)
def Lu{z e k:Int}(h:k<=e):ru (j8 z e) k:=Az h
def KV{a b:Dy}{k:Int}(ha:ru a k)(hb:ru b k):(iL a b).num k=a.num k+b.num k:=by
 unfold iL;by_cases h1:a.m=0
 .rw [a6 h1,wA h1,Int.zero_add]
 .rw [aZ h1];by_cases h2:b.m=0
  .rw [a6 h2,wA h2,Int.add_zero]
  .rw [aZ h2];have ea:k<=a.e:=by rcases ha with h|h;exact absurd h h1;exact h
   have eb:k<=b.e:=by rcases hb with h|h;exact absurd h h2;exact h
   have hm:k<=min a.e b.e:= aC ;rw[Ou hm,Int.add_mul,<-Ke hm aC,<-Ke hm aC]
def Ij{a b:Dy}{k:Int}(ha:ru a k)(hb:ru b k):ru (iL a b) k:=by
 unfold iL;by_cases h1:a.m=0
 .rw [a6 h1];exact hb
 .rw [aZ h1];by_cases h2:b.m=0
  .rw [a6 h2];exact ha
  .rw [aZ h2];have ea:k<=a.e:=by rcases ha with h|h;exact absurd h h1;exact h
   have eb:k<=b.e:=by rcases hb with h|h;exact absurd h h2;exact h
   exact Lu aC 
def yW{a b:Dy}(ha:a.nn)(hb:b.nn):(iL a b).nn:=by
 unfold iL;split
 .exact hb
 .split
  .exact ha
  .exact tl _ _ _
def Lv{d:Dy}{k:Int}(h:ru d k):ru (jt d) k:=h
def Ov{d:Dy}(k:Int):(jt d).num k = -(d.num k):=by
 by_cases h:d.m=0
 .rw [wA h,wA (by exact h)];rfl
 .exact WV d k h
def St{a b:Dy}(ha:a.nn)(hb:b.nn){k:Int}(h1:ru a k)(h2:ru b k)(h:a.num k=b.num k):a=b:=by
 have zero:∀ {d:Dy},d.nn->d.m=0->d=ju:=by
  intro d hd h0;obtain⟨s,m,e⟩:=d;rcases hd with⟨x,y,z⟩|hd
  .simp only at x y z;subst x y z;rfl
  .simp only at hd h0;omega
 have nz:∀ {d:Dy},d.num k=0->d.m=0:=by
  intro d hd;by_cases h0:d.m=0
  .exact h0
  .exfalso;have:=yi h0 k;unfold Dy.num at hd;split at hd<;>omega
 by_cases za:a.m=0
 .have zb:b.m=0:=nz (by rw[<-h];exact wA za k);rw[zero ha za,zero hb zb]
 .have zb:b.m≠0:=λzb=>za (nz (by rw[h];exact wA zb k))
  have oa:a.m%2=1:=by rcases ha with⟨x,_,_⟩|x;exact absurd x za;exact x
  have ob:b.m%2=1:=by rcases hb with⟨x,_,_⟩|x;exact absurd x zb;exact x
  have ea:k<=a.e:=by rcases h1 with h|h;exact absurd h za;exact h
  have eb:k<=b.e:=by rcases h2 with h|h;exact absurd h zb;exact h
  have pa:=yi za k;have pb:=yi zb k;have hm:a.neg=b.neg/\a.jO k=b.jO k:=by
   unfold Dy.num at h;cases x:a.neg<;>cases y:b.neg<;>simp[x,y]at h<;>first|exact⟨rfl,aC⟩|(exfalso;omega)
  have hc:=congrArg jN hm.2;unfold Dy.jO at hc;rw[yZ oa,yZ ob]at hc;have w9:=hm.2;unfold Dy.jO at w9;rw[hc]at w9;have rY:=aoP (bw aE) w9;obtain⟨s,m,e⟩:=a;obtain⟨t,n,f⟩:=b;simp only at *
  have:e=f:= aC ;rw[hm.1,rY,this]
end Go.Proofs.YtgdahmmlddfimaaGreatDoor.Fp
namespace Go.Proofs.YtgdahmmlddfimaaGreatDoor
open Go.RowKit Fp
def YU(A:Option Addr)(c:Nat)(M:List Nat)(n:Int)(w:World)(kJ:Sl w A c M)(hlen:M.length<=256)(h0:0<=n)(hn:n<=65536)(rH:(gY (val M*2^n.toNat)).length<=256):
 Calls prog 220 #[.slice A M.length c,.int .i64 n] w (uE w (gY (val M*2^n.toNat))):=by
 obtain⟨k,rfl⟩:=eU h0;exact alz A c M k w kJ hlen aC rH
set_option maxHeartbeats 8000000 in
def adr(s : Bool)(A : Option Addr)(c : Nat)(L : List Nat)(e : Int)(t : Bool)(B : Option Addr)(d : Nat)(M : List Nat)(f : Int)(w : World)
    (hs : Sl w A c L) (hr : Sl w B d M) (da : pA s L e) (db : pA t M f) (vS : val L≠0) (tw : val M≠0):
    Calls prog 183 #[.agg #[.bool s,.slice A L.length c,.int .i64 e],.agg #[.bool t,.slice B M.length d,.int .i64 f]] w λr w' => r = .returned (.int .i64 (tn ⟨s,val L,e⟩ ⟨t,val M,f⟩))/\iI w w' := by
  obtain⟨mB,lF⟩ := da.exp;obtain⟨M5,M6⟩ := db.exp;have hl := da.len;have hm := db.len;have hE : iI w ((w.alloc (.cells #[.bool s,.slice A L.length c,.int .i64 e] 31)).alloc (.cells #[.bool t,.slice B M.length d,.int .i64 f] 31)) := (iI.alloc _ _).trans (iI.alloc _ _);have mc := ((jI.new w s A L.length c e).alloc (.cells #[.bool t,.slice B M.length d,.int .i64 f] 31)).drew;have mw := (jI.ur (W := w.alloc (.cells #[.bool s,.slice A L.length c,.int .i64 e] 31)) (g := w.heap.size+1) aH t B M.length d f).drew;have zC := (hs.below hE).drew;have Cx := (hr.below hE).drew;have HE := aoX (hE.trans (iI.drew _));clear hE;have HTa := aoX (λw (h : Sl w A c L) => L7 s A c L e w h da);have HTb := aoX (λw (h : Sl w B d M) => L7 t B d M f w h db);have Hlt := aoX (λh => RS (a := ⟨s,val L,e⟩) (b := ⟨t,val M,f⟩) vS tw h);have Hgt := aoX (λh => RR (a := ⟨s,val L,e⟩) (b := ⟨t,val M,f⟩) vS tw h);have Hta := aoX (show Dy.iw ⟨s,val L,e⟩=iq (val L)+e by unfold Dy.iw;rw[aZ vS]);have Htb := aoX (show Dy.iw ⟨t,val M,f⟩=iq (val M)+f by unfold Dy.iw;rw[aZ tw]);obtain⟨k,hk⟩ : ∃ k,min e f=k := ⟨_,rfl⟩
  have hke : k<=e := aC ;have hkf : k<=f := aC ;have lP : -17000<=k := aC ;have Nd := aoX (aC:k=e\/k=f);have UT : IntKind.i64.wrap (e-k)=e-k := i64_in _ aC aC;have hwf : IntKind.i64.wrap (f-k)=f-k := i64_in _ aC aC;have HM := aoX (show tn ⟨s,val L,e⟩ ⟨t,val M,f⟩=kE (val L*2^(e-k).toNat) (val M*2^(f-k).toNat)by unfold tn;simp only[hk];rfl);have Hfa := aoX (show iq (val L)+e=iq (val M)+f->iq (val L*2^(e-k).toNat)<=4096 from λh => by
    rw[q7 vS];have := da.bits;have := db.bits;have := Nd.out;omega)
  have Hfb := aoX (show iq (val L)+e=iq (val M)+f->iq (val M*2^(f-k).toNat)<=4096 from λh => by
    rw[q7 tw];have := da.bits;have := db.bits;have := Nd.out;omega)
  have HXa := aoX (λw (h : Sl w A c L) rH => YU A c L (e-k) w h hl aC aC rH);have HXb := aoX (λw (h : Sl w B d M) rH => YU B d M (f-k) w h hm aC aC rH);generalize Dy.iw ⟨s,val L,e⟩=ta at *
  generalize Dy.iw ⟨t,val M,f⟩=tb at *
  generalize tn ⟨s,val L,e⟩ ⟨t,val M,f⟩=R at *
  generalize val L*2^(e-k).toNat=x at *
  generalize val M*2^(f-k).toNat=y at *
  have HC := aoX (λA B c d w (h : Sl w A c (gY x)) (k : Sl w B d (gY y)) hx hy => J9 A B c d (gY x) (gY y) w h k hx hy);rw[kr,kr]at HC;clear vS tw da db hl hm;go_enter func183,ntmps183;go_wp2_with fail;go_region_held3 (λw' => w'.cell? ⟨w.heap.size,0,none⟩=some (.bool s)/\w'.cell? ⟨w.heap.size,1,none⟩=some (.slice A L.length c)/\w'.cell? ⟨w.heap.size,2,none⟩=some (.int .i64 e)/\w'.cell? ⟨w.heap.size+1,0,none⟩=some (.bool t)/\w'.cell? ⟨w.heap.size+1,1,none⟩=some (.slice B M.length d)/\w'.cell? ⟨w.heap.size+1,2,none⟩=some (.int .i64 f))
    (first
      |exact⟨mc.c0,mc.c1,mc.c2,mw.c0,mw.c1,mw.c2⟩
      |exact⟨(mc.ext ji).c0,(mc.ext ji).c1,(mc.ext ji).c2,(mw.ext ji).c0,(mw.ext ji).c1,(mw.ext ji).c2⟩
      |exact⟨(mc.ext jy).c0,(mc.ext jy).c1,(mc.ext jy).c2,(mw.ext jy).c0,(mw.ext jy).c1,(mw.ext jy).c2⟩
      |exact⟨(mc.ext (ji.trans jy)).c0,(mc.ext (ji.trans jy)).c1,(mc.ext (ji.trans jy)).c2,(mw.ext (ji.trans jy)).c0,(mw.ext (ji.trans jy)).c1,(mw.ext (ji.trans jy)).c2⟩
      |exact⟨(mc.ext (jy.trans ji)).c0,(mc.ext (jy.trans ji)).c1,(mc.ext (jy.trans ji)).c2,(mw.ext (jy.trans ji)).c0,(mw.ext (jy.trans ji)).c1,(mw.ext (jy.trans ji)).c2⟩
      |exact⟨(mc.ext ((ji.trans jy).trans pN)).c0,(mc.ext ((ji.trans jy).trans pN)).c1,(mc.ext ((ji.trans jy).trans pN)).c2,(mw.ext ((ji.trans jy).trans pN)).c0,(mw.ext ((ji.trans jy).trans pN)).c1,(mw.ext ((ji.trans jy).trans pN)).c2⟩
      |exact⟨(mc.ext ((jy.trans ji).trans pN)).c0,(mc.ext ((jy.trans ji).trans pN)).c1,(mc.ext ((jy.trans ji).trans pN)).c2,(mw.ext ((jy.trans ji).trans pN)).c0,(mw.ext ((jy.trans ji).trans pN)).c1,(mw.ext ((jy.trans ji).trans pN)).c2⟩)
    (first
      | (go_at_call_of 185 (Value.agg #[.bool s,.slice A L.length c,.int .i64 e])
         refine(HTa.out _ ?_).mono ?_
         (first|exact zC|exact zC.below jy)
         rintro r wx ⟨rfl,ji⟩)
      | (go_at_call_of 185 (Value.agg #[.bool t,.slice B M.length d,.int .i64 f])
         refine(HTb.out _ ?_).mono ?_
         (first|exact Cx|exact Cx.below ji)
         rintro r wy ⟨rfl,jy⟩))
  first
    | (have qO := ji.trans jy)
    | (have qO := jy.trans ji)
  have cx1 := (mc.ext qO).drew;have cx2 := (mw.ext qO).drew;have kJ := (zC.below qO).drew;have nR := (Cx.below qO).drew;have cx1n := (mc.ext qO)
  have cx2n := (mw.ext qO)
  have HF := aoX ((HE.out.trans qO).trans (iI.drew _));have HFr := aoX (HE.out.trans qO);clear ji jy qO;by_cases h1 : ta<tb
  . have hR := aoX (Hlt.out h1)
    go_wp2;go_ret;exact⟨oQ hR.out.symm,HFr.out⟩
  . by_cases h2 : tb<ta
    . have hR := aoX (Hgt.out h2)
      go_wp2;go_ret;exact⟨oQ hR.out.symm,HFr.out⟩
    . have nJ : (iq (val L) : Int)+e=iq (val M)+f := by rw[<-Hta.out,<-Htb.out];omega
      have pF := NX (k := 128) (Hfa.out nJ);have hfb := NX (k := 128) (Hfb.out nJ);have HXa2 := aoX (λw h => HXa.out w h aC);have HXb2 := aoX (λw h => HXb.out w h aC);have HC2 := aoX (λA B c d w h k => HC.out A B c d w h k aC aC);have b0 := cx1n.c0;have b1 := cx1n.c1;have b2 := cx1n.c2;have d0 := cx2n.c0;have d1 := cx2n.c1;have d2 := cx2n.c2;clear nJ pF hfb;go_wp2_with fail;go_region_held3 (λw' => w'.cell? ⟨w.heap.size,0,none⟩=some (.bool s)/\w'.cell? ⟨w.heap.size,1,none⟩=some (.slice A L.length c)/\w'.cell? ⟨w.heap.size,2,none⟩=some (.int .i64 e)/\w'.cell? ⟨w.heap.size+1,0,none⟩=some (.bool t)/\w'.cell? ⟨w.heap.size+1,1,none⟩=some (.slice B M.length d)/\w'.cell? ⟨w.heap.size+1,2,none⟩=some (.int .i64 f))
        (first
          |exact⟨cx1.c0,cx1.c1,cx1.c2,cx2.c0,cx2.c1,cx2.c2⟩
          |exact⟨(cx1.ext ji).c0,(cx1.ext ji).c1,(cx1.ext ji).c2,(cx2.ext ji).c0,(cx2.ext ji).c1,(cx2.ext ji).c2⟩
          |exact⟨(cx1.ext jy).c0,(cx1.ext jy).c1,(cx1.ext jy).c2,(cx2.ext jy).c0,(cx2.ext jy).c1,(cx2.ext jy).c2⟩
          |exact⟨(cx1.ext (ji.trans jy)).c0,(cx1.ext (ji.trans jy)).c1,(cx1.ext (ji.trans jy)).c2,(cx2.ext (ji.trans jy)).c0,(cx2.ext (ji.trans jy)).c1,(cx2.ext (ji.trans jy)).c2⟩
          |exact⟨(cx1.ext (jy.trans ji)).c0,(cx1.ext (jy.trans ji)).c1,(cx1.ext (jy.trans ji)).c2,(cx2.ext (jy.trans ji)).c0,(cx2.ext (jy.trans ji)).c1,(cx2.ext (jy.trans ji)).c2⟩
          |exact⟨(cx1.ext ((ji.trans jy).trans pN)).c0,(cx1.ext ((ji.trans jy).trans pN)).c1,(cx1.ext ((ji.trans jy).trans pN)).c2,(cx2.ext ((ji.trans jy).trans pN)).c0,(cx2.ext ((ji.trans jy).trans pN)).c1,(cx2.ext ((ji.trans jy).trans pN)).c2⟩
          |exact⟨(cx1.ext ((jy.trans ji).trans pN)).c0,(cx1.ext ((jy.trans ji).trans pN)).c1,(cx1.ext ((jy.trans ji).trans pN)).c2,(cx2.ext ((jy.trans ji).trans pN)).c0,(cx2.ext ((jy.trans ji).trans pN)).c1,(cx2.ext ((jy.trans ji).trans pN)).c2⟩)
        (first
          | (go_at_call_of 220 (Value.slice A L.length c)
             refine(HXa2.out _ ?_).mono ?_
             (first|exact kJ|exact kJ.below jy)
             rintro r wx ⟨Ax,cx,rfl,UF,ji⟩)
          | (go_at_call_of 220 (Value.slice B M.length d)
             refine(HXb2.out _ ?_).mono ?_
             (first|exact nR|exact nR.below ji)
             rintro r wy ⟨Ay,cy,rfl,UG,jy⟩)
          | (go_at_call 223
             refine(HC2.out _ _ _ _ _ ?_ ?_).mono ?_
             (first|exact UF.below jy|exact UF)
             (first|exact UG|exact UG.below ji)
             rintro r wz ⟨rfl,pN⟩))
      all_goals
        go_wp2;go_ret
        (first|exact⟨oQ HM.out.symm,HF.out.trans ((ji.trans jy).trans pN)⟩|exact⟨oQ HM.out.symm,HF.out.trans ((jy.trans ji).trans pN)⟩)
def Y1{d:Dy}:d.iM=0↔d.m=0:=by
 rcases ES d with⟨h1,h2⟩|⟨h1,_,h2⟩|⟨h1,_,h2⟩<;>simp[h1,h2]
def adp(s : Bool)(A : Option Addr)(c : Nat)(L : List Nat)(e : Int)(t : Bool)(B : Option Addr)(d : Nat)(M : List Nat)(f : Int)(w : World)
    (hs : Sl w A c L) (hr : Sl w B d M) (da : pA s L e) (db : pA t M f):
    Calls prog 108 #[.agg #[.bool s,.slice A L.length c,.int .i64 e],.agg #[.bool t,.slice B M.length d,.int .i64 f]] w λr w' => r = .returned (.int .i64 (jj ⟨s,val L,e⟩ ⟨t,val M,f⟩))/\iI w w' := by
  obtain⟨mB,lF⟩ := da.exp;obtain⟨M5,M6⟩ := db.exp;have HVa := aoX (λw (h : Sl w A c L) => B6 s A c L e w true h aC aC (by simp[da]));have HVb := aoX (λw (h : Sl w B d M) => B6 t B d M f w true h aC aC (by simp[db]));have HSa := aoX (λw (h : Sl w A c L) => L5 s A c L e w h da);have HSb := aoX (λw (h : Sl w B d M) => L5 t B d M f w h db);have HK := aoX (λh1 h2 w (h : Sl w A c L) (k : Sl w B d M) => adr s A c L e t B d M f w h k da db h1 h2);have HP := aoX (DG ⟨s,val L,e⟩ ⟨t,val M,f⟩);have z1 : Hid (Dy.iM ⟨s,val L,e⟩=0↔val L=0) := Y1;have z2 : Hid (Dy.iM ⟨t,val M,f⟩=0↔val M=0) := Y1;have JM : Dy.iM ⟨s,val L,e⟩=0\/Dy.iM ⟨s,val L,e⟩ = -1\/Dy.iM ⟨s,val L,e⟩=1 := by
    rcases ES ⟨s,val L,e⟩with⟨_,h⟩|⟨_,_,h⟩|⟨_,_,h⟩<;>simp[h]
  have nI : tn ⟨s,val L,e⟩ ⟨t,val M,f⟩ = -1\/tn ⟨s,val L,e⟩ ⟨t,val M,f⟩=0\/tn ⟨s,val L,e⟩ ⟨t,val M,f⟩=1 := by
    unfold tn kE;split;simp;split<;>simp
  generalize Dy.iM ⟨s,val L,e⟩=sa at *
  generalize Dy.iM ⟨t,val M,f⟩=sb at *
  generalize tn ⟨s,val L,e⟩ ⟨t,val M,f⟩=cm at *
  generalize jj ⟨s,val L,e⟩ ⟨t,val M,f⟩=R at *
  have CC : IntKind.i64.wrap (sa*cm)=sa*cm := i64_in _ (by rcases JM with rfl|rfl|rfl<;>omega) (by rcases JM with rfl|rfl|rfl<;>omega);have HH := aoX JM;clear JM nI da db;go_enter func108,ntmps108;go_wp2_with fail;refine(HVa.out _ ((hs.alloc _).alloc _)).mono ?_;rintro r w1 ⟨rfl,jK⟩;have mc := ((jI.new w s A L.length c e).alloc (.cells #[.bool t,.slice B M.length d,.int .i64 f] 31)).ext jK;have mw := (jI.ur (W := w.alloc (.cells #[.bool s,.slice A L.length c,.int .i64 e] 31)) (g := w.heap.size+1) aH t B M.length d f).ext jK;have b0 := mc.c0;have b1 := mc.c1;have b2 := mc.c2;have d0 := mw.c0;have d1 := mw.c1;have d2 := mw.c2;have hE := (((iI.alloc w (.cells #[.bool s,.slice A L.length c,.int .i64 e] 31)).trans (iI.alloc _ (.cells #[.bool t,.slice B M.length d,.int .i64 f] 31))).trans jK)
  go_wp2_with fail;refine(HVb.out _ (hr.below hE)).mono ?_;rintro r w2 ⟨rfl,kK⟩;have Jf := hE.trans kK;have mc := (mc.ext kK).drew;have mw := (mw.ext kK).drew;have zC := (hs.below Jf).drew;have Cx := (hr.below Jf).drew;have HE := aoX (Jf.trans (iI.drew _));clear hE Jf jK kK b0 b1 b2 d0 d1 d2;go_wp2_with fail;go_region_held3 (λw' => w'.cell? ⟨w.heap.size,0,none⟩=some (.bool s)/\w'.cell? ⟨w.heap.size,1,none⟩=some (.slice A L.length c)/\w'.cell? ⟨w.heap.size,2,none⟩=some (.int .i64 e)/\w'.cell? ⟨w.heap.size+1,0,none⟩=some (.bool t)/\w'.cell? ⟨w.heap.size+1,1,none⟩=some (.slice B M.length d)/\w'.cell? ⟨w.heap.size+1,2,none⟩=some (.int .i64 f))
    (first
      |exact⟨mc.c0,mc.c1,mc.c2,mw.c0,mw.c1,mw.c2⟩
      |exact⟨(mc.ext ji).c0,(mc.ext ji).c1,(mc.ext ji).c2,(mw.ext ji).c0,(mw.ext ji).c1,(mw.ext ji).c2⟩
      |exact⟨(mc.ext jy).c0,(mc.ext jy).c1,(mc.ext jy).c2,(mw.ext jy).c0,(mw.ext jy).c1,(mw.ext jy).c2⟩
      |exact⟨(mc.ext (ji.trans jy)).c0,(mc.ext (ji.trans jy)).c1,(mc.ext (ji.trans jy)).c2,(mw.ext (ji.trans jy)).c0,(mw.ext (ji.trans jy)).c1,(mw.ext (ji.trans jy)).c2⟩
      |exact⟨(mc.ext (jy.trans ji)).c0,(mc.ext (jy.trans ji)).c1,(mc.ext (jy.trans ji)).c2,(mw.ext (jy.trans ji)).c0,(mw.ext (jy.trans ji)).c1,(mw.ext (jy.trans ji)).c2⟩)
    (first
      | (go_at_call_of 92 (Value.agg #[.bool s,.slice A L.length c,.int .i64 e])
         refine(HSa.out _ ?_).mono ?_
         (first|exact zC|exact zC.below jy)
         rintro r wx ⟨rfl,ji⟩)
      | (go_at_call_of 92 (Value.agg #[.bool t,.slice B M.length d,.int .i64 f])
         refine(HSb.out _ ?_).mono ?_
         (first|exact Cx|exact Cx.below ji)
         rintro r wy ⟨rfl,jy⟩))
  first
    | (have qO := ji.trans jy)
    | (have qO := jy.trans ji)
  have cx1 := (mc.ext qO)
  have cx2 := (mw.ext qO)
  have kJ := (zC.below qO)
  have nR := (Cx.below qO)
  have HFr := aoX (HE.out.trans qO);clear ji jy qO;by_cases h1 : sa<sb
  . have hR := aoX (show R = -1 by rw[HP.out,a6 h1])
    go_wp2;go_ret;exact⟨oQ hR.out.symm,HFr.out⟩
  . by_cases h2 : sb<sa
    . have hR := aoX (show R=1 by rw[HP.out,aZ h1,a6 h2])
      go_wp2;go_ret;exact⟨oQ hR.out.symm,HFr.out⟩
    . by_cases h3 : sa=0
      . have hR := aoX (show R=0 by rw[HP.out,aZ h1,aZ h2,a6 h3])
        have hz : (sa==0)=true := by simp[h3]
        go_wp2;go_ret;exact⟨oQ hR.out.symm,HFr.out⟩
      . have hR := aoX (show R=sa*cm by rw[HP.out,aZ h1,aZ h2,aZ h3])
        have hz : (sa==0)=false := aU h3;have HK2 := aoX (HK.out (λh => h3 (z1.out.2 h)) (λh => h3 (by have := z2.out.2 h;omega)));have b0 := cx1.c0;have b1 := cx1.c1;have b2 := cx1.c2;have d0 := cx2.c0;have d1 := cx2.c1;have d2 := cx2.c2;go_wp2_with fail;refine(HK2.out _ kJ nR).mono ?_;rintro r w3 ⟨rfl,qj⟩;go_wp2;go_ret;exact⟨oQ hR.out.symm,HFr.out.trans qj⟩
def Rz{L:List Nat}(h:iN L)(hl:L.length<=256)(s:Bool)(e:Int):(gY (canon s (val L) e).m).length<=100000000:=by
 unfold canon;split
 .simp [oB]
 .refine bk (wk (k:=256) (cz (bY _ _) ?_)) aE ;exact bQ (oL h) (bK aE hl)
def Ry{L:List Nat}(h:iN L)(hl:L.length<=256)(s:Bool)(e:Int)(h1:-9000000<=e)(h2:e<=9000000):-10000000<=(canon s (val L) e).e/\(canon s (val L) e).e<=10000000:=by
 unfold canon;split
 .simp
 .rename_i h0;have:=Fv h h0;simp only;omega
def ajZ(s:Bool)(A:Option Addr)(c:Nat)(L:List Nat)(e k:Int)(w:World)(hs:Sl w A c L)(hd:pA s L e)(lP:-32768<=k)(wZ:k<=32768)(hr:mZ (canon s (val L) (e+k))):
 Calls prog 125 #[.agg #[.bool s,.slice A L.length c,.int .i64 e],.int .i64 k] w (yL w (canon s (val L) (e+k)) 0):=by
 obtain⟨mB,lF⟩:=hd.exp;have hlen:=hd.len;have HV:=aoX (λw (h:Sl w A c L)=>KA s A c L e w true h aC aC (by simp[hd]));have HX:=aoX (λw=>ajN k w true (by simp[lP,wZ]));have hw:IntKind.i64.wrap (e+k)=e+k:=i64_in _ aC aC;have HC:=aoX (λw (h:Sl w A c L)=>Ky s A c L (e+k) w h aC aC aC);have jK:=Rz hs.ok hlen s (e+k);obtain⟨kK,qj⟩:=Ry hs.ok hlen s (e+k) aC aC;have hv:(canon s (val L) (e+k)).ij:=⟨tl _ _ _,hr⟩
 have HK:=aoX (λA c w (h:Sl w A c (gY (canon s (val L) (e+k)).m))=>ajK _ A c w h jK kK qj hv);generalize canon s (val L) (e+k)=D at *
 clear hd hr hv jK kK qj;go_enter func125,ntmps125;go_wp2_with fail;refine(HV.out _ ((hs.alloc _).alloc _)).mono ?_;rintro r w1 ⟨rfl,jK⟩;have mc:=((jI.new w s A L.length c e).alloc (.cells #[.bool false,.slice none 0 0,.int .i64 0] 31)).ext jK;have mw:=(jI.ur (W:=w.alloc (.cells #[.bool s,.slice A L.length c,.int .i64 e] 31)) (g:=w.heap.size+1) aH false none 0 0 0).ext jK;have b0:=mc.c0;have b1:=mc.c1;have b2:=mc.c2;have hE:=(((iI.alloc w (.cells #[.bool s,.slice A L.length c,.int .i64 e] 31)).trans (iI.alloc _ (.cells #[.bool false,.slice none 0 0,.int .i64 0] 31))).trans jK)
 have zC:=hs.below hE;have HE:=aoX hE;clear hE jK;go_wp2_with fail;refine(HX.out _).mono ?_;rintro r w2 ⟨rfl,rfl⟩;go_wp2_with fail;refine(HC.out _ zC).mono ?_;rintro r w2 ⟨A1,c1,rfl,uY,kK⟩;go_wp2_with fail;refine(HK.out _ _ _ uY).mono ?_;rintro r w3 ⟨A2,c2,rfl,kJ,qj⟩;have bz:=mw.ext (kK.trans qj);have z0:=bz.c0;have z1:=bz.c1;have z2:=bz.c2;have f0:=bz.fr 0;have f1:=bz.fr 1;have f2:=bz.fr 2;go_wp2;exact DK rfl rfl rfl rfl (bz.set _ _ _ _ _) rfl (bz.vv kJ _ _ _ _ _) (jI.uA (HE.out.trans (kK.trans qj)) aC _ _ _ _ _)
abbrev DV(d:Dy)(A:Option Addr)(c:Nat):Value:=.agg #[.bool d.neg,.slice A (gY d.m).length c,.int .i64 d.e]
def NW{n k:Nat}(h:iq n<=32*k):(gY n).length<=k:=by
 refine wk (bQ (sf _) ?_);rw[sF];exact bK aE h
def Fp.Dy.ij.vN{d:Dy}(h:d.ij):pA d.neg (gY d.m) d.e:=by
 refine⟨vD _,NW ?_,by rw[kr];exact h⟩;rcases h.range with h0|⟨h1,_⟩
 .rw [h0];exact bV _
 .omega
def Fp.Dy.ij.len{d:Dy}(h:d.ij):(gY d.m).length<=256:=h.vN.2.1
def Fp.Dy.ij.exp{d:Dy}(h:d.ij):-16384<=d.e/\d.e<=16384:=h.vN.exp
def Fp.Dy.ij.bits{d:Dy}(h:d.ij):iq d.m<=4096:=by have:=h.vN.bits;rwa[kr]at this
def jI.all{w:World}{g n c:Nat}{s:Bool}{A:Option Addr}{e:Int}(h:jI w g s A n c e):w.cell? ⟨g,0,none⟩=some (.bool s)/\w.cell? ⟨g,1,none⟩=some (.slice A n c)/\w.cell? ⟨g,2,none⟩=some (.int .i64 e):=⟨h.c0,h.c1,h.c2⟩
def jI.Ca{w:World}{g n c:Nat}{s:Bool}{A:Option Addr}{e:Int}(h:jI w g s A n c e){g':Nat}(jl:g'≠g)(i:Nat)(v:Value):jI (w.setCell ⟨g',i,none⟩ v) g s A n c e:=by
 unfold jI at h ⊢;simp only[World.setCell,fe];rw[aZ jl];exact h
def jI.Mq{w:World}{g n c:Nat}{s:Bool}{A:Option Addr}{e:Int}(h:jI w g s A n c e){g':Nat}(jl:g'≠g)(v0 v1 v2:Value):
 jI (((w.setCell ⟨g',0,none⟩ v0).setCell ⟨g',1,none⟩ v1).setCell ⟨g',2,none⟩ v2) g s A n c e:=((h.Ca jl 0 v0).Ca jl 1 v1).Ca jl 2 v2
structure Av(d:Dy):Prop where
 len:(gY d.m).length<=256
 lo:-17000<=d.e
 hi:d.e<=17000
def Fp.Dy.ij.Ev{d:Dy}(h:d.ij):Av d:=⟨h.len,by have:=h.exp;omega,by have:=h.exp;omega⟩
def ajM(a b:Dy)(A B:Option Addr)(c d:Nat)(w:World)(r:Bool)(h:Sl w A c (gY a.m))(k:Sl w B d (gY b.m))(ha:(gY a.m).length<=100000)(hb:(gY b.m).length<=100000)(hr:r=true↔a=b):
 Calls prog 34 #[DV a A c,DV b B d] w λe w'=>e = .returned (.bool r)/\iI w w':=
 ajL a.neg A c (gY a.m) a.e b.neg B d (gY b.m) b.e w r h k (vD _) (vD _) ha hb (by
  rw[hr];obtain⟨s,m,e⟩:=a;obtain⟨t,n,f⟩:=b;simp only[Dy.mk.injEq];constructor
  .rintro ⟨x,y,z⟩;exact⟨x,z,by rw[y]⟩
  .rintro ⟨x,y,z⟩;have:=congrArg val z;rw[kr,kr]at this;exact⟨x,this,y⟩)
def adq(a b:Dy)(A B:Option Addr)(c d:Nat)(w:World)(h:Sl w A c (gY a.m))(k:Sl w B d (gY b.m))(ha:a.ij)(hb:b.ij):
 Calls prog 108 #[DV a A c,DV b B d] w λe w'=>e = .returned (.int .i64 (jj a b))/\iI w w':=by
 have:=adp a.neg A c (gY a.m) a.e b.neg B d (gY b.m) b.e w h k ha.vN hb.vN;rw[kr,kr]at this;exact this
def adm(a:Dy)(A:Option Addr)(c:Nat)(w:World)(h:Sl w A c (gY a.m))(ha:a.ij):
 Calls prog 173 #[DV a A c] w λe w'=>e = .returned (.int .i64 (iq a.m))/\iI w w':=by
 have:=adl a.neg A c (gY a.m) a.e w h ha.vN;rw[kr]at this;exact this
def adA(a:Dy)(A:Option Addr)(c:Nat)(w:World)(h:Sl w A c (gY a.m))(ha:a.ij):
 Calls prog 92 #[DV a A c] w λe w'=>e = .returned (.int .i64 a.iM)/\iI w w':=by
 have:=L5 a.neg A c (gY a.m) a.e w h ha.vN;rw[kr]at this;exact this
def Ss(a:Dy)(A:Option Addr)(c:Nat)(w:World)(h:Sl w A c (gY a.m))(ha:a.ij):
 Calls prog 91 #[DV a A c] w λe w'=>e = .returned (.bool true)/\iI w w':=
 B6 a.neg A c (gY a.m) a.e w true h (by have:=ha.exp;omega) (by have:=ha.exp;omega) (by simp[ha.vN])
open Pu
def Ql:∀ w w',Tb w->Below w.heap.size w w'->Tb w':=λ_ _ h hb=>h.below hb
def mixed:prog.follows .mixedOrders=true:= aF 
abbrev gW(f:FuncId)(args:List E)(jQ:E):Prop:=PC prog Tb f args jQ
def ic(L:List Nat):E:=.sl false L.length 1 λi _=>.v (.int .u32 (L.getD i 0:Int))
def ie(d:Dy):E:=.agg [.v (.bool d.neg),ic (gY d.m),.v (.int .i64 d.e)]
abbrev iP(z:Int):E:=.v (.int .i64 z)
abbrev bP(b:Bool):E:=.v (.bool b)
abbrev ar:List E:=[bP false,.v (.slice none 0 0),iP 0]
abbrev au:List E:=[bP false,.v (.slice none 0 0),iP 0,bP false,.v (.slice none 0 0),iP 0,bP false]
def xx{bs br:Nat->Prop}{w:World}{L:List Nat}{v:Value}(hk:iN L)(h:iC bs br w (ic L) v):∃ A c,v = .slice A L.length c/\Sl w A c L:=by
 cases h with
 |sl _ _ _ _ A c f hc hm h0 hl hr cell kk=>
  refine⟨A,c,rfl,hc,hm,hk,h0,λi x hx=>?_⟩;obtain⟨hi,xj⟩:=b7.1 hx;obtain⟨b,o,e1,_,iB,ke⟩:=cell i 0 hi aE;have hv:=iC.kC (kk i 0 hi aE);refine⟨b,o,e1,iB,?_⟩;rw[b8,bR,hv]at ke;rw[ke];simp[bh,hx]
def BK{B br:Nat->Prop}{w w':World}{A:Option Addr}{c:Nat}{L:List Nat}(hB:∀ b,B b->b<w.heap.size/\oX w b)(hb:iI w w')(h:Sl w' A c L):iC B br w' (ic L) (.slice A L.length c):=by
 refine .sl false L.length 1 _ A c (λi _=>.int .u32 (L.getD i 0:Int)) h.cap h.ri h.yo (λi j _ _=>⟨rfl,λh=>by cases h⟩) (λi j _ _=>rfl) (λi j hi hj=>?_) (λi j _ _=>.v _)
 .obtain rfl:j=0:= aC ;obtain⟨b,o,e1,iB,ke⟩:=h.mv hi;have e2:L.getD i 0=L[i]:=by simp[bh,hi]
  refine⟨b,o,e1,λA8=>?_,iB,by rw[b8,bR,ke,e2]⟩;obtain⟨h1,h2⟩:=hB b A8;exact(h2.EA (hb.block b h1)) _ _ ke
def IV{bs br:Nat->Prop}{w:World}{d:Dy}{v:Value}(h:iC bs br w (ie d) v):∃ A c,v=DV d A c/\Sl w A c (gY d.m):=by
 obtain⟨vs,rfl,q⟩:=iC.BV (show iC bs br w (.agg _) v from h);obtain⟨v1,vs,rfl,h1,q⟩:=q.mG;obtain⟨v2,vs,rfl,h2,q⟩:=q.mG;obtain⟨v3,vs,rfl,h3,q⟩:=q.mG;obtain rfl:=q.qU;obtain rfl:=iC.kC h1;obtain rfl:=iC.kC h3;obtain⟨A,c,rfl,hs⟩:=xx (mz _) h2;exact⟨A,c,rfl,hs⟩
def Sm{B br:Nat->Prop}{w w':World}{A:Option Addr}{c:Nat}{d:Dy}(hB:∀ b,B b->b<w.heap.size/\oX w b)(hb:iI w w')(h:Sl w' A c (gY d.m)):iC B br w' (ie d) (DV d A c):=
 ki.agg (.cons (.v _) (.cons (BK hB hb h) (.cons (.v _) (.nil _ _ _))))
section
variable {f:FuncId} {a b:Dy}
def yz(hc:∀ (vs:Array Value) (w:World),(callFunc f vs).run prog w = .ok (.enter f vs) w){jQ:E}{R:World->Ending->World->Prop}
 (H:∀ A c w,Sl w A c (gY a.m)->Tb w->Calls prog f #[DV a A c] w (R w)) (hR:∀ (B:Nat->Prop) w e w',(∀ b,B b->b<w.heap.size/\oX w b)->R w e w'->∃ v,e = .returned v/\Below w.heap.size w w'/\iC B (λ_=>True) w' jQ v):gW f [ie a] jQ:=by
 refine⟨hc,λw B vs hK hB hr=>?_⟩;obtain⟨v1,vs,rfl,h1,hr⟩:=hr.mG;obtain rfl:=hr.qU;obtain⟨A,c,rfl,s1⟩:=IV h1;exact(H A c w s1 hK).mono λe w' h=>hR B w e w' hB h
def W9(hc:∀ (vs:Array Value) (w:World),(callFunc f vs).run prog w = .ok (.enter f vs) w){jQ:E}{R:World->Ending->World->Prop}
 (H:∀ A c A' c' w,Sl w A c (gY a.m)->Sl w A' c' (gY b.m)->Tb w->Calls prog f #[DV a A c,DV b A' c'] w (R w)) (hR:∀ (B:Nat->Prop) w e w',(∀ b,B b->b<w.heap.size/\oX w b)->R w e w'->∃ v,e = .returned v/\Below w.heap.size w w'/\iC B (λ_=>True) w' jQ v):gW f [ie a,ie b] jQ:=by
 refine⟨hc,λw B vs hK hB hr=>?_⟩;obtain⟨v1,vs,rfl,h1,hr⟩:=hr.mG;obtain⟨v2,vs,rfl,h2,hr⟩:=hr.mG;obtain rfl:=hr.qU;obtain⟨A,c,rfl,s1⟩:=IV h1;obtain⟨A',c',rfl,s2⟩:=IV h2;exact(H A c A' c' w s1 s2 hK).mono λe w' h=>hR B w e w' hB h
end
def rv{x:Value}:∀ (B:Nat->Prop) (w:World) (e:Ending) (w':World),(∀ b,B b->b<w.heap.size/\oX w b)->(e = .returned x/\iI w w')->∃ v,e = .returned v/\Below w.heap.size w w'/\iC B (λ_=>True) w' (.v x) v:=
 λ_ _ _ _ _ h=>⟨x,h.1,h.2,.v x⟩
def rd{d:Dy}:∀ (B:Nat->Prop) (w:World) (e:Ending) (w':World),(∀ b,B b->b<w.heap.size/\oX w b)->xD w d e w'->∃ v,e = .returned v/\Below w.heap.size w w'/\iC B (λ_=>True) w' (ie d) v:=
 λ_ _ _ _ hB ⟨_,_,h1,h2,h3⟩=>⟨_,h1,h3,Sm hB h3 h2⟩
def OX{d:Dy}{n:Int}:∀ (B:Nat->Prop) (w:World) (e:Ending) (w':World),(∀ b,B b->b<w.heap.size/\oX w b)->yL w d n e w'->∃ v,e = .returned v/\Below w.heap.size w w'/\iC B (λ_=>True) w' (.ix [ie d,iP n]) v:=
 λ_ _ _ _ hB ⟨_,_,h1,h2,h3⟩=>⟨_,h1,h3,ki.ix (.cons (Sm hB h3 h2) (.cons (.v _) (.nil _ _ _)))⟩
def sH:E.le (.agg ar) (ie ju):=by
 have:ie ju = .agg [bP false,.sl false 0 1 λi _=>.v (.int .u32 (((gY 0).getD i 0:Nat):Int)),iP 0]:=by
  show E.agg [bP false,ic (gY 0),iP 0]=_;unfold ic;rw[oB];rfl
 rw[this];exact .agg (.cons (.refl _) (.cons (.nil _ _ _) (.cons (.refl _) .nil)))
def nF(a b:Dy)(ha:a.ij)(hb:b.ij):gW 108 [ie a,ie b] (iP (jj a b)):=W9 call108 (λA c A' c' w h k _=>adq a b A A' c c' w h k ha hb) rv
def mT(a:Dy)(ha:a.ij):gW 92 [ie a] (iP a.iM):=yz call92 (λA c w h _=>adA a A c w h ha) rv
def oq(a:Dy)(ha:a.ij):gW 91 [ie a] (bP true):=yz call91 (λA c w h _=>Ss a A c w h ha) rv
def IT(a:Dy)(ha:a.ij):gW 173 [ie a] (iP (iq a.m)):=yz call173 (λA c w h _=>adm a A c w h ha) rv
def yE(t e:Nat)(s:String):TI:=⟨t,.slice e,⟨.slice e,s,1,24,true,8,8,some (.slice none 0 0),false,#[]⟩⟩
def uB(t:Nat)(d:TypeDesc)(s:String):TI:=⟨t,d,⟨d,s,1,8,true,8,8,some (.nilFunc),false,#[]⟩⟩
def TT:List TI:=[
 ⟨3,.int .i64,⟨.int .i64, "int", 1,8,false,8,8,some (.int .i64 0),true,#[]⟩⟩,
 ⟨4,.bool,⟨.bool, "bool", 1,1,false,1,1,some (.bool false),true,#[]⟩⟩,
 ⟨9,.string,⟨.string, "string", 1,16,true,8,8,some (.string ⟨#[]⟩),true,#[]⟩⟩,yE 22 107 "[]api.Op",yE 23 3 "[]int",
 ⟨25,.struct #[⟨"Ins", 3,0,false, "", "", 0⟩,⟨"Ops", 22,1,false, "", "", 8⟩,⟨"Outs", 23,2,false, "", "", 32⟩],⟨.named "flowpipe/api.Tape" 24, "api.Tape", 3,56,true,8,8,some (.agg #[.int .i64 0,.slice none 0 0,.slice none 0 0]),false,#[]⟩⟩,yE 26 39 "[]api.Interval",
 ⟨28,.struct #[⟨"Tape", 25,0,false, "", "", 0⟩,⟨"States", 3,3,false, "", "", 56⟩,⟨"Params", 26,4,false, "", "", 64⟩],⟨.named "flowpipe/api.System" 27, "api.System", 5,88,true,8,8,some (.agg #[.int .i64 0,.slice none 0 0,.slice none 0 0,.int .i64 0,.slice none 0 0]),false,#[]⟩⟩,yE 29 171 "[]uint32",
 ⟨31,.struct #[⟨"Neg", 4,0,false, "", "", 0⟩,⟨"M", 29,1,false, "", "", 8⟩,⟨"E", 3,2,false, "", "", 32⟩],⟨.named "flowpipe/api.Dyadic" 30, "api.Dyadic", 3,40,true,8,8,some (.agg #[.bool false,.slice none 0 0,.int .i64 0]),false,#[]⟩⟩,
 ⟨33,.struct #[⟨"From", 31,0,false, "", "", 0⟩,⟨"To", 31,3,false, "", "", 40⟩,⟨"Tube", 26,6,false, "", "", 80⟩,⟨"End", 26,7,false, "", "", 104⟩],⟨.named "flowpipe/api.Segment" 32, "api.Segment", 8,128,true,8,8,some (.agg #[.bool false,.slice none 0 0,.int .i64 0,.bool false,.slice none 0 0,.int .i64 0,.slice none 0 0,.slice none 0 0]),false,#[]⟩⟩,uB 36 (.func #[31] #[4] false) "func(api.Dyadic) bool",
 ⟨39,.struct #[⟨"Lo", 31,0,false, "", "", 0⟩,⟨"Hi", 31,3,false, "", "", 40⟩,⟨"All", 4,6,false, "", "", 80⟩],⟨.named "flowpipe/api.Interval" 38, "api.Interval", 7,88,true,8,8,some (.agg #[.bool false,.slice none 0 0,.int .i64 0,.bool false,.slice none 0 0,.int .i64 0,.bool false]),false,#[]⟩⟩,
 ⟨41,.struct #[⟨"Segment", 3,0,false, "", "", 0⟩,⟨"Kind", 3,1,false, "", "", 8⟩,⟨"Dir", 3,2,false, "", "", 16⟩,⟨"When", 39,3,false, "", "", 24⟩,⟨"Where", 26,10,false, "", "", 112⟩],⟨.named "flowpipe/cross.Crossing" 40, "cross.Crossing", 11,136,true,8,8,some (.agg #[.int .i64 0,.int .i64 0,.int .i64 0,.bool false,.slice none 0 0,.int .i64 0,.bool false,.slice none 0 0,.int .i64 0,.bool false,.slice none 0 0]),false,#[]⟩⟩,
 ⟨42,.int .i64,⟨.named "flowpipe/api.Errno" 3, "api.Errno", 1,8,false,8,8,some (.int .i64 0),true,#[]⟩⟩,uB 46 (.func #[41,41] #[4] false) "func(cross.Crossing, cross.Crossing) bool",yE 48 33 "[]api.Segment",
 ⟨50,.struct #[⟨"Start", 26,0,false, "", "", 0⟩,⟨"Segments", 48,1,false, "", "", 24⟩],⟨.named "flowpipe/api.Pipe" 49, "api.Pipe", 2,48,true,8,8,some (.agg #[.slice none 0 0,.slice none 0 0]),false,#[]⟩⟩,uB 52 (.func #[33] #[4] false) "func(api.Segment) bool",yE 53 41 "[]cross.Crossing",uB 62 (.func #[3] #[4] false) "func(int) bool",yE 66 31 "[]api.Dyadic",yE 72 26 "[][]api.Interval",
 ⟨81,.struct #[⟨"Method", 3,0,false, "", "", 0⟩,⟨"Order", 3,1,false, "", "", 8⟩,⟨"Prec", 3,2,false, "", "", 16⟩,⟨"Step", 31,3,false, "", "", 24⟩,⟨"Tol", 3,6,false, "", "", 64⟩,⟨"Most", 3,7,false, "", "", 72⟩],⟨.named "flowpipe/api.Config" 80, "api.Config", 8,80,true,8,8,some (.agg #[.int .i64 0,.int .i64 0,.int .i64 0,.bool false,.slice none 0 0,.int .i64 0,.int .i64 0,.int .i64 0]),false,#[]⟩⟩,
 ⟨93,.struct #[⟨"N", 3,0,false, "", "", 0⟩,⟨"D", 3,1,false, "", "", 8⟩],⟨.named "flowpipe/api.Ratio" 92, "api.Ratio", 2,16,false,8,8,some (.agg #[.int .i64 0,.int .i64 0]),true,#[]⟩⟩,uB 103 (.func #[39] #[4] false) "func(api.Interval) bool",uB 104 (.func #[26] #[4] false) "func([]api.Interval) bool",
 ⟨107,.struct #[⟨"Kind", 3,0,false, "", "", 0⟩,⟨"A", 3,1,false, "", "", 8⟩,⟨"B", 3,2,false, "", "", 16⟩,⟨"N", 3,3,false, "", "", 24⟩,⟨"C", 93,4,false, "", "", 32⟩],⟨.named "flowpipe/api.Op" 106, "api.Op", 6,48,false,8,8,some (.agg #[.int .i64 0,.int .i64 0,.int .i64 0,.int .i64 0,.int .i64 0,.int .i64 0]),true,#[]⟩⟩,uB 113 (.func #[39,39,3] #[39] false) "func(api.Interval, api.Interval, int) api.Interval",uB 121 (.func #[39,39] #[4] false) "func(api.Interval, api.Interval) bool",yE 155 72 "[][][]api.Interval",
 ⟨171,.int .u32,⟨.int .u32, "uint32", 1,4,false,4,4,some (.int .u32 0),true,#[]⟩⟩,uB 179 (.func #[31,3] #[31,42] false) "func(api.Dyadic, int) (api.Dyadic, api.Errno)",
 ⟨189,.int .u64,⟨.int .u64, "uint64", 1,8,false,8,8,some (.int .u64 0),true,#[]⟩⟩,
 ⟨190,.int .u64,⟨.int .u64, "uint", 1,8,false,8,8,some (.int .u64 0),true,#[]⟩⟩,uB 209 (.func #[39,39] #[39] false) "func(api.Interval, api.Interval) api.Interval",
 ⟨215,.struct #[⟨"m", 29,0,false, "", "flowpipe/round", 0⟩,⟨"e", 3,1,false, "", "flowpipe/round", 24⟩,⟨"more", 4,2,false, "", "flowpipe/round", 32⟩],⟨.named "flowpipe/round.exact" 214, "round.exact", 3,40,true,8,8,some (.agg #[.slice none 0 0,.int .i64 0,.bool false]),false,#[]⟩⟩,
 ⟨219,.func #[31,31,3] #[31,42] false,⟨.named "flowpipe/interval.rounded" 160, "interval.rounded", 1,8,true,8,8,some (.nilFunc),false,#[]⟩⟩,
 ⟨220,.array 2 31,⟨.array 2 31, "[2]api.Dyadic", 6,80,true,8,8,some (.agg #[.bool false,.slice none 0 0,.int .i64 0,.bool false,.slice none 0 0,.int .i64 0]),false,#[]⟩⟩,
 ⟨221,.array 4 220,⟨.array 4 220, "[4][2]api.Dyadic", 24,320,true,8,8,some (.agg #[.bool false,.slice none 0 0,.int .i64 0,.bool false,.slice none 0 0,.int .i64 0,.bool false,.slice none 0 0,.int .i64 0,.bool false,.slice none 0 0,.int .i64 0,.bool false,.slice none 0 0,.int .i64 0,.bool false,.slice none 0 0,.int .i64 0,.bool false,.slice none 0 0,.int .i64 0,.bool false,.slice none 0 0,.int .i64 0]),false,#[]⟩⟩,yE 225 29 "[][]uint32",uB 227 (.func #[29] #[4] false) "func([]uint32) bool",uB 250 (.func #[3] #[39] false) "func(int) api.Interval",
 ⟨266,.map 3 270,⟨.map 3 270, "map[int]func(gradient.node) api.Interval", 1,8,true,8,8,some (.map none),false,#[]⟩⟩,
 ⟨269,.struct #[⟨"o", 107,0,false, "", "flowpipe/gradient", 0⟩,⟨"v", 39,6,false, "", "flowpipe/gradient", 48⟩,⟨"a", 39,13,false, "", "flowpipe/gradient", 136⟩,⟨"b", 39,20,false, "", "flowpipe/gradient", 224⟩,⟨"da", 39,27,false, "", "flowpipe/gradient", 312⟩,⟨"db", 39,34,false, "", "flowpipe/gradient", 400⟩,⟨"p", 3,41,false, "", "flowpipe/gradient", 488⟩],⟨.named "flowpipe/gradient.node" 268, "gradient.node", 42,496,true,8,8,some (.agg #[.int .i64 0,.int .i64 0,.int .i64 0,.int .i64 0,.int .i64 0,.int .i64 0,.bool false,.slice none 0 0,.int .i64 0,.bool false,.slice none 0 0,.int .i64 0,.bool false,.bool false,.slice none 0 0,.int .i64 0,.bool false,.slice none 0 0,.int .i64 0,.bool false,.bool false,.slice none 0 0,.int .i64 0,.bool false,.slice none 0 0,.int .i64 0,.bool false,.bool false,.slice none 0 0,.int .i64 0,.bool false,.slice none 0 0,.int .i64 0,.bool false,.bool false,.slice none 0 0,.int .i64 0,.bool false,.slice none 0 0,.int .i64 0,.bool false,.int .i64 0]),false,#[]⟩⟩,uB 270 (.func #[269] #[39] false) "func(gradient.node) api.Interval",
 ⟨272,.struct #[⟨"p", 3,0,false, "", "flowpipe/exponent", 0⟩],⟨.named "flowpipe/exponent.work" 271, "exponent.work", 1,8,false,8,8,some (.agg #[.int .i64 0]),true,#[⟨"flowpipe/exponent.add", 209,#[],some (347,false)⟩,⟨"flowpipe/exponent.div", 209,#[],some (346,false)⟩,⟨"flowpipe/exponent.exp", 195,#[],some (370,false)⟩,⟨"flowpipe/exponent.halved", 252,#[],some (345,false)⟩,⟨"flowpipe/exponent.log", 195,#[],some (348,false)⟩,⟨"flowpipe/exponent.mul", 209,#[],some (349,false)⟩,⟨"flowpipe/exponent.small", 103,#[],some (372,false)⟩]⟩⟩,
 ⟨278,.struct #[⟨"neg", 4,0,false, "", "flowpipe/circle", 0⟩,⟨"m", 29,1,false, "", "flowpipe/circle", 8⟩],⟨.named "flowpipe/circle.fix" 277, "circle.fix", 2,32,true,8,8,some (.agg #[.bool false,.slice none 0 0]),false,#[⟨"flowpipe/circle.add", 289,#[],some (385,false)⟩,⟨"flowpipe/circle.by", 285,#[],some (388,false)⟩,⟨"flowpipe/circle.minus", 283,#[],some (376,false)⟩,⟨"flowpipe/circle.times", 286,#[],some (382,false)⟩,⟨"flowpipe/circle.zero", 34,#[],some (386,false)⟩]⟩⟩,uB 289 (.func #[278] #[278] false) "func(circle.fix) circle.fix"]
def Lt:mH prog TT:=Ii.ok ⟨⟨underlying3,aF⟩,⟨underlying4,aF⟩,⟨underlying9,aF⟩,⟨underlying22,aF⟩,⟨underlying23,aF⟩,⟨underlying25,aF⟩,⟨underlying26,aF⟩,⟨underlying28,aF⟩,⟨underlying29,aF⟩,⟨underlying31,aF⟩,⟨underlying33,aF⟩,⟨underlying36,aF⟩,⟨underlying39,aF⟩,⟨underlying41,aF⟩,⟨underlying42,aF⟩,⟨underlying46,aF⟩,⟨underlying48,aF⟩,⟨underlying50,aF⟩,⟨underlying52,aF⟩,⟨underlying53,aF⟩,⟨underlying62,aF⟩,⟨underlying66,aF⟩,⟨underlying72,aF⟩,⟨underlying81,aF⟩,⟨underlying93,aF⟩,⟨underlying103,aF⟩,⟨underlying104,aF⟩,⟨underlying107,aF⟩,⟨underlying113,aF⟩,⟨underlying121,aF⟩,⟨underlying155,aF⟩,⟨underlying171,aF⟩,⟨underlying179,aF⟩,⟨underlying189,aF⟩,⟨underlying190,aF⟩,⟨underlying209,aF⟩,⟨underlying215,aF⟩,⟨underlying219,aF⟩,⟨underlying220,aF⟩,⟨underlying221,aF⟩,⟨underlying225,aF⟩,⟨underlying227,aF⟩,⟨underlying250,aF⟩,⟨underlying266,aF⟩,⟨underlying269,aF⟩,⟨underlying270,aF⟩,⟨underlying272,aF⟩,⟨underlying278,aF⟩,⟨underlying289,aF⟩,trivial⟩
end Go.Proofs.YtgdahmmlddfimaaGreatDoor
namespace Go.Proofs.YtgdahmmlddfimaaGreatDoor.Pu
open Go.RowKit
def E.kG:E->Nat->Nat->E
 | .sl _ _ _ el,i,j=>el i j
 | .nB _ _ _ _ el,i,j=>el i j
 |_,_,_=>.any
section
variable {P:Program} {K:World->Prop}
def Sp.pre{c:Code}{σ τ:PS}{Q:Ex->PS->Prop}(h:PS.le σ τ)(k:Sp P K c τ Q):Sp P K c σ Q:=λw0 B a w L g r=>
 let⟨L',r'⟩:=h w0 B a w L (λb hb=>(g.hB b hb).1) r;k w0 B a w L' g r'
def Sp.post{c:Code}{σ:PS}{Q Q':Ex->PS->Prop}(h:Sp P K c σ Q)(k:∀ e τ,Q e τ->∃ τ',PS.le τ τ'/\Q' e τ'):Sp P K c σ Q':=λw0 B a w L g r=>
 Code.wp_mono (λ_ _ _ ⟨ex,τ,L',h1,h2,h3⟩=>let⟨τ',q1,q2⟩:=k ex τ h2;let⟨L2,r2⟩:=q1 w0 B _ _ L' (λb hb=>(g.hB b hb).1) h3;⟨ex,τ',L2,h1,q2,r2⟩) (h w0 B a w L g r)
def Sp.fam{α:Type}(f:α->PS)(p:α->Prop)(m:α->Nat){b:Code}{e:Ex}{τ:PS}
 (step:∀ x,p x->Sp P K b (f x) (λe' υ=>(e' = .normal/\∃ y,p y/\m y<m x/\υ=f y)\/(e' ≠ .normal/\e'=e/\υ=τ))) {σ:PS} (x:α) (hx:p x) (h0:PS.le σ (f x)):
 Sp P K (.loop b) σ (λe' υ=>e'=e/\υ=τ):=by
 refine Sp.pre h0 ?_;refine Sp.loop (Q:=λe' υ=>e'=e/\υ=τ) (λn σ=>∃ x,p x/\m x=n/\σ=f x) (λn σ ⟨x,h1,h2,h3⟩=>?_) (m x) (f x) ⟨x,hx,rfl,rfl⟩;subst h3 h2;exact(step x h1).mono λe' υ h=>h.imp (λ⟨q1,y,q2,q3,q4⟩=>⟨q1,m y,q3,y,q2,rfl,q4⟩) id
def Sp.aec{α:Type}{f:α->PS}{p:α->Prop}{m:α->Nat}{b:Code}{e:Ex}{τ υ:PS}{x:α}(y:α)(h:Sp P K b (f x) (λe' υ'=>e' = .normal/\υ'=υ))(hy:p y)(hm:m y<m x)(hl:PS.le υ (f y)):
 Sp P K b (f x) (λe' υ=>(e' = .normal/\∃ y,p y/\m y<m x/\υ=f y)\/(e' ≠ .normal/\e'=e/\υ=τ)):=
 h.post λ_ _ ⟨h1,h2⟩=>⟨f y,h2▸hl,.inl ⟨h1,y,hy,hm,rfl⟩⟩
def Sp.aed{α:Type}{f:α->PS}{p:α->Prop}{m:α->Nat}{b:Code}{e:Ex}{τ υ:PS}{x:α}(h:Sp P K b (f x) (λe' υ'=>e'=e/\υ'=υ))(he:e ≠ .normal)(hl:PS.le υ τ):
 Sp P K b (f x) (λe' υ=>(e' = .normal/\∃ y,p y/\m y<m x/\υ=f y)\/(e' ≠ .normal/\e'=e/\υ=τ)):=
 h.post λ_ _ ⟨h1,h2⟩=>⟨τ,h2▸hl,.inr ⟨h1▸he,h1,rfl⟩⟩
end
def Bl(k:Nat):Code->Option Code
 | .loop b=>if Nat.beq (FN b) k then some b else Bl k b
 | .seq a b=>match Bl k a with
  |some c=>some c
  |none=>Bl k b
 | .cond _ a b=>match Bl k a with
  |some c=>some c
  |none=>Bl k b
 | .block _ b=>Bl k b
 | .scope b=>Bl k b
 |_=>none
def abz(k:Nat)(fn:Func):Code:=((fn.body.bind (Bl k)).getD .skip)
def Bx.le.iT{a b:Bx}(h:a=b):Bx.le a b:=h▸Bx.le.refl a
def Bx.le.cells{T:TypeId}{l m:List E}(hn:(l.all E.mN=true->m.all E.mN=true))(h:tf l m):Bx.le (.cells T l) (.cells T m):=⟨hn,λ_ _ _ _ _ ⟨b,vs,h1,h2,h3,h4,h5⟩=>⟨b,vs,h1,h2,h3,h.KC h4,h5⟩⟩
def Bx.le.row{nl:Bool}{T:TypeId}{n n' sz:Nat}{el el':Nat->Nat->E}(hn:n=n')(h:∀ i j,i<n->j<sz->E.le (el i j) (el' i j)/\(el' i j).nr 2=true):Bx.le (.row nl T n sz el) (.row nl T n' sz el'):=
 ⟨id,λ_ _ _ _ _ ⟨f,h1,h2,h3⟩=>by subst hn;exact⟨f,h1,h2,λi j hi hj=>⟨(h i j hi hj).1 _ _ _ _ (h3 i j hi hj).1,(h i j hi hj).2⟩⟩⟩
def Bx.le.jH{nl:Bool}{T1 T0:TypeId}{n n' sz:Nat}{len len':Nat->Nat}{el el':Nat->Nat->Nat->E}{pend:Option Nat}(hn:n=n')(hl:∀ k,k<n->len k=len' k)
 (h:∀ k i j,k<n->i<len k->j<sz->E.le (el k i j) (el' k i j)/\(el' k i j).nr 2=true):Bx.le (.jH nl T1 T0 n sz len el pend) (.jH nl T1 T0 n' sz len' el' pend):=
 ⟨id,λ_ _ _ _ _ hh=>by
  subst hn;rcases hh with hh|⟨b,c,cur,f,h1,h2,h3,h4,h5,h6,h7,h8,h9,qw,se⟩
  .exact .inl hh
  refine .inr ⟨b,c,cur,f,h1,h2,h3,h4,h5,h6,h7,λk hk=>?_,h9,qw,se⟩;rw[<-hl k hk];exact⟨(h8 k hk).1,λi j hi hj=>⟨(h k i j hk hi hj).1 _ _ _ _ ((h8 k hk).2 i j hi hj).1,(h k i j hk hi hj).2⟩⟩⟩
def Bx.le.akz{T1 T0 sz:Nat}{len:Nat->Nat}{el:Nat->Nat->E}{el':Nat->Nat->Nat->E}:Bx.le (.row true T1 0 1 el) (.jH true T1 T0 0 sz len el' none):=
 ⟨id,λ_ _ _ _ _ ⟨f,h1,h2,h3⟩=>by
  rcases h1 with⟨h,_⟩|⟨b,c,cur,h,hg,oG,nI,mJ,ke,jG⟩
  .refine .inl ⟨h,rfl,λx hx=>?_⟩;have:=(h2 x).1 hx;rw[h]at this;simp[Value.ownBlock]at this
  .refine .inr ⟨b,c,cur,λ_ _ _=>undef,h,hg,oG,nI,aC,λk hk=>absurd hk (bj k),jG rfl,λk hk=>absurd hk (bj k),λx=>?_,λk k' x hk=>absurd hk (bj k),λk hk=>absurd hk (bj k)⟩;rw[h2,h];simp only[Value.ownBlock,bA];exact⟨λe=>.inl e.symm,λe=>e.elim (λe=>e.symm) λ⟨k,hk,_⟩=>absurd hk (bj k)⟩⟩
def PS.le.ag7{σ τ:PS}(hn:σ.n=τ.n)(jG:(τ.b.all λx=>x.2.nl)=true)(hr:G9 τ=true)(ht:xB σ τ.t)(hb:wK σ τ.b):PS.le σ τ:=λw0 B a w L _ r=>by
 let L':Lk:=⟨λid=>L.me id/\(τ.bo id).isSome=true,λid x=>L.own id x/\(τ.bo id).isSome=true,L.val,L.iH⟩
 have iB:rz L w L' w:=⟨bg _,λx _ ⟨id,h,_⟩=>⟨id,h⟩,λ_ _ _=>rfl⟩
 refine⟨L',r.hd,by rw[<-hn];exact r.hs,λt=>?_,λid b h=>?_,λid=>?_,λid x h=>⟨r.hn id x h.1,h.2⟩,λid x h=>r.hw id x h.1,λid id' x h k=>r.hi id id' x h.1 k.1,r.he,λh id b k=>?_⟩
 .have hg:τ.get t=((look τ.t t)).getD (.e .any):=rfl;cases hl:look τ.t t with
  |none=>rw[hg,hl];exact .any _
  |some p=>
   rw[hg,hl];have:=ht.get hl _ _ _ _ _ (r.ht t);refine kQ.move iB this λid hid pH=>⟨⟨pH,?_⟩,rfl,λ_=>rfl⟩
   have q:=bM.1 (gJ.1 hr).1 _ (GC hl);exact bM.1 q id hid
 .obtain ⟨b',h1,h2⟩:=hb.get h;have hs:(τ.bo id).isSome=true:=by rw[h];rfl
  refine(h2.2 _ _ _ _ _ (r.hb id b' h1)).later iB rfl (λx=>⟨λq=>q.1,λq=>⟨q,hs⟩⟩) (λ_=>rfl) (λ_ _=>rfl) λp v hp k=>kQ.move iB k λid hid pH=>⟨⟨pH,?_⟩,rfl,λ_=>rfl⟩
  have q:=bM.1 (gJ.1 hr).2 _ (GC h);exact bM.1 q id (dj.2 ⟨p,hp,hid⟩)
 .show L.me id/\(τ.bo id).isSome=true↔(τ.bo id).isSome=true;refine⟨λh=>h.2,λh=>⟨(r.hv id).2 ?_,h⟩⟩;obtain⟨b,jg⟩:=gI.1 h;obtain⟨b',h1,_⟩:=hb.get jg;rw[h1];rfl
 .exact bM.1 jG _ (GC k)
def PV.uQ(id:Nat)(e:E)(p:PV):PV:=match p with
 | .own i=>if Nat.beq i id then .e e else .own i
 |p=>if p.kV.any (Nat.beq id)then .e .any else p
def PS.uQ(σ:PS)(id:Nat)(e:E):PS:={ σ with t:=σ.t.map λx=>(x.1,x.2.uQ id e),b:=(σ.b.filter λx=>!Nat.beq x.1 id).map λx=>(x.1,x.2.qS (PV.uQ id e)) }
def Bx.as:Bx->Option E
 | .row nl _ n sz el=>some (.sl nl n sz el)
 | .jH nl _ _ n sz len el none=>some (.sl true n 1 λk _=>.sl nl (len k) sz (el k))
 |_=>none
def PS.le.freeze{σ:PS}(id:Nat){b:Bx}{e:E}(jg:σ.bo id=some b)(he:b.as=some e):PS.le σ (σ.uQ id e):=λw0 B a w L hB r=>by
 let L':Lk:=⟨λi=>L.me i/\i≠id,λi x=>L.own i x/\i≠id,L.val,L.iH⟩
 have iB:rz L w L' w:=⟨bg _,λx _ ⟨i,h,_⟩=>⟨i,h⟩,λ_ _ _=>rfl⟩
 have rG:∀ i,(σ.uQ id e).bo i=if i=id then none else(σ.bo i).map (Bx.qS (PV.uQ id e)):=by
  intro i;unfold PS.bo PS.uQ;simp only[J5];by_cases h:i=id
  .subst h;rw[a6 rfl,VZ];rfl
  .rw [aZ h,GB _ _ _ (λe=>h e.symm)]
 have A8:∀ x,L.own id x->¬iS B L' x:=by
  rintro x hx (h|⟨i,h1,h2⟩)
  .have:=hB x h;have:=(r.hw id x hx).1;omega
  .exact h2 (r.hi i id x h1 hx)
 have own:∀ (v:Value) (T:TypeId) (n sz:Nat) (f:Nat->Nat->Value) (nl:Bool) (el:Nat->Nat->E),nE w v T n sz f nl->(∀ x,v.ownBlock=some x->L.own id x) ->
  (∀ i j,i<n->j<sz->iC (iS B L) (jm L) w (el i j) (f i j)/\(el i j).nr 2=true)->iC (iS B L') (jm L') w (.sl nl n sz el) v:=by
  intro v T n sz f nl el h1 h2 h3;rcases h1 with⟨rfl,rfl⟩|⟨b,c,cur,rfl,hg,oG,nI,mJ,ke,jG⟩
  .exact .sl nl 0 sz el none 0 f (bg _) aE (λ_=>rfl) (λi j hi=>absurd hi (bj i)) (λi j hi=>absurd hi (bj i)) (λi j hi=>absurd hi (bj i)) (λi j hi=>absurd hi (bj i))
  .have sQ:=h2 b rfl;refine .sl nl n sz el _ c f oG (by unfold maxLen at nI;omega) (λh=>by cases h) (λi j hi hj=>⟨(ke i j hi hj).2,λhn=>jG hn _ (dG (ke i j hi hj).1)⟩) (λi j hi hj=>(h3 i j hi hj).2)
    (λi j hi hj=>⟨b,0,rfl,A8 b sQ,(r.hw id b sQ).2,?_⟩) (λi j hi hj=>iB.kH (h3 i j hi hj).1)
   rw[b5];simp only[World.cell?,hg];simpa using(ke i j hi hj).1
 have hold:∀ v,v=L.val id->iC (iS B L') (jm L') w e v:=by
  rintro v rfl;have xS:=r.hb id b jg;cases b with
  |cells T l=>cases he
  |oE nl T l=>cases he
  |row nl T n sz el=>
   cases he;obtain⟨f,h1,h2,h3⟩:=xS;exact own _ T n sz f nl el h1 (λx hx=>(h2 x).2 hx) h3
  |jH nl T1 T0 n sz len el pend=>
   cases pend with
   |some k=>cases he
   |none=>
    cases he;rcases xS with⟨h1,h2,_⟩|ji
    .subst h2;rw[h1];exact .sl true 0 1 _ none 0 (λ_ _=>undef) (bg _) aE (λ_=>rfl) (λi j hi=>absurd hi (bj i)) (λi j hi=>absurd hi (bj i)) (λi j hi=>absurd hi (bj i)) (λi j hi=>absurd hi (bj i))
    obtain⟨b,c,cur,f,h1,h2,h3,h4,h5,h6,h7,h8,h9,qw,se⟩:=ji;have sQ:L.own id b:=(h9 b).2 (.inl rfl);rw[h1];refine .sl true n 1 _ _ c (λk _=>L.iH id k) h3 (by unfold maxLen at h4;omega) (λh=>by cases h) (λk j hk hj=>?_) (λk j hk hj=>rfl)
     (λk j hk hj=>⟨b,0,rfl,A8 b sQ,(r.hw id b sQ).2,?_⟩) (λk j hk hj=>own _ T0 (len k) sz (f k) nl (el k) (h8 k hk).1 (λx hx=>(h9 x).2 (.inr ⟨k,hk,hx⟩)) (h8 k hk).2)
    .obtain ⟨_,q1,q2⟩:=(h8 k hk).1.head;exact⟨q1,λ_=>q2⟩
    .rw [b5,b8];obtain rfl:j=0:= aC ;simp only[World.cell?,h2];simpa using h6 k hk aH 
 have hT:∀ (p:PV) (v:Value),kQ (iS B L) (jm L) L w p v->kQ (iS B L') (jm L') L' w (p.uQ id e) v:=by
  intro p v k;have move:∀ (p:PV) (v:Value),kQ (iS B L) (jm L) L w p v->(p.kV.any (Nat.beq id))=false->kQ (iS B L') (jm L') L' w p v:=by
   intro p v k hp;refine kQ.move iB k λi hi pH=>⟨⟨pH,?_⟩,rfl,λ_=>rfl⟩
   rintro rfl;have:=cK.1 hp i hi;simp at this
  have gen:∀ (p:PV) (v:Value),kQ (iS B L) (jm L) L w p v->kQ (iS B L') (jm L') L' w (if p.kV.any (Nat.beq id)then .e .any else p) v:=by
   intro p v k;cases hp:p.kV.any (Nat.beq id)with
   |true=>exact .any _
   |false=>exact move p v k hp
  cases p with
  |own i=>
   simp only[PV.uQ];by_cases hi:i=id
   .subst hi;rw[ch,a6 rfl];exact hold _ k.2
   .rw [cM hi,aZ aE];exact⟨⟨k.1,hi⟩,k.2⟩
  |_=>exact gen _ _ k
 refine⟨L',r.hd,r.hs,λt=>?_,λi b' h=>?_,λi=>?_,λi x h=>⟨r.hn i x h.1,h.2⟩,λi x h=>r.hw i x h.1,λi i' x h k=>r.hi i i' x h.1 k.1,r.he,λh i b' k=>?_⟩
 .have hg:(σ.uQ id e).get t=(σ.get t).uQ id e:=by
   unfold PS.get PS.uQ;rw[J5];cases look σ.t t<;>rfl
  rw[hg];exact hT _ _ (r.ht t)
 .rw [rG]at h;split at h
  .cases h
  .rename_i hi;obtain⟨b0',lV,rfl⟩:=bT.1 h;exact nx.map (g:=λp=>p) iB (by rw[CT];exact r.hb i b0' lV) rfl (λx=>⟨λq=>q.1,λq=>⟨q,hi⟩⟩) (λ_=>rfl) (λ_ _=>rfl) λp v _ k=>hT p v k
 .rw [rG];show L.me i/\i≠id↔_;by_cases hi:i=id
  .subst hi;simp
  .simp only[hi,cU,eu,fw,bn,eI];exact r.hv i
 .rw [rG]at k;split at k
  .cases k
  .obtain ⟨b0',lV,rfl⟩:=bT.1 k;rw[CU];exact r.hl h i b0' lV
def PS.Du(σ:PS)(t id:Nat)(b:Bx):PS:={ σ with t:=(t,.own id)::σ.t.filter (λx=>!Nat.beq x.1 t),b:=(id,b)::σ.b }
def PS.le.aax{σ:PS}(t id:Nat){nl:Bool}{T:TypeId}{sz:Nat}{el:Nat->Nat->E}(jg:σ.bo id=none)(hg:σ.get t = .e (.v (.slice none 0 0)))(jG:σ.nl=true->nl=true):PS.le σ (σ.Du t id (.row nl T 0 sz el)):=λw0 B a w L hB r=>by
 have pP:¬L.me id:=λh=>by have:=(r.hv id).1 h;rw[jg]at this;cases this
 let L':Lk:=⟨λi=>L.me i\/i=id,L.own,λi=>if i=id then .slice none 0 0 else L.val i,L.iH⟩
 have iB:rz L w L' w:=⟨bg _,λx _ h=>h,λ_ _ _=>rfl⟩
 have rG:∀ i,(σ.Du t id (.row nl T 0 sz el)).bo i=if i=id then some (.row nl T 0 sz el)else σ.bo i:=by
  intro i;unfold PS.bo PS.Du;rw[sX];by_cases h:id=i
  .rw [a6 h,a6 h.symm]
  .rw [aZ h,aZ (λe=>h e.symm)]
 have hv:a.tmps.getD t undef = .slice none 0 0:=by
  have:=r.ht t;rw[hg]at this;exact iC.kC this
 refine⟨L',r.hd,r.hs,λs=>?_,λi b' h=>?_,λi=>?_,λi x h=>.inl (r.hn i x h),r.hw,r.hi,r.he,λh i b' k=>?_⟩
 .have hgs:(σ.Du t id (.row nl T 0 sz el)).get s=if t=s then .own id else σ.get s:=by
   unfold PS.get PS.Du;simp only[sX];by_cases h:t=s
   .rw [a6 h,a6 h];rfl
   .rw [aZ h,aZ h,GB _ _ _ h]
  rw[hgs];by_cases h:t=s
  .subst h;rw[a6 rfl,hv];exact⟨.inr rfl,(a6 rfl).symm⟩
  .rw [aZ h];refine kQ.move iB (r.ht s) λi _ pH=>⟨.inl pH,aZ (λ(q:i=id)=>pP (q▸pH)),λ_=>rfl⟩
 .rw [rG]at h;split at h
  .rename_i hi;subst hi;cases h;refine⟨λ_ _=>undef,.inl ⟨a6 rfl,rfl⟩,λx=>⟨λq=>absurd (r.hn _ _ q) pP,λq=>?_⟩,λi j hi=>absurd hi (bj i)⟩;have e1:L'.val i = .slice none 0 0:=a6 rfl;rw[e1]at q;cases q
  .rename_i hi;exact(r.hb i b' h).later iB (aZ hi) (λ_=>Iff.rfl) (λ_=>rfl) (λ_ _=>rfl) λp v _ k=>kQ.move iB k λi _ pH=>⟨.inl pH,aZ (λ(q:i=id)=>pP (q▸pH)),λ_=>rfl⟩
 .rw [rG];show L.me i\/i=id↔_;by_cases hi:i=id
  .subst hi;simp
  .simp only[hi,or_false,bn];exact r.hv i
 .rw [rG]at k;split at k
  .cases k;exact jG h
  .exact r.hl h i b' k
def Bx.Hq:Bx->Option (Bool×TypeId×List PV)
 | .cells T l=>some (l.all E.mN,T,l.map .e)
 | .oE nl T l=>some (nl,T,l)
 |_=>none
def nx.Hq{B:Nat->Prop}{L:Lk}{w:World}{id:Nat}{b:Bx}{nl:Bool}{T:TypeId}{l:List PV}(h:nx (iS B L) (jm L) L w id b)(hf:b.Hq=some (nl,T,l)):nx (iS B L) (jm L) L w id (.oE nl T l):=by
 cases b with
 |cells T' l'=>
  cases hf;obtain⟨b,vs,h1,h2,h3,h4,h5⟩:=h;refine⟨b,vs,h1,h2,h3,by rw[h4.len,ck],λi p v hp hv=>?_,λu hu=>⟨h5 u hu,λhn=>J3 h4 hn u hu⟩⟩;rw[b6]at hp;obtain⟨e,he,rfl⟩:=bT.1 hp;exact h4.kH i e v he hv
 |oE nl' T' l'=>cases hf;exact h
 |row=>cases hf
 |jH=>cases hf
def amL{b:Bx}{nl:Bool}{T:TypeId}{l:List PV}(hf:b.Hq=some (nl,T,l)):b.nl=nl:=by
 cases b<;>cases hf<;>rfl
def isNil:PV->Bool
 | .e (.v (.slice none 0 0))=>true
 |_=>false
def agG{p:PV}(h:isNil p=true):p = .e (.v (.slice none 0 0)):=by
 unfold isNil at h;split at h
 .rfl
 .cases h
def PS.Lz(σ:PS)(d off id:Nat)(b:Bx):Option PS:=match σ.bo id,σ.bo d with
 |none,some bd=>match bd.Hq with
  |some (nl,T,l)=>match l[off]? with
   |some p=>if isNil p then some { σ with b:=(id,b)::(d,.oE nl T (l.set off (.own id)))::σ.b }else none
   |none=>none
  |none=>none
 |_,_=>none
def PS.le.aay{σ τ:PS}{d off id:Nat}{nl:Bool}{T:TypeId}{sz:Nat}{el:Nat->Nat->E}(h:σ.Lz d off id (.row nl T 0 sz el)=some τ)(jG:σ.nl=true->nl=true):PS.le σ τ:=λw0 B a w L hB r=>by
 unfold PS.Lz at h;split at h
 .rename_i bd jg F2;split at h
  .rename_i nl' T' l hf;split at h
   .rename_i p hp;split at h
    .rename_i hn;obtain rfl:=agG hn;cases h;have jl:d≠id:=λe=>by subst e;rw[jg]at F2;cases F2
     have pP:¬L.me id:=λh=>by have:=(r.hv id).1 h;rw[jg]at this;cases this
     let L':Lk:=⟨λi=>L.me i\/i=id,L.own,λi=>if i=id then .slice none 0 0 else L.val i,L.iH⟩
     have iB:rz L w L' w:=⟨bg _,λx _ h=>h,λ_ _ _=>rfl⟩
     have Nl:∀ (p:PV) (v:Value),kQ (iS B L) (jm L) L w p v->kQ (iS B L') (jm L') L' w p v:=λp v k=>kQ.move iB k λi _ pH=>⟨.inl pH,aZ (λ(q:i=id)=>pP (q▸pH)),λ_=>rfl⟩
     have rG:∀ i,PS.bo { σ with b:=(id,.row nl T 0 sz el)::(d,.oE nl' T' (l.set off (.own id)))::σ.b } i=if i=id then some (.row nl T 0 sz el)else if i=d then some (.oE nl' T' (l.set off (.own id)))else σ.bo i:=by
      intro i;unfold PS.bo;simp only[sX];by_cases h:id=i
      .rw [a6 h,a6 h.symm]
      .rw [aZ h,aZ (show ¬i=id from λe=>h e.symm)];by_cases h2:d=i
       .rw [a6 h2,a6 h2.symm]
       .rw [aZ h2,aZ (λe=>h2 e.symm)]
     refine⟨L',r.hd,r.hs,λs=>Nl _ _ (r.ht s),λi b' h=>?_,λi=>?_,λi x h=>.inl (r.hn i x h),r.hw,r.hi,r.he,λh i b' k=>?_⟩
     .rw [rG]at h;split at h
      .rename_i hi;subst hi;cases h;refine⟨λ_ _=>undef,.inl ⟨a6 rfl,rfl⟩,λx=>⟨λq=>absurd (r.hn _ _ q) pP,λq=>?_⟩,λi j hi=>absurd hi (bj i)⟩;have e1:L'.val i = .slice none 0 0:=a6 rfl;rw[e1]at q;cases q
      .rename_i hi;split at h
       .rename_i hd;subst hd;cases h;obtain⟨b,vs,h1,h2,h3,h4,h5,h6⟩:=(r.hb i _ F2).Hq hf;refine⟨b,vs,(aZ hi).trans h1,h2,h3,by simpa using h4,λj p v zz hv=>?_,h6⟩;rw[aoC]at zz;split at zz
        .rename_i hj;subst hj;split at zz
         .cases zz;have sA:=iC.kC (h5 off _ v hp hv);exact⟨.inr rfl,sA.trans (a6 rfl).symm⟩
         .cases zz
        .exact Nl _ _ (h5 j p v zz hv)
       .exact (r.hb i b' h).later iB (aZ hi) (λ_=>Iff.rfl) (λ_=>rfl) (λ_ _=>rfl) λp v _ k=>Nl p v k
     .rw [rG];show L.me i\/i=id↔_;by_cases hi:i=id
      .subst hi;simp
      .simp only[hi,or_false,bn];by_cases hd:i=d
       .subst hd;simp only[bB,Option.isSome_some,iff_true];exact(r.hv i).2 (by rw[F2];rfl)
       .simp only[hd,bn];exact r.hv i
     .rw [rG]at k;split at k
      .cases k;exact jG h
      .split at k
       .cases k;show nl'=true;rw[<-amL hf];exact r.hl h d _ F2
       .exact r.hl h i b' k
    .cases h
   .cases h
  .cases h
 .cases h
end Go.Proofs.YtgdahmmlddfimaaGreatDoor.Pu
namespace Go.Proofs.YtgdahmmlddfimaaGreatDoor.Fp
def nu(x i:Nat)(b o:List Nat):Nat->List Nat×Nat
 | 0=>(o,0)
 |k+1=>
  let r:=nu x i b o k
  let z:=x*b.getD k 0+r.1.getD (i+k) 0+r.2
  (r.1.set (i+k) (z%4294967296),z/4294967296)
def lN(a b:List Nat):Nat->List Nat
 | 0=>List.replicate (a.length+b.length) 0
 |i+1=>
  let r:=nu (a.getD i 0) i b (lN a b i) b.length
  r.1.set (i+b.length) (r.2%4294967296)
def Wo{x y:Nat}(hx:x<4294967296)(hy:y<4294967296):x*y<=18446744065119617025:=by
 have:=dA (aC:x<=4294967295) (aC:y<=4294967295);omega
def Dk{L:List Nat}{k x:Nat}(hk:k<L.length):val (L.set k x)+4294967296^k*L.getD k 0=val L+4294967296^k*x:=by
 have:=PY (x:=x) hk;rwa[bh,bu hk]
def AW{L:List Nat}{k j x:Nat}(h:k≠j):(L.set k x).getD j 0=L.getD j 0:=by
 simp only[bh,List.getElem?_set_ne h]
def aeK{L:List Nat}{k x:Nat}(h:k<L.length):(L.set k x).getD k 0=x:=by
 simp[bh,h]
structure aam(x i:Nat)(b o:List Nat)(k:Nat)(r:List Nat×Nat):Prop where
 ok:iN r.1
 len:r.1.length=o.length
 lt:r.2<4294967296
 eq:val r.1+4294967296^(i+k)*r.2=val o+4294967296^i*(x*val (b.take k))
 qE:∀ j,i+k<=j->r.1.getD j 0=o.getD j 0
def GH{x i:Nat}{b o:List Nat}(hx:x<4294967296)(hb:iN b)(ho:iN o)(hl:i+b.length<=o.length):∀ k,k<=b.length->aam x i b o k (nu x i b o k)
 | 0,_=>⟨ho,rfl,Nat.zero_lt_succ _,by simp[nu,val],λ_ _=>rfl⟩
 |k+1,hk=>by
  obtain⟨h1,h2,h3,h4,h5⟩:=GH hx hb ho hl k aC;have hy:=hb.getD k;have hw:=h1.getD (i+k);have hm:=Wo hx hy;have hv:=wJ b k;simp only[nu];generalize nu x i b o k=r at *
  generalize hz:x*b.getD k 0+r.1.getD (i+k) 0+r.2=z;have Cz:=Dk (L:=r.1) (k:=i+k) (x:=z%4294967296) aC;refine⟨h1.set _ (bH _ aE),by simpa using h2,by show z/4294967296<_;omega,?_,λj hj=>?_⟩
  .have e1:z=z%4294967296+4294967296*(z/4294967296):=(ef z _).symm;show val (r.1.set (i+k) (z%4294967296))+4294967296^(i+(k+1))*(z/4294967296)=_;rw[hv,bO x,bO (4294967296^i),<-cR (val o),<-h4];have e2:4294967296^(i+(k+1))*(z/4294967296)=4294967296^(i+k)*(4294967296*(z/4294967296)):=by rw[(aC:i+(k+1)=(i+k)+1),bD,bC]
   have e3:4294967296^i*(x*(4294967296^k*b.getD k 0))=4294967296^(i+k)*(x*b.getD k 0):=by rw[bt];simp only[bC,dQ]
   rw[e2,e3];have e4:4294967296^(i+k)*z=4294967296^(i+k)*(x*b.getD k 0)+4294967296^(i+k)*r.1.getD (i+k) 0+4294967296^(i+k)*r.2:=by rw[<-hz,bO,bO]
   have e5:4294967296^(i+k)*z=4294967296^(i+k)*(z%4294967296)+4294967296^(i+k)*(4294967296*(z/4294967296)):=by rw[<-bO,<-e1]
   omega
  .show (r.1.set (i+k) _).getD j 0=_;rw[AW aC,h5 j aC]
structure aan(a b:List Nat)(i:Nat)(o:List Nat):Prop where
 ok:iN o
 len:o.length=a.length+b.length
 eq:val o=val (a.take i)*val b
 zero:∀ j,i+b.length<=j->o.getD j 0=0
def GJ{a b:List Nat}(ha:iN a)(hb:iN b):∀ i,i<=a.length->aan a b i (lN a b i)
 | 0,_=>⟨iN.EL _,by simp[lN],by simp[lN,BP,val],λj _=>by
  by_cases h:j<a.length+b.length<;>simp[lN,bh,eP,h]⟩
 |i+1,hi=>by
  obtain⟨h1,h2,h3,h4⟩:=GJ ha hb i aC;obtain⟨q1,q2,q3,q4,q5⟩:=GH (ha.getD i) hb h1 (i:=i) aC b.length (bg _);have hv:=wJ a i;simp only[lN];generalize nu (a.getD i 0) i b (lN a b i) b.length=r at *
  have Cz:=Dk (L:=r.1) (k:=i+b.length) (x:=r.2%4294967296) aC;rw[q5 _ (bg _),h4 _ (bg _),cF,bR,ca q3,q4,eV,h3]at Cz;refine⟨q1.set _ (bH _ aE),aN,?_,λj hj=>?_⟩
  .rw [ca q3,Cz,hv,bX,bC]
  .rw [AW aC,q5 _ aC,h4 _ aC]
def am9{a b:List Nat}(ha:iN a)(hb:iN b):val (lN a b a.length)=val a*val b:=by
 have:=(GJ ha hb a.length (bg _)).eq;rwa[eV]at this
end Go.Proofs.YtgdahmmlddfimaaGreatDoor.Fp
namespace Go.Proofs.YtgdahmmlddfimaaGreatDoor
open Go.RowKit Fp Pu
abbrev qp(L:List Nat):Nat->Nat->E:=λi _=>.v (.int .u32 (L.getD i 0:Int))
def E3(n:Nat):IntKind.u32.wrap (n:Int)=((n%4294967296:Nat):Int):=by rw[IntKind.wrap_u32];omega
def U7(n:Nat)(h:n<9223372036854775808):IntKind.i64.wrap (n:Int)=n:=by rw[IntKind.wrap_i64];omega
def YX(n:Nat):(n:Int)/2^32=((n/4294967296:Nat):Int):= aC 
def Y3{L:List Nat}{n:Nat}(h:n=L.length):E.le (.sl false n 1 (qp L)) (ic L):=by subst h;exact .refl _
def X5{T n n':Nat}{L:List Nat}(hn:n=n')(h:∀ i,L.getD i 0=0):Bx.le (.row false T n 1 λ_ j=>[.v (.int .u32 0)].getD j .any) (.row false T n' 1 (qp L)):=
 .row hn λi j _ hj=>by
  obtain rfl:j=0:= aC ;refine⟨.iT ?_,rfl⟩;show E.v (.int .u32 0)=E.v (.int .u32 (L.getD i 0:Int));rw[h i];rfl
def Pe{T n n' p:Nat}{L:List Nat}{z:Nat}(hn:n=n')(hp:p<L.length):Bx.le (.row false T n 1 λi' j'=>if i'=p/\0<=j'/\j'<0+1 then[.v (.int .u32 (z:Int))].getD (j'-0) .any else(qp L) i' j') (.row false T n' 1 (qp (L.set p z))):=
 .row hn λi j _ hj=>by
  obtain rfl:j=0:= aC ;refine⟨.iT ?_,rfl⟩;by_cases h:i=p
  .subst h;rw[a6 ⟨rfl,aC,aC⟩];show E.v (.int .u32 (z:Int))=E.v (.int .u32 (((L.set i z).getD i 0:Nat):Int));rw[Fp.aeK hp]
  .rw [aZ (λq=>h q.1)];show E.v (.int .u32 (L.getD i 0:Int))=E.v (.int .u32 (((L.set p z).getD i 0:Nat):Int));rw[Fp.AW (λq=>h q.symm)]
def XW{k l:IntKind}{a b c d:Int}(h:a=b)(h':c=d):Ending.returned (.tuple #[.int k a,.int l c]) = .returned (.tuple #[.int k b,.int l d]):=by rw[h,h']
def Fe(x y c:Nat)(w:World)(hx:x<4294967296)(hy:y<4294967296)(hc:c<=1):
 Calls prog 294 #[.int .u32 x,.int .u32 y,.int .u32 c] w λe w'=>e = .returned (.tuple #[.int .u32 (((x+y+c)%4294967296:Nat):Int),.int .u32 (((x+y+c)/4294967296:Nat):Int)])/\w=w':=by
 go_enter func294,ntmps294;go_wp2;go_ret2;refine⟨?_,rfl⟩;exact XW aC aC 
def am0(a b:Nat)(ha:a<4294967296)(hb:b<4294967296):bits .or .u32 (a:Int) (b:Int)=((a |||b:Nat):Int):=by
 have h2:a |||b<2^32:=aoz ha hb
 show IntKind.u32.wrap ((BitVec.ofInt 32 (a:Int) |||BitVec.ofInt 32 (b:Int)).toNat:Int)=_;rw[BitVec.toNat_or,fE,fE];rw[show((a:Int)%((2^32:Nat):Int)).toNat=a by omega,show((b:Int)%((2^32:Nat):Int)).toNat=b by omega];rw[IntKind.wrap_u32];omega
def ZN(a b:Nat)(ha:a<4294967296)(hb:b<4294967296):bits .and .u32 (a:Int) (b:Int)=((a &&& b:Nat):Int):=by
 have h2:a &&& b<2^32:=fC a hb;show IntKind.u32.wrap ((BitVec.ofInt 32 (a:Int) &&& BitVec.ofInt 32 (b:Int)).toNat:Int)=_;rw[BitVec.toNat_and,fE,fE];rw[show((a:Int)%((2^32:Nat):Int)).toNat=a by omega,show((b:Int)%((2^32:Nat):Int)).toNat=b by omega];rw[IntKind.wrap_u32];omega
def PW(a b:Nat)(ha:a<4294967296)(hb:b<4294967296):bits .xor .u32 (a:Int) (b:Int)=((a ^^^ b:Nat):Int):=by
 have h2:a ^^^ b<2^32:=eW ha hb;show IntKind.u32.wrap ((BitVec.ofInt 32 (a:Int) ^^^ BitVec.ofInt 32 (b:Int)).toNat:Int)=_;rw[BitVec.toNat_xor,fE,fE];rw[show((a:Int)%((2^32:Nat):Int)).toNat=a by omega,show((b:Int)%((2^32:Nat):Int)).toNat=b by omega];rw[IntKind.wrap_u32];omega
def K0(n:Nat)(h:n<4294967296):n/2147483648=(n.testBit 31).toNat:=by
 rw[Nat.testBit_eq_decide_div_mod_eq,show(2:Nat)^31=2147483648 from rfl];have h2:n/2147483648<2:= aC ;generalize n/2147483648=q at *
 have:q=0\/q=1:= aC ;rcases this with rfl|rfl<;>rfl
def al9(x y c d:Nat)(hx:x<4294967296)(hy:y<4294967296)(hc:c<=1)(hd:d=(x+(4294967296-y)+(4294967296-c))%4294967296):
 (((4294967295 ^^^ x) &&& y) ||| ((4294967295 ^^^ (x ^^^ y)) &&& d))/2147483648=if x<y+c then 1 else 0:=by
 have Cj:d<4294967296:= aC ;have h1:4294967295 ^^^ x<2^32:=eW aE hx;have h2:x ^^^ y<2^32:=eW hx hy;have h3:4294967295 ^^^ (x ^^^ y)<2^32:=eW aE h2;have h4:(4294967295 ^^^ x) &&& y<2^32:=fC _ hy;have h5:(4294967295 ^^^ (x ^^^ y)) &&& d<2^32:=fC _ Cj;rw[K0 _ (aoz h4 h5)];have tx:=K0 x hx;have ty:=K0 y hy;have td:=K0 d Cj;rw[Nat.testBit_or,Nat.testBit_and,Nat.testBit_and,aoD,aoD,aoD,show(4294967295:Nat).testBit 31=true by decide];clear h1 h2 h3 h4 h5;generalize x.testBit 31=p at *
 generalize y.testBit 31=q at *
 generalize d.testBit 31=r at *
 cases p<;>cases q<;>cases r<;>simp at tx ty td ⊢ <;> omega
def BY(x y c:Nat):Nat:=if x<y+c then 1 else 0
def xJ(x y c:Nat):Nat:=(x+(4294967296-y)+(4294967296-c))%4294967296
def FA(x y c:Nat)(hx:x<4294967296)(hy:y<4294967296)(hc:c<=1):xJ x y c+y+c=x+4294967296*BY x y c/\BY x y c<=1/\xJ x y c<4294967296:=by
 unfold xJ BY;split<;>omega
def Ze(x y c:Nat)(w:World)(hx:x<4294967296)(hy:y<4294967296)(hc:c<=1):
 Calls prog 295 #[.int .u32 x,.int .u32 y,.int .u32 c] w λe w'=>e = .returned (.tuple #[.int .u32 (xJ x y c:Nat),.int .u32 (BY x y c:Nat)])/\w=w':=by
 go_enter func295,ntmps295;go_wp2;go_ret2;refine⟨?_,rfl⟩;have hd:((x:Int)-y-c)%4294967296=(xJ x y c:Int):=by unfold xJ;omega
 have hb:=al9 x y c (xJ x y c) hx hy hc rfl;have hl:=(FA x y c hx hy hc).2.2;have em:IntKind.u32.max=((4294967295:Nat):Int):=rfl;refine XW hd ?_;rw[hd,em,PW _ _ aE hx,PW _ _ hx hy];have h1:4294967295 ^^^ x<2^32:=eW aE hx;have h2:x ^^^ y<2^32:=eW hx hy;have h3:4294967295 ^^^ (x ^^^ y)<2^32:=eW aE h2;rw[PW _ _ aE h2,ZN _ _ h1 hy,ZN _ _ h3 hl];have h4:(4294967295 ^^^ x) &&& y<2^32:=fC _ hy;have h5:(4294967295 ^^^ (x ^^^ y)) &&& xJ x y c<2^32:=fC _ hl;rw[am0 _ _ h4 h5];unfold BY;rw[<-hb];omega
def Qr{O:List Nat}{k c x y P Q P' Q':Nat}(ho:O[k]? = some 0)(h:val O+4294967296^k*c=P+Q)
 (hP:P'=P+4294967296^k*x) (hQ:Q'=Q+4294967296^k*y):
 val (O.set k ((x+y+c)%4294967296))+4294967296^(k+1)*((x+y+c)/4294967296)=P'+Q':=by
 have h1:=Wp (a:=1) (b:=x+y) (c:=c) ho;rw[bZ,bR]at h1;rw[h1,h,hP,hQ,bO];omega
def Zg{O:List Nat}{k c x y d c' P Q P' Q':Nat}(ho:O[k]? = some 0)(h:val O+Q=P+4294967296^k*c)
 (hP:P'=P+4294967296^k*x) (hQ:Q'=Q+4294967296^k*y) (hd:d+y+c=x+4294967296*c'):
 val (O.set k d)+Q'=P'+4294967296^(k+1)*c':=by
 obtain⟨hk,h0⟩:=b7.1 ho;have h1:=PY (x:=d) hk;rw[h0,cF,bR]at h1;have e:=congrArg (4294967296^k * ·) hd;simp only[bO,<-bC]at e;rw[bD,h1,hP,hQ];omega
def uF(O:List Nat)(k:Nat):Prop:=∀ j,k<=j->j<O.length->O[j]? = some 0
def uF.at{O:List Nat}{k:Nat}(h:uF O k)(hk:k<O.length):O[k]? = some 0:=h k (bg _) hk
def uF.set{O:List Nat}{k:Nat}(h:uF O k)(v:Nat):uF (O.set k v) (k+1):=λj h1 h2=>by
 rw[List.getElem?_set_ne aC];exact h j aC (by simpa using h2)
def uF.P8(n:Nat):uF (List.replicate n 0) 0:=λj _ h=>by
 rw[eP];rw[a6 (by simpa using h)]
def Lq(w:World)(v n:Nat)(e:Ending)(w':World):Prop:=∃ T,val T=v/\iN T/\T.length=n/\uE w T e w'
def Qg(w:World)(v n:Nat)(e:Ending)(w':World):Prop:=∃ T,val T=v/\iN T/\T.length<=n/\uE w T e w'
def aif(A B:Option Addr)(c d:Nat)(L M:List Nat)(w:World)(hs:Sl w A c L)(hr:Sl w B d M)(h1:L.length<=3000)(_h2:M.length<=3000)(hc:M.length<=L.length):
 Calls prog 262 #[.slice A L.length c,.slice B M.length d] w (Lq w (val L+val M) (L.length+1)):=by
 obtain⟨l,hl⟩:∃ l,l=L.length:=⟨_,rfl⟩
 obtain⟨m,hm⟩:∃ m,m=M.length:=⟨_,rfl⟩
 rw[<-hl,<-hm]at hc;rw[<-hl]at h1;rw[<-hm]at _h2;have HL:=aoX hl;have HM:=aoX hm;rw[<-hl,<-hm];clear hl hm;have d0:decide ((l:Int)<m)=false:=bc aC;have d1:decide (l<m)=false:=bc aC;have qk:=GD (l+1) aC;rw[show((l+1:Nat):Int)=l+1 by omega]at qk;have xR:=aoX (Rw.zS w (l+1));go_enter func262,ntmps262;go_wp2;go_loopw [6,7,8,9,23] (λcy _ _ _ i wr=>∃ (k q:Nat) (O:List Nat),k<=l/\i = .int .i64 k/\cy = .int .u32 q/\q<=1/\O.length=l+1/\iN O/\uF O k/\val O+4294967296^k*q=val (L.take k)+val (M.take k)/\Rw wr w.heap.size O/\iI w wr) (λ_ _ _ _ i _=>l-(intOf i).toNat)
 case atStart=>
  exact⟨0,0,List.replicate (l+1) 0,bV _,rfl,rfl,aE,aH,iN.EL _,uF.P8 _,by simp[BP],xR.out,iI.alloc _ _⟩
 case round=>
  obtain⟨k,q,O,hk,rfl,rfl,hq,hO,kj,hz,lq,hR,hb⟩:=hrel;have HV:=aoX lq;have HO:=aoX hO;clear lq hO;have HZ:=aoX hz;clear hz;by_cases iB:k<l
  .have uc:k<L.length:=by have:=HL.out;omega
   obtain⟨ab,ao,e1,_,c1⟩:=(hs.below hb).mv uc;have nh:L[k]<4294967296:=hs.ok.get uc;have ho:=HZ.out.at (by have:=HO.out;omega)
   have c4:=hR.frozen k;have Jr:=hR.cell ho;have HT:=aoX (BQ L k uc);have HY:=aoX (wJ M k);have qD:M.getD k 0<4294967296:=hr.ok.getD k;have HYc:=aoX (λ(h:k<M.length)=>(hr.below hb).mv h);have HYg:=aoX (λ(h:k<M.length)=>AV h);have HYn:=aoX (λ(h:¬k<M.length)=>DR h);have HX:=aoX (rfl:L[k]=L[k]);obtain⟨a,ha⟩:∃ a,a=L[k]:=⟨_,rfl⟩
   rw[<-ha]at c1 nh HT;clear ha HX uc;have HS:=aoX (Qr ho HV.out HT.out HY.out);have HN:=aoX (λv=>HZ.out.set v);have HOK:=aoX (λv=>kj.YT k v);have HR2:=aoX (λv:Nat=>hR.set k v);have HE2:=aoX (λv:Value=>hb.setCell (p:=⟨w.heap.size,k,none⟩) (bg _) v);clear ho hR hb kj;subst e1;by_cases U1:k<m
   .have w7:k<M.length:=by have:=HM.out;omega
    obtain⟨bb,bo,e2,_,c2⟩:=HYc.out w7;subst e2;rw[<-HYg.out w7]at c2;generalize M.getD k 0=b at *
    clear HYc HYg HYn w7;have HA:=aoX (λw=>Fe a b q w nh qD hq);go_wp2_with fail;refine(HA.out _).mono ?_;rintro e w1 ⟨rfl,rfl⟩;go_wp2;go_roundw
    case rel=>
     exact⟨k+1,(a+b+q)/4294967296,O.set k ((a+b+q)%4294967296),aC,by go_num,rfl,aC,by rw[c9];exact HO.out,HOK.out _,HN.out _,HS.out,HR2.out _,HE2.out _⟩
    case measure=>simp[intOf];omega
   .rw [HYn.out (by have:=HM.out;omega)]at HS;clear HYc HYg HYn qD HY;have HA:=aoX (λw=>Fe a 0 q w nh aE hq);go_wp2_with fail;refine(HA.out _).mono ?_;rintro e w1 ⟨rfl,rfl⟩;go_wp2;go_roundw
    case rel=>
     exact⟨k+1,(a+0+q)/4294967296,O.set k ((a+0+q)%4294967296),aC,by go_num,rfl,aC,by rw[c9];exact HO.out,HOK.out _,HN.out _,HS.out,HR2.out _,HE2.out _⟩
    case measure=>simp[intOf];omega
  .obtain rfl:k=l:= aC ;have ho:=HZ.out.at (by have:=HO.out;omega)
   have c4:=hR.frozen k;have Jr:=hR.cell ho;have HF:=aoX (show val (O.set k q)=val L+val M by
    have h:=RC (c:=q) ho;rw[b5,ca aC,cW aC,cF,bR,HV.out,show L.take k=L from cH (by rw[HL.out];exact bg _),show M.take k=M from cH (by rw[<-HM.out];omega)]at h;omega)
   have HLn:=aoX (show(O.set k q).length=k+1 by rw[c9];exact HO.out);have HOK:Hid (iN (O.set k q)):=kj.set k aC;have HR2:=aoX (hR.set k q);have HE2:=aoX (λv:Value=>hb.setCell (p:=⟨w.heap.size,k,none⟩) (bg _) v);clear ho hR hb kj;go_wp2;go_ret;have rf:=HR2.out.sl HOK.out (by rw[HLn.out];omega);rw[HLn.out]at rf;exact⟨_,HF.out,HOK.out,HLn.out,_,_,(by rw[HLn.out];rfl),rf,HE2.out _⟩
def aih(A B:Option Addr)(c d:Nat)(L M:List Nat)(w:World)(hs:Sl w A c L)(hr:Sl w B d M)(h1:L.length<=3000)(h2:M.length<=3000)(hc:L.length<M.length):
 Calls prog 262 #[.slice A L.length c,.slice B M.length d] w (Lq w (val L+val M) (M.length+1)):=by
 obtain⟨l,hl⟩:∃ l,l=L.length:=⟨_,rfl⟩
 obtain⟨m,hm⟩:∃ m,m=M.length:=⟨_,rfl⟩
 rw[<-hl,<-hm]at hc;rw[<-hl]at h1;rw[<-hm]at h2;have HL:=aoX hl;have HM:=aoX hm;rw[<-hl,<-hm];clear hl hm;have d0:decide ((l:Int)<m)=true:=a7 aC;have d1:decide (l<m)=true:=a7 aC;have qk:=GD (m+1) aC;rw[show((m+1:Nat):Int)=m+1 by omega]at qk;have xR:=aoX (Rw.zS w (m+1));go_enter func262,ntmps262;go_wp2;go_loopw [6,7,8,9,23] (λcy _ _ _ i wr=>∃ (k q:Nat) (O:List Nat),k<=m/\i = .int .i64 k/\cy = .int .u32 q/\q<=1/\O.length=m+1/\iN O/\uF O k/\val O+4294967296^k*q=val (M.take k)+val (L.take k)/\Rw wr w.heap.size O/\iI w wr) (λ_ _ _ _ i _=>m-(intOf i).toNat)
 case atStart=>
  exact⟨0,0,List.replicate (m+1) 0,bV _,rfl,rfl,aE,aH,iN.EL _,uF.P8 _,by simp[BP],xR.out,iI.alloc _ _⟩
 case round=>
  obtain⟨k,q,O,hk,rfl,rfl,hq,hO,kj,hz,lq,hR,hb⟩:=hrel;have HV:=aoX lq;have HO:=aoX hO;clear lq hO;have HZ:=aoX hz;clear hz;by_cases iB:k<m
  .have uc:k<M.length:=by have:=HM.out;omega
   obtain⟨ab,ao,e1,_,c1⟩:=(hr.below hb).mv uc;have nh:M[k]<4294967296:=hr.ok.get uc;have ho:=HZ.out.at (by have:=HO.out;omega)
   have c4:=hR.frozen k;have Jr:=hR.cell ho;have HT:=aoX (BQ M k uc);have HY:=aoX (wJ L k);have qD:L.getD k 0<4294967296:=hs.ok.getD k;have HYc:=aoX (λ(h:k<L.length)=>(hs.below hb).mv h);have HYg:=aoX (λ(h:k<L.length)=>AV h);have HYn:=aoX (λ(h:¬k<L.length)=>DR h);have HX:=aoX (rfl:M[k]=M[k]);obtain⟨a,ha⟩:∃ a,a=M[k]:=⟨_,rfl⟩
   rw[<-ha]at c1 nh HT;clear ha HX uc;have HS:=aoX (Qr ho HV.out HT.out HY.out);have HN:=aoX (λv=>HZ.out.set v);have HOK:=aoX (λv=>kj.YT k v);have HR2:=aoX (λv:Nat=>hR.set k v);have HE2:=aoX (λv:Value=>hb.setCell (p:=⟨w.heap.size,k,none⟩) (bg _) v);clear ho hR hb kj;subst e1;by_cases U1:k<l
   .have w7:k<L.length:=by have:=HL.out;omega
    obtain⟨bb,bo,e2,_,c2⟩:=HYc.out w7;subst e2;rw[<-HYg.out w7]at c2;generalize L.getD k 0=b at *
    clear HYc HYg HYn w7;have HA:=aoX (λw=>Fe a b q w nh qD hq);go_wp2_with fail;refine(HA.out _).mono ?_;rintro e w1 ⟨rfl,rfl⟩;go_wp2;go_roundw
    case rel=>
     exact⟨k+1,(a+b+q)/4294967296,O.set k ((a+b+q)%4294967296),aC,by go_num,rfl,aC,by rw[c9];exact HO.out,HOK.out _,HN.out _,HS.out,HR2.out _,HE2.out _⟩
    case measure=>simp[intOf];omega
   .rw [HYn.out (by have:=HL.out;omega)]at HS;clear HYc HYg HYn qD HY;have HA:=aoX (λw=>Fe a 0 q w nh aE hq);go_wp2_with fail;refine(HA.out _).mono ?_;rintro e w1 ⟨rfl,rfl⟩;go_wp2;go_roundw
    case rel=>
     exact⟨k+1,(a+0+q)/4294967296,O.set k ((a+0+q)%4294967296),aC,by go_num,rfl,aC,by rw[c9];exact HO.out,HOK.out _,HN.out _,HS.out,HR2.out _,HE2.out _⟩
    case measure=>simp[intOf];omega
  .obtain rfl:k=m:= aC ;have ho:=HZ.out.at (by have:=HO.out;omega)
   have c4:=hR.frozen k;have Jr:=hR.cell ho;have HF:=aoX (show val (O.set k q)=val L+val M by
    have h:=RC (c:=q) ho;rw[b5,ca aC,cW aC,cF,bR,HV.out,show M.take k=M from cH (by rw[HM.out];exact bg _),show L.take k=L from cH (by rw[<-HL.out];omega)]at h;omega)
   have HLn:=aoX (show(O.set k q).length=k+1 by rw[c9];exact HO.out);have HOK:Hid (iN (O.set k q)):=kj.set k aC;have HR2:=aoX (hR.set k q);have HE2:=aoX (λv:Value=>hb.setCell (p:=⟨w.heap.size,k,none⟩) (bg _) v);clear ho hR hb kj;go_wp2;go_ret;have rf:=HR2.out.sl HOK.out (by rw[HLn.out];omega);rw[HLn.out]at rf;exact⟨_,HF.out,HOK.out,HLn.out,_,_,(by rw[HLn.out];rfl),rf,HE2.out _⟩
def WC(A B:Option Addr)(c d:Nat)(L M:List Nat)(w:World)(hs:Sl w A c L)(hr:Sl w B d M)(h1:L.length<=3000)(h2:M.length<=3000):
 Calls prog 262 #[.slice A L.length c,.slice B M.length d] w (Lq w (val L+val M) (max L.length M.length+1)):=by
 by_cases hc:M.length<=L.length
 .rw [Nat.max_eq_left hc];exact aif A B c d L M w hs hr h1 h2 hc
 .rw [Nat.max_eq_right aC];exact aih A B c d L M w hs hr h1 h2 aC 
def aie(A B:Option Addr)(c d:Nat)(L M:List Nat)(w:World)(hs:Sl w A c L)(hr:Sl w B d M)(h1:L.length<=3000)(h2:M.length<=3000):
 Calls prog 262 #[.slice A L.length c,.slice B M.length d] w (Qg w (val L+val M) (max L.length M.length+1)):=
 (WC A B c d L M w hs hr h1 h2).mono λ_ _ ⟨T,a,b,c,d⟩=>⟨T,a,b,gP c,d⟩
def aii(A B:Option Addr)(c d:Nat)(L M:List Nat)(w:World)(ug:Sl w A c L)(xW:Sl w B d M)(h1:L.length<=3000)(_h2:M.length<=3000)(hle:val M<=val L):
 Calls prog 264 #[.slice A L.length c,.slice B M.length d] w (Qg w (val L-val M) L.length):=by
 have ML:=aoX (λw (h:Sl w A c L)=>vj A c L w h);have MM:=aoX (λw (h:Sl w B d M)=>vj B d M w h);have hs:=ug.uC;have hr:=xW.uC;have Gp:=qs L;have UQ:=qs M;have F9:=pV L;have ot:=pV M;have D5:(iG M).length<=(iG L).length:=by
  apply bU;intro h;have:=K6 hs.ok (An M) aC;omega
 unfold mR at F9 ot;rw[<-Gp,<-UQ]at hle ⊢;clear Gp UQ;obtain⟨n1,tD⟩:∃ n,n=L.length:=⟨_,rfl⟩
 obtain⟨n2,mK⟩:∃ n,n=M.length:=⟨_,rfl⟩
 rw[<-tD]at h1 F9 ML ⊢;rw[<-mK]at _h2 ot MM ⊢;have HTL:=aoX (ML.out w ug);have HTM:=aoX (MM.out w xW);clear ML MM ug xW tD mK;generalize iG L=L at *
 generalize iG M=M at *
 obtain⟨l,hl⟩:∃ l,l=L.length:=⟨_,rfl⟩
 obtain⟨m,hm⟩:∃ m,m=M.length:=⟨_,rfl⟩
 rw[<-hl]at F9 HTL D5;rw[<-hm]at ot HTM D5;have HL:=aoX hl;have HM:=aoX hm;have HLE:=aoX hle;clear hl hm hle;have qk:=GD l aC;have xR:=aoX (Rw.zS w l);go_enter func264,ntmps264;go_wp2_with fail;refine HTL.out.mono ?_;rintro e w1 ⟨rfl,rfl⟩;go_wp2_with fail;refine HTM.out.mono ?_;rintro e w1 ⟨rfl,rfl⟩;go_wp2;go_loopw [6,7,8,9,19] (λcy _ _ _ i wr=>∃ (k q:Nat) (O:List Nat),k<=l/\i = .int .i64 k/\cy = .int .u32 q/\q<=1/\O.length=l/\iN O/\uF O k/\val O+val (M.take k)=val (L.take k)+4294967296^k*q/\Rw wr w.heap.size O/\iI w wr) (λ_ _ _ _ i _=>l-(intOf i).toNat)
 case atStart=>
  exact⟨0,0,List.replicate l 0,bV _,rfl,rfl,aE,aH,iN.EL _,uF.P8 _,by simp[BP],xR.out,iI.alloc _ _⟩
 case round=>
  obtain⟨k,q,O,hk,rfl,rfl,hq,hO,kj,hz,lq,hR,hb⟩:=hrel;have HV:=aoX lq;have HO:=aoX hO;clear lq hO;have HZ:=aoX hz;clear hz;by_cases iB:k<l
  .have uc:k<L.length:=by have:=HL.out;omega
   obtain⟨ab,ao,e1,_,c1⟩:=(hs.below hb).mv uc;have nh:L[k]<4294967296:=hs.ok.get uc;have ho:=HZ.out.at (by have:=HO.out;omega)
   have c4:=hR.frozen k;have Jr:=hR.cell ho;have HT:=aoX (BQ L k uc);have HY:=aoX (wJ M k);have qD:M.getD k 0<4294967296:=hr.ok.getD k;have HYc:=aoX (λ(h:k<M.length)=>(hr.below hb).mv h);have HYg:=aoX (λ(h:k<M.length)=>AV h);have HYn:=aoX (λ(h:¬k<M.length)=>DR h);obtain⟨a,ha⟩:∃ a,a=L[k]:=⟨_,rfl⟩
   rw[<-ha]at c1 nh HT;clear ha uc;have HN:=aoX (λv=>HZ.out.set v);have HOK:=aoX (λ(v:Nat) (h:v<4294967296)=>kj.set k h);have HR2:=aoX (λv:Nat=>hR.set k v);have HE2:=aoX (λv:Value=>hb.setCell (p:=⟨w.heap.size,k,none⟩) (bg _) v);have HO0:=aoX ho;clear ho hR hb kj;subst e1;by_cases U1:k<m
   .have w7:k<M.length:=by have:=HM.out;omega
    obtain⟨bb,bo,e2,_,c2⟩:=HYc.out w7;subst e2;rw[<-HYg.out w7]at c2;generalize M.getD k 0=b at *
    clear HYc HYg HYn w7;have HS:=aoX (Zg HO0.out HV.out HT.out HY.out (FA a b q nh qD hq).1);have HD:=aoX (FA a b q nh qD hq).2;have HA:=aoX (λw=>Ze a b q w nh qD hq);generalize xJ a b q=dd at *
    generalize BY a b q=bb' at *
    go_wp2_with fail;refine(HA.out _).mono ?_;rintro e w1 ⟨rfl,rfl⟩;go_wp2;go_roundw
    case rel=>
     exact⟨k+1,bb',O.set k dd,aC,by go_num,rfl,HD.out.1,by rw[c9];exact HO.out,HOK.out _ HD.out.2,HN.out _,HS.out,HR2.out _,HE2.out _⟩
    case measure=>simp[intOf];omega
   .rw [HYn.out (by have:=HM.out;omega)]at HY;clear HYc HYg HYn qD;have HS:=aoX (Zg HO0.out HV.out HT.out HY.out (FA a 0 q nh aE hq).1);have HD:=aoX (FA a 0 q nh aE hq).2;have HA:=aoX (λw=>Ze a 0 q w nh aE hq);generalize xJ a 0 q=dd at *
    generalize BY a 0 q=bb' at *
    go_wp2_with fail;refine(HA.out _).mono ?_;rintro e w1 ⟨rfl,rfl⟩;go_wp2;go_roundw
    case rel=>
     exact⟨k+1,bb',O.set k dd,aC,by go_num,rfl,HD.out.1,by rw[c9];exact HO.out,HOK.out _ HD.out.2,HN.out _,HS.out,HR2.out _,HE2.out _⟩
    case measure=>simp[intOf];omega
  .obtain rfl:k=l:= aC ;have HF:=aoX (show val O=val L-val M by
    have h:=HV.out;rw[show L.take k=L from cH (by rw[HL.out];exact bg _),show M.take k=M from cH (by rw[<-HM.out];exact D5)]at h;exact(Zf kj HO.out h HLE.out).2)
   go_wp2;go_ret;have rf:=hR.sl kj (by rw[HO.out];omega);exact⟨_,HF.out,kj,by rw[HO.out];exact F9,_,_,(by rw[HO.out];rfl),rf,hb⟩
def ZG{T:List Nat}{v:Nat}(h:iN T)(hv:val T=v):iG T=gY v:=by rw[rS h,hv]
def ah2(A B:Option Addr)(c d:Nat)(L M:List Nat)(w:World)(hs:Sl w A c L)(hr:Sl w B d M)(h1:L.length<=256)(h2:M.length<=256)(hf:(gY (val L+val M)).length<=256):
 Calls prog 221 #[.slice A L.length c,.slice B M.length d] w (Dq w (gY (val L+val M)) 0):=by
 have H1:=aoX (λw (h:Sl w A c L) (k:Sl w B d M)=>aie A B c d L M w h k aC aC);generalize val L+val M=v at *
 go_enter func221,ntmps221;go_wp2_with fail;refine(VX _ A B _ c _ d _ false (Qj _ _ _ _ _ _ _) (Qk _ _ _ _ _ _ _) aN).mono ?_;rintro e w' ⟨rfl,rfl⟩;go_wp2_with fail;refine(H1.out _ (hs.alloc _) (hr.alloc _)).mono ?_;rintro e w' ⟨T,hv,hk,hl,A',c',rfl,ph,hb⟩;have ht:=aoX (ZG hk hv);go_wp2_with fail;refine(GN A' c' T _ ph (by rw[ht.out];exact hf)).mono ?_;rintro e w'' ⟨A'',c'',rfl,r6,mU⟩;rw[ht.out]at r6 ⊢;go_wp2;go_ret2;exact⟨A'',c'',rfl,r6,(iI.alloc _ _).trans (hb.trans mU)⟩
def aid(A B:Option Addr)(c d:Nat)(L M:List Nat)(w:World)(hs:Sl w A c L)(hr:Sl w B d M)(h1:L.length<=256)(h2:M.length<=256)(hle:val M<=val L):
 Calls prog 224 #[.slice A L.length c,.slice B M.length d] w (Dq w (gY (val L-val M)) 0):=by
 have H1:=aoX (λw (h:Sl w A c L) (k:Sl w B d M)=>aii A B c d L M w h k aC aC hle);have HC:=aoX (λw (h:Sl w A c L) (k:Sl w B d M)=>J9 A B c d L M w h k aC aC);have hc:decide (kE (val L) (val M)<0)=false:=by
  apply bc;unfold kE;rw[aZ aC];split<;>decide
 have hf:(gY (val L-val M)).length<=256:=bk (mV (dP _ _)) (ahr hs.ok h1);generalize val L-val M=v at *
 generalize kE (val L) (val M)=q at *
 clear hle;go_enter func224,ntmps224;go_wp2_with fail;refine(VX _ A B _ c _ d _ false (Qj _ _ _ _ _ _ _) (Qk _ _ _ _ _ _ _) aN).mono ?_;rintro e w' ⟨rfl,rfl⟩;go_wp2_with fail;refine(HC.out _ (hs.alloc _) (hr.alloc _)).mono ?_;rintro e w1 ⟨rfl,jK⟩;go_wp2_with fail;refine(H1.out _ ((hs.alloc _).below jK) ((hr.alloc _).below jK)).mono ?_;rintro e w' ⟨T,hv,hk,hl,A',c',rfl,ph,hb⟩;have ht:=aoX (ZG hk hv);go_wp2_with fail;refine(GN A' c' T _ ph (by rw[ht.out];exact hf)).mono ?_;rintro e w'' ⟨A'',c'',rfl,r6,mU⟩;rw[ht.out]at r6 ⊢;go_wp2;go_ret2;exact⟨A'',c'',rfl,r6,(iI.alloc _ _).trans (jK.trans (hb.trans mU))⟩
end Go.Proofs.YtgdahmmlddfimaaGreatDoor
namespace Go.Proofs.YtgdahmmlddfimaaGreatDoor.Fp
def kt(d:Dy):Dy:=if mZ d then d else ju
def ml(d:Dy):Int:=if mZ d then 0 else 9
def yY{d:Dy}(h:mZ d):kt d=d:=a6 h
def B2{d:Dy}(h:mZ d):ml d=0:=a6 h
def Fs{d:Dy}(h:¬mZ d):kt d=ju:=aZ h
def DF{d:Dy}(h:¬mZ d):ml d=9:=aZ h
def IL{d:Dy}(h:d.nn):(kt d).ij:=by
 by_cases hr:mZ d
 .rw [yY hr];exact⟨h,hr⟩
 .rw [Fs hr];exact rU
def PJ{a b:Dy}(ha:a.m≠0)(hb:b.m≠0):iL a b=iL b a:=by
 unfold iL;rw[aZ ha,aZ hb,aZ hb,aZ ha,Int.min_comm,Int.add_comm]
def Zn{a b:Dy}(ha:a.ij)(hb:b.ij)(a0:a.m≠0)(b0:b.m≠0){k:Int}(hk:min a.e b.e=k)(h1:4097<a.iw-k)(h2:1<a.iw-b.iw):¬mZ (iL a b):=by
 have hka:k<=a.e:= aC ;have Nc:k<=b.e:= aC ;have m1:=IF a0 hka;have m2:=IF b0 Nc;have ta:a.iw=iq a.m+a.e:=by unfold Dy.iw;rw[aZ a0]
 have tb:b.iw=iq b.m+b.e:=by unfold Dy.iw;rw[aZ b0]
 have ba:iq a.m<=4096:=by rcases ha.range with h|⟨h,_⟩;exact absurd h a0;exact h
 have jl:a.e≠k:= aC ;have xS:b.e=k:= aC ;have oa:a.jO k%2=0:=by
  unfold Dy.jO;obtain⟨j,hj⟩:∃ j,(a.e-k).toNat=j+1:=⟨(a.e-k).toNat-1,aC⟩
  rw[hj,bD,<-bC,fR]
 have ob:b.jO k%2=1:=by
  unfold Dy.jO;rw[xS,show(k-k).toNat=0 by omega,cE,b8];rcases hb.canon with⟨h,_,_⟩|h
  .exact absurd h b0
  .exact h
 have pa:=yi a0 k;obtain⟨p,hp⟩:∃ p,iq (a.jO k)=p+2:=⟨iq (a.jO k)-2,aC⟩
 have l1:=tV (aC:a.jO k≠0);have l2:=sf (b.jO k);rw[hp,(aC:p+2-1=p+1),bD]at l1;have l3:2^iq (b.jO k)<=2^p:=bK aE aC;have hz:(a.num k+b.num k).natAbs%2=1/\2^p<=(a.num k+b.num k).natAbs:=by
  unfold Dy.num;generalize a.jO k=x at *
  generalize b.jO k=y at *
  generalize 2^p=P at *
  split<;>split<;>omega
 unfold iL;rw[aZ a0,aZ b0,hk];unfold j8;generalize (a.num k+b.num k).natAbs=z at *
 generalize decide (a.num k+b.num k<0)=s at *
 have hc:canon s z k=⟨s,z,k⟩:=Dy.nn.B0 (d:=⟨s,z,k⟩) (.inr hz.1);rw[hc];have hb:=wm.2 hz.2;rintro(h|⟨h,_⟩)
 .simp only at h;omega
 .simp only at h;omega
def amd{a b:Dy}(ha:a.ij)(hb:b.ij)(a0:a.m≠0)(b0:b.m≠0){k:Int}(hk:min a.e b.e=k)(h1:4097<max a.iw b.iw-k)(h2:1<a.iw-b.iw\/1<b.iw-a.iw):¬mZ (iL a b):=by
 rcases h2 with h2|h2
 .exact Zn ha hb a0 b0 hk aC h2
 .rw [PJ a0 b0];exact Zn (k:=k) hb ha b0 a0 (by rw[Int.min_comm];exact hk) aC h2
def amf{a b:Dy}(ha:a.ij)(hb:b.ij)(a0:a.m≠0)(b0:b.m≠0){k:Int}(hk:min a.e b.e=k)(h:¬(4097<max a.iw b.iw-k/\(1<a.iw-b.iw\/1<b.iw-a.iw))):
 iq (a.m*2^(a.e-k).toNat)<=4097/\iq (b.m*2^(b.e-k).toNat)<=4097:=by
 have ta:a.iw=iq a.m+a.e:=by unfold Dy.iw;rw[aZ a0]
 have tb:b.iw=iq b.m+b.e:=by unfold Dy.iw;rw[aZ b0]
 have ba:iq a.m<=4096:=by rcases ha.range with h|⟨h,_⟩;exact absurd h a0;exact h
 have bb:iq b.m<=4096:=by rcases hb.range with h|⟨h,_⟩;exact absurd h b0;exact h
 rw[q7 a0,q7 b0];omega
def abq{x y n:Nat}(hx:iq x<=n)(hy:iq y<=n):iq (x+y)<=n+1:=by
 rw[mj]at *
 rw[bD];omega
def jP(m:Nat)(e:Int)(p:Nat):Nat:=(max (max ((iq m:Int)-p) (-16384-e)) 0).toNat
def lp(m:Nat)(e:Int)(more:Bool)(p:Nat)(out:Bool):Nat:=
 m/2^jP m e p+if out=true/\(more=true\/m%2^jP m e p≠0)then 1 else 0
def mI(m:Nat)(e:Int)(more:Bool)(p:Nat)(out:Bool):Bool:=
 decide (lp m e more p out≠0)&&decide (16384<(iq (lp m e more p out):Int)+e+jP m e p)
def kg(neg:Bool)(m:Nat)(e:Int)(more:Bool)(p:Nat)(up:Bool):Dy:=
 if mI m e more p (neg != up)=true then(if(neg != up)=true then ju else canon neg (2^p-1) (16384-p))else canon neg (lp m e more p (neg != up)) (e+jP m e p)
def jR(neg:Bool)(m:Nat)(e:Int)(more:Bool)(p:Nat)(up:Bool):Int:=
 if(mI m e more p (neg != up)&&(neg != up))=true then 9 else 0
def adf{N d k:Nat}:(N/2^d%2^k≠0\/N%2^d≠0)↔N%2^(d+k)≠0:=by
 have e1:N%2^(d+k)=N%2^d+2^d*(N/2^d%2^k):=by rw[bt,Nat.mod_mul]
 have hp:0<2^d:=bw aE;rw[e1];constructor
 .rintro (h|h)
  .have:=fP hp (dR h);omega
  .omega
 .intro h;by_cases h1:N%2^d=0
  .left;intro h2;rw[h1,h2,cF]at h;exact h rfl
  .exact .inr h1
def ac0{N:Nat}{E:Int}{more:Bool}{d p:Nat}(hb:p<iq (N/2^d)):
 jP (N/2^d) (E+d) p+d=jP N E p /\
 ∀ out,lp (N/2^d) (E+d) (more||decide (N%2^d≠0)) p out=lp N E more p out:=by
 have hN:d<iq N:=by
  apply bU;intro h;have h1:N<2^d:=mj.1 aC;rw[cW h1]at hb;simp[iq]at hb
 have MX:iq (N/2^d)+d=iq N:=by
  have h0:N/2^d≠0:=by intro h;rw[h]at hb;simp[iq]at hb
  have h1:=tV h0;have h2:=sf (N/2^d);obtain⟨j,hj⟩:∃ j,iq (N/2^d)=j+1:=⟨iq (N/2^d)-1,aC⟩
  rw[hj]at h1 h2 ⊢;rw[eG,dc (bw aE),<-bt]at h1;rw[cD (bw aE),<-bt]at h2;have:=yR (k:=j+d) h1 (by rw[(aC:j+d+1=j+1+d)];exact h2);omega
 have hk:jP (N/2^d) (E+d) p+d=jP N E p:=by
  unfold jP;omega
 refine⟨hk,λout=>?_⟩;unfold lp;rw[<-hk];generalize jP (N/2^d) (E+d) p=k;have M0:=@adf N d k;rw[(aC:k+d=d+k),dt,<-bt];congr 1;have:((more||decide (N%2^d≠0))=true\/N/2^d%2^k≠0)↔(more=true\/N%2^(d+k)≠0):=by
  rw[<-M0];simp only[ev,cC];constructor
  .rintro ((h|h)|h)
   .exact .inl h
   .exact .inr (.inr h)
   .exact .inr (.inl h)
  .rintro (h|h|h)
   .exact .inl (.inl h)
   .exact .inr h
   .exact .inl (.inr h)
 by_cases ho:out=true
 .simp only[ho,true_and,this]
 .rw [aZ (λh=>ho h.1),aZ (λh=>ho h.1)]
def IN{N:Nat}{E:Int}{more:Bool}{d p:Nat}(neg up:Bool)(hb:p<iq (N/2^d)):
 kg neg (N/2^d) (E+d) (more||decide (N%2^d≠0)) p up=kg neg N E more p up /\
 jR neg (N/2^d) (E+d) (more||decide (N%2^d≠0)) p up=jR neg N E more p up:=by
 obtain⟨hk,hq⟩:=ac0 (more:=more) (E:=E) hb;have hq:=hq (neg != up);have e1:E+(d:Int)+(jP (N/2^d) (E+d) p:Int)=E+(jP N E p:Int):= aC ;have e2:(iq (lp N E more p (neg != up)):Int)+(E+(d:Int))+(jP (N/2^d) (E+d) p:Int)=(iq (lp N E more p (neg != up)):Int)+E+(jP N E p:Int):= aC ;have ho:mI (N/2^d) (E+d) (more||decide (N%2^d≠0)) p (neg != up)=mI N E more p (neg != up):=by
  unfold mI;rw[hq,e2]
 unfold kg jR;rw[hq,ho,e1];exact⟨rfl,rfl⟩
def LN(s:Bool)(m:Nat)(e:Int)(j:Nat):canon s (m*2^j) (e-j)=canon s m e:=by
 by_cases h0:m=0
 .subst h0;rw[cJ];rfl
 .have h1:m*2^j≠0:=dD h0 (ej (bw aE));obtain⟨q,hq,he⟩:=B3 h0;have hc:jN (m*2^j)=jN m+j:=by
   conv=>lhs;rw[he,bC,<-bt]
   exact yZ hq _
  unfold canon;rw[aZ h1,aZ h0,hc,bt,bG (2^jN m),<-dt,dL _ (bw aE)];rw[(aC:e-(j:Int)+((jN m+j:Nat):Int)=e+(jN m:Int))]
def acZ(neg up:Bool)(N:Nat)(E:Int)(j p:Nat)(h0:N≠0):
 kg neg (N*2^j) (E-j) false p up=kg neg N E false p up/\jR neg (N*2^j) (E-j) false p up=jR neg N E false p up:=by
 have MX:=q7 h0 j;by_cases hk:jP N E p=0
 .
  have wZ:jP (N*2^j) (E-j) p<=j:=by unfold jP at hk ⊢;rw[MX];omega
  obtain⟨i,hi⟩:∃ i,j=i+jP (N*2^j) (E-j) p:=⟨j-jP (N*2^j) (E-j) p,aC⟩
  generalize hK:jP (N*2^j) (E-j) p=k at *
  have hdiv:N*2^j/2^k=N*2^i:=by
   rw[hi,bt,<-bC,dL _ (bw aE)]
  have Nj:N*2^j%2^k=0:=by
   rw[hi,bt,<-bC];exact fR _ _
  have hq:∀ out,lp (N*2^j) (E-j) false p out=N*2^i:=λout=>by
   unfold lp;rw[hK,hdiv,Nj];simp
  have vY:∀ out,lp N E false p out=N:=λout=>by
   unfold lp;rw[hk];simp[dE]
  have jl:N*2^i≠0:=dD h0 (ej (bw aE));have ho:∀ out,mI (N*2^j) (E-j) false p out=mI N E false p out:=λout=>by
   unfold mI;rw[hq,vY,hK,hk,q7 h0 i];simp only[cU,jl,h0,eu,fD,cY];rw[aoB];omega
  unfold kg jR;rw[ho,hq,vY,hK,hk];rw[(aC:E-(j:Int)+k=E+((0:Nat):Int)-(i:Int)),LN];exact⟨rfl,rfl⟩
 .have wZ:jP (N*2^j) (E-j) p=jP N E p+j:=by unfold jP at hk ⊢;rw[MX];omega
  have hq:∀ out,lp (N*2^j) (E-j) false p out=lp N E false p out:=λout=>by
   unfold lp;rw[wZ,bt,bG (2^jP N E p),<-dt,dL _ (bw aE),bG N,Nat.mul_mod_mul_left];have:(2^j*(N%2^jP N E p)≠0)↔(N%2^jP N E p≠0):=by
    rw[cU,cU,Nat.mul_eq_zero];have:=bw (n:=j) (aE:0<2);omega
   simp only[this]
  have ho:∀ out,mI (N*2^j) (E-j) false p out=mI N E false p out:=λout=>by
   unfold mI;rw[hq,wZ];congr 2;rw[eq_iff_iff];omega
  unfold kg jR;rw[ho,hq,wZ];rw[(aC:E-(j:Int)+((jP N E p+j:Nat):Int)=E+(jP N E p:Int))];exact⟨rfl,rfl⟩
def kf(d:Dy)(p:Nat)(up:Bool):Dy:=kg d.neg d.m d.e false p up
def jS(d:Dy)(p:Nat)(up:Bool):Int:=jR d.neg d.m d.e false p up
def XX(s up:Bool)(m:Nat)(e:Int)(p:Nat)(h0:m≠0):
 kf (canon s m e) p up=kg s m e false p up/\jS (canon s m e) p up=jR s m e false p up:=by
 have hm:=FD h0;have hq:m/2^jN m≠0:=by have:=Ez h0;omega
 have h:=acZ s up (m/2^jN m) (e+jN m) (jN m) p hq;rw[hm,(aC:e+(jN m:Int)-(jN m:Int)=e)]at h;unfold kf jS canon;rw[aZ h0];exact⟨h.1.symm,h.2.symm⟩
def BZ{s:Bool}{m:Nat}{e:Int}(h0:m≠0):(iq (canon s m e).m:Int)+(canon s m e).e=iq m+e/\e<=(canon s m e).e/\(canon s m e).m≠0/\iq (canon s m e).m<=iq m:=by
 have hm:=FD h0;have hq:m/2^jN m≠0:=by have:=Ez h0;omega
 have h:=q7 hq (jN m);rw[hm]at h;unfold canon;rw[aZ h0];simp only;exact⟨aC,aC,hq,aC⟩
def Sc(m:Nat)(e:Int)(p:Nat):m/2^jP m e p<2^p:=by
 rw[cD (bw aE),<-bt];refine mj.1 ?_;unfold jP;omega
def acx{s:Bool}{q p:Nat}{e:Int}(h:q<=2^p)(hp:1<=p):iq (canon s q e).m<=p:=by
 by_cases h0:q=0
 .subst h0;exact bV _
 .by_cases h1:q=2^p
  .have hc:jN q=p:=by rw[h1];have:=yZ (m:=1) rfl p;rwa[bZ]at this
   unfold canon;rw[aZ h0,hc,h1,Nat.div_self (bw aE)];exact bk (mj.2 (show 1<2^1 by decide)) hp
  .exact bk (BZ h0).2.2.2 (mj.2 aC)
def R2(m:Nat)(e:Int)(more:Bool)(p:Nat)(out:Bool):lp m e more p out<=2^p:=by
 have:=Sc m e p;unfold lp;split<;>omega
def tp(neg:Bool)(m:Nat)(e:Int)(more:Bool)(p:Nat)(up:Bool)(hp:1<=p)(ig:p<=4096):(kg neg m e more p up).ij:=by
 unfold kg;by_cases ho:mI m e more p (neg != up)=true
 .rw [a6 ho];by_cases hn:(neg != up)=true
  .rw [a6 hn];exact rU
  .rw [aZ hn];have xf:2<=2^p:=by
    have:=bK (n:=2) aE hp;omega
   have h0:2^p-1≠0:= aC ;have hb:iq (2^p-1)=p:=by
    obtain⟨j,rfl⟩:∃ j,p=j+1:=⟨p-1,aC⟩
    have h2:2^(j+1)=2^j*2:=bD _ _;have h3:=bw (n:=j) (aE:0<2);exact yR aC aC 
   obtain⟨h1,h2,h3,h4⟩:=BZ (s:=neg) (e:=(16384:Int)-p) h0;have h5:=o0 h3;exact⟨tl _ _ _,.inr ⟨aC,aC,aC,aC⟩⟩
 .rw [aZ ho];refine⟨tl _ _ _,?_⟩;by_cases h0:lp m e more p (neg != up)=0
  .rw [h0];exact .inl rfl
  .have hq:=acx (s:=neg) (e:=e+(jP m e p:Int)) (R2 m e more p (neg != up)) hp;obtain⟨h1,h2,h3,h4⟩:=BZ (s:=neg) (e:=e+(jP m e p:Int)) h0;have h5:=o0 h3;have h6:-16384<=e+(jP m e p:Int):=by unfold jP;omega
   unfold mI at ho;simp only[cU,h0,eu,fD,cY,cC]at ho;exact .inr ⟨aC,aC,aC,aC⟩
def Fx{neg:Bool}{m:Nat}{e:Int}{more:Bool}{p:Nat}{up:Bool}:jR neg m e more p up=0↔¬(mI m e more p (neg != up)=true/\(neg != up)=true):=by
 unfold jR;cases mI m e more p (neg != up)<;>cases(neg != up)<;>simp
def R3(neg:Bool)(m:Nat)(e:Int)(more:Bool)(p:Nat)(h1:jR neg m e more p false=0)(h2:jR neg m e more p true=0):
 jj (kg neg m e more p false) (kg neg m e more p true)<=0:=by
 have qa:¬mI m e more p true=true:=by
  cases neg
  .rw [Fx]at h2;simpa using h2
  .rw [Fx]at h1;simpa using h1
 have hle:lp m e more p false<=lp m e more p true:=by
  unfold lp;simp only[bE,false_and,bn];omega
 have lG:¬mI m e more p false=true:=by
  unfold mI at qa ⊢;intro h;apply qa;simp only[bF,cC]at h ⊢;have:=uH hle;exact⟨aC,aC⟩
 have key:∀ o:Bool,¬mI m e more p o=true:=λo=>by cases o;exact lG;exact qa
 unfold kg;rw[aZ (key _),aZ (key _)];rw[Ft (k:=e+(jP m e p:Int)) (Az (cv _)) (Az (cv _)),C2 (cv _),C2 (cv _)];rw[show(e+(jP m e p:Int)-(e+(jP m e p:Int))).toNat=0 by omega];simp only[cE,b8];unfold xI;cases neg
 .simp only[bE,bn,Bool.false_bne];split
  .decide
  .split<;>omega
 .simp only[bB,Bool.true_bne,ek,fk];split
  .decide
  .split<;>omega
def nf(b:Dy)(low:Int):Nat:=if low<=b.e then b.m*2^(b.e-low).toNat else b.m/2^(low-b.e).toNat
def nU(b:Dy)(low:Int):Bool:=decide (¬low<=b.e)&&decide (b.m%2^(low-b.e).toNat≠0)
def Zh{a b:Dy}(ha:a.nn)(hb:b.nn){K:Int}(h1:K<=a.e)(h2:K<=b.e):iL a b=j8 (a.num K+b.num K) K:=by
 refine St (k:=K) (yW ha hb) (tl _ _ _) (Ij (.inr h1) (.inr h2)) (Lu (cv _)) ?_;rw[KV (.inr h1) (.inr h2),Ou (cv _),show(K-K).toNat=0 by omega];simp
def KH{a b:Dy}(ha:a.nn)(hb:b.nn){K:Int}(h1:K<=a.e)(h2:K<=b.e)(s:Bool)(Z:Nat)(h0:Z≠0)(hz:a.num K+b.num K=if s then -(Z:Int)else(Z:Int))(p:Nat)(up:Bool):
 kf (iL a b) p up=kg s Z K false p up/\jS (iL a b) p up=jR s Z K false p up:=by
 have:iL a b=canon s Z K:=by rw[Zh ha hb h1 h2,hz,IJ]
 rw[this];exact XX s up Z K p h0
def Kd(d:Dy)(K:Int):d.num K=if d.neg then -(d.jO K:Int)else(d.jO K:Int):=rfl
section
variable {a b:Dy} {low:Int} {p:Nat}
def Ph(a0:a.m≠0)(b0:b.m≠0)(h1:low<=a.e)(h2:low<=a.iw-p-8)(h3:low<=b.e\/3<=a.iw-b.iw):
 ∃ (K:Int) (d:Nat),K<=a.e/\K<=b.e/\low=K+d/\a.jO K=a.m*2^(a.e-low).toNat*2^d/\nf b low=b.jO K/2^d/\(nU b low=decide (b.jO K%2^d≠0)) /\
  (d=0\/(p+8<=iq (a.m*2^(a.e-low).toNat)/\iq (b.jO K/2^d)+3<=iq (a.m*2^(a.e-low).toNat))):=by
 have ta:a.iw=iq a.m+a.e:=by unfold Dy.iw;rw[aZ a0]
 have tb:b.iw=iq b.m+b.e:=by unfold Dy.iw;rw[aZ b0]
 have hx:=q7 a0 (a.e-low).toNat
 by_cases h:low<=b.e
 .refine ⟨low,0,h1,h,aC,by unfold Dy.jO;simp,?_,?_,.inl rfl⟩
  .unfold nf Dy.jO;rw[a6 h];simp
  .unfold nU;simp[h,dE]
 .refine ⟨b.e,(low-b.e).toNat,aC,cv _,aC,?_,?_,?_,.inr ⟨aC,?_⟩⟩
  .unfold Dy.jO;rw[bC,<-bt];congr 2;omega
  .unfold nf Dy.jO;rw[aZ h];simp
  .unfold nU Dy.jO;simp[h]
  .have hm:b.jO b.e=b.m:=by unfold Dy.jO;simp
   rw[hm];have hd:iq (b.m/2^(low-b.e).toNat)<=iq b.m-(low-b.e).toNat:=by
    rw[mj,cD (bw aE),<-bt];exact mj.1 aC 
   have:=h3.resolve_left h;omega
def akD(ha:a.nn)(hb:b.nn)(a0:a.m≠0)(b0:b.m≠0)(h1:low<=a.e)(h2:low<=a.iw-p-8)(h3:low<=b.e\/3<=a.iw-b.iw)(hs:a.neg=b.neg)(up:Bool):
 kg a.neg (a.m*2^(a.e-low).toNat+nf b low) low (nU b low) p up=kf (iL a b) p up/\jR a.neg (a.m*2^(a.e-low).toNat+nf b low) low (nU b low) p up=jS (iL a b) p up:=by
 obtain⟨K,d,k1,k2,rfl,hx,hy,hl,hd⟩:=Ph (p:=p) a0 b0 h1 h2 h3;generalize a.m*2^(a.e-(K+d)).toNat=x at *
 have ma:=yi a0 K;have mb:=yi b0 K;obtain⟨r1,r2⟩:=KH ha hb k1 k2 a.neg (a.jO K+b.jO K) aC (by
  rw[Kd a,Kd b,<-hs];cases a.neg<;>simp<;>omega) p up
 rw[r1,r2,hy,hl];have e1:(a.jO K+b.jO K)/2^d=x+b.jO K/2^d:=by
  rw[hx,bG x,aoq (bw aE)]
 have e2:(a.jO K+b.jO K)%2^d=b.jO K%2^d:=by
  rw[hx,bG x,fU]
 rcases hd with rfl|⟨Ba,Bb⟩
 .simp only[cE,fF,dE]at e1 ⊢;rw[<-e1];have:K+((0:Nat):Int)=K:= aC ;rw[this];simp
 .have hb:p<iq ((a.jO K+b.jO K)/2^d):=by
   rw[e1];have:=uH (aC:x<=x+b.jO K/2^d);omega
  have h:=IN (E:=K) (more:=false) a.neg up hb;rw[e1,e2,aoE]at h;exact h
def ama{x N D:Nat}(hD:0<D)(h:N<=x*D):(x*D-N)/D=x-(N/D+if N%D≠0 then 1 else 0)/\((x*D-N)%D≠0↔N%D≠0)/\N/D+(if N%D≠0 then 1 else 0)<=x:=by
 have hN:=cI N D;have hr:=bH N hD;generalize N/D=q at *
 generalize N%D=r at *
 by_cases h0:r=0
 .subst h0;simp only[cU,aor,bn,bR]at hN ⊢;have hq:q<=x:=by
   apply bU;intro h';have:=bL D (aC:x+1<=q);rw[bX,bG q]at this;omega
  have e:x*D-N=(x-q)*D:=by rw[Nat.sub_mul,<-hN,bG q]
  rw[e,dL _ hD,fR];exact⟨rfl,aH,hq⟩
 .have hq:q+1<=x:=by
   apply bU;intro h';have:=bL D (aC:x<=q);rw[bG q]at this;omega
  have e:x*D-N=(D-r)+D*(x-(q+1)):=by
   have h1:D*(x-(q+1))=D*x-D*(q+1):=Nat.mul_sub _ _ _;have h2:D*(q+1)<=D*x:=cL _ hq;rw[bO,b8]at h1 h2;rw[bG x];omega
  have iB:D-r<D:= aC ;rw[e,e9 _ _ hD,cW iB,dY,ca iB];simp only[cU,h0,eu,bB];exact⟨aC,⟨λ_=>trivial,λ_=> aC⟩,hq⟩
def akC(ha:a.nn)(hb:b.nn)(a0:a.m≠0)(b0:b.m≠0)(h1:low<=a.e)(h2:low<=a.iw-p-8)(h3:low<=b.e\/3<=a.iw-b.iw)(hs:a.neg≠b.neg)(up:Bool):
  (a.m*2^(a.e-low).toNat<nf b low+(if nU b low=true then 1 else 0) ->
   kg (!a.neg) (nf b low+(if nU b low=true then 1 else 0)-a.m*2^(a.e-low).toNat) low false p up=kf (iL a b) p up/\jR (!a.neg) (nf b low+(if nU b low=true then 1 else 0)-a.m*2^(a.e-low).toNat) low false p up=jS (iL a b) p up) /\
  (nf b low+(if nU b low=true then 1 else 0)<=a.m*2^(a.e-low).toNat ->
   (a.m*2^(a.e-low).toNat-(nf b low+(if nU b low=true then 1 else 0))=0/\nU b low=false->iL a b=ju) /\
   (¬(a.m*2^(a.e-low).toNat-(nf b low+(if nU b low=true then 1 else 0))=0/\nU b low=false) ->
    kg a.neg (a.m*2^(a.e-low).toNat-(nf b low+(if nU b low=true then 1 else 0))) low (nU b low) p up=kf (iL a b) p up/\jR a.neg (a.m*2^(a.e-low).toNat-(nf b low+(if nU b low=true then 1 else 0))) low (nU b low) p up=jS (iL a b) p up)):=by
 obtain⟨K,d,k1,k2,rfl,hx,hy,hl,hd⟩:=Ph (p:=p) a0 b0 h1 h2 h3;generalize a.m*2^(a.e-(K+d)).toNat=x at *
 have ma:=yi a0 K;have mb:=yi b0 K;have JG:a.num K+b.num K=if a.neg then(b.jO K:Int)-a.jO K else(a.jO K:Int)-b.jO K:=by
  rw[Kd a,Kd b];cases h:a.neg<;>cases h':b.neg<;>simp[h,h']at hs ⊢ <;> omega
 rw[hy,hl];rcases hd with rfl|⟨Ba,Bb⟩
 .
  rw[cE,b8]at hx;have e0:K+((0:Nat):Int)=K:= aC ;simp only[cE,fF,dE,cU,aor,gO,bE,bn,bR,e0,fw];refine⟨λiB=>?_,λhle=>⟨λhz=>?_,λhz=>?_⟩⟩
  .obtain ⟨r1,r2⟩:=KH ha hb k1 k2 (!a.neg) (b.jO K-x) aC (by
    rw[JG,hx];cases a.neg<;>simp<;>omega) p up
   exact⟨r1.symm,r2.symm⟩
  .rw [Zh ha hb k1 k2,JG,hx];have:x=b.jO K:= aC ;rw[this];cases a.neg<;>simp[j8,canon,ju]
  .obtain ⟨r1,r2⟩:=KH ha hb k1 k2 a.neg (x-b.jO K) aC (by
    rw[JG,hx];cases a.neg<;>simp<;>omega) p up
   exact⟨r1.symm,r2.symm⟩
 .
  have hD:=bw (n:=d) (aE:0<2);have oz:x≠0:=by intro h;rw[h]at Ba;simp[iq]at Ba
  obtain⟨j,hj⟩:∃ j,iq x=j+3:=⟨iq x-3,aC⟩
  have lW:=tV oz;rw[hj,(aC:j+3-1=j+2),bt]at lW;have UZ:b.jO K/2^d<2^j:=mj.1 aC;have hle:b.jO K<=x*2^d:=by
   have h5:=cI (b.jO K) (2^d);have h6:=bH (b.jO K) hD;have h7:2^d*(b.jO K/2^d+1)<=2^d*x:=cL _ aC;rw[bO,b8,bG _ x]at h7;omega
  obtain⟨e1,e2,e3⟩:=ama hD hle;have hc:(if decide (b.jO K%2^d≠0)=true then 1 else 0)=(if b.jO K%2^d≠0 then 1 else 0):=by simp only[cC]
  rw[hc];have y5:p<iq (x-(b.jO K/2^d+if b.jO K%2^d≠0 then 1 else 0)):=by
   have h8:2^(j+1)<=x-(b.jO K/2^d+if b.jO K%2^d≠0 then 1 else 0):=by
    rw[bD];have h9:2^j*2^2<=x:=lW;have qw:=bw (n:=j) (aE:0<2);split<;>omega
   have:=wm.2 h8;omega
  refine⟨λiB=> aC,λ_=>⟨λhz=>?_,λ_=>?_⟩⟩
  .exfalso;rw[hz.1]at y5;simp[iq]at y5
  .obtain ⟨r1,r2⟩:=KH ha hb k1 k2 a.neg (a.jO K-b.jO K) (by
    intro h;rw[<-hx,h,Nat.zero_div]at e1;rw[<-e1]at y5;simp[iq]at y5) (by
    rw[JG];cases a.neg<;>simp<;>omega) p up
   rw[r1,r2,hx];rw[<-e1]at y5 ⊢;have h:=IN (E:=K) (more:=false) a.neg up y5;rw[aoE]at h;have e4:decide ((x*2^d-b.jO K)%2^d≠0)=decide (b.jO K%2^d≠0):=aoB.2 e2;rw[e4]at h;exact h
end
def jk(m:Nat)(e:Int)(p:Nat):Int:=max (e+iq m-p) (-16384)
def od(m:Nat)(e:Int)(more:Bool)(p:Nat)(up:Bool):Nat:=
 if jk m e p<=e then m*2^(e-jk m e p).toNat else m/2^(jk m e p-e).toNat+if(up&&(more||decide (m%2^(jk m e p-e).toNat≠0)))=true then 1 else 0
def R1{m:Nat}{e:Int}{more:Bool}{p:Nat}(up:Bool)(h0:m≠0)(hm:more=true->p<iq m)(hp:1<=p):
 (iq (od m e more p up):Int)+jk m e p<=16384/\kg false m e more p up=canon false (od m e more p up) (jk m e p)/\jR false m e more p up=0 \/
 16384<(iq (od m e more p up):Int)+jk m e p/\((up=true/\kg false m e more p up=ju/\jR false m e more p up=9)\/(up=false/\kg false m e more p up=canon false (2^p-1) (16384-p)/\jR false m e more p up=0)):=by
 have qa:(false != up)=up:=by cases up<;>rfl
 by_cases hU:jk m e p<=e
 .
  have hmf:more=false:=by
   cases Nk:more with
   |false=>rfl
   |true=>have:=hm Nk;unfold jk at hU;omega
  subst hmf;have hK:jP m e p=0:=by unfold jk at hU;unfold jP;omega
  have hQ:lp m e false p up=m:=by unfold lp;rw[hK];simp[dE]
  have hP:od m e false p up=m*2^(e-jk m e p).toNat:=by unfold od;rw[a6 hU]
  have hb:iq (od m e false p up)=iq m+(e-jk m e p).toNat:=by rw[hP];exact q7 h0 _
  have hc:canon false (od m e false p up) (jk m e p)=canon false m e:=by
   rw[hP];have:=LN false m e (e-jk m e p).toNat
   rwa[(aC:e-((e-jk m e p).toNat:Int)=jk m e p)]at this
  have hO:mI m e false p up=decide (16384<(iq m:Int)+e):=by
   unfold mI;rw[hQ,hK];simp[h0]
  by_cases ue:16384<(iq m:Int)+e
  .refine .inr ⟨aC,?_⟩;unfold kg jR;rw[qa,hO,a7 ue];cases up
   .exact .inr ⟨rfl,rfl,rfl⟩
   .exact .inl ⟨rfl,rfl,rfl⟩
  .refine .inl ⟨aC,?_,?_⟩
   .unfold kg;rw[qa,hO,bc ue,aZ aE,hQ,hK,hc];simp
   .unfold jR;rw[qa,hO,bc ue];simp
 .have hK:jP m e p=(jk m e p-e).toNat:=by unfold jk at hU ⊢;unfold jP;omega
  have hQ:lp m e more p up=od m e more p up:=by
   unfold lp od;rw[aZ hU,hK];congr 1;cases up<;>cases more<;>simp
  have heK:e+(jP m e p:Int)=jk m e p:=by rw[hK];omega
  have jl:16384<(iq (od m e more p up):Int)+jk m e p->od m e more p up≠0:=by
   intro h hz;have qM:m/2^(jk m e p-e).toNat=0:=by
    unfold od at hz;rw[aZ hU]at hz;exact(Nat.add_eq_zero_iff.1 hz).1
   have iB:m<2^(jk m e p-e).toNat:=by
    rcases Nat.div_eq_zero_iff.1 qM with h|h
    .exact absurd h (ej (bw aE))
    .exact h
   have:=mj.2 iB;rw[hz,sJ]at h;have tG:=o0 h0;unfold jk at h hU this;omega
  have hO:mI m e more p up=decide (16384<(iq (od m e more p up):Int)+jk m e p):=by
   unfold mI;rw[hQ,show(iq (od m e more p up):Int)+e+(jP m e p:Int)=(iq (od m e more p up):Int)+jk m e p by omega];by_cases ue:16384<(iq (od m e more p up):Int)+jk m e p
   .simp [jl ue]
   .simp [ue]
  by_cases ue:16384<(iq (od m e more p up):Int)+jk m e p
  .refine .inr ⟨ue,?_⟩;unfold kg jR;rw[qa,hO,a7 ue];cases up
   .exact .inr ⟨rfl,rfl,rfl⟩
   .exact .inl ⟨rfl,rfl,rfl⟩
  .refine .inl ⟨aC,?_,?_⟩
   .unfold kg;rw[qa,hO,bc ue,aZ aE,hQ,heK]
   .unfold jR;rw[qa,hO,bc ue];simp
def R0{m:Nat}{e:Int}{more:Bool}{p:Nat}{up:Bool}(h0:m≠0):iq (od m e more p up)<=p+1:=by
 unfold od;split
 .rename_i h;rw[q7 h0];unfold jk at h ⊢;omega
 .rename_i h;have h1:m/2^(jk m e p-e).toNat<2^p:=by
   rw[cD (bw aE),<-bt];refine mj.1 ?_;unfold jk at h ⊢;omega
  refine mj.2 ?_;rw[bD];have:0<2^p:=bw aE;split<;>omega
def py{m k:Nat}(h:iq m<=32*k):(gY m).length<=k:=by
 refine wk ?_;rw[sF];exact mj.1 h
def BX{m k:Nat}(h:(gY m).length<=k):iq m<=32*k:=by
 have:=Es h;rw[sF]at this;exact mj.2 this
def Se{m n:Nat}(h:iq m<=n):m/2^n=0/\m%2^n=m:=by
 have:=mj.1 h;exact⟨cW this,ca this⟩
def V0(m n:Nat):(kE (m/2^n*2^n) m != 0)=decide (m%2^n≠0):=by
 have h:=cI m (2^n);rw[bG]at h;unfold kE;by_cases h0:m%2^n=0
 .rw [aZ aC,aZ aC];simp[h0]
 .rw [a6 aC];simp[h0]
def R5(neg:Bool)(m:Nat)(e:Int)(more:Bool)(p:Nat)(up:Bool):
 jR neg m e more p up=jR false m e more p (up != neg) /\
 (jR false m e more p (up != neg)=0->neg=true->jt (kg false m e more p (up != neg))=kg neg m e more p up) /\
 ((jR false m e more p (up != neg)≠0\/neg=false)->kg false m e more p (up != neg)=kg neg m e more p up):=by
 have qa:(false != (up != neg))=(neg != up):=by cases up<;>cases neg<;>rfl
 have hE:jR neg m e more p up=jR false m e more p (up != neg):=by unfold jR;rw[qa]
 refine⟨hE,λh hn=>?_,λh=>?_⟩
 .have h':=Fx.1 h;rw[qa]at h';have neg_canon:∀ q u,jt (canon false q u)=canon true q u:=by
   intro q u;unfold canon jt;by_cases hq:q=0
   .simp [hq]
   .rw [aZ hq,aZ hq];have:=Ez hq;have h0:q/2^jN q≠0:= aC ;simp[h0]
  subst hn;unfold kg;rw[qa];by_cases ho:mI m e more p (true != up)=true
  .have hu:(true != up)=false:=by
    cases hq:(true != up)with
    |false=>rfl
    |true=>exact absurd ⟨ho,hq⟩ h'
   rw[a6 ho,a6 ho,hu];simp only[bE,bn];exact neg_canon _ _
  .rw [aZ ho,aZ ho];exact neg_canon _ _
 .rcases h with h|h
  .have h1:mI m e more p (neg != up)=true/\(neg != up)=true:=by
    by_cases q:mI m e more p (neg != up)=true/\(neg != up)=true
    .exact q
    .exact absurd (Fx.2 (by rw[qa];exact q)) h
   unfold kg;rw[qa,a6 h1.1,a6 h1.2,a6 h1.1,a6 h1.2]
  .subst h;cases up<;>rfl
def jo(a b:Dy)(p:Nat):Int:=if a.iw-b.iw<=2 then min (min a.e (a.iw-p-8)) b.e else min a.e (a.iw-p-8)
def oh(a b:Dy)(p:Nat):Nat:=a.m*2^(a.e-jo a b p).toNat
def nd(a b:Dy)(p:Nat):Nat:=nf b (jo a b p)+if(a.neg != b.neg&&nU b (jo a b p))=true then 1 else 0
def pU(a b:Dy)(p:Nat):Bool:=(a.neg != b.neg)&&decide (oh a b p<nd a b p)
def mo(a b:Dy)(p:Nat):Nat:=if a.neg=b.neg then oh a b p+nd a b p else if oh a b p<nd a b p then nd a b p-oh a b p else oh a b p-nd a b p
def nD(a b:Dy)(p:Nat):Bool:=nU b (jo a b p) && !pU a b p
def Pa(a b:Dy)(p:Nat):jo a b p<=a.e/\jo a b p<=a.iw-p-8/\(jo a b p<=b.e\/3<=a.iw-b.iw):=by
 unfold jo;split<;>omega
def Ht{a:Dy}(a0:a.m≠0):a.iw=iq a.m+a.e:=by unfold Dy.iw;rw[aZ a0]
structure aar(a b:Dy)(p:Nat):Prop where
 lo:-17000<=jo a b p
 hi:jo a b p<=16384
 x:iq (oh a b p)<=4100
 x0:oh a b p≠0
 sh:(a.e-jo a b p).toNat<=60000
 sh2:(b.e-jo a b p).toNat<=60000
 sh3:(jo a b p-b.e).toNat<=60000
 y:iq (nf b (jo a b p))<=4100
 l:nU b (jo a b p)=true->p+8<=iq (oh a b p)/\iq (nf b (jo a b p))+3<=iq (oh a b p)
def KX{a b:Dy}{p:Nat}(ha:a.ij)(hb:b.ij)(a0:a.m≠0)(b0:b.m≠0)(ht:b.iw<=a.iw)(ig:p<=512):aar a b p:=by
 have ra:=ha.range.resolve_left a0;have rb:=hb.range.resolve_left b0;have ta:=Ht a0;have tb:=Ht b0;obtain⟨h1,h2,h3⟩:=Pa a b p;have hx:iq (oh a b p)=iq a.m+(a.e-jo a b p).toNat:=q7 a0 _;have D3:jo a b p=a.e\/jo a b p=a.iw-p-8\/(a.iw-b.iw<=2/\jo a b p=b.e):=by unfold jo;split<;>omega
 have hy:iq (nf b (jo a b p))<=iq (oh a b p):=by
  unfold nf;split
  .rw [q7 b0];omega
  .have:iq (b.m/2^(jo a b p-b.e).toNat)<=iq b.m-(jo a b p-b.e).toNat:=by
    rw[mj,cD (bw aE),<-bt];exact mj.1 aC 
   omega
 have pa:=o0 a0;have pb:=o0 b0;refine⟨aC,aC,aC,?_,aC,aC,aC,aC,λhl=>?_⟩
 .intro h;unfold oh at h;exact(dD a0 (ej (bw aE))) h
 .obtain ⟨K,d,k1,k2,k3,k4,k5,k6,k7⟩:=Ph (p:=p) a0 b0 h1 h2 h3;rcases k7 with rfl|⟨k7,k8⟩
  .rw [k6]at hl;simp[dE]at hl
  .rw [k5];exact⟨k7,k8⟩
def PK{a b:Dy}{p:Nat}(ha:a.ij)(hb:b.ij)(a0:a.m≠0)(b0:b.m≠0)(ht:b.iw<=a.iw)(ig:p<=512):
 iq (nd a b p)<=4101/\iq (mo a b p)<=4102/\(nD a b p=true->p<iq (mo a b p)):=by
 obtain⟨l1,l2,l3,l4,l5,l6,l7,l8,l9⟩:=KX ha hb a0 b0 ht ig;have hy:nd a b p<=nf b (jo a b p)+1:=by unfold nd;split<;>omega
 obtain⟨K,hK⟩:∃ K:Nat,K=4100:=⟨_,rfl⟩
 have g1:4101=K+1:= aC ;have g2:4102=K+2:= aC ;rw[g1,g2];rw[<-hK]at l3 l8;have hy4:nf b (jo a b p)<2^K:=mj.1 l8;have hx4:oh a b p<2^K:=mj.1 l3;have e1:(2:Nat)^(K+1)=2*2^K:=by rw[bD];omega
 have e2:(2:Nat)^(K+2)=4*2^K:=by rw[bt];omega
 generalize (2:Nat)^K=Z at *
 refine⟨mj.2 aC,mj.2 ?_,λhl=>?_⟩
 .unfold mo;split
  .omega
  .split<;>omega
 .unfold nD at hl;simp only[bF,dO]at hl;obtain⟨q1,q2⟩:=l9 hl.1;have hX:2^(iq (oh a b p)-1)<=oh a b p:=tV l4;rw[wm];have hY:nf b (jo a b p)<2^(iq (oh a b p)-3):=mj.1 aC;have e3:(2:Nat)^(iq (oh a b p)-1)=4*2^(iq (oh a b p)-3):=by
   rw[(aC:iq (oh a b p)-1=(iq (oh a b p)-3)+2),bt];omega
  have hp:(2:Nat)^p<=2^(iq (oh a b p)-3):=bK aE aC;unfold mo;split
  .omega
  .rename_i hs;unfold pU at hl;rw[aZ (by
    have:=hl.2;simp[hs]at this;omega)]
   omega
def Zo{a b:Dy}{p:Nat}(ha:a.ij)(hb:b.ij)(a0:a.m≠0)(b0:b.m≠0)(up:Bool):
 (mo a b p=0/\nD a b p=false->iL a b=ju) /\
 (¬(mo a b p=0/\nD a b p=false)->kg (a.neg != pU a b p) (mo a b p) (jo a b p) (nD a b p) p up=kf (iL a b) p up/\jR (a.neg != pU a b p) (mo a b p) (jo a b p) (nD a b p) p up=jS (iL a b) p up):=by
 obtain⟨h1,h2,h3⟩:=Pa a b p;by_cases hs:a.neg=b.neg
 .have hn:(a.neg != b.neg)=false:=by rw[hs];simp
  have e1:pU a b p=false:=by unfold pU;rw[hn];rfl
  have e2:nD a b p=nU b (jo a b p):=by unfold nD;rw[e1];simp
  have e3:mo a b p=a.m*2^(a.e-jo a b p).toNat+nf b (jo a b p):=by unfold mo;rw[a6 hs];unfold oh nd;rw[hn];simp
  have hx:mo a b p≠0:=by
   rw[e3];have:=dD a0 (ej (bw (n:=(a.e-jo a b p).toNat) (show 0<2 by decide)));omega
  refine⟨λh=>absurd h.1 hx,λ_=>?_⟩;rw[e1,e2,e3];have:=akD ha.canon hb.canon a0 b0 h1 h2 h3 hs up;cases hA:a.neg<;>rw[hA]at this<;>exact this
 .have hn:(a.neg != b.neg)=true:=by simpa using hs
  have eY:nd a b p=nf b (jo a b p)+if nU b (jo a b p)=true then 1 else 0:=by unfold nd;rw[hn];simp
  obtain⟨r1,r2⟩:=akC (p:=p) ha.canon hb.canon a0 b0 h1 h2 h3 hs up;rw[<-eY]at r1 r2;change oh a b p<nd a b p->_ at r1;change nd a b p<=oh a b p->_ at r2;by_cases hc:oh a b p<nd a b p
  .have e1:pU a b p=true:=by unfold pU;rw[hn,a7 hc];rfl
   have e2:nD a b p=false:=by unfold nD;rw[e1];simp
   have e3:mo a b p=nd a b p-oh a b p:=by unfold mo;rw[aZ hs,a6 hc]
   rw[e1,e2,e3];refine⟨λh=> aC,λ_=>?_⟩;have:=r1 hc;cases hA:a.neg<;>rw[hA]at this<;>exact this
  .have e1:pU a b p=false:=by unfold pU;rw[hn,bc hc];rfl
   have e2:nD a b p=nU b (jo a b p):=by unfold nD;rw[e1];simp
   have e3:mo a b p=oh a b p-nd a b p:=by unfold mo;rw[aZ hs,aZ hc]
   rw[e1,e2,e3];obtain⟨q1,q2⟩:=r2 aC;refine⟨q1,λh=>?_⟩;have:=q2 h;cases hA:a.neg<;>rw[hA]at this<;>exact this
end Go.Proofs.YtgdahmmlddfimaaGreatDoor.Fp
namespace Go.Proofs.YtgdahmmlddfimaaGreatDoor
open Go.RowKit Fp
def abt(a b:Nat):iq (a*b)<=iq a+iq b:=by
 rw[mj,bt];exact Nat.mul_lt_mul'' (sf a) (sf b)
def aj4(a:Dy)(A:Option Addr)(c:Nat)(w:World)(h:Sl w A c (gY a.m))(ha:a.ij):
 Calls prog 74 #[DV a A c] w λe w'=>e = .returned (.bool true)/\iI w w':=
 KA a.neg A c (gY a.m) a.e w true h (by have:=ha.exp;omega) (by have:=ha.exp;omega) (by simp[ha.vN])
def aj1(a:Dy)(A:Option Addr)(c:Nat)(w:World)(h:Sl w A c (gY a.m)):
 Calls prog 157 #[DV a A c] w λe w'=>e = .returned (.int .i64 a.iM)/\iI w w':=by
 have:=aj0 a.neg A c (gY a.m) a.e w h (vD _);rw[kr]at this;exact this
def aj3(a:Dy)(A:Option Addr)(c:Nat)(w:World)(h:Sl w A c (gY a.m))(ha:Av a):
 Calls prog 158 #[DV a A c] w λe w'=>e = .returned (.int .i64 a.iw)/\iI w w':=by
 have:=aj2 a.neg A c (gY a.m) a.e w h (vD _) (by have:=ha.len;omega) (by have:=ha.lo;omega) (by have:=ha.hi;omega);rw[kr]at this;exact this
def acH(d:Dy)(A:Option Addr)(c:Nat)(w:World)(hs:Sl w A c (gY d.m))(hl:(gY d.m).length<=100000000)(mB:-10000000<=d.e)(lF:d.e<=10000000):
 Calls prog 222 #[DV d A c] w (yL w (kt d) (ml d)):=by
 by_cases hd:mZ d
 .rw [yY hd,B2 hd];exact RL d A c w hs hl mB lF hd
 .rw [Fs hd,DF hd];exact acI d A c w hs hl mB lF hd
def yV(s:Bool)(m:Nat)(e:Int){n:Nat}(hm:(gY m).length<=n):(gY (canon s m e).m).length<=n/\e<=max (canon s m e).e e/\((canon s m e).e<=max 0 (e+32*n))/\min 0 e<=(canon s m e).e:=by
 unfold canon;by_cases h0:m=0
 .rw [a6 h0];simp only[oB];exact⟨bV _,aC,aC,aC⟩
 .rw [aZ h0];have h1:jN m<32*n:=by
   have h1:=GZ h0;have h2:=Es hm;rw[sF]at h2;exact(aoG (aE:1<2)).1 (cz h1 h2)
  exact⟨bk (mV (bY _ _)) hm,aC,by simp only;omega,by simp only;omega⟩
def RB(s:Bool)(m:Nat)(e:Int)(A:Option Addr)(c:Nat)(w:World)(hs:Sl w A c (gY m))(hl:(gY m).length<=256)(mB:-1000000<=e)(lF:e<=1000000)(ua:Tb w):
 Calls prog 219 #[.bool s,.slice A (gY m).length c,.int .i64 e] w (xD w (canon s m e)):=by
 have:=IU s A c (gY m) e w hs aC (by have:=pV (gY m);unfold mR at this;omega) mB lF ua;rw[kr]at this;exact this
def WO{m:Nat}(h:m=0):(((gY m).length:Int)==0)=true:=by rw[h,oB];rfl
def aiX{m:Nat}(h:m≠0):(((gY m).length:Int)==0)=false:=by
 refine aU ?_;have:gY m≠[]:=λe=>h (VQ.1 e)
 have:=ez.2 this;omega
def anN(a b:Dy)(A B:Option Addr)(c d:Nat)(w:World)(_hs:Sl w A c (gY a.m))(hr:Sl w B d (gY b.m))(ua:Tb w)(hb:b.ij)(h0:a.m=0):
 Calls prog 164 #[DV a A c,DV b B d] w (yL w (kt (iL a b)) (ml (iL a b))):=by
 have Ed:iL a b=b:=by unfold iL;rw[a6 h0]
 rw[Ed,yY hb.range,B2 hb.range];have hl:=hb.len;obtain⟨mB,lF⟩:=hb.exp;have HC:=aoX (λw (h:Sl w B d (gY b.m)) (ht:Tb w)=>RB b.neg b.m b.e B d w h hl aC aC ht);rw[hb.canon.B0]at HC;have n0:=WO h0;clear Ed h0;have hE:=((iI.alloc w (.cells #[.bool b.neg,.slice B ((gY b.m).length) d,.int .i64 b.e] 31)).trans (iI.alloc (w.alloc (.cells #[.bool b.neg,.slice B ((gY b.m).length) d,.int .i64 b.e] 31)) (.cells #[.bool b.neg,.slice B ((gY b.m).length) d,.int .i64 b.e] 31))).trans (iI.alloc ((w.alloc (.cells #[.bool b.neg,.slice B ((gY b.m).length) d,.int .i64 b.e] 31)).alloc (.cells #[.bool b.neg,.slice B ((gY b.m).length) d,.int .i64 b.e] 31)) (.cells #[.bool false,.slice none 0 0,.int .i64 0] 31));have b1:=((jI.ur (W:=w) (g:=w.heap.size) aH b.neg B ((gY b.m).length) d b.e).alloc (.cells #[.bool b.neg,.slice B ((gY b.m).length) d,.int .i64 b.e] 31)).alloc (.cells #[.bool false,.slice none 0 0,.int .i64 0] 31);have b2:=(jI.ur (W:=(w.alloc (.cells #[.bool b.neg,.slice B ((gY b.m).length) d,.int .i64 b.e] 31))) (g:=w.heap.size+1) aH b.neg B ((gY b.m).length) d b.e).alloc (.cells #[.bool false,.slice none 0 0,.int .i64 0] 31);have b3:=jI.ur (W:=((w.alloc (.cells #[.bool b.neg,.slice B ((gY b.m).length) d,.int .i64 b.e] 31)).alloc (.cells #[.bool b.neg,.slice B ((gY b.m).length) d,.int .i64 b.e] 31))) (g:=w.heap.size+2) aH false none 0 0 0;replace hr:=hr.below hE;replace ua:=ua.below hE;go_enter func164,ntmps164;go_wp2_with fail
 (with_reducible refine(HC.out _ hr ua).mono ?_)
 rintro r w1 ⟨A_h4,c_h4,rfl,h4,hb⟩;replace hE:=hE.trans hb;replace hr:=hr.below hb;replace ua:=ua.below hb;replace b1:=b1.ext hb;replace b2:=b2.ext hb;replace b3:=b3.ext hb;clear hb;have aoe:=b3.c0;have yb30:=b3.fr 0;have aof:=b3.c1;have yb31:=b3.fr 1;have aog:=b3.c2;have yb32:=b3.fr 2;go_wp2;exact DK (d:=b) rfl rfl rfl rfl (b3.set _ _ _ _ _) rfl (b3.vv h4 _ _ _ _ _) (jI.uA hE aC _ _ _ _ _)
def adB(a:Dy)(A:Option Addr)(c:Nat)(w:World)(h:Sl w A c (gY a.m))(ha:a.ij):
 Calls prog 185 #[DV a A c] w λe w'=>e = .returned (.int .i64 a.iw)/\iI w w':=by
 have:=L7 a.neg A c (gY a.m) a.e w h ha.vN;rw[kr]at this;exact this
set_option maxRecDepth 100000 in
set_option maxHeartbeats 8000000 in
def adu(a : Dy)(A : Option Addr)(c : Nat)(w : World)(hs : Sl w A c (gY a.m))(ha : a.ij):
    Calls prog 137 #[DV a A c] w (xD w (jt a)) := by
  have HV := aoX (λw (h : Sl w A c (gY a.m)) => Ss a A c w h ha);have hl := ha.len;by_cases h0 : a.m=0
  . have hz : Hid (jt a=ju) := by
      show jt a=ju;obtain⟨s,m,e⟩ := a;rcases ha.canon with⟨h1,h2,h3⟩|h1
      . simp only at h1 h2 h3;subst h1 h2 h3;rfl
      . simp only at h0 h1;omega
    have n0 := WO h0;clear h0;have hE := (iI.alloc w (.cells #[.bool a.neg,.slice A ((gY a.m).length) c,.int .i64 a.e] 31)).trans (iI.alloc (w.alloc (.cells #[.bool a.neg,.slice A ((gY a.m).length) c,.int .i64 a.e] 31)) (.cells #[.bool false,.slice none 0 0,.int .i64 0] 31));have b1 := (jI.ur (W := w) (g := w.heap.size) aH a.neg A ((gY a.m).length) c a.e).alloc (.cells #[.bool false,.slice none 0 0,.int .i64 0] 31);have b2 := jI.ur (W := (w.alloc (.cells #[.bool a.neg,.slice A ((gY a.m).length) c,.int .i64 a.e] 31))) (g := w.heap.size+1) aH false none 0 0 0;replace hs := hs.below hE;go_enter func137,ntmps137;go_wp2_with fail
    (with_reducible refine(HV.out _ hs).mono ?_)
    rintro r w1 ⟨rfl,hb⟩;replace hE := hE.trans hb;replace hs := hs.below hb;replace b1 := b1.ext hb;replace b2 := b2.ext hb;clear hb;have Le := b1.c0;have Lf := b1.c1;have Lg := b1.c2;have aob := b2.c0;have yb20 := b2.fr 0;have aoc := b2.c1;have yb21 := b2.fr 1;have aod := b2.c2;have yb22 := b2.fr 2;go_wp2;rw[hz.out];exact uI (d := ju) rfl rfl rfl (b2.set _ _ _ _ _) (by rw[show ju.m=0 from rfl,oB];rfl) (by rw[show ju.m=0 from rfl,oB];exact Sl.nil _) (jI.uA hE aC _ _ _ _ _)
  . have n0 := aiX h0
    have HN := aoX (show jt a=⟨!a.neg,a.m,a.e⟩by unfold jt;simp[h0]);have HC := aoX (λw (h : Sl w A c (gY a.m)) => LR A c (gY a.m) w h aC);clear h0;have hE := (iI.alloc w (.cells #[.bool a.neg,.slice A ((gY a.m).length) c,.int .i64 a.e] 31)).trans (iI.alloc (w.alloc (.cells #[.bool a.neg,.slice A ((gY a.m).length) c,.int .i64 a.e] 31)) (.cells #[.bool false,.slice none 0 0,.int .i64 0] 31));have b1 := (jI.ur (W := w) (g := w.heap.size) aH a.neg A ((gY a.m).length) c a.e).alloc (.cells #[.bool false,.slice none 0 0,.int .i64 0] 31);have b2 := jI.ur (W := (w.alloc (.cells #[.bool a.neg,.slice A ((gY a.m).length) c,.int .i64 a.e] 31))) (g := w.heap.size+1) aH false none 0 0 0;replace hs := hs.below hE;go_enter func137,ntmps137;go_wp2_with fail
    (with_reducible refine(HV.out _ hs).mono ?_)
    rintro r w1 ⟨rfl,hb⟩;replace hE := hE.trans hb;replace hs := hs.below hb;replace b1 := b1.ext hb;replace b2 := b2.ext hb;clear hb;have Le := b1.c0;have Lf := b1.c1;have Lg := b1.c2;clear Le Lf Lg;have Le := b1.c0;have Lf := b1.c1;have Lg := b1.c2;go_wp2_with fail;clear Le Lf Lg;replace hs := hs.drew;replace b1 := b1.drew;replace b2 := b2.drew;replace hE := hE.trans (iI.drew _);go_region_held3 (λw' => w'.cell? ⟨w.heap.size,0,none⟩=some (.bool a.neg)/\w'.cell? ⟨w.heap.size,1,none⟩=some (.slice A ((gY a.m).length) c)/\w'.cell? ⟨w.heap.size,2,none⟩=some (.int .i64 a.e))
      (first|with_reducible exact⟨(b1).c0,(b1).c1,(b1).c2⟩|with_reducible exact⟨(b1.ext lV).c0,(b1.ext lV).c1,(b1.ext lV).c2⟩|with_reducible exact⟨((b1.ext lV).Mq (g' := w.heap.size+1) aC _ _ _).c0,((b1.ext lV).Mq (g' := w.heap.size+1) aC _ _ _).c1,((b1.ext lV).Mq (g' := w.heap.size+1) aC _ _ _).c2⟩)
      (first
        | (go_at_call 204
           (with_reducible refine(HC.out _ hs).mono ?_)
           rintro r wx0 ⟨A_h4,c_h4,rfl,h4,lV⟩;have bz := b2.ext lV;have z0 := bz.c0;have z1 := bz.c1;have z2 := bz.c2;have y0 := bz.fr 0;have y1 := bz.fr 1;have y2 := bz.fr 2))
    replace hE := hE.trans lV;replace hs := hs.below lV;replace b1 := b1.ext lV;replace b2 := b2.ext lV;go_wp2;rw[HN.out];exact uI (d := ⟨!a.neg,a.m,a.e⟩) rfl rfl rfl (bz.set _ _ _ _ _) rfl (bz.vv h4 _ _ _ _ _) (jI.uA hE aC _ _ _ _ _)
open Pu
section
variable {f:FuncId} {L M:List Nat} {jQ:E}
def GV(hk:iN L)(hc:∀ (vs:Array Value) (w:World),(callFunc f vs).run prog w = .ok (.enter f vs) w)
 {R:Option Addr->Nat->World->Ending->World->Prop} (H:∀ A c w,Sl w A c L->Tb w->Calls prog f #[.slice A L.length c] w (R A c w))
 (hR:∀ (A:Option Addr) (c:Nat) (B:Nat->Prop) w e w',Sl w A c L->(∀ b,B b->b<w.heap.size/\oX w b)->R A c w e w'->∃ v,e = .returned v/\Below w.heap.size w w'/\iC B (λ_=>True) w' jQ v):gW f [ic L] jQ:=by
 refine⟨hc,λw B vs hK hB hr=>?_⟩;obtain⟨v1,vs,rfl,h1,hr⟩:=hr.mG;obtain rfl:=hr.qU;obtain⟨A,c,rfl,s1⟩:=xx hk h1;exact(H A c w s1 hK).mono λe w' h=>hR A c B w e w' s1 hB h
def GW(hk:iN L){n:Int}(hc:∀ (vs:Array Value) (w:World),(callFunc f vs).run prog w = .ok (.enter f vs) w)
 {R:Option Addr->Nat->World->Ending->World->Prop} (H:∀ A c w,Sl w A c L->Tb w->Calls prog f #[.slice A L.length c,.int .i64 n] w (R A c w))
 (hR:∀ (A:Option Addr) (c:Nat) (B:Nat->Prop) w e w',Sl w A c L->(∀ b,B b->b<w.heap.size/\oX w b)->R A c w e w'->∃ v,e = .returned v/\Below w.heap.size w w'/\iC B (λ_=>True) w' jQ v):gW f [ic L,iP n] jQ:=by
 refine⟨hc,λw B vs hK hB hr=>?_⟩;obtain⟨v1,vs,rfl,h1,hr⟩:=hr.mG;obtain⟨v2,vs,rfl,h2,hr⟩:=hr.mG;obtain rfl:=hr.qU;obtain rfl:=iC.kC h2;obtain⟨A,c,rfl,s1⟩:=xx hk h1;exact(H A c w s1 hK).mono λe w' h=>hR A c B w e w' s1 hB h
def Bt(hk:iN L)(hm:iN M)(hc:∀ (vs:Array Value) (w:World),(callFunc f vs).run prog w = .ok (.enter f vs) w)
 {R:World->Ending->World->Prop} (H:∀ A c B d w,Sl w A c L->Sl w B d M->Tb w->Calls prog f #[.slice A L.length c,.slice B M.length d] w (R w))
 (hR:∀ (B:Nat->Prop) w e w',(∀ b,B b->b<w.heap.size/\oX w b)->R w e w'->∃ v,e = .returned v/\Below w.heap.size w w'/\iC B (λ_=>True) w' jQ v):gW f [ic L,ic M] jQ:=by
 refine⟨hc,λw B vs hK hB hr=>?_⟩;obtain⟨v1,vs,rfl,h1,hr⟩:=hr.mG;obtain⟨v2,vs,rfl,h2,hr⟩:=hr.mG;obtain rfl:=hr.qU;obtain⟨A,c,rfl,s1⟩:=xx hk h1;obtain⟨A',d,rfl,s2⟩:=xx hm h2;exact(H A c A' d w s1 s2 hK).mono λe w' h=>hR B w e w' hB h
end
def Ha{L:List Nat}{n:Int}(B:Nat->Prop)(w:World)(e:Ending)(w':World)(hB:∀ b,B b->b<w.heap.size/\oX w b)(h:Dq w L n e w'):∃ v,e = .returned v/\Below w.heap.size w w'/\iC B (λ_=>True) w' (.ix [ic L,iP n]) v:=
 let⟨_,_,h1,h2,h3⟩:=h
 ⟨_,h1,h3,ki.ix (.cons (BK hB h3 h2) (.cons (.v _) (.nil _ _ _)))⟩
def rl{L:List Nat}(B:Nat->Prop)(w:World)(e:Ending)(w':World)(hB:∀ b,B b->b<w.heap.size/\oX w b)(h:uE w L e w'):∃ v,e = .returned v/\Below w.heap.size w w'/\iC B (λ_=>True) w' (ic L) v:=
 let⟨_,_,h1,h2,h3⟩:=h
 ⟨_,h1,h3,BK hB h3 h2⟩
def uq(L:List Nat)(hk:iN L):gW 263 [ic L] (ic (iG L)):=
 GV hk call263 (λA c w h _=>vj A c L w h) λA c B w e w' h hB ⟨h1,h2⟩=>by subst h2;exact⟨_,h1,Below.refl _ _,BK hB (Below.refl _ _) h.uC⟩
def Ws(L:List Nat)(hk:iN L)(hl:(iG L).length<=256):gW 231 [ic L] (.ix [ic (iG L),iP 0]):=
 GV hk call231 (λA c w h _=>GN A c L w h hl) λA c B w e w' h hB r=>Ha B w e w' hB r
def ah3(L:List Nat)(hk:iN L)(hl:L.length<=100000):gW 265 [ic L] (iP (iq (val L))):=
 GV hk call265 (λA c w h _=>Wr A c L w h aC) λA c B w e w' h hB ⟨h1,h2⟩=>by subst h2;exact⟨_,h1,Below.refl _ _,.v _⟩
def Oh(L M:List Nat)(hk:iN L)(hm:iN M)(hl:L.length<=100000)(ot:M.length<=100000):gW 223 [ic L,ic M] (iP (kE (val L) (val M))):=
 Bt hk hm call223 (λA c B d w h k _=>J9 A B c d L M w h k aC aC) rv
def Ol(m n:Nat)(hl:(gY m).length<=256)(hn:n<=65536)(hf:(gY (m*2^n)).length<=256):gW 261 [ic (gY m),iP (n:Int)] (.ix [ic (gY (m*2^n)),iP 0]):=
 GW (mz m) call261 (λA c w h _=>Wx A c (gY m) n w h hl hn (by rw[kr];exact hf)) λA c B w e w' h hB r=>by rw[kr]at r;exact Ha B w e w' hB r
def Om(m n:Nat)(hl:(gY m).length<=256)(hn:n<=65536):gW 175 [ic (gY m),iP (n:Int)] (.ix [ic (gY (m/2^n)),iP 0]):=
 GW (mz m) call175 (λA c w h _=>Wz A c (gY m) n w h hl hn) λA c B w e w' h hB r=>by rw[kr]at r;exact Ha B w e w' hB r
def GL(m n:Nat)(h1:(gY m).length<=256)(h2:(gY n).length<=256)(hf:(gY (m+n)).length<=256):gW 221 [ic (gY m),ic (gY n)] (.ix [ic (gY (m+n)),iP 0]):=by
 refine Bt (mz m) (mz n) call221 (λA c B d w h k _=>ah2 A B c d (gY m) (gY n) w h k h1 h2 (by rw[kr,kr];exact hf)) ?_;rw[kr,kr];exact Ha
def CX(m n:Nat)(h1:(gY m).length<=256)(h2:(gY n).length<=256)(hf:n<=m):gW 224 [ic (gY m),ic (gY n)] (.ix [ic (gY (m-n)),iP 0]):=by
 refine Bt (mz m) (mz n) call224 (λA c B d w h k _=>aid A B c d (gY m) (gY n) w h k h1 h2 (by rw[kr,kr];exact hf)) ?_;rw[kr,kr];exact Ha
def sZ(m:Nat)(hl:(gY m).length<=100000):gW 265 [ic (gY m)] (iP (iq m)):=by
 have:=ah3 (gY m) (mz m) hl;rwa[kr]at this
def yl(m n:Nat)(hl:(gY m).length<=100000)(ot:(gY n).length<=100000):gW 223 [ic (gY m),ic (gY n)] (iP (kE m n)):=by
 have:=Oh (gY m) (gY n) (mz m) (mz n) hl ot;rwa[kr,kr]at this
def xK(a:Dy)(ha:a.ij):gW 137 [ie a] (ie (jt a)):=yz call137 (λA c w h _=>adu a A c w h ha) rd
def oo(a:Dy)(ha:a.ij):gW 185 [ie a] (iP a.iw):=yz call185 (λA c w h _=>adB a A c w h ha) rv
def B4(s:Bool)(m:Nat)(e:Int)(hl:(gY m).length<=256)(mB:-32768<=e)(lF:e<=32768)(hd:mZ (canon s m e)):gW 176 [bP s,ic (gY m),iP e] (.ix [ie (canon s m e),iP 0]):=by
 refine⟨call176,λw B vs hK hB hr=>?_⟩;obtain⟨v1,vs,rfl,h1,hr⟩:=hr.mG;obtain⟨v2,vs,rfl,h2,hr⟩:=hr.mG;obtain⟨v3,vs,rfl,h3,hr⟩:=hr.mG;obtain rfl:=hr.qU;obtain rfl:=iC.kC h1;obtain rfl:=iC.kC h3;obtain⟨A,c,rfl,s1⟩:=xx (mz m) h2;have:=ahN s A c (gY m) e w s1 hl mB lF hK (by rw[kr];exact hd);rw[kr]at this;exact this.mono λe w' h=>OX B w e w' hB h
def yx:E.le (.sl false 1 1 λi j=>[E.v (.int .u32 1)].getD (i*1+j) (.v (.bool false))) (ic (gY 1)):=by
 have e1:gY 1=[1]:=by rw[Eo aE,show 1/4294967296=0 by decide,oB]
 rw[e1];refine .sl λi j hi hj=>?_
 obtain rfl:i=0:= aC ;obtain rfl:j=0:= aC ;exact⟨.refl _,rfl⟩
def jq(d:Dy):List E:=[bP d.neg,ic (gY d.m),iP d.e]
def nO(l:List Dy):E:=.sl true l.length 3 λi j=>(jq (l.getD i ju)).getD j .any
def L8(a:Dy):E.le (.sl true 1 3 λi j=>[bP a.neg,ic (gY a.m),iP a.e].getD (i*3+j) (.v (.bool false))) (nO [a]):=.sl λi j hi hj=>by
 obtain rfl:i=0:= aC ;rcases j with _|_|_|j
 .exact ⟨.refl _,rfl⟩
 .exact ⟨.refl _,rfl⟩
 .exact ⟨.refl _,rfl⟩
 .omega
def wR(a b:Dy):E.le (.sl true 2 3 λi j=>[bP a.neg,ic (gY a.m),iP a.e,bP b.neg,ic (gY b.m),iP b.e].getD (i*3+j) (.v (.bool false))) (nO [a,b]):=.sl λi j hi hj=>by
 obtain rfl|rfl:i=0\/i=1:= aC 
 all_goals
  rcases j with _|_|_|j
  .exact ⟨.refl _,rfl⟩
  .exact ⟨.refl _,rfl⟩
  .exact ⟨.refl _,rfl⟩
  .omega
def nC{n:Nat}(h:n≠0):((n:Int)==0)=false:= aN 
def s5{n:Nat}(h:n=0):((n:Int)==0)=true:=by subst h;rfl
def Wv{n:Nat}(h:n=0):((n:Int) != 0)=false:=by subst h;rfl
def Ww{n:Nat}(h:n≠0):((n:Int) != 0)=true:= aN 
def sD{m:Nat}:(gY m).length=0↔m=0:=by rw[gQ,VQ]
def pJ{m:Nat}(h:m≠0):(gY m).length≠0:=λq=>h (sD.1 q)
def Fp.Dy.ij.gY{d:Dy}(h:d.ij):(gY d.m).length<=256:=by have:=h.len;omega
end Go.Proofs.YtgdahmmlddfimaaGreatDoor
