/- Lemmas that the last file uses. -/
import Derived.Test.YthalchiobglflaaGreatDoorM01
import Derived.Deep.DeepCutAuto
set_option linter.unusedSimpArgs false
set_option linter.unusedVariables false
set_option linter.defProp false
set_option maxHeartbeats 4000000
open Go.Proofs.Tryz
open Bool renaming true->aa,false->ac
open Option renaming some->al,none->am
open Go renaming World->ap,Value->av,Program->aw,Addr->az
open List renaming replicate->aA
open Go.World renaming cell?->aC
open Go.Value renaming slice->aH,ownBlock->bf
open Nat renaming beq->a2
open Array renaming replicate->bi
namespace Go.Proofs.YthalchiobglflaaGreatDoor.Pu
open Go.RowKit
section
variable {P:aw} {K:ap->Prop} {T:List TI} {O:rT} {σ τ:PS} {o:Oper} {u:kZ}
def apF{x}(h:∀ t,x = .tmp t->σ.get t=τ.get t):τ.op x=σ.op x:=by
 cases x with
 |tmp t=>exact(h t rfl).symm
 |_=>rfl
def ark{p m l is z}(h:σ.read p m=al (l,is,z))(b:∀ id,id ∈ is->σ.bo id=τ.bo id):τ.read p m=al (l,is,z):=by
 cases p with
 |box id o=>
  have y:=h;simp only[PS.read]at h;split at h
  .split at h
   .simp only[bQ,ch]at h;obtain⟨_,rfl,_⟩:=h;simp only[PS.read,<-b id aK];exact y
   .cases h
  .cases h
 |oe id s i j=>
  have y:=h;simp only[PS.read]at h;split at h
  .split at h
   .simp only[bQ,ch]at h;obtain⟨_,rfl,_⟩:=h;simp only[PS.read,<-b id aK];exact y
   .cases h
  .cases h
 |rK id s k i j=>
  have y:=h;simp only[PS.read]at h;split at h
  .split at h
   .simp only[bQ,ch]at h;obtain⟨_,rfl,_⟩:=h;simp only[PS.read,<-b id aK];exact y
   .cases h
  .cases h
 |e x=>cases x<;>exact h
 |_=>exact h
def aiK{c:CV}{e is}(h:c.ext σ=al (e,is))(b:∀ id,id ∈ is->σ.bo id=τ.bo id):c.ext τ=al (e,is):=by
 cases c with
 |e x=>exact h
 |box id=>
  have k:=h;simp only[CV.ext]at h;split at h
  .simp only[bQ,ch]at h;obtain⟨_,rfl⟩:=h;simp only[CV.ext,<-b id aK];exact k
  .cases h
 |row id=>
  have k:=h;simp only[CV.ext]at h;split at h
  .split at h
   .simp only[bQ,ch]at h;obtain⟨_,rfl⟩:=h;simp only[CV.ext,<-b id aK];exact k
   .cases h
  .cases h
def XX{l e is}(h:xE σ l=al (e,is))(b:∀ id,id ∈ is->σ.bo id=τ.bo id):xE τ l=al (e,is):=by
 induction l generalizing e is with
 |nil=>exact h
 |cons c l y=>
  simp only[xE]at h;split at h
  .rename_i x i s j z u;simp only[bQ,ch]at h;obtain⟨rfl,rfl⟩:=h;simp only[xE,aiK z λid k=>b id<|by simp[k],y u λid k=>b id<|by simp[k]]
  .cases h
def ap4{p:PV}{e is}(h:p.ext σ=al (e,is))(b:∀ id,id ∈ is->σ.bo id=τ.bo id):p.ext τ=al (e,is):=by
 cases p with
 |e x=>exact h
 |box id o=>
  cases o with
  |succ=>exact h
  |zero=>
   have y:=h;simp only[PV.ext]at h;split at h
   .simp only[bQ,ch]at h;obtain⟨_,rfl⟩:=h;simp only[PV.ext,<-b id aK];exact y
   .cases h
 |qC f c=>
  simp only[PV.ext]at h;split at h
  .rename_i s j z;simp only[bQ,ch]at h;obtain⟨rfl,rfl⟩:=h;simp only[PV.ext,XX z b]
  .cases h
 |own id=>
  have y:=h;simp only[PV.ext]at h;split at h
  .simp only[bQ,ch]at h;obtain⟨_,rfl⟩:=h;simp only[PV.ext,<-b id aK];exact y
  .simp only[bQ,ch]at h;obtain⟨_,rfl⟩:=h;simp only[PV.ext,<-b id aK];exact y
  .cases h
 |jg id k=>
  have y:=h;simp only[PV.ext]at h;split at h
  .split at h
   .simp only[bQ,ch]at h;obtain⟨_,rfl⟩:=h;simp only[PV.ext,<-b id aK];exact y
   .cases h
  .cases h
 |_=>exact h
def Vp{l e is}(h:wM σ l=al (e,is))(g:∀ x,x ∈ l->τ.op x=σ.op x)(b:∀ id,id ∈ is->σ.bo id=τ.bo id):wM τ l=al (e,is):=by
 induction l generalizing e is with
 |nil=>exact h
 |cons c l y=>
  simp only[wM]at h;split at h
  .rename_i x i s j z u;simp only[bQ,ch]at h;obtain⟨rfl,rfl⟩:=h;simp only[wM,g c aK,ap4 z λid k=>b id<|by simp[k],y u (λx v=>g x<|by simp[v]) λid k=>b id<|by simp[k]]
  .cases h
def ani{p:PV}{e is}(h:p.ext σ=al (e,is))(b:∀ id,id ∈ is->σ.bo id=τ.bo id):p.zg τ=p.zg σ:=by
 cases p with
 |own id=>
  have i:σ.bo id=τ.bo id:=by
   simp only[PV.ext]at h;split at h
   .simp only[bQ,ch]at h;obtain⟨_,rfl⟩:=h;exact b id aK 
   .simp only[bQ,ch]at h;obtain⟨_,rfl⟩:=h;exact b id aK 
   .cases h
  simp only[PV.zg,i]
 |_=>rfl
def Vk{l e is}(h:wM σ l=al (e,is))(g:∀ x,x ∈ l->τ.op x=σ.op x)(b:∀ id,id ∈ is->σ.bo id=τ.bo id):(l.map τ.op).any (PV.zg τ)=(l.map σ.op).any (PV.zg σ):=by
 induction l generalizing e is with
 |nil=>rfl
 |cons c l y=>
  simp only[wM]at h;split at h
  .rename_i x i s j z u;simp only[bQ,ch]at h;obtain⟨rfl,rfl⟩:=h;simp only[ew,fe,g c aK,ani z λid k=>b id<|by simp[k],y u (λx v=>g x<|by simp[v]) λid k=>b id<|by simp[k]]
  .cases h
def Yc{h s}(g:∀ x,x ∈ s.map (·.2)->τ.op x=σ.op x):∀ l,uG τ h l s=uG σ h l s:=by
 induction s with
 |nil=>intro l;rfl
 |cons p s k=>
  intro l;have⟨i,x⟩:=p;simp only[uG,g x aK,k λx y=>g x<|by simp only[ew,dg];exact .inr y]
def SJ{d b r k}(h:CC σ d b r k=al u)(e:σ.nl=τ.nl)(n:∀ id b,u.f = .new id b->τ.bo id=am):CC τ d b r k=al u:=by
 obtain⟨id,rfl,U,c,rfl⟩:=Kg h;rw[e]at c;simp only[CC,n id b rfl,c,bK]
def ab2{d b}(h:σ.bo d=τ.bo d):xk τ d b=xk σ d b:=by unfold xk;rw[h]
def ab4{d is}(h:σ.bo d=τ.bo d):CG τ d is=CG σ d is:=by unfold CG;rw[h]
def ab5{d b is}{u:kZ}(h:u.f=xk σ d b)(r:u.rb=CG σ d is)(k:∀ id,id ∈ u.rb->σ.bo id=τ.bo id)(n:∀ id b,u.f = .new id b->τ.bo id=am):σ.bo d=τ.bo d:=by
 cases jD:σ.bo d with
 |none=>exact(n d b<|by rw[h,xk,jD]).symm
 |some x=>rw[<-jD];exact k d<|by rw[r,CG,jD];simp
def abr{d b r}(h:DW σ d b r=al u)(x:∀ id,id ∈ u.rb->σ.bo id=τ.bo id)(k:σ.nl=τ.nl)(n:∀ id b,u.f = .new id b->τ.bo id=am):DW τ d b r=al u:=by
 obtain⟨id,rfl,c,rfl⟩:=NH h;have e:σ.bo id=τ.bo id:=ab5 (b:=b) (is:=[]) rfl rfl x n;rw[k]at c;simp only[DW,c,bK,ab2 e,ab4 e]
section
variable{d:Option Tmp}{t:TypeId}
def XT{s x u}(h:Dm T σ d t s x=al u)(y:∀ id,id ∈ u.rb->σ.bo id=τ.bo id)(e:σ.nl=τ.nl)(n:∀ id b,u.f = .new id b->τ.bo id=am):Dm T τ d t s x=al u:=by
 simp only[Dm]at h ⊢;split at h
 .split at h
  .split at h
   .split at h
    .split at h
     .split at h
      .rename_i c;simp only[c,bK];split at h
       .rename_i id;split at h
        .rename_i j;split at h
         .rename_i q;cases h;simp only[<-y id aK,<-e,j,q,bK]
         .cases h
        .cases h
       .rename_i id k;split at h
        .rename_i j;split at h
         .rename_i q;cases h;simp only[<-y id aK,j,q,bK]
         .cases h
        .cases h
       .exact SJ h e n
       .cases h
      .cases h
     .cases h
    .cases h
   .cases h
  .cases h
 .cases h
def akh{s x u}(h:EJ T σ d t s x=al u)(y:∀ id,id ∈ u.rb->σ.bo id=τ.bo id)(q:σ.nl=τ.nl):EJ T τ d t s x=al u:=by
 unfold EJ at h ⊢;split at h
 .rename_i p z;split at h
  .rename_i id l m n g c v f r;split at h
   .rename_i k;cases h;have:=XT (σ:={ σ with nl:=ac }) (τ:={ τ with nl:=ac }) z y rfl λi b e=>by rw[f]at e;cases e
    rw[this];simp only[f,r,k,bK]
   .cases h
  .cases h
 .cases h
def akl{n q u}(h:EM T σ d t n q=al u)(b:∀ id,id ∈ u.rb->σ.bo id=τ.bo id):EM T τ d t n q=al u:=by
 unfold EM at h ⊢;split at h
 .rename_i id;have x:=h;split at h
  .rename_i k y z;split at h
   .rename_i c;cases h;simp only[<-b id aK,<-b q aK];exact x
   .cases h
  .cases h
 .cases h
def akj{s q u}(h:EK T σ d t s q=al u)(b:∀ id,id ∈ u.rb->σ.bo id=τ.bo id):EK T τ d t s q=al u:=by
 unfold EK at h ⊢;have x:=h;split at h
 .rename_i y z;split at h
  .rename_i id;split at h
   .rename_i k;split at h
    .rename_i c;cases h;simp only[<-b id aK,<-b q aK];exact x
    .cases h
   .cases h
  .rename_i id;split at h
   .rename_i k;split at h
    .rename_i c;cases h;simp only[<-b id aK,<-b q aK];exact x
    .cases h
   .cases h
  .cases h
 .cases h
end
def apY{p}(h:∀ x,x ∈ p.map (·.2)->τ.op x=σ.op x):D4 τ p=D4 σ p:=by
 unfold D4;split
 .rw [h _ aK]
 .rfl
def akk{t id l i}(h:EL T σ t id l i=al u)(b:∀ id,id ∈ u.rb->σ.bo id=τ.bo id):EL T τ t id l i=al u:=by
 unfold EL at h ⊢;split at h
 .split at h
  .split at h
   .split at h
    .rename_i j;split at h
     .split at h
      .rename_i c;cases h;simp only[<-b id aK,j,c,bK]
      .cases h
     .cases h
    .cases h
   .cases h
  .cases h
 .cases h
def akn(h:kj P K T O σ o=al u)(g:∀ x,x ∈ o.op.operands->τ.op x=σ.op x)(m:∀ id,id ∈ u.rb->σ.bo id=τ.bo id)(N:σ.nl=τ.nl)(F:∀ id b,u.f = .new id b->τ.bo id=am):
 kj P K T O τ o=al u:=by
 cases iW:o.op with
 |move x=>rw[iW]at g;simp only[kj,iW]at h ⊢;rw[g x aT];exact h
 |assign x=>rw[iW]at g;simp only[kj,iW]at h ⊢;rw[g x aT];exact h
 |pick c x y=>rw[iW]at g;simp only[kj,iW]at h ⊢;rw[g c aT,g x aT,g y aT];exact h
 |nilCheck x=>rw[iW]at g;simp only[kj,iW]at h ⊢;rw[g x aT];exact h
 |binOp op t x y yt=>rw[iW]at g;simp only[kj,iW]at h ⊢;rw[g x aT,g y aT];exact h
 |unOp op t x=>rw[iW]at g;simp only[kj,iW]at h ⊢;rw[g x aT];exact h
 |convert s d x=>rw[iW]at g;simp only[kj,iW]at h ⊢;rw[g x aT];exact h
 |index t x i=>rw[iW]at g;simp only[kj,iW]at h ⊢;rw[g x aT,g i aT];exact h
 |extract x i=>rw[iW]at g;simp only[kj,iW]at h ⊢;rw[g x aT];exact h
 |fieldAddr t x f=>rw[iW]at g;simp only[kj,iW]at h ⊢;rw[g x aT];exact h
 |field t x f=>rw[iW]at g;simp only[kj,iW]at h ⊢;rw[g x aT];exact h
 |lookup t x i ok=>
  rw[iW]at g;cases ok with
  |true=>simp[kj,iW]at h
  |false=>simp only[kj,iW]at h ⊢;rw[g x aT,g i aT];exact h
 |makeFunc fn first S=>
  rw[iW]at g;cases fn with
  |func f=>
   simp only[kj,iW]at h ⊢;have:S.toList.map τ.op=S.toList.map σ.op:=fh λx Z=>g x<|by simp only[Op.operands,fA];exact .inr<|by simpa using Z
   rw[this];exact h
  |_=>simp[kj,iW]at h
 |slice t x lo Y mx=>
  rw[iW]at g;cases mx with
  |some=>simp[kj,iW]at h
  |none=>
   simp only[kj,iW]at h ⊢;have M:lo.map τ.op=lo.map σ.op:=by cases lo with
    |none=>rfl
    |some y=>simp only[cJ];rw[g y aT]
   have B:Y.map τ.op=Y.map σ.op:=by cases Y with
    |none=>rfl
    |some y=>simp only[cJ];rw[g y aT]
   rw[g x aT,M,B];split at h
   .exact akk h m
   .exact h
 |alloc t=>
  simp only[kj,iW]at h ⊢;split at h
  .split at h
   .exact abr h m N F
   .cases h
  .cases h
 |box t x=>
  rw[iW]at g;simp only[kj,iW]at h ⊢;rw[g x aT];split at h
  .split at h
   .exact abr h m N F
   .cases h
  .cases h
 |build t H=>
  rw[iW]at g;simp only[kj,iW]at h ⊢;have A:∀ p l,uG τ p l H.toList=uG σ p l H.toList:=λp=>Yc λx Z=>g x<|by simpa[Op.operands]using Z
  simp only[A];exact h
 |buildSlice t n H=>
  rw[iW]at g;simp only[kj,iW]at h ⊢;have A:∀ p l,uG τ p l H.toList=uG σ p l H.toList:=λp=>Yc λx Z=>g x<|by simpa[Op.operands]using Z
  have ho:D4 τ H.toList=D4 σ H.toList:=apY λx Z=>g x<|by simpa[Op.operands]using Z
  simp only[A,ho];split at h
  .exact akl h m
  split at h
  .split at h
   .split at h
    .split at h
     .split at h
      .rename_i hif;rw[bt hif];have⟨l,hl,h⟩:=awg.1 h;refine awg.2 ⟨l,hl,?_⟩;split at h
       .cases h
       .rename_i h1;rw[bn h1];split at h
        .rename_i h2;rw[bt h2];exact SJ h N F
        .rename_i h2;rw[bn h2];exact h
      .cases h
     .cases h
    .cases h
   .cases h
  .cases h
 |load t x=>
  rw[iW]at g;simp only[kj,iW,Mo,Mp]at h ⊢;rw[g x aT];split at h
  .rename_i ti r9;split at h
   .rename_i id i n U;have amJ:FU τ (σ.op x)=al (id,i,n):=by
     have R:σ.bo id=τ.bo id:=by
      split at h
      .cases h
      .cases h;exact m id aK 
     cases hp:σ.op x with
     |oe id' I i' j=>
      rw[hp]at U;have C:=U;simp only[FU]at U;split at U
      .split at U
       .simp only[bQ,ch]at U;obtain⟨rfl,_,_⟩:=U;simp only[FU,<-R];exact C
       .cases U
      .cases U
     |_=>rw[hp]at U;cases U
    simp only[amJ];exact h
   .rename_i U;have key:∀ X,(∃ l ki,σ.read (σ.op x) ti.i.size=al (l,X,ki))->(∀ id,id ∈ X->σ.bo id=τ.bo id)->FU τ (σ.op x)=am:=by
     rintro X ⟨l,ki,r⟩ mQ;cases hp:σ.op x with
     |oe id I i j=>
      rw[hp]at r U;simp only[PS.read]at r;split at r
      .rename_i D;split at r
       .simp only[bQ,ch]at r;obtain⟨_,rfl,_⟩:=r;simp only[FU,<-mQ id aK,D]
       .cases r
      .cases r
     |_=>rfl
    cases r:σ.read (σ.op x) ti.i.size with
    |none=>rw[r]at h;cases h
    |some y=>
     have⟨l,X,ki⟩:=y;have Fg:u.rb=X:=by
      rw[r]at h;simp only[Ka]at h;split at h
      .cases h;rfl
      .split at h
       .cases h;rfl
       .cases h
     have mQ:∀ id,id ∈ X->σ.bo id=τ.bo id:=λid Y=>m id<|by rw[Fg];exact Y
     rw[key X ⟨l,ki,r⟩ mQ];simp only;rw[ark r mQ];rw[r]at h;exact h
  .cases h
 |store t x y=>
  rw[iW]at g;simp only[kj,iW,Ms]at h ⊢;rw[g x aT,g y aT];split at h
  .split at h
   .rename_i id off e _ _;split at h
    .rename_i D G;split at h
     .rename_i a;cases h;rw[N]at a;simp only[<-m id aK,D,G,a,bK]
     .cases h
    .cases h
   .rename_i id q _ _;split at h
    .rename_i D G;split at h
     .rename_i a;cases h;simp only[<-m id aK,<-m q aK,D,G,a,bK]
     .cases h
    .cases h
   .rename_i id I i j e _ _;split at h
    .rename_i D G;split at h
     .rename_i a;cases h;simp only[<-m id aK,D,G,a,bK]
     .cases h
    .cases h
   .rename_i id i id' k _ _;split at h
    .rename_i D;split at h
     .rename_i a;cases h;simp only[<-m id aK,D,a,bK]
     .cases h
    .cases h
   .rename_i id I i j k e _ _;split at h
    .rename_i D G;split at h
     .rename_i a;cases h;simp only[<-m id aK,D,G,a,bK]
     .cases h
    .cases h
   .cases h
  .cases h
 |makeSlice t l c=>
  rw[iW]at g;simp only[kj,iW,Mq]at h ⊢;rw[g l aT,g c aT];split at h
  .exact SJ h N F
  .cases h
 |indexAddr t x i=>
  rw[iW]at g;simp only[kj,iW,Mn]at h ⊢;rw[g x aT,g i aT];split at h
  .split at h
   .split at h
    .split at h
     .split at h
      .exact h
      .exact h
      .rename_i id _;split at h
       .rename_i D;split at h
        .rename_i a;cases h;simp only[<-m id aK,D,a,bK]
        .cases h
       .rename_i D;split at h
        .rename_i a;cases h;simp only[<-m id aK,D,a,bK]
        .cases h
       .cases h
      .rename_i id _ _;split at h
       .rename_i D;split at h
        .rename_i a;cases h;simp only[<-m id aK,D,a,bK]
        .cases h
       .cases h
      .cases h
     .cases h
    .exact h
    .cases h
   .cases h
  .cases h
 |call c=>
  rw[iW]at g;have⟨Q,V,ats⟩:=c;have L:∀ x,x ∈ V.toList->τ.op x=σ.op x:=λx Z=>g x<|by simp only[Op.operands,Call.operands,fA];exact .inr<|by simpa using Z
  have ZF:V.toList.map τ.op=V.toList.map σ.op:=fh L;cases Q with
  |builtin b=>
   simp only[kj,iW]at h ⊢;cases b
   case len=>
    dsimp only at h ⊢;split at h
    .rename_i x t Z ht;split at h
     .obtain ⟨rr,r,rfl⟩:=dc.1 h;rw[L x<|by rw[Z];simp];have:vc (σ.op x) τ=al rr:=by
       cases hp:σ.op x with
       |own id=>
        rw[hp]at r;have C:=r;simp only[vc]at r;split at r
        .simp only[bQ]at r;subst r;simp only[vc,<-m id aK];exact C
        .simp only[bQ]at r;subst r;simp only[vc,<-m id aK];exact C
        .cases r
       |jg id k=>
        rw[hp]at r;have C:=r;simp only[vc]at r;split at r
        .split at r
         .simp only[bQ]at r;subst r;simp only[vc,<-m id aK];exact C
         .cases r
        .cases r
       |e y=>
        rw[hp]at r;cases y with
        |v z=>cases z<;>exact r
        |_=>exact r
       |_=>rw[hp]at r;exact r
      rw[this];rfl
     .cases h
    .cases h
   case append=>
    dsimp only at h ⊢;split at h
    .rename_i s x t t' Z ht;split at h
     .rename_i sc;simp only[sc,bK];rw[L x<|by rw[Z];simp,L s<|by rw[Z];simp];have oQ:Ly O o.dst=Ly O o.dst:=rfl;split at h
      .exact akj h m
      split at h
      .rename_i Q5;simp only[Q5,bK];exact akh h m N
      .rename_i Q5;simp only[Q5,bE,bS];exact XT h m N F
     .cases h
    .cases h
   case max=>dsimp only at h ⊢;rw[ZF];exact h
   case min=>dsimp only at h ⊢;rw[ZF];exact h
   all_goals cases h
  |value f=>
   have A:τ.op f=σ.op f:=g f (by simp[Op.operands,Call.operands]);simp only[kj,iW]at h ⊢;rw[A];have ec:∀ {J:FuncId} {zs:List E} {X:List Nat} {ow:Bool},Dp P K O σ o.dst J zs X ow=al u->(∀ id,id ∈ X->id ∈ u.rb)/\Dp P K O τ o.dst J zs X ow=al u:=by
    intro J zs X ow w;simp only[Dp]at w ⊢;rw[N]at w;split at w
    .rename_i j9 JK;refine⟨?_,w⟩;split at w
     .cases w;exact λ_ h=>h
     .split at w
      .cases w;exact λ_ h=>h
      .split at w
       .cases w;exact λ_ h=>h
       .cases w
    .split at w
     .rename_i d hd;split at w
      .rename_i nl T n I el h1;split at w
       .rename_i a;cases w;have e:=ab5 (σ:=σ) (τ:=τ) (b:=.row nl T n I el) (is:=X) rfl rfl m F;refine⟨λid R=>?_,?_⟩
        .unfold CG;split
         .exact R
         .simp [R]
        .simp only[a,bK,ab2 e,ab4 e]
       .cases w
      .cases w
     .cases w
   split at h
   .rename_i J S xs X Fe W;have⟨M,B⟩:=ec h;rw[Vk W L λid Y=>m id<|M id Y,Vp W L λid Y=>m id<|M id Y,Fe];exact B
   .rename_i J S xs X Fe W;split at h
    .rename_i ys js xU;have⟨M,B⟩:=ec h;rw[Vk W L λid Y=>m id<|M id<|by simp[Y],Vp W L λid Y=>m id<|M id<|by simp[Y],Fe];simp only;rw[XX xU λid Y=>m id<|M id<|by simp[Y]];exact B
    .cases h
   .cases h
  |invoke _ _=>simp[kj,iW]at h
 |_=>simp[kj,iW]at h
end
def aos{l t}(h:Operand.tmp t ∈ l):t ∈ Io l:=by
 induction l with
 |nil=>simp at h
 |cons x l i=>
  rcases dg.1 h with h|h
  .subst h;simp[Io]
  .have:=i h;cases x<;>simp[Io,this]
def amf{l n}:Q9 l n=aa↔n ∈ l:=by
 unfold Q9;rw[dh];constructor
 .rintro ⟨x,k,b⟩;have:=lY.1 b;subst this;exact k
 .intro h;exact⟨n,h,cN n⟩
def NN{l d}(h:Hj l d=aa){x}(k:d=al x):x ∉ l:=by
 subst k;simp only[Hj,dN]at h;intro m;rw[amf.2 m]at h;cases h
def OV{a b}(h:OU a b=aa){x y}(k:a=al x)(z:b=al y):x≠y:=by
 subst k z;simp only[OU,dN]at h;intro e;rw[lY.2 e]at h;cases h
def Ir{f}(x:f.Fu=ac)p:p.oN f=if Cy f p then p else .e .any:=by
 cases f<;>first|(cases x;done)|skip
 all_goals (cases p<;>simp only[PV.oN,Cy,bK])
 all_goals (split<;>rename_i h<;>simp[h])
def Su{f}(x:f.Fu=ac){p}(h:Cy f p=aa):p.oN f=p:=by rw[Ir x,bt h]
def anG f:Cy f (.e .any)=aa:=by cases f<;>rfl
def avc(p:PV){f g}(h:f.Fu=ac)(x:g.Fu=ac):(p.oN f).oN g=(p.oN g).oN f:=by
 rw[Ir h p,Ir x p];cases h1:Cy f p<;>cases h2:Cy g p<;>simp only[bK,bS,bE,Ir h,Ir x,anG,h1,h2]
structure ug(σ τ:PS):Prop where
 n:σ.n=τ.n
 nl:σ.nl=τ.nl
 get:∀ t,σ.get t=τ.get t
 bo:∀ id,σ.bo id=τ.bo id
def ug.refl σ:ug σ σ:=⟨rfl,rfl,λ_=>rfl,λ_=>rfl⟩
def ug.symm{σ τ}(h:ug σ τ):ug τ σ:=⟨h.n.symm,h.nl.symm,λt=>(h.get t).symm,λi=>(h.bo i).symm⟩
def ug.trans{σ τ x}(h:ug σ τ)(k:ug τ x):ug σ x:=⟨h.n.trans k.n,h.nl.trans k.nl,λt=>(h.get t).trans<|k.get t,λi=>(h.bo i).trans<|k.bo i⟩
def jy.qX{k B σ τ a w L}(r:jy k B σ a w L)(h:ug σ τ):jy k B τ a w L:=
 ⟨r.hd,r.hs.trans h.n,λt=>by rw[<-h.get];exact r.ht t,λi b x=>r.hb i b<|by rw[h.bo];exact x,λi=>by rw[<-h.bo];exact r.hv i,r.hn,r.hw,r.hi,r.he,λn i b x=>r.hl (by rw[h.nl];exact n) i b<|by rw[h.bo];exact x⟩
def Ew(σ:PS)f id:(σ.pG f).bo id=match f with
 | .none=>σ.bo id
 | .new i b | .wH i b | .sw i b | .xG i b | .Ed i b=>if i=id then al b else σ.bo id
 | .fin i=>if i=id then am else σ.bo id
 | .tR i r b=>if i=id then al b else if r=id then am else σ.bo id:=by
 cases f<;>first|rfl|exact At _ _ _ _|exact DS _ _ _|skip
 rename_i i r b;show look (tV (σ.b.filter λx=>!a2 x.1 r) i b) id=_;rw[At,DS];rfl
section
variable(σ:PS)(d:Option Tmp)(u:kZ)
def Jk t:(σ.app d u).get t=if d=al t then u.r else(σ.get t).oN u.f:=by
 unfold PS.app;cases d with
 |none=>
  rw[bn aK];exact PS.EO σ u.f t
 |some d=>
  rw[PS.QH,PS.EO];simp only[bQ]
def Ev id:(σ.app d u).bo id=(σ.pG u.f).bo id:=PS.ahF _ _ _ _
def Kj:(σ.app d u).n=σ.n:=by unfold PS.app;rw[PS.NK];rfl
def Kn:(σ.app d u).nl=σ.nl:=by unfold PS.app;rw[PS.apc];rfl
def De id(m:u.f.Fu=ac)(h:u.f.id≠al id):(σ.app d u).bo id=σ.bo id:=by
 rw[Ev,Ew];cases hf:u.f<;>rw[hf]at h m<;>simp only[s5.id,dH,bQ]at h<;>first|rfl|exact bn h|cases m
end
section
variable {P:aw} {K:ap->Prop} {T:List TI} {O:rT} {M:Array Oper} {σ τ:PS} {o:Oper} {u:kZ}
def akp(h:kj P K T O σ o=al u){x}(k:x ∈ o.op.operands):x ∈ Ks o.op:=by
 have⟨d,p,z,y,after,g⟩:=o;simp only at k ⊢;cases p<;>first
  | (simp only[kj]at h;cases h;done)
  | (exfalso;simp[Op.operands]at k;done)
  | (simpa[Op.operands,Ks]using k)
  | (simpa[Op.operands,Ks,or_assoc]using k)
  |skip
 case call c=>
  have⟨a,r,t⟩:=c;cases a<;>simpa[Op.operands,Ks,Call.operands]using k
def SK{d b r k}(h:CC σ d b r k=al u){id b'}(f:u.f = .new id b'):σ.bo id=am:=by
 obtain⟨i,_,U,_,rfl⟩:=Kg h;cases f;exact U
def ab3{d b id b'}(f:xk σ d b = .new id b'):σ.bo id=am:=by
 unfold xk at f;split at f
 .rename_i h;cases f;exact h
 .cases f
def abt{d b r}(h:DW σ d b r=al u){id b'}(f:u.f = .new id b'):σ.bo id=am:=by
 obtain⟨i,_,_,rfl⟩:=NH h;exact ab3 f
def ako(h:kj P K T O σ o=al u){id b}(hf:u.f = .new id b):σ.bo id=am:=by
 cases iW:o.op
 case alloc=>
  simp only[kj,iW]at h;split at h
  .split at h
   .exact abt h hf
   .cases h
  .cases h
 case box=>
  simp only[kj,iW]at h;split at h
  .split at h
   .exact abt h hf
   .cases h
  .cases h
 case makeSlice=>
  simp only[kj,iW,Mq]at h;split at h
  .exact SK h hf
  .cases h
 case makeFunc fn first cap=>
  cases fn with
  |func f=>
   simp only[kj,iW]at h
   repeat' split at h
   all_goals first
    | (cases h;done)
    | (cases h;cases hf;done)
  |_=>simp[kj,iW]at h
 case lookup t x i ok=>
  cases ok with
  |true=>simp[kj,iW]at h
  |false=>
   simp only[kj,iW]at h
   repeat' split at h
   all_goals first
    | (cases h;done)
    | (cases h;cases hf;done)
 case slice t x lo hi mx=>
  cases mx with
  |none=>
   simp only[kj,iW,Mr,EL]at h
   repeat' split at h
   all_goals first
    | (cases h;done)
    | (cases h;cases hf;done)
  |some=>simp[kj,iW]at h
 case call c=>
  have⟨callee,args,ats⟩:=c;cases callee with
  |builtin b=>
   simp only[kj,iW]at h;cases b
   case append=>
    dsimp only at h;split at h
    .split at h
     .split at h
      .unfold EK at h
       repeat' split at h
       all_goals first
        | (cases h;done)
        | (cases h;cases hf;done)
      split at h
      .unfold EJ at h;split at h
       .split at h
        .split at h
         .cases h;cases hf
         .cases h
        .cases h
       .cases h
      .simp only[Dm]at h
       repeat' split at h
       all_goals first
        | (cases h;done)
        |exact SK h hf
        | (cases h;cases hf;done)
     .cases h
    .cases h
   all_goals
    dsimp only at h
    repeat' split at h
    all_goals first
     | (cases h;done)
     | (cases h;cases hf;done)
     | (obtain⟨_,_,rfl⟩:=dc.1 h;cases hf)
  |value f=>
   simp only[kj,iW]at h
   repeat' split at h
   all_goals first
    | (cases h;done)
    | (simp only[Dp]at h;repeat' split at h)
   all_goals first
    | (cases h;done)
    | (cases h;cases hf;done)
    | (cases h;cases hf;assumption)
    | (cases h;exact ab3 hf)
  |invoke _ _=>simp[kj,iW]at h
 all_goals
  simp only[kj,iW,Ms,Mn,Mr,Mo,Mp,Ka,EM]at h
  repeat' split at h
  all_goals first
   | (cases h;done)
   | (cases h;cases hf;done)
   | (obtain⟨_,_,rfl⟩:=dc.1 h;cases hf)
   |skip
 all_goals first
  | (have⟨_,_,h⟩:=awg.1 h;repeat' split at h)
  |skip
 all_goals first
  |exact SK h hf
  | (cases h;done)
  | (cases h;cases hf;done)
section
variable(h:xC P K T O σ o=al u)
def Qs:∃ x,kj P K T O σ o=al x/\x.rb=u.rb/\x.f=u.f:=by
 unfold xC at h;split at h
 .rename_i x k;split at h
  .split at h
   .cases h;exact⟨x,k,rfl,rfl⟩
   .cases h;exact⟨_,k,rfl,rfl⟩
  .cases h;exact⟨_,k,rfl,rfl⟩
 .cases h
def akr(g:∀ x,x ∈ o.op.operands->τ.op x=σ.op x)(y:∀ id,id ∈ u.rb->σ.bo id=τ.bo id)(e:σ.nl=τ.nl)(n:∀ id b,u.f = .new id b->τ.bo id=am):
 xC P K T O τ o=al u:=by
 have⟨t,k,z,v⟩:=Qs h;have:=akn (τ:=τ) k g (by rw[z];exact y) e (by rw[v];exact n);unfold xC at h ⊢;rw[k]at h;rw[this];exact h
end
section
variable(h:tD P K T O M σ o=al u)
def I7:th σ o.dst=aa/\u.rd=(looks M o).map σ.get/\((C4 M σ o=al aa/\∃ x,xC P K T O σ o=al x/\u={ x with rd:=(looks M o).map σ.get })\/(C4 M σ o=al ac/\u={ r:=.e<|.v<|.tuple #[],rd:=(looks M o).map σ.get })):=by
 unfold tD at h;split at h
 .rename_i i;split at h
  .rename_i w;split at h
   .rename_i x k;cases h;exact⟨i,rfl,.inl ⟨w,x,k,rfl⟩⟩
   .cases h
  .rename_i w;cases h;exact⟨i,rfl,.inr ⟨w,rfl⟩⟩
  .cases h
 .cases h
def Qp(g:∀ t,t ∈ looks M o->σ.get t=τ.get t)(v:∀ id,id ∈ u.rb->σ.bo id=τ.bo id)(e:σ.nl=τ.nl)(F:σ.n=τ.n)(n:∀ id b,u.f = .new id b->τ.bo id=am):
 tD P K T O M τ o=al u:=by
 have⟨i,_,w⟩:=I7 h;have l:th τ o.dst=th σ o.dst:=by cases o.dst<;>simp[th,F]
 have k:C4 M τ o=C4 M σ o:=by
  unfold C4;cases EX:o.guard with
  |none=>rfl
  |some s=>
   have⟨j,a⟩:=s;cases hd:(M[j]?).bind (·.dst)with
   |none=>simp[hd]
   |some t=>
    simp only[hd];rw[g t<|by unfold looks;rw[EX];simp[hd]]
 have N:(looks M o).map τ.get=(looks M o).map σ.get:=fh λt y=>(g t y).symm
 unfold tD;rw[l,i,k,N];simp only[bK];rcases w with⟨w,p,z,rfl⟩|⟨w,rfl⟩
 .rw [w];have W:∀ x,x ∈ o.op.operands->τ.op x=σ.op x:=by
   intro x r;have⟨f,q,_,_⟩:=Qs z;have m:=akp q r;refine apF λt y=>g t ?_
   subst y;unfold looks;exact List.mem_append_left _<|aos m
  simp only[akr z W v e n]
 .rw [w]
def Qq{id b}(f:u.f = .new id b):σ.bo id=am:=by
 obtain⟨_,_,⟨_,y,x,rfl⟩|⟨_,rfl⟩⟩:=I7 h
 .have⟨z,k,_,e⟩:=Qs x;exact ako k<|by rw[e];exact f
 .cases f
def akq(s:ug σ τ):tD P K T O M τ o=al u:=
 Qp h (λt _=>s.get t) (λi _=>s.bo i) s.nl s.n λi b f=>by rw[<-s.bo];exact Qq h f
end
def agu(h:ug σ τ)d u:ug (σ.app d u)<|τ.app d u:=
 ⟨by rw[Kj,Kj];exact h.n,by rw[Kn,Kn];exact h.nl,λt=>by rw[Jk,Jk,h.get],λi=>by rw[Ev,Ev,Ew,Ew,h.bo]⟩
def auc{s x y}(l:Bm M x y=aa)(r:tD P K T O M σ x.1=al x.2)(q:tD P K T s M (σ.app x.1.dst x.2) y.1=al y.2):
 tD P K T s M σ y.1=al y.2/\tD P K T O M (σ.app y.1.dst y.2) x.1=al x.2/\ug ((σ.app x.1.dst x.2).app y.1.dst y.2) ((σ.app y.1.dst y.2).app x.1.dst x.2):=by
 simp only[Bm,bN]at l;have⟨⟨⟨⟨⟨⟨⟨⟨⟨⟨⟨a,j⟩,o⟩,w⟩,X⟩,p⟩,Y⟩,Z⟩,U⟩,u⟩,m⟩,z⟩:=l;simp only[dN]at m z;have⟨_,V,_⟩:=I7 r;have⟨_,S,_⟩:=I7 q;have R:tD P K T s M σ y.1=al y.2:=by
  refine Qp q (λt v=>?_) (λd i=>De _ _ _ _ m λe=>NN w e i) (Kn _ _ _) (Kj _ _ _) λd b f=>?_
  .have g:(σ.app x.1.dst x.2).get t=(σ.get t).oN x.2.f:=by
    rw[Jk,bn λe=>NN a e v]
   rw[g];by_cases n:x.2.f.O4=aa
   .have E:SZ ((σ.get t).oN x.2.f)=aa:=by
     have c:y.2.rd.all SZ=aa:=by simpa[n]using U
     rw[S]at c;exact bZ.1 c _<|dF.2 ⟨t,v,g⟩
    rw[Ir m]at E ⊢;split at E
    .rename_i Q;rw[bt Q]
    .cases E
   .cases f:x.2.f<;>rw[f]at n<;>first|exact absurd rfl n|(cases σ.get t<;>rfl)
  .have:=Qq q f;rwa[De _ _ _ _ m λe=>OV p e (by rw[f];rfl) rfl]at this
 refine⟨R,?_,?_⟩
 .refine Qp r (λt v=>?_) (λd i=>(De _ _ _ _ z λe=>NN X e i).symm) (Kn _ _ _).symm (Kj _ _ _).symm λd b f=>?_
  .rw [Jk,bn λe=>NN o e v];rw[V]at u;exact(Su z<|bZ.1 u _<|dF.2 ⟨t,v,rfl⟩).symm
  .rw [De _ _ _ _ z λe=>OV p (by rw[f];rfl) e rfl];exact Qq r f
 .refine ⟨by simp only[Kj],by simp only[Kn],λt=>?_,λd=>?_⟩
  .simp only[Jk];by_cases h:x.1.dst=al t
   .have k:¬y.1.dst=al t:=λe=>OV j h e rfl
    rw[bn k,bt h,bt h,Su z Z]
   .by_cases k:y.1.dst=al t
    .rw [bt k,bn h,bt k,Su m Y]
    .rw [bn k,bn h,bn h,bn k,avc _ m z]
  .by_cases h:x.2.f.id=al d
   .have k:y.2.f.id≠al d:=λe=>OV p h e rfl
    rw[De _ _ _ _ z k,Ev,Ev,Ew,Ew,De _ _ _ _ z k]
   .rw [De _ _ x.2 _ m h];rw[Ev,Ev,Ew,Ew,De _ _ _ _ m h]
end
section
variable {P:aw} {K:ap->Prop} {T:List TI} {O:rT} {iz:Array Oper}
def yH(P:aw)(K:ap->Prop)(T:List TI)(iz:Array Oper):List (Oper×kZ)->PS->PS->Prop
 | [],σ,τ=>ug σ τ
 |x::l,σ,τ=>(∃ O,tD P K T O iz σ x.1=al x.2)/\yH P K T iz l (σ.app x.1.dst x.2) τ
def yH.qX{l σ k τ}(h:yH P K T iz l σ τ)(s:ug σ k):yH P K T iz l k τ:=by
 induction l generalizing σ k with
 |nil=>exact s.symm.trans h
 |cons x l i=>exact⟨h.1.imp λ_ h=>akq h s,i h.2<|agu s _ _⟩
def yH.Yl{A C y σ τ}(h:yH P K T iz (A++y::C) σ τ)(i:∀ x,x ∈ A->Bm iz x y=aa):
 (∃ O,tD P K T O iz σ y.1=al y.2)/\yH P K T iz (A++C) (σ.app y.1.dst y.2) τ:=by
 induction A generalizing σ with
 |nil=>exact h
 |cons x A k=>
  have⟨⟨u,v⟩,t⟩:=h;have⟨⟨s,r⟩,q⟩:=k t λz p=>i z<|by simp[p]
  have⟨n,m,l⟩:=auc (i x aK) v r;exact⟨⟨s,n⟩,⟨u,m⟩,q.qX l⟩
end
section
variable {P:aw} {K:ap->Prop} {T:List TI} {O:rT} {w0:mj} {B:Nat->Nat->Prop} {σ τ:PS} {o:Oper} {a:Act} {w:ap} {L:Lk} {u:kZ} {iz:Array Oper}
def afI(r:jy w0 B σ a w L){b}(h:C4 iz σ o=al b):Region.wanted o (yielded iz a.tmps)=b:=by
 unfold C4 at h;unfold Region.wanted;split at h
 .rename_i g;rw[g];simpa using h
 .rename_i j x g;rw[g];simp only;split at h
  .rename_i t y;have v:=r.ht t;have e:∀ q:Bool,σ.get t = .e (.v<|.bool q)->yielded iz a.tmps j=al q:=by
    intro q k;rw[k]at v;have v:=z.lr v;unfold yielded;rw[y];simp only[Option.bind_some];have i:a.tmps[t]? = al (.bool q):=by
     by_cases s:t<a.tmps.size
     .simpa [s]using v
     .simp [s,undef]at v
    rw[i]
   split at h
   .rename_i k;rw[e aa k];simp only[bQ]at h;subst h;cases x<;>rfl
   .rename_i k;rw[e ac k];simp only[bQ]at h;subst h;cases x<;>rfl
   .rename_i q k;rw[k]at v;have v:=z.lr v;have n:yielded iz a.tmps j=am:=by
     unfold yielded;rw[y];simp only[Option.bind_some];by_cases s:t<a.tmps.size
     .rw [show a.tmps[t]? = al (.tuple q)by simpa[s]using v]
     .simp [s]
    rw[n];simp only[bQ]at h;subst h;cases x<;>rfl
   .cases h
  .cases h
def Qr(s:mP P T)(g:Gd P K w0 B)(r:jy w0 B σ a w L)(h:tD P K T O iz σ o=al u)(p:∀ q,q ∈ u.ki->q)Kc Q(y:∀ z w' x,jy w0 B (σ.app o.dst u) z w' x->Kc z w'):
 (Region.wanted o (yielded iz a.tmps)=aa/\o.wp P a w Kc Q)\/(Region.wanted o (yielded iz a.tmps)=ac/\Kc (a.put o.dst undef) w):=by
 obtain⟨i,_,⟨k,t,n,rfl⟩|⟨k,rfl⟩⟩:=I7 h
 .refine .inl ⟨afI r k,aks s g r n p Kc Q λv w' x m l=>y _ w' x ?_⟩;have N:th (σ.pG t.f) o.dst=aa:=by cases hd:o.dst<;>rw[hd]at i<;>exact i
  exact m.put o.dst t.r v N l
 .exact .inr ⟨afI r k,y _ w L<|r.put o.dst (.e<|.v<|.tuple #[]) undef i<|.v _⟩
structure Left(iz:Array Oper)(listed:Array Bool)(R:List<|Nat×Oper×kZ):Prop where
 mL:∀ x,x ∈ R->iz[x.1]? = some x.2.1/\listed.getD x.1 true=false
 all:∀ i,i<iz.size->listed.getD i true=false->∃ x,x ∈ R/\x.1=i
 pw:R.Pairwise λx y=>x.1<y.1/\(uT iz 3 y.2.1 x.1||Bm iz x.2 y.2)=true
 ed:∀ x,x ∈ R->∀ e,e ∈ x.2.1.after->Region.binds .any e=true->e.on<x.1
 up:∀ x,x ∈ R->∀ j z,iz[j]? = some z->xY z x.1=true->listed.getD j true=false
def Left.uT{l R}(h:Left iz l R){x}(v:x ∈ R):∀ (n:Nat) (j:Nat) (z:Oper),iz[j]? = al z->Pu.uT iz n z x.1=aa ->
 l.getD j aa=ac/\∃ e,e ∈ z.after/\Region.binds .any e=aa/\l.getD e.on aa=ac/\e.on<iz.size:=by
 have d:∀ (j:Nat) (z:Oper),iz[j]? = al z->xY z x.1=aa->l.getD j aa=ac/\∃ e,e ∈ z.after/\Region.binds .any e=aa/\l.getD e.on aa=ac/\e.on<iz.size:=by
  intro j z y u;refine⟨h.up x v j z y u,?_⟩;unfold xY at u;have⟨e,G,k⟩:=dh.1 u;simp only[bN]at k;have q:=h.mL x v;refine⟨e,by simpa using G,k.1,?_,?_⟩
  .rw [lY.1 k.2];exact q.2
  .rw [lY.1 k.2];exact(cX.1 q.1).1
 intro n
 induction n with
 |zero=>exact d
 |succ n s=>
  intro j z y r;simp only[Pu.uT,eG]at r;rcases r with r|r
  .exact d j z y r
  .have⟨e,G,k⟩:=dh.1 r;simp only[bN]at k;have⟨k,C⟩:=k;split at C
   .rename_i p V;have⟨t,_⟩:=s e.on p V C;have i:=(cX.1 V).1;have⟨m,g,D⟩:=h.all e.on i t;refine⟨h.up m g j z y ?_,e,by simpa using G,k,t,i⟩;unfold xY;refine dh.2 ⟨e,G,?_⟩;rw[k,D];simp
   .cases C
def Eb{m l i}:i ∈ Region.ready m iz l↔i<iz.size/\l.getD i aa=ac/\∃ o,iz[i]? = al o/\∀ e,e ∈ o.after->Region.binds m e=aa->l.getD e.on ac=aa:=by
 unfold Region.ready;rw[List.mem_filter];simp only[ca,bN,dN];constructor
 .rintro ⟨h,k,x⟩;refine⟨h,k,iz[i],by simp[h],λe y b=>?_⟩;rw[Array.getElem?_eq_getElem h]at x;simp only[cJ,awN,awP]at x;have:=x e y;simpa[b]using this
 .rintro ⟨h,k,o,x,z⟩;refine⟨h,k,?_⟩;rw[x];simp only[cJ,awN,awP];intro e y;cases b:Region.binds m e with
  |false=>rfl
  |true=>simpa using z e y b
def agm(hT:mP P T)(g:Gd P K w0 B){Q}(hq:∀ c w' zy,jy w0 B τ c w' zy->Q .normal c w'):
 ∀ (f:Nat) (l:Array Bool) (R:List<|Nat×Oper×kZ) (σ:PS) (a:Act) (w:ap) (L:Lk),R.length=f->l.size=iz.size->Left iz l R->(∀ x,x ∈ R->∀ q,q ∈ x.2.2.ki->q) ->
  yH P K T iz (R.map (·.2)) σ τ->jy w0 B σ a w L->wpAny P .any iz Q f l a w:=by
 intro f
 induction f with
 |zero=>
  intro l R σ a w L v n h V b r;have hR:=dM v;subst hR;refine⟨?_,hq a w L<|r.qX b⟩;apply axa.2;intro i S;have⟨N,M,_⟩:=Eb.1 S;have⟨x,k,_⟩:=h.all i N M;simp at k
 |succ f ih=>
  intro l R σ a w L v n h V b r;refine⟨λAn=>?_,λi S=>?_⟩
  .
   exfalso;cases R with
   |nil=>simp at v
   |cons x R=>
    have k:=h.mL x aK;have F:x.1<iz.size:=(cX.1 k.1).1;have:x.1 ∈ Region.ready .any iz l:=Eb.2 ⟨F,k.2,x.2.1,k.1,λe s hb=>by
     have Fb:=h.ed x aK e s hb;cases u:l.getD e.on aa with
     |true=>
      have:e.on<l.size:= U ;simp[this]at u ⊢;exact u
     |false=>
      exfalso;have⟨y,p,Fm⟩:=h.all e.on U u;rcases dg.1 p with p|p
      .subst p;omega
      .have:=(gF.1 h.pw).1 y p;omega⟩
    rw[An]at this;simp at this
  .have⟨N,M,o,X,W⟩:=Eb.1 S;have⟨y,p,R1⟩:=h.all i N M;subst R1;obtain⟨A,C,rfl⟩:=List.append_of_mem p;have Y:=h.mL y p;have Rq:∀ x,x ∈ A->Bm iz x.2 y.2=aa:=by
    intro x k;have hp:=(gG.1 h.pw).2.2 x k y aK;rcases awQ.1 hp.2 with s|s
    .exfalso;have⟨_,e,E,d,t,F⟩:=h.uT (show x ∈ A++y::C by simp[k]) 3 y.1 y.2.1 Y.1 s;have sQ:o=y.2.1:=by rw[Y.1]at X;exact(ig X).symm
     have u:=W e (by rw[sQ];exact E) d;have H:e.on<l.size:=by rw[n];exact F
     simp[H]at u t;rw[u]at t;cases t
    .exact s
   rw[fU,ew]at b;have⟨⟨O,k1⟩,k2⟩:=b.Yl (λx k=>by
    obtain⟨z,m,rfl⟩:=dF.1 k;exact Rq z m)
   have Ry:Left iz (l.setIfInBounds y.1 aa)<|A++C:=by
    have jY:∀ x,x ∈ A++C->x.1≠y.1:=by
     intro x k;rcases dP.1 k with k|k
     .have:=((gG.1 h.pw).2.2 x k y aK).1;omega
     .have:=((gF.1 (gG.1 h.pw).2.1).1 x k).1;omega
    have Z:∀ x,x ∈ A++C->x ∈ A++y::C:=λx k=>by
     rcases dP.1 k with k|k<;>simp[k]
    refine⟨λx k=>?_,λj hj u=>?_,?_,λx k=>h.ed x<|Z x k,λx k j z m s=>?_⟩
    .have⟨q1,q2⟩:=h.mL x<|Z x k;refine⟨q1,?_⟩;have H:x.1<l.size:=by rw[n];exact(cX.1 q1).1
     simp[H]at q2 ⊢;rw[awh _ λe=>jY x k e.symm];exact q2
    .have G:j<l.size:= U ;by_cases D:j=y.1
     .subst D;simp[G]at u
     .have:l.getD j aa=ac:=by
       simp[G]at u ⊢;rw[awh _ λe=>D e.symm]at u;exact u
      have⟨x,k,Fl⟩:=h.all j hj this;refine⟨x,?_,Fl⟩;rcases dP.1 k with k|k
      .simp [k]
      .rcases dg.1 k with k|k
       .subst k;exact absurd Fl.symm D
       .simp [k]
    .exact h.pw.sublist<|List.Sublist.append (List.Sublist.refl A)<|List.sublist_cons_self y C
    .have q:=h.up x (Z x k) j z m s;have G:j<l.size:=by rw[n];exact(cX.1 m).1
     by_cases D:j=y.1
     .exfalso;subst D;rw[Y.1]at m X;cases m;cases X;unfold xY at s;have⟨e,E,d⟩:=dh.1 s;simp only[bN]at d;have u:=W e (by simpa using E) d.1;rw[lY.1 d.2]at u;have t:=(h.mL x<|Z x k)
      have H:x.1<l.size:=by rw[n];exact(cX.1 t.1).1
      have t:=t.2;simp[H]at u t;rw[u]at t;cases t
     .simp [G]at q ⊢;rw[awh _ λe=>D e.symm];exact q
   unfold wpOp;rw[Y.1];simp only;rcases Qr hT g r k1 (V y aK) (wpAny P .any iz Q f<|l.setIfInBounds y.1 aa) Q (λc w' zy hr=>ih _ (A++C) _ c w' zy (by simp at v ⊢;omega) (by simpa using n) Ry (λx k=>V x (by
    rcases dP.1 k with k|k<;>simp[k])) (by rw[fU];exact k2) hr)with⟨I,J⟩|⟨I,J⟩
   .rw [bt I];exact .inl J
   .rw [bn<|by rw[I];simp];exact J
def anM{s}(f:s.map (·.1)=iz.toList)(p:BA iz 0 s=aa):
 ∃ R:List<|Nat×Oper×kZ,R.map (·.2)=s/\R.length=iz.size/\Left iz (bi iz.size ac) R:=by
 have n:∀ (s:List<|Oper×kZ) (k:Nat),BA iz k s=aa->(∀ j x,s[j]? = al x->iz[k+j]? = al x.1) ->
  ∃ R:List<|Nat×Oper×kZ,R.map (·.2)=s/\(∀ j x,R[j]? = al x->x.1=k+j)/\(∀ x,x ∈ R->iz[x.1]? = al x.2.1)/\(R.Pairwise λx y=>x.1<y.1/\(uT iz 3 y.2.1 x.1||Bm iz x.2 y.2)=aa) /\
   (∀ x,x ∈ R->∀ e,e ∈ x.2.1.after->Region.binds .any e=aa->e.on<x.1):=by
  intro s
  induction s with
  |nil=>exact λk _ _=>⟨[],rfl,λj x h=>by simp at h,λx h=>by simp at h,List.Pairwise.nil,λx h=>by simp at h⟩
  |cons x s b=>
   intro k p d;simp only[BA,bN]at p;have⟨R,r,t,q,m,g⟩:=b (k+1) p.2 (λj y u=>by have:=d (j+1) y (by simpa using u);rwa[(U:k+(j+1)=k+1+j)]at this);have c:∀ y,y ∈ R->k<y.1/\y.2 ∈ s:=by
    intro y u;have⟨j,a⟩:=dJ.1 u;have:=t j y a;exact⟨U,by rw[<-r];exact dF.2 ⟨y,u,rfl⟩⟩
   refine⟨(k,x)::R,by simp[r],λj y u=>?_,λy u=>?_,?_,λy u=>?_⟩
   .cases j with
    |zero=>simp at u;subst u;rfl
    |succ j=>have:=t j y (by simpa using u);omega
   .rcases dg.1 u with u|u
    .subst u;have:=d 0 x rfl;simpa using this
    .exact q y u
   .rw [gF];refine⟨λy u=>⟨(c y u).1,?_⟩,m⟩;exact bZ.1 p.1.2 y.2 (c y u).2
   .rcases dg.1 u with u|u
    .subst u;intro e o w;have:=bZ.1 p.1.1 e (by simpa using o);simpa[w]using this
    .exact g y u
 have⟨R,r,t,q,m,g⟩:=n s 0 p (λj x v=>by
  rw[ct];have:=congrArg (·[j]?) f;simp only[cQ,v,cJ]at this;simpa using this.symm)
 have l:R.length=iz.size:=by
  have X:=congrArg List.length r;have Y:=congrArg List.length f;simp at X Y;omega
 refine⟨R,r,l,λx v=>⟨q x v,?_⟩,λi V _=>?_,m,g,λx v j z Z _=>by have:=(cX.1 Z).1;simp[this]⟩
 .have:=(cX.1<|q x v).1;simp[this]
 .have N:i<R.length:= U ;exact⟨R[i],cT N,by have:=t i R[i] (bH N);omega⟩
end
def PS.le(σ τ:PS):Prop:=∀ (h:mj) (B:Nat->Nat->Prop) (a:Act) (w:ap) (L:Lk),(∀ b o,B b o->h.pX b)->jy h B σ a w L->∃ x,jy h B τ a w x
def PS.le.refl σ:PS.le σ σ:=λ_ _ _ _ L _ r=>⟨L,r⟩
def PS.le.trans{σ τ x}(h:PS.le σ τ)(k:PS.le τ x):PS.le σ x:=λy B a w L g r=>let⟨z,u⟩:=h y B a w L g r;k y B a w z g u
def PV.le.refl p:PV.le p p:=λ_ _ _ _ _ h=>h
def Bx.le(a b:Bx):Prop:=(a.nl=aa->b.nl=aa)/\∀ (s:Nat->Nat->Prop) (r:Nat->Prop) (L:Lk) (w:ap) (i:Nat),qY s r L w i a->qY s r L w i b
def Bx.le.refl a:Bx.le a a:=⟨id,λ_ _ _ _ _ h=>h⟩
def AO(σ:PS):List (Nat×PV)->Prop
 | []=>True
 | (k,p)::l=>PV.le (σ.get k) p/\AO σ l
def zP(σ:PS):List (Nat×Bx)->Prop
 | []=>True
 | (id,b)::l=>(∃ h,σ.bo id=al h/\Bx.le h b)/\zP σ l
def KM(τ:PS):Bool:=τ.t.all λx=>x.2.mK.all λi=>(look τ.b i).isSome
def SE{u l t}{x:u}(h:look l t=al x):(t,x) ∈ l:=by
 induction l with
 |nil=>cases h
 |cons y l i=>
  have⟨k,z⟩:=y;rw[uP]at h;split at h
  .rename_i e;cases h;subst e;exact .head _
  .exact .tail _<|i h
def AO.get{σ l}(h:AO σ l){t p}(k:look l t=al p):PV.le (σ.get t) p:=by
 induction l with
 |nil=>cases k
 |cons y l i=>
  have⟨q,z⟩:=y;rw[uP]at k;split at k
  .rename_i e;cases k;subst e;exact h.1
  .exact i h.2 k
def zP.get{σ l}(h:zP σ l){t b}(k:look l t=al b):∃ b',σ.bo t=al b'/\Bx.le b' b:=by
 induction l with
 |nil=>cases k
 |cons y l i=>
  have⟨q,z⟩:=y;rw[uP]at k;split at k
  .rename_i e;cases k;subst e;exact h.1
  .exact i h.2 k
def PS.le.oE{σ τ}(m:σ.n=τ.n)(e:τ.nl=σ.nl)(l:KM τ=aa)(f:AO σ τ.t)(u:zP σ τ.b):PS.le σ τ:=λo B a w L _ r=>by
 let n:Lk:=⟨λi=>L.nc i/\(τ.bo i).isSome=aa,λi x=>L.own i x/\(τ.bo i).isSome=aa,L.val,L.jg⟩
 have V:tw L w n w:=⟨bA _,λx _ ⟨i,h,_⟩=>⟨i,h⟩,λ_ _ _=>rfl⟩
 refine⟨n,r.hd,by rw[<-m];exact r.hs,λt=>?_,λi b h=>?_,λi=>?_,λi x h=>⟨r.hn i x h.1,h.2⟩,λi x h=>r.hw i x h.1,λi d x h k=>r.hi i d x h.1 k.1,r.he,λh i b k=>?_⟩
 .have g:τ.get t=((look τ.t t)).getD (.e .any):=rfl;cases hl:look τ.t t with
  |none=>rw[g,hl];exact .any _
  |some p=>
   rw[g,hl];have:=f.get hl _ _ _ _ _<|r.ht t;refine nN.move V this λi v c=>⟨⟨c,?_⟩,rfl,λ_=>rfl⟩
   have q:=bZ.1 l _<|SE hl;exact bZ.1 q i v
 .have⟨z,y,s⟩:=u.get h;have j:(τ.bo i).isSome=aa:=by rw[h];rfl
  exact(s.2 _ _ _ _ _<|r.hb i z y).later V rfl (λx=>⟨λq=>q.1,λq=>⟨q,j⟩⟩) (λ_=>rfl) λ_ _=>rfl
 .show L.nc i/\(τ.bo i).isSome=aa↔(τ.bo i).isSome=aa;refine⟨λh=>h.2,λh=>⟨(r.hv i).2 ?_,h⟩⟩;have⟨b,D⟩:=ie.1 h;have⟨z,y,_⟩:=u.get D;rw[y];rfl
 .have⟨z,y,s⟩:=u.get k;exact s.1<|r.hl (by rw[<-e];exact h) i z y
def IT(σ:PS):List Nat->List (Nat×Bx)
 | []=>[]
 |i::l=>match σ.bo i with
  |some b=>(i,b)::IT σ l
  |none=>IT σ l
def PS.cut(s bs:List Nat)(σ:PS):PS:={ n:=σ.n,nl:=σ.nl,t:=s.map λt=>(t,σ.get t),b:=IT σ bs }
def AO.cut σ:∀ s:List Nat,AO σ (s.map λt=>(t,σ.get t))
 | []=>trivial
 |_::l=>⟨PV.le.refl _,AO.cut σ l⟩
def zP.cut σ:∀ bs:List Nat,zP σ (IT σ bs)
 | []=>trivial
 |i::l=>by
  unfold IT;split
  .rename_i b h;exact⟨⟨b,h,Bx.le.refl b⟩,zP.cut σ l⟩
  .exact zP.cut σ l
def PS.le.cut{σ}ts bs(h:KM (σ.cut ts bs)=aa):PS.le σ<|σ.cut ts bs:=PS.le.oE rfl rfl h (AO.cut σ ts) (zP.cut σ bs)
def Ex.to:Ex->Exit
 | .normal=>.normal
 | .exit id=>.exit id
 | .ret=>.ret
def Sp(P:aw)(K:ap->Prop)(c:Code)(σ:PS)(Q:Ex->PS->Prop):Prop:=
 ∀ (h:mj) (B:Nat->Nat->Prop) (a:Act) (w:ap) (L:Lk),Gd P K h B->jy h B σ a w L->c.wp P (λe y z=>∃ x k u,e=x.to/\Q x k/\jy h B k y z u) a w
def Sp.mono{P K c σ Q x}(h:Sp P K c σ Q)(q:∀ e τ,Q e τ->x e τ):Sp P K c σ x:=
 λk B a w L g r=>Code.wp_mono (λ_ _ _ ⟨y,τ,z,u,v,t⟩=>⟨y,τ,z,u,q _ _ v,t⟩)<|h k B a w L g r
abbrev Lo:=List<|Nat×(Ex×PS×List Nat×List Nat)
section
variable {P:aw} {K:ap->Prop} {T:List TI} {O:rT} {l:Lo}
def Sp.loop{b Q}(J:Nat->PS->Prop)(I:∀ n σ,J n σ->Sp P K b σ (λe τ=>(e = .normal/\∃ m,m<n/\J m τ)\/(e ≠ .normal/\Q e τ))):
 ∀ n σ,J n σ->Sp P K (.loop b) σ Q:=by
 intro V f d c B T S R g N j k o;have X:∀ n σ a w L,J n σ->jy c B σ a w L ->
  ∃ e s p,(∃ l τ M,e=l.to/\Q l τ/\jy c B τ s p M)/\Arrives P (lone (j.at a<|.code b :: .inLoop b::k) o w) j k o e s p:=by
  intro n
  induction n using Nat.strongRecOn with
  |_ n H=>
   intro σ a w L G r;obtain⟨e,h,y,⟨l,Y,Z,rfl,q,U⟩,z⟩:=I n σ G c B a w L g r j (.inLoop b::k) o;rcases q with⟨rfl,m,F,E⟩|⟨D,q⟩
   .have⟨u,v,t,C,A⟩:=H m F Y h y Z E U;exact⟨u,v,t,C,.of_steps (Steps.trans z<|.one step_inLoop) A⟩
   .cases l with
    |normal=>exact absurd rfl D
    |exit i=>exact⟨_,h,y,⟨.exit i,Y,Z,rfl,q,U⟩,.pass (x:=.inLoop b) rfl (λ_ _=>.inl<|by simp[Ex.to]) z⟩
    |ret=>exact⟨_,h,y,⟨.ret,Y,Z,rfl,q,U⟩,.pass (x:=.inLoop b) rfl (λ_ _=>.inl<|by simp[Ex.to]) z⟩
 have⟨e,s,p,q,z⟩:=X V f T S R d N;exact⟨e,s,p,q,.of_steps (.one step_loop) z⟩
def auI{H B σ a w L}(A:∀ b o,B b o->H.pX b)(r:jy H B σ a w L){p e}(h:K5 σ p=al e){v}(R:nN (jt B L) (jq L) L w p v):
 z B (λ_=>True) w e v:=by
 have G:∀ d x o,L.own d x->¬B x o:=λd x o Y I=>(r.hw d x Y).1<|A x o I
 have own:∀ (v:av) (T:TypeId) (n s:Nat) (f:Nat->Nat->av) (t:Bool) (l:Nat->Nat->E) (d:Nat),nU w v T n s f t->(∀ x,v.ownBlock=al x->L.own d x) ->
  (∀ i j,i<n->j<s->z (jt B L) (jq L) w (l i j) (f i j)/\(l i j).nr 2=aa)->z B (λ_=>True) w (.sl t n s l) v:=by
  intro v T n s f t l d m g X;rcases m with⟨rfl,rfl⟩|⟨b,q,c,V,rfl,J,K,O,pP,P,W⟩
  .exact .sl t 0 s l am 0 f (bA _) aG (λ_=>rfl) (λi j y=>absurd y<|bD i) (λi j y=>absurd y<|bD i) (λi j y=>absurd y<|bD i) λi j y=>absurd y<|bD i
  .have Q:=g b rfl;refine .sl t n s l _ c f K (by unfold maxLen at O;omega) (λh=>by cases h) (λi j y u=>⟨(P i j y u).2,λN=>W N _<|dG (P i j y u).1⟩) (λi j y u=>(X i j y u).2)
    (λi j y u=>⟨b,q,rfl,G d b _ Q,(r.hw d b Q).2,?_⟩) (λi j y u=>((X i j y u).1.qS (λ_ _ h=>.inl h) λ_ h=>h).nr 2 (X i j y u).2)
   simp only[aC,J];simpa using(P i j y u).1
 cases p with
 |e x=>
  simp only[K5]at h;split at h
  .rename_i N;cases h;exact(z.qS (bs':=B) (br':=jq L) (λ_ _ h=>.inl h) (λ_ h=>h) R).nr 3 N
  .cases h
 |own d=>
  obtain⟨_,rfl⟩:=R;simp only[K5]at h;split at h
  .rename_i t T n s l D;cases h;have⟨f,m,g,X⟩:=r.hb d _ D;exact own _ T n s f t l d m (λx Y=>(g x).2 Y) X
  .rename_i t T1 M n s Z l D;cases h;rcases r.hb d _ D with⟨m,g,_⟩|jP
   .subst g;rw[m];exact .sl aa 0 1 _ am 0 (λ_ _=>undef) (bA _) aG (λ_=>rfl) (λi j y=>absurd y<|bD i) (λi j y=>absurd y<|bD i) (λi j y=>absurd y<|bD i) λi j y=>absurd y<|bD i
   have⟨b,q,c,V,f,m,g,X,F,h5,C,h7,zy,S,qa,qE⟩:=jP;have Q:L.own d b:=(S b).2<|.inl rfl;rw[m];refine .sl aa n 1 _ _ c (λk _=>L.jg d k) X (by unfold maxLen at F;omega) (λh=>by cases h) (λk j zx u=>?_) (λk j zx u=>rfl)
    (λk j zx u=>⟨b,q,rfl,G d b _ Q,(r.hw d b Q).2,?_⟩) (λk j zx u=>own _ M (Z k) s (f k) t (l k) d (zy k zx).1 (λx Y=>(S x).2<|.inr ⟨k,zx,Y⟩) (zy k zx).2)
   .have⟨_,q1,q2⟩:=(zy k zx).1.head;exact⟨q1,λ_=>q2⟩
   .rw [cr];obtain rfl:j=0:= U ;simp only[aC,g];simpa using C k zx aK 
  .cases h
 |jg d k=>
  obtain⟨_,rfl⟩:=R;simp only[K5]at h;split at h
  .rename_i t T1 M n s Z l D;split at h
   .rename_i zx;have zx:k<n:=by simpa[gl]using zx
    cases h;have⟨b,q,c,V,f,m,g,X,F,h5,C,h7,zy,S,qa,qE⟩:=(r.hb d _ D).xm U;exact own _ M (Z k) s (f k) t (l k) d (zy k zx).1 (λx Y=>(S x).2<|.inr ⟨k,zx,Y⟩) (zy k zx).2
   .cases h
  .cases h
 |_=>cases h
def FQ(m:Array av):ResultVar->Sem av
 | .tmp t=>Pure.pure<|m.getD t undef
 | .cell q t=>do loadVar t (<-asAddr (m.getD q undef))
def TW fn t:results fn t=(do
 let vs <-fn.results.mapM (FQ t)
 Pure.pure (if h:vs.size=1 then vs[0]else .tuple vs)):=by
 unfold results;congr 1
section
variable{h:mj}{B:Nat->Nat->Prop}{σ:PS}{a:Act}{w:ap}{L:Lk}(R:mP P T)(Q:∀ b o,B b o->h.pX b)(r:jy h B σ a w L)
def arW{x e}(h:TU T σ x=al e):
 ∃ v,(FQ a.tmps x).run P w = .ok v w/\z B (λ_=>True) w e v:=by
 cases x with
 |tmp t=>exact⟨_,rfl,auI Q r h<|r.ht t⟩
 |cell q t=>
  simp only[TU]at h;split at h
  .rename_i i p;split at h
   .rename_i l Y N;have⟨b,o,m,g,f,c,d⟩:=r.read (r.ht q) N (λq j=>by simp at j);by_cases k:i.isAgg=aa
    .rw [bt k]at h;split at h
     .rename_i n;cases h;refine⟨.agg m.toArray,?_,(z.qS (bs':=B) (br':=jq L) (λ_ _ h=>.inl h) (λ_ h=>h) f.agg).nr 3 n⟩;simp only[FQ,g,asAddr,Sem.run_bind,Sem.run_pure,Result.andThen_ok,adY R w p k b o m c d]
     .cases h
    .rw [bn k]at h;split at h
     .rename_i y;split at h
      .rename_i n;cases h;obtain⟨u,Z,rfl,X,_⟩:=f.nm;refine⟨u,?_,(z.qS (bs':=B) (br':=jq L) (λ_ _ h=>.inl h) (λ_ h=>h) X).nr 3 n⟩;simp only[FQ,g,asAddr,Sem.run_bind,Sem.run_pure,Result.andThen_ok,Ud R w p (by simpa using k) b o u<|by simpa using d 0 u rfl]
      .cases h
     .cases h
   .cases h
  .cases h
def arV{l s}(h:Hz T σ l=al s):
 ∃ vs,(l.mapM<|FQ a.tmps).run P w = .ok vs w/\lf B (λ_=>True) w s vs:=by
 induction l generalizing s with
 |nil=>simp only[Hz,bQ]at h;subst h;exact⟨[],rfl,.nil _ _ _⟩
 |cons x l i=>
  simp only[Hz]at h;split at h
  .rename_i e k y z;cases h;have⟨v,q,u⟩:=arW R Q r y;have⟨vs,p,t⟩:=i z;refine⟨v::vs,?_,.cons u t⟩;rw[gE];simp only[Sem.run_bind,q,Result.andThen_ok,p,Sem.run_pure]
  .cases h
def adC{fn e}(h:KN T fn σ=al e):
 ∃ v,(results fn a.tmps).run P w = .ok v w/\z B (λ_=>True) w e v:=by
 unfold KN at h;have m:∀ u,Hz T σ fn.results.toList=al u->∃ s:List av,(fn.results.mapM<|FQ a.tmps).run P w = .ok s.toArray w/\lf B (λ_=>True) w u s:=by
  intro u t;have⟨s,k,x⟩:=arV R Q r t;refine⟨s,?_,x⟩;rw[axb];simp only[Sem.run_map,k,Result.andThen_ok]
 split at h
 .rename_i y q;cases h;have⟨s,k,x⟩:=m _ q;obtain⟨v,p,rfl,n,A⟩:=x.nm;have:=A.sj;subst this;refine⟨v,?_,n⟩;rw[TW,Sem.run_bind,k];simp
 .rename_i l j g;cases h;have⟨s,k,x⟩:=m _ g;refine⟨.tuple s.toArray,?_,x.iO⟩;rw[TW,Sem.run_bind,k];have d:¬s.length=1:=by
   rw[x.len];intro f
   match l,f with
   | [y],_=>exact j y rfl
  simp[d]
 .cases h
end
def am7 a:∀ (k t:Nat),look (JU k a) t=if k<=t then(a[t-k]?).map .e else am:=by
 induction a with
 |nil=>intro k t;simp[JU,look]
 |cons x l i=>
  intro k t;simp only[JU];rw[uP,i (k+1) t];by_cases h:k=t
  .subst h;simp
  .rw [bn h];by_cases y:k<=t
   .rw [bt U,bt y,(U:t-k=(t-(k+1))+1)];simp
   .rw [bn U,bn y]
def jy.init{B w fn a vs}(r:lf B (λ_=>False) w a vs)(n:a.length<=fn.ntmps)nl(_hB:∀ b o,B b o->b<w.heap.size/\pR w b):
 jy ⟨w,λ_=>False⟩ B (Ct fn nl a) { tmps:=vs.toArray++bi (fn.ntmps-vs.toArray.size) undef,defers:=[] } w ⟨λ_=>False,λ_ _=>False,λ_=>undef,λ_ _=>undef⟩:=by
 have l:=r.len;refine⟨rfl,by simp[Ct];omega,λt=>?_,λid b x=>(by cases x),λid=>⟨λh=>h.elim,λh=>(by cases h)⟩,λ_ _ h=>h.elim,λ_ _ h=>h.elim,λ_ _ _ h=>h.elim,qZ.refl _ _,λ_ id b x=>(by cases x)⟩;have g:(Ct fn nl a).get t=((a[t]?).map PV.e).getD (.e .any):=by
  unfold PS.get Ct;rw[am7];simp
 rw[g];by_cases k:t<a.length
 .have G:t<vs.length:= U ;rw[bH k];have v:(vs.toArray++bi (fn.ntmps-vs.toArray.size) undef).getD t undef=vs[t]:=by
   simp[Array.getElem?_append,G]
  show z _ _ _ _ _;rw[v];exact(r.kP t _ _ (bH k)<|bH G).qS (λb o h=>h.elim id λ⟨_,h⟩=>h.elim) λ_ ⟨_,h⟩=>h.elim
 .rw [cM U];exact .any _
def PC.SL(t:mP P T)(U:P.follows .mixedOrders=aa)(p:∀ w w',K w->Below w.heap.size w w'->K w'){f fn c a j}(A:∀ (vs:Array av) (w:ap),(callFunc f vs).run P w = .ok (.enter f vs) w)(s:P.funcs[f]? = al fn)(x:fn.body=al c)(n:a.length<=fn.ntmps)nl(h:Sp P K c (Ct fn nl a) (λe τ=>(e = .ret\/e = .normal)/\∃ r,KN T fn τ=al r/\∀ (bs:Nat->Nat->Prop) (br:Nat->Prop) (w:ap) (v:av),z bs br w r v->z bs br w j v)):PC P K f a j:=by
 refine⟨A,λw B vs q y m=>calls_of_wp s x ?_⟩;have d:=jy.init (fn:=fn) m n nl y;have g:Gd P K ⟨w,λ_=>False⟩ B:=⟨λw' k=>p _ _ q k.below,λb o x=>⟨⟨(y b o x).1,λh=>h⟩,(y b o x).2⟩⟩
 refine Code.wp_mono ?_ (h ⟨w,λ_=>False⟩ B _ w _ g d);rintro e Q w' ⟨V,τ,L,rfl,⟨i,r,X,l⟩,S⟩;have⟨v,Y,Z⟩:=adC t (λb o x=>(g.hB b o x).1) S X;have J:Q.defers=[]/\∃ v,(results fn Q.tmps).run P w' = .ok v w'/\∃ u,Ending.returned v = .returned u/\Below w.heap.size w w'/\z B (λ_=>True) w' j u:=⟨S.hd,v,Y,v,rfl,S.he.below,l _ _ _ _ Z⟩
 rcases i with rfl|rfl
 .exact J
 .exact J
def wJ.SL(hT:mP P T)(hm:P.follows .mixedOrders=aa)(U:∀ w w',K w->Below w.heap.size w w'->K w'){f fn c a}(A:∀ (vs:Array av) (w:ap),(callFunc f vs).run P w = .ok (.enter f vs) w)(V:P.funcs[f]? = al fn)(y:fn.body=al c)(R:a.length<=fn.ntmps)nl{l T0 n sz el}(h:Sp P K c (Ct fn nl a) (λe τ=>(e = .ret\/e = .normal)/\∃ t id b,fn.results.toList=[.tmp t]/\τ.get t = .own id/\τ.bo id=al b/\∀ (bs:Nat->Nat->Prop) (br:Nat->Prop) (L:Lk) (w:ap),qY bs br L w id b->qY bs br L w id (.row l T0 n sz el))):wJ P K f a l T0 n sz el:=by
 refine⟨A,λw B vs Q u N=>calls_of_wp V y ?_⟩;have M:=jy.init (fn:=fn) N R nl u;have s:Gd P K ⟨w,λ_=>False⟩ B:=⟨λw' k=>U _ _ Q k.below,λb o y=>⟨⟨(u b o y).1,λh=>h⟩,(u b o y).2⟩⟩
 refine Code.wp_mono ?_ (h ⟨w,λ_=>False⟩ B _ w _ s M);rintro e r w' ⟨ex,τ,q,rfl,⟨H,t,id,b,G,s,D,p⟩,S⟩;have Y:=S.ht t;rw[s]at Y;have⟨uk,F⟩:=Y;have⟨f0,E,Z,m⟩:=p _ _ _ _<|S.hb id b D;have C:(results fn r.tmps).run P w' = .ok (q.val id) w':=by
  rw[TW,Sem.run_bind,axb,G,Sem.run_map,gE];simp only[FQ,Sem.run_bind,Sem.run_pure,Result.andThen_ok,List.mapM_nil,F];simp
 have J:r.defers=[]/\∃ v,(results fn r.tmps).run P w' = .ok v w'/\∃ W,Ending.returned v = .returned W/\Below w.heap.size w w'/\∃ g,nU w' W T0 n sz g l/\(∀ x,W.ownBlock=al x->w.heap.size<=x/\x<w'.heap.size) /\
  ∀ i j,i<n->j<sz->z (λb o=>B b o\/W.ownBlock=al b) (λ_=>True) w' (el i j) (g i j)/\(el i j).nr 2=aa:=by
  refine⟨S.hd,_,C,_,rfl,S.he.below,f0,E,λx I=>S.amS<|(Z x).2 I,λi j d X=>⟨?_,(m i j d X).2⟩⟩;refine((m i j d X).1.qS (bs':=λb o=>B b o\/(q.val id).ownBlock=al b) (br':=jq q) (λb o y=>?_) λ_ h=>h).nr 2 (m i j d X).2;rcases y with y|y
  .exact .inl y
  .exact .inr ⟨id,(Z b).2 y⟩
 rcases H with rfl|rfl
 .exact J
 .exact J
end
def Lq(P:aw):List TI->Prop
 | []=>True
 |x::l=>(P.underlying x.id=al x.d/\P.info? x.id=al x.i)/\Lq P l
def Lq.ok{P T}(h:Lq P T):mP P T:=by
 induction T with
 |nil=>intro x k;simp at k
 |cons y l i=>
  intro x k;rcases dg.1 k with k|k
  .subst k;exact h.1
  .exact i h.2 x k
def E.le(p q:E):Prop:=∀ (b:Nat->Nat->Prop) (r:Nat->Prop) (w:ap) (v:av),z b r w p v->z b r w q v
def E.le.refl p:E.le p p:=λ_ _ _ _ h=>h
def E.le.jB{p q}(h:p=q):E.le p q:=h▸E.le.refl p
def E.le.trans{p q r}(h:E.le p q)(k:E.le q r):E.le p r:=λ_ _ _ _ x=>k _ _ _ _<|h _ _ _ _ x
def PV.le.e{p q}(h:E.le p q):aj p q:=λb r _ w v k=>h b r w v k
def PV.le.bool{a b}(h:a=b):aj (.v<|.bool a)<|.v<|.bool b:=PV.le.e<|.jB<|by rw[h]
def PV.le.int{k a b}(h:a=b):aj (.v<|.int k a)<|.v<|.int k b:=PV.le.e<|.jB<|by rw[h]
def aq a b(h:a=b):aj (.v<|.int .i64 a)<|.v<|.int .i64 b:=.int h
inductive wI:List E->List E->Prop
 |nil:wI [] []
 |cons {p q:E} {l m:List E} (h:E.le p q) (k:wI l m):wI (p::l)<|q::m
def wI.refl:∀ l:List E,wI l l
 | []=>.nil
 |p::l=>.cons (.refl p)<|wI.refl l
def wI.Oi{l m}(h:wI l m){bs br w vs}(k:lf bs br w l vs):lf bs br w m vs:=by
 induction h generalizing vs with
 |nil=>exact k
 |cons h _ i=>
  obtain⟨x,s,rfl,y,z⟩:=k.nm;exact .cons (h _ _ _ _ y)<|i z
def E.le.agg{l m}(h:wI l m):E.le (.agg l)<|.agg m:=λ_ _ _ _ k=>by
 obtain⟨v,rfl,r⟩:=z.Eu k;exact(h.Oi r).agg
def E.le.iO{l m}(h:wI l m):E.le (.iO l)<|.iO m:=λ_ _ _ _ k=>by
 obtain⟨v,rfl,r⟩:=z.afx k;exact(h.Oi r).iO
def E.le.nil nl sz el:E.le (.v<|.slice am 0 0)<|.sl nl 0 sz el:=λ_ _ _ _ k=>by
 obtain rfl:=z.lr k;exact .sl nl 0 sz el am 0 (λ_ _=>undef) (bA _) aG (λ_=>rfl) (λi j h=>absurd h<|bD i) (λi j h=>absurd h<|bD i) (λi j h=>absurd h<|bD i) λi j h=>absurd h<|bD i
def E.le.sl{nl n sz el e}(h:∀ i j,i<n->j<sz->E.le (el i j) (e i j)/\(e i j).nr 2=aa):E.le (.sl nl n sz el)<|.sl nl n sz e:=λb r w v k=>by
 cases k with
 |sl _ _ _ _ A c f u m t l q x s=>
  exact .sl nl n sz e A c f u m t l (λi j y z=>(h i j y z).2) x λi j y z=>(h i j y z).1 _ _ _ _<|s i j y z
def PC.le{P K f r a j e}(h:PC P K f r j)(x:wI a r)(k:E.le j e):PC P K f a e:=
 ⟨h.call,λw B s y z t=>(h.run w B s y z<|x.Oi t).mono λ_ _ ⟨v,u,q,p⟩=>⟨v,u,q,k _ _ _ _ p⟩⟩
def PC.j9{P K f a j r}(h:PC P K f a j)(x:E.le j r):PC P K f a r:=h.le (wI.refl _) x
end Go.Proofs.YthalchiobglflaaGreatDoor.Pu
namespace Go.Proofs.YthalchiobglflaaGreatDoor
open Go.RowKit Fp
section
variable(A:Option az)(c:Nat)(L:List Nat)(w:ap)(h:Sl w A c L)
def yi:
 Calls prog 216 #[.slice A L.length c] w λe w'=>e = .returned (.slice A (iM L).length c)/\w=w':=by
 have hc:=h.cap;have hl:=h.sE;go_enter func216,ntmps216;go_wp2;go_loop [3] (λi=>∃ k:Nat,k<=L.length/\i = .int .i64 k/\nB L=nB (L.take k)) (λi=>(intOf i).toNat)
 case atStart=>exact⟨L.length,bA _,rfl,aK⟩
 case round=>
  obtain⟨k,hk,rfl,ht⟩:=hrel;have HT:=J ht;clear ht;by_cases h0:0<k
  .obtain ⟨ab,ao,rfl,hb,h1⟩:=h.mL (i:=k-1) U ;have e1:((k:Int)-1).toNat=k-1:= U ;have Z:=J<|ON L (k-1) U;have NZ:=J<|OM L (k-1) U;rw[fP h0]at Z NZ;generalize L[k-1]=x at *
   by_cases hx:x=0
   .have Hx:=J hx;clear hx;have hb:((x:Int)==0)=aa:=by have:=Hx.out;simp;omega
    go_wp2;go_round
    case rel=>exact⟨k-1,U,by go_num,by rw[HT.out,Z.out Hx.out]⟩
    case measure=>simp[intOf];omega
   .have hb:((x:Int)==0)=ac:= aS ;go_wp2;go_ret;exact⟨Om<|by show _=nB L;rw[HT.out,NZ.out hx],rfl⟩
  .go_wp2;go_ret;have:k=0:= U ;subst this;exact⟨Om<|by show _=nB L;rw[HT.out];rfl,rfl⟩
def ajX:
 Calls prog 153 #[.slice A L.length c] w λe w'=>e = .returned (.slice A (iM L).length c)/\w=w':=by
 have hc:=h.cap;have hl:=h.sE;go_enter func153,ntmps153;go_wp2;go_loop [3] (λi=>∃ k:Nat,k<=L.length/\i = .int .i64 k/\nB L=nB (L.take k)) (λi=>(intOf i).toNat)
 case atStart=>exact⟨L.length,bA _,rfl,aK⟩
 case round=>
  obtain⟨k,hk,rfl,ht⟩:=hrel;have HT:=J ht;clear ht;by_cases h0:0<k
  .obtain ⟨ab,ao,rfl,hb,h1⟩:=h.mL (i:=k-1) U ;have e1:((k:Int)-1).toNat=k-1:= U ;have Z:=J<|ON L (k-1) U;have NZ:=J<|OM L (k-1) U;rw[fP h0]at Z NZ;generalize L[k-1]=x at *
   by_cases hx:x=0
   .have Hx:=J hx;clear hx;have hb:((x:Int)==0)=aa:=by have:=Hx.out;simp;omega
    go_wp2;go_round
    case rel=>exact⟨k-1,U,by go_num,by rw[HT.out,Z.out Hx.out]⟩
    case measure=>simp[intOf];omega
   .have hb:((x:Int)==0)=ac:= aS ;go_wp2;go_ret;exact⟨Om<|by show _=nB L;rw[HT.out,NZ.out hx],rfl⟩
  .go_wp2;go_ret;have:k=0:= U ;subst this;exact⟨Om<|by show _=nB L;rw[HT.out];rfl,rfl⟩
end
def Sl.xp{w A c L}(h:Sl w A c L):Sl w A c<|iM L:=(h.take<|nB L).eqv (K8 L).symm
def ahB:Go.Shelf.Ren:=⟨λ|128=>289|n=>n,λ|51=>110|3=>3|4=>4|46=>111|5=>5|9=>9|n=>n,λ|n=>n⟩
def ahw:Go.Proofs.Lays.n128 prog ahB:={
 mixed:= aI 
 f128:=func289.trans (congrArg al aI)
 t3:=underlying3
 a3:=Tryz.isAgg3
 z3:=Tryz.sizeOf3
 v3:=Tryz.zeroValue3
 t4:=underlying4
 a4:=Tryz.isAgg4
 z4:=Tryz.sizeOf4
 v4:=Tryz.zeroValue4
 t5:=underlying5
 a5:=Tryz.isAgg5
 z5:=Tryz.sizeOf5
 v5:=Tryz.zeroValue5
 t9:=underlying9
 a9:=Tryz.isAgg9
 z9:=Tryz.sizeOf9
 v9:=Tryz.zeroValue9
 t46:=underlying111
 a46:=Tryz.isAgg111
 z46:=Tryz.sizeOf111
 v46:=Tryz.zeroValue111
 t51:=underlying110
 a51:=Tryz.isAgg110
 z51:=Tryz.sizeOf110
 v51:=Tryz.zeroValue110 }
def aaR(x:Nat)(h:x<4294967296)w:
 Calls prog 289 #[.int .u32 x] w λe w'=>e = .returned (.int .i64<|H x)/\w=w':=by
 refine(Any.bits_Len32 ahw x w U U).mono ?_;rintro e w' ⟨rfl,rfl⟩;rw[gW,ahp x h];exact⟨rfl,rfl⟩
def auT(x k i:Nat)(w:ap)(m:((x:Int)==0)=ac)(h:bits BinOp.and IntKind.u32 (x:Int) (-(x:Int)%4294967296)*125613361%4294967296/134217728=(i:Int))(y:i<32)(z:k<32)(D:w.cell? ⟨0,i,am⟩=al (.int .u8 k)):
 Calls prog 218 #[.int .u32 x] w λe w'=>e = .returned (.int .i64 k)/\w=w':=by
 go_enter func218,ntmps218;go_wp2_with (simp only[h])
 go_ret;exact⟨rfl,rfl⟩
def auS(x:Nat)(h:x≠0)(k:x<4294967296)w(T:Tb w):
 Calls prog 218 #[.int .u32 x] w λe w'=>e = .returned (.int .i64<|ky x)/\w=w':=by
 rw[<-ajk x h k];have⟨C,y⟩:=Lib.lowest_bit 32 x h k;have⟨i,a⟩:=Lib.deBruijn32_at _ y;have D:=T _ i;rw[a]at D;exact auT x _ _ w aS (tz32_key x _ k h C) i y D
def i64_in n(h:-9223372036854775808<=n:=by omega)(x:n<=9223372036854775807:=by omega):IntKind.i64.wrap n=n:=by rw[IntKind.wrap_i64];omega
def Wa{L M n}(s:je L)(h:iM L=M)(k:M.length=n+1):
 ∃ x,M[n]? = al x/\x<4294967296/\(32*(n:Int)+(H x:Int))=(H<|val L:Int)/\H x<=32:=by
 have y:je M:=h▸s.iM;have t:oW M:=h▸CY L;rcases awG M with rfl|⟨l,x,rfl⟩
 .simp at k
 .simp only[awH,cD,gU,Nat.add_right_cancel_iff]at k y t h ⊢;subst k;have z:x≠0:=by simpa using(Em _).1 t aK 
  have i:x<4294967296:=y x aK;refine⟨x,aK,i,?_,mo.2 i⟩;have:=ahA y z;rw[<-h,qm]at this;omega
def abL(A:Option az)(c:Nat)(L:List Nat)(w:ap)(s:Sl w A c L)(l:L.length<=100000000):
 Calls prog 237 #[.slice A L.length c] w λe w'=>e = .returned (.int .i64<|H<|val L)/\w=w':=by
 have T:=J<|yi A c L w s;have z:=s.xp;have p:=qQ L;unfold nB at p;generalize k:iM L=M at *
 obtain⟨n,h⟩:∃ n,n=M.length:=⟨_,rfl⟩
 rw[<-h]at T p;rcases n with _|n
 .have v:H (val L)=0:=by rw[<-qm,k,dM h.symm];rfl
  have u:=J v;clear v k h;go_enter func237,ntmps237;go_wp2_with (go_at_call 216;refine T.out.mono ?_;rintro e w' ⟨rfl,rfl⟩)
  go_ret;exact⟨by rw[u.out];rfl,rfl⟩
 .obtain ⟨x,y,i,b,R⟩:=Wa s.ok k h.symm;obtain⟨a,o,rfl,_,D⟩:=z.cell _ _ y;have B:=J b;clear b k h y;go_enter func237,ntmps237;go_wp2_with (first|(go_at_call 216;refine T.out.mono ?_;rintro e w' ⟨rfl,rfl⟩)|(go_at_call 289;refine(aaR x i _).mono ?_;rintro e w' ⟨rfl,rfl⟩))
  go_ret;exact⟨qi B.out,rfl⟩
def ahy{x}(h:x≠0):H x=H (x/2)+1:=by
 by_cases y:x/2=0
 .have:x=1:= U ;subst this;rfl
 .have e:=uC y;have z:=qW<|x/2;have u:=oP y;generalize H (x/2)=k at *
  obtain⟨j,rfl⟩:∃ j,k=j+1:=⟨k-1,U⟩
  rw[eD]at e;refine yK ?_ ?_
  .rw [bI];omega
  .rw [bI];omega
def adt(A:Option az)(c:Nat)(L:List Nat)(w:ap)(hs:Sl w A c L)(ht:oW L)(hlen:L.length<=100000000):
 Calls prog 141 #[.slice A L.length c] w λe w'=>e = .returned (.int .i64<|H<|val L)/\w=w':=by
 obtain⟨n,hn⟩:∃ n,n=L.length:=⟨_,rfl⟩
 rcases n with _|n
 .have hv:H (val L)=0:=by rw[dM hn.symm];rfl
  have HV:=J hv;rw[<-hn];clear hv ht hn;go_enter func141,ntmps141;go_wp2;go_ret;exact⟨by rw[HV.out];rfl,rfl⟩
 .obtain ⟨x,hx,iV,hb,Rc⟩:=Wa hs.ok ht hn.symm;obtain⟨ab,ao,rfl,_,kD⟩:=hs.cell _ _ hx;have HB:=J hb;rw[<-hn]at hlen ⊢;clear hb ht hn hx;go_enter func141,ntmps141;go_wp2;go_loop [3,4] (λm y=>∃ (k z:Nat),z<4294967296/\y = .int .u32 z/\m = .int .i64 k/\k<=10000000000/\k+H z=H (val L)) (λ_ y=>(intOf y).toNat)
  case atStart=>exact⟨32*n,x,iV,rfl,by go_num,U,by have:=HB.out;omega⟩
  case round=>
   obtain⟨k,z,hz,rfl,rfl,hk,he⟩:=hrel;have HE:=J he;clear he;by_cases h0:0<z
   .have hh:=J<|ahy (x:=z) U;have wh:k<=3300000000:=by have:=HE.out;have:=HB.out;omega
    go_wp2;go_round
    case rel=>exact⟨k+1,z/2,U,by go_num,by go_num,U,by rw[<-HE.out,hh.out];omega⟩
    case measure=>simp[intOf];omega
   .obtain rfl:z=0:= U ;go_wp2;go_ret;exact⟨qi<|by rw[<-HE.out];rfl,rfl⟩
def WI{L M}(x:je L)(h:(iM L).length<(iM M).length):kT (val L) (val M) = -1:=by
 have:=OW x.iM (CY M) h;rw[qm,qm]at this;unfold kT;rw[bt this]
def WH{L M}(x:je M)(h:(iM M).length<(iM L).length):kT (val L) (val M)=1:=by
 have:=OW x.iM (CY L) h;rw[qm,qm]at this;unfold kT;rw[bn U,bt this]
def L6{M N}(z:je M){k x y}(l:M.length=N.length)(u:M[k]? = al x)(v:N[k]? = al y)(d:M.drop (k+1)=N.drop (k+1))(h:x<y):val M<val N:=by
 obtain⟨t,rfl⟩:=cF.1 u;obtain⟨s,rfl⟩:=cF.1 v;exact au5 z k t l d h
def Xp{M N:List Nat}{k x}(h:M[k]? = al x)(y:N[k]? = al x)(d:M.drop (k+1)=N.drop (k+1)):M.drop k=N.drop k:=by
 have⟨z,e⟩:=cF.1 h;have⟨u,v⟩:=cF.1 y;rw[fQ z,fQ u,e,v,d]
section
variable(A B:Option az)(c d:Nat)
def NL(L M:List Nat)(w:ap)(hs:Sl w A c L)(hr:Sl w B d M)(h1:L.length<=100000000)(_h2:M.length<=100000000):
 Calls prog 194 #[.slice A L.length c,.slice B M.length d] w λe w'=>e = .returned (.int .i64<|kT (val L)<|val M)/\jc w w':=by
 have hT:=J<|yi A c L w hs;have hU:=J<|yi B d M w hr;have lL:=hs.xp;have pq:=hr.xp;have pn:=qQ L;have Am:=qQ M;unfold nB at pn Am;by_cases iV:(iM L).length<(iM M).length
 .have HV:=J<|WI hs.ok iV;have jY:(((iM L).length:Int) != ((iM M).length:Nat))=aa:= aS ;generalize (iM L).length=n at *
  generalize (iM M).length=m at *
  clear lL pq;go_enter func194,ntmps194;go_wp2_with fail;refine hT.out.mono ?_;rintro e w' ⟨rfl,rfl⟩;go_wp2_with fail;refine hU.out.mono ?_;rintro e w' ⟨rfl,rfl⟩;go_wp2;go_ret;exact⟨qi<|by rw[HV.out],jc.refl _⟩
 .by_cases GN:(iM M).length<(iM L).length
  .have HV:=J<|WH hr.ok GN;have jY:(((iM L).length:Int) != ((iM M).length:Nat))=aa:= aS ;generalize (iM L).length=n at *
   generalize (iM M).length=m at *
   clear lL pq;go_enter func194,ntmps194;go_wp2_with fail;refine hT.out.mono ?_;rintro e w' ⟨rfl,rfl⟩;go_wp2_with fail;refine hU.out.mono ?_;rintro e w' ⟨rfl,rfl⟩;go_wp2;go_ret;exact⟨qi<|by rw[HV.out],jc.refl _⟩
  .have hl:(iM L).length=(iM M).length:= U ;have HL:=J hl;rw[<-hl]at hU Am;have e1:=qm L;have e2:=qm M;generalize iM L=P at *
   generalize iM M=Q at *
   have E1:=J e1;have E2:=J e2;clear e1 e2 hl GN iV;obtain⟨n,hn⟩:∃ n,n=P.length:=⟨_,rfl⟩
   rw[<-hn]at hT hU Am pn;have HN:=J hn;clear hn;have jY:((n:Int) != (n:Int))=ac:= aK ;have okP:=lL.ok;have FG:=pq.ok;go_enter func194,ntmps194;go_wp2_with fail;refine hT.out.mono ?_;rintro e w' ⟨rfl,rfl⟩;go_wp2_with fail;refine hU.out.mono ?_;rintro e w' ⟨rfl,rfl⟩;go_wp2;go_loopw [5] (λi wr=>∃ k:Nat,k<=n/\i = .int .i64 ((k:Int)-1)/\P.drop k=Q.drop k/\jc w wr) (λi _=>(intOf i+1).toNat)
   case atStart=>exact⟨n,bA _,rfl,by rw[eU<|by rw[<-HN.out];exact bA _,eU<|by rw[<-HL.out,<-HN.out];exact bA _],jc.refl _⟩
   case round=>
    obtain⟨k,hk,rfl,hd,hb⟩:=hrel;have HD:=J hd;clear hd;rcases k with _|k
    .go_wp2;go_ret;have e:P=Q:=by simpa using HD.out
     exact⟨qi<|by rw[<-E1.out,<-E2.out,e];unfold kT;simp,hb⟩
    .have E4:k<P.length:=by have:=HN.out;omega
     have Ch:k<Q.length:=by have:=HN.out;have:=HL.out;omega
     have HP:=J<|bH E4;have HQ:=J<|bH Ch;obtain⟨ab,ao,rfl,_,c1⟩:=(lL.below hb).mL E4;obtain⟨bb,bo,rfl,_,c2⟩:=(pq.below hb).mL Ch;have xN:(k:Int)<n:= U ;have mJ:(0:Int)<=k:= U ;have x0:(0:Int)<=P[k]:= U ;have y0:(0:Int)<=Q[k]:= U ;generalize P[k]=x at *
     generalize Q[k]=y at *
     clear E4 Ch;by_cases qH:x<y
     .have RZ:(x:Int)<y:= U ;go_wp2;go_quiet (fail);go_wp2;go_ret;have h:=L6 okP HL.out HP.out HQ.out HD.out qH;rw[E1.out,E2.out]at h;exact⟨qi<|by unfold kT;rw[bt h],below_drewN hb _⟩
     .have RZ:¬(x:Int)<y:= U ;by_cases R2:y<x
      .have R3:(y:Int)<x:= U ;go_wp2;go_quiet (fail);go_wp2;go_quiet (fail);go_wp2;go_ret;have h:=L6 FG HL.out.symm HQ.out HP.out HD.out.symm R2;rw[E1.out,E2.out]at h;exact⟨qi<|by unfold kT;rw[bn U,bt h],below_drewN (below_drewN hb _) _⟩
      .have R3:¬(y:Int)<x:= U ;have HX:=J (U:x=y);go_wp2;go_quiet (fail);go_wp2;go_quiet (fail);go_wp2;go_roundw
       case rel=>exact⟨k,U,by go_num,Xp HP.out (by rw[HX.out];exact HQ.out) HD.out,by repeat (first|exact hb|refine below_drewN ?_ _)⟩
       case measure=>simp[intOf];try omega
def adu(P Q:List Nat)(w:ap)(lL:Sl w A c P)(pq:Sl w B d Q)(tP:oW P)(tQ:oW Q)(h1:P.length<=100000000)(_h2:Q.length<=100000000):
 Calls prog 164 #[.slice A P.length c,.slice B Q.length d] w λe w'=>e = .returned (.int .i64<|kT (val P)<|val Q)/\jc w w':=by
 have tP':iM P=P:=tP;have tQ':iM Q=Q:=tQ;by_cases iV:P.length<Q.length
 .have HV:=J (WI (M:=Q) lL.ok<|by rw[tP',tQ'];exact iV);have jY:((P.length:Int) != (Q.length:Nat))=aa:= aS ;generalize P.length=n at *
  generalize Q.length=m at *
  clear lL pq tP' tQ' tP tQ;go_enter func164,ntmps164;go_wp2;go_ret;exact⟨qi<|by rw[HV.out],jc.refl _⟩
 .by_cases GN:Q.length<P.length
  .have HV:=J (WH (L:=P) pq.ok<|by rw[tP',tQ'];exact GN);have jY:((P.length:Int) != (Q.length:Nat))=aa:= aS ;generalize P.length=n at *
   generalize Q.length=m at *
   clear lL pq tP' tQ' tP tQ;go_enter func164,ntmps164;go_wp2;go_ret;exact⟨qi<|by rw[HV.out],jc.refl _⟩
  .have hl:P.length=Q.length:= U ;have HL:=J hl;rw[<-hl];clear hl GN iV tP' tQ' tP tQ _h2;obtain⟨n,hn⟩:∃ n,n=P.length:=⟨_,rfl⟩
   rw[<-hn]at h1 ⊢;have HN:=J hn;clear hn;have jY:((n:Int) != (n:Int))=ac:= aK ;have okP:=lL.ok;have FG:=pq.ok;go_enter func164,ntmps164;go_wp2;go_loopw [5] (λi wr=>∃ k:Nat,k<=n/\i = .int .i64 ((k:Int)-1)/\P.drop k=Q.drop k/\jc w wr) (λi _=>(intOf i+1).toNat)
   case atStart=>exact⟨n,bA _,rfl,by rw[eU<|by rw[<-HN.out];exact bA _,eU<|by rw[<-HL.out,<-HN.out];exact bA _],jc.refl _⟩
   case round=>
    obtain⟨k,hk,rfl,hd,hb⟩:=hrel;have HD:=J hd;clear hd;rcases k with _|k
    .go_wp2;go_ret;have e:P=Q:=by simpa using HD.out
     exact⟨qi<|by rw[e];unfold kT;simp,hb⟩
    .have E4:k<P.length:=by have:=HN.out;omega
     have Ch:k<Q.length:=by have:=HN.out;have:=HL.out;omega
     have HP:=J<|bH E4;have HQ:=J<|bH Ch;obtain⟨ab,ao,rfl,_,c1⟩:=(lL.below hb).mL E4;obtain⟨bb,bo,rfl,_,c2⟩:=(pq.below hb).mL Ch;have xN:(k:Int)<n:= U ;have mJ:(0:Int)<=k:= U ;have x0:(0:Int)<=P[k]:= U ;have y0:(0:Int)<=Q[k]:= U ;generalize P[k]=x at *
     generalize Q[k]=y at *
     clear E4 Ch;by_cases qH:x<y
     .have RZ:(x:Int)<y:= U ;go_wp2;go_quiet (fail);go_wp2;go_ret;have h:=L6 okP HL.out HP.out HQ.out HD.out qH;exact⟨qi<|by unfold kT;rw[bt h],below_drewN hb _⟩
     .have RZ:¬(x:Int)<y:= U ;by_cases R2:y<x
      .have R3:(y:Int)<x:= U ;go_wp2;go_quiet (fail);go_wp2;go_quiet (fail);go_wp2;go_ret;have h:=L6 FG HL.out.symm HQ.out HP.out HD.out.symm R2;exact⟨qi<|by unfold kT;rw[bn U,bt h],below_drewN (below_drewN hb _) _⟩
      .have R3:¬(y:Int)<x:= U ;have HX:=J (U:x=y);go_wp2;go_quiet (fail);go_wp2;go_quiet (fail);go_wp2;go_roundw
       case rel=>exact⟨k,U,by go_num,Xp HP.out (by rw[HX.out];exact HQ.out) HD.out,by repeat (first|exact hb|refine below_drewN ?_ _)⟩
       case measure=>simp[intOf];try omega
end
def PY(A:Option az)(c:Nat)(L:List Nat)(w:ap)(h:Sl w A c L):
 Calls prog 156 #[.slice A L.length c] w λe w'=>e = .returned (.slice A L.length L.length)/\w=w':=by
 have x:=h.cap;have l:=h.sE;go_enter func156,ntmps156;go_wp2;go_ret;exact⟨rfl,rfl⟩
def Sl.Wy{w A c L}(h:Sl w A c L):Sl w A L.length L:=
 ⟨bA _,bF h.cap h.sE,h.ok,(λe=>by have:=h.Au e;have:=h.cap;omega),h.cell⟩
section
variable(A:Option az)(c:Nat)(L:List Nat)(w:ap)(b:Sl w A c L)
def PZ(l:L.length<=100000000):
 Calls prog 157 #[.slice A L.length c] w (vQ w L):=by
 have s:=b.cap;have r:=b.sE;rcases A with _|a
 .have x:=b.Au rfl;subst x;have:L=[]:=dM U;subst this;have q:=λ(w:ap) (n h:Nat)=>Lib.run_eql_slice_nil (P:=prog) w 29 _ am 0 0 n h underlying29
  simp only[Option.isNone_none]at q;go_enter func157,ntmps157;go_wp2;go_ret;exact⟨am,0,rfl,Sl.nil _,jc.refl _⟩
 .have q:=λ(w:ap) (n h:Nat)=>Lib.run_eql_slice_nil (P:=prog) w 29 _ (al a) L.length c n h underlying29
  simp only[Option.isNone_some]at q;go_enter func157,ntmps157;have F:([]:List Nat).length+L.length<=10000000000:= aS ;have y:=Ow.empty w w.heap.size<|bA _;have z:=b.alloc<|.cells #[] 110;have u:=sD (w:=w) (bA _)<|.cells #[] 110;go_wp2_with (at_builtin;go_must (refine tX aJ _ _ aJ w.heap.size _ [] aJ y _ _ _ L aJ aJ z F u ?_);intro f e m g d)
  obtain⟨v,h,rfl,p⟩:=m.sl;go_ret;exact⟨v,h,rfl,p,(jc.alloc _ _).grown g (sD (bA _) _) (λk t=>by simp[bf]at t;omega)⟩
def FO(hlen:L.length<=100000000:=by omega):
 Calls prog 191 #[.slice A L.length c] w (vQ w<|iM L):=by
 have hc:=b.cap;have hl:=b.sE;have fin:∀ k:Nat,k=(iM L).length->Hid (iM L=L.take k):=λk hk=>by rw[hk];exact K8 L
 go_enter func191,ntmps191;go_wp2;go_loop [3] (λi=>∃ k:Nat,k<=L.length/\i = .int .i64 k/\nB L=nB (L.take k)) (λi=>(intOf i).toNat)
 case atStart=>exact⟨L.length,bA _,rfl,aK⟩
 case round=>
  obtain⟨k,hk,rfl,ht⟩:=hrel;have HT:=J ht;clear ht;have kF:([]:List Nat).length+(L.take k).length<=10000000000:=by rw[cz];simp;omega
  have HK:=J (show k=(L.take k).length by rw[cz];omega);have h1:=Ow.empty w w.heap.size<|bA _;have h2:=(b.take k).alloc<|.cells #[] 110;have h3:=sD (w:=w) (bA _)<|.cells #[] 110;by_cases h0:0<k
  .obtain ⟨ab,ao,rfl,hb,DK⟩:=b.mL (i:=k-1) U ;have e1:((k:Int)-1).toNat=k-1:= U ;have Z:=J<|ON L (k-1) U;have NZ:=J<|OM L (k-1) U;rw[fP h0]at Z NZ;generalize L[k-1]=x at *
   by_cases hx:x=0
   .have Hx:=J hx;clear hx;have hb:((x:Int)==0)=aa:=by have:=Hx.out;simp;omega
    clear fin;go_wp2;go_round
    case rel=>exact⟨k-1,U,by go_num,by rw[HT.out,Z.out Hx.out]⟩
    case measure=>simp[intOf];omega
   .have hb:((x:Int)==0)=ac:= aS ;have F:=fin k (by show k=nB L;rw[HT.out,NZ.out hx]);clear fin;go_wp2_with (at_builtin;go_must (refine tX aJ _ _ aJ w.heap.size _ [] aJ h1 _ _ _ (L.take k) aJ HK.out h2 kF h3 ?_);intro v' w' mC hg qs)
    obtain⟨A',c',rfl,pH⟩:=mC.sl;go_ret;rw[F.out];exact⟨A',c',rfl,pH,(jc.alloc _ _).grown hg (sD (bA _) _) (λk hk=>by simp[bf]at hk;omega)⟩
  .have:k=0:= U ;subst this;have F:=fin 0 (by show 0=nB L;rw[HT.out];rfl);clear fin;go_wp2_with (at_builtin;go_must (refine tX aJ _ _ aJ w.heap.size _ [] aJ h1 _ _ _ (L.take 0) aJ HK.out h2 kF h3 ?_);intro v' w' mC hg qs)
   obtain⟨A',c',rfl,pH⟩:=mC.sl;go_ret;rw[F.out];exact⟨A',c',rfl,pH,(jc.alloc _ _).grown hg (sD (bA _) _) (λk hk=>by simp[bf]at hk;omega)⟩
end
def aa6(A:Option az)(n c:Nat)(w:ap):
 Calls prog 272 #[.slice A n c] w λe w'=>e = .returned (.bool<|decide (256<n))/\w=w':=by
 by_cases h:256<n
 .have x:(256:Int)<n:= U ;go_enter func272,ntmps272;go_wp2;go_ret;exact⟨by simp[h],rfl⟩
 .have x:¬(256:Int)<n:= U ;go_enter func272,ntmps272;go_wp2;go_ret;exact⟨aK,rfl⟩
def Pf(w:ap)(g:Nat)(xs:List<|Option az×Nat×Nat):Prop:=∀ i x,xs[i]? = al x->w.cell? ⟨g,i,am⟩=al (.slice x.1 x.2.1 x.2.2)
section
variable(xs:List<|Option az×Nat×Nat)
def AL:Bool:=xs.any λx=>decide (256<x.2.1)
def af2(w:ap)(e:Ending)(w':ap):Prop:=
 ∃ n:Int,e = .returned (.int .i64 n)/\(0<=n↔AL xs=aa)/\w=w'
end
section
variable(g:Nat)(xs:List<|Option az×Nat×Nat)(w:ap)(s:Pf w g xs)(x:xs.length<=1000)
def am4:
 Calls prog 306 #[.slice (al ⟨g,0,am⟩) xs.length xs.length,.func (.func 272) #[] #[]] w (af2 xs w):=by
 go_enter func306,ntmps306;go_wp2;go_loop [8] (λi=>∃ k:Nat,k<=xs.length/\i = .int .i64 k/\AL (xs.take k)=ac) (λi=>xs.length-(intOf i).toNat)
 case atStart=>exact⟨0,cj _,rfl,rfl⟩
 case round=>
  obtain⟨k,hk,rfl,ht⟩:=hrel;have HT:=J ht;clear ht;by_cases h0:k<xs.length
  .have hc:=s k _<|bH h0;have e1:((k:Int)).toNat=k:= U ;have ec:=age g k;have HX:=J (show AL (xs.take<|k+1)=(AL (xs.take k)||decide (256<xs[k].2.1))by
    unfold AL;rw[gS h0,List.any_append];simp)
   have HM:=J<|cT h0;generalize xs[k]=x at *
   obtain⟨A,n,c⟩:=x;simp only at hc HX;by_cases hx:256<n
   .have hb:decide (256<n)=aa:=by simp[hx]
    go_wp2_with (go_at_call 272;refine(aa6 A n c _).mono ?_;rw[hb];rintro e w' ⟨rfl,rfl⟩)
    go_ret;refine⟨_,rfl,⟨λ_=>?_,λ_=> U⟩,rfl⟩;unfold AL;rw[dh];exact⟨_,HM.out,by simpa using hx⟩
   .have hb:decide (256<n)=ac:= aS ;go_wp2_with (go_at_call 272;refine(aa6 A n c _).mono ?_;rw[hb];rintro e w' ⟨rfl,rfl⟩)
    go_round
    case rel=>exact⟨k+1,U,by go_num,by rw[HX.out,HT.out,hb];rfl⟩
    case measure=>simp[intOf];omega
  .go_wp2;go_ret;have e:xs.take k=xs:=cW U;have:=HT.out;rw[e]at this;exact⟨_,rfl,by rw[this];simp,rfl⟩
def ajg:
 Calls prog 271 #[.slice (al ⟨g,0,am⟩) xs.length xs.length,.func (.func 272) #[] #[]] w λe w'=>e = .returned (.bool<|AL xs)/\w=w':=by
 have H:=J<|am4 g xs w s x;go_enter func271,ntmps271;go_wp2_with fail;refine H.out.mono ?_;rintro e w' ⟨n,rfl,x,rfl⟩;have N:=J x;clear x;go_wp2;go_ret;refine⟨Ol ?_,rfl⟩;have:=N.out;cases h:AL xs<;>simp[h]at this ⊢ <;> omega
def aa8:
 Calls prog 213 #[.slice (al ⟨g,0,am⟩) xs.length xs.length] w λe w'=>e = .returned (.bool<|AL xs)/\w=w':=by
 have H:=J<|ajg g xs w s x;go_enter func213,ntmps213;go_wp2_with fail;refine H.out.mono ?_;rintro e w' ⟨rfl,rfl⟩;go_wp2;go_ret;exact⟨rfl,rfl⟩
end
def SC g A n c w b(h:w.cell? ⟨g,0,am⟩=al (.slice A n c))(y:b=decide (256<n)):
 Calls prog 213 #[.slice (al ⟨g,0,am⟩) 1 1] w λe w'=>e = .returned (.bool b)/\w=w':=by
 have:=aa8 g [(A,n,c)] w (λi x z=>by
  have⟨u,k⟩:=cF.1 z;obtain rfl:i=0:=by simp at u;omega
  simp at k;subst k;exact h) aK 
 simpa[AL,y]using this
def aa7 g A B n c m d w b(h:w.cell? ⟨g,0,am⟩=al (.slice A n c))(k:w.cell? ⟨g,1,am⟩=al (.slice B m d))(z:b=(decide (256<n)||decide (256<m))):
 Calls prog 213 #[.slice (al ⟨g,0,am⟩) 2 2] w λe w'=>e = .returned (.bool b)/\w=w':=by
 have:=aa8 g [(A,n,c),(B,m,d)] w (λi x u=>by
  have⟨v,y⟩:=cF.1 u;simp at v;rcases i with _|_|i
  .simp at y;subst y;exact h
  .simp at y;subst y;exact k
  .omega) aK 
 simpa[AL,z]using this
def Kl(A:Option az)(c:Nat)(L:List Nat)(w:ap)(s:Sl w A c L)(y:(iM L).length<=256):
 Calls prog 214 #[.slice A L.length c] w (Ga w (iM L) 0):=by
 have T:=J<|yi A c L w s;have l:=s.xp;have C:=s.cap;have z:=s.sE;have H:=J λx (h:Sl x A c<|iM L)=>PY A c (iM L) x h;generalize iM L=M at *
 obtain⟨n,k⟩:∃ n,n=M.length:=⟨_,rfl⟩
 rw[<-k]at T y H;have N:=J k;clear k;go_enter func214,ntmps214;go_wp2_with fail;refine T.out.mono ?_;rintro e x ⟨rfl,rfl⟩;go_wp2_with fail;refine(SC _ A n c _ ac ?_ aS).mono ?_
 .go_simp
 rintro e x ⟨rfl,rfl⟩;go_wp2_with fail;refine(H.out _<|l.alloc _).mono ?_;rintro e x ⟨rfl,rfl⟩;go_wp2;go_ret2;exact⟨A,n,by rw[N.out];rfl,by have:=l.Wy.alloc<|.cells #[.slice A n c] 29;rw[N.out]at this ⊢;exact this,jc.alloc _ _⟩
def OT(a b:Nat)(k:a<18446744073709551616:=by omega)(y:b<18446744073709551616:=by omega):bits .or .u64 (a:Int) (b:Int)=((a |||b:Nat):Int):=by
 have z:a |||b<2^64:=awR U U 
 have h:(BitVec.ofInt 64 (a:Int)).toNat=a:=by
  rw[awi,awj];exact bY U 
 have x:(BitVec.ofInt 64 (b:Int)).toNat=b:=by
  rw[awi,awj];exact bY U 
 show IntKind.u64.wrap ((BitVec.ofInt 64 (a:Int) |||BitVec.ofInt 64 (b:Int)).toNat:Int)=_;rw[BitVec.toNat_or,h,x,IntKind.wrap_u64];omega
def D3 a b k(h:a<2^k):a |||b*2^k=a+b*2^k:=by
 rw[bL,ij,<-Nat.two_pow_add_eq_or_of_lt h];omega
def Sl.drop{w A c L}(h:Sl w A c L)k:Sl w (A.map (·.add k)) (c-k)<|L.drop k:=
 ⟨by have:=h.cap;rw[fB];omega,bF (dY _ _) h.sE,h.ok.drop k,(λe=>by
  rcases A with _|a
  .rw [h.Au rfl];omega
  .cases e),λi x y=>by
  rw[e9]at y;obtain⟨b,o,rfl,z,u⟩:=h.cell _ _ y;exact⟨b,o+k,by rw[cJ,Et],z,by rw[cU];exact u⟩⟩
section
variable(T:List Nat)
def part(k:Nat):List Nat:=T.take k++aA (T.length-k) 0
def ap1:part T 0=aA T.length 0:=by unfold part;simp
def apZ:part T T.length=T:=by unfold part;simp
def ap0 k(h:k<T.length):(part T k)[k]? = al 0:=by
 unfold part;rw[gn aY,cz,fE,bt U]
def acx k x(h:T[k]? = al x):(part T k).set k x=part T (k+1):=by
 obtain⟨y,rfl⟩:=cF.1 h;unfold part;rw[List.set_append_right _ _ aY,cz,dE U,dm,
  gS y,(U:T.length-k=(T.length-(k+1))+1),List.replicate_succ,awL,gZ]
 rfl
end
def atk(x y s:Nat)(h:x<4294967296)(k:y<4294967296):
 bits BinOp.or IntKind.u64 (x:Int) ((y:Int)*4294967296)/2^s%4294967296=(((x+4294967296*y)/2^s%4294967296:Nat):Int):=by
 have e:((y:Int)*4294967296)=((y*2^32:Nat):Int):= aK ;rw[e,OT x<|y*2^32,D3 x y 32 U];simp[bL]
def atl(x s:Nat):(x:Int)/2^s%4294967296=(((x+4294967296*0)/2^s%4294967296:Nat):Int):=by
 simp
def SY(A:Option az)(c:Nat)(L:List Nat)(n:Nat)(w:ap)(s:Sl w A c L)(f:L.length<=100000000)(S:n<=65536):
 Calls prog 219 #[.slice A L.length c,.int .i64 n] w (vQ w<|sW (n%32)<|(iM L).drop<|n/32):=by
 have r:=J<|yi A c L w s;have l:=s.xp;have d:=qQ L;have X:=l.cap;have R:=s.sE;unfold nB at d;generalize iM L=M at *
 obtain⟨m,q⟩:∃ m,m=M.length:=⟨_,rfl⟩
 rw[<-q]at r d X;have H:=J q;clear q;by_cases Y:m<=n/32
 .go_enter func219,ntmps219;go_wp2_with fail;refine r.out.mono ?_;rintro e Z ⟨rfl,rfl⟩;go_wp2;go_ret;have:M.drop (n/32)=[]:=eU (by rw[<-H.out];exact Y);rw[this];exact⟨am,0,rfl,Sl.nil _,jc.refl _⟩
 .obtain ⟨P,N,rfl,_,_⟩:=l.mL (i:=0) (by have:=H.out;omega);have v:=l.drop<|n/32;have I:=J (show m-n/32=(M.drop<|n/32).length by rw[fB,H.out]);have F:n/32<c:= U ;have E:=Hd (m-n/32) U;have D:0<m-n/32:= U ;have B:m-n/32<=100000000:= U ;generalize M.drop (n/32)=K at *
  simp only[cJ,Et]at v;have g:=J<|Oz (n%32) K;have Q:=J<|aeG (n%32) K;have zx:=J<|D1 (n%32) K;generalize sW (n%32) K=T at *
  go_enter func219,ntmps219;go_wp2_with fail;refine r.out.mono ?_;rintro e Z ⟨rfl,rfl⟩;go_wp2;go_loopw [25] (λi j=>∃ k:Nat,k<=m-n/32/\i = .int .i64 k/\Rw j w.heap.size (part T k)/\jc w j) (λi _=>m-n/32-(intOf i).toNat)
  case atStart=>
   refine⟨0,cj _,rfl,?_,jc.alloc _ _⟩;rw[ap1,g.out,<-I.out];exact Rw.Br _ _
  case round=>
   obtain⟨k,O,rfl,h,b⟩:=hrel;by_cases W:k<m-n/32
   .have z:k<K.length:=by have:=I.out;omega
    obtain⟨a,o,p,_,c1⟩:=(v.below b).mL z;cases p;have u:=Q.out k z;have zy:K[k]<4294967296:=v.ok.get z;have HK:=J<|bH z;have c3:=h.cell (ap0 T k<|by have:=g.out;omega);have c4:=h.frozen k;by_cases DE:k+1<m-n/32
    .have C:k+1<K.length:=by have:=I.out;omega
     obtain⟨a,o,p,_,c2⟩:=(v.below b).mL C;cases p;have t:K.getD (k+1) 0=K[k+1]:=by rw[bB,bH C];rfl
     rw[t]at u;have V:K[k+1]<4294967296:=v.ok.get C;have G:=J u;clear u t;generalize K[k]=x at *
     generalize K[k+1]=y at *
     clear z C;go_wp2;go_roundw
     case rel=>
      rw[atk x y (n%32) zy V];exact⟨k+1,U,by go_num,by rw[<-acx T k _ G.out];exact h.set k _,b.setCell (bA _) _⟩
     case measure=>simp[intOf];omega
    .have t:K.getD (k+1) 0=0:=by rw[bB,cM<|by have:=I.out;omega];rfl
     rw[t]at u;have G:=J u;clear u t;generalize K[k]=x at *
     clear z;go_wp2;go_roundw
     case rel=>
      rw[atl x<|n%32];exact⟨k+1,U,by go_num,by rw[<-acx T k _ G.out];exact h.set k _,b.setCell (bA _) _⟩
     case measure=>simp[intOf];omega
   .go_wp2;go_ret;obtain rfl:k=m-n/32:= U ;rw[I.out,<-g.out,apZ]at h;have:=h.sl zx.out (by have:=g.out;have:=I.out;omega);rw[g.out,<-I.out]at this;exact⟨_,_,by rw[g.out,<-I.out];rfl,this,b⟩
def ati{L}(h:je L)n:iM (sW (n%32)<|(iM L).drop<|n/32)=iy (val L/2^n):=by
 rw[sX<|D1 _ _,OY h.iM,qm]
def U2(w:ap)A n c:(w.alloc<|.cells #[.slice A n c] 29).cell? ⟨w.heap.size,0,am⟩=al (.slice A n c):=by
 rw[World.cell?_alloc_at _ _ _ _ rfl];rfl
section
variable(w:ap)(A B:Option az)(n c m d:Nat)
def U3:(w.alloc<|.cells #[.slice A n c,.slice B m d] 29).cell? ⟨w.heap.size,0,am⟩=al (.slice A n c):=by
 rw[World.cell?_alloc_at _ _ _ _ rfl];rfl
def U4:(w.alloc<|.cells #[.slice A n c,.slice B m d] 29).cell? ⟨w.heap.size,1,am⟩=al (.slice B m d):=by
 rw[World.cell?_alloc_at _ _ _ _ rfl];rfl
end
def abR(A:Option az)(c:Nat)(L:List Nat)(n:Nat)(w:ap)(s:Sl w A c L)(l:L.length<=256)(z:n<=65536):
 Calls prog 155 #[.slice A L.length c,.int .i64 n] w (Ga w (iy<|val L/2^n) 0):=by
 have d:decide (256<L.length)=ac:= aS ;have u:=J<|ati s.ok n;have v:(iM<|sW (n%32)<|(iM L).drop<|n/32).length<=256:=by
  have y:=qQ<|sW (n%32)<|(iM L).drop<|n/32;unfold nB at y;rw[Oz,fB]at y;have t:=qQ L;unfold nB at t;omega
 have H:=J λw (h:Sl w A c L)=>SY A c L n w h U z;generalize sW (n%32) ((iM L).drop<|n/32)=T at *
 go_enter func155,ntmps155;go_wp2_with fail;refine(SC _ A _ c _ ac (U2 _ _ _ _) aS).mono ?_;rintro e r ⟨rfl,rfl⟩;go_wp2_with fail;refine(H.out _<|s.alloc _).mono ?_;rintro e r ⟨q,p,rfl,m,b⟩;go_wp2_with fail;refine(Kl q p T _ m v).mono ?_;rintro e g ⟨x,k,rfl,f,Q⟩;go_wp2;go_ret2;rw[<-u.out];exact⟨x,k,rfl,f,(jc.alloc _ _).trans<|b.trans Q⟩
def SG(n c:Nat)(y:n<=c)(u:c<=10000000000)w:
 (Instr.makeSlice 29 (.int .i64 (n:Int))<|.int .i64 (c:Int)).run prog w = .ok (.slice (al ⟨w.heap.size,0,am⟩) n c) (w.alloc<|.cells (pW<|aA c 0).toArray 110):=by
 have⟨i,k,z,h,x⟩:=info_parts Sa;have r:=run_make (P:=prog) w 29 110 i _ underlying29 k z .i64 .i64 n c U U (by rw[x];omega) U;rw[r,gW,gW,h,cr];refine congrArg (λs=>Result.ok (aH (al ⟨w.heap.size,0,am⟩) n c)<|w.alloc<|.cells s 110) ?_;apply Array.ext
 .simp [madeCells,pW]
 .intro i h x;simp[madeCells,pW,Value.cells,dq]
def Ow.Br(w:ap)base n c(b:base<=w.heap.size)(h:n<=c)(x:c<=10000000000):
 Ow (w.alloc<|.cells (pW<|aA c 0).toArray 110) base (.slice (al ⟨w.heap.size,0,am⟩) n c) (aA n 0):=
 ⟨⟨by simp[pW],.inr ⟨w.heap.size,c,_,aK,b,heap_alloc_new w _,by simpa using h,by simp only[maxLen];omega,by simp[pW],by
  simp[pW,List.take_replicate,dE h]⟩⟩,je.FP n⟩
def jc.own{w x y}(h:jc w x)v L(o:Ow x w.heap.size v L)(g:x.grownBy y v.ownBlock):jc w y:=
 h.grown g h.size (λk z=>(o.row.lt k z).1)
def Un(x q s:Nat)(h:x<4294967296)(u:s<32)(k:q<2^s):
 bits BinOp.or IntKind.u64 (IntKind.u64.wrap<|(x:Int)*2^s) (q:Int)=((x*2^s+q:Nat):Int)/\x*2^s+q<18446744073709551616/\(x*2^s+q)/4294967296<2^s:=by
 have p:2^s<=2^31:=bR aG U;have y:(2:Nat)^31=2147483648:= aG ;have z:(x+1)*2^s<=4294967296*2^s:=bX _ h;rw[bT,bU]at z;have v:x*2^s<4294967296*2^s:=dk h<|bG aG;refine⟨?_,U,U⟩;have e:((x:Int)*2^s)=((x*2^s:Nat):Int):= aK ;rw[e,IntKind.wrap_u64,show((x*2^s:Nat):Int)%18446744073709551616=((x*2^s:Nat):Int)by omega,OT _ _,ij,D3 q x s k,eX]
section
variable(A:Option az)(c:Nat)(L:List Nat)(n:Nat)(w:ap)(hs:Sl w A c L)
def abV(f:L.length<=100000000)(hn:n<=65536):
 Calls prog 296 #[.slice A L.length c,.int .i64 n] w (λe w'=>∃ T,val T=val L*2^n/\je T/\T.length=n/32+(iM L).length+1/\vQ w T e w'):=by
 have d:=J<|yi A c L w hs;have l:=hs.xp;have a:=qQ L;have C:=l.cap;have hL:=hs.sE;unfold nB at a;have R:=J<|qm L;generalize iM L=M at *
 obtain⟨m,u⟩:∃ m,m=M.length:=⟨_,rfl⟩
 rw[<-u]at d a C;have t:=J u;clear u;have Q:=SG (n/32) (n/32+m+1) U U;rw[show((n/32:Nat):Int)=n/32 by omega,show((n/32+m+1:Nat):Int)=n/32+m+1 by omega]at Q;have zx:=J<|Ow.Br w w.heap.size (n/32) (n/32+m+1) (bA _) U U;go_enter func296,ntmps296;go_wp2_with fail;refine d.out.mono ?_;rintro e w' ⟨rfl,rfl⟩;go_wp2;go_loopw [5,6,23] (λv P i j=>∃ (k q:Nat) (O:List Nat),k<=m/\i = .int .i64 k/\P = .int .u64 q/\q<2^(n%32)/\O.length=n/32+k/\val O+4294967296^(n/32+k)*q=val (M.take k)*2^(n%32)*4294967296^(n/32)/\Ow j w.heap.size v O/\jc w j) (λ_ _ i _=>m-(intOf i).toNat)
 case atStart=>
  exact⟨0,0,aA (n/32) 0,cj _,rfl,rfl,bG aG,aK,by simp[C3],zx.out,jc.alloc _ _⟩
 case round=>
  obtain⟨k,q,O,hk,rfl,rfl,o,X,Z,y,b⟩:=hrel;have V:=J Z;have H:=J X;have Jq:O.length<=200000000:= U ;have Y:=J o;clear Z X o;obtain⟨OA,Oc,rfl,xQ⟩:=y.sl;by_cases iV:k<m
  .have r:k<M.length:=by have:=t.out;omega
   obtain⟨ab,ao,rfl,_,c1⟩:=(l.below b).mL r;have N:M[k]<4294967296:=l.ok.get r;have G:=J<|Um (c:=q) (s:=n%32) (n0:=n/32) r H.out V.out;generalize M[k]=x at *
   obtain⟨hw,vv,zy⟩:=Un x q (n%32) N (bO _ aG) Y.out;generalize x*2^(n%32)+q=z at *
   have E:=J zy;clear zy;have F:O.length+[z%4294967296].length<=10000000000:= aS ;go_wp2_with (at_builtin;go_must (refine tX aJ _ _ aJ w.heap.size _ O aJ (y.alloc _) _ _ _ [z%4294967296] aJ aJ (Sl.wE _ _ (z%4294967296) U U) F (sD b.size _) ?_);intro D B p g I)
   go_roundw
   case rel=>
    exact⟨k+1,z/4294967296,O++[z%4294967296],U,by go_num,by go_num,E.out,by rw[cD,H.out];rfl,G.out,p,(b.trans<|jc.alloc _ _).own _ _ (y.alloc _) g⟩
   case measure=>simp[intOf];omega
  .obtain rfl:k=m:= U ;have F:O.length+[q].length<=10000000000:= aS ;have Nd:q<4294967296:=by
    have:=Y.out;have hp:2^(n%32)<=2^31:=bR aG U;have K:(2:Nat)^31=2147483648:= aG ;omega
   have ZR:(q:Int)%4294967296=q:= U ;go_wp2_with (at_builtin;go_must (refine tX aJ _ _ aJ w.heap.size _ O aJ (y.alloc _) _ _ _ [q] aJ aJ (Sl.wE _ _ q U U) F (sD b.size _) ?_);intro D B p g I)
   obtain⟨W,c',rfl,S⟩:=p.sl;go_ret;refine⟨O++[q],?_,S.ok,by rw[cD,H.out,<-t.out];rfl,W,c',rfl,S,(b.trans<|jc.alloc _ _).own _ _ (y.alloc _) g⟩;have h:=V.out;rw[cW<|by rw[t.out];exact bA _]at h;rw[yB,H.out,sZ,C1,c9,bV,h,<-R.out,pI,bM,<-bC];congr 2;omega
section
variable(l:L.length<=256)(d:n<=65536)(f:(iy<|val L*2^n).length<=256)
def abP:
 Calls prog 247 #[.slice A L.length c,.int .i64 n] w (Ga w (iy<|val L*2^n) 0):=by
 have H:=J λw (h:Sl w A c L)=>abV A c L n w h U d;obtain⟨R,x⟩:∃ R,R=iy (val L*2^n):=⟨_,rfl⟩
 rw[<-x]at f ⊢;have v:=J x;clear x;go_enter func247,ntmps247;go_wp2_with fail;refine(SC _ A _ c _ ac (U2 _ _ _ _) aS).mono ?_;rintro e t ⟨rfl,rfl⟩;go_wp2_with fail;refine(H.out _<|hs.alloc _).mono ?_;rintro e t ⟨T,z,a,-,s,r,rfl,p,b⟩;have u:=J (show iM T=R by rw[sX a,z,v.out]);clear z a;go_wp2_with fail;refine(Kl s r T _ p<|by rw[u.out];exact f).mono ?_;rintro e q ⟨k,y,rfl,g,m⟩;go_wp2;go_ret2;rw[<-u.out];exact⟨k,y,rfl,g,(jc.alloc _ _).trans<|b.trans m⟩
def atd:
 Calls prog 195 #[.slice A L.length c,.int .i64 n] w (vQ w<|iy<|val L*2^n):=by
 have H:=J<|abP A c L n w hs l d f;generalize iy (val L*2^n)=R at *
 go_enter func195,ntmps195;go_wp2_with fail;refine H.out.mono ?_;rintro e k ⟨h,x,rfl,t,m⟩;go_wp2;go_ret;exact⟨h,x,rfl,t,m⟩
end
end
def UH(a b:Nat)(k:a<18446744073709551616)(y:b<18446744073709551616):bits .and .u64 (a:Int) (b:Int)=((a &&& b:Nat):Int):=by
 have z:a &&& b<2^64:=gI _ U;have h:(BitVec.ofInt 64 (a:Int)).toNat=a:=by
  rw[awi,awj];exact bY U 
 have x:(BitVec.ofInt 64 (b:Int)).toNat=b:=by
  rw[awi,awj];exact bY U 
 show IntKind.u64.wrap ((BitVec.ofInt 64 (a:Int) &&& BitVec.ofInt 64 (b:Int)).toNat:Int)=_;rw[BitVec.toNat_and,h,x,IntKind.wrap_u64];omega
def zU(z:Nat)(h:z<18446744073709551616:=by omega):bits BinOp.and IntKind.u64 (z:Int) 4294967295=(z:Int)%4294967296:=by
 have e:(4294967295:Int)=((4294967295:Nat):Int):=rfl;rw[e,UH z _ h U,show(4294967295:Nat)=2^32-1 by decide,awS];simp
def arz(A:Option az)(c:Nat)(M:List Nat)(n:Nat)(w:ap)(L:Sl w A c M)(l:M.length<=1000)(hn:n<=65536):
 Calls prog 198 #[.slice A M.length c,.int .i64 n] w (vQ w<|iy<|val M*2^n):=by
 have C:=L.cap;have hL:=L.sE;obtain⟨m,t⟩:∃ m,m=M.length:=⟨_,rfl⟩
 rw[<-t]at l C ⊢;have a:=J t;clear t;have S:=SG (n/32) (n/32) U U;rw[show((n/32:Nat):Int)=n/32 by omega]at S;have zx:=J<|Ow.Br w w.heap.size (n/32) (n/32) (bA _) U U;go_enter func198,ntmps198;go_wp2;go_loopw [5,6,7] (λv R i j=>∃ (k q:Nat) (O:List Nat),k<=m/\i = .int .i64 k/\R = .int .u64 q/\q<2^(n%32)/\O.length=n/32+k/\val O+4294967296^(n/32+k)*q=val (M.take k)*2^(n%32)*4294967296^(n/32)/\Ow j w.heap.size v O/\jc w j) (λ_ _ i _=>m-(intOf i).toNat)
 case atStart=>
  exact⟨0,0,aA (n/32) 0,cj _,rfl,rfl,bG aG,aK,by simp[C3],zx.out,jc.alloc _ _⟩
 case round=>
  obtain⟨k,q,O,hk,rfl,rfl,o,X,Z,y,b⟩:=hrel;have V:=J Z;have H:=J X;have Jq:O.length<=3100:= U ;have Y:=J o;clear Z X o;obtain⟨OA,Oc,rfl,xQ⟩:=y.sl;by_cases iV:k<m
  .have r:k<M.length:=by have:=a.out;omega
   obtain⟨ab,ao,rfl,_,c1⟩:=(L.below b).mL r;have Q:M[k]<4294967296:=L.ok.get r;have N:=J<|Um (c:=q) (s:=n%32) (n0:=n/32) r H.out V.out;generalize M[k]=x at *
   obtain⟨hw,G,zy⟩:=Un x q (n%32) Q (bO _ aG) Y.out;generalize x*2^(n%32)+q=z at *
   have E:=J zy;clear zy;have F:O.length+[z%4294967296].length<=10000000000:= aS ;have xP:=zU z G;go_wp2_with (at_builtin;go_must (refine tX aJ _ _ aJ w.heap.size _ O aJ (y.alloc _) _ _ _ [z%4294967296] aJ aJ (Sl.wE _ _ (z%4294967296) U U) F (sD b.size _) ?_);intro D B u g I)
   go_roundw
   case rel=>
    exact⟨k+1,z/4294967296,O++[z%4294967296],U,by go_num,by go_num,E.out,by rw[cD,H.out];rfl,N.out,u,(b.trans<|jc.alloc _ _).own _ _ (y.alloc _) g⟩
   case measure=>simp[intOf];omega
  .obtain rfl:k=m:= U ;have F:O.length+[q].length<=10000000000:= aS ;have K:q<4294967296:=by
    have:=Y.out;have hp:2^(n%32)<=2^31:=bR aG U;have W:(2:Nat)^31=2147483648:= aG ;omega
   have ZR:(q:Int)%4294967296=q:= U ;have T:Hid<|iM (O++[q])=iy (val M*2^n):=by
    show iM (O++[q])=iy (val M*2^n);rw[sX<|y.ok.append<|je.cons K je.nil];have h:=V.out;rw[cW<|by rw[a.out];exact bA _]at h;rw[yB,H.out,sZ,C1,c9,bV,h,pI,bM,<-bC];congr 3;omega
   go_wp2_with (at_builtin;go_must (refine tX aJ _ _ aJ w.heap.size _ O aJ (y.alloc _) _ _ _ [q] aJ aJ (Sl.wE _ _ q U U) F (sD b.size _) ?_);intro D B u g I;obtain⟨P,p⟩:∃ P,P=O++[q]:=⟨_,rfl⟩;rw[<-p]at u T;have ME:P.length<=3101:=(by rw[p];simp;omega);clear p;obtain⟨A',c',rfl,pH⟩:=u.sl)
   refine(FO A' c' P _ pH).mono ?_;rintro e w' ⟨f,d,rfl,tg,mQ⟩;go_wp2;go_ret;rw[<-T.out];exact⟨f,d,rfl,tg,((b.trans<|jc.alloc _ _).own _ _ (y.alloc _) g).trans mQ⟩
def atn(x y s:Nat)(z:x<4294967296)(u:y<4294967296):
 bits BinOp.and IntKind.u64 (bits BinOp.or IntKind.u64 (x:Int) ((y:Int)*4294967296)/2^s) 4294967295=(((x+4294967296*y)/2^s%4294967296:Nat):Int):=by
 have e:((y:Int)*4294967296)=((y*2^32:Nat):Int):= aK ;rw[e,OT x<|y*2^32,D3 x y 32 U];have h:(x+y*2^32)/2^s<18446744073709551616:=cB (b6 _ _) U;have k:=zU _ h;rw[show(((x+y*2^32:Nat):Int)/2^s)=(((x+y*2^32)/2^s:Nat):Int)by simp,k];simp[bL]
def atm(x s:Nat)(k:x<4294967296):bits BinOp.and IntKind.u64 ((x:Int)/2^s) 4294967295=(((x+4294967296*0)/2^s%4294967296:Nat):Int):=by
 have h:x/2^s<18446744073709551616:=cB (b6 _ _) U;rw[show((x:Int)/2^s)=((x/2^s:Nat):Int)by simp,zU _ h];simp
def arH(A:Option az)(c:Nat)(M:List Nat)(n:Nat)(w:ap)(l:Sl w A c M)(u:M.length<=3000)(hn:n<=100000):
 Calls prog 193 #[.slice A M.length c,.int .i64 n] w (vQ w<|iy<|val M/2^n):=by
 have P:=l.cap;have hL:=l.sE;have q:Hid<|iM (sW (n%32)<|M.drop<|n/32)=iy (val M/2^n):=by
  show _=_;rw[sX<|D1 _ _,OY l.ok]
 obtain⟨R,V⟩:∃ R,R=iy (val M/2^n):=⟨_,rfl⟩
 rw[<-V]at q ⊢;clear V;obtain⟨m,p⟩:∃ m,m=M.length:=⟨_,rfl⟩
 rw[<-p]at u P ⊢;have H:=J p;clear p;by_cases N:m<=n/32
 .go_enter func193,ntmps193;go_wp2;go_ret;have:M.drop (n/32)=[]:=eU (by rw[<-H.out];exact N);have h:=q.out;rw[this]at h;rw[<-h];exact⟨am,0,rfl,Sl.nil _,jc.refl _⟩
 .obtain ⟨ab,ao,rfl,_,_⟩:=l.mL (i:=0) (by have:=H.out;omega);have t:=l.drop<|n/32;have I:=J (show m-n/32=(M.drop<|n/32).length by rw[fB,H.out]);have qb:n/32<c:= U ;have oK:0<m-n/32:= U ;have wT:m-n/32<=3000:= U ;generalize M.drop (n/32)=K at *
  simp only[cJ,Et]at t;have E:=J<|Oz (n%32) K;have D:=J<|aeG (n%32) K;have Jt:=J<|D1 (n%32) K;generalize sW (n%32) K=T at *
  go_enter func193,ntmps193;go_wp2;go_loopw [5,6] (λv i S=>∃ (k:Nat) (O:List Nat),k<=m-n/32/\i = .int .i64 k/\O=T.take k/\Ow S w.heap.size v O/\jc w S) (λ_ i _=>m-n/32-(intOf i).toNat)
  case atStart=>
   exact⟨0,[],cj _,rfl,aK,Ow.nil _ _,jc.refl _⟩
  case round=>
   obtain⟨k,O,hk,rfl,f,s,b⟩:=hrel;have Jq:O.length<=3000:=by rw[f,cz];omega
   have d:=J f;clear f;obtain⟨B,zx,rfl,W⟩:=s.sl;by_cases iV:k<m-n/32
   .have L:k<K.length:=by have:=I.out;omega
    obtain⟨a,o,j,_,c1⟩:=(t.below b).mL L;cases j;have g:=D.out k L;have Q:K[k]<4294967296:=t.ok.get L;have HK:=J<|bH L;by_cases DE:k+1<m-n/32
    .have C:k+1<K.length:=by have:=I.out;omega
     obtain⟨a,o,j,_,c2⟩:=(t.below b).mL C;cases j;have r:K.getD (k+1) 0=K[k+1]:=by rw[bB,bH C];rfl
     rw[r]at g;have rJ:K[k+1]<4294967296:=t.ok.get C;have G:=J g;clear g r;generalize K[k]=x at *
     generalize K[k+1]=y at *
     clear L C;have hw:=atn x y (n%32) Q rJ;have hz:(x+4294967296*y)/2^(n%32)%4294967296<4294967296:=bO _ aG;generalize (x+4294967296*y)/2^(n%32)%4294967296=z at *
     have F:O.length+[z].length<=10000000000:= aS ;go_wp2_with (at_builtin;go_must (refine tX aJ _ _ aJ w.heap.size _ O aJ (s.alloc _) _ _ _ [z] aJ aJ (Sl.wE _ _ z U U) F (sD b.size _) ?_);intro v' w1 X g qs)
     go_roundw
     case rel=>
      exact⟨k+1,O++[z],U,by go_num,by rw[d.out,awk,G.out];rfl,X,(b.trans<|jc.alloc _ _).own _ _ (s.alloc _) g⟩
     case measure=>simp[intOf];omega
    .have r:K.getD (k+1) 0=0:=by rw[bB,cM<|by have:=I.out;omega];rfl
     rw[r]at g;have G:=J g;clear g r;generalize K[k]=x at *
     clear L;have hw:=atm x (n%32) Q;have hz:(x+4294967296*0)/2^(n%32)%4294967296<4294967296:=bO _ aG;generalize (x+4294967296*0)/2^(n%32)%4294967296=z at *
     have F:O.length+[z].length<=10000000000:= aS ;go_wp2_with (at_builtin;go_must (refine tX aJ _ _ aJ w.heap.size _ O aJ (s.alloc _) _ _ _ [z] aJ aJ (Sl.wE _ _ z U U) F (sD b.size _) ?_);intro v' w1 X g qs)
     go_roundw
     case rel=>
      exact⟨k+1,O++[z],U,by go_num,by rw[d.out,awk,G.out];rfl,X,(b.trans<|jc.alloc _ _).own _ _ (s.alloc _) g⟩
     case measure=>simp[intOf];omega
   .have Y:Hid<|iM O=R:=by
     show iM O=R;rw[d.out,cW<|by rw[E.out,<-I.out];omega];exact q.out
    go_wp2_with fail;refine(FO B zx O _ W).mono ?_;rintro e w' ⟨Z,zy,rfl,tg,mQ⟩;go_wp2;go_ret;rw[<-Y.out];exact⟨Z,zy,rfl,tg,b.trans mQ⟩
def Du{L:List Nat}{k}(h:k<L.length):L.getD k 0=L[k]:=by
 rw[bB,bH h];rfl
def GD{L:List Nat}{k}(h:¬k<L.length):L.getD k 0=0:=by
 rw[bB,cM U];rfl
def arC(A B:Option az)(c d:Nat)(L M:List Nat)(w:ap)(D:Sl w A c L)(f:Sl w B d M)(K:L.length<=3000)(W:M.length<=3000):
 Calls prog 199 #[.slice A L.length c,.slice B M.length d] w (vQ w<|iy<|val L+val M):=by
 have Y:=J (rfl:L.length=L.length);obtain⟨l,a⟩:∃ l,l=L.length:=⟨_,rfl⟩
 obtain⟨m,p⟩:∃ m,m=M.length:=⟨_,rfl⟩
 rw[<-a]at K ⊢;rw[<-p]at W ⊢;have Z:=J a;have j:=J p;clear a p Y;go_enter func199,ntmps199;go_wp2;go_loopw [5,6,7] (λv cy i C=>∃ (k q:Nat) (O:List Nat),(k<=l\/k<=m)/\i = .int .i64 k/\cy = .int .u64 q/\q<=1/\O.length=k/\val O+4294967296^k*q=val (L.take k)+val (M.take k)/\Ow C w.heap.size v O/\jc w C) (λ_ _ i _=>3000-(intOf i).toNat)
 case atStart=>exact⟨0,0,[],.inl<|cj _,rfl,rfl,aG,rfl,aK,Ow.nil _ _,jc.refl _⟩
 case round=>
  obtain⟨k,q,O,hk,rfl,rfl,hq,zy,V,u,b⟩:=hrel;have H:=J<|agh (x:=L.getD k 0) (y:=M.getD k 0) zy V (yD L k)<|yD M k;have HV:=J V;have o:=J zy;have Jq:O.length<=3000:= U ;have Ru:k<=3000:= U ;clear V zy hk;obtain⟨OA,Oc,rfl,xQ⟩:=u.sl;have s:=λz:Nat=>λh:z<8589934593=>zU z 
  by_cases a:k<l
  .have I:(k:Int)<l:= U ;have X:k<L.length:=by have:=Z.out;omega
   obtain⟨ab,ao,rfl,_,c1⟩:=(D.below b).mL X;have om:L[k]<4294967296:=D.ok.get X;rw[Du X]at H;generalize L[k]=x at *
   clear X;by_cases p:k<m
   .have T:(k:Int)<m:= U ;have r:k<M.length:=by have:=j.out;omega
    obtain⟨bb,bo,rfl,_,c2⟩:=(f.below b).mL r;have rJ:M[k]<4294967296:=f.ok.get r;rw[Du r]at H;generalize M[k]=y at *
    clear r;have n:=s (q+x+y) U;simp only[fF]at n;clear s;have F:O.length+[(q+x+y)%4294967296].length<=10000000000:= aS ;go_wp2_with (at_builtin;go_must (refine tX aJ _ _ aJ w.heap.size _ O aJ (u.alloc _) _ _ _ [(q+x+y)%4294967296] aJ aJ (Sl.wE _ _ ((q+x+y)%4294967296) U U) F (sD b.size _) ?_);intro S R t g Q)
    go_roundw
    case rel=>
     exact⟨k+1,(q+x+y)/4294967296,O++[(q+x+y)%4294967296],U,by go_num,by go_num,U,by rw[cD,o.out];rfl,H.out,t,(b.trans<|jc.alloc _ _).own _ _ (u.alloc _) g⟩
    case measure=>simp[intOf];omega
   .have T:¬(k:Int)<m:= U ;rw[GD<|by have:=j.out;omega]at H;have n:=s (q+x+0) U;simp only[fF,bV]at n;clear s;have F:O.length+[(q+x+0)%4294967296].length<=10000000000:= aS ;go_wp2_with (at_builtin;go_must (refine tX aJ _ _ aJ w.heap.size _ O aJ (u.alloc _) _ _ _ [(q+x+0)%4294967296] aJ aJ (Sl.wE _ _ ((q+x+0)%4294967296) U U) F (sD b.size _) ?_);intro S R t g Q)
    go_roundw
    case rel=>
     exact⟨k+1,(q+x+0)/4294967296,O++[(q+x+0)%4294967296],U,by go_num,by go_num,U,by rw[cD,o.out];rfl,H.out,t,(b.trans<|jc.alloc _ _).own _ _ (u.alloc _) g⟩
    case measure=>simp[intOf];omega
  .have I:¬(k:Int)<l:= U ;have hlF:decide ((k:Int)<l)=ac:=by simpa using I
   rw[GD (L:=L)<|by have:=Z.out;omega]at H;by_cases p:k<m
   .have T:(k:Int)<m:= U ;have r:k<M.length:=by have:=j.out;omega
    obtain⟨bb,bo,rfl,_,c2⟩:=(f.below b).mL r;have rJ:M[k]<4294967296:=f.ok.get r;rw[Du r]at H;generalize M[k]=y at *
    clear r;have n:=s (q+0+y) U;simp only[fF,bV]at n;clear s;have F:O.length+[(q+0+y)%4294967296].length<=10000000000:= aS ;go_wp2_with (at_builtin;go_must (refine tX aJ _ _ aJ w.heap.size _ O aJ (u.alloc _) _ _ _ [(q+0+y)%4294967296] aJ aJ (Sl.wE _ _ ((q+0+y)%4294967296) U U) F (sD b.size _) ?_);intro S R t g Q)
    go_roundw
    case rel=>
     exact⟨k+1,(q+0+y)/4294967296,O++[(q+0+y)%4294967296],U,by go_num,by go_num,U,by rw[cD,o.out];rfl,H.out,t,(b.trans<|jc.alloc _ _).own _ _ (u.alloc _) g⟩
    case measure=>simp[intOf];omega
   .have T:¬(k:Int)<m:= U ;clear s;have Nd:(q:Int)%4294967296=q:= U ;have zx:Hid<|iM (O++[q])=iy (val L+val M):=by
     show iM (O++[q])=_;rw[sX<|u.ok.append<|je.cons U je.nil,yB,o.out];have h:=HV.out;rw[cW<|by have:=Z.out;omega,cW<|by have:=j.out;omega]at h;simp only[sZ,C1,c9,bV];rw[h]
    have F:O.length+[q].length<=10000000000:= aS ;go_wp2_with (at_builtin;go_must (refine tX aJ _ _ aJ w.heap.size _ O aJ (u.alloc _) _ _ _ [q] aJ aJ (Sl.wE _ _ q U U) F (sD b.size _) ?_);intro S R t g Q;obtain⟨P,N⟩:∃ P,P=O++[q]:=⟨_,rfl⟩;rw[<-N]at t zx;have ME:P.length<=3001:=(by rw[N];simp;omega);clear N;obtain⟨A',c',rfl,pH⟩:=t.sl)
    refine(FO A' c' P _ pH).mono ?_;rintro e w' ⟨G,E,rfl,tg,mQ⟩;go_wp2;go_ret;rw[<-zx.out];exact⟨G,E,rfl,tg,((b.trans<|jc.alloc _ _).own _ _ (u.alloc _) g).trans mQ⟩
def auV(x s:Nat)(k:x<4294967296):bits BinOp.and IntKind.u32 ((x:Int)/2^s) 1=((x/2^s%2:Nat):Int):=by
 have h:x/2^s<4294967296:=cB (b6 _ _) U;rw[show((x:Int)/2^s)=((x/2^s:Nat):Int)by simp,show(1:Int)=((1:Nat):Int)from rfl,bits_and_u32_nat _ _ h aG,awl]
def arQ(A:Option az)(c:Nat)(L:List Nat)(w:ap)(hs:Sl w A c L)(h1:L.length<=3000)(h0:val L≠0):
 Calls prog 192 #[.slice A L.length c] w λe w'=>e = .returned (.int .i64<|ky<|val L)/\w=w':=by
 have hz:=IS hs.ok h0;have HB:=J λk (hk:k<ky (val L))=>V3 h0 hk;have HE:=J<|V2 h0;have HV:=J λk=>PA hs.ok k;generalize ky (val L)=t at *
 go_enter func192,ntmps192;go_wp2;go_loop [3] (λi=>∃ k:Nat,k<=t/\i = .int .i64 k) (λi=>t-(intOf i).toNat)
 case atStart=>exact⟨0,cj _,rfl⟩
 case round=>
  obtain⟨k,hk,rfl⟩:=hrel;have xM:k/32<L.length:= U ;obtain⟨ab,ao,rfl,_,c1⟩:=hs.mL xM;have hv:=HV.out k xM;have om:L[k/32]<4294967296:=hs.ok.get xM;generalize L[k/32]=x at *
  clear HV;have wU:=auV x (k%32) om;rw[<-hv]at wU;clear hv;by_cases hkt:k<t
  .rw [HB.out k hkt]at wU;have hb:(bits BinOp.and IntKind.u32 ((x:Int)/2^(k%32)) 1==0)=aa:=by rw[wU];rfl
   clear wU;go_wp2;go_round
   case rel=>exact⟨k+1,U,by go_num⟩
   case measure=>simp[intOf];omega
  .obtain rfl:k=t:= U ;rw[HE.out]at wU;have hb:(bits BinOp.and IntKind.u32 ((x:Int)/2^(k%32)) 1==0)=ac:=by rw[wU];rfl
   clear wU;go_wp2;go_ret;exact⟨rfl,rfl⟩
def arA(A B:Option az)(c d:Nat)(L M:List Nat)(w:ap)(V:Sl w A c L)(T:Sl w B d M)(E:L.length<=3000)(S:M.length<=L.length)(u:val M<=val L):
 Calls prog 200 #[.slice A L.length c,.slice B M.length d] w (vQ w<|iy<|val L-val M):=by
 obtain⟨l,t⟩:∃ l,l=L.length:=⟨_,rfl⟩
 obtain⟨m,s⟩:∃ m,m=M.length:=⟨_,rfl⟩
 rw[<-t]at E S ⊢;rw[<-s]at S ⊢;have R:=J t;have H:=J s;clear t s;have n:=J u;clear u;go_enter func200,ntmps200;go_wp2;go_loopw [5,6,7] (λv D i Q=>∃ (k q:Nat) (O:List Nat),k<=l/\i = .int .i64 k/\D = .int .u64 q/\q<=1/\O.length=k/\val O+val (M.take k)=val (L.take k)+4294967296^k*q/\Ow Q w.heap.size v O/\jc w Q) (λ_ _ i _=>l-(intOf i).toNat)
 case atStart=>exact⟨0,0,[],cj _,rfl,rfl,aG,rfl,aK,Ow.nil _ _,jc.refl _⟩
 case round=>
  obtain⟨k,q,O,hk,rfl,rfl,hq,g,Z,z,b⟩:=hrel;have P:=J (λ(x y:Nat) (C:L.getD k 0=x) (I:M.getD k 0=y) (zx N:Nat)=>at2 (x:=x) (y:=y) (d:=zx) (c':=N) g Z ((yD L k).trans<|by rw[C])<|(yD M k).trans<|by rw[I]);have K:=J Z;have f:=J g;have Jq:O.length<=3000:= U ;clear Z g;obtain⟨W,Oc,rfl,xQ⟩:=z.sl;by_cases t:k<l
  .have r:k<L.length:=by have:=R.out;omega
   obtain⟨ab,ao,rfl,_,c1⟩:=(V.below b).mL r;have om:L[k]<4294967296:=V.ok.get r;have G:=J<|Du r;generalize L[k]=x at *
   clear r;by_cases s:k<m
   .have p:k<M.length:=by have:=H.out;omega
    obtain⟨bb,bo,rfl,_,c2⟩:=(T.below b).mL p;have rJ:M[k]<4294967296:=T.ok.get p;have Y:=J<|Du p;generalize M[k]=y at *
    clear p;have a:=zU<|x+4294967296-(q+y);rw[show((x+4294967296-(q+y):Nat):Int)=x+4294967296-(q+y)by omega]at a;have F:O.length+[(x+4294967296-(q+y))%4294967296].length<=10000000000:= aS ;go_wp2_with (at_builtin;go_must (refine tX aJ _ _ aJ w.heap.size _ O aJ (z.alloc _) _ _ _ [(x+4294967296-(q+y))%4294967296] aJ aJ (Sl.wE _ _ ((x+4294967296-(q+y))%4294967296) U U) F (sD b.size _) ?_);intro v' w1 j o qs)
    go_roundw
    case rel=>
     exact⟨k+1,1-(x+4294967296-(q+y))/4294967296,O++[(x+4294967296-(q+y))%4294967296],U,by go_num,by rw[show(1-((x:Int)+4294967296-(q+y))/4294967296)=((1-(x+4294967296-(q+y))/4294967296:Nat):Int)by omega],U,by rw[cD,f.out];rfl,P.out x y G.out Y.out _ _ U,j,(b.trans<|jc.alloc _ _).own _ _ (z.alloc _) o⟩
    case measure=>simp[intOf];omega
   .have M6:¬(k:Int)<m:= U ;have Y:=J (GD (L:=M) (k:=k)<|by have:=H.out;omega);have a:=zU<|x+4294967296-q;rw[show((x+4294967296-q:Nat):Int)=x+4294967296-q by omega]at a;have F:O.length+[(x+4294967296-q)%4294967296].length<=10000000000:= aS ;go_wp2_with (at_builtin;go_must (refine tX aJ _ _ aJ w.heap.size _ O aJ (z.alloc _) _ _ _ [(x+4294967296-q)%4294967296] aJ aJ (Sl.wE _ _ ((x+4294967296-q)%4294967296) U U) F (sD b.size _) ?_);intro v' w1 j o qs)
    go_roundw
    case rel=>
     exact⟨k+1,1-(x+4294967296-q)/4294967296,O++[(x+4294967296-q)%4294967296],U,by go_num,by rw[show(1-((x:Int)+4294967296-q)/4294967296)=((1-(x+4294967296-q)/4294967296:Nat):Int)by omega],U,by rw[cD,f.out];rfl,P.out x 0 G.out Y.out _ _ U,j,(b.trans<|jc.alloc _ _).own _ _ (z.alloc _) o⟩
    case measure=>simp[intOf];omega
  .obtain rfl:k=l:= U ;have Ak:Hid<|iM O=iy (val L-val M):=by
    show iM O=_;have h:=K.out;rw[cW (l:=L)<|by have:=R.out;omega,cW (l:=M)<|by have:=H.out;omega]at h;rw[sX z.ok,(aeY z.ok f.out h n.out).2]
   go_wp2_with fail;refine(FO W Oc O _ xQ).mono ?_;rintro e w' ⟨X,zy,rfl,tg,mQ⟩;go_wp2;go_ret;rw[<-Ak.out];exact⟨X,zy,rfl,tg,b.trans mQ⟩
def SP{O p a b c o}(k:O[p]? = al o):
 val (O.set p<|(a*b+o+c)%4294967296)+4294967296^(p+1)*((a*b+o+c)/4294967296)=val O+4294967296^p*c+4294967296^p*(a*b):=by
 obtain⟨y,rfl⟩:=cF.1 k;have h:=UJ (x:=(a*b+O[p]+c)%4294967296) y;have e:=congrArg (4294967296^p * ·)<|ek (a*b+O[p]+c) 4294967296;simp only[bW]at e;rw[bI,bM];omega
def PM{O p c o}(x:O[p]? = al o):
 val (O.set p<|(o+c)%4294967296)+4294967296^(p+1)*((o+c)/4294967296)=val O+4294967296^p*c:=by
 have h:=SP (a:=0) (b:=0) (c:=c) x;simpa using h
def aiE{i n k N c O a b}(s:val O+4294967296^k*c=val (a.take<|i+1)*val b)(y:je a)(z:je b)(r:i<a.length)(u:b.length=n)(v:0<c)(q:a.length+n<N):k<N:=by
 have h:=nE<|y.take<|i+1;rw[cz,dE U]at h;have x:=nE z;rw[u]at x;have p:val (a.take<|i+1)*val b<4294967296^(i+1+n):=by
  rw[bC];exact awm h x
 have m:4294967296^k*1<=4294967296^k*c:=cR _ v;have t:4294967296^k<4294967296^(i+1+n):= U ;have:=(awJ (aG:1<4294967296)).1 t;omega
def au0(x y:Nat)(k:x<4294967296)(z:y<4294967296):IntKind.u64.wrap ((x:Int)*(y:Int))=((x*y:Nat):Int)/\x*y<=18446744065119617025:=by
 have h:x*y<=4294967295*4294967295:=dx U U;refine⟨?_,U⟩;rw[IntKind.wrap_u64,<-eH];omega
def rS(x:Nat)(h:x<18446744073709551616:=by omega):IntKind.u64.wrap (x:Int)=x:=by rw[IntKind.wrap_u64];omega
def Fp.je.Ox{L}(h:je L)k x:je<|L.set k<|x%4294967296:=h.set k<|bO _ aG
def arM(A B:Option az)(c d:Nat)(L M:List Nat)(w:ap)(D:Sl w A c L)(C:Sl w B d M)(h1:L.length<=3000)(h2:M.length<=3000):
 Calls prog 236 #[.slice A L.length c,.slice B M.length d] w (vQ w<|iy<|val L*val M):=by
 obtain⟨l,I⟩:∃ l,l=L.length:=⟨_,rfl⟩
 obtain⟨m,zx⟩:∃ m,m=M.length:=⟨_,rfl⟩
 rw[<-I]at h1 ⊢;rw[<-zx]at h2 ⊢;have T:=J I;have K:=J zx;clear I zx;have ri:=Hd (l+m+1) U;rw[show((l+m+1:Nat):Int)=l+m+1 by omega]at ri;have vf:=J<|Rw.Br w<|l+m+1;go_enter func236,ntmps236;go_wp2;go_loopw [6] (λi wr=>∃ (k:Nat) (O:List Nat),k<=l/\i = .int .i64 k/\O.length=l+m+1/\je O/\val O=val (L.take k)*val M/\Rw wr w.heap.size O/\jc w wr) (λi _=>l-(intOf i).toNat)
 case atStart=>
  exact⟨0,aA (l+m+1) 0,cj _,rfl,aK,je.FP _,by simp[C3],vf.out,jc.alloc _ _⟩
 case round=>
  obtain⟨i,O,hi,rfl,s,u,Z,R,t⟩:=hrel;have V:=J Z;have H:=J s;clear Z s;by_cases iV:i<l
  .have S:i<L.length:=by have:=T.out;omega
   obtain⟨x,Q⟩:∃ x,x=L[i]:=⟨_,rfl⟩
   have HX:=J Q;have om:x<4294967296:=by rw[Q];exact D.ok.get S
   have X:=J λw (h:Sl w A c L)=>Q▸h.mL S;clear Q;have W:=J (show val (L.take<|i+1)=val (L.take i)+4294967296^i*x by rw[HX.out];exact BN L i S);clear HX S;go_wp2;obtain⟨Y,rfl⟩:∃ Y:ap,Y=wr:=⟨_,rfl⟩
   go_loopw [7,8] (λcy k wr=>∃ (j q:Nat) (O:List Nat),j<=m/\k = .int .i64 j/\cy = .int .u64 q/\q<4294967296/\O.length=l+m+1/\je O/\val O+4294967296^(i+j)*q=val (L.take i)*val M+4294967296^i*(x*val (M.take j))/\Rw wr w.heap.size O/\jc w wr) (λ_ k _=>m-(intOf k).toNat)
   case atStart=>
    exact⟨0,0,O,cj _,rfl,rfl,aG,H.out,u,by simp[V.out],R,t⟩
   case round=>
    clear H V u R;obtain⟨j,q,O,hj,rfl,rfl,hq,s,u,Z,R,t⟩:=hrel;have V:=J Z;have H:=J s;clear Z s;by_cases DE:j<m
    .have P:j<M.length:=by have:=K.out;omega
     obtain⟨y,G⟩:∃ y,y=M[j]:=⟨_,rfl⟩
     have rJ:y<4294967296:=by rw[G];exact C.ok.get P
     obtain⟨ab,ao,e1,_,c1⟩:=X.out _<|D.below t;obtain⟨bb,bo,e2,_,c2⟩:=(C.below t).mL P;have HYS:=J (show val (M.take<|j+1)=val (M.take j)+4294967296^j*y by rw[G];exact BN M j P);rw[<-G]at c2;clear G P X;subst e1 e2;have F:i+j<O.length:=by have:=H.out;omega
     have r:=bH F;have amB:O[i+j]<4294967296:=u.get F;have c3:=R.cell r;have c4:=R.frozen<|i+j;have HS:=J<|SP (a:=x) (b:=y) (c:=q) r;generalize O[i+j]=o at *
     clear r F;have Na:=λv=>u.Ox (i+j) v
     have g:=J (λv:Nat=>R.set (i+j) v);have E:=J λ(n:Nat) (v:av)=>(below_drewN t n).setCell (p:=⟨w.heap.size,i+j,am⟩) (bA _) v;have f:=J Na;have N:=J (show val (L.take i)*val M+4294967296^i*(x*val (M.take<|j+1))=val (L.take i)*val M+4294967296^i*(x*val (M.take j))+4294967296^(i+j)*(x*y)by
      rw[HYS.out,bW x,bW<|4294967296^i,bC,cU];congr 2;rw[dp x,bM])
     obtain⟨Fq,Bl⟩:=au0 x y om rJ;generalize x*y=z at *
     have vv:IntKind.u64.wrap ((z:Int)+o)=(z:Int)+o:=by rw[IntKind.wrap_u64];omega
     have vy:IntKind.u64.wrap ((z:Int)+o+q)=(z:Int)+o+q:=by rw[IntKind.wrap_u64];omega
     have xP:=zU<|z+o+q;simp only[fF]at xP;have Bb:IntKind.i64.wrap ((i:Int)+j)=(i:Int)+j:=i64_in _;have uj:(0:Int)<=i+j:= U ;have Zt:((i:Int)+j).toNat=i+j:= U ;have hi4:(i:Int)+j<l+m+1:= U ;go_wp2;go_quiet (fail);go_wp2;go_roundw
     case rel=>
      exact⟨j+1,(z+o+q)/4294967296,O.set (i+j)<|(z+o+q)%4294967296,U,by go_num,by go_num,U,by rw[de];exact H.out,f.out _,by rw[N.out,<-V.out];exact HS.out,g.out _,E.out _ _⟩
     case measure=>simp[intOf];omega
    .obtain rfl:j=m:= U ;have zy:=J (show val O+4294967296^(i+j)*q=val (L.take<|i+1)*val M by
      rw[W.out,V.out,show M.take j=M from cW<|by rw[K.out];exact bA _,bT,bM])
     clear V;go_wp2;obtain⟨Y,rfl⟩:∃ Y:ap,Y=wr:=⟨_,rfl⟩
     go_loopw [7,10] (λcy k wr=>∃ (p q:Nat) (O:List Nat),p<=l+j+1/\k = .int .i64 p/\cy = .int .u64 q/\q<4294967296/\O.length=l+j+1/\je O/\val O+4294967296^p*q=val (L.take<|i+1)*val M/\Rw wr w.heap.size O/\jc w wr) (λ_ k _=>l+j+1-(intOf k).toNat)
     case atStart=>
      exact⟨i+j,q,O,U,by go_num,rfl,hq,H.out,u,zy.out,R,t⟩
     case round=>
      clear H zy u R hq;obtain⟨p,q,O,F,rfl,rfl,hq,s,u,Z,R,t⟩:=hrel;have V:=J Z;have H:=J s;clear Z s;by_cases hc:0<q
      .have hpN:p<l+j+1:=aiE V.out D.ok C.ok (by have:=T.out;omega) K.out.symm hc (by have:=T.out;omega);have RN:p<O.length:=by have:=H.out;omega
       have r:=bH RN;have amB:O[p]<4294967296:=u.get RN;have c3:=R.cell r;have c4:=R.frozen p;have HS:=J<|PM (c:=q) r;generalize O[p]=o at *
       clear r RN;have g:=J (λv:Nat=>R.set p v);have E:=J (λv:av=>t.setCell (p:=⟨w.heap.size,p,am⟩) (bA _) v);have f:=J λv=>u.Ox p v;have xP:=zU<|o+q;simp only[fF]at xP;have Cm:decide ((q:Int)>0)=aa:=bu U;have vt:decide (0<q)=aa:=bu hc;go_wp2;go_roundw
       case rel=>
        exact⟨p+1,(o+q)/4294967296,O.set p<|(o+q)%4294967296,U,by go_num,by go_num,U,by rw[de];exact H.out,f.out _,by rw[<-V.out];exact HS.out,g.out _,E.out _⟩
       case measure=>simp[intOf];omega
      .obtain rfl:q=0:= U ;go_wp2;go_roundw
       case rel=>
        exact⟨i+1,O,U,by go_num,H.out,u,by rw[<-V.out];simp,R,t⟩
       case measure=>simp[intOf];omega
  .obtain rfl:i=l:= U ;have HF:=J (show iM O=iy (val L*val M)by
    rw[sX u,V.out,show L.take i=L from cW<|by rw[T.out];exact bA _])
   have tJ:=R.sl u (by rw[H.out];omega);obtain⟨n,hn⟩:∃ n,n=O.length:=⟨_,rfl⟩
   have ku:i+m+1=n:=by rw[hn];exact H.out.symm
   have hT:=J (FO _ _ O _ tJ<|by rw[H.out];omega);rw[H.out]at hT;clear hn ku;go_wp2_with fail;refine hT.out.mono ?_;rintro e w' ⟨A'',c'',rfl,tg,mQ⟩;go_wp2;go_ret;rw[<-HF.out];exact⟨A'',c'',rfl,tg,t.trans mQ⟩
def KL(s:Bool)(A:Option az)(c:Nat)(L:List Nat)(e:Int)(w:ap)(y:Sl w A c L)(l:L.length<=3000)(G:-1000000<=e)(O:e<=1000000):
 Calls prog 133 #[.bool s,.slice A L.length c,.int .i64 e] w (xx w<|canon s (val L) e):=by
 by_cases x:val L=0
 .have o:=J (show canon s (val L) e=kq by unfold canon;rw[bt x];rfl);have R:iM L=[]:=by rw[sX y.ok,x,pj]
  have T:=J λw (h:Sl w A c L)=>FO A c L w h;rw[R]at T;clear R x;go_enter func133,ntmps133;go_wp2_with fail;refine(T.out _<|y.alloc _).mono ?_;rintro e I ⟨V,S,rfl,H,k⟩;have b:=(kf.new w ac am 0 0 0).ext k;have r:=b.c0;have p:=b.c1;have n:=b.c2;have f0:=b.fr 0;have f1:=b.fr 1;have f2:=b.fr 2;go_wp2;rw[o.out];have z:iy kq.m=[]:=pj;exact vX rfl rfl rfl (b.set _ _ _ _ _) (by rw[z];rfl) (by rw[z];exact b.wG (Sl.nil _) _ _ _ _ _) (kf.vK ((jc.alloc _ _).trans k) (bA _) _ _ _ _ _)
 .have o:=J (show canon s (val L) e=⟨s,val L/2^ky (val L),e+ky (val L)⟩by unfold canon;rw[bn x]);have T:=J λw (h:Sl w A c L)=>FO A c L w h;have Z:=qQ L;unfold nB at Z;have v:=qm L;have g:=y.ok.iM;generalize iM L=M at *
  rw[<-v]at x o ⊢;clear v;have f:=J λA c w (h:Sl w A c M)=>arQ A c M w h U x;have Y:ky (val M)<=100000:=by have:=IS g x;omega
  have d:=J λA c w (h:Sl w A c M)=>arH A c M (ky<|val M) w h U Y;have Q:M.length≠0:=by intro h;rw[dM h]at x;exact x rfl
  generalize val M/2^ky (val M)=q at *
  generalize ky (val M)=t at *
  obtain⟨m,P⟩:∃ m,m=M.length:=⟨_,rfl⟩
  go_enter func133,ntmps133;go_wp2_with fail;refine(T.out _<|y.alloc _).mono ?_;rintro u N ⟨F,E,rfl,B,a⟩;go_wp2_with fail;refine(f.out _ _ _ B).mono ?_;rintro u i ⟨rfl,rfl⟩;go_wp2_with fail;refine(d.out _ _ _ B).mono ?_;rintro u i ⟨D,C,rfl,j,X⟩;have k:=a.trans X;have b:=(kf.new w ac am 0 0 0).ext k;have r:=b.c0;have p:=b.c1;have n:=b.c2;have f0:=b.fr 0;have f1:=b.fr 1;have f2:=b.fr 2;go_wp2;rw[o.out];exact vX rfl rfl rfl (b.set _ _ _ _ _) rfl (b.wG j _ _ _ _ _) (kf.vK ((jc.alloc _ _).trans k) (bA _) _ _ _ _ _)
def ajS(A:Option az)(c:Nat)(L:List Nat)(w:ap)(hs:Sl w A c L)(h1:L.length<=3000)(h0:val L≠0)(hT:Tb w):
 Calls prog 154 #[.slice A L.length c] w λe w'=>e = .returned (.int .i64<|ky<|val L)/\w=w':=by
 have mz:=hs.ok;have HV:=J λi hi h hx=>ajj mz i hi h hx;have H0:=J h0;clear h0;go_enter func154,ntmps154;go_wp2;go_loop [3,8] (λn i=>∃ k:Nat,k<=L.length/\i = .int .i64 k/\n = .int .i64 ((32*k:Nat):Int)/\∀ j,(hj:j<k)->L[j]? = al 0) (λ_ i=>L.length-(intOf i).toNat)
 case atStart=>exact⟨0,cj _,rfl,rfl,λj hj=> U⟩
 case round=>
  obtain⟨k,hk,rfl,rfl,hz⟩:=hrel;have HZ:=J hz;clear hz;by_cases iV:k<L.length
  .obtain ⟨ab,ao,rfl,_,c1⟩:=hs.mL iV;have om:L[k]<4294967296:=mz.get iV;have HG:=J<|bH iV;have HC:=J (λhx=>HV.out k iV (λj hj=>by have:=HZ.out j hj;rw[bH U]at this;simpa using this) hx);clear HV;generalize L[k]=x at *
   by_cases hx:x=0
   .have HX:=J hx;clear hx;have hb:((x:Int) != 0)=ac:=by have:=HX.out;simp;omega
    go_wp2;go_round
    case rel=>exact⟨k+1,U,by go_num,by go_num,λj hj=>by
     by_cases e:j=k
     .subst e;rw[HG.out,HX.out]
     .exact HZ.out j U⟩
    case measure=>simp[intOf];omega
   .have hb:((x:Int) != 0)=aa:= aS ;have HX:=J<|HC.out hx;have avL:ky x<=32:=by
     have h1:=Hp hx;rcases er 32 (ky x)with h|h
     .have:=fG (a:=2) aG h;have e:(2:Nat)^32=4294967296:= aG ;omega
     .exact h
    go_wp2_with (go_at_call 218;refine(auS x hx om _ hT).mono ?_;rintro e w' ⟨rfl,rfl⟩)
    go_ret;exact⟨qi<|by rw[HX.out];simp,rfl⟩
  .exfalso;have:val L=0:=by
    rw[Lb];intro y hy;obtain⟨j,hj,rfl⟩:=List.getElem_of_mem hy;have:=HZ.out j U;rw[bH hj]at this;simpa using this
   exact H0.out this
def Mi(s:Bool)(A:Option az)(c:Nat)(L:List Nat)(e:Int)(w:ap)(k:Sl w A c L)(_hlen:L.length<=100000)(p:(iM L).length<=256)(D:-1000000<=e)(O:e<=1000000)(i:Tb w):
 Calls prog 90 #[.bool s,.slice A L.length c,.int .i64 e] w (xx w<|canon s (val L) e):=by
 have T:=J λw (h:Sl w A c L)=>ajX A c L w h;have l:=k.xp;have r:=qm L;have z:=k.ok.iM;have F:=CY L;generalize iM L=M at *
 rw[<-r];clear r;by_cases x:val M=0
 .have o:=J (show canon s (val M) e=kq by unfold canon;rw[bt x];rfl);have a:Hid<|M.length=0:=by
   show M.length=0;rw[F.I5 z,x,pj];rfl
  obtain⟨m,n⟩:∃ m,m=M.length:=⟨_,rfl⟩
  rw[<-n]at T a;clear n x;obtain rfl:m=0:=a.out;clear a;go_enter func90,ntmps90;go_wp2_with fail;refine(T.out _<|k.alloc _).mono ?_;rintro e C ⟨rfl,rfl⟩;have b:=kf.new w ac am 0 0 0;have d:=b.c0;have j:=b.c1;have X:=b.c2;have f0:=b.fr 0;have f1:=b.fr 1;have f2:=b.fr 2;go_wp2;rw[o.out];have g:iy kq.m=[]:=pj;exact vX rfl rfl rfl b (by rw[g];rfl) (by rw[g];exact Sl.nil _) (jc.alloc _ _)
 .have o:=J (show canon s (val M) e=⟨s,val M/2^ky (val M),e+ky (val M)⟩by unfold canon;rw[bn x]);have Z:=J λA c w (h:Sl w A c M) (Y:Tb w)=>ajS A c M w h U x Y;have zy:ky (val M)<=65536:=by have:=IS z x;omega
  have R:=J λA c w (h:Sl w A c M)=>abR A c M (ky<|val M) w h p zy;have a:M.length≠0:=by intro h;rw[dM h]at x;exact x rfl
  have V:(iy<|val M/2^ky (val M)).length<=256:=by
   refine uc<|cB (b6 _ _) ?_;exact bJ (nE z)<|bR aG p
  generalize val M/2^ky (val M)=q at *
  generalize ky (val M)=t at *
  have K:=J λA c w (h:Sl w A c<|iy q)=>PZ A c (iy q) w h U;have P:=J λA c w (h:Sl w A c<|iy q)=>PY A c (iy q) w h;obtain⟨Q,u⟩:∃ Q,Q=iy q:=⟨_,rfl⟩
  have H:=J u;rw[<-u]at R K P V;clear u;go_enter func90,ntmps90;go_wp2_with fail;refine(T.out _<|k.alloc _).mono ?_;rintro y B ⟨rfl,rfl⟩;go_wp2_with fail;refine(Z.out _ _ _ (l.alloc _)<|i.alloc _).mono ?_;rintro y S ⟨rfl,rfl⟩;go_wp2_with fail;refine(R.out _ _ _<|l.alloc _).mono ?_;rintro y S ⟨I,zx,rfl,v,N⟩;go_wp2_with fail;refine(K.out _ _ _ v).mono ?_;rintro y W ⟨A3,c3,rfl,G,E⟩;go_wp2_with fail;refine(P.out _ _ _ G).mono ?_;rintro y w4 ⟨rfl,rfl⟩;have f:=N.trans E;have b:=(kf.new w ac am 0 0 0).ext f;have d:=b.c0;have j:=b.c1;have X:=b.c2;have f0:=b.fr 0;have f1:=b.fr 1;have f2:=b.fr 2;go_wp2;rw[o.out];rw[H.out]at G ⊢;exact vX rfl rfl rfl (b.set _ _ _ _ _) rfl (b.wG G.Wy _ _ _ _ _) (kf.vK ((jc.alloc _ _).trans f) (bA _) _ _ _ _ _)
def Qd(A:Option az)(c:Nat)(L:List Nat)(w:ap)(s:Sl w A c L)(h:L.length<=100000000):
 Calls prog 183 #[.slice A L.length c] w λe w'=>e = .returned (.int .i64<|H<|val L)/\w=w':=by
 have x:=J<|abL A c L w s h;go_enter func183,ntmps183;go_wp2_with fail;refine x.out.mono ?_;rintro e w' ⟨rfl,rfl⟩;go_wp2;go_ret;exact⟨rfl,rfl⟩
def xW(m:Nat)(e:Int):Bool:=decide (oL ⟨ac,m,e⟩)
def R9(s:Bool)(A:Option az)(c:Nat)(L:List Nat)(e:Int)(w:ap)(y:Sl w A c L)(l:L.length<=100000000)(G:-9223372036854775808<=e)(O:e<=9223372036854775807):
 Calls prog 121 #[.agg #[.bool s,.slice A L.length c,.int .i64 e]] w λr w'=>r = .returned (.bool<|xW (val L) e)/\jc w w':=by
 have f:=J λw (h:Sl w A c L)=>Qd A c L w h l;have x:Hid<|xW (val L) e=decide (H (val L)=0\/H (val L)<=4096 /\ -16384<=e/\e<=16384/\(H<|val L:Int)+e<=16384):=by
  have h:H (val L)=0↔val L=0:=by
   constructor
   .intro h;apply b8;intro p;have:=oP p;omega
   .intro h;rw[h];rfl
  exact awT.2<|or_congr h.symm Iff.rfl
 have g:H (val L)<=32*L.length:=mo.2 (by rw[<-pI];exact nE y.ok);generalize H (val L)=n at *
 generalize xW (val L) e=b at *
 have a:n=0\/(0<n/\4096<n)\/(0<n/\n<=4096/\e < -16384)\/(0<n/\n<=4096 /\ -16384<=e/\16384<e)\/(0<n/\n<=4096 /\ -16384<=e/\e<=16384/\16384<(n:Int)+e)\/(0<n/\n<=4096 /\ -16384<=e/\e<=16384/\(n:Int)+e<=16384):= U ;rcases a with h|⟨h,z⟩|⟨h,z,u⟩|⟨h,z,u,q⟩|⟨h,z,u,q,m⟩|⟨h,z,u,q,m⟩
 .subst h;have k:b=aa:=by rw[x.out];simp
  clear x;subst k;go_enter func121,ntmps121;go_wp2_with fail;refine(f.out _<|y.alloc _).mono ?_;rintro r w' ⟨rfl,rfl⟩;go_wp2;go_ret;exact⟨rfl,jc.alloc _ _⟩
 .have k:b=ac:=by rw[x.out];simp;omega
  have B:((n:Int)==0)=ac:= aS ;have C:decide ((n:Int)<=4096)=ac:= aS ;clear x;subst k;go_enter func121,ntmps121;go_wp2_with fail;refine(f.out _<|y.alloc _).mono ?_;rintro r w' ⟨rfl,rfl⟩;go_wp2;go_ret;exact⟨rfl,jc.alloc _ _⟩
 .have k:b=ac:=by rw[x.out];simp;omega
  have B:((n:Int)==0)=ac:= aS ;have C:decide ((n:Int)<=4096)=aa:= aS ;have v:decide (-16384<=e)=ac:= aS ;clear x;subst k;go_enter func121,ntmps121;go_wp2_with fail;refine(f.out _<|y.alloc _).mono ?_;rintro r w' ⟨rfl,rfl⟩;go_wp2;go_ret;exact⟨rfl,jc.alloc _ _⟩
 .have k:b=ac:=by rw[x.out];simp;omega
  have B:((n:Int)==0)=ac:= aS ;have C:decide ((n:Int)<=4096)=aa:= aS ;have v:decide (-16384<=e)=aa:= aS ;have D:decide (e<=16384)=ac:= aS ;clear x;subst k;go_enter func121,ntmps121;go_wp2_with fail;refine(f.out _<|y.alloc _).mono ?_;rintro r w' ⟨rfl,rfl⟩;go_wp2;go_ret;exact⟨rfl,jc.alloc _ _⟩
 .have k:b=ac:=by rw[x.out];simp;omega
  have B:((n:Int)==0)=ac:= aS ;have C:decide ((n:Int)<=4096)=aa:= aS ;have v:decide (-16384<=e)=aa:= aS ;have D:decide (e<=16384)=aa:= aS ;have t:decide ((n:Int)+e<=16384)=ac:= aS ;clear x;subst k;go_enter func121,ntmps121;go_wp2_with fail;refine(f.out _<|y.alloc _).mono ?_;rintro r w' ⟨rfl,rfl⟩;go_wp2;go_ret;exact⟨rfl,jc.alloc _ _⟩
 .have k:b=aa:=by rw[x.out];simp;omega
  have B:((n:Int)==0)=ac:= aS ;have C:decide ((n:Int)<=4096)=aa:= aS ;have v:decide (-16384<=e)=aa:= aS ;have D:decide (e<=16384)=aa:= aS ;have t:decide ((n:Int)+e<=16384)=aa:= aS ;clear x;subst k;go_enter func121,ntmps121;go_wp2_with fail;refine(f.out _<|y.alloc _).mono ?_;rintro r w' ⟨rfl,rfl⟩;go_wp2;go_ret;exact⟨rfl,jc.alloc _ _⟩
def qT(s:Bool)(L:List Nat)(e:Int):Prop:=oW L/\L.length<=256/\Dy.iE ⟨s,val L,e⟩
def Xo s e:qT s [] e↔s=ac/\e=0:=by
 unfold qT;constructor
 .rintro ⟨_,_,c,_⟩;rcases c with⟨_,x,k⟩|h
  .exact ⟨x,k⟩
  .simp at h
 .rintro ⟨rfl,rfl⟩;exact⟨oW.nil,aK,tY⟩
def Xn{s L e x y}(v:L[0]? = al x)(t:L[L.length-1]? = al y):
 qT s L e↔L.length<=256/\x%2=1/\y≠0/\xW (val L) e=aa:=by
 have Z:val L%2=x%2:=by
  cases L with
  |nil=>simp at v
  |cons z l=>simp at v;subst v;simp only[sZ];omega
 have F:oW L↔y≠0:=by
  rw[Em];have⟨u,k⟩:=cF.1 t;constructor
  .intro h;rw[<-k];exact h U 
  .intro h _;rw[k];exact h
 unfold qT xW;rw[F,awn];constructor
 .rintro ⟨u,k,c,r⟩;have S:oL ⟨ac,val L,e⟩:=r;refine⟨k,?_,u,S⟩;rcases c with⟨h,_,_⟩|h
  .exfalso;have:=(F.2 u).C2 (by intro q;subst q;simp at v);simp only at h;omega
  .rw [<-Z];exact h
 .rintro ⟨u,k,p,n⟩;exact⟨p,u,.inr<|by show val L%2=1;rw[Z];exact k,n⟩
section
variable{b:Bool}{P:Prop}(h:b=aa↔P)
def s6(n:¬P):b=ac:=by
 cases b
 .rfl
 .exact absurd (h.1 rfl) n
def Px(n:P):b=aa:=h.2 n
end
def VW{b v P}(h:b=aa↔P)(n:P↔v=aa):b=v:=by
 cases b<;>cases v<;>simp_all
def EH(s:Bool)(A:Option az)(c:Nat)(L:List Nat)(e:Int)(w:ap)(b:Bool)(z:Sl w A c L)(G:-9223372036854775808<=e)(O:e<=9223372036854775807)(k:b=aa↔qT s L e):
 Calls prog 67 #[.agg #[.bool s,.slice A L.length c,.int .i64 e]] w λr w'=>r = .returned (.bool b)/\jc w w':=by
 have E:=z.cap;have P:=z.sE;by_cases t:L=[]
 .subst t;rw[Xo]at k;cases s
  .by_cases h:e=0
   .subst h;have:b=aa:=by simpa using k
    clear k;subst this;go_enter func67,ntmps67;go_wp2;go_ret;exact⟨rfl,jc.alloc _ _⟩
   .have:b=ac:=s6 k (by simp[h]);have V:(e==0)=ac:= aS ;clear k;subst this;go_enter func67,ntmps67;go_wp2;go_ret;exact⟨rfl,jc.alloc _ _⟩
  .have:b=ac:=s6 k aK ;clear k;subst this;go_enter func67,ntmps67;go_wp2;go_ret;exact⟨rfl,jc.alloc _ _⟩
 .have u:0<L.length:=fi.2 t;clear t;obtain⟨a,o,rfl,_,p⟩:=z.mL u;obtain⟨f,d,j,_,X⟩:=z.mL (i:=L.length-1) U;cases j;have T:=z.ok.get u;have N:=z.ok.get (U:L.length-1<L.length);rw[Xn (bH u)<|bH (U:L.length-1<L.length)]at k;have Y:w.cell? ⟨a,o,am⟩=al (.int .u32 (L[0]:Int)):=p;clear p;generalize L[0]=x at *
  generalize L[L.length-1]=y at *
  have B:=J k;clear k;have H:=J λw (h:Sl w (al ⟨a,o,am⟩) c L) (S:L.length<=256)=>R9 s _ c L e w h U G O;obtain⟨n,m⟩:∃ n,n=L.length:=⟨_,rfl⟩
  rw[<-m]at u X H B E ⊢;clear m;generalize xW (val L) e=v at *
  have R:((n:Int)==0)=ac:= aS ;by_cases q:n<=256
  .have C:decide ((n:Int)<=256)=aa:= aS ;by_cases l:x%2=1
   .have Z:((x:Int)%2==1)=aa:= aS ;by_cases g:y=0
    .have:b=ac:=s6 B.out (by simp[g]);have D:((y:Int) != 0)=ac:= aS ;clear B;subst this;go_enter func67,ntmps67;go_wp2;go_ret;exact⟨rfl,jc.alloc _ _⟩
    .have:b=v:=VW B.out (by simp[q,l,g]);have D:((y:Int) != 0)=aa:= aS ;clear B;subst this;go_enter func67,ntmps67;go_wp2_with fail;refine(H.out _ (z.alloc _) q).mono ?_;rintro r w' ⟨rfl,Q⟩;go_wp2;go_ret;exact⟨rfl,(jc.alloc _ _).trans Q⟩
   .have:b=ac:=s6 B.out λh=>l h.2.1;have Z:((x:Int)%2==1)=ac:= aS ;clear B;subst this;go_enter func67,ntmps67;go_wp2;go_ret;exact⟨rfl,jc.alloc _ _⟩
  .have:b=ac:=s6 B.out λh=>q h.1;have C:decide ((n:Int)<=256)=ac:= aS ;clear B;subst this;go_enter func67,ntmps67;go_wp2;go_ret;exact⟨rfl,jc.alloc _ _⟩
def Sz{n k}(h:H n<=32*k):(iy n).length<=k:=uc<|by rw[pI];exact mo.1 h
def ajJ(d:Dy):qT d.neg (iy d.m) d.e↔d.iE:=by
 unfold qT;rw[kE];constructor
 .exact λh=>h.2.2
 .intro h;refine⟨xq _,?_,h⟩;rcases h.range with x|⟨k,_⟩
  .rw [x,pj];simp
  .exact Sz U 
def qT.I5{s L e}(h:qT s L e)(k:je L):L=iy (val L):=h.1.I5 k
section
variable{s:Bool}{L:List Nat}{e:Int}(h:qT s L e)
def qT.len:L.length<=256:=h.2.1
def qT.bits:H (val L)<=4096:=by
 rcases h.2.2.range with x|⟨k,_⟩
 .simp only at x;rw[x];decide
 .exact k
def qT.exp:-16384<=e/\e<=16384:=by
 rcases h.2.2.range with k|⟨_,y,z,_⟩
 .rcases h.2.2.canon with⟨_,_,x⟩|x
  .simp only at x;omega
  .simp only at k x;omega
 .exact ⟨y,z⟩
end
section
variable(s:Bool)(A:Option az)(c:Nat)(L:List Nat)(e:Int)(w:ap)(i:Sl w A c L)(a:qT s L e)
def Qe:
 Calls prog 162 #[.agg #[.bool s,.slice A L.length c,.int .i64 e]] w λr w'=>r = .returned (.int .i64<|Dy.iQ ⟨s,val L,e⟩)/\jc w w':=by
 obtain⟨l,O⟩:=a.exp;have g:=a.len;have M:=a.bits;have j:=J (λw (h:Sl w A c L)=>EH s A c L e w aa h U U<|by simp[a]);have S:=J λw (h:Sl w A c L)=>Qd A c L w h U;by_cases k:L=[]
 .subst k;go_enter func162,ntmps162;go_wp2_with fail;refine(j.out _<|i.alloc _).mono ?_;rintro r w' ⟨rfl,x⟩;have b:=(kf.new w s A 0 c e).ext x;have y:=b.c0;have z:=b.c1;have v:=b.c2;go_wp2;go_ret;exact⟨rfl,(jc.alloc _ _).trans x⟩
 .have f:0<L.length:=fi.2 k;have u:val L≠0:=by have:=a.1.C2 k;omega
  have p:=J (show Dy.iQ ⟨s,val L,e⟩=H (val L)+e by unfold Dy.iQ;rw[bn u]);clear k u;generalize Dy.iQ ⟨s,val L,e⟩=t at *
  generalize H (val L)=q at *
  have d:IntKind.i64.wrap ((q:Int)+e)=q+e:=i64_in _;have B:((L.length:Int)==0)=ac:=bd U;go_enter func162,ntmps162;go_wp2_with fail;refine(j.out _<|i.alloc _).mono ?_;rintro r w' ⟨rfl,x⟩;have b:=(kf.new w s A L.length c e).ext x;have y:=b.c0;have z:=b.c1;have v:=b.c2;have n:=(i.alloc _).below x;go_wp2_with fail;go_region_held3 (λw'=>w'.cell? ⟨w.heap.size,1,am⟩=al (.slice A L.length c)/\w'.cell? ⟨w.heap.size,2,am⟩=al (.int .i64 e)) (go_keep)
   (first|(go_at_call 183;refine(S.out _ ?_).mono ?_;(exact n.drew);rintro r m ⟨rfl,rfl⟩))
  go_wp2;go_ret;exact⟨qi<|by rw[p.out],Below.drew<|(jc.alloc _ _).trans x⟩
def ajL:
 Calls prog 269 #[.agg #[.bool s,.slice A L.length c,.int .i64 e]] w λr w'=>r = .returned (.int .i64<|H<|val L)/\jc w w':=by
 obtain⟨l,k⟩:=a.exp;have y:=a.len;have t:=J (λw (h:Sl w A c L)=>EH s A c L e w aa h U U<|by simp[a]);have S:=J λw (h:Sl w A c L)=>Qd A c L w h U;go_enter func269,ntmps269;go_wp2_with fail;refine(t.out _<|i.alloc _).mono ?_;rintro r w' ⟨rfl,b⟩;have x:=(kf.new w s A L.length c e).ext b;have z:=x.c0;have u:=x.c1;have v:=x.c2;go_wp2_with fail;refine(S.out _<|(i.alloc _).below b).mono ?_;rintro r w' ⟨rfl,rfl⟩;go_wp2;go_ret;exact⟨rfl,(jc.alloc _ _).trans b⟩
def Qc:
 Calls prog 68 #[.agg #[.bool s,.slice A L.length c,.int .i64 e]] w λr w'=>r = .returned (.int .i64<|Dy.jh ⟨s,val L,e⟩)/\jc w w':=by
 obtain⟨l,O⟩:=a.exp;have p:=a.len;have H:=J (λw (h:Sl w A c L)=>EH s A c L e w aa h U U<|by simp[a]);by_cases k:L=[]
 .subst k;go_enter func68,ntmps68;go_wp2_with fail;refine(H.out _<|i.alloc _).mono ?_;rintro r w' ⟨rfl,x⟩;have b:=(kf.new w s A 0 c e).ext x;have z:=b.c0;have v:=b.c1;have q:=b.c2;go_wp2;go_ret;exact⟨rfl,(jc.alloc _ _).trans x⟩
 .have n:0<L.length:=fi.2 k;have u:val L≠0:=by have:=a.1.C2 k;omega
  have y:=J (show Dy.jh ⟨s,val L,e⟩=if s then -1 else 1 by unfold Dy.jh;rw[bn u]);clear k u;generalize Dy.jh ⟨s,val L,e⟩=t at *
  have B:((L.length:Int)==0)=ac:=bd U;go_enter func68,ntmps68;go_wp2_with fail;refine(H.out _<|i.alloc _).mono ?_;rintro r w' ⟨rfl,x⟩;have b:=(kf.new w s A L.length c e).ext x;have z:=b.c0;have v:=b.c1;have q:=b.c2;cases s
  .go_wp2;go_ret;exact⟨qi<|by rw[y.out];rfl,(jc.alloc _ _).trans x⟩
  .go_wp2;go_ret;exact⟨qi<|by rw[y.out];rfl,(jc.alloc _ _).trans x⟩
end
def akF(e:Int)(w:ap)(b:Bool)(x:b=aa↔(-32768<=e/\e<=32768)):
 Calls prog 239 #[.int .i64 e] w λr w'=>r = .returned (.bool b)/\w=w':=by
 by_cases k:-32768<=e
 .have d:decide (-32768<=e)=aa:=by simpa using k
  by_cases y:e<=32768
  .have z:decide (e<=32768)=aa:=by simpa using y
   have:=Px x ⟨k,y⟩;clear x;subst this;go_enter func239,ntmps239;go_wp2;go_ret;exact⟨rfl,rfl⟩
  .have z:decide (e<=32768)=ac:=by simpa using y
   have:=s6 x λh=>y h.2;clear x;subst this;go_enter func239,ntmps239;go_wp2;go_ret;exact⟨rfl,rfl⟩
 .have d:decide (-32768<=e)=ac:=by simpa using k
  have:=s6 x λh=>k h.1;clear x;subst this;go_enter func239,ntmps239;go_wp2;go_ret;exact⟨rfl,rfl⟩
section
variable(d:Dy)(A:Option az)(c:Nat)(w:ap)(a:Sl w A c<|iy d.m)(i:(iy d.m).length<=100000000)(l:-10000000<=d.e)(k:d.e<=10000000)
def Wv(y:oL d):
 Calls prog 240 #[.agg #[.bool d.neg,.slice A (iy d.m).length c,.int .i64 d.e]] w (BR w d 0):=by
 obtain⟨s,m,e⟩:=d;simp only at *
 have z:xW m e=aa:=by unfold xW;exact bu y
 have H:=J λw (h:Sl w A c<|iy m)=>R9 s A c (iy m) e w h i U U;rw[kE,z]at H;clear z y;go_enter func240,ntmps240;go_wp2_with fail;refine(H.out _<|(a.alloc _).alloc _).mono ?_;rintro r v ⟨rfl,x⟩;have k:=((kf.new w s A (iy m).length c e).alloc<|.cells #[.bool ac,.slice am 0 0,.int .i64 0] 31).ext x;have b:=(kf.new (w.alloc<|.cells #[.bool s,.slice A (iy m).length c,.int .i64 e] 31) ac am 0 0 0).ext x;have t:=k.c0;have q:=k.c1;have n:=k.c2;have u:(w.alloc<|.cells #[.bool s,.slice A (iy m).length c,.int .i64 e] 31).heap.size=w.heap.size+1:= aK ;rw[u]at b;have l:=b.c0;have g:=b.c1;have f:=b.c2;have f0:=b.fr 0;have f1:=b.fr 1;have f2:=b.fr 2;have p:=((a.alloc<|.cells #[.bool s,.slice A (iy m).length c,.int .i64 e] 31).alloc<|.cells #[.bool ac,.slice am 0 0,.int .i64 0] 31).below x;have Q:jc w v:=((jc.alloc _ _).trans<|jc.alloc _ _).trans x;clear u;go_wp2;exact Gy rfl rfl rfl rfl (b.set _ _ _ _ _) rfl (b.wG p _ _ _ _ _) (kf.vK Q U _ _ _ _ _)
def aiN(x:¬oL d):
 Calls prog 240 #[.agg #[.bool d.neg,.slice A (iy d.m).length c,.int .i64 d.e]] w (BR w kq 9):=by
 obtain⟨s,m,e⟩:=d;simp only at *
 have k:xW m e=ac:=by unfold xW;exact bw x
 have H:=J λw (h:Sl w A c<|iy m)=>R9 s A c (iy m) e w h i U U;rw[kE,k]at H;clear k x;go_enter func240,ntmps240;go_wp2_with fail;refine(H.out _<|(a.alloc _).alloc _).mono ?_;rintro r v ⟨rfl,y⟩;have b:=(kf.new (w.alloc<|.cells #[.bool s,.slice A (iy m).length c,.int .i64 e] 31) ac am 0 0 0).ext y;have z:(w.alloc<|.cells #[.bool s,.slice A (iy m).length c,.int .i64 e] 31).heap.size=w.heap.size+1:= aK ;rw[z]at b;have t:=b.c0;have q:=b.c1;have p:=b.c2;have f0:=b.fr 0;have f1:=b.fr 1;have f2:=b.fr 2;have Q:jc w v:=((jc.alloc _ _).trans<|jc.alloc _ _).trans y;have u:iy kq.m=[]:=pj;have Z:=J u;clear z u;go_wp2;exact Gy rfl rfl rfl rfl (b.set _ _ _ _ _) (by rw[Z.out];rfl) (by rw[Z.out];exact b.wG (Sl.nil _) _ _ _ _ _) (kf.vK Q U _ _ _ _ _)
end
def aoo(s:Bool)(A:Option az)(c:Nat)(L:List Nat)(e:Int)(w:ap)(y:Sl w A c L)(l:L.length<=256)(G:-32768<=e)(O:e<=32768)(i:Tb w)(z:oL<|canon s (val L) e):
 Calls prog 273 #[.bool s,.slice A L.length c,.int .i64 e] w (BR w (canon s (val L) e) 0):=by
 have m:decide (256<(L.length:Int))=ac:=bw U;have H:=J (λw=>akF e w aa<|by simp[G,O]);have C:=J (λw (h:Sl w A c L) (t:Tb w)=>Mi s A c L e w h U (by have:=qQ L;unfold nB at this;omega) U U t);have x:(iy (canon s (val L) e).m).length<=100000000:=by
  unfold canon;split
  .simp [pj]
  .refine bF (uc (k:=256)<|cB (b6 _ _) ?_) aG ;exact bJ (nE y.ok)<|bR aG l
 have n:-10000000<=(canon s (val L) e).e/\(canon s (val L) e).e<=10000000:=by
  unfold canon;split
  .simp
  .rename_i v;have:=IS y.ok v;simp only;omega
 obtain⟨n,q⟩:=n;have K:=J λA c w (h:Sl w A c<|iy (canon s (val L) e).m)=>Wv _ A c w h x n q z;generalize canon s (val L) e=d at *
 clear z x n q;go_enter func273,ntmps273;go_wp2_with fail;refine(H.out _).mono ?_;rintro r g ⟨rfl,rfl⟩;go_wp2_with fail;refine(C.out _ (y.alloc _)<|i.alloc _).mono ?_;rintro r f ⟨a,j,rfl,B,x⟩;go_wp2_with fail;refine(K.out _ _ _ B).mono ?_;rintro r o ⟨X,Y,rfl,p,n⟩;have u:=x.trans n;have b:=(kf.new w ac am 0 0 0).ext u;have Z:=b.c0;have T:=b.c1;have V:=b.c2;have f0:=b.fr 0;have f1:=b.fr 1;have f2:=b.fr 2;go_wp2;exact Gy rfl rfl rfl rfl (b.set _ _ _ _ _) rfl (b.wG p _ _ _ _ _) (kf.vK ((jc.alloc _ _).trans u) (bA _) _ _ _ _ _)
def auU(x:Nat)(h:x<4294967296):bits BinOp.and IntKind.u32 (x:Int) 1=((x%2:Nat):Int):=by
 rw[show(1:Int)=((1:Nat):Int)from rfl,bits_and_u32_nat _ _ h aG,awl]
def am2{m}(x:m≠0)e:xW m e=aa↔(H m<=4096 /\ -16384<=e/\e<=16384/\(H m:Int)+e<=16384):=by
 have h:xW m e=aa↔oL ⟨ac,m,e⟩:=awn;rw[h];constructor
 .rintro (h|h)
  .exact absurd h x
  .exact h
 .exact λh=>.inr h
def Oh(s:Bool)(A:Option az)(c:Nat)(L:List Nat)(e:Int)(w:ap)(b:Bool)(k:Sl w A c L)(lG:-9223372036854775808<=e)(kO:e<=9223372036854775807)(z:b=aa↔qT s L e):
 Calls prog 84 #[.agg #[.bool s,.slice A L.length c,.int .i64 e]] w λr w'=>r = .returned (.bool b)/\jc w w':=by
 have E:=k.cap;have wY:=k.sE;by_cases t:L=[]
 .subst t;rw[Xo]at z;cases s
  .by_cases h:e=0
   .subst h;have:b=aa:=by simpa using z
    clear z;subst this;go_enter func84,ntmps84;go_wp2;go_ret;exact⟨rfl,jc.alloc _ _⟩
   .have:b=ac:=s6 z (by simp[h]);have h':(e==0)=ac:= aS ;clear z;subst this;go_enter func84,ntmps84;go_wp2;go_ret;exact⟨rfl,jc.alloc _ _⟩
  .have:b=ac:=s6 z aK ;clear z;subst this;go_enter func84,ntmps84;go_wp2;go_ret;exact⟨rfl,jc.alloc _ _⟩
 .have p:0<L.length:=fi.2 t;obtain⟨X,Y,rfl,_,Z⟩:=k.mL p;obtain⟨R,Q,P,_,N⟩:=k.mL (i:=L.length-1) U;cases P;have G:=k.ok.get p;have rJ:=k.ok.get (U:L.length-1<L.length);rw[Xn (bH p)<|bH (U:L.length-1<L.length)]at z;have D:w.cell? ⟨X,Y,am⟩=al (.int .u32 (L[0]:Int)):=Z;have M:=J<|show L[L.length-1]≠0->oW L from λh=>(Em L).2 λ_=>h;have zy:=J (show L[L.length-1]≠0->val L≠0 from λh=>by have:=((Em L).2 λ_=>h).C2 t;omega);clear Z t;generalize L[0]=x at *
  generalize L[L.length-1]=y at *
  have u:=J z;clear z;have zv:=J λw (h:Sl w (al ⟨X,Y,am⟩) c L) (hl:L.length<=256) (C:oW L)=>adt _ c L w h C U;have v:Hid<|val L≠0->(xW (val L) e=aa↔(H (val L)<=4096 /\ -16384<=e/\e<=16384/\(H<|val L:Int)+e<=16384)):=λm=>by
   exact am2 m e
  obtain⟨n,f⟩:∃ n,n=L.length:=⟨_,rfl⟩
  rw[<-f]at p N zv u E ⊢;have I:=J f;clear f;have rB:((n:Int)==0)=ac:= aS ;by_cases d:n<=256
  .have zx:decide (256<(n:Int))=ac:=bw U ;by_cases l:y=0
   .have:b=ac:=s6 u.out (by simp[l]);have K:((y:Int)==0)=aa:= aS ;clear u v;subst this;go_enter func84,ntmps84;go_wp2;go_ret;exact⟨rfl,jc.alloc _ _⟩
   .have K:((y:Int)==0)=ac:=bd U ;have a:=auU x G;by_cases j:x%2=1
    .have O:(bits BinOp.and IntKind.u32 (x:Int) 1==0)=ac:=by rw[a,j];rfl
     clear a;have m:=zy.out l;have F:=M.out l;have B8:H (val L)<=32*n:=mo.2 (by rw[<-pI,I.out];exact nE k.ok);have B:Hid<|b=aa↔(H (val L)<=4096 /\ -16384<=e/\e<=16384/\(H<|val L:Int)+e<=16384):=by
      show b=aa↔_;rw[u.out,v.out m];simp[d,j,l]
     have o:=J λw h=>zv.out w h d F;clear u v m F M zy zv;generalize H (val L)=q at *
     by_cases V:-16384<=e
     .have W:decide (e < -16384)=ac:=bw U ;by_cases T:e<=16384
      .have d5:decide (16384<e)=ac:=bw U ;by_cases S:q<=4096
       .have d6:decide ((q:Int)<=4096)=aa:=bu U ;by_cases g:(q:Int)+e<=16384
        .have d7:decide ((q:Int)+e<=16384)=aa:=bu g;have:=Px B.out ⟨S,V,T,g⟩;clear B;subst this;go_enter func84,ntmps84;go_wp2_with fail;refine(o.out _<|k.alloc _).mono ?_;rintro r w' ⟨rfl,rfl⟩;go_wp2;go_ret;exact⟨rfl,jc.alloc _ _⟩
        .have d7:decide ((q:Int)+e<=16384)=ac:=bw g;have:=s6 B.out λh=>g h.2.2.2;clear B;subst this;go_enter func84,ntmps84;go_wp2_with fail;refine(o.out _<|k.alloc _).mono ?_;rintro r w' ⟨rfl,rfl⟩;go_wp2;go_ret;exact⟨rfl,jc.alloc _ _⟩
       .have d6:decide ((q:Int)<=4096)=ac:=bw U ;have:=s6 B.out λh=>S h.1;clear B;subst this;go_enter func84,ntmps84;go_wp2_with fail;refine(o.out _<|k.alloc _).mono ?_;rintro r w' ⟨rfl,rfl⟩;go_wp2;go_ret;exact⟨rfl,jc.alloc _ _⟩
      .have d5:decide (16384<e)=aa:=bu U ;have:=s6 B.out λh=>T h.2.2.1;clear B;subst this;go_enter func84,ntmps84;go_wp2;go_ret;exact⟨rfl,jc.alloc _ _⟩
     .have W:decide (e < -16384)=aa:=bu U ;have:=s6 B.out λh=>V h.2.1;clear B;subst this;go_enter func84,ntmps84;go_wp2;go_ret;exact⟨rfl,jc.alloc _ _⟩
    .have O:(bits BinOp.and IntKind.u32 (x:Int) 1==0)=aa:=by rw[a,(U:x%2=0)];rfl
     have:b=ac:=s6 u.out λh=>j h.2.1;clear u a v;subst this;go_enter func84,ntmps84;go_wp2;go_ret;exact⟨rfl,jc.alloc _ _⟩
  .have:b=ac:=s6 u.out λh=>d h.1;have zx:decide (256<(n:Int))=aa:=bu U;clear u v;subst this;go_enter func84,ntmps84;go_wp2;go_ret;exact⟨rfl,jc.alloc _ _⟩
def arw(e:Int)(w:ap)(b:Bool)(x:b=aa↔(-32768<=e/\e<=32768)):
 Calls prog 131 #[.int .i64 e] w λr w'=>r = .returned (.bool b)/\w=w':=by
 by_cases k:-32768<=e
 .have d:decide (-32768<=e)=aa:=by simpa using k
  by_cases y:e<=32768
  .have z:decide (e<=32768)=aa:=by simpa using y
   have:=Px x ⟨k,y⟩;clear x;subst this;go_enter func131,ntmps131;go_wp2;go_ret;exact⟨rfl,rfl⟩
  .have z:decide (e<=32768)=ac:=by simpa using y
   have:=s6 x λh=>y h.2;clear x;subst this;go_enter func131,ntmps131;go_wp2;go_ret;exact⟨rfl,rfl⟩
 .have d:decide (-32768<=e)=ac:=by simpa using k
  have:=s6 x λh=>k h.1;clear x;subst this;go_enter func131,ntmps131;go_wp2;go_ret;exact⟨rfl,rfl⟩
def art(d:Dy)(A:Option az)(c:Nat)(w:ap)(y:Sl w A c<|iy d.m)(l:(iy d.m).length<=100000000)(G:-10000000<=d.e)(O:d.e<=10000000)(z:d.iE):
 Calls prog 132 #[.agg #[.bool d.neg,.slice A (iy d.m).length c,.int .i64 d.e]] w (BR w d 0):=by
 obtain⟨s,m,e⟩:=d;simp only at *
 have H:=J λw (h:Sl w A c<|iy m)=>Oh s A c (iy m) e w aa h U U<|iff_of_true rfl ((ajJ ⟨s,m,e⟩).2 z);clear z;go_enter func132,ntmps132;go_wp2_with fail;refine(H.out _<|(y.alloc _).alloc _).mono ?_;rintro r v ⟨rfl,x⟩;have k:=((kf.new w s A (iy m).length c e).alloc<|.cells #[.bool ac,.slice am 0 0,.int .i64 0] 31).ext x;have b:=(kf.new (w.alloc<|.cells #[.bool s,.slice A (iy m).length c,.int .i64 e] 31) ac am 0 0 0).ext x;have t:=k.c0;have q:=k.c1;have n:=k.c2;have u:(w.alloc<|.cells #[.bool s,.slice A (iy m).length c,.int .i64 e] 31).heap.size=w.heap.size+1:= aK ;rw[u]at b;have g:=b.c0;have f:=b.c1;have a:=b.c2;have f0:=b.fr 0;have f1:=b.fr 1;have f2:=b.fr 2;have p:=((y.alloc<|.cells #[.bool s,.slice A (iy m).length c,.int .i64 e] 31).alloc<|.cells #[.bool ac,.slice am 0 0,.int .i64 0] 31).below x;have Q:jc w v:=((jc.alloc _ _).trans<|jc.alloc _ _).trans x;clear u;go_wp2;exact Gy rfl rfl rfl rfl (b.set _ _ _ _ _) rfl (b.wG p _ _ _ _ _) (kf.vK Q U _ _ _ _ _)
section
variable(s:Bool)(A:Option az)(c:Nat)(L:List Nat)(e:Int)(w:ap)(m:Sl w A c L)(n:oW L)
def arK:
 Calls prog 118 #[.agg #[.bool s,.slice A L.length c,.int .i64 e]] w λr w'=>r = .returned (.int .i64<|Dy.jh ⟨s,val L,e⟩)/\jc w w':=by
 have l:=m.len;by_cases h:L=[]
 .subst h;go_enter func118,ntmps118;go_wp2;go_ret;exact⟨rfl,jc.alloc _ _⟩
 .have x:0<L.length:=fi.2 h;have u:val L≠0:=by have:=n.C2 h;omega
  have n:=J (show Dy.jh ⟨s,val L,e⟩=if s then -1 else 1 by unfold Dy.jh;rw[bn u]);clear h u;generalize Dy.jh ⟨s,val L,e⟩=t at *
  have B:((L.length:Int)==0)=ac:=bd U;cases s
  .go_enter func118,ntmps118;go_wp2;go_ret;exact⟨qi<|by rw[n.out];rfl,jc.alloc _ _⟩
  .go_enter func118,ntmps118;go_wp2;go_ret;exact⟨qi<|by rw[n.out];rfl,jc.alloc _ _⟩
def arN(l:L.length<=100000)(G:-1000000<=e)(O:e<=1000000):
 Calls prog 142 #[.agg #[.bool s,.slice A L.length c,.int .i64 e]] w λr w'=>r = .returned (.int .i64<|Dy.iQ ⟨s,val L,e⟩)/\jc w w':=by
 have g:=J λw (h:Sl w A c L)=>adt A c L w h n U;have B:H (val L)<=32*L.length:=mo.2 (by rw[<-pI];exact nE m.ok);by_cases x:L=[]
 .subst x;go_enter func142,ntmps142;go_wp2;go_ret;exact⟨rfl,jc.alloc _ _⟩
 .have y:0<L.length:=fi.2 x;have u:val L≠0:=by have:=n.C2 x;omega
  have n:=J (show Dy.iQ ⟨s,val L,e⟩=H (val L)+e by unfold Dy.iQ;rw[bn u]);clear x u;generalize Dy.iQ ⟨s,val L,e⟩=t at *
  generalize H (val L)=q at *
  have z:IntKind.i64.wrap ((q:Int)+e)=q+e:=i64_in _;have v:((L.length:Int)==0)=ac:=bd U;have p:=m.alloc<|.cells #[.bool s,.slice A L.length c,.int .i64 e] 31;go_enter func142,ntmps142;go_wp2_with fail;go_region_held3 (λw'=>w'.cell? ⟨w.heap.size,1,am⟩=al (.slice A L.length c)/\w'.cell? ⟨w.heap.size,2,am⟩=al (.int .i64 e)) (go_keep)
   (first|(go_at_call 141;refine(g.out _ ?_).mono ?_;(exact p.drew);rintro r k ⟨rfl,rfl⟩))
  go_wp2;go_ret;exact⟨qi<|by rw[n.out],Below.drew<|jc.alloc _ _⟩
def arB:
 Calls prog 120 #[.agg #[.bool s,.slice A L.length c,.int .i64 e]] w (xx w<|ji ⟨s,val L,e⟩):=by
 have l:=m.len;have H:=J<|n.I5 m.ok;by_cases h:L=[]
 .subst h;have Z:=J pj;cases s
  .go_enter func120,ntmps120;go_wp2;exact vX (d:=ji ⟨ac,val [],e⟩) rfl rfl rfl (kf.vG aK _ _ _ _ _) (by show _=(iy 0).length;rw[Z.out];rfl) (by show Sl _ _ _ (iy 0);rw[Z.out];exact(m.alloc _).alloc _) ((jc.alloc _ _).trans<|jc.alloc _ _)
  .go_enter func120,ntmps120;go_wp2;exact vX (d:=ji ⟨aa,val [],e⟩) rfl rfl rfl (kf.vG aK _ _ _ _ _) (by show _=(iy 0).length;rw[Z.out];rfl) (by show Sl _ _ _ (iy 0);rw[Z.out];exact(m.alloc _).alloc _) ((jc.alloc _ _).trans<|jc.alloc _ _)
 .have k:0<L.length:=fi.2 h;have u:val L≠0:=by have:=n.C2 h;omega
  have x:=J (show ji ⟨s,val L,e⟩=⟨!s,val L,e⟩by unfold ji;simp[u]);clear h u n;rw[x.out];cases s
  .go_enter func120,ntmps120;go_wp2;exact vX (d:=⟨!ac,val L,e⟩) rfl rfl rfl (kf.vG aK _ _ _ _ _) (by show _=(iy<|val L).length;rw[<-H.out]) (by show Sl _ _ _ (iy<|val L);rw[<-H.out];exact(m.alloc _).alloc _) ((jc.alloc _ _).trans<|jc.alloc _ _)
  .go_enter func120,ntmps120;go_wp2;exact vX (d:=⟨!aa,val L,e⟩) rfl rfl rfl (kf.vG aK _ _ _ _ _) (by show _=(iy<|val L).length;rw[<-H.out]) (by show Sl _ _ _ (iy<|val L);rw[<-H.out];exact(m.alloc _).alloc _) ((jc.alloc _ _).trans<|jc.alloc _ _)
end
def aiS{a b}:kT a b=0↔a=b:=by
 unfold kT;by_cases h:a<b
 .rw [bt h];omega
 .by_cases x:b<a
  .rw [bn h,bt x];omega
  .rw [bn h,bn x];omega
def aru(s:Bool)(A:Option az)(c:Nat)(L:List Nat)(e:Int)(t:Bool)(B:Option az)(d:Nat)(M:List Nat)(f:Int)(w:ap)(b:Bool)(q:Sl w A c L)(p:Sl w B d M)(z:oW L)(tM:oW M)(o:L.length<=100000)(_h2:M.length<=100000)(x:b=aa↔(s=t/\e=f/\L=M)):
 Calls prog 98 #[.agg #[.bool s,.slice A L.length c,.int .i64 e],.agg #[.bool t,.slice B M.length d,.int .i64 f]] w λr w'=>r = .returned (.bool b)/\jc w w':=by
 have E:jc w<|(w.alloc<|.cells #[.bool s,.slice A L.length c,.int .i64 e] 31).alloc<|.cells #[.bool t,.slice B M.length d,.int .i64 f] 31:=(jc.alloc _ _).trans<|jc.alloc _ _;by_cases h:s=t
 .subst h;by_cases y:e=f
  .subst y;have Q:b=aa↔L=M:=by rw[x];simp
   clear x;by_cases l:L.length=M.length
   .have H:=J λw (h:Sl w A c L) (k:Sl w B d M)=>adu A B c d L M w h k z tM U U;have g:Hid<|b=(kT (val L) (val M)==0):=by
     show b=_;refine VW Q ?_;rw[ik,aiS];exact⟨λh=>by rw[h],λh=>oW.ext z tM q.ok p.ok h⟩
    generalize kT (val L) (val M)=v at *
    rw[<-l]at H E ⊢;have j:(e==e)=aa:= aK ;have a:=(q.alloc<|.cells #[.bool s,.slice A L.length c,.int .i64 e] 31).alloc<|.cells #[.bool s,.slice B L.length d,.int .i64 e] 31;have i:=(p.alloc<|.cells #[.bool s,.slice A L.length c,.int .i64 e] 31).alloc<|.cells #[.bool s,.slice B L.length d,.int .i64 e] 31;clear Q l z tM;cases s
    .go_enter func98,ntmps98;go_wp2_with fail;refine(H.out _ a i).mono ?_;rintro r w' ⟨rfl,u⟩;go_wp2;go_ret;exact⟨Ol g.out.symm,E.trans u⟩
    .go_enter func98,ntmps98;go_wp2_with fail;refine(H.out _ a i).mono ?_;rintro r w' ⟨rfl,u⟩;go_wp2;go_ret;exact⟨Ol g.out.symm,E.trans u⟩
   .have:=s6 Q (λh=>l<|by rw[h]);clear Q;subst this;have Y:((L.length:Int)==M.length)=ac:=bd U;generalize L.length=n at *
    generalize M.length=m at *
    cases s
    .go_enter func98,ntmps98;go_wp2;go_ret;exact⟨rfl,E⟩
    .go_enter func98,ntmps98;go_wp2;go_ret;exact⟨rfl,E⟩
  .have:=s6 x λh=>y h.2.1;clear x;subst this;have Y:(e==f)=ac:=bd y;cases s
   .go_enter func98,ntmps98;go_wp2;go_ret;exact⟨rfl,E⟩
   .go_enter func98,ntmps98;go_wp2;go_ret;exact⟨rfl,E⟩
 .have:=s6 x λy=>h y.1;clear x;subst this;cases s<;>cases t
  .exact absurd rfl h
  .go_enter func98,ntmps98;go_wp2;go_ret;exact⟨rfl,E⟩
  .go_enter func98,ntmps98;go_wp2;go_ret;exact⟨rfl,E⟩
  .exact absurd rfl h
def Sl.OP(w:ap)g(k:w.heap.size=g)y z(p q:Nat)(e:y=(p:Int))(u:z=(q:Int))(v:p<4294967296)(t:q<4294967296):
 Sl (w.alloc<|.cells #[.int .u32 y,.int .u32 z] 110) (al ⟨g,0,am⟩) 2 [p,q]:=by
 subst e u k;refine⟨bA _,aG,je.cons v<|je.cons t je.nil,(λh=>by cases h),λi y s=>?_⟩;have⟨r,x⟩:=cF.1 s;simp at r;refine⟨_,_,rfl,aK,?_⟩;rw[ct,World.cell?_alloc_at _ _ _ _ rfl];rcases i with _|_|i
 .simp at x;subst x;rfl
 .simp at x;subst x;rfl
 .omega
def ary(n:Nat)(w:ap)(x:n<4294967296):
 Calls prog 73 #[.int .i64 n] w (xx w<|canon ac n 0):=by
 have m:=zU n;have k:(n:Int)%4294967296=n:= U ;rw[k]at m;have z:(n:Int)/4294967296=0:= U ;have i:¬(n:Int)<0:= U ;have R:decide ((n:Int)<0)=ac:=bw i;have u:IntKind.u64.wrap (n:Int)=n:=by rw[IntKind.wrap_u64];omega
 have H:=J λ(A:Option az) c w (h:Sl w A c [n,0])=>KL ac A c [n,0] 0 w h aK aG aG;have v:val [n,0]=n:= aK ;rw[v]at H;clear v;generalize canon ac n 0=d at *
 go_enter func73,ntmps73;go_wp2_with fail;refine(H.out _ _ _<|Sl.OP _ _ aK _ _ n 0 rfl rfl x aG).mono ?_;rintro r y ⟨t,s,rfl,B,l⟩;have e:jc (w.alloc<|.cells #[.bool ac,.slice am 0 0,.int .i64 0] 31) y:=(jc.alloc _ _).trans l;have b:=(kf.new w ac am 0 0 0).ext e;have q:=b.c0;have p:=b.c1;have g:=b.c2;have f0:=b.fr 0;have f1:=b.fr 1;have f2:=b.fr 2;go_wp2;exact vX rfl rfl rfl (b.set _ _ _ _ _) rfl (b.wG B _ _ _ _ _) (kf.vK ((jc.alloc _ _).trans e) (bA _) _ _ _ _ _)
def Ig{w:ap}{g x i v a b c}(h:w.cell? ⟨g,i,am⟩=al v)(j:x≠g:=by omega):
 (((w.setCell ⟨x,0,am⟩ a).setCell ⟨x,1,am⟩ b).setCell ⟨x,2,am⟩ c).cell? ⟨g,i,am⟩=al v:=by
 rw[World.cell?_setCell_other _ _ _ _ aO,World.cell?_setCell_other _ _ _ _ aO,World.cell?_setCell_other _ _ _ _ aO];exact h
end Go.Proofs.YthalchiobglflaaGreatDoor
namespace Go.Proofs.YthalchiobglflaaGreatDoor.Fp
def Gn s e:canon s 0 e=kq:=by unfold canon;rw[bt rfl];rfl
def LX s x k:lV (if s then -(x:Int)else(x:Int)) k=canon s x k:=by
 unfold lV;cases s
 .have h:decide ((x:Int)<0)=ac:=bw U ;simp only[bS,bE];rw[h,ez]
 .by_cases h:x=0
  .subst h;simp[Gn]
  .have h:decide (-(x:Int)<0)=aa:=bu U ;simp only[bK];rw[h,gJ,ez]
def ae5{s m n e f k}(h:m≠0)(x:n≠0)(y:min e f=k):
 jl ⟨s,m,e⟩ ⟨s,n,f⟩=canon s (m*2^(e-k).toNat+n*2^(f-k).toNat) k:=by
 unfold jl;rw[bn h,bn x];simp only[y];rw[<-LX];unfold Dy.num Dy.kC;cases s
 .simp
 .simp;congr 1;omega
section
variable{s t:Bool}{m n:Nat}{e f k:Int}(h:m≠0)(z:n≠0)(u:min e f=k)(v:s≠t)
def ae3(r:n*2^(f-k).toNat<=m*2^(e-k).toNat):
 jl ⟨s,m,e⟩ ⟨t,n,f⟩=canon s (m*2^(e-k).toNat-n*2^(f-k).toNat) k:=by
 unfold jl;rw[bn h,bn z];simp only[u];rw[<-LX];unfold Dy.num Dy.kC;simp only;generalize m*2^(e-k).toNat=x at *
 generalize n*2^(f-k).toNat=y at *
 congr 1;cases s<;>cases t<;>simp at v ⊢ <;> omega
def ae4(i:m*2^(e-k).toNat<n*2^(f-k).toNat):
 jl ⟨s,m,e⟩ ⟨t,n,f⟩=canon t (n*2^(f-k).toNat-m*2^(e-k).toNat) k:=by
 unfold jl;rw[bn h,bn z];simp only[u];rw[<-LX];unfold Dy.num Dy.kC;simp only;generalize m*2^(e-k).toNat=x at *
 generalize n*2^(f-k).toNat=y at *
 congr 1;cases s<;>cases t<;>simp at v ⊢ <;> omega
end
def an1{L}(h:je L)n:(iy<|val L*2^n).length<=L.length+n/32+1:=by
 refine uc ?_;have x:=nE h;rw[pI]at x ⊢;have k:val L*2^n<2^(32*L.length)*2^n:=dk x<|bG aG;rw[<-bC]at k;exact bJ k<|bR aG U
def aaY{a b k}(h:(iy a).length<=k)(x:(iy b).length<=k):(iy<|a+b).length<=k+1:=by
 refine uc ?_;have y:=yg h;have z:=yg x;rw[bI];omega
def nR{a b}(h:a<=b):(iy a).length<=(iy b).length:=
 uc (cB h<|yg<|bA _)
end Go.Proofs.YthalchiobglflaaGreatDoor.Fp
namespace Go.Proofs.YthalchiobglflaaGreatDoor
open Go.RowKit Fp
def nY(a b:Dy):Dy:=canon (a.neg != b.neg) (a.m*b.m)<|a.e+b.e
def an0{a b k l}(h:(iy a).length<=k)(x:(iy b).length<=l):(iy<|a*b).length<=k+l:=by
 have y:=yg h;have z:=yg x;refine uc ?_;rw[bC];exact awm y z
def SA{L k}(h:je L)(l:L.length<=k):(iy<|val L).length<=k:=
 uc (bJ (nE h)<|bR aG l)
def arE(s : Bool)(A : Option az)(c : Nat)(L : List Nat)(e : Int)(t : Bool)(B : Option az)(d : Nat)(M : List Nat)(f : Int)(w : ap)(n : Sl w A c L)(i : Sl w B d M)(X : L.length<=1000)(Y : M.length<=1000)(S : -200000<=e)(Q : e<=200000)(f1 : -200000<=f)(f2 : f<=200000):
    Calls prog 179 #[.agg #[.bool s,.slice A L.length c,.int .i64 e],.agg #[.bool t,.slice B M.length d,.int .i64 f]] w (xx w<|nY ⟨s,val L,e⟩ ⟨t,val M,f⟩) := by
  have E : jc w<|((w.alloc<|.cells #[.bool s,.slice A L.length c,.int .i64 e] 31).alloc<|.cells #[.bool t,.slice B M.length d,.int .i64 f] 31).alloc<|.cells #[.bool ac,.slice am 0 0,.int .i64 0] 31 := ((jc.alloc _ _).trans<|jc.alloc _ _).trans<|jc.alloc _ _;have P : IntKind.i64.wrap (e+f)=e+f := i64_in _;have m := (((kf.new w s A L.length c e).alloc<|.cells #[.bool t,.slice B M.length d,.int .i64 f] 31).alloc<|.cells #[.bool ac,.slice am 0 0,.int .i64 0] 31).drew;have z := ((kf.vG (W := w.alloc<|.cells #[.bool s,.slice A L.length c,.int .i64 e] 31) (g := w.heap.size+1) aK t B M.length d f).alloc<|.cells #[.bool ac,.slice am 0 0,.int .i64 0] 31).drew;have p := (kf.vG (W := (w.alloc<|.cells #[.bool s,.slice A L.length c,.int .i64 e] 31).alloc<|.cells #[.bool t,.slice B M.length d,.int .i64 f] 31) (g := w.heap.size+1+1) aK ac am 0 0 0).drew;have T := (n.below E).drew;have C := (i.below E).drew;have Z := J<|E.trans<|jc.drew _;clear E;have q := an0 (a := val L) (b := val M) (k := 1000) (l := 1000) (SA n.ok X)<|SA i.ok Y;have H := J λA c w (h : Sl w A c<|iy<|val L*val M) => KL (s != t) A c (iy<|val L*val M) (e+f) w h U U U;rw[kE]at H;have o : nY ⟨s,val L,e⟩ ⟨t,val M,f⟩=canon (s != t) (val L*val M) (e+f) := rfl;rw[o];have zy := J λw (h : Sl w A c L) (k : Sl w B d M) => arM A B c d L M w h k U U;clear o q;generalize canon (s != t) (val L*val M) (e+f)=D at *
  generalize val L*val M=x at *
  go_enter func179,ntmps179;go_wp2_with fail;go_region_held3 (λv => v.cell? ⟨w.heap.size,0,am⟩=al (.bool s)/\v.cell? ⟨w.heap.size,1,am⟩=al (.slice A L.length c)/\v.cell? ⟨w.heap.size,2,am⟩=al (.int .i64 e)/\v.cell? ⟨w.heap.size+1,0,am⟩=al (.bool t)/\v.cell? ⟨w.heap.size+1,1,am⟩=al (.slice B M.length d)/\v.cell? ⟨w.heap.size+1,2,am⟩=al (.int .i64 f))
    (first
      |exact⟨m.c0,m.c1,m.c2,z.c0,z.c1,z.c2⟩
      |exact⟨(m.ext y).c0,(m.ext y).c1,(m.ext y).c2,(z.ext y).c0,(z.ext y).c1,(z.ext y).c2⟩
      |exact⟨(m.ext<|y.trans j).c0,(m.ext<|y.trans j).c1,(m.ext<|y.trans j).c2,(z.ext<|y.trans j).c0,(z.ext<|y.trans j).c1,(z.ext<|y.trans j).c2⟩
      |exact⟨Ig (m.ext<|y.trans j).c0,Ig (m.ext<|y.trans j).c1,Ig (m.ext<|y.trans j).c2,Ig (z.ext<|y.trans j).c0,Ig (z.ext<|y.trans j).c1,Ig (z.ext<|y.trans j).c2⟩)
    (first
      | (go_at_call 236
         refine(zy.out _ T C).mono ?_;rintro r N ⟨G,F,rfl,R,y⟩)
      | (go_at_call 133
         refine(H.out _ _ _ R).mono ?_;rintro r I ⟨zx,K,rfl,V,j⟩;have u := p.ext<|y.trans j;have O := u.c0;have z1 := u.c1;have z2 := u.c2;have y0 := u.fr 0;have y1 := u.fr 1;have y2 := u.fr 2))
  go_wp2;exact vX rfl rfl rfl (u.set _ _ _ _ _) rfl (u.wG V _ _ _ _ _) (kf.vK (Z.out.trans<|y.trans j) U _ _ _ _ _)
end Go.Proofs.YthalchiobglflaaGreatDoor
namespace Go.Proofs.YthalchiobglflaaGreatDoor.Fp
section
variable{d:Dy}{j k:Int}(h:j<=k)(x:k<=d.e)
def aon:d.kC j=d.kC k*2^(k-j).toNat:=by
 unfold Dy.kC;rw[bM,<-bC];congr 2;omega
def NR:d.num j=d.num k*((2^(k-j).toNat:Nat):Int):=by
 unfold Dy.num;rw[aon h x];split
 .rw [eH,Int.neg_mul]
 .rw [eH]
end
def zC{d:Dy}(h:d.m=0)k:d.num k=0:=by
 unfold Dy.num;rw[abk h];split<;>rfl
def z8(x y:Int):Int:=if x<y then -1 else if y<x then 1 else 0
def WC x y{p:Nat}(k:0<p):z8 (x*(p:Int)) (y*(p:Int))=z8 x y:=by
 unfold z8;have h:(0:Int)<p:= U ;have a:=@Int.mul_lt_mul_right (p:Int) x y h;have b:=@Int.mul_lt_mul_right (p:Int) y x h;simp only[a,b]
def pM(d:Dy)(k:Int):Prop:=d.m=0\/k<=d.e
def pM.num{d j k}(h:pM d k)(x:j<=k):d.num j=d.num k*((2^(k-j).toNat:Nat):Int):=by
 rcases h with h|h
 .rw [zC h,zC h,Int.zero_mul]
 .exact NR x h
def Gr{a b k}(y:pM a k)(z:pM b k):jQ a b=z8 (a.num k) (b.num k):=by
 have e:jQ a b=z8 (a.num<|min a.e b.e) (b.num<|min a.e b.e):=rfl;rw[e];obtain⟨j,h,x⟩:∃ j:Int,j<=k/\j<=min a.e b.e:=⟨min k<|min a.e b.e,U,U⟩
 have u:=y.num h;have v:=z.num h;have t:=(show pM a (min a.e b.e)from .inr U).num x;have s:=(show pM b (min a.e b.e)from .inr U).num x;rw[<-WC _ _ (p:=2^(min a.e b.e-j).toNat) (bG aG),<-t,<-s,u,v,WC _ _<|bG aG]
section
variable{s:Bool}{m:Nat}{e k:Int}(h:k<=e)
def aol:(canon s m e).kC k=m*2^(e-k).toNat:=by
 unfold canon;split
 .rename_i h;subst h;simp[Dy.kC]
 .rename_i h;unfold Dy.kC;simp only;have x:=I0 h
  conv=>rhs;rw[<-x]
  rw[bM,<-bC];congr 2;omega
def FF:(canon s m e).num k=if s then -((m*2^(e-k).toNat:Nat):Int)else((m*2^(e-k).toNat:Nat):Int):=by
 by_cases x:m=0
 .subst x;rw[zC<|by simp[canon]];simp
 .have:(canon s m e).neg=s:=by unfold canon;rw[bn x]
  unfold Dy.num;rw[aol h,this]
end
def ace{m e k}(h:k<=e):(canon ac m e).num k=((m*2^(e-k).toNat:Nat):Int):=by
 rw[FF h];simp
def S3{z e k}(h:k<=e):(lV z e).num k=z*((2^(e-k).toNat:Nat):Int):=by
 unfold lV;rw[FF h];by_cases x:z<0
 .simp only[x,gK,bK];rw[eH,<-Int.neg_mul];congr 1;omega
 .simp only[x,awo];rw[eH,show(z.natAbs:Int)=z by omega];simp
def C9{s m e k}(h:k<=e):pM (canon s m e) k:=by
 unfold canon;split
 .exact .inl rfl
 .exact .inr<|by simp only;omega
def Pk{z e k}(h:k<=e):pM (lV z e) k:=C9 h
section
variable{a b:Dy}{k:Int}(u:pM a k)(v:pM b k)
def OG:(jl a b).num k=a.num k+b.num k:=by
 unfold jl;by_cases x:a.m=0
 .rw [bt x,zC x,Int.zero_add]
 .rw [bn x];by_cases y:b.m=0
  .rw [bt y,zC y,Int.add_zero]
  .rw [bn y];have e:k<=a.e:=by rcases u with h|h;exact absurd h x;exact h
   have z:k<=b.e:=by rcases v with h|h;exact absurd h y;exact h
   have m:k<=min a.e b.e:= U ;rw[S3 m,Int.add_mul,<-NR m U,<-NR m U]
def Lr:pM (jl a b) k:=by
 unfold jl;by_cases x:a.m=0
 .rw [bt x];exact v
 .rw [bn x];by_cases y:b.m=0
  .rw [bt y];exact u
  .rw [bn y];have e:k<=a.e:=by rcases u with h|h;exact absurd h x;exact h
   have z:k<=b.e:=by rcases v with h|h;exact absurd h y;exact h
   exact Pk U 
end
def EC{a b}(h:a.nj)(x:b.nj):(jl a b).nj:=by
 unfold jl;split
 .exact x
 .split
  .exact h
  .exact tC _ _ _
def IB{d k}(h:pM d k):pM (ji d) k:=h
def Kp{d}k:(ji d).num k = -(d.num k):=by
 by_cases h:d.m=0
 .rw [zC h,zC<|by exact h];rfl
 .exact acf d k h
def Qf{a b}(l:a.nj)(g:b.nj){k}(j:pM a k)(o:pM b k)(h:a.num k=b.num k):a=b:=by
 have zero:∀ {d:Dy},d.nj->d.m=0->d=kq:=by
  intro d v q;have⟨s,m,e⟩:=d;rcases v with⟨x,y,z⟩|v
  .simp only at x y z;subst x y z;rfl
  .simp only at v q;omega
 have i:∀ {d:Dy},d.num k=0->d.m=0:=by
  intro d v;by_cases q:d.m=0
  .exact q
  .exfalso;have:=zj q k;unfold Dy.num at v;split at v<;>omega
 by_cases r:a.m=0
 .have u:b.m=0:=i (by rw[<-h];exact zC r k);rw[zero l r,zero g u]
 .have u:b.m≠0:=λu=>r (i<|by rw[h];exact zC u k)
  have w:a.m%2=1:=by rcases l with⟨x,_,_⟩|x;exact absurd x r;exact x
  have X:b.m%2=1:=by rcases g with⟨x,_,_⟩|x;exact absurd x u;exact x
  have Z:k<=a.e:=by rcases j with h|h;exact absurd h r;exact h
  have S:k<=b.e:=by rcases o with h|h;exact absurd h u;exact h
  have V:=zj r k;have T:=zj u k;have p:a.neg=b.neg/\a.kC k=b.kC k:=by
   unfold Dy.num at h;cases x:a.neg<;>cases y:b.neg<;>simp[x,y]at h<;>first|exact⟨rfl,U⟩|(exfalso;omega)
  have c:=congrArg ky p.2;unfold Dy.kC at c;rw[BZ w,BZ X]at c;have A:=p.2;unfold Dy.kC at A;rw[c]at A;have Y:=axc (bG aG) A;have⟨s,m,e⟩:=a;have⟨t,n,f⟩:=b;simp only at *
  have:e=f:= U ;rw[p.1,Y,this]
end Go.Proofs.YthalchiobglflaaGreatDoor.Fp
namespace Go.Proofs.YthalchiobglflaaGreatDoor
open Go.RowKit Fp
def aeD A c M n w(l:Sl w A c M)(h:M.length<=256)(x:0<=n)(y:n<=65536)(p:(iy<|val M*2^n.toNat).length<=256):
 Calls prog 195 #[.slice A M.length c,.int .i64 n] w (vQ w<|iy<|val M*2^n.toNat):=by
 obtain⟨k,rfl⟩:=dZ x;exact atd A c M k w l h U p
set_option maxHeartbeats 8000000 in
def ajQ(s : Bool)(A : Option az)(c : Nat)(L : List Nat)(e : Int)(t : Bool)(B : Option az)(d : Nat)(M : List Nat)(f : Int)(w : ap)(hs : Sl w A c L)(hr : Sl w B d M)(i : qT s L e)(o : qT t M f)(X : val L≠0)(Y : val M≠0):
    Calls prog 135 #[.agg #[.bool s,.slice A L.length c,.int .i64 e],.agg #[.bool t,.slice B M.length d,.int .i64 f]] w λr w' => r = .returned (.int .i64<|vU ⟨s,val L,e⟩ ⟨t,val M,f⟩)/\jc w w' := by
  obtain⟨lG,kO⟩ := i.exp;obtain⟨Rh,Ri⟩ := o.exp;have hl := i.len;have hm := o.len;have E : jc w<|(w.alloc<|.cells #[.bool s,.slice A L.length c,.int .i64 e] 31).alloc<|.cells #[.bool t,.slice B M.length d,.int .i64 f] 31 := (jc.alloc _ _).trans<|jc.alloc _ _;have m := ((kf.new w s A L.length c e).alloc<|.cells #[.bool t,.slice B M.length d,.int .i64 f] 31).drew;have p := (kf.vG (W := w.alloc<|.cells #[.bool s,.slice A L.length c,.int .i64 e] 31) (g := w.heap.size+1) aK t B M.length d f).drew;have T := (hs.below E).drew;have C := (hr.below E).drew;have HE := J<|E.trans<|jc.drew _;clear E;have V := J λw (h : Sl w A c L) => Qe s A c L e w h i;have S := J λw (h : Sl w B d M) => Qe t B d M f w h o;have Q := J λh => WE (a := ⟨s,val L,e⟩) (b := ⟨t,val M,f⟩) X Y h;have P := J λh => WD (a := ⟨s,val L,e⟩) (b := ⟨t,val M,f⟩) X Y h;have N := J (show Dy.iQ ⟨s,val L,e⟩=H (val L)+e by unfold Dy.iQ;rw[bn X]);have G := J (show Dy.iQ ⟨t,val M,f⟩=H (val M)+f by unfold Dy.iQ;rw[bn Y]);obtain⟨k,hk⟩ : ∃ k,min e f=k := ⟨_,rfl⟩
  have hke : k<=e := U ;have hkf : k<=f := U ;have lE : -17000<=k := U ;have Ru := J (U:k=e\/k=f);have hwe : IntKind.i64.wrap (e-k)=e-k := i64_in _;have hwf : IntKind.i64.wrap (f-k)=f-k := i64_in _;have HM := J (show vU ⟨s,val L,e⟩ ⟨t,val M,f⟩=kT (val L*2^(e-k).toNat) (val M*2^(f-k).toNat)by unfold vU;simp only[hk];rfl);have D := J (show H (val L)+e=H (val M)+f->H (val L*2^(e-k).toNat)<=4096 from λh => by
    rw[sO X];have := i.bits;have := o.bits;have := Ru.out;omega)
  have I := J (show H (val L)+e=H (val M)+f->H (val M*2^(f-k).toNat)<=4096 from λh => by
    rw[sO Y];have := i.bits;have := o.bits;have := Ru.out;omega)
  have zx := J λw (h : Sl w A c L) pf => aeD A c L (e-k) w h hl U U pf;have K := J λw (h : Sl w B d M) pf => aeD B d M (f-k) w h hm U U pf;generalize Dy.iQ ⟨s,val L,e⟩=ta at *
  generalize Dy.iQ ⟨t,val M,f⟩=tb at *
  generalize vU ⟨s,val L,e⟩ ⟨t,val M,f⟩=R at *
  generalize val L*2^(e-k).toNat=x at *
  generalize val M*2^(f-k).toNat=y at *
  have HC := J λA B c d w (h : Sl w A c<|iy x) (k : Sl w B d<|iy y) hx hy => NL A B c d (iy x) (iy y) w h k hx hy;rw[kE,kE]at HC;clear X Y i o hl hm;go_enter func135,ntmps135;go_wp2_with fail;go_region_held3 (λw' => w'.cell? ⟨w.heap.size,0,am⟩=al (.bool s)/\w'.cell? ⟨w.heap.size,1,am⟩=al (.slice A L.length c)/\w'.cell? ⟨w.heap.size,2,am⟩=al (.int .i64 e)/\w'.cell? ⟨w.heap.size+1,0,am⟩=al (.bool t)/\w'.cell? ⟨w.heap.size+1,1,am⟩=al (.slice B M.length d)/\w'.cell? ⟨w.heap.size+1,2,am⟩=al (.int .i64 f))
    (first
      |exact⟨m.c0,m.c1,m.c2,p.c0,p.c1,p.c2⟩
      |exact⟨(m.ext j).c0,(m.ext j).c1,(m.ext j).c2,(p.ext j).c0,(p.ext j).c1,(p.ext j).c2⟩
      |exact⟨(m.ext z).c0,(m.ext z).c1,(m.ext z).c2,(p.ext z).c0,(p.ext z).c1,(p.ext z).c2⟩
      |exact⟨(m.ext<|j.trans z).c0,(m.ext<|j.trans z).c1,(m.ext<|j.trans z).c2,(p.ext<|j.trans z).c0,(p.ext<|j.trans z).c1,(p.ext<|j.trans z).c2⟩
      |exact⟨(m.ext<|z.trans j).c0,(m.ext<|z.trans j).c1,(m.ext<|z.trans j).c2,(p.ext<|z.trans j).c0,(p.ext<|z.trans j).c1,(p.ext<|z.trans j).c2⟩
      |exact⟨(m.ext<|(j.trans z).trans q).c0,(m.ext<|(j.trans z).trans q).c1,(m.ext<|(j.trans z).trans q).c2,(p.ext<|(j.trans z).trans q).c0,(p.ext<|(j.trans z).trans q).c1,(p.ext<|(j.trans z).trans q).c2⟩
      |exact⟨(m.ext<|(z.trans j).trans q).c0,(m.ext<|(z.trans j).trans q).c1,(m.ext<|(z.trans j).trans q).c2,(p.ext<|(z.trans j).trans q).c0,(p.ext<|(z.trans j).trans q).c1,(p.ext<|(z.trans j).trans q).c2⟩)
    (first
      | (go_at_call_of 162 (Value.agg #[.bool s,.slice A L.length c,.int .i64 e])
         refine(V.out _ ?_).mono ?_
         (first|exact T|exact T.below z)
         rintro r wx ⟨rfl,j⟩)
      | (go_at_call_of 162 (Value.agg #[.bool t,.slice B M.length d,.int .i64 f])
         refine(S.out _ ?_).mono ?_
         (first|exact C|exact C.below j)
         rintro r wy ⟨rfl,z⟩))
  first
    | (have zv := j.trans z)
    | (have zv := z.trans j)
  have u := (m.ext zv).drew;have v := (p.ext zv).drew;have lL := (T.below zv).drew;have pq := (C.below zv).drew;have n := (m.ext zv)
  have l := (p.ext zv)
  have HF := J<|(HE.out.trans zv).trans<|jc.drew _;have F := J<|HE.out.trans zv;clear j z zv;by_cases h1 : ta<tb
  . have O := J (Q.out h1)
    go_wp2;go_ret;exact⟨qi O.out.symm,F.out⟩
  . by_cases h2 : tb<ta
    . have O := J (P.out h2)
      go_wp2;go_ret;exact⟨qi O.out.symm,F.out⟩
    . have oD : (H<|val L : Int)+e=H (val M)+f := by rw[<-N.out,<-G.out];omega
      have hfa := Sz (k := 128)<|D.out oD;have hfb := Sz (k := 128)<|I.out oD;have Z := J λw h => zx.out w h U;have zy := J λw h => K.out w h U;have HC2 := J λA B c d w h k => HC.out A B c d w h k U U;have b0 := n.c0;have b1 := n.c1;have b2 := n.c2;have d0 := l.c0;have d1 := l.c1;have d2 := l.c2;clear oD hfa hfb;go_wp2_with fail;go_region_held3 (λw' => w'.cell? ⟨w.heap.size,0,am⟩=al (.bool s)/\w'.cell? ⟨w.heap.size,1,am⟩=al (.slice A L.length c)/\w'.cell? ⟨w.heap.size,2,am⟩=al (.int .i64 e)/\w'.cell? ⟨w.heap.size+1,0,am⟩=al (.bool t)/\w'.cell? ⟨w.heap.size+1,1,am⟩=al (.slice B M.length d)/\w'.cell? ⟨w.heap.size+1,2,am⟩=al (.int .i64 f))
        (first
          |exact⟨u.c0,u.c1,u.c2,v.c0,v.c1,v.c2⟩
          |exact⟨(u.ext j).c0,(u.ext j).c1,(u.ext j).c2,(v.ext j).c0,(v.ext j).c1,(v.ext j).c2⟩
          |exact⟨(u.ext z).c0,(u.ext z).c1,(u.ext z).c2,(v.ext z).c0,(v.ext z).c1,(v.ext z).c2⟩
          |exact⟨(u.ext<|j.trans z).c0,(u.ext<|j.trans z).c1,(u.ext<|j.trans z).c2,(v.ext<|j.trans z).c0,(v.ext<|j.trans z).c1,(v.ext<|j.trans z).c2⟩
          |exact⟨(u.ext<|z.trans j).c0,(u.ext<|z.trans j).c1,(u.ext<|z.trans j).c2,(v.ext<|z.trans j).c0,(v.ext<|z.trans j).c1,(v.ext<|z.trans j).c2⟩
          |exact⟨(u.ext<|(j.trans z).trans q).c0,(u.ext<|(j.trans z).trans q).c1,(u.ext<|(j.trans z).trans q).c2,(v.ext<|(j.trans z).trans q).c0,(v.ext<|(j.trans z).trans q).c1,(v.ext<|(j.trans z).trans q).c2⟩
          |exact⟨(u.ext<|(z.trans j).trans q).c0,(u.ext<|(z.trans j).trans q).c1,(u.ext<|(z.trans j).trans q).c2,(v.ext<|(z.trans j).trans q).c0,(v.ext<|(z.trans j).trans q).c1,(v.ext<|(z.trans j).trans q).c2⟩)
        (first
          | (go_at_call_of 195 (aH A L.length c)
             refine(Z.out _ ?_).mono ?_
             (first|exact lL|exact lL.below z)
             rintro r wx ⟨Ax,cx,rfl,ZV,j⟩)
          | (go_at_call_of 195 (aH B M.length d)
             refine(zy.out _ ?_).mono ?_
             (first|exact pq|exact pq.below j)
             rintro r wy ⟨Ay,cy,rfl,ZW,z⟩)
          | (go_at_call 194
             refine(HC2.out _ _ _ _ _ ?_ ?_).mono ?_
             (first|exact ZV.below z|exact ZV)
             (first|exact ZW|exact ZW.below j)
             rintro r wz ⟨rfl,q⟩))
      all_goals
        go_wp2;go_ret
        (first|exact⟨qi HM.out.symm,HF.out.trans<|(j.trans z).trans q⟩|exact⟨qi HM.out.symm,HF.out.trans<|(z.trans j).trans q⟩)
def aeL{d:Dy}:d.jh=0↔d.m=0:=by
 rcases F1 d with⟨h,x⟩|⟨h,_,x⟩|⟨h,_,x⟩<;>simp[h,x]
def ajO(s : Bool)(A : Option az)(c : Nat)(L : List Nat)(e : Int)(t : Bool)(B : Option az)(d : Nat)(M : List Nat)(f : Int)(w : ap)(Z : Sl w A c L)(zy : Sl w B d M)(a : qT s L e)(b : qT t M f):
    Calls prog 75 #[.agg #[.bool s,.slice A L.length c,.int .i64 e],.agg #[.bool t,.slice B M.length d,.int .i64 f]] w λr w' => r = .returned (.int .i64<|jQ ⟨s,val L,e⟩ ⟨t,val M,f⟩)/\jc w w' := by
  obtain⟨lG,kO⟩ := a.exp;obtain⟨Rh,Ri⟩ := b.exp;have V := J (λw (h : Sl w A c L) => EH s A c L e w aa h U U<|by simp[a]);have X := J (λw (h : Sl w B d M) => EH t B d M f w aa h U U<|by simp[b]);have S := J λw (h : Sl w A c L) => Qc s A c L e w h a;have Y := J λw (h : Sl w B d M) => Qc t B d M f w h b;have HK := J λp l w (h : Sl w A c L) (k : Sl w B d M) => ajQ s A c L e t B d M f w h k a b p l;have P := J<|Gs ⟨s,val L,e⟩ ⟨t,val M,f⟩;have z1 : Hid<|Dy.jh ⟨s,val L,e⟩=0↔val L=0 := aeL;have z2 : Hid<|Dy.jh ⟨t,val M,f⟩=0↔val M=0 := aeL;have N : Dy.jh ⟨s,val L,e⟩=0\/Dy.jh ⟨s,val L,e⟩ = -1\/Dy.jh ⟨s,val L,e⟩=1 := by
    rcases F1 ⟨s,val L,e⟩with⟨_,h⟩|⟨_,_,h⟩|⟨_,_,h⟩<;>simp[h]
  have oX : vU ⟨s,val L,e⟩ ⟨t,val M,f⟩ = -1\/vU ⟨s,val L,e⟩ ⟨t,val M,f⟩=0\/vU ⟨s,val L,e⟩ ⟨t,val M,f⟩=1 := by
    unfold vU kT;split;simp;split<;>simp
  generalize Dy.jh ⟨s,val L,e⟩=sa at *
  generalize Dy.jh ⟨t,val M,f⟩=sb at *
  generalize vU ⟨s,val L,e⟩ ⟨t,val M,f⟩=cm at *
  generalize jQ ⟨s,val L,e⟩ ⟨t,val M,f⟩=R at *
  have Cq : IntKind.i64.wrap (sa*cm)=sa*cm := i64_in _ (by rcases N with rfl|rfl|rfl<;>omega) (by rcases N with rfl|rfl|rfl<;>omega);have HH := J N;clear N oX a b;go_enter func75,ntmps75;go_wp2_with fail;refine(V.out _<|(Z.alloc _).alloc _).mono ?_;rintro r w1 ⟨rfl,i⟩;have m := ((kf.new w s A L.length c e).alloc<|.cells #[.bool t,.slice B M.length d,.int .i64 f] 31).ext i;have y := (kf.vG (W := w.alloc<|.cells #[.bool s,.slice A L.length c,.int .i64 e] 31) (g := w.heap.size+1) aK t B M.length d f).ext i;have Q := m.c0;have G := m.c1;have F := m.c2;have I := y.c0;have zx := y.c1;have O := y.c2;have E := (((jc.alloc w<|.cells #[.bool s,.slice A L.length c,.int .i64 e] 31).trans<|jc.alloc _<|.cells #[.bool t,.slice B M.length d,.int .i64 f] 31).trans i)
  go_wp2_with fail;refine(X.out _<|zy.below E).mono ?_;rintro r w2 ⟨rfl,o⟩;have D := E.trans o;have m := (m.ext o).drew;have y := (y.ext o).drew;have T := (Z.below D).drew;have C := (zy.below D).drew;have HE := J<|D.trans<|jc.drew _;clear E D i o Q G F I zx O;go_wp2_with fail;go_region_held3 (λw' => w'.cell? ⟨w.heap.size,0,am⟩=al (.bool s)/\w'.cell? ⟨w.heap.size,1,am⟩=al (.slice A L.length c)/\w'.cell? ⟨w.heap.size,2,am⟩=al (.int .i64 e)/\w'.cell? ⟨w.heap.size+1,0,am⟩=al (.bool t)/\w'.cell? ⟨w.heap.size+1,1,am⟩=al (.slice B M.length d)/\w'.cell? ⟨w.heap.size+1,2,am⟩=al (.int .i64 f))
    (first
      |exact⟨m.c0,m.c1,m.c2,y.c0,y.c1,y.c2⟩
      |exact⟨(m.ext j).c0,(m.ext j).c1,(m.ext j).c2,(y.ext j).c0,(y.ext j).c1,(y.ext j).c2⟩
      |exact⟨(m.ext x).c0,(m.ext x).c1,(m.ext x).c2,(y.ext x).c0,(y.ext x).c1,(y.ext x).c2⟩
      |exact⟨(m.ext<|j.trans x).c0,(m.ext<|j.trans x).c1,(m.ext<|j.trans x).c2,(y.ext<|j.trans x).c0,(y.ext<|j.trans x).c1,(y.ext<|j.trans x).c2⟩
      |exact⟨(m.ext<|x.trans j).c0,(m.ext<|x.trans j).c1,(m.ext<|x.trans j).c2,(y.ext<|x.trans j).c0,(y.ext<|x.trans j).c1,(y.ext<|x.trans j).c2⟩)
    (first
      | (go_at_call_of 68 (Value.agg #[.bool s,.slice A L.length c,.int .i64 e])
         refine(S.out _ ?_).mono ?_
         (first|exact T|exact T.below x)
         rintro r wx ⟨rfl,j⟩)
      | (go_at_call_of 68 (Value.agg #[.bool t,.slice B M.length d,.int .i64 f])
         refine(Y.out _ ?_).mono ?_
         (first|exact C|exact C.below j)
         rintro r wy ⟨rfl,x⟩))
  first
    | (have q := j.trans x)
    | (have q := x.trans j)
  have z := (m.ext q)
  have u := (y.ext q)
  have lL := (T.below q)
  have pq := (C.below q)
  have H := J<|HE.out.trans q;clear j x q;by_cases p : sa<sb
  . have v := J (show R = -1 by rw[P.out,bt p])
    go_wp2;go_ret;exact⟨qi v.out.symm,H.out⟩
  . by_cases l : sb<sa
    . have v := J (show R=1 by rw[P.out,bn p,bt l])
      go_wp2;go_ret;exact⟨qi v.out.symm,H.out⟩
    . by_cases n : sa=0
      . have v := J (show R=0 by rw[P.out,bn p,bn l,bt n])
        have hz : (sa==0)=aa := by simp[n]
        go_wp2;go_ret;exact⟨qi v.out.symm,H.out⟩
      . have v := J (show R=sa*cm by rw[P.out,bn p,bn l,bn n])
        have hz : (sa==0)=ac := bd n;have K := J (HK.out (λh => n<|z1.out.2 h) λh => n<|by have := z2.out.2 h;omega);have Q := z.c0;have G := z.c1;have F := z.c2;have I := u.c0;have zx := u.c1;have O := u.c2;go_wp2_with fail;refine(K.out _ lL pq).mono ?_;rintro r w3 ⟨rfl,qu⟩;go_wp2;go_ret;exact⟨qi v.out.symm,H.out.trans qu⟩
def aa3:iy 1=[1]:=by rw[CA aG];simp[pj]
section
variable{L:List Nat}(h:je L)(l:L.length<=256)(s:Bool)(e:Int)
def Wn:(iy (canon s (val L) e).m).length<=100000000:=by
 unfold canon;split
 .simp [pj]
 .refine bF (uc (k:=256)<|cB (b6 _ _) ?_) aG ;exact bJ (nE h)<|bR aG l
def Wl(k:-9000000<=e)(y:e<=9000000):-10000000<=(canon s (val L) e).e/\(canon s (val L) e).e<=10000000:=by
 unfold canon;split
 .simp
 .rename_i x;have:=IS h x;simp only;omega
end
def arJ(s:Bool)(A:Option az)(c:Nat)(L:List Nat)(e k:Int)(w:ap)(y:Sl w A c L)(d:qT s L e)(u:-32768<=k)(t:k<=32768)(z:oL<|canon s (val L)<|e+k):
 Calls prog 72 #[.agg #[.bool s,.slice A L.length c,.int .i64 e],.int .i64 k] w (BR w (canon s (val L)<|e+k) 0):=by
 obtain⟨G,O⟩:=d.exp;have l:=d.len;have H:=J (λw (h:Sl w A c L)=>Oh s A c L e w aa h U U<|by simp[d]);have X:=J (λw=>arw k w aa<|by simp[u,t]);have j:IntKind.i64.wrap (e+k)=e+k:=i64_in _;have C:=J λw (h:Sl w A c L)=>KL s A c L (e+k) w h U U U;have x:=Wn y.ok l s<|e+k;obtain⟨n,q⟩:=Wl y.ok l s (e+k) U U;have v:(canon s (val L)<|e+k).iE:=⟨tC _ _ _,z⟩
 have K:=J λA c w (h:Sl w A c<|iy (canon s (val L)<|e+k).m)=>art _ A c w h x n q v;generalize canon s (val L) (e+k)=D at *
 clear d z v x n q;go_enter func72,ntmps72;go_wp2_with fail;refine(H.out _<|(y.alloc _).alloc _).mono ?_;rintro r o ⟨rfl,x⟩;have m:=((kf.new w s A L.length c e).alloc<|.cells #[.bool ac,.slice am 0 0,.int .i64 0] 31).ext x;have p:=(kf.vG (W:=w.alloc<|.cells #[.bool s,.slice A L.length c,.int .i64 e] 31) (g:=w.heap.size+1) aK ac am 0 0 0).ext x;have Y:=m.c0;have Z:=m.c1;have I:=m.c2;have E:=(((jc.alloc w<|.cells #[.bool s,.slice A L.length c,.int .i64 e] 31).trans<|jc.alloc _<|.cells #[.bool ac,.slice am 0 0,.int .i64 0] 31).trans x)
 have T:=y.below E;have f:=J E;clear E x;go_wp2_with fail;refine(X.out _).mono ?_;rintro r a ⟨rfl,rfl⟩;go_wp2_with fail;refine(C.out _ T).mono ?_;rintro r a ⟨V,S,rfl,B,n⟩;go_wp2_with fail;refine(K.out _ _ _ B).mono ?_;rintro r R ⟨Q,P,rfl,i,q⟩;have b:=p.ext<|n.trans q;have N:=b.c0;have M:=b.c1;have F:=b.c2;have f0:=b.fr 0;have f1:=b.fr 1;have f2:=b.fr 2;go_wp2;exact Gy rfl rfl rfl rfl (b.set _ _ _ _ _) rfl (b.wG i _ _ _ _ _) (kf.vK (f.out.trans<|n.trans q) U _ _ _ _ _)
abbrev DV(d:Dy)(A:Option az)(c:Nat):av:=.agg #[.bool d.neg,.slice A (iy d.m).length c,.int .i64 d.e]
def Sy{n k}(h:H n<=32*k):(iy n).length<=k:=by
 refine uc<|bJ (qW _) ?_;rw[pI];exact bR aG h
def Fp.Dy.iE.Ab{d:Dy}(h:d.iE):qT d.neg (iy d.m) d.e:=by
 refine⟨xq _,Sy ?_,by rw[kE];exact h⟩;rcases h.range with h0|⟨h1,_⟩
 .rw [h0];exact cj _
 .omega
def Fp.Dy.iE.len{d:Dy}(h:d.iE):(iy d.m).length<=256:=h.Ab.2.1
def Fp.Dy.iE.exp{d:Dy}(h:d.iE):-16384<=d.e/\d.e<=16384:=h.Ab.exp
def Fp.Dy.iE.bits{d:Dy}(h:d.iE):H d.m<=4096:=by have:=h.Ab.bits;rwa[kE]at this
section
variable{w:ap}{g n c:Nat}{s:Bool}{A:Option az}{e:Int}(h:kf w g s A n c e)
def kf.all:w.cell? ⟨g,0,am⟩=al (.bool s)/\w.cell? ⟨g,1,am⟩=al (.slice A n c)/\w.cell? ⟨g,2,am⟩=al (.int .i64 e):=⟨h.c0,h.c1,h.c2⟩
def kf.B4{x}(j:x≠g)i v:kf (w.setCell ⟨x,i,am⟩ v) g s A n c e:=by
 unfold kf at h ⊢;simp only[World.setCell,fV];rw[bn j];exact h
def kf.Qz{g':Nat}(jY:g'≠g)(v0 v1 v2:av):
 kf (((w.setCell ⟨g',0,am⟩ v0).setCell ⟨g',1,am⟩ v1).setCell ⟨g',2,am⟩ v2) g s A n c e:=((h.B4 jY 0 v0).B4 jY 1 v1).B4 jY 2 v2
end
structure yF(d:Dy):Prop where
 len:(iy d.m).length<=256
 lo:-17000<=d.e
 hi:d.e<=17000
def Fp.Dy.iE.xj{d}(h:d.iE):yF d:=⟨h.len,by have:=h.exp;omega,by have:=h.exp;omega⟩
section
variable(a b:Dy)(A B:Option az)(c d:Nat)(w:ap)
def arF(h:Sl w A c<|iy a.m)(k:Sl w B d<|iy b.m)(x:yF a)(y:yF b):
 Calls prog 179 #[DV a A c,DV b B d] w (xx w<|nY a b):=by
 have:=arE a.neg A c (iy a.m) a.e b.neg B d (iy b.m) b.e w h k (by have:=x.len;omega) (by have:=y.len;omega) (by have:=x.lo;omega) (by have:=x.hi;omega) (by have:=y.lo;omega) (by have:=y.hi;omega);rw[kE,kE]at this;exact this
def arv r(h:Sl w A c<|iy a.m)(k:Sl w B d<|iy b.m)(u:(iy a.m).length<=100000)(v:(iy b.m).length<=100000)(q:r=aa↔a=b):
 Calls prog 98 #[DV a A c,DV b B d] w λe w'=>e = .returned (.bool r)/\jc w w':=
 aru a.neg A c (iy a.m) a.e b.neg B d (iy b.m) b.e w r h k (xq _) (xq _) u v (by
  rw[q];have⟨s,m,e⟩:=a;have⟨t,n,f⟩:=b;simp only[Dy.mk.injEq];constructor
  .rintro ⟨x,y,z⟩;exact⟨x,z,by rw[y]⟩
  .rintro ⟨x,y,z⟩;have:=congrArg val z;rw[kE,kE]at this;exact⟨x,this,y⟩)
def ajP(h:Sl w A c<|iy a.m)(k:Sl w B d<|iy b.m)(x:a.iE)(y:b.iE):
 Calls prog 75 #[DV a A c,DV b B d] w λe w'=>e = .returned (.int .i64<|jQ a b)/\jc w w':=by
 have:=ajO a.neg A c (iy a.m) a.e b.neg B d (iy b.m) b.e w h k x.Ab y.Ab;rw[kE,kE]at this;exact this
end
section
variable(a:Dy)(A:Option az)(c:Nat)(w:ap)(h:Sl w A c<|iy a.m)(x:a.iE)
def ajM:
 Calls prog 269 #[DV a A c] w λe w'=>e = .returned (.int .i64<|H a.m)/\jc w w':=by
 have:=ajL a.neg A c (iy a.m) a.e w h x.Ab;rw[kE]at this;exact this
def ajV:
 Calls prog 68 #[DV a A c] w λe w'=>e = .returned (.int .i64 a.jh)/\jc w w':=by
 have:=Qc a.neg A c (iy a.m) a.e w h x.Ab;rw[kE]at this;exact this
def Xy:
 Calls prog 67 #[DV a A c] w λe w'=>e = .returned (.bool aa)/\jc w w':=
 EH a.neg A c (iy a.m) a.e w aa h (by have:=x.exp;omega) (by have:=x.exp;omega) (by simp[x.Ab])
end
open Pu
def Pj:∀ w w',Tb w->Below w.heap.size w w'->Tb w':=λ_ _ h b=>h.below b
def mixed:prog.follows .mixedOrders=aa:= aI 
abbrev iB(f:FuncId)(a:List E)(j:E):Prop:=PC prog Tb f a j
def F(L:List Nat):E:=.sl ac L.length 1 λi _=>.v<|.int .u32 (L.getD i 0:Int)
def iJ(d:Dy):E:=.agg [.v<|.bool d.neg,F<|iy d.m,.v<|.int .i64 d.e]
abbrev D(z:Int):E:=.v<|.int .i64 z
abbrev I(b:Bool):E:=.v<|.bool b
abbrev ar:List E:=[I ac,.v<|.slice am 0 0,D 0]
abbrev au:List E:=[I ac,.v<|.slice am 0 0,D 0,I ac,.v<|.slice am 0 0,D 0,I ac]
def yr{bs br w L v}(n:je L)(h:z bs br w (F L) v):∃ A c,v = .slice A L.length c/\Sl w A c L:=by
 cases h with
 |sl _ _ _ _ A c f u m t l p e s=>
  refine⟨A,c,rfl,u,m,n,t,λi x k=>?_⟩;have⟨y,R⟩:=cF.1 k;have⟨b,o,r,_,V,D⟩:=e i 0 y aG;have q:=z.lr<|s i 0 y aG;refine⟨b,o,r,V,?_⟩;rw[cr,bV,q]at D;rw[D];simp[bB,k]
def BK{B br w w' A c L}(y:∀ b o,B b o->b<w.heap.size/\pR w b)(q:jc w w')(h:Sl w' A c L):z B br w' (F L)<|.slice A L.length c:=by
 refine .sl ac L.length 1 _ A c (λi _=>.int .u32 (L.getD i 0:Int)) h.cap h.sE h.Au (λi j _ _=>⟨rfl,λh=>by cases h⟩) (λi j _ _=>rfl) (λi j x r=>?_) λi j _ _=>.v _
 .obtain rfl:j=0:= U ;have⟨b,o,e,V,k⟩:=h.mL x;have u:L.getD i 0=L[i]:=by simp[bB,x]
  refine⟨b,o,e,λv=>?_,V,by rw[cr,bV,k,u]⟩;have⟨t,s⟩:=y b _ v;exact(s.Aw<|q.block b t) _ _ k
def Mj{bs br w d v}(h:z bs br w (iJ d) v):∃ A c,v=DV d A c/\Sl w A c (iy d.m):=by
 obtain⟨s,rfl,q⟩:=z.Eu<|show z bs br w (.agg _) v from h;obtain⟨u,s,rfl,x,q⟩:=q.nm;obtain⟨t,s,rfl,k,q⟩:=q.nm;obtain⟨r,s,rfl,y,q⟩:=q.nm;obtain rfl:=q.sj;obtain rfl:=z.lr x;obtain rfl:=z.lr y;obtain⟨A,c,rfl,p⟩:=yr (lW _) k;exact⟨A,c,rfl,p⟩
def Xw{B br w w' A c d}(x:∀ b o,B b o->b<w.heap.size/\pR w b)(k:jc w w')(h:Sl w' A c<|iy d.m):z B br w' (iJ d)<|DV d A c:=
 lf.agg (.cons (.v _)<|.cons (BK x k h)<|.cons (.v _)<|.nil _ _ _)
section
variable {f:FuncId} {a b:Dy}
section
variable(n:∀ (vs:Array av) (w:ap),(callFunc f vs).run prog w = .ok (.enter f vs) w){j:E}{R:ap->Ending->ap->Prop}
def BB(H:∀ A c w,Sl w A c (iy a.m)->Tb w->Calls prog f #[DV a A c] w (R w))(x:∀ (B:Nat->Nat->Prop) w e w',(∀ b o,B b o->b<w.heap.size/\pR w b)->R w e w'->∃ v,e = .returned v/\Below w.heap.size w w'/\z B (λ_=>True) w' j v):iB f [iJ a] j:=by
 refine⟨n,λw B vs K k r=>?_⟩;obtain⟨u,vs,rfl,y,r⟩:=r.nm;obtain rfl:=r.sj;obtain⟨A,c,rfl,s⟩:=Mj y;exact(H A c w s K).mono λe w' h=>x B w e w' k h
def Tv(H:∀ A c x c' w,Sl w A c (iy a.m)->Sl w x c' (iy b.m)->Tb w->Calls prog f #[DV a A c,DV b x c'] w (R w))(k:∀ (B:Nat->Nat->Prop) w e w',(∀ b o,B b o->b<w.heap.size/\pR w b)->R w e w'->∃ v,e = .returned v/\Below w.heap.size w w'/\z B (λ_=>True) w' j v):iB f [iJ a,iJ b] j:=by
 refine⟨n,λw B vs K y r=>?_⟩;obtain⟨q,vs,rfl,m,r⟩:=r.nm;obtain⟨p,vs,rfl,u,r⟩:=r.nm;obtain rfl:=r.sj;obtain⟨A,c,rfl,s⟩:=Mj m;obtain⟨x,c',rfl,t⟩:=Mj u;exact(H A c x c' w s t K).mono λe w' h=>k B w e w' y h
end
end
def rv{x}:∀ (B:Nat->Nat->Prop) (w:ap) (e:Ending) (w':ap),(∀ b o,B b o->b<w.heap.size/\pR w b)->(e = .returned x/\jc w w')->∃ v,e = .returned v/\Below w.heap.size w w'/\z B (λ_=>True) w' (.v x) v:=
 λ_ _ _ _ _ h=>⟨x,h.1,h.2,.v x⟩
def rd{d}:∀ (B:Nat->Nat->Prop) (w:ap) (e:Ending) (w':ap),(∀ b o,B b o->b<w.heap.size/\pR w b)->xx w d e w'->∃ v,e = .returned v/\Below w.heap.size w w'/\z B (λ_=>True) w' (iJ d) v:=
 λ_ _ _ _ x ⟨_,_,k,y,h⟩=>⟨_,k,h,Xw x h y⟩
def TM{d n}:∀ (B:Nat->Nat->Prop) (w:ap) (e:Ending) (w':ap),(∀ b o,B b o->b<w.heap.size/\pR w b)->BR w d n e w'->∃ v,e = .returned v/\Below w.heap.size w w'/\z B (λ_=>True) w' (.iO [iJ d,D n]) v:=
 λ_ _ _ _ x ⟨_,_,k,y,h⟩=>⟨_,k,h,lf.iO<|.cons (Xw x h y)<|.cons (.v _)<|.nil _ _ _⟩
def xv:E.le (.agg ar)<|iJ kq:=by
 have:iJ kq = .agg [I ac,.sl ac 0 1 λi _=>.v<|.int .u32 (((iy 0).getD i 0:Nat):Int),D 0]:=by
  show E.agg [I ac,F<|iy 0,D 0]=_;unfold F;rw[pj];rfl
 rw[this];exact .agg<|.cons (.refl _)<|.cons (.nil _ _ _)<|.cons (.refl _) .nil
def pE a b(x:a.iE)(y:b.iE):iB 75 [iJ a,iJ b]<|D<|jQ a b:=Tv call75 (λA c z u w h k _=>ajP a b A z c u w h k x y) rv
section
variable(a:Dy)(x:a.iE)
def oC:iB 68 [iJ a]<|D a.jh:=BB call68 (λA c w h _=>ajV a A c w h x) rv
def pZ:iB 67 [iJ a]<|I aa:=BB call67 (λA c w h _=>Xy a A c w h x) rv
def Mh:iB 269 [iJ a]<|D<|H a.m:=BB call269 (λA c w h _=>ajM a A c w h x) rv
end
def arG a b(x:yF a)(y:yF b):iB 179 [iJ a,iJ b]<|iJ<|nY a b:=Tv call179 (λA c z u w h k _=>arF a b A z c u w h k x y) rd
def cE T l m(h:l=m):Bx.le (.cells T l)<|.cells T m:=by rw[h];exact Bx.le.refl _
def oI x y(h:x=y:=by(first|rfl|omega|(simp only[bT,bU];omega))):aj (D x)<|D y:=.int h
def CX(t e:Nat)(s:String):TI:=⟨t,.slice e,⟨.slice e,s,1,24,aa,8,8,al<|.slice am 0 0,ac,#[]⟩⟩
def zL(t:Nat)(d:TypeDesc)(s:String):TI:=⟨t,d,⟨d,s,1,8,aa,8,8,al<|.nilFunc,ac,#[]⟩⟩
def TT:List TI:=[
 ⟨3,.int .i64,⟨.int .i64, "int", 1,8,ac,8,8,al<|.int .i64 0,aa,#[]⟩⟩,
 ⟨4,.bool,⟨.bool, "bool", 1,1,ac,1,1,al<|.bool ac,aa,#[]⟩⟩,
 ⟨9,.string,⟨.string, "string", 1,16,aa,8,8,al<|.string ⟨#[]⟩,aa,#[]⟩⟩,CX 22 87 "[]api.Op",CX 23 3 "[]int",
 ⟨25,.struct #[⟨"Ins", 3,0,ac, "", "", 0⟩,⟨"Ops", 22,1,ac, "", "", 8⟩,⟨"Outs", 23,2,ac, "", "", 32⟩],⟨.named "flowpipe/api.Tape" 24, "api.Tape", 3,56,aa,8,8,al<|.agg #[.int .i64 0,.slice am 0 0,.slice am 0 0],ac,#[]⟩⟩,CX 26 33 "[]api.Interval",
 ⟨28,.struct #[⟨"Tape", 25,0,ac, "", "", 0⟩,⟨"States", 3,3,ac, "", "", 56⟩,⟨"Params", 26,4,ac, "", "", 64⟩],⟨.named "flowpipe/api.System" 27, "api.System", 5,88,aa,8,8,al<|.agg #[.int .i64 0,.slice am 0 0,.slice am 0 0,.int .i64 0,.slice am 0 0],ac,#[]⟩⟩,CX 29 110 "[]uint32",
 ⟨31,.struct #[⟨"Neg", 4,0,ac, "", "", 0⟩,⟨"M", 29,1,ac, "", "", 8⟩,⟨"E", 3,2,ac, "", "", 32⟩],⟨.named "flowpipe/api.Dyadic" 30, "api.Dyadic", 3,40,aa,8,8,al<|.agg #[.bool ac,.slice am 0 0,.int .i64 0],ac,#[]⟩⟩,
 ⟨33,.struct #[⟨"Lo", 31,0,ac, "", "", 0⟩,⟨"Hi", 31,3,ac, "", "", 40⟩,⟨"All", 4,6,ac, "", "", 80⟩],⟨.named "flowpipe/api.Interval" 32, "api.Interval", 7,88,aa,8,8,al<|.agg #[.bool ac,.slice am 0 0,.int .i64 0,.bool ac,.slice am 0 0,.int .i64 0,.bool ac],ac,#[]⟩⟩,
 ⟨36,.int .i64,⟨.named "flowpipe/api.Errno" 3, "api.Errno", 1,8,ac,8,8,al<|.int .i64 0,aa,#[]⟩⟩,CX 41 26 "[][]api.Interval",zL 45 (.func #[26] #[4] ac) "func([]api.Interval) bool",zL 46 (.func #[33,33,3] #[33] ac) "func(api.Interval, api.Interval, int) api.Interval",zL 59 (.func #[33,33] #[4] ac) "func(api.Interval, api.Interval) bool",zL 62 (.func #[33] #[4] ac) "func(api.Interval) bool",zL 64 (.func #[3] #[4] ac) "func(int) bool",
 ⟨85,.struct #[⟨"N", 3,0,ac, "", "", 0⟩,⟨"D", 3,1,ac, "", "", 8⟩],⟨.named "flowpipe/api.Ratio" 84, "api.Ratio", 2,16,ac,8,8,al<|.agg #[.int .i64 0,.int .i64 0],aa,#[]⟩⟩,
 ⟨87,.struct #[⟨"Kind", 3,0,ac, "", "", 0⟩,⟨"A", 3,1,ac, "", "", 8⟩,⟨"B", 3,2,ac, "", "", 16⟩,⟨"N", 3,3,ac, "", "", 24⟩,⟨"C", 85,4,ac, "", "", 32⟩],⟨.named "flowpipe/api.Op" 86, "api.Op", 6,48,ac,8,8,al<|.agg #[.int .i64 0,.int .i64 0,.int .i64 0,.int .i64 0,.int .i64 0,.int .i64 0],aa,#[]⟩⟩,zL 88 (.func #[87] #[4] ac) "func(api.Op) bool",CX 98 41 "[][][]api.Interval",
 ⟨104,.func #[31,31,3] #[31,36] ac,⟨.named "flowpipe/interval.rounded" 74, "interval.rounded", 1,8,aa,8,8,al<|.nilFunc,ac,#[]⟩⟩,
 ⟨105,.array 2 31,⟨.array 2 31, "[2]api.Dyadic", 6,80,aa,8,8,al<|.agg #[.bool ac,.slice am 0 0,.int .i64 0,.bool ac,.slice am 0 0,.int .i64 0],ac,#[]⟩⟩,
 ⟨106,.array 4 105,⟨.array 4 105, "[4][2]api.Dyadic", 24,320,aa,8,8,al<|.agg #[.bool ac,.slice am 0 0,.int .i64 0,.bool ac,.slice am 0 0,.int .i64 0,.bool ac,.slice am 0 0,.int .i64 0,.bool ac,.slice am 0 0,.int .i64 0,.bool ac,.slice am 0 0,.int .i64 0,.bool ac,.slice am 0 0,.int .i64 0,.bool ac,.slice am 0 0,.int .i64 0,.bool ac,.slice am 0 0,.int .i64 0],ac,#[]⟩⟩,
 ⟨108,.int .u64,⟨.int .u64, "uint64", 1,8,ac,8,8,al<|.int .u64 0,aa,#[]⟩⟩,
 ⟨110,.int .u32,⟨.int .u32, "uint32", 1,4,ac,4,4,al<|.int .u32 0,aa,#[]⟩⟩,
 ⟨111,.int .u64,⟨.int .u64, "uint", 1,8,ac,8,8,al<|.int .u64 0,aa,#[]⟩⟩,zL 116 (.func #[31,3] #[31,36] ac) "func(api.Dyadic, int) (api.Dyadic, api.Errno)",zL 120 (.func #[3] #[33] ac) "func(int) api.Interval",CX 123 105 "[][2]api.Dyadic",
 ⟨147,.struct #[⟨"m", 29,0,ac, "", "flowpipe/round", 0⟩,⟨"e", 3,1,ac, "", "flowpipe/round", 24⟩,⟨"more", 4,2,ac, "", "flowpipe/round", 32⟩],⟨.named "flowpipe/round.exact" 146, "round.exact", 3,40,aa,8,8,al<|.agg #[.slice am 0 0,.int .i64 0,.bool ac],ac,#[]⟩⟩,CX 173 31 "[]api.Dyadic",zL 188 (.func #[33,33] #[33] ac) "func(api.Interval, api.Interval) api.Interval",CX 199 29 "[][]uint32",zL 201 (.func #[29] #[4] ac) "func([]uint32) bool",
 ⟨222,.struct #[⟨"p", 3,0,ac, "", "flowpipe/exponent", 0⟩],⟨.named "flowpipe/exponent.work" 221, "exponent.work", 1,8,ac,8,8,al<|.agg #[.int .i64 0],aa,#[⟨"flowpipe/exponent.add", 188,#[],al (320,ac)⟩,⟨"flowpipe/exponent.div", 188,#[],al (319,ac)⟩,⟨"flowpipe/exponent.exp", 77,#[],al (337,ac)⟩,⟨"flowpipe/exponent.halved", 195,#[],al (318,ac)⟩,⟨"flowpipe/exponent.log", 77,#[],al (321,ac)⟩,⟨"flowpipe/exponent.mul", 188,#[],al (322,ac)⟩,⟨"flowpipe/exponent.small", 62,#[],al (339,ac)⟩]⟩⟩,
 ⟨231,.map 3 235,⟨.map 3 235, "map[int]func(gradient.node) api.Interval", 1,8,aa,8,8,al<|.map am,ac,#[]⟩⟩,
 ⟨234,.struct #[⟨"o", 87,0,ac, "", "flowpipe/gradient", 0⟩,⟨"v", 33,6,ac, "", "flowpipe/gradient", 48⟩,⟨"a", 33,13,ac, "", "flowpipe/gradient", 136⟩,⟨"b", 33,20,ac, "", "flowpipe/gradient", 224⟩,⟨"da", 33,27,ac, "", "flowpipe/gradient", 312⟩,⟨"db", 33,34,ac, "", "flowpipe/gradient", 400⟩,⟨"p", 3,41,ac, "", "flowpipe/gradient", 488⟩],⟨.named "flowpipe/gradient.node" 233, "gradient.node", 42,496,aa,8,8,al<|.agg #[.int .i64 0,.int .i64 0,.int .i64 0,.int .i64 0,.int .i64 0,.int .i64 0,.bool ac,.slice am 0 0,.int .i64 0,.bool ac,.slice am 0 0,.int .i64 0,.bool ac,.bool ac,.slice am 0 0,.int .i64 0,.bool ac,.slice am 0 0,.int .i64 0,.bool ac,.bool ac,.slice am 0 0,.int .i64 0,.bool ac,.slice am 0 0,.int .i64 0,.bool ac,.bool ac,.slice am 0 0,.int .i64 0,.bool ac,.slice am 0 0,.int .i64 0,.bool ac,.bool ac,.slice am 0 0,.int .i64 0,.bool ac,.slice am 0 0,.int .i64 0,.bool ac,.int .i64 0],ac,#[]⟩⟩,zL 235 (.func #[234] #[33] ac) "func(gradient.node) api.Interval",
 ⟨237,.struct #[⟨"neg", 4,0,ac, "", "flowpipe/circle", 0⟩,⟨"m", 29,1,ac, "", "flowpipe/circle", 8⟩],⟨.named "flowpipe/circle.fix" 236, "circle.fix", 2,32,aa,8,8,al<|.agg #[.bool ac,.slice am 0 0],ac,#[⟨"flowpipe/circle.add", 248,#[],al (352,ac)⟩,⟨"flowpipe/circle.by", 244,#[],al (369,ac)⟩,⟨"flowpipe/circle.minus", 242,#[],al (343,ac)⟩,⟨"flowpipe/circle.times", 245,#[],al (349,ac)⟩,⟨"flowpipe/circle.zero", 34,#[],al (353,ac)⟩]⟩⟩,zL 248 (.func #[237] #[237] ac) "func(circle.fix) circle.fix"]
def IA:mP prog TT:=Lq.ok ⟨⟨underlying3,aI⟩,⟨underlying4,aI⟩,⟨underlying9,aI⟩,⟨underlying22,aI⟩,⟨underlying23,aI⟩,⟨underlying25,aI⟩,⟨underlying26,aI⟩,⟨underlying28,aI⟩,⟨underlying29,aI⟩,⟨underlying31,aI⟩,⟨underlying33,aI⟩,⟨underlying36,aI⟩,⟨underlying41,aI⟩,⟨underlying45,aI⟩,⟨underlying46,aI⟩,⟨underlying59,aI⟩,⟨underlying62,aI⟩,⟨underlying64,aI⟩,⟨underlying85,aI⟩,⟨underlying87,aI⟩,⟨underlying88,aI⟩,⟨underlying98,aI⟩,⟨underlying104,aI⟩,⟨underlying105,aI⟩,⟨underlying106,aI⟩,⟨underlying108,aI⟩,⟨underlying110,aI⟩,⟨underlying111,aI⟩,⟨underlying116,aI⟩,⟨underlying120,aI⟩,⟨underlying123,aI⟩,⟨underlying147,aI⟩,⟨underlying173,aI⟩,⟨underlying188,aI⟩,⟨underlying199,aI⟩,⟨underlying201,aI⟩,⟨underlying222,aI⟩,⟨underlying231,aI⟩,⟨underlying234,aI⟩,⟨underlying235,aI⟩,⟨underlying237,aI⟩,⟨underlying248,aI⟩,trivial⟩
end Go.Proofs.YthalchiobglflaaGreatDoor
namespace Go.Proofs.YthalchiobglflaaGreatDoor.Pu
open Go.RowKit
def E.lO:E->Nat->Nat->E
 | .sl _ _ _ el,i,j=>el i j
 | .mT _ _ _ _ el,i,j=>el i j
 |_,_,_=>.any
section
variable {P:aw} {K:ap->Prop}
def Sp.pre{c σ τ Q}(h:PS.le σ τ)(k:Sp P K c τ Q):Sp P K c σ Q:=λx B a w L g r=>
 let⟨y,z⟩:=h x B a w L (λb o u=>(g.hB b o u).1) r;k x B a w y g z
def Sp.post{c σ Q y}(h:Sp P K c σ Q)(k:∀ e τ,Q e τ->∃ x,PS.le τ x/\y e x):Sp P K c σ y:=λz B a w L g r=>
 Code.wp_mono (λ_ _ _ ⟨u,τ,v,t,s,q⟩=>let⟨x,p,n⟩:=k u τ s;let⟨m,l⟩:=p z B _ _ v (λb o f=>(g.hB b o f).1) q;⟨u,x,m,t,n,l⟩) (h z B a w L g r)
def Sp.fam{u:Type}(f:u->PS)(p:u->Prop)(m:u->Nat){b e τ}(s:∀ x,p x->Sp P K b (f x) (λk z=>(k = .normal/\∃ y,p y/\m y<m x/\z=f y)\/(k ≠ .normal/\k=e/\z=τ))){σ}x(v:p x)(t:PS.le σ<|f x):
 Sp P K (.loop b) σ (λk z=>k=e/\z=τ):=by
 refine Sp.pre t ?_;refine Sp.loop (Q:=λk z=>k=e/\z=τ) (λn σ=>∃ x,p x/\m x=n/\σ=f x) (λn σ ⟨x,r,q,l⟩=>?_) (m x) (f x) ⟨x,v,rfl,rfl⟩;subst l q;exact(s x r).mono λk z h=>h.imp (λ⟨g,y,d,c,a⟩=>⟨g,m y,c,y,d,rfl,a⟩) id
def Sp.akL{u:Type}{f:u->PS}{p:u->Prop}{m:u->Nat}{b e τ k x}y(h:Sp P K b (f x) λz v=>z = .normal/\v=k)(t:p y)(s:m y<m x)(l:PS.le k<|f y):
 Sp P K b (f x) (λz k=>(z = .normal/\∃ y,p y/\m y<m x/\k=f y)\/(z ≠ .normal/\z=e/\k=τ)):=
 h.post λ_ _ ⟨r,q⟩=>⟨f y,q▸l,.inl ⟨r,y,t,s,rfl⟩⟩
def Sp.akM{u:Type}{f:u->PS}{p:u->Prop}{m:u->Nat}{b e τ k x}(h:Sp P K b (f x) λz v=>z=e/\v=k)(s:e ≠ .normal)(l:PS.le k τ):
 Sp P K b (f x) (λz k=>(z = .normal/\∃ y,p y/\m y<m x/\k=f y)\/(z ≠ .normal/\z=e/\k=τ)):=
 h.post λ_ _ ⟨t,r⟩=>⟨τ,r▸l,.inr ⟨t▸s,t,rfl⟩⟩
end
def DT(k:Nat):Code->Option Code
 | .loop b=>if a2 (Je b) k then al b else DT k b
 | .seq a b=>match DT k a with
  |some c=>al c
  |none=>DT k b
 | .cond _ a b=>match DT k a with
  |some c=>al c
  |none=>DT k b
 | .block _ b=>DT k b
 | .scope b=>DT k b
 |_=>am
def ahG(k:Nat)(fn:Func):Code:=((fn.body.bind<|DT k).getD .skip)
def Bx.le.jB{a b}(h:a=b):Bx.le a b:=h▸Bx.le.refl a
def Bx.le.cells{T l m}(n:(l.all E.nT=aa->m.all E.nT=aa))(h:wI l m):Bx.le (.cells T l)<|.cells T m:=⟨n,λ_ _ _ _ _ ⟨b,v,x,k,y,z,u⟩=>⟨b,v,x,k,y,h.Oi z,u⟩⟩
def Bx.le.row{nl T n y sz el e}(z:n=y)(h:∀ i j,i<n->j<sz->E.le (el i j) (e i j)/\(e i j).nr 2=aa):Bx.le (.row nl T n sz el)<|.row nl T y sz e:=
 ⟨id,λ_ _ _ _ _ ⟨f,u,v,t⟩=>by subst z;exact⟨f,u,v,λi j x k=>⟨(h i j x k).1 _ _ _ _ (t i j x k).1,(h i j x k).2⟩⟩⟩
def Bx.le.kn{nl T1 T0 n t sz len l el e p}(r:n=t)(q:∀ k,k<n->len k=l k)(h:∀ k i j,k<n->i<len k->j<sz->E.le (el k i j) (e k i j)/\(e k i j).nr 2=aa):Bx.le (.kn nl T1 T0 n sz len el p)<|.kn nl T1 T0 t sz l e p:=
 ⟨id,λ_ _ _ _ _ y=>by
  subst r;rcases y with y|⟨b,o,c,u,f,m,g,d,a,w,X,Y,s,Z,U,V⟩
  .exact .inl y
  refine .inr ⟨b,o,c,u,f,m,g,d,a,w,X,Y,λk x=>?_,Z,U,V⟩;rw[<-q k x];exact⟨(s k x).1,λi j z v=>⟨(h k i j x z v).1 _ _ _ _ ((s k x).2 i j z v).1,(h k i j x z v).2⟩⟩⟩
def Bx.le.adR{T1 T0 sz len el l}:Bx.le (.row aa T1 0 1 el)<|.kn aa T1 T0 0 sz len l am:=
 ⟨id,λ_ _ _ _ _ ⟨f,v,z,r⟩=>by
  rcases v with⟨h,_⟩|⟨b,o,c,u,h,g,q,X,p,D,t⟩
  .refine .inl ⟨h,rfl,λx s=>?_⟩;have:=(z x).1 s;rw[h]at this;simp[bf]at this
  .refine .inr ⟨b,o,c,u,λ_ _ _=>undef,h,g,q,X,U,λk y=>absurd y<|bD k,t rfl,λk y=>absurd y<|bD k,λx=>?_,λk n x y=>absurd y<|bD k,λk y=>absurd y<|bD k⟩;rw[z,h];simp only[bf,bQ];exact⟨λe=>.inl e.symm,λe=>e.elim (λe=>e.symm) λ⟨k,y,_⟩=>absurd y<|bD k⟩⟩
def PS.le.anF{σ τ}(n:σ.n=τ.n)(e:(τ.b.all λx=>x.2.nl)=aa)(m:KM τ=aa)(l:AO σ τ.t)(u:zP σ τ.b):PS.le σ τ:=λo B a w L _ r=>by
 let v:Lk:=⟨λi=>L.nc i/\(τ.bo i).isSome=aa,λi x=>L.own i x/\(τ.bo i).isSome=aa,L.val,L.jg⟩
 have V:tw L w v w:=⟨bA _,λx _ ⟨i,h,_⟩=>⟨i,h⟩,λ_ _ _=>rfl⟩
 refine⟨v,r.hd,by rw[<-n];exact r.hs,λt=>?_,λi b h=>?_,λi=>?_,λi x h=>⟨r.hn i x h.1,h.2⟩,λi x h=>r.hw i x h.1,λi d x h k=>r.hi i d x h.1 k.1,r.he,λh i b k=>?_⟩
 .have g:τ.get t=((look τ.t t)).getD (.e .any):=rfl;cases hl:look τ.t t with
  |none=>rw[g,hl];exact .any _
  |some p=>
   rw[g,hl];have:=l.get hl _ _ _ _ _<|r.ht t;refine nN.move V this λi y f=>⟨⟨f,?_⟩,rfl,λ_=>rfl⟩
   have q:=bZ.1 m _<|SE hl;exact bZ.1 q i y
 .have⟨s,z,c⟩:=u.get h;have j:(τ.bo i).isSome=aa:=by rw[h];rfl
  exact(c.2 _ _ _ _ _<|r.hb i s z).later V rfl (λx=>⟨λq=>q.1,λq=>⟨q,j⟩⟩) (λ_=>rfl) λ_ _=>rfl
 .show L.nc i/\(τ.bo i).isSome=aa↔(τ.bo i).isSome=aa;refine⟨λh=>h.2,λh=>⟨(r.hv i).2 ?_,h⟩⟩;have⟨b,D⟩:=ie.1 h;have⟨s,z,_⟩:=u.get D;rw[z];rfl
 .exact bZ.1 e _<|SE k
def PV.A0(id:Nat)(e:E)(p:PV):PV:=match p with
 | .own i=>if a2 i id then .e e else .own i
 |p=>if p.mK.any (a2 id)then .e .any else p
def PS.A0(σ:PS)(id:Nat)(e:E):PS:={ σ with t:=σ.t.map λx=>(x.1,x.2.A0 id e),b:=σ.b.filter λx=>!a2 x.1 id }
def Bx.as:Bx->Option E
 | .row nl _ n sz el=>al<|.sl nl n sz el
 | .kn nl _ _ n sz len el am=>al<|.sl aa n 1 λk _=>.sl nl (len k) sz<|el k
 |_=>am
def PS.le.freeze{σ}id{b e}(jD:σ.bo id=al b)(N:b.as=al e):PS.le σ<|σ.A0 id e:=λw0 B a w L hB r=>by
 let zx:Lk:=⟨λi=>L.nc i/\i≠id,λi x=>L.own i x/\i≠id,L.val,L.jg⟩
 have M:tw L w zx w:=⟨bA _,λx _ ⟨i,h,_⟩=>⟨i,h⟩,λ_ _ _=>rfl⟩
 have H:∀ i,(σ.A0 id e).bo i=if i=id then am else σ.bo i:=by
  intro i;unfold PS.bo PS.A0;by_cases h:i=id
  .subst h;simp only[bK];exact aa9 _ _
  .rw [bn h];exact Kb _ _ _ λe=>h e.symm
 have O:∀ x o,L.own id x->¬jt B zx x o:=by
  rintro x o zy (h|⟨i,g,d⟩)
  .exact (r.hw id x zy).1<|hB x o h
  .exact d<|r.hi i id x g zy
 have own:∀ (v:av) (T:TypeId) (n s:Nat) (f:Nat->Nat->av) (X:Bool) (m:Nat->Nat->E),nU w v T n s f X->(∀ x,v.ownBlock=al x->L.own id x) ->
  (∀ i j,i<n->j<s->z (jt B L) (jq L) w (m i j) (f i j)/\(m i j).nr 2=aa)->z (jt B zx) (jq zx) w (.sl X n s m) v:=by
  intro v T n s f X m g d V;rcases g with⟨rfl,rfl⟩|⟨b,Z,c,G,rfl,F,qG,oX,pP,D,ke⟩
  .exact .sl X 0 s m am 0 f (bA _) aG (λ_=>rfl) (λi j y=>absurd y<|bD i) (λi j y=>absurd y<|bD i) (λi j y=>absurd y<|bD i) λi j y=>absurd y<|bD i
  .have Q:=d b rfl;refine .sl X n s m _ c f qG (by unfold maxLen at oX;omega) (λh=>by cases h) (λi j y u=>⟨(D i j y u).2,λhn=>ke hn _<|dG (D i j y u).1⟩) (λi j y u=>(V i j y u).2)
    (λi j y u=>⟨b,Z,rfl,O b _ Q,(r.hw id b Q).2,?_⟩) (λi j y u=>M.kP (V i j y u).1)
   simp only[aC,F];simpa using(D i j y u).1
 have S:∀ v,v=L.val id->z (jt B zx) (jq zx) w e v:=by
  rintro v rfl;have W:=r.hb id b jD;cases b with
  |cells T l=>cases N
  |row X T n s m=>
   cases N;have⟨f,g,d,V⟩:=W;exact own _ T n s f X m g (λx zy=>(d x).2 zy) V
  |kn X T1 T0 n s C m R=>
   cases R with
   |some k=>cases N
   |none=>
    cases N;rcases W with⟨g,d,_⟩|jP
    .subst d;rw[g];exact .sl aa 0 1 _ am 0 (λ_ _=>undef) (bA _) aG (λ_=>rfl) (λi j y=>absurd y<|bD i) (λi j y=>absurd y<|bD i) (λi j y=>absurd y<|bD i) λi j y=>absurd y<|bD i
    have⟨b,Z,c,G,f,g,d,V,h4,h5,h6,h7,A,h9,qa,qE⟩:=jP;have Q:L.own id b:=(h9 b).2<|.inl rfl;rw[g];refine .sl aa n 1 _ _ c (λk _=>L.jg id k) V (by unfold maxLen at h4;omega) (λh=>by cases h) (λk j Y u=>?_) (λk j Y u=>rfl)
     (λk j Y u=>⟨b,Z,rfl,O b _ Q,(r.hw id b Q).2,?_⟩) (λk j Y u=>own _ T0 (C k) s (f k) X (m k) (A k Y).1 (λx zy=>(h9 x).2<|.inr ⟨k,Y,zy⟩) (A k Y).2)
    .have⟨_,q1,q2⟩:=(A k Y).1.head;exact⟨q1,λ_=>q2⟩
    .rw [cr];obtain rfl:j=0:= U ;simp only[aC,d];simpa using h6 k Y aK 
 refine⟨zx,r.hd,r.hs,λt=>?_,λi I h=>?_,λi=>?_,λi x h=>⟨r.hn i x h.1,h.2⟩,λi x h=>r.hw i x h.1,λi i' x h k=>r.hi i i' x h.1 k.1,r.he,λh i I k=>?_⟩
 .have F:(σ.A0 id e).get t=(σ.get t).A0 id e:=by
   unfold PS.get PS.A0;rw[Nx];cases look σ.t t<;>rfl
  rw[F];have k:=r.ht t;generalize σ.get t=p at k;have P:∀ (p:PV) (v:av),nN (jt B L) (jq L) L w p v->(p.mK.any<|a2 id)=ac->nN (jt B zx) (jq zx) zx w p v:=by
   intro p v k J;refine nN.move M k λi y uk=>⟨⟨uk,?_⟩,rfl,λ_=>rfl⟩
   rintro rfl;have:=dt.1 J i y;simp at this
  have K:∀ (p:PV) (v:av),nN (jt B L) (jq L) L w p v->nN (jt B zx) (jq zx) zx w (if p.mK.any (a2 id)then .e .any else p) v:=by
   intro p v k;cases J:p.mK.any (a2 id)with
   |true=>exact .any _
   |false=>exact P p v k J
  cases p with
  |own i=>
   simp only[PV.A0];by_cases y:i=id
   .subst y;rw[cN,bt rfl];exact S _ k.2
   .rw [dr y,bn aG];exact⟨⟨k.1,y⟩,k.2⟩
  |_=>exact K _ _ k
 .rw [H]at h;split at h
  .cases h
  .rename_i y;exact(r.hb i I h).later M rfl (λx=>⟨λq=>q.1,λq=>⟨q,y⟩⟩) (λ_=>rfl) λ_ _=>rfl
 .rw [H];show L.nc i/\i≠id↔_;by_cases y:i=id
  .subst y;simp
  .simp only[y,dH,ff,gw,bE];exact r.hv i
 .rw [H]at k;split at k
  .cases k
  .exact r.hl h i I k
def PS.Ge(σ:PS)(t id:Nat)(b:Bx):PS:={ σ with t:=(t,.own id)::σ.t.filter (λx=>!a2 x.1 t),b:=(id,b)::σ.b }
def PS.le.agi{σ}t id{nl T sz el}(D:σ.bo id=am)(p:σ.get t = .e (.v<|.slice am 0 0))(n:σ.nl=aa->nl=aa):PS.le σ<|σ.Ge t id<|.row nl T 0 sz el:=λf B a w L d r=>by
 have F:¬L.nc id:=λh=>by have:=(r.hv id).1 h;rw[D]at this;cases this
 let c:Lk:=⟨λi=>L.nc i\/i=id,L.own,λi=>if i=id then .slice am 0 0 else L.val i,L.jg⟩
 have V:tw L w c w:=⟨bA _,λx _ h=>h,λ_ _ _=>rfl⟩
 have v:∀ i,(σ.Ge t id<|.row nl T 0 sz el).bo i=if i=id then al (.row nl T 0 sz el)else σ.bo i:=by
  intro i;unfold PS.bo PS.Ge;rw[uP];by_cases h:id=i
  .rw [bt h,bt h.symm]
  .rw [bn h,bn λe=>h e.symm]
 have m:a.tmps.getD t undef = .slice am 0 0:=by
  have:=r.ht t;rw[p]at this;exact z.lr this
 refine⟨c,r.hd,r.hs,λs=>?_,λi b h=>?_,λi=>?_,λi x h=>.inl<|r.hn i x h,r.hw,r.hi,r.he,λh i b k=>?_⟩
 .have g:(σ.Ge t id<|.row nl T 0 sz el).get s=if t=s then .own id else σ.get s:=by
   unfold PS.get PS.Ge;simp only[uP];by_cases h:t=s
   .rw [bt h,bt h];rfl
   .rw [bn h,bn h,Kb _ _ _ h]
  rw[g];by_cases h:t=s
  .subst h;rw[bt rfl,m];exact⟨.inr rfl,(bt rfl).symm⟩
  .rw [bn h];refine nN.move V (r.ht s) λi _ u=>⟨.inl u,bn λ(q:i=id)=>F<|q▸u,λ_=>rfl⟩
 .rw [v]at h;split at h
  .rename_i y;subst y;cases h;refine⟨λ_ _=>undef,.inl ⟨bt rfl,rfl⟩,λx=>⟨λq=>absurd (r.hn _ _ q) F,λq=>?_⟩,λi j y=>absurd y<|bD i⟩;have l:c.val i = .slice am 0 0:=bt rfl;rw[l]at q;cases q
  .rename_i y;exact(r.hb i b h).later V (bn y) (λ_=>Iff.rfl) (λ_=>rfl) λ_ _=>rfl
 .rw [v];show L.nc i\/i=id↔_;by_cases y:i=id
  .subst y;simp
  .simp only[y,or_false,bE];exact r.hv i
 .rw [v]at k;split at k
  .cases k;exact n h
  .exact r.hl h i b k
end Go.Proofs.YthalchiobglflaaGreatDoor.Pu
namespace Go.Proofs.YthalchiobglflaaGreatDoor.Fp
def pT(x i:Nat)(b o:List Nat):Nat->List Nat×Nat
 | 0=>(o,0)
 |k+1=>
  let r:=pT x i b o k
  let z:=x*b.getD k 0+r.1.getD (i+k) 0+r.2
  (r.1.set (i+k)<|z%4294967296,z/4294967296)
def nS(a b:List Nat):Nat->List Nat
 | 0=>aA (a.length+b.length) 0
 |i+1=>
  let r:=pT (a.getD i 0) i b (nS a b i) b.length
  r.1.set (i+b.length) (r.2%4294967296)
def abJ{x y}(h:x<4294967296)(k:y<4294967296):x*y<=18446744065119617025:=by
 have:=dx (U:x<=4294967295) (U:y<=4294967295);omega
section
variable{L:List Nat}
def BM{k x}(h:k<L.length):val (L.set k x)+4294967296^k*L.getD k 0=val L+4294967296^k*x:=by
 have:=UJ (x:=x) h;rwa[bB,bH h]
def yY{k j x}(h:k≠j):(L.set k x).getD j 0=L.getD j 0:=by
 simp only[bB,awp h]
def QG{k x}(h:k<L.length):(L.set k x).getD k 0=x:=by
 simp[bB,h]
end
structure af6(x i:Nat)(b o:List Nat)(k:Nat)(r:List Nat×Nat):Prop where
 ok:je r.1
 len:r.1.length=o.length
 lt:r.2<4294967296
 eq:val r.1+4294967296^(i+k)*r.2=val o+4294967296^i*(x*val (b.take k))
 qX:∀ j,i+k<=j->r.1.getD j 0=o.getD j 0
def Kh{x i b o}(h:x<4294967296)(y:je b)(u:je o)(l:i+b.length<=o.length):∀ k,k<=b.length->af6 x i b o k (pT x i b o k)
 | 0,_=>⟨u,rfl,awU _,by simp[pT,val],λ_ _=>rfl⟩
 |k+1,hk=>by
  have⟨v,t,d,s,q⟩:=Kh h y u l k U;have p:=y.getD k;have w:=v.getD<|i+k;have c:=abJ h p;have n:=yD b k;simp only[pT];generalize pT x i b o k=r at *
  generalize m:x*b.getD k 0+r.1.getD (i+k) 0+r.2=z;have C:=BM (L:=r.1) (k:=i+k) (x:=z%4294967296) U;refine⟨v.set _<|bO _ aG,by simpa using t,by show z/4294967296<_;omega,?_,λj a=>?_⟩
  .have e:z=z%4294967296+4294967296*(z/4294967296):=(ek z _).symm;show val (r.1.set (i+k)<|z%4294967296)+4294967296^(i+(k+1))*(z/4294967296)=_;rw[n,bW x,bW<|4294967296^i,<-cU (val o),<-s];have g:4294967296^(i+(k+1))*(z/4294967296)=4294967296^(i+k)*(4294967296*(z/4294967296)):=by rw[(U:i+(k+1)=(i+k)+1),bI,bM]
   have f:4294967296^i*(x*(4294967296^k*b.getD k 0))=4294967296^(i+k)*(x*b.getD k 0):=by rw[bC];simp only[bM,dp]
   rw[g,f];have X:4294967296^(i+k)*z=4294967296^(i+k)*(x*b.getD k 0)+4294967296^(i+k)*r.1.getD (i+k) 0+4294967296^(i+k)*r.2:=by rw[<-m,bW,bW]
   have Y:4294967296^(i+k)*z=4294967296^(i+k)*(z%4294967296)+4294967296^(i+k)*(4294967296*(z/4294967296)):=by rw[<-bW,<-e]
   omega
  .show (r.1.set (i+k) _).getD j 0=_;rw[yY U,q j U]
structure af7(a b:List Nat)(i:Nat)(o:List Nat):Prop where
 ok:je o
 len:o.length=a.length+b.length
 eq:val o=val (a.take i)*val b
 zero:∀ j,i+b.length<=j->o.getD j 0=0
def Ki{a b}(y:je a)(z:je b):∀ i,i<=a.length->af7 a b i (nS a b i)
 | 0,_=>⟨je.FP _,by simp[nS],by simp[nS,C3,val],λj _=>by
  by_cases h:j<a.length+b.length<;>simp[nS,bB,fE,h]⟩
 |i+1,hi=>by
  have⟨t,g,p,u⟩:=Ki y z i U;have⟨n,f,q,m,v⟩:=Kh (y.getD i) z t (i:=i) U b.length<|bA _;have l:=yD a i;simp only[nS];generalize pT (a.getD i 0) i b (nS a b i) b.length=r at *
  have s:=BM (L:=r.1) (k:=i+b.length) (x:=r.2%4294967296) U;rw[v _<|bA _,u _<|bA _,c9,bV,bY q,m,dV,p]at s;refine⟨n.set _<|bO _ aG,aS,?_,λj e=>?_⟩
  .rw [bY q,s,l,bT,bM]
  .rw [yY U,v _ U,u _ U]
def au6{a b}(h:je a)(x:je b):val (nS a b a.length)=val a*val b:=by
 have:=(Ki h x a.length<|bA _).eq;rwa[dV]at this
end Go.Proofs.YthalchiobglflaaGreatDoor.Fp
namespace Go.Proofs.YthalchiobglflaaGreatDoor
open Go.RowKit Fp Pu
abbrev jW(L:List Nat):Nat->Nat->E:=λi _=>.v<|.int .u32 (L.getD i 0:Int)
def yA(n:Nat):IntKind.u32.wrap (n:Int)=((n%4294967296:Nat):Int):=by rw[IntKind.wrap_u32];omega
def R4(n:Nat)(h:n<9223372036854775808):IntKind.i64.wrap (n:Int)=n:=by rw[IntKind.wrap_i64];omega
def F0(n:Nat):(n:Int)/2^32=((n/4294967296:Nat):Int):= U 
def CS(n k:Nat):(n:Int)/2^k=((n/2^k:Nat):Int):=by rw[Int.natCast_ediv,Int.natCast_pow];rfl
def CT{L n}(h:n=L.length):E.le (.sl ac n 1<|jW L)<|F L:=by subst h;exact .refl _
def KR{T n x L}(k:n=x)(h:∀ i,L.getD i 0=0):Bx.le (.row ac T n 1 λ_ j=>[.v<|.int .u32 0].getD j .any)<|.row ac T x 1<|jW L:=
 .row k λi j _ y=>by
  obtain rfl:j=0:= U ;refine⟨.jB ?_,rfl⟩;show E.v (.int .u32 0)=E.v (.int .u32 (L.getD i 0:Int));rw[h i];rfl
def T5{T n k p L}{z:Nat}(u:n=k)(v:p<L.length):Bx.le (.row ac T n 1 λy x=>if y=p/\0<=x/\x<0+1 then[.v<|.int .u32 (z:Int)].getD (x-0) .any else(jW L) y x)<|.row ac T k 1<|jW<|L.set p z:=
 .row u λi j _ t=>by
  obtain rfl:j=0:= U ;refine⟨.jB ?_,rfl⟩;by_cases h:i=p
  .subst h;rw[bt ⟨rfl,U,U⟩];show E.v (.int .u32 (z:Int))=E.v (.int .u32 (((L.set i z).getD i 0:Nat):Int));rw[Fp.QG v]
  .rw [bn λq=>h q.1];show E.v (.int .u32 (L.getD i 0:Int))=E.v (.int .u32 (((L.set p z).getD i 0:Nat):Int));rw[Fp.yY λq=>h q.symm]
def adJ{k l a b c d}(h:a=b)(x:c=d):Ending.returned (.tuple #[.int k a,.int l c]) = .returned (.tuple #[.int k b,.int l d]):=by rw[h,x]
def ID(x y c:Nat)(w:ap)(h:x<4294967296)(k:y<4294967296)(z:c<=1):
 Calls prog 307 #[.int .u32 x,.int .u32 y,.int .u32 c] w λe w'=>e = .returned (.tuple #[.int .u32 (((x+y+c)%4294967296:Nat):Int),.int .u32 (((x+y+c)/4294967296:Nat):Int)])/\w=w':=by
 go_enter func307,ntmps307;go_wp2;go_ret2;refine⟨?_,rfl⟩;exact adJ U U 
section
variable(a b:Nat)(k:a<4294967296)(x:b<4294967296)
def K9:bits .or .u32 (a:Int) (b:Int)=((a |||b:Nat):Int):=by
 have h:a |||b<2^32:=awR k x
 show IntKind.u32.wrap ((BitVec.ofInt 32 (a:Int) |||BitVec.ofInt 32 (b:Int)).toNat:Int)=_;rw[BitVec.toNat_or,gL,gL];rw[show((a:Int)%((2^32:Nat):Int)).toNat=a by omega,show((b:Int)%((2^32:Nat):Int)).toNat=b by omega];rw[IntKind.wrap_u32];omega
def afA:bits .and .u32 (a:Int) (b:Int)=((a &&& b:Nat):Int):=by
 have h:a &&& b<2^32:=gI a x;show IntKind.u32.wrap ((BitVec.ofInt 32 (a:Int) &&& BitVec.ofInt 32 (b:Int)).toNat:Int)=_;rw[BitVec.toNat_and,gL,gL];rw[show((a:Int)%((2^32:Nat):Int)).toNat=a by omega,show((b:Int)%((2^32:Nat):Int)).toNat=b by omega];rw[IntKind.wrap_u32];omega
def UG:bits .xor .u32 (a:Int) (b:Int)=((a ^^^ b:Nat):Int):=by
 have h:a ^^^ b<2^32:=fH k x;show IntKind.u32.wrap ((BitVec.ofInt 32 (a:Int) ^^^ BitVec.ofInt 32 (b:Int)).toNat:Int)=_;rw[BitVec.toNat_xor,gL,gL];rw[show((a:Int)%((2^32:Nat):Int)).toNat=a by omega,show((b:Int)%((2^32:Nat):Int)).toNat=b by omega];rw[IntKind.wrap_u32];omega
end
def OO n(h:n<4294967296):n/2147483648=(n.testBit 31).toNat:=by
 rw[Nat.testBit_eq_decide_div_mod_eq,show(2:Nat)^31=2147483648 from rfl];have x:n/2147483648<2:= U ;generalize n/2147483648=q at *
 have:q=0\/q=1:= U ;rcases this with rfl|rfl<;>rfl
def at0 x y c d(h:x<4294967296)(k:y<4294967296)(g:c<=1)(f:d=(x+(4294967296-y)+(4294967296-c))%4294967296):
 (((4294967295 ^^^ x) &&& y) ||| ((4294967295 ^^^ (x ^^^ y)) &&& d))/2147483648=if x<y+c then 1 else 0:=by
 have E:d<4294967296:= U ;have t:4294967295 ^^^ x<2^32:=fH aG h;have z:x ^^^ y<2^32:=fH h k;have s:4294967295 ^^^ (x ^^^ y)<2^32:=fH aG z;have u:(4294967295 ^^^ x) &&& y<2^32:=gI _ k;have v:(4294967295 ^^^ (x ^^^ y)) &&& d<2^32:=gI _ E;rw[OO _<|awR u v];have n:=OO x h;have m:=OO y k;have l:=OO d E;rw[Nat.testBit_or,Nat.testBit_and,Nat.testBit_and,awV,awV,awV,show(4294967295:Nat).testBit 31=aa by decide];clear t z s u v;generalize x.testBit 31=p at *
 generalize y.testBit 31=q at *
 generalize d.testBit 31=r at *
 cases p<;>cases q<;>cases r<;>simp at n m l ⊢ <;> omega
section
variable(x y c:Nat)
def Ez:Nat:=if x<y+c then 1 else 0
def AW:Nat:=(x+(4294967296-y)+(4294967296-c))%4294967296
def IX(h:x<4294967296)(k:y<4294967296)(z:c<=1):AW x y c+y+c=x+4294967296*Ez x y c/\Ez x y c<=1/\AW x y c<4294967296:=by
 unfold AW Ez;split<;>omega
def aeW(w:ap)(hx:x<4294967296)(hy:y<4294967296)(hc:c<=1):
 Calls prog 308 #[.int .u32 x,.int .u32 y,.int .u32 c] w λe w'=>e = .returned (.tuple #[.int .u32 (AW x y c:Nat),.int .u32 (Ez x y c:Nat)])/\w=w':=by
 go_enter func308,ntmps308;go_wp2;go_ret2;refine⟨?_,rfl⟩;have h:((x:Int)-y-c)%4294967296=(AW x y c:Int):=by unfold AW;omega
 have b:=at0 x y c (AW x y c) hx hy hc rfl;have l:=(IX x y c hx hy hc).2.2;have m:IntKind.u32.max=((4294967295:Nat):Int):=rfl;refine adJ h ?_;rw[h,m,UG _ _ aG hx,UG _ _ hx hy];have z:4294967295 ^^^ x<2^32:=fH aG hx;have k:x ^^^ y<2^32:=fH hx hy;have u:4294967295 ^^^ (x ^^^ y)<2^32:=fH aG k;rw[UG _ _ aG k,afA _ _ z hy,afA _ _ u l];have v:(4294967295 ^^^ x) &&& y<2^32:=gI _ hy;have t:(4294967295 ^^^ (x ^^^ y)) &&& AW x y c<2^32:=gI _ l;rw[K9 _ _ v t];unfold Ez;rw[<-b];omega
end
def Vc{O k c x y P Q z u}(o:O[k]? = al 0)(h:val O+4294967296^k*c=P+Q)(t:z=P+4294967296^k*x)(s:u=Q+4294967296^k*y):
 val (O.set k<|(x+y+c)%4294967296)+4294967296^(k+1)*((x+y+c)/4294967296)=z+u:=by
 have v:=SP (a:=1) (b:=x+y) (c:=c) o;rw[bU,bV]at v;rw[v,h,t,s,bW];omega
def aeZ{O k c x y d c' P Q z u}(o:O[k]? = al 0)(h:val O+Q=P+4294967296^k*c)(t:z=P+4294967296^k*x)(s:u=Q+4294967296^k*y)(r:d+y+c=x+4294967296*c'):
 val (O.set k d)+u=z+4294967296^(k+1)*c':=by
 have⟨q,p⟩:=cF.1 o;have v:=UJ (x:=d) q;rw[p,c9,bV]at v;have e:=congrArg (4294967296^k * ·) r;simp only[bW,<-bM]at e;rw[bI,v,t,s];omega
def xy(O:List Nat)(k:Nat):Prop:=∀ j,k<=j->j<O.length->O[j]? = al 0
def xy.at{O k}(h:xy O k)(x:k<O.length):O[k]? = al 0:=h k (bA _) x
def xy.set{O k}(h:xy O k)v:xy (O.set k v)<|k+1:=λj y x=>by
 rw[awp U];exact h j U<|by simpa using x
def xy.UQ n:xy (aA n 0) 0:=λj _ h=>by
 rw[fE];rw[bt<|by simpa using h]
section
variable(w:ap)(v n:Nat)(e:Ending)(w':ap)
def Pe:Prop:=∃ T,val T=v/\je T/\T.length=n/\vQ w T e w'
def U1:Prop:=∃ T,val T=v/\je T/\T.length<=n/\vQ w T e w'
end
section
variable(A B:Option az)(c d:Nat)(L M:List Nat)(w:ap)
section
variable(hs:Sl w A c L)(hr:Sl w B d M)(h1:L.length<=3000)
def aoR(_h2:M.length<=3000)(hc:M.length<=L.length):
 Calls prog 274 #[.slice A L.length c,.slice B M.length d] w (Pe w (val L+val M)<|L.length+1):=by
 obtain⟨l,s⟩:∃ l,l=L.length:=⟨_,rfl⟩
 obtain⟨m,r⟩:∃ m,m=M.length:=⟨_,rfl⟩
 rw[<-s,<-r]at hc;rw[<-s]at h1;rw[<-r]at _h2;have T:=J s;have f:=J r;rw[<-s,<-r];clear s r;have d0:decide ((l:Int)<m)=ac:=bw U;have d1:decide (l<m)=ac:=bw U;have ri:=Hd (l+1) U;rw[show((l+1:Nat):Int)=l+1 by omega]at ri;have vf:=J<|Rw.Br w<|l+1;go_enter func274,ntmps274;go_wp2;go_loopw [6,7,8,9,23] (λcy _ _ _ i Q=>∃ (k q:Nat) (O:List Nat),k<=l/\i = .int .i64 k/\cy = .int .u32 q/\q<=1/\O.length=l+1/\je O/\xy O k/\val O+4294967296^k*q=val (L.take k)+val (M.take k)/\Rw Q w.heap.size O/\jc w Q) (λ_ _ _ _ i _=>l-(intOf i).toNat)
 case atStart=>
  exact⟨0,0,aA (l+1) 0,cj _,rfl,rfl,aG,aK,je.FP _,xy.UQ _,by simp[C3],vf.out,jc.alloc _ _⟩
 case round=>
  obtain⟨k,q,O,hk,rfl,rfl,P,N,g,G,F,y,t⟩:=hrel;have D:=J F;have n:=J N;clear F N;have Z:=J G;clear G;by_cases iV:k<l
  .have X:k<L.length:=by have:=T.out;omega
   obtain⟨ab,ao,e1,_,c1⟩:=(hs.below t).mL X;have j:L[k]<4294967296:=hs.ok.get X;have o:=Z.out.at<|by have:=n.out;omega
   have c4:=y.frozen k;have MR:=y.cell o;have C:=J<|BN L k X;have I:=J<|yD M k;have zx:M.getD k 0<4294967296:=hr.ok.getD k;have Y:=J λ(h:k<M.length)=>(hr.below t).mL h;have z:=J λ(h:k<M.length)=>Du h;have u:=J λ(h:¬k<M.length)=>GD h;have HX:=J (rfl:L[k]=L[k]);obtain⟨a,K⟩:∃ a,a=L[k]:=⟨_,rfl⟩
   rw[<-K]at c1 j C;clear K HX X;have S:=J<|Vc o D.out C.out I.out;have W:=J λv=>Z.out.set v;have H:=J λv=>g.Ox k v;have R:=J (λv:Nat=>y.set k v);have E:=J (λv:av=>t.setCell (p:=⟨w.heap.size,k,am⟩) (bA _) v);clear o y t g;subst e1;by_cases hym:k<m
   .have zy:k<M.length:=by have:=f.out;omega
    obtain⟨bb,bo,e2,_,c2⟩:=Y.out zy;subst e2;rw[<-z.out zy]at c2;generalize M.getD k 0=b at *
    clear Y z u zy;have V:=J λw=>ID a b q w j zx P;go_wp2_with fail;refine(V.out _).mono ?_;rintro e w1 ⟨rfl,rfl⟩;go_wp2;go_roundw
    case rel=>
     exact⟨k+1,(a+b+q)/4294967296,O.set k<|(a+b+q)%4294967296,U,by go_num,rfl,U,by rw[de];exact n.out,H.out _,W.out _,S.out,R.out _,E.out _⟩
    case measure=>simp[intOf];omega
   .rw [u.out<|by have:=f.out;omega]at S;clear Y z u zx I;have V:=J λw=>ID a 0 q w j aG P;go_wp2_with fail;refine(V.out _).mono ?_;rintro e w1 ⟨rfl,rfl⟩;go_wp2;go_roundw
    case rel=>
     exact⟨k+1,(a+0+q)/4294967296,O.set k<|(a+0+q)%4294967296,U,by go_num,rfl,U,by rw[de];exact n.out,H.out _,W.out _,S.out,R.out _,E.out _⟩
    case measure=>simp[intOf];omega
  .obtain rfl:k=l:= U ;have o:=Z.out.at (by have:=n.out;omega)
   have c4:=y.frozen k;have MR:=y.cell o;have HF:=J (show val (O.set k q)=val L+val M by
    have h:=PM (c:=q) o;rw[ct,bY U,cG U,c9,bV,D.out,show L.take k=L from cW<|by rw[T.out];exact bA _,show M.take k=M from cW<|by rw[<-f.out];omega]at h;omega)
   have x:=J (show(O.set k q).length=k+1 by rw[de];exact n.out);have H:Hid<|je<|O.set k q:=g.set k U;have R:=J<|y.set k q;have E:=J (λv:av=>t.setCell (p:=⟨w.heap.size,k,am⟩) (bA _) v);clear o y t g;go_wp2;go_ret;have tJ:=R.out.sl H.out (by rw[x.out];omega);rw[x.out]at tJ;exact⟨_,HF.out,H.out,x.out,_,_,(by rw[x.out];rfl),tJ,E.out _⟩
section
variable(h2:M.length<=3000)
def aoS(hc:L.length<M.length):
 Calls prog 274 #[.slice A L.length c,.slice B M.length d] w (Pe w (val L+val M)<|M.length+1):=by
 obtain⟨l,s⟩:∃ l,l=L.length:=⟨_,rfl⟩
 obtain⟨m,r⟩:∃ m,m=M.length:=⟨_,rfl⟩
 rw[<-s,<-r]at hc;rw[<-s]at h1;rw[<-r]at h2;have f:=J s;have T:=J r;rw[<-s,<-r];clear s r;have d0:decide ((l:Int)<m)=aa:=bu U;have d1:decide (l<m)=aa:=bu U;have ri:=Hd (m+1) U;rw[show((m+1:Nat):Int)=m+1 by omega]at ri;have vf:=J<|Rw.Br w<|m+1;go_enter func274,ntmps274;go_wp2;go_loopw [6,7,8,9,23] (λcy _ _ _ i Q=>∃ (k q:Nat) (O:List Nat),k<=m/\i = .int .i64 k/\cy = .int .u32 q/\q<=1/\O.length=m+1/\je O/\xy O k/\val O+4294967296^k*q=val (M.take k)+val (L.take k)/\Rw Q w.heap.size O/\jc w Q) (λ_ _ _ _ i _=>m-(intOf i).toNat)
 case atStart=>
  exact⟨0,0,aA (m+1) 0,cj _,rfl,rfl,aG,aK,je.FP _,xy.UQ _,by simp[C3],vf.out,jc.alloc _ _⟩
 case round=>
  obtain⟨k,q,O,hk,rfl,rfl,P,N,g,G,F,y,t⟩:=hrel;have D:=J F;have n:=J N;clear F N;have Z:=J G;clear G;by_cases iV:k<m
  .have X:k<M.length:=by have:=T.out;omega
   obtain⟨ab,ao,e1,_,c1⟩:=(hr.below t).mL X;have j:M[k]<4294967296:=hr.ok.get X;have o:=Z.out.at<|by have:=n.out;omega
   have c4:=y.frozen k;have MR:=y.cell o;have C:=J<|BN M k X;have I:=J<|yD L k;have zx:L.getD k 0<4294967296:=hs.ok.getD k;have Y:=J λ(h:k<L.length)=>(hs.below t).mL h;have z:=J λ(h:k<L.length)=>Du h;have u:=J λ(h:¬k<L.length)=>GD h;have HX:=J (rfl:M[k]=M[k]);obtain⟨a,K⟩:∃ a,a=M[k]:=⟨_,rfl⟩
   rw[<-K]at c1 j C;clear K HX X;have S:=J<|Vc o D.out C.out I.out;have W:=J λv=>Z.out.set v;have H:=J λv=>g.Ox k v;have R:=J (λv:Nat=>y.set k v);have E:=J (λv:av=>t.setCell (p:=⟨w.heap.size,k,am⟩) (bA _) v);clear o y t g;subst e1;by_cases hym:k<l
   .have zy:k<L.length:=by have:=f.out;omega
    obtain⟨bb,bo,e2,_,c2⟩:=Y.out zy;subst e2;rw[<-z.out zy]at c2;generalize L.getD k 0=b at *
    clear Y z u zy;have V:=J λw=>ID a b q w j zx P;go_wp2_with fail;refine(V.out _).mono ?_;rintro e w1 ⟨rfl,rfl⟩;go_wp2;go_roundw
    case rel=>
     exact⟨k+1,(a+b+q)/4294967296,O.set k<|(a+b+q)%4294967296,U,by go_num,rfl,U,by rw[de];exact n.out,H.out _,W.out _,S.out,R.out _,E.out _⟩
    case measure=>simp[intOf];omega
   .rw [u.out<|by have:=f.out;omega]at S;clear Y z u zx I;have V:=J λw=>ID a 0 q w j aG P;go_wp2_with fail;refine(V.out _).mono ?_;rintro e w1 ⟨rfl,rfl⟩;go_wp2;go_roundw
    case rel=>
     exact⟨k+1,(a+0+q)/4294967296,O.set k<|(a+0+q)%4294967296,U,by go_num,rfl,U,by rw[de];exact n.out,H.out _,W.out _,S.out,R.out _,E.out _⟩
    case measure=>simp[intOf];omega
  .obtain rfl:k=m:= U ;have o:=Z.out.at (by have:=n.out;omega)
   have c4:=y.frozen k;have MR:=y.cell o;have HF:=J (show val (O.set k q)=val L+val M by
    have h:=PM (c:=q) o;rw[ct,bY U,cG U,c9,bV,D.out,show M.take k=M from cW<|by rw[T.out];exact bA _,show L.take k=L from cW<|by rw[<-f.out];omega]at h;omega)
   have x:=J (show(O.set k q).length=k+1 by rw[de];exact n.out);have H:Hid<|je<|O.set k q:=g.set k U;have R:=J<|y.set k q;have E:=J (λv:av=>t.setCell (p:=⟨w.heap.size,k,am⟩) (bA _) v);clear o y t g;go_wp2;go_ret;have tJ:=R.out.sl H.out (by rw[x.out];omega);rw[x.out]at tJ;exact⟨_,HF.out,H.out,x.out,_,_,(by rw[x.out];rfl),tJ,E.out _⟩
def abU:
 Calls prog 274 #[.slice A L.length c,.slice B M.length d] w (Pe w (val L+val M)<|max L.length M.length+1):=by
 by_cases h:M.length<=L.length
 .rw [Nat.max_eq_left h];exact aoR A B c d L M w hs hr h1 h2 h
 .rw [Nat.max_eq_right U];exact aoS A B c d L M w hs hr h1 h2 U 
def aoQ:
 Calls prog 274 #[.slice A L.length c,.slice B M.length d] w (U1 w (val L+val M)<|max L.length M.length+1):=
 (abU A B c d L M w hs hr h1 h2).mono λ_ _ ⟨T,a,b,c,d⟩=>⟨T,a,b,fz c,d⟩
end
end
def aoT(zy:Sl w A c L)(V:Sl w B d M)(h1:L.length<=3000)(_h2:M.length<=3000)(x:val M<=val L):
 Calls prog 275 #[.slice A L.length c,.slice B M.length d] w (U1 w (val L-val M) L.length):=by
 have Q:=J λw (h:Sl w A c L)=>yi A c L w h;have S:=J λw (h:Sl w B d M)=>yi B d M w h;have P:=zy.xp;have hr:=V.xp;have DJ:=qm L;have Z7:=qm M;have X:=qQ L;have N:=qQ M;have G:(iM M).length<=(iM L).length:=by
  apply b8;intro h;have:=OW P.ok (CY M) U;omega
 unfold nB at X N;rw[<-DJ,<-Z7]at x ⊢;clear DJ Z7;obtain⟨n1,rC⟩:∃ n,n=L.length:=⟨_,rfl⟩
 obtain⟨n2,ku⟩:∃ n,n=M.length:=⟨_,rfl⟩
 rw[<-rC]at h1 X Q ⊢;rw[<-ku]at _h2 N S ⊢;have T:=J<|Q.out w zy;have t:=J<|S.out w V;clear Q S zy V rC ku;generalize iM L=L at *
 generalize iM M=M at *
 obtain⟨l,F⟩:∃ l,l=L.length:=⟨_,rfl⟩
 obtain⟨m,C⟩:∃ m,m=M.length:=⟨_,rfl⟩
 rw[<-F]at X T G;rw[<-C]at N t G;have HL:=J F;have I:=J C;have K:=J x;clear F C x;have ri:=Hd l U;have vf:=J<|Rw.Br w l;go_enter func275,ntmps275;go_wp2_with fail;refine T.out.mono ?_;rintro e W ⟨rfl,rfl⟩;go_wp2_with fail;refine t.out.mono ?_;rintro e W ⟨rfl,rfl⟩;go_wp2;go_loopw [6,7,8,9,19] (λcy _ _ _ i wr=>∃ (k q:Nat) (O:List Nat),k<=l/\i = .int .i64 k/\cy = .int .u32 q/\q<=1/\O.length=l/\je O/\xy O k/\val O+val (M.take k)=val (L.take k)+4294967296^k*q/\Rw wr w.heap.size O/\jc w wr) (λ_ _ _ _ i _=>l-(intOf i).toNat)
 case atStart=>
  exact⟨0,0,aA l 0,cj _,rfl,rfl,aG,aK,je.FP _,xy.UQ _,by simp[C3],vf.out,jc.alloc _ _⟩
 case round=>
  obtain⟨k,q,O,hk,rfl,rfl,u,hO,s,hz,lZ,R,r⟩:=hrel;have HV:=J lZ;have H:=J hO;clear lZ hO;have HZ:=J hz;clear hz;by_cases iV:k<l
  .have Z:k<L.length:=by have:=HL.out;omega
   obtain⟨ab,ao,e1,_,c1⟩:=(P.below r).mL Z;have o:L[k]<4294967296:=P.ok.get Z;have ho:=HZ.out.at<|by have:=H.out;omega
   have c4:=R.frozen k;have MR:=R.cell ho;have HT:=J<|BN L k Z;have HY:=J<|yD M k;have zx:M.getD k 0<4294967296:=hr.ok.getD k;have Y:=J λ(h:k<M.length)=>(hr.below r).mL h;have y:=J λ(h:k<M.length)=>Du h;have z:=J λ(h:¬k<M.length)=>GD h;obtain⟨a,ha⟩:∃ a,a=L[k]:=⟨_,rfl⟩
   rw[<-ha]at c1 o HT;clear ha Z;have HN:=J λv=>HZ.out.set v;have g:=J λ(v:Nat) (h:v<4294967296)=>s.set k h;have f:=J (λv:Nat=>R.set k v);have E:=J (λv:av=>r.setCell (p:=⟨w.heap.size,k,am⟩) (bA _) v);have j:=J ho;clear ho R r s;subst e1;by_cases hym:k<m
   .have Al:k<M.length:=by have:=I.out;omega
    obtain⟨bb,bo,e2,_,c2⟩:=Y.out Al;subst e2;rw[<-y.out Al]at c2;generalize M.getD k 0=b at *
    clear Y y z Al;have HS:=J<|aeZ j.out HV.out HT.out HY.out (IX a b q o zx u).1;have D:=J (IX a b q o zx u).2;have HA:=J λw=>aeW a b q w o zx u;generalize AW a b q=dd at *
    generalize Ez a b q=bb' at *
    go_wp2_with fail;refine(HA.out _).mono ?_;rintro e W ⟨rfl,rfl⟩;go_wp2;go_roundw
    case rel=>
     exact⟨k+1,bb',O.set k dd,U,by go_num,rfl,D.out.1,by rw[de];exact H.out,g.out _ D.out.2,HN.out _,HS.out,f.out _,E.out _⟩
    case measure=>simp[intOf];omega
   .rw [z.out<|by have:=I.out;omega]at HY;clear Y y z zx;have HS:=J<|aeZ j.out HV.out HT.out HY.out (IX a 0 q o aG u).1;have D:=J (IX a 0 q o aG u).2;have HA:=J λw=>aeW a 0 q w o aG u;generalize AW a 0 q=dd at *
    generalize Ez a 0 q=bb' at *
    go_wp2_with fail;refine(HA.out _).mono ?_;rintro e W ⟨rfl,rfl⟩;go_wp2;go_roundw
    case rel=>
     exact⟨k+1,bb',O.set k dd,U,by go_num,rfl,D.out.1,by rw[de];exact H.out,g.out _ D.out.2,HN.out _,HS.out,f.out _,E.out _⟩
    case measure=>simp[intOf];omega
  .obtain rfl:k=l:= U ;have HF:=J (show val O=val L-val M by
    have h:=HV.out;rw[show L.take k=L from cW<|by rw[HL.out];exact bA _,show M.take k=M from cW<|by rw[<-I.out];exact G]at h;exact(aeY s H.out h K.out).2)
   go_wp2;go_ret;have tJ:=R.sl s (by rw[H.out];omega);exact⟨_,HF.out,s,by rw[H.out];exact X,_,_,(by rw[H.out];rfl),tJ,r⟩
end
def aft{T v}(h:je T)(x:val T=v):iM T=iy v:=by rw[sX h,x]
section
variable(A B:Option az)(c d:Nat)(L M:List Nat)(w:ap)(X:Sl w A c L)(R:Sl w B d M)(P:L.length<=256)(h:M.length<=256)
def aoE(f:(iy<|val L+val M).length<=256):
 Calls prog 223 #[.slice A L.length c,.slice B M.length d] w (Ga w (iy<|val L+val M) 0):=by
 have H:=J λw (h:Sl w A c L) (k:Sl w B d M)=>aoQ A B c d L M w h k U U;generalize val L+val M=v at *
 go_enter func223,ntmps223;go_wp2_with fail;refine(aa7 _ A B _ c _ d _ ac (U3 _ _ _ _ _ _ _) (U4 _ _ _ _ _ _ _) aS).mono ?_;rintro e z ⟨rfl,rfl⟩;go_wp2_with fail;refine(H.out _ (X.alloc _)<|R.alloc _).mono ?_;rintro e z ⟨T,u,s,l,r,q,rfl,p,b⟩;have t:=J<|aft s u;go_wp2_with fail;refine(Kl r q T _ p<|by rw[t.out];exact f).mono ?_;rintro e n ⟨x,y,rfl,g,m⟩;rw[t.out]at g ⊢;go_wp2;go_ret2;exact⟨x,y,rfl,g,(jc.alloc _ _).trans<|b.trans m⟩
def aoP(l:val M<=val L):
 Calls prog 224 #[.slice A L.length c,.slice B M.length d] w (Ga w (iy<|val L-val M) 0):=by
 have H:=J λw (h:Sl w A c L) (k:Sl w B d M)=>aoT A B c d L M w h k U U l;have C:=J λw (h:Sl w A c L) (k:Sl w B d M)=>NL A B c d L M w h k U U;have i:decide (kT (val L) (val M)<0)=ac:=by
  apply bw;unfold kT;rw[bn U];split<;>decide
 have f:(iy<|val L-val M).length<=256:=bF (nR<|dY _ _)<|SA X.ok P;generalize val L-val M=v at *
 generalize kT (val L) (val M)=q at *
 clear l;go_enter func224,ntmps224;go_wp2_with fail;refine(aa7 _ A B _ c _ d _ ac (U3 _ _ _ _ _ _ _) (U4 _ _ _ _ _ _ _) aS).mono ?_;rintro e u ⟨rfl,rfl⟩;go_wp2_with fail;refine(C.out _ (X.alloc _)<|R.alloc _).mono ?_;rintro e j ⟨rfl,x⟩;go_wp2_with fail;refine(H.out _ ((X.alloc _).below x)<|(R.alloc _).below x).mono ?_;rintro e u ⟨T,s,r,o,p,n,rfl,m,b⟩;have t:=J<|aft r s;go_wp2_with fail;refine(Kl p n T _ m<|by rw[t.out];exact f).mono ?_;rintro e a ⟨y,z,rfl,g,Q⟩;rw[t.out]at g ⊢;go_wp2;go_ret2;exact⟨y,z,rfl,g,(jc.alloc _ _).trans<|x.trans<|b.trans Q⟩
end
end Go.Proofs.YthalchiobglflaaGreatDoor
namespace Go.Proofs.YthalchiobglflaaGreatDoor.Fp
def nD(d:Dy):Dy:=if oL d then d else kq
def oj(d:Dy):Int:=if oL d then 0 else 9
section
variable{d:Dy}
def Dk(h:oL d):nD d=d:=bt h
def IP(h:oL d):oj d=0:=bt h
def PW(h:¬oL d):nD d=kq:=bn h
def L5(h:¬oL d):oj d=9:=bn h
def Ww(h:d.nj):(nD d).iE:=by
 by_cases r:oL d
 .rw [Dk r];exact⟨h,r⟩
 .rw [PW r];exact tY
end
def Uw{a b}(h:a.m≠0)(x:b.m≠0):jl a b=jl b a:=by
 unfold jl;rw[bn h,bn x,bn x,bn h,Int.min_comm,Int.add_comm]
section
variable{a b:Dy}(M:a.iE)(N:b.iE)(T:a.m≠0)(Q:b.m≠0){k:Int}(G:min a.e b.e=k)
def ae8(q:4097<a.iQ-k)(n:1<a.iQ-b.iQ):¬oL (jl a b):=by
 have u:k<=a.e:= U ;have R:k<=b.e:= U ;have m:=LR T u;have g:=LR Q R;have f:a.iQ=H a.m+a.e:=by unfold Dy.iQ;rw[bn T]
 have e:b.iQ=H b.m+b.e:=by unfold Dy.iQ;rw[bn Q]
 have i:H a.m<=4096:=by rcases M.range with h|⟨h,_⟩;exact absurd h T;exact h
 have Y:a.e≠k:= U ;have w:b.e=k:= U ;have o:a.kC k%2=0:=by
  unfold Dy.kC;obtain⟨j,t⟩:∃ j,(a.e-k).toNat=j+1:=⟨(a.e-k).toNat-1,U⟩
  rw[t,bI,<-bM,fR]
 have X:b.kC k%2=1:=by
  unfold Dy.kC;rw[w,show(k-k).toNat=0 by omega,cA,cr];rcases N.canon with⟨h,_,_⟩|h
  .exact absurd h Q
  .exact h
 have Z:=zj T k;obtain⟨p,r⟩:∃ p,H (a.kC k)=p+2:=⟨H (a.kC k)-2,U⟩
 have l:=uC (U:a.kC k≠0);have S:=qW<|b.kC k;rw[r,(U:p+2-1=p+1),bI]at l;have V:2^H (b.kC k)<=2^p:=bR aG U;have v:(a.num k+b.num k).natAbs%2=1/\2^p<=(a.num k+b.num k).natAbs:=by
  unfold Dy.num;generalize a.kC k=x at *
  generalize b.kC k=y at *
  generalize 2^p=P at *
  split<;>split<;>omega
 unfold jl;rw[bn T,bn Q,G];unfold lV;generalize (a.num k+b.num k).natAbs=z at *
 generalize decide (a.num k+b.num k<0)=s at *
 have c:canon s z k=⟨s,z,k⟩:=Dy.nj.EB (d:=⟨s,z,k⟩)<|.inr v.1;rw[c];have N:=vC.2 v.2;rintro(h|⟨h,_⟩)
 .simp only at h;omega
 .simp only at h;omega
def at6(x:4097<max a.iQ b.iQ-k)(h:1<a.iQ-b.iQ\/1<b.iQ-a.iQ):¬oL (jl a b):=by
 rcases h with h|h
 .exact ae8 M N T Q G U h
 .rw [Uw T Q];exact ae8 (k:=k) N M Q T (by rw[Int.min_comm];exact G) U h
def aua(h:¬(4097<max a.iQ b.iQ-k/\(1<a.iQ-b.iQ\/1<b.iQ-a.iQ))):
 H (a.m*2^(a.e-k).toNat)<=4097/\H (b.m*2^(b.e-k).toNat)<=4097:=by
 have t:a.iQ=H a.m+a.e:=by unfold Dy.iQ;rw[bn T]
 have x:b.iQ=H b.m+b.e:=by unfold Dy.iQ;rw[bn Q]
 have y:H a.m<=4096:=by rcases M.range with h|⟨h,_⟩;exact absurd h T;exact h
 have z:H b.m<=4096:=by rcases N.range with h|⟨h,_⟩;exact absurd h Q;exact h
 rw[sO T,sO Q];omega
end
def ahx{x y n}(h:H x<=n)(k:H y<=n):H (x+y)<=n+1:=by
 rw[mo]at *
 rw[bI];omega
def jH(m:Nat)(e:Int)(p:Nat):Nat:=(max (max ((H m:Int)-p) (-16384-e)) 0).toNat
section
variable(m:Nat)(e:Int)(more:Bool)(p:Nat)(out:Bool)
def lX:Nat:=
 m/2^jH m e p+if out=aa/\(more=aa\/m%2^jH m e p≠0)then 1 else 0
def nu:Bool:=
 decide (lX m e more p out≠0)&&decide (16384<(H<|lX m e more p out:Int)+e+jH m e p)
end
section
variable(n:Bool)(m:Nat)(e:Int)(more:Bool)(p:Nat)(up:Bool)
def kB:Dy:=
 if nu m e more p (n != up)=aa then(if(n != up)=aa then kq else canon n (2^p-1) (16384-p))else canon n (lX m e more p<|n != up) (e+jH m e p)
def ko:Int:=
 if(nu m e more p (n != up)&&(n != up))=aa then 9 else 0
end
def ajC{N d k}:(N/2^d%2^k≠0\/N%2^d≠0)↔N%2^(d+k)≠0:=by
 have e:N%2^(d+k)=N%2^d+2^d*(N/2^d%2^k):=by rw[bC,il]
 have p:0<2^d:=bG aG;rw[e];constructor
 .rintro (h|h)
  .have:=fO p<|eB h;omega
  .omega
 .intro h;by_cases x:N%2^d=0
  .left;intro y;rw[x,y,c9]at h;exact h rfl
  .exact .inr x
section
variable{N:Nat}{E:Int}{more:Bool}{d p:Nat}
def ajp(b:p<H (N/2^d)):
 jH (N/2^d) (E+d) p+d=jH N E p /\
 ∀ out,lX (N/2^d) (E+d) (more||decide (N%2^d≠0)) p out=lX N E more p out:=by
 have t:d<H N:=by
  apply b8;intro h;have x:N<2^d:=mo.1 U;rw[cG x]at b;simp[H]at b
 have S:H (N/2^d)+d=H N:=by
  have u:N/2^d≠0:=by intro h;rw[h]at b;simp[H]at b
  have x:=uC u;have y:=qW<|N/2^d;obtain⟨j,v⟩:∃ j,H (N/2^d)=j+1:=⟨H (N/2^d)-1,U⟩
  rw[v]at x y ⊢;rw[eD,dz<|bG aG,<-bC]at x;rw[cC<|bG aG,<-bC]at y;have:=yK (k:=j+d) x (by rw[(U:j+d+1=j+1+d)];exact y);omega
 have z:jH (N/2^d) (E+d) p+d=jH N E p:=by
  unfold jH;omega
 refine⟨z,λout=>?_⟩;unfold lX;rw[<-z];generalize jH (N/2^d) (E+d) p=k;have R:=@ajC N d k;rw[(U:k+d=d+k),df,<-bC];congr 1;have:((more||decide (N%2^d≠0))=aa\/N/2^d%2^k≠0)↔(more=aa\/N%2^(d+k)≠0):=by
  rw[<-R];simp only[eG,cK];constructor
  .rintro ((h|h)|h)
   .exact .inl h
   .exact .inr<|.inr h
   .exact .inr<|.inl h
  .rintro (h|h|h)
   .exact .inl<|.inl h
   .exact .inr h
   .exact .inl<|.inr h
 by_cases o:out=aa
 .simp only[o,ib,this]
 .rw [bn λh=>o h.1,bn λh=>o h.1]
def L8 n up(b:p<H (N/2^d)):
 kB n (N/2^d) (E+d) (more||decide (N%2^d≠0)) p up=kB n N E more p up /\
 ko n (N/2^d) (E+d) (more||decide (N%2^d≠0)) p up=ko n N E more p up:=by
 have⟨k,h⟩:=ajp (more:=more) (E:=E) b;have h:=h<|n != up;have e:E+(d:Int)+(jH (N/2^d) (E+d) p:Int)=E+(jH N E p:Int):= U ;have x:(H<|lX N E more p<|n != up:Int)+(E+(d:Int))+(jH (N/2^d) (E+d) p:Int)=(H<|lX N E more p<|n != up:Int)+E+(jH N E p:Int):= U ;have o:nu (N/2^d) (E+d) (more||decide (N%2^d≠0)) p (n != up)=nu N E more p (n != up):=by
  unfold nu;rw[h,x]
 unfold kB ko;rw[h,o,e];exact⟨rfl,rfl⟩
end
def PL s m e(j:Nat):canon s (m*2^j) (e-j)=canon s m e:=by
 by_cases h:m=0
 .subst h;rw[cV];rfl
 .have x:m*2^j≠0:=eo h<|eE<|bG aG;have⟨q,k,y⟩:=ED h;have c:ky (m*2^j)=ky m+j:=by
   conv=>lhs;rw[y,bM,<-bC]
   exact BZ k _
  unfold canon;rw[bn x,bn h,c,bC,bL<|2^ky m,<-df,ep _<|bG aG];rw[(U:e-(j:Int)+((ky m+j:Nat):Int)=e+(ky m:Int))]
def ajo e up N E(j p:Nat)(x:N≠0):
 kB e (N*2^j) (E-j) ac p up=kB e N E ac p up/\ko e (N*2^j) (E-j) ac p up=ko e N E ac p up:=by
 have S:=sO x j;by_cases h:jH N E p=0
 .
  have w:jH (N*2^j) (E-j) p<=j:=by unfold jH at h ⊢;rw[S];omega
  obtain⟨i,z⟩:∃ i,j=i+jH (N*2^j) (E-j) p:=⟨j-jH (N*2^j) (E-j) p,U⟩
  generalize K:jH (N*2^j) (E-j) p=k at *
  have d:N*2^j/2^k=N*2^i:=by
   rw[z,bC,<-bM,ep _<|bG aG]
  have R:N*2^j%2^k=0:=by
   rw[z,bC,<-bM];exact fR _ _
  have q:∀ o,lX (N*2^j) (E-j) ac p o=N*2^i:=λo=>by
   unfold lX;rw[K,d,R];simp
  have v:∀ o,lX N E ac p o=N:=λo=>by
   unfold lX;rw[h];simp[dq]
  have Y:N*2^i≠0:=eo x<|eE<|bG aG;have y:∀ o,nu (N*2^j) (E-j) ac p o=nu N E ac p o:=λo=>by
   unfold nu;rw[q,v,K,h,sO x i];simp only[dH,Y,x,ff,gK,dw];rw[awT];omega
  unfold kB ko;rw[y,q,v,K,h];rw[(U:E-(j:Int)+k=E+((0:Nat):Int)-(i:Int)),PL];exact⟨rfl,rfl⟩
 .have w:jH (N*2^j) (E-j) p=jH N E p+j:=by unfold jH at h ⊢;rw[S];omega
  have q:∀ o,lX (N*2^j) (E-j) ac p o=lX N E ac p o:=λo=>by
   unfold lX;rw[w,bC,bL<|2^jH N E p,<-df,ep _<|bG aG,bL N,awq];have:(2^j*(N%2^jH N E p)≠0)↔(N%2^jH N E p≠0):=by
    rw[dH,dH,awW];have:=bG (n:=j) (aG:0<2);omega
   simp only[this]
  have y:∀ o,nu (N*2^j) (E-j) ac p o=nu N E ac p o:=λo=>by
   unfold nu;rw[q,w];congr 2;rw[eq_iff_iff];omega
  unfold kB ko;rw[y,q,w];rw[(U:E-(j:Int)+((jH N E p+j:Nat):Int)=E+(jH N E p:Int))];exact⟨rfl,rfl⟩
section
variable(d:Dy)(p:Nat)(up:Bool)
def jZ:Dy:=kB d.neg d.m d.e ac p up
def kg:Int:=ko d.neg d.m d.e ac p up
end
def adK s up m e p(x:m≠0):
 jZ (canon s m e) p up=kB s m e ac p up/\kg (canon s m e) p up=ko s m e ac p up:=by
 have k:=I0 x;have q:m/2^ky m≠0:=by have:=Hk x;omega
 have h:=ajo s up (m/2^ky m) (e+ky m) (ky m) p q;rw[k,(U:e+(ky m:Int)-(ky m:Int)=e)]at h;unfold jZ kg canon;rw[bn x];exact⟨h.1.symm,h.2.symm⟩
def EA{s m e}(x:m≠0):(H (canon s m e).m:Int)+(canon s m e).e=H m+e/\e<=(canon s m e).e/\(canon s m e).m≠0/\H (canon s m e).m<=H m:=by
 have k:=I0 x;have q:m/2^ky m≠0:=by have:=Hk x;omega
 have h:=sO q<|ky m;rw[k]at h;unfold canon;rw[bn x];simp only;exact⟨U,U,q,U⟩
def Xj m e p:m/2^jH m e p<2^p:=by
 rw[cC<|bG aG,<-bC];refine mo.1 ?_;unfold jH;omega
def aiA{s q p e}(h:q<=2^p)(y:1<=p):H (canon s q e).m<=p:=by
 by_cases x:q=0
 .subst x;exact cj _
 .by_cases k:q=2^p
  .have c:ky q=p:=by rw[k];have:=BZ (m:=1) rfl p;rwa[bU]at this
   unfold canon;rw[bn x,c,k,Nat.div_self<|bG aG];exact bF (mo.2<|show 1<2^1 by decide) y
  .exact bF (EA x).2.2.2<|mo.2 U
def W5 m e more p out:lX m e more p out<=2^p:=by
 have:=Xj m e p;unfold lX;split<;>omega
def nV h m e more p up(y:1<=p:=by omega)(i:p<=4096:=by omega):(kB h m e more p up).iE:=by
 unfold kB;by_cases o:nu m e more p (h != up)=aa
 .rw [bt o];by_cases z:(h != up)=aa
  .rw [bt z];exact tY
  .rw [bn z];have A:2<=2^p:=by
    have:=bR (n:=2) aG y;omega
   have x:2^p-1≠0:= U ;have b:H (2^p-1)=p:=by
    obtain⟨j,rfl⟩:∃ j,p=j+1:=⟨p-1,U⟩
    have u:2^(j+1)=2^j*2:=bI _ _;have k:=bG (n:=j) (aG:0<2);exact yK U U 
   have⟨v,u,k,t⟩:=EA (s:=h) (e:=(16384:Int)-p) x;have r:=oP k;exact⟨tC _ _ _,.inr ⟨U,U,U,U⟩⟩
 .rw [bn o];refine⟨tC _ _ _,?_⟩;by_cases x:lX m e more p (h != up)=0
  .rw [x];exact .inl rfl
  .have q:=aiA (s:=h) (e:=e+(jH m e p:Int)) (W5 m e more p<|h != up) y;have⟨v,u,k,t⟩:=EA (s:=h) (e:=e+(jH m e p:Int)) x;have r:=oP k;have l:-16384<=e+(jH m e p:Int):=by unfold jH;omega
   unfold nu at o;simp only[dH,x,ff,gK,dw,cK]at o;exact .inr ⟨U,U,U,U⟩
def IU{n m e more p up}:ko n m e more p up=0↔¬(nu m e more p (n != up)=aa/\(n != up)=aa):=by
 unfold ko;cases nu m e more p (n != up)<;>cases(n != up)<;>simp
def W7 n m e more p(y:ko n m e more p ac=0)(z:ko n m e more p aa=0):
 jQ (kB n m e more p ac) (kB n m e more p aa)<=0:=by
 have r:¬nu m e more p aa=aa:=by
  cases n
  .rw [IU]at z;simpa using z
  .rw [IU]at y;simpa using y
 have l:lX m e more p ac<=lX m e more p aa:=by
  unfold lX;simp only[bS,gz,bE];omega
 have R:¬nu m e more p ac=aa:=by
  unfold nu at r ⊢;intro h;apply r;simp only[bN,cK]at h ⊢;have:=uX l;exact⟨U,U⟩
 have x:∀ o:Bool,¬nu m e more p o=aa:=λo=>by cases o;exact R;exact r
 unfold kB;rw[bn<|x _,bn<|x _];rw[Gr (k:=e+(jH m e p:Int)) (C9<|cL _)<|C9<|cL _,FF<|cL _,FF<|cL _];rw[show(e+(jH m e p:Int)-(e+(jH m e p:Int))).toNat=0 by omega];simp only[cA,cr];unfold z8;cases n
 .simp only[bS,bE,Bool.false_bne];split
  .decide
  .split<;>omega
 .simp only[bK,Bool.true_bne,fc,fu];split
  .decide
  .split<;>omega
def oB(b:Dy)(l:Int):Nat:=if l<=b.e then b.m*2^(b.e-l).toNat else b.m/2^(l-b.e).toNat
def px(b:Dy)(l:Int):Bool:=decide (¬l<=b.e)&&decide (b.m%2^(l-b.e).toNat≠0)
section
variable{a b:Dy}(u:a.nj)(v:b.nj){K:Int}(x:K<=a.e)(y:K<=b.e)
def ae2:jl a b=lV (a.num K+b.num K) K:=by
 refine Qf (k:=K) (EC u v) (tC _ _ _) (Lr (.inr x)<|.inr y) (Pk<|cL _) ?_;rw[OG (.inr x)<|.inr y,S3<|cL _,show(K-K).toNat=0 by omega];simp
def Oo s Z(h:Z≠0)(z:a.num K+b.num K=if s then -(Z:Int)else(Z:Int))p up:
 jZ (jl a b) p up=kB s Z K ac p up/\kg (jl a b) p up=ko s Z K ac p up:=by
 have:jl a b=canon s Z K:=by rw[ae2 u v x y,z,LX]
 rw[this];exact adK s up Z K p h
end
def NQ(d:Dy)K:d.num K=if d.neg then -(d.kC K:Int)else(d.kC K:Int):=rfl
section
variable {a b:Dy} {low:Int} {p:Nat}
def T8(x:a.m≠0)(k:b.m≠0)(y:low<=a.e)(u:low<=a.iQ-p-8)(z:low<=b.e\/3<=a.iQ-b.iQ):
 ∃ (K:Int) (d:Nat),K<=a.e/\K<=b.e/\low=K+d/\a.kC K=a.m*2^(a.e-low).toNat*2^d/\oB b low=b.kC K/2^d/\(px b low=decide (b.kC K%2^d≠0)) /\
  (d=0\/(p+8<=H (a.m*2^(a.e-low).toNat)/\H (b.kC K/2^d)+3<=H (a.m*2^(a.e-low).toNat))):=by
 have t:a.iQ=H a.m+a.e:=by unfold Dy.iQ;rw[bn x]
 have v:b.iQ=H b.m+b.e:=by unfold Dy.iQ;rw[bn k]
 have s:=sO x (a.e-low).toNat
 by_cases h:low<=b.e
 .refine ⟨low,0,y,h,U,by unfold Dy.kC;simp,?_,?_,.inl rfl⟩
  .unfold oB Dy.kC;rw[bt h];simp
  .unfold px;simp[h,dq]
 .refine ⟨b.e,(low-b.e).toNat,U,cL _,U,?_,?_,?_,.inr ⟨U,?_⟩⟩
  .unfold Dy.kC;rw[bM,<-bC];congr 2;omega
  .unfold oB Dy.kC;rw[bn h];simp
  .unfold px Dy.kC;simp[h]
  .have m:b.kC b.e=b.m:=by unfold Dy.kC;simp
   rw[m];have r:H (b.m/2^(low-b.e).toNat)<=H b.m-(low-b.e).toNat:=by
    rw[mo,cC<|bG aG,<-bC];exact mo.1 U 
   have:=z.resolve_left h;omega
def ast(v:a.nj)(k:b.nj)(y:a.m≠0)(z:b.m≠0)(t:low<=a.e)(s:low<=a.iQ-p-8)(r:low<=b.e\/3<=a.iQ-b.iQ)(q:a.neg=b.neg)up:
 kB a.neg (a.m*2^(a.e-low).toNat+oB b low) low (px b low) p up=jZ (jl a b) p up/\ko a.neg (a.m*2^(a.e-low).toNat+oB b low) low (px b low) p up=kg (jl a b) p up:=by
 obtain⟨K,d,n,l,rfl,u,g,f,c⟩:=T8 (p:=p) y z t s r;generalize a.m*2^(a.e-(K+d)).toNat=x at *
 have w:=zj y K;have X:=zj z K;have⟨i,j⟩:=Oo v k n l a.neg (a.kC K+b.kC K) U (by
  rw[NQ a,NQ b,<-q];cases a.neg<;>simp<;>omega) p up
 rw[i,j,g,f];have e:(a.kC K+b.kC K)/2^d=x+b.kC K/2^d:=by
  rw[u,bL x,dQ<|bG aG]
 have o:(a.kC K+b.kC K)%2^d=b.kC K%2^d:=by
  rw[u,bL x,ey]
 rcases c with rfl|⟨Y,Z⟩
 .simp only[cA,eC,dq]at e ⊢;rw[<-e];have:K+((0:Nat):Int)=K:= U ;rw[this];simp
 .have k:p<H ((a.kC K+b.kC K)/2^d):=by
   rw[e];have:=uX (U:x<=x+b.kC K/2^d);omega
  have h:=L8 (E:=K) (more:=ac) a.neg up k;rw[e,o,awr]at h;exact h
def at1{x N D}(y:0<D)(h:N<=x*D):(x*D-N)/D=x-(N/D+if N%D≠0 then 1 else 0)/\((x*D-N)%D≠0↔N%D≠0)/\N/D+(if N%D≠0 then 1 else 0)<=x:=by
 have z:=cH N D;have p:=bO N y;generalize N/D=q at *
 generalize N%D=r at *
 by_cases u:r=0
 .subst u;simp only[dH,awK,bE,bV]at z ⊢;have k:q<=x:=by
   apply b8;intro v;have:=bX D (U:x+1<=q);rw[bT,bL q]at this;omega
  have e:x*D-N=(x-q)*D:=by rw[Nat.sub_mul,<-z,bL q]
  rw[e,ep _ y,fR];exact⟨rfl,aK,k⟩
 .have k:q+1<=x:=by
   apply b8;intro v;have:=bX D (U:x<=q);rw[bL q]at this;omega
  have e:x*D-N=(D-r)+D*(x-(q+1)):=by
   have t:D*(x-(q+1))=D*x-D*(q+1):=Nat.mul_sub _ _ _;have s:D*(q+1)<=D*x:=cR _ k;rw[bW,cr]at t s;rw[bL x];omega
  have i:D-r<D:= U ;rw[e,fN _ _ y,cG i,eP,bY i];simp only[dH,u,ff,bK];exact⟨U,⟨λ_=>trivial,λ_=> U⟩,k⟩
def ass(z:a.nj)(u:b.nj)(q:a.m≠0)(m:b.m≠0)(f:low<=a.e)(c:low<=a.iQ-p-8)(i:low<=b.e\/3<=a.iQ-b.iQ)(w:a.neg≠b.neg)up:
  (a.m*2^(a.e-low).toNat<oB b low+(if px b low=aa then 1 else 0) ->
   kB (!a.neg) (oB b low+(if px b low=aa then 1 else 0)-a.m*2^(a.e-low).toNat) low ac p up=jZ (jl a b) p up/\ko (!a.neg) (oB b low+(if px b low=aa then 1 else 0)-a.m*2^(a.e-low).toNat) low ac p up=kg (jl a b) p up) /\
  (oB b low+(if px b low=aa then 1 else 0)<=a.m*2^(a.e-low).toNat ->
   (a.m*2^(a.e-low).toNat-(oB b low+(if px b low=aa then 1 else 0))=0/\px b low=ac->jl a b=kq) /\
   (¬(a.m*2^(a.e-low).toNat-(oB b low+(if px b low=aa then 1 else 0))=0/\px b low=ac) ->
    kB a.neg (a.m*2^(a.e-low).toNat-(oB b low+(if px b low=aa then 1 else 0))) low (px b low) p up=jZ (jl a b) p up/\ko a.neg (a.m*2^(a.e-low).toNat-(oB b low+(if px b low=aa then 1 else 0))) low (px b low) p up=kg (jl a b) p up)):=by
 obtain⟨K,d,v,t,rfl,k,X,Y,Z⟩:=T8 (p:=p) q m f c i;generalize a.m*2^(a.e-(K+d)).toNat=x at *
 have zy:=zj q K;have G:=zj m K;have M:a.num K+b.num K=if a.neg then(b.kC K:Int)-a.kC K else(a.kC K:Int)-b.kC K:=by
  rw[NQ a,NQ b];cases h:a.neg<;>cases h':b.neg<;>simp[h,h']at w ⊢ <;> omega
 rw[X,Y];rcases Z with rfl|⟨g,F⟩
 .
  rw[cA,cr]at k;have o:K+((0:Nat):Int)=K:= U ;simp only[cA,eC,dq,dH,awK,awo,bS,bE,bV,o,gw];refine⟨λV=>?_,λl=>⟨λs=>?_,λs=>?_⟩⟩
  .have⟨r,y⟩:=Oo z u v t (!a.neg) (b.kC K-x) U (by
    rw[M,k];cases a.neg<;>simp<;>omega) p up
   exact⟨r.symm,y.symm⟩
  .rw [ae2 z u v t,M,k];have:x=b.kC K:= U ;rw[this];cases a.neg<;>simp[lV,canon,kq]
  .have⟨r,y⟩:=Oo z u v t a.neg (x-b.kC K) U (by
    rw[M,k];cases a.neg<;>simp<;>omega) p up
   exact⟨r.symm,y.symm⟩
 .
  have D:=bG (n:=d) (aG:0<2);have O:x≠0:=by intro h;rw[h]at g;simp[H]at g
  obtain⟨j,T⟩:∃ j,H x=j+3:=⟨H x-3,U⟩
  have Q:=uC O;rw[T,(U:j+3-1=j+2),bC]at Q;have W:b.kC K/2^d<2^j:=mo.1 U;have l:b.kC K<=x*2^d:=by
   have C:=cH (b.kC K)<|2^d;have A:=bO (b.kC K) D;have S:2^d*(b.kC K/2^d+1)<=2^d*x:=cR _ U;rw[bW,cr,bL _ x]at S;omega
  have⟨e,R,I⟩:=at1 D l;have P:(if decide (b.kC K%2^d≠0)=aa then 1 else 0)=(if b.kC K%2^d≠0 then 1 else 0):=by simp only[cK]
  rw[P];have B:p<H (x-(b.kC K/2^d+if b.kC K%2^d≠0 then 1 else 0)):=by
   have N:2^(j+1)<=x-(b.kC K/2^d+if b.kC K%2^d≠0 then 1 else 0):=by
    rw[bI];have J:2^j*2^2<=x:=Q;have qa:=bG (n:=j) (aG:0<2);split<;>omega
   have:=vC.2 N;omega
  refine⟨λV=> U,λ_=>⟨λs=>?_,λ_=>?_⟩⟩
  .exfalso;rw[s.1]at B;simp[H]at B
  .have⟨r,y⟩:=Oo z u v t a.neg (a.kC K-b.kC K) (by
    intro h;rw[<-k,h,im]at e;rw[<-e]at B;simp[H]at B) (by
    rw[M];cases a.neg<;>simp<;>omega) p up
   rw[r,y,k];rw[<-e]at B ⊢;have h:=L8 (E:=K) (more:=ac) a.neg up B;rw[awr]at h;have L:decide ((x*2^d-b.kC K)%2^d≠0)=decide (b.kC K%2^d≠0):=awT.2 R;rw[L]at h;exact h
end
def jR(m:Nat)(e:Int)(p:Nat):Int:=max (e+H m-p) (-16384)
def pD(m:Nat)(e:Int)(more:Bool)(p:Nat)(up:Bool):Nat:=
 if jR m e p<=e then m*2^(e-jR m e p).toNat else m/2^(jR m e p-e).toNat+if(up&&(more||decide (m%2^(jR m e p-e).toNat≠0)))=aa then 1 else 0
section
variable{m:Nat}{e:Int}{more:Bool}{p:Nat}
def W4 up(x:m≠0)(u:more=aa->p<H m)(t:1<=p):
 (H<|pD m e more p up:Int)+jR m e p<=16384/\kB ac m e more p up=canon ac (pD m e more p up) (jR m e p)/\ko ac m e more p up=0 \/
 16384<(H<|pD m e more p up:Int)+jR m e p/\((up=aa/\kB ac m e more p up=kq/\ko ac m e more p up=9)\/(up=ac/\kB ac m e more p up=canon ac (2^p-1) (16384-p)/\ko ac m e more p up=0)):=by
 have r:(ac != up)=up:=by cases up<;>rfl
 by_cases s:jR m e p<=e
 .
  have k:more=ac:=by
   cases RF:more with
   |false=>rfl
   |true=>have:=u RF;unfold jR at s;omega
  subst k;have K:jH m e p=0:=by unfold jR at s;unfold jH;omega
  have Q:lX m e ac p up=m:=by unfold lX;rw[K];simp[dq]
  have P:pD m e ac p up=m*2^(e-jR m e p).toNat:=by unfold pD;rw[bt s]
  have b:H (pD m e ac p up)=H m+(e-jR m e p).toNat:=by rw[P];exact sO x _
  have c:canon ac (pD m e ac p up) (jR m e p)=canon ac m e:=by
   rw[P];have:=PL ac m e (e-jR m e p).toNat
   rwa[(U:e-((e-jR m e p).toNat:Int)=jR m e p)]at this
  have O:nu m e ac p up=decide (16384<(H m:Int)+e):=by
   unfold nu;rw[Q,K];simp[x]
  by_cases v:16384<(H m:Int)+e
  .refine .inr ⟨U,?_⟩;unfold kB ko;rw[r,O,bu v];cases up
   .exact .inr ⟨rfl,rfl,rfl⟩
   .exact .inl ⟨rfl,rfl,rfl⟩
  .refine .inl ⟨U,?_,?_⟩
   .unfold kB;rw[r,O,bw v,bn aG,Q,K,c];simp
   .unfold ko;rw[r,O,bw v];simp
 .have K:jH m e p=(jR m e p-e).toNat:=by unfold jR at s ⊢;unfold jH;omega
  have Q:lX m e more p up=pD m e more p up:=by
   unfold lX pD;rw[bn s,K];congr 1;cases up<;>cases more<;>simp
  have y:e+(jH m e p:Int)=jR m e p:=by rw[K];omega
  have j:16384<(H<|pD m e more p up:Int)+jR m e p->pD m e more p up≠0:=by
   intro h z;have F:m/2^(jR m e p-e).toNat=0:=by
    unfold pD at z;rw[bn s]at z;exact(Nat.add_eq_zero_iff.1 z).1
   have i:m<2^(jR m e p-e).toNat:=by
    rcases Nat.div_eq_zero_iff.1 F with h|h
    .exact absurd h<|eE<|bG aG
    .exact h
   have:=mo.2 i;rw[z,tZ]at h;have w:=oP x;unfold jR at h s this;omega
  have O:nu m e more p up=decide (16384<(H<|pD m e more p up:Int)+jR m e p):=by
   unfold nu;rw[Q,show(H<|pD m e more p up:Int)+e+(jH m e p:Int)=(H<|pD m e more p up:Int)+jR m e p by omega];by_cases v:16384<(H<|pD m e more p up:Int)+jR m e p
   .simp [j v]
   .simp [v]
  by_cases v:16384<(H<|pD m e more p up:Int)+jR m e p
  .refine .inr ⟨v,?_⟩;unfold kB ko;rw[r,O,bu v];cases up
   .exact .inr ⟨rfl,rfl,rfl⟩
   .exact .inl ⟨rfl,rfl,rfl⟩
  .refine .inl ⟨U,?_,?_⟩
   .unfold kB;rw[r,O,bw v,bn aG,Q,y]
   .unfold ko;rw[r,O,bw v];simp
def W3{up}(x:m≠0):H (pD m e more p up)<=p+1:=by
 unfold pD;split
 .rename_i h;rw[sO x];unfold jR at h ⊢;omega
 .rename_i h;have k:m/2^(jR m e p-e).toNat<2^p:=by
   rw[cC<|bG aG,<-bC];refine mo.1 ?_;unfold jR at h ⊢;omega
  refine mo.2 ?_;rw[bI];have:0<2^p:=bG aG;split<;>omega
end
def ph{m k}(h:H m<=32*k:=by omega):(iy m).length<=k:=by
 refine uc ?_;rw[pI];exact mo.1 h
def zW{m k}(h:(iy m).length<=k):H m<=32*k:=by
 have:=yg h;rw[pI]at this;exact mo.2 this
def Xl{m n}(h:H m<=n):m/2^n=0/\m%2^n=m:=by
 have:=mo.1 h;exact⟨cG this,bY this⟩
def aba m n:(kT (m/2^n*2^n) m != 0)=decide (m%2^n≠0):=by
 have h:=cH m<|2^n;rw[bL]at h;unfold kT;by_cases x:m%2^n=0
 .rw [bn U,bn U];simp[x]
 .rw [bt U];simp[x]
def Xa n m e more p up:
 ko n m e more p up=ko ac m e more p (up != n) /\
 (ko ac m e more p (up != n)=0->n=aa->ji (kB ac m e more p<|up != n)=kB n m e more p up) /\
 ((ko ac m e more p (up != n)≠0\/n=ac)->kB ac m e more p (up != n)=kB n m e more p up):=by
 have r:(ac != (up != n))=(n != up):=by cases up<;>cases n<;>rfl
 have E:ko n m e more p up=ko ac m e more p (up != n):=by unfold ko;rw[r]
 refine⟨E,λh v=>?_,λh=>?_⟩
 .have z:=IU.1 h;rw[r]at z;have x:∀ q u,ji (canon ac q u)=canon aa q u:=by
   intro q u;unfold canon ji;by_cases k:q=0
   .simp [k]
   .rw [bn k,bn k];have:=Hk k;have t:q/2^ky q≠0:= U ;simp[t]
  subst v;unfold kB;rw[r];by_cases o:nu m e more p (aa != up)=aa
  .have s:(aa != up)=ac:=by
    cases k:(aa != up)with
    |false=>rfl
    |true=>exact absurd ⟨o,k⟩ z
   rw[bt o,bt o,s];simp only[bS,bE];exact x _ _
  .rw [bn o,bn o];exact x _ _
 .rcases h with h|h
  .have y:nu m e more p (n != up)=aa/\(n != up)=aa:=by
    by_cases q:nu m e more p (n != up)=aa/\(n != up)=aa
    .exact q
    .exact absurd (IU.2<|by rw[r];exact q) h
   unfold kB;rw[r,bt y.1,bt y.2,bt y.1,bt y.2]
  .subst h;cases up<;>rfl
section
variable(a b:Dy)(p:Nat)
def jV:Int:=if a.iQ-b.iQ<=2 then min (min a.e<|a.iQ-p-8) b.e else min a.e (a.iQ-p-8)
def pK:Nat:=a.m*2^(a.e-jV a b p).toNat
def oz:Nat:=oB b (jV a b p)+if(a.neg != b.neg&&px b (jV a b p))=aa then 1 else 0
def rn:Bool:=(a.neg != b.neg)&&decide (pK a b p<oz a b p)
def oc:Nat:=if a.neg=b.neg then pK a b p+oz a b p else if pK a b p<oz a b p then oz a b p-pK a b p else pK a b p-oz a b p
def pB:Bool:=px b (jV a b p) && !rn a b p
def TX:jV a b p<=a.e/\jV a b p<=a.iQ-p-8/\(jV a b p<=b.e\/3<=a.iQ-b.iQ):=by
 unfold jV;split<;>omega
end
def K7{a:Dy}(h:a.m≠0):a.iQ=H a.m+a.e:=by unfold Dy.iQ;rw[bn h]
structure agb(a b:Dy)(p:Nat):Prop where
 lo:-17000<=jV a b p
 hi:jV a b p<=16384
 x:H (pK a b p)<=4100
 x0:pK a b p≠0
 sh:(a.e-jV a b p).toNat<=60000
 sh2:(b.e-jV a b p).toNat<=60000
 sh3:(jV a b p-b.e).toNat<=60000
 y:H (oB b<|jV a b p)<=4100
 l:px b (jV a b p)=true->p+8<=H (pK a b p)/\H (oB b<|jV a b p)+3<=H (pK a b p)
section
variable{a b:Dy}{p:Nat}(Q:a.iE)(P:b.iE)(T:a.m≠0)(R:b.m≠0)
section
variable(N:b.iQ<=a.iQ)(C:p<=512)
def OI:agb a b p:=by
 have r:=Q.range.resolve_left T;have s:=P.range.resolve_left R;have q:=K7 T;have n:=K7 R;have⟨x,y,z⟩:=TX a b p;have m:H (pK a b p)=H a.m+(a.e-jV a b p).toNat:=sO T _;have D:jV a b p=a.e\/jV a b p=a.iQ-p-8\/(a.iQ-b.iQ<=2/\jV a b p=b.e):=by unfold jV;split<;>omega
 have g:H (oB b<|jV a b p)<=H (pK a b p):=by
  unfold oB;split
  .rw [sO R];omega
  .have:H (b.m/2^(jV a b p-b.e).toNat)<=H b.m-(jV a b p-b.e).toNat:=by
    rw[mo,cC<|bG aG,<-bC];exact mo.1 U 
   omega
 have f:=oP T;have e:=oP R;refine⟨U,U,U,?_,U,U,U,U,λl=>?_⟩
 .intro h;unfold pK at h;exact(eo T<|eE<|bG aG) h
 .have⟨K,d,c,i,j,o,u,v,k⟩:=T8 (p:=p) T R x y z;rcases k with rfl|⟨k,t⟩
  .rw [v]at l;simp[dq]at l
  .rw [u];exact⟨k,t⟩
def Ux:
 H (oz a b p)<=4101/\H (oc a b p)<=4102/\(pB a b p=aa->p<H (oc a b p)):=by
 have⟨r,q,l,k,n,m,f,x,y⟩:=OI Q P T R N C;have e:oz a b p<=oB b (jV a b p)+1:=by unfold oz;split<;>omega
 obtain⟨K,z⟩:∃ K:Nat,K=4100:=⟨_,rfl⟩
 have g:4101=K+1:= U ;have u:4102=K+2:= U ;rw[g,u];rw[<-z]at l x;have v:oB b (jV a b p)<2^K:=mo.1 x;have t:pK a b p<2^K:=mo.1 l;have d:(2:Nat)^(K+1)=2*2^K:=by rw[bI];omega
 have c:(2:Nat)^(K+2)=4*2^K:=by rw[bC];omega
 generalize (2:Nat)^K=Z at *
 refine⟨mo.2 U,mo.2 ?_,λh=>?_⟩
 .unfold oc;split
  .omega
  .split<;>omega
 .unfold pB at h;simp only[bN,dN]at h;have⟨i,j⟩:=y h.1;have X:2^(H (pK a b p)-1)<=pK a b p:=uC k;rw[vC];have Y:oB b (jV a b p)<2^(H (pK a b p)-3):=mo.1 U;have o:(2:Nat)^(H (pK a b p)-1)=4*2^(H (pK a b p)-3):=by
   rw[(U:H (pK a b p)-1=(H (pK a b p)-3)+2),bC];omega
  have w:(2:Nat)^p<=2^(H (pK a b p)-3):=bR aG U;unfold oc;split
  .omega
  .rename_i s;unfold rn at h;rw[bn (by
    have:=h.2;simp[s]at this;omega)]
   omega
end
def ae9 up:
 (oc a b p=0/\pB a b p=ac->jl a b=kq) /\
 (¬(oc a b p=0/\pB a b p=ac)->kB (a.neg != rn a b p) (oc a b p) (jV a b p) (pB a b p) p up=jZ (jl a b) p up/\ko (a.neg != rn a b p) (oc a b p) (jV a b p) (pB a b p) p up=kg (jl a b) p up):=by
 have⟨u,v,t⟩:=TX a b p;by_cases s:a.neg=b.neg
 .have x:(a.neg != b.neg)=ac:=by rw[s];simp
  have e:rn a b p=ac:=by unfold rn;rw[x];rfl
  have y:pB a b p=px b (jV a b p):=by unfold pB;rw[e];simp
  have k:oc a b p=a.m*2^(a.e-jV a b p).toNat+oB b (jV a b p):=by unfold oc;rw[bt s];unfold pK oz;rw[x];simp
  have q:oc a b p≠0:=by
   rw[k];have:=eo T (eE<|bG (n:=(a.e-jV a b p).toNat)<|show 0<2 by decide);omega
  refine⟨λh=>absurd h.1 q,λ_=>?_⟩;rw[e,y,k];have:=ast Q.canon P.canon T R u v t s up;cases hA:a.neg<;>rw[hA]at this<;>exact this
 .have x:(a.neg != b.neg)=aa:=by simpa using s
  have Y:oz a b p=oB b (jV a b p)+if px b (jV a b p)=aa then 1 else 0:=by unfold oz;rw[x];simp
  have⟨r,z⟩:=ass (p:=p) Q.canon P.canon T R u v t s up;rw[<-Y]at r z;change pK a b p<oz a b p->_ at r;change oz a b p<=pK a b p->_ at z;by_cases c:pK a b p<oz a b p
  .have e:rn a b p=aa:=by unfold rn;rw[x,bu c];rfl
   have y:pB a b p=ac:=by unfold pB;rw[e];simp
   have k:oc a b p=oz a b p-pK a b p:=by unfold oc;rw[bn s,bt c]
   rw[e,y,k];refine⟨λh=> U,λ_=>?_⟩;have:=r c;cases hA:a.neg<;>rw[hA]at this<;>exact this
  .have e:rn a b p=ac:=by unfold rn;rw[x,bw c];rfl
   have y:pB a b p=px b (jV a b p):=by unfold pB;rw[e];simp
   have k:oc a b p=pK a b p-oz a b p:=by unfold oc;rw[bn s,bn c]
   rw[e,y,k];have⟨m,l⟩:=z U;refine⟨m,λh=>?_⟩;have:=l h;cases hA:a.neg<;>rw[hA]at this<;>exact this
end
end Go.Proofs.YthalchiobglflaaGreatDoor.Fp
namespace Go.Proofs.YthalchiobglflaaGreatDoor
open Go.RowKit Fp
def ahz a b:H (a*b)<=H a+H b:=by
 rw[mo,bC];exact awm (qW a)<|qW b
section
variable(a:Dy)(A:Option az)(c:Nat)(w:ap)(h:Sl w A c<|iy a.m)
def arP(x:a.iE):
 Calls prog 84 #[DV a A c] w λe w'=>e = .returned (.bool aa)/\jc w w':=
 Oh a.neg A c (iy a.m) a.e w aa h (by have:=x.exp;omega) (by have:=x.exp;omega) (by simp[x.Ab])
def arL:
 Calls prog 118 #[DV a A c] w λe w'=>e = .returned (.int .i64 a.jh)/\jc w w':=by
 have:=arK a.neg A c (iy a.m) a.e w h<|xq _;rw[kE]at this;exact this
def arO(x:yF a):
 Calls prog 142 #[DV a A c] w λe w'=>e = .returned (.int .i64 a.iQ)/\jc w w':=by
 have:=arN a.neg A c (iy a.m) a.e w h (xq _) (by have:=x.len;omega) (by have:=x.lo;omega) (by have:=x.hi;omega);rw[kE]at this;exact this
end
def aiM d A c w(s:Sl w A c<|iy d.m)(l:(iy d.m).length<=100000000)(G:-10000000<=d.e)(k:d.e<=10000000):
 Calls prog 240 #[DV d A c] w (BR w (nD d)<|oj d):=by
 by_cases h:oL d
 .rw [Dk h,IP h];exact Wv d A c w s l G k h
 .rw [PW h,L5 h];exact aiN d A c w s l G k h
section
variable(s:Bool)(m:Nat)(e:Int)
def BX{n}(x:(iy m).length<=n):(iy (canon s m e).m).length<=n/\e<=max (canon s m e).e e/\((canon s m e).e<=max 0 (e+32*n))/\min 0 e<=(canon s m e).e:=by
 unfold canon;by_cases h:m=0
 .rw [bt h];simp only[pj];exact⟨cj _,U,U,U⟩
 .rw [bn h];have k:ky m<32*n:=by
   have k:=Hp h;have y:=yg x;rw[pI]at y;exact(awJ (aG:1<2)).1<|cB k y
  exact⟨bF (nR<|b6 _ _) x,U,by simp only;omega,by simp only;omega⟩
def Wp A c w(h:Sl w A c<|iy m)(x:(iy m).length<=256)(l:-1000000<=e)(k:e<=1000000)(u:Tb w):
 Calls prog 90 #[.bool s,.slice A (iy m).length c,.int .i64 e] w (xx w<|canon s m e):=by
 have:=Mi s A c (iy m) e w h U (by have:=qQ<|iy m;unfold nB at this;omega) l k u;rw[kE]at this;exact this
end
def ab7{m}(h:m=0):(((iy m).length:Int)==0)=aa:=by rw[h,pj];rfl
def ap9{m}(h:m≠0):(((iy m).length:Int)==0)=ac:=by
 refine bd ?_;have:iy m≠[]:=λe=>h<|aaZ.1 e
 have:=fi.2 this;omega
def avH(a b:Dy)(A B:Option az)(c d:Nat)(w:ap)(_hs:Sl w A c<|iy a.m)(y:Sl w B d<|iy b.m)(u:Tb w)(x:b.iE)(z:a.m=0):
 Calls prog 290 #[DV a A c,DV b B d] w (BR w (nD<|jl a b)<|oj<|jl a b):=by
 have G:jl a b=b:=by unfold jl;rw[bt z]
 rw[G,Dk x.range,IP x.range];have l:=x.len;obtain⟨X,O⟩:=x.exp;have H:=J λw (h:Sl w B d<|iy b.m) (f:Tb w)=>Wp b.neg b.m b.e B d w h l U U f;rw[x.canon.EB]at H;have Y:=ab7 z;clear G z;have E:=((jc.alloc w<|.cells #[.bool b.neg,.slice B ((iy b.m).length) d,.int .i64 b.e] 31).trans<|jc.alloc (w.alloc<|.cells #[.bool b.neg,.slice B ((iy b.m).length) d,.int .i64 b.e] 31)<|.cells #[.bool b.neg,.slice B ((iy b.m).length) d,.int .i64 b.e] 31).trans<|jc.alloc ((w.alloc<|.cells #[.bool b.neg,.slice B ((iy b.m).length) d,.int .i64 b.e] 31).alloc<|.cells #[.bool b.neg,.slice B ((iy b.m).length) d,.int .i64 b.e] 31)<|.cells #[.bool ac,.slice am 0 0,.int .i64 0] 31;have v:=((kf.vG (W:=w) (g:=w.heap.size) aK b.neg B ((iy b.m).length) d b.e).alloc<|.cells #[.bool b.neg,.slice B ((iy b.m).length) d,.int .i64 b.e] 31).alloc<|.cells #[.bool ac,.slice am 0 0,.int .i64 0] 31;have t:=(kf.vG (W:=(w.alloc<|.cells #[.bool b.neg,.slice B ((iy b.m).length) d,.int .i64 b.e] 31)) (g:=w.heap.size+1) aK b.neg B ((iy b.m).length) d b.e).alloc<|.cells #[.bool ac,.slice am 0 0,.int .i64 0] 31;have k:=kf.vG (W:=((w.alloc<|.cells #[.bool b.neg,.slice B ((iy b.m).length) d,.int .i64 b.e] 31).alloc<|.cells #[.bool b.neg,.slice B ((iy b.m).length) d,.int .i64 b.e] 31)) (g:=w.heap.size+2) aK ac am 0 0 0;replace y:=y.below E;replace u:=u.below E;go_enter func290,ntmps290;go_wp2_with fail
 (with_reducible refine(H.out _ y u).mono ?_)
 rintro r Z ⟨s,q,rfl,e,x⟩;replace E:=E.trans x;replace y:=y.below x;replace u:=u.below x;replace v:=v.ext x;replace t:=t.ext x;replace k:=k.ext x;clear x;have i:=k.c0;have p:=k.fr 0;have j:=k.c1;have n:=k.fr 1;have o:=k.c2;have m:=k.fr 2;go_wp2;exact Gy (d:=b) rfl rfl rfl rfl (k.set _ _ _ _ _) rfl (k.wG e _ _ _ _ _) (kf.vK E U _ _ _ _ _)
def ajW a A c w(h:Sl w A c<|iy a.m)(x:a.iE):
 Calls prog 162 #[DV a A c] w λe w'=>e = .returned (.int .i64 a.iQ)/\jc w w':=by
 have:=Qe a.neg A c (iy a.m) a.e w h x.Ab;rw[kE]at this;exact this
set_option maxRecDepth 100000 in
set_option maxHeartbeats 8000000 in
def ajT(a : Dy)(A : Option az)(c : Nat)(w : ap)(hs : Sl w A c<|iy a.m)(ha : a.iE):
    Calls prog 93 #[DV a A c] w (xx w<|ji a) := by
  have HV := J λw (h : Sl w A c<|iy a.m) => Xy a A c w h ha;have hl := ha.len;by_cases h0 : a.m=0
  . have hz : Hid<|ji a=kq := by
      show ji a=kq;obtain⟨s,m,e⟩ := a;rcases ha.canon with⟨h1,h2,h3⟩|h1
      . simp only at h1 h2 h3;subst h1 h2 h3;rfl
      . simp only at h0 h1;omega
    have n0 := ab7 h0;clear h0;have hE := (jc.alloc w<|.cells #[.bool a.neg,.slice A ((iy a.m).length) c,.int .i64 a.e] 31).trans<|jc.alloc (w.alloc<|.cells #[.bool a.neg,.slice A ((iy a.m).length) c,.int .i64 a.e] 31)<|.cells #[.bool ac,.slice am 0 0,.int .i64 0] 31;have b1 := (kf.vG (W := w) (g := w.heap.size) aK a.neg A ((iy a.m).length) c a.e).alloc<|.cells #[.bool ac,.slice am 0 0,.int .i64 0] 31;have b2 := kf.vG (W := (w.alloc<|.cells #[.bool a.neg,.slice A ((iy a.m).length) c,.int .i64 a.e] 31)) (g := w.heap.size+1) aK ac am 0 0 0;replace hs := hs.below hE;go_enter func93,ntmps93;go_wp2_with fail
    (with_reducible refine(HV.out _ hs).mono ?_)
    rintro r w1 ⟨rfl,hb⟩;replace hE := hE.trans hb;replace hs := hs.below hb;replace b1 := b1.ext hb;replace b2 := b2.ext hb;clear hb;have O7 := b1.c0;have O8 := b1.c1;have O9 := b1.c2;have av9 := b2.c0;have yb20 := b2.fr 0;have awa := b2.c1;have yb21 := b2.fr 1;have awb := b2.c2;have yb22 := b2.fr 2;go_wp2;rw[hz.out];exact vX (d := kq) rfl rfl rfl (b2.set _ _ _ _ _) (by rw[show kq.m=0 from rfl,pj];rfl) (by rw[show kq.m=0 from rfl,pj];exact Sl.nil _) (kf.vK hE U _ _ _ _ _)
  . have n0 := ap9 h0
    have HN := J (show ji a=⟨!a.neg,a.m,a.e⟩by unfold ji;simp[h0]);have HC := J λw (h : Sl w A c<|iy a.m) => PZ A c (iy a.m) w h U;clear h0;have hE := (jc.alloc w<|.cells #[.bool a.neg,.slice A ((iy a.m).length) c,.int .i64 a.e] 31).trans<|jc.alloc (w.alloc<|.cells #[.bool a.neg,.slice A ((iy a.m).length) c,.int .i64 a.e] 31)<|.cells #[.bool ac,.slice am 0 0,.int .i64 0] 31;have b1 := (kf.vG (W := w) (g := w.heap.size) aK a.neg A ((iy a.m).length) c a.e).alloc<|.cells #[.bool ac,.slice am 0 0,.int .i64 0] 31;have b2 := kf.vG (W := (w.alloc<|.cells #[.bool a.neg,.slice A ((iy a.m).length) c,.int .i64 a.e] 31)) (g := w.heap.size+1) aK ac am 0 0 0;replace hs := hs.below hE;go_enter func93,ntmps93;go_wp2_with fail
    (with_reducible refine(HV.out _ hs).mono ?_)
    rintro r w1 ⟨rfl,hb⟩;replace hE := hE.trans hb;replace hs := hs.below hb;replace b1 := b1.ext hb;replace b2 := b2.ext hb;clear hb;have O7 := b1.c0;have O8 := b1.c1;have O9 := b1.c2;clear O7 O8 O9;have O7 := b1.c0;have O8 := b1.c1;have O9 := b1.c2;go_wp2_with fail;clear O7 O8 O9;replace hs := hs.drew;replace b1 := b1.drew;replace b2 := b2.drew;replace hE := hE.trans<|jc.drew _;go_region_held3 (λw' => w'.cell? ⟨w.heap.size,0,am⟩=al (.bool a.neg)/\w'.cell? ⟨w.heap.size,1,am⟩=al (.slice A ((iy a.m).length) c)/\w'.cell? ⟨w.heap.size,2,am⟩=al (.int .i64 a.e))
      (first|with_reducible exact⟨(b1).c0,(b1).c1,(b1).c2⟩|with_reducible exact⟨(b1.ext re).c0,(b1.ext re).c1,(b1.ext re).c2⟩|with_reducible exact⟨((b1.ext re).Qz (g' := w.heap.size+1) U _ _ _).c0,((b1.ext re).Qz (g' := w.heap.size+1) U _ _ _).c1,((b1.ext re).Qz (g' := w.heap.size+1) U _ _ _).c2⟩)
      (first
        | (go_at_call 157
           (with_reducible refine(HC.out _ hs).mono ?_)
           rintro r wx0 ⟨A_h4,c_h4,rfl,h4,re⟩;have bz := b2.ext re;have z0 := bz.c0;have z1 := bz.c1;have z2 := bz.c2;have y0 := bz.fr 0;have y1 := bz.fr 1;have y2 := bz.fr 2))
    replace hE := hE.trans re;replace hs := hs.below re;replace b1 := b1.ext re;replace b2 := b2.ext re;go_wp2;rw[HN.out];exact vX (d := ⟨!a.neg,a.m,a.e⟩) rfl rfl rfl (bz.set _ _ _ _ _) rfl (bz.wG h4 _ _ _ _ _) (kf.vK hE U _ _ _ _ _)
open Pu
section
variable {f:FuncId} {L M:List Nat} {j:E}
def Kw(k:je L)(x:∀ (vs:Array av) (w:ap),(callFunc f vs).run prog w = .ok (.enter f vs) w){R:Option az->Nat->ap->Ending->ap->Prop}(H:∀ A c w,Sl w A c L->Tb w->Calls prog f #[.slice A L.length c] w (R A c w))(y:∀ (A:Option az) (c:Nat) (B:Nat->Nat->Prop) w e w',Sl w A c L->(∀ b o,B b o->b<w.heap.size/\pR w b)->R A c w e w'->∃ v,e = .returned v/\Below w.heap.size w w'/\z B (λ_=>True) w' j v):iB f [F L] j:=by
 refine⟨x,λw B vs K q r=>?_⟩;obtain⟨t,vs,rfl,u,r⟩:=r.nm;obtain rfl:=r.sj;obtain⟨A,c,rfl,s⟩:=yr k u;exact(H A c w s K).mono λe w' h=>y A c B w e w' s q h
def Kx(k:je L){n}(x:∀ (vs:Array av) (w:ap),(callFunc f vs).run prog w = .ok (.enter f vs) w){R:Option az->Nat->ap->Ending->ap->Prop}(H:∀ A c w,Sl w A c L->Tb w->Calls prog f #[.slice A L.length c,.int .i64 n] w (R A c w))(y:∀ (A:Option az) (c:Nat) (B:Nat->Nat->Prop) w e w',Sl w A c L->(∀ b o,B b o->b<w.heap.size/\pR w b)->R A c w e w'->∃ v,e = .returned v/\Below w.heap.size w w'/\z B (λ_=>True) w' j v):iB f [F L,D n] j:=by
 refine⟨x,λw B vs K m r=>?_⟩;obtain⟨q,vs,rfl,u,r⟩:=r.nm;obtain⟨p,vs,rfl,t,r⟩:=r.nm;obtain rfl:=r.sj;obtain rfl:=z.lr t;obtain⟨A,c,rfl,s⟩:=yr k u;exact(H A c w s K).mono λe w' h=>y A c B w e w' s m h
def D5(k:je L)(m:je M)(x:∀ (vs:Array av) (w:ap),(callFunc f vs).run prog w = .ok (.enter f vs) w){R:ap->Ending->ap->Prop}(H:∀ A c B d w,Sl w A c L->Sl w B d M->Tb w->Calls prog f #[.slice A L.length c,.slice B M.length d] w (R w))(y:∀ (B:Nat->Nat->Prop) w e w',(∀ b o,B b o->b<w.heap.size/\pR w b)->R w e w'->∃ v,e = .returned v/\Below w.heap.size w w'/\z B (λ_=>True) w' j v):iB f [F L,F M] j:=by
 refine⟨x,λw B vs K g r=>?_⟩;obtain⟨n,vs,rfl,u,r⟩:=r.nm;obtain⟨l,vs,rfl,t,r⟩:=r.nm;obtain rfl:=r.sj;obtain⟨A,c,rfl,s⟩:=yr k u;obtain⟨q,d,rfl,p⟩:=yr m t;exact(H A c q d w s p K).mono λe w' h=>y B w e w' g h
end
def KO{L n}B w e w'(k:∀ b o,B b o->b<w.heap.size/\pR w b)(h:Ga w L n e w'):∃ v,e = .returned v/\Below w.heap.size w w'/\z B (λ_=>True) w' (.iO [F L,D n]) v:=
 let⟨_,_,y,u,x⟩:=h
 ⟨_,y,x,lf.iO<|.cons (BK k x u)<|.cons (.v _)<|.nil _ _ _⟩
def rl{L}B w e w'(k:∀ b o,B b o->b<w.heap.size/\pR w b)(h:vQ w L e w'):∃ v,e = .returned v/\Below w.heap.size w w'/\z B (λ_=>True) w' (F L) v:=
 let⟨_,_,y,u,x⟩:=h
 ⟨_,y,x,BK k x u⟩
section
variable(L:List Nat)(u:je L)
def xi:iB 216 [F L]<|F<|iM L:=
 Kw u call216 (λA c w h _=>yi A c L w h) λA c B w e z h x ⟨k,y⟩=>by subst y;exact⟨_,k,Below.refl _ _,BK x (Below.refl _ _) h.xp⟩
def abM(l:(iM L).length<=256):iB 214 [F L]<|.iO [F<|iM L,D 0]:=
 Kw u call214 (λA c w h _=>Kl A c L w h l) λA c B w e x h k r=>KO B w e x k r
def aoF(l:L.length<=100000):iB 237 [F L]<|D<|H<|val L:=
 Kw u call237 (λA c w h _=>abL A c L w h U) λA c B w e y h z ⟨x,k⟩=>by subst k;exact⟨_,x,Below.refl _ _,.v _⟩
end
def SR L M(x:je L)(m:je M)(l:L.length<=100000)(p:M.length<=100000):iB 194 [F L,F M]<|D<|kT (val L)<|val M:=
 D5 x m call194 (λA c B d w h k _=>NL A B c d L M w h k U U) rv
section
variable(m n:Nat)(l:(iy m).length<=256)(y:n<=65536)
def SW(f:(iy<|m*2^n).length<=256):iB 247 [F<|iy m,D (n:Int)]<|.iO [F<|iy<|m*2^n,D 0]:=
 Kx (lW m) call247 (λA c w h _=>abP A c (iy m) n w h l y<|by rw[kE];exact f) λA c B w e x h k r=>by rw[kE]at r;exact KO B w e x k r
def SX:iB 155 [F<|iy m,D (n:Int)]<|.iO [F<|iy<|m/2^n,D 0]:=
 Kx (lW m) call155 (λA c w h _=>abR A c (iy m) n w h l y) λA c B w e x h k r=>by rw[kE]at r;exact KO B w e x k r
end
section
variable(m n:Nat)(x:(iy m).length<=256)(y:(iy n).length<=256)
def Kk(f:(iy<|m+n).length<=256):iB 223 [F<|iy m,F<|iy n]<|.iO [F<|iy<|m+n,D 0]:=by
 refine D5 (lW m) (lW n) call223 (λA c B d w h k _=>aoE A B c d (iy m) (iy n) w h k x y<|by rw[kE,kE];exact f) ?_;rw[kE,kE];exact KO
def FD(f:n<=m:=by omega):iB 224 [F<|iy m,F<|iy n]<|.iO [F<|iy<|m-n,D 0]:=by
 refine D5 (lW m) (lW n) call224 (λA c B d w h k _=>aoP A B c d (iy m) (iy n) w h k x y<|by rw[kE,kE];exact f) ?_;rw[kE,kE];exact KO
end
def vE m(h:(iy m).length<=100000:=by omega):iB 237 [F<|iy m]<|D<|H m:=by
 have:=aoF (iy m) (lW m) h;rwa[kE]at this
def Bu m n(h:(iy m).length<=100000:=by omega)(p:(iy n).length<=100000:=by omega):iB 194 [F<|iy m,F<|iy n]<|D<|kT m n:=by
 have:=SR (iy m) (iy n) (lW m) (lW n) h p;rwa[kE,kE]at this
def AX a(x:a.iE):iB 93 [iJ a]<|iJ<|ji a:=BB call93 (λA c w h _=>ajT a A c w h x) rd
def pN a(x:a.iE):iB 162 [iJ a]<|D a.iQ:=BB call162 (λA c w h _=>ajW a A c w h x) rv
def EG s m e(l:(iy m).length<=256)(G:-32768<=e)(k:e<=32768)(d:oL<|canon s m e):iB 273 [I s,F<|iy m,D e]<|.iO [iJ<|canon s m e,D 0]:=by
 refine⟨call273,λw B v K x r=>?_⟩;obtain⟨p,v,rfl,y,r⟩:=r.nm;obtain⟨n,v,rfl,f,r⟩:=r.nm;obtain⟨g,v,rfl,u,r⟩:=r.nm;obtain rfl:=r.sj;obtain rfl:=z.lr y;obtain rfl:=z.lr u;obtain⟨A,c,rfl,t⟩:=yr (lW m) f;have:=aoo s A c (iy m) e w t l G k K (by rw[kE];exact d);rw[kE]at this;exact this.mono λe q h=>TM B w e q x h
def uR:E.le (.sl ac 1 1 λi j=>[E.v<|.int .u32 1].getD (i*1+j)<|.v<|.bool ac)<|F<|iy 1:=by
 have e:iy 1=[1]:=by rw[CA aG,show 1/4294967296=0 by decide,pj]
 rw[e];refine .sl λi j h x=>?_
 obtain rfl:i=0:= U ;obtain rfl:j=0:= U ;exact⟨.refl _,rfl⟩
def lh(d:Dy):List E:=[I d.neg,F<|iy d.m,D d.e]
def Gz(l:List Dy):E:=.sl aa l.length 3 λi j=>(lh<|l.getD i kq).getD j .any
def Qg a:E.le (.sl aa 1 3 λi j=>[I a.neg,F<|iy a.m,D a.e].getD (i*3+j)<|.v<|.bool ac)<|Gz [a]:=.sl λi j h x=>by
 obtain rfl:i=0:= U ;rcases j with _|_|_|j
 .exact ⟨.refl _,rfl⟩
 .exact ⟨.refl _,rfl⟩
 .exact ⟨.refl _,rfl⟩
 .omega
def Ac a b:E.le (.sl aa 2 3 λi j=>[I a.neg,F<|iy a.m,D a.e,I b.neg,F<|iy b.m,D b.e].getD (i*3+j)<|.v<|.bool ac)<|Gz [a,b]:=.sl λi j h x=>by
 obtain rfl|rfl:i=0\/i=1:= U 
 all_goals
  rcases j with _|_|_|j
  .exact ⟨.refl _,rfl⟩
  .exact ⟨.refl _,rfl⟩
  .exact ⟨.refl _,rfl⟩
  .omega
def oo{n:Nat}(h:n≠0):((n:Int)==0)=ac:= aS 
def tS{n:Nat}(h:n=0):((n:Int)==0)=aa:=by subst h;rfl
def FC{n:Nat}(h:n=0):((n:Int) != 0)=ac:=by subst h;rfl
def Km{n:Nat}(h:n≠0):((n:Int) != 0)=aa:= aS 
def sF{m}:(iy m).length=0↔m=0:=by rw[aws,aaZ]
def qg{m}(h:m≠0):(iy m).length≠0:=λq=>h<|sF.1 q
def Fp.Dy.iE.iy{d:Dy}(h:d.iE):(iy d.m).length<=256:=by have:=h.len;omega
end Go.Proofs.YthalchiobglflaaGreatDoor
namespace Go.Proofs.YthalchiobglflaaGreatDoor.Fp
structure Iv where
 lo:Dy
 hi:Dy
 all:Bool
def L:Iv:=⟨kq,kq,aa⟩
def Iv.iE(x:Iv):Prop:=(x.all=aa/\x.lo=kq/\x.hi=kq)\/(x.all=ac/\x.lo.iE/\x.hi.iE/\jQ x.lo x.hi<=0)
def np:L.iE:=.inl ⟨rfl,rfl,rfl⟩
def mc(l:Dy)(e:Int)(h:Dy)(f:Int):Iv:=if e≠0\/f≠0 then L else⟨l,h,ac⟩
def ml(a b:Dy):Dy:=canon (a.neg != b.neg) (a.m*b.m)<|a.e+b.e
def oF(x:Iv):Iv:=if x.all then L else⟨ji x.hi,ji x.lo,ac⟩
def jN(x y:Iv)(p:Nat):Iv:=
 if x.all||y.all then L else mc (jZ (jl x.lo y.lo) p ac) (kg (jl x.lo y.lo) p ac) (jZ (jl x.hi y.hi) p aa) (kg (jl x.hi y.hi) p aa)
def qy(x y:Iv)(p:Nat):Iv:=jN x (oF y) p
def aiR{x y}:z8 x y<=0↔x<=y:=by
 unfold z8;split
 .constructor<;>intro<;>omega
 .split<;>constructor<;>intro<;>omega
def qd{a b k}(h:pM a k)(x:pM b k):jQ a b<=0↔a.num k<=b.num k:=by rw[Gr h x,aiR]
def le_trans{a b c}(z:jQ a b<=0)(u:jQ b c<=0):jQ a c<=0:=by
 obtain⟨k,h,x,y⟩:∃ k:Int,k<=a.e/\k<=b.e/\k<=c.e:=⟨min a.e<|min b.e c.e,U,U,U⟩
 rw[qd (.inr h)<|.inr x]at z;rw[qd (.inr x)<|.inr y]at u;rw[qd (.inr h)<|.inr y];omega
def Cz a:jQ a a<=0:=by rw[qd (k:=a.e) (.inr<|cL _)<|.inr<|cL _];exact cL _
def anK a b:jQ a b<=0\/jQ b a<=0:=by
 obtain⟨k,h,x⟩:∃ k:Int,k<=a.e/\k<=b.e:=⟨min a.e b.e,U,U⟩
 rw[qd (.inr h)<|.inr x,qd (.inr x)<|.inr h];omega
def ao1{a b}(h:jQ a b<=0):jQ (ji b) (ji a)<=0:=by
 obtain⟨k,x,y⟩:∃ k:Int,k<=a.e/\k<=b.e:=⟨min a.e b.e,U,U⟩
 rw[qd (.inr x)<|.inr y]at h;rw[qd (k:=k) (IB<|.inr y)<|IB<|.inr x,Kp,Kp];omega
def aub{a b c d}(u:jQ a b<=0)(v:jQ c d<=0):jQ (jl a c) (jl b d)<=0:=by
 obtain⟨k,h,x,y,z⟩:∃ k:Int,k<=a.e/\k<=b.e/\k<=c.e/\k<=d.e:=⟨min (min a.e b.e)<|min c.e d.e,U,U,U,U⟩
 rw[qd (.inr h)<|.inr x]at u;rw[qd (.inr y)<|.inr z]at v;rw[qd (k:=k) (Lr (.inr h)<|.inr y)<|Lr (.inr x)<|.inr z,OG (.inr h)<|.inr y,OG (.inr x)<|.inr z];omega
def L9 m e p:
 lX m e ac p ac*2^jH m e p<=m/\m<=lX m e ac p aa*2^jH m e p:=by
 have h:=cH m<|2^jH m e p;have r:=bO m<|bG (n:=jH m e p) (aG:0<2);unfold lX;simp only[bS,gz,bE,bV,false_or,ib];rw[bL];generalize m/2^jH m e p=q at *
 generalize 2^jH m e p=P at *
 refine⟨U,?_⟩;rw[bT,bL q];split
 .omega
 .omega
def PK{s m n e f K}(x:K<=e)(k:K<=f)(h:m*2^(e-K).toNat<=n*2^(f-K).toNat):
 (s=ac->jQ (canon s m e) (canon s n f)<=0)/\(s=aa->jQ (canon s n f) (canon s m e)<=0):=by
 constructor
 .rintro rfl;rw[qd (C9 x)<|C9 k,ace x,ace k]
  exact_mod_cast h
 .rintro rfl;rw[qd (C9 k)<|C9 x,FF x,FF k];simp only[bK];omega
def W9 x m e p up(k:ko x m e ac p up=0)(_hp:1<=p):
 (up=aa->jQ (canon x m e) (kB x m e ac p up)<=0)/\(up=ac->jQ (kB x m e ac p up) (canon x m e)<=0):=by
 rw[IU]at k;have⟨c,q⟩:=L9 m e p;have y:(e-e).toNat=0:= U ;have z:(e+(jH m e p:Int)-e).toNat=jH m e p:= U ;have u:e<=e+(jH m e p:Int):= U ;have A:=λs:Bool=>PK (s:=s) (m:=lX m e ac p ac) (n:=m) (e:=e+jH m e p) (f:=e) (K:=e) u (cL _)<|by rw[y,z];simpa using c
 have B:=λs:Bool=>PK (s:=s) (m:=m) (n:=lX m e ac p aa) (e:=e) (f:=e+jH m e p) (K:=e) (cL _) u<|by rw[y,z];simpa using q
 unfold kB;by_cases o:nu m e ac p (x != up)=aa
 .have v:¬(x != up)=aa:=λh=>k ⟨o,h⟩
  rw[bt o,bn v];have Z:x=up:=by cases x<;>cases up<;>simp at v ⊢
  have l:(x != up)=ac:=by rw[Z];simp
  rw[l]at o;unfold nu at o;simp only[bN,cK]at o;have⟨t,i⟩:=o;have g:=uC t;have j:=oP t;obtain⟨K,d,b⟩:∃ K:Int,K<=e/\K<=16384-p:=⟨min e<|16384-p,U,U⟩
  have C:(2^p-1)*2^((16384:Int)-p-K).toNat<=m*2^(e-K).toNat:=by
   have a:2^(H (lX m e ac p ac)-1)*2^jH m e p<=m:=bF (bX _ g) c;have r:=bX (2^(e-K).toNat) a;rw[<-bC,<-bC]at r;refine bF (bX _<|dY _ _)<|bF ?_ r;rw[<-bC];exact bR aG U 
  have D:=PK (s:=x) b d C;subst Z;cases x
  .exact ⟨λh=>absurd h aG,λ_=>D.1 rfl⟩
  .exact ⟨λ_=>D.2 rfl,λh=>absurd h aG⟩
 .rw [bn o];cases x<;>cases up
  .exact ⟨λh=>absurd h aG,λ_=>(A ac).1 rfl⟩
  .exact ⟨λ_=>(B ac).1 rfl,λh=>absurd h aG⟩
  .exact ⟨λh=>absurd h aG,λ_=>(B aa).2 rfl⟩
  .exact ⟨λ_=>(A aa).2 rfl,λh=>absurd h aG⟩
def adL{d}(k:d.nj)p(x:1<=p):
 (kg d p aa=0->jQ d (jZ d p aa)<=0)/\(kg d p ac=0->jQ (jZ d p ac) d<=0):=by
 have h:=k.EB;constructor
 .intro e;have:=(W9 d.neg d.m d.e p aa e x).1 rfl;rwa[h]at this
 .intro e;have:=(W9 d.neg d.m d.e p ac e x).2 rfl;rwa[h]at this
def sN{x y}(u:x.iE)(v:y.iE){p}(k:1<=p)(i:p<=4096):(jN x y p).iE:=by
 unfold jN;rcases u with⟨h,_⟩|⟨z,t,s,r⟩
 .rw [h];exact np
 .rcases v with⟨h,_⟩|⟨q,n,m,l⟩
  .rw [h,z];exact np
  .rw [z,q];simp only[awt,bS,bE];unfold mc;by_cases e:kg (jl x.lo y.lo) p ac≠0\/kg (jl x.hi y.hi) p aa≠0
   .rw [bt e];exact np
   .rw [bn e];have g:kg (jl x.lo y.lo) p ac=0:= U ;have f:kg (jl x.hi y.hi) p aa=0:= U ;refine .inr ⟨rfl,nV _ _ _ _ _ _ k i,nV _ _ _ _ _ _ k i,?_⟩;exact le_trans ((adL (EC t.canon n.canon) p k).2 g)<|le_trans (aub r l)<|(adL (EC s.canon m.canon) p k).1 f
def DY{x}(k:x.iE):(oF x).iE:=by
 unfold oF;rcases k with⟨h,_⟩|⟨y,z,u,v⟩
 .rw [bt h];exact np
 .rw [y];exact .inr ⟨rfl,sT u,sT z,ao1 v⟩
end Go.Proofs.YthalchiobglflaaGreatDoor.Fp
