/- Lemmas that the last file uses. -/
import Derived.Test.YtgdahmmlddfimaaGreatDoorM01
import Derived.Deep.DeepCutAuto
import Derived.Deep.Slices
import Derived.Carry
set_option linter.unusedSimpArgs false
set_option linter.unusedVariables false
set_option linter.defProp false
set_option maxHeartbeats 4000000
open Go.Proofs.Tryz
namespace Go.Proofs.YtgdahmmlddfimaaGreatDoor.Pu
open Go.RowKit
def agn{l:List Operand}{t:Tmp}(h:Operand.tmp t ∈ l):t ∈ ES l:=by
 induction l with
 |nil=>simp at h
 |cons x l ih=>
  rcases dw.1 h with h|h
  .subst h;simp[ES]
  .have:=ih h;cases x<;>simp[ES,this]
def aef{l:List Nat}{n:Nat}:MG l n=true↔n ∈ l:=by
 unfold MG;rw[eB];constructor
 .rintro ⟨x,hx,hb⟩;have:=kS.1 hb;subst this;exact hx
 .intro h;exact⟨n,h,cJ n⟩
def En{l:List Nat}{d:Option Nat}(h:xD l d=true){x:Nat}(hx:d=some x):x ∉ l:=by
 subst hx;simp only[xD,ev]at h;intro hm;rw[aef.2 hm]at h;cases h
def EU{a b:Option Nat}(h:KB a b=true){x y:Nat}(hx:a=some x)(hy:b=some y):x≠y:=by
 subst hx hy;simp only[KB,ev]at h;intro e;rw[kS.2 e]at h;cases h
def EX{f:mq}(hf:f.xv=false)(p:PV):p.kX f=if zV f p then p else .e .any:=by
 cases f<;>first|(cases hf;done)|skip
 all_goals (cases p<;>simp only[PV.kX,zV,bL])
 all_goals (split<;>rename_i h<;>simp[h])
def NJ{f:mq}(hf:f.xv=false){p:PV}(h:zV f p=true):p.kX f=p:=by rw[EX hf,bw h]
def afv(f:mq):zV f (.e .any)=true:=by cases f<;>rfl
def alz(p:PV){f g:mq}(hf:f.xv=false)(hg:g.xv=false):(p.kX f).kX g=(p.kX g).kX f:=by
 rw[EX hf p,EX hg p];cases h1:zV f p<;>cases h2:zV g p<;>simp only[bL,bM,bE,EX hf,EX hg,afv,h1,h2]
structure sn(σ τ:PS):Prop where
 n:σ.n=τ.n
 nl:σ.nl=τ.nl
 get:∀ t,σ.get t=τ.get t
 bo:∀ id,σ.bo id=τ.bo id
def sn.refl(σ:PS):sn σ σ:=⟨rfl,rfl,λ_=>rfl,λ_=>rfl⟩
def sn.symm{σ τ:PS}(h:sn σ τ):sn τ σ:=⟨h.n.symm,h.nl.symm,λt=>(h.get t).symm,λi=>(h.bo i).symm⟩
def sn.trans{σ τ υ:PS}(h:sn σ τ)(k:sn τ υ):sn σ υ:=⟨h.n.trans k.n,h.nl.trans k.nl,λt=>(h.get t).trans (k.get t),λi=>(h.bo i).trans (k.bo i)⟩
def jq.qJ{w0:World}{B:Nat->Prop}{σ τ:PS}{a:Act}{w:World}{L:Lk}(r:jq w0 B σ a w L)(h:sn σ τ):jq w0 B τ a w L:=
 ⟨r.hd,r.hs.trans h.n,λt=>by rw[<-h.get];exact r.ht t,λid b hb=>r.hb id b (by rw[h.bo];exact hb),λid=>by rw[<-h.bo];exact r.hv id,r.hn,r.hw,r.hi,r.he,λhn id b hb=>r.hl (by rw[h.nl];exact hn) id b (by rw[h.bo];exact hb)⟩
def AH(σ:PS)(f:mq)(id:Nat):(σ.om f).bo id=match f with
 | .none=>σ.bo id
 | .new i b | .rP i b | .pE i b | .sP i b | .wP i b=>if i=id then some b else(σ.bo id).map (Bx.qT (PV.kX f))
 | .fin i=>if i=id then none else(σ.bo id).map (Bx.qT (PV.kX f))
 | .oK i r b=>if i=id then some b else if r=id then none else(σ.bo id).map (Bx.qT (PV.kX f)):=by
 have key:=PS.AI σ f id;cases f with
 |none=>rfl
 |fin i=>
  show look ((σ.pre (.fin i)).filter λx=>!Nat.beq x.1 i) id=_;rw[CN,key]
 |oK i r b=>
  show look (uh ((σ.pre (.oK i r b)).filter λx=>!Nat.beq x.1 r) i b) id=_;rw[CO,CN,key]
 |_=>exact(CO _ _ _ _).trans (by rw[key])
def aly{f:mq}{p:PV}(hv:f.vX=true)(h:(p.kW.any λr=>f.zP.any λi=>Nat.beq i r)=false):p.kX f=p:=by
 cases f with
 |none=>cases hv
 |new=>cases hv
 |rP=>cases hv
 |pE i b=>exact YH (by simpa[mq.zP]using h)
 |sP i b=>
  have h':p.kW.any (Nat.beq i)=false:=by simpa[mq.zP]using h
  cases p with
  |iU j k=>
   have:Nat.beq j i=false:=by
    simp only[PV.kW,ef,fB,eW]at h';exact dc λe=>by rw[e,cJ]at h';cases h'
   simp[PV.kX,this]
  |qS j s k x y=>
   have:Nat.beq j i=false:=by
    simp only[PV.kW,ef,fB,eW]at h';exact dc λe=>by rw[e,cJ]at h';cases h'
   simp[PV.kX,this]
  |_=>rfl
 |fin i=>
  have h':p.kW.any (Nat.beq i)=false:=by simpa[mq.zP]using h
  cases p<;>(simp only[PV.kX];rw[h'];rfl)
 |wP i b=>
  have h':p.kW.any (Nat.beq i)=false:=by simpa[mq.zP]using h
  cases p<;>(simp only[PV.kX];rw[h'];rfl)
 |oK i r b=>exact PL (by simpa[mq.zP]using h)
def aew{f:mq}{b:Bx}(h:b.pd f=false):b.qT (PV.kX f)=b:=by
 refine Vl λp hp=>?_
 by_cases hv:f.vX=true
 .refine aly hv ?_;unfold Bx.pd at h;rw[hv,e9]at h;rw[df]at h ⊢;intro r hr;exact h r (dH.2 ⟨p,hp,hr⟩)
 .exact YJ (by simpa using hv) p
def af9{α:Type}{l:List (Nat×α)}{t:Nat}{x:α}(h:look l t=some x):(t,x) ∈ l:=by
 induction l with
 |nil=>cases h
 |cons y l ih=>
  obtain⟨k,z⟩:=y;rw[s9]at h;split at h
  .rename_i e;cases h;subst e;exact .head _
  .exact .tail _ (ih h)
def zB{σ:PS}{f:mq}:σ.pd f=false↔∀ id b,σ.bo id=some b->b.pd f=false:=by
 unfold PS.pd;by_cases hv:f.vX=true
 .rw [hv,e9];constructor
  .intro h id b hb;have:=df.1 h (id,b) (af9 hb);simpa[hb]using this
  .intro h;rw[df];intro x hx;split
   .rename_i b hb;rw[h _ _ hb];simp
   .simp
 .have TR:f.vX=false:=by simpa using hv
  rw[TR,Bool.false_and];exact⟨λ_ id b _=>by unfold Bx.pd;rw[TR];rfl,λ_=>rfl⟩
def aev{σ τ:PS}(h:∀ id,σ.bo id=τ.bo id)(f:mq):τ.pd f=σ.pd f:=by
 cases h1:σ.pd f with
 |false=>exact zB.2 λid b hb=>zB.1 h1 id b (by rw[h];exact hb)
 |true=>
  cases h2:τ.pd f with
  |true=>rfl
  |false=>rw[zB.2 λid b hb=>zB.1 h2 id b (by rw[<-h];exact hb)]at h1;cases h1
def FL(σ:PS)(d:Option Tmp)(u:kC)(t:Nat):(σ.app d u).get t=if d=some t then u.r else(σ.get t).kX u.f:=by
 unfold PS.app;cases d with
 |none=>
  rw[bu aH];exact PS.Cf σ u.f t
 |some d=>
  rw[PS.Mh,PS.Cf];simp only[bK]
def AG(σ:PS)(d:Option Tmp)(u:kC)(id:Nat):(σ.app d u).bo id=(σ.om u.f).bo id:=PS.aax _ _ _ _
def GB(σ:PS)(d:Option Tmp)(u:kC):(σ.app d u).n=σ.n:=by unfold PS.app;rw[PS.N6];rfl
def GG(σ:PS)(d:Option Tmp)(u:kC):(σ.app d u).nl=σ.nl:=by unfold PS.app;rw[PS.agY];rfl
def wa(σ:PS)(d:Option Tmp)(u:kC)(id:Nat)(hm:u.f.xv=false)(hh:σ.pd u.f=false)(h:u.f.id≠some id):(σ.app d u).bo id=σ.bo id:=by
 have e:(σ.bo id).map (Bx.qT (PV.kX u.f))=σ.bo id:=by
  cases hb:σ.bo id with
  |none=>rfl
  |some b=>simp only[cK];rw[aew (zB.1 hh id b hb)]
 rw[AG,AH];cases hf:u.f<;>rw[hf]at h hm e<;>simp only[mq.id,dv,bK]at h<;>first|rfl|exact(bu h).trans e|cases hm
def Om{σ τ:PS}{f:mq}(h:∀ id,f.id=some id->σ.bo id=τ.bo id):τ.xE f=σ.xE f:=by
 unfold PS.xE;split
 .rename_i i hi;rw[h i hi]
 .rfl
section
variable {P:Program} {K:World->Prop} {T:List TI} {O:qy} {il:Array Oper} {σ τ:PS} {o:Oper} {u:kC}
def acH(h:jM P K T O σ o=some u){x:Operand}(hx:x ∈ o.op.operands):x ∈ GN o.op:=by
 obtain⟨dst,op,ty,pos,after,guard⟩:=o;simp only at hx ⊢;cases op<;>first
  | (simp only[jM]at h;cases h;done)
  | (exfalso;simp[Op.operands]at hx;done)
  | (simpa[Op.operands,GN]using hx)
  | (simpa[Op.operands,GN,or_assoc]using hx)
  |skip
 case call c=>
  obtain⟨callee,args,ats⟩:=c;cases callee<;>simpa[Op.operands,GN,Call.operands]using hx
def NV{d:Option Tmp}{b:Bx}{rr:Nat->PV}{jL:List Prop}(h:zZ σ d b rr jL=some u){id:Nat}{b':Bx}(hf:u.f = .new id b'):σ.bo id=none:=by
 obtain⟨i,_,kI,_,rfl⟩:=Gw h;cases hf;exact kI
def VX{d:Nat}{b:Bx}{id:Nat}{b':Bx}(hf:uF σ d b = .new id b'):σ.bo id=none:=by
 unfold uF at hf;split at hf
 .rename_i h;cases hf;exact h
 .cases hf
def Vr{d:Option Tmp}{b:Bx}{rr:Nat->PV}(h:Bs σ d b rr=some u){id:Nat}{b':Bx}(hf:u.f = .new id b'):σ.bo id=none:=by
 obtain⟨i,_,_,rfl⟩:=JE h;exact VX hf
def acC{ti:TI}{bi bq:Option Bx}{i off q:Nat}(h:DI ti bi bq i off q=some u)(id:Nat)(b:Bx):u.f ≠ .new id b:=by
 intro hf;unfold DI at h;split at h
 .rename_i hM;cases h;unfold IT at hM;split at hM
  .split at hM
   .cases hM;cases hf
   .cases hM
  .cases hM
 .unfold IS at h;split at h
  .split at h
   .cases h;cases hf
   .cases h
  .cases h
def acG(h:jM P K T O σ o=some u){id:Nat}{b:Bx}(hf:u.f = .new id b):σ.bo id=none:=by
 cases iH:o.op
 case alloc=>
  simp only[jM,iH]at h;split at h
  .split at h
   .exact Vr h hf
   .cases h
  .cases h
 case box=>
  simp only[jM,iH]at h;split at h
  .split at h
   .exact Vr h hf
   .cases h
  .cases h
 case makeSlice=>
  simp only[jM,iH,IN]at h;split at h
  .exact NV h hf
  .cases h
 case makeFunc fn first cap=>
  cases fn with
  |func f=>
   simp only[jM,iH]at h
   repeat' split at h
   all_goals first
    | (cases h;done)
    | (cases h;cases hf;done)
  |_=>simp[jM,iH]at h
 case lookup t x i ok=>
  cases ok with
  |true=>simp[jM,iH]at h
  |false=>
   simp only[jM,iH]at h
   repeat' split at h
   all_goals first
    | (cases h;done)
    | (cases h;cases hf;done)
 case slice t x lo hi mx=>
  cases mx with
  |none=>
   simp only[jM,iH,IP]at h
   repeat' split at h
   all_goals first
    | (cases h;done)
    | (cases h;cases hf;done)
  |some=>simp[jM,iH]at h
 case call c=>
  obtain⟨callee,args,ats⟩:=c;cases callee with
  |builtin b=>
   simp only[jM,iH]at h;cases b
   case append=>
    dsimp only at h;split at h
    .split at h
     .split at h
      .unfold Cb at h
       repeat' split at h
       all_goals first
        | (cases h;done)
        | (cases h;cases hf;done)
      split at h
      .unfold Ca at h;split at h
       .split at h
        .split at h
         .cases h;cases hf
         .cases h
        .cases h
       .cases h
      .simp only[AS]at h
       repeat' split at h
       all_goals first
        | (cases h;done)
        |exact NV h hf
        | (cases h;cases hf;done)
     .cases h
    .cases h
   all_goals
    dsimp only at h
    repeat' split at h
    all_goals first
     | (cases h;done)
     | (cases h;cases hf;done)
     | (obtain⟨_,_,rfl⟩:=b7.1 h;cases hf)
  |value f=>
   simp only[jM,iH]at h
   repeat' split at h
   all_goals first
    | (cases h;done)
    | (simp only[AT]at h;repeat' split at h)
   all_goals first
    | (cases h;done)
    | (cases h;cases hf;done)
    | (cases h;cases hf;assumption)
    | (cases h;exact VX hf)
  |invoke _ _=>simp[jM,iH]at h
 all_goals
  simp only[jM,iH,IQ,IK,IP,IL,IM,Bo,Cc]at h
  repeat' split at h
  all_goals first
   |exact absurd hf (acC h _ _)
   | (cases h;done)
   | (cases h;cases hf;done)
   | (obtain⟨_,_,rfl⟩:=b7.1 h;cases hf)
   |skip
 all_goals first
  | (obtain⟨_,_,h⟩:=gZ.1 h;repeat' split at h)
  |skip
 all_goals first
  |exact NV h hf
  | (cases h;done)
  | (cases h;cases hf;done)
def LX(h:uY P K T O σ o=some u):∃ u0,jM P K T O σ o=some u0/\u0.rb=u.rb/\u0.f=u.f:=by
 unfold uY at h;split at h
 .rename_i u0 h0;split at h
  .split at h
   .cases h;exact⟨u0,h0,rfl,rfl⟩
   .cases h;exact⟨_,h0,rfl,rfl⟩
  .cases h;exact⟨_,h0,rfl,rfl⟩
 .cases h
def acJ(h:uY P K T O σ o=some u)(hg:∀ x,x ∈ o.op.operands->τ.op x=σ.op x)(hb:∀ id,id ∈ u.rb->σ.bo id=τ.bo id)(jQ:σ.nl=τ.nl)(hn:∀ id b,u.f = .new id b->τ.bo id=none):
 uY P K T O τ o=some u:=by
 obtain⟨u0,h0,e1,e2⟩:=LX h;have:=acF (τ:=τ) h0 hg (by rw[e1];exact hb) jQ (by rw[e2];exact hn);unfold uY at h ⊢;rw[h0]at h;rw[this];exact h
def DJ(h:rB P K T O il σ o=some u):wE σ o.dst=true/\u.rd=(looks il o).map σ.get/\((Ar il σ o=some true/\∃ u0,uY P K T O σ o=some u0/\u={ u0 with rd:=(looks il o).map σ.get,hb:=σ.pd u0.f,ob:=σ.xE u0.f })\/(Ar il σ o=some false/\u={ r:=.e (.v (.tuple #[])),rd:=(looks il o).map σ.get })):=by
 unfold rB at h;split at h
 .rename_i hi;split at h
  .rename_i hw;split at h
   .rename_i u0 h0;cases h;exact⟨hi,rfl,.inl ⟨hw,u0,h0,rfl⟩⟩
   .cases h
  .rename_i hw;cases h;exact⟨hi,rfl,.inr ⟨hw,rfl⟩⟩
  .cases h
 .cases h
def LV(h:rB P K T O il σ o=some u)(hg:∀ t,t ∈ looks il o->σ.get t=τ.get t)(hb:∀ id,id ∈ u.rb->σ.bo id=τ.bo id)(jQ:σ.nl=τ.nl)(mQ:σ.n=τ.n)(hn:∀ id b,u.f = .new id b->τ.bo id=none)(hh:τ.pd u.f=σ.pd u.f)(ho:τ.xE u.f=σ.xE u.f):
 rB P K T O il τ o=some u:=by
 obtain⟨hi,_,hw⟩:=DJ h;have kV:wE τ o.dst=wE σ o.dst:=by cases o.dst<;>simp[wE,mQ]
 have TY:Ar il τ o=Ar il σ o:=by
  unfold Ar;cases pN:o.guard with
  |none=>rfl
  |some jw=>
   obtain⟨j,want⟩:=jw;cases hd:(il[j]?).bind (·.dst)with
   |none=>simp[hd]
   |some t=>
    simp only[hd];rw[hg t (by unfold looks;rw[pN];simp[hd])]
 have Na:(looks il o).map τ.get=(looks il o).map σ.get:=fv λt ht=>(hg t ht).symm
 unfold rB;rw[kV,hi,TY,Na];simp only[bL];rcases hw with⟨hw,u0,h0,rfl⟩|⟨hw,rfl⟩
 .rw [hw];have iH:∀ x,x ∈ o.op.operands->τ.op x=σ.op x:=by
   intro x hx;obtain⟨u1,h1,_,_⟩:=LX h0;have hm:=acH h1 hx;refine ahc λt ht=>hg t ?_
   subst ht;unfold looks;exact List.mem_append_left _ (agn hm)
  simp only[acJ h0 iH hb jQ hn];simp only at hh ho;rw[hh,ho]
 .rw [hw]
def LW(h:rB P K T O il σ o=some u){id:Nat}{b:Bx}(hf:u.f = .new id b):σ.bo id=none:=by
 obtain⟨_,_,⟨_,u0,h0,rfl⟩|⟨_,rfl⟩⟩:=DJ h
 .obtain ⟨u1,h1,_,e2⟩:=LX h0;exact acG h1 (by rw[e2];exact hf)
 .cases hf
def acI(h:rB P K T O il σ o=some u)(hs:sn σ τ):rB P K T O il τ o=some u:=
 LV h (λt _=>hs.get t) (λid _=>hs.bo id) hs.nl hs.n (λid b hf=>by rw[<-hs.bo];exact LW h hf) (aev hs.bo _) (Om λid _=>hs.bo id)
def R0(h:rB P K T O il σ o=some u):u.hb=σ.pd u.f/\u.ob=σ.xE u.f:=by
 obtain⟨_,_,⟨_,u0,_,rfl⟩|⟨_,rfl⟩⟩:=DJ h
 .exact ⟨rfl,rfl⟩
 .exact ⟨rfl,rfl⟩
def Zz(hs:sn σ τ)(d:Option Tmp)(u:kC):sn (σ.app d u) (τ.app d u):=
 ⟨by rw[GB,GB];exact hs.n,by rw[GG,GG];exact hs.nl,λt=>by rw[FL,FL,hs.get],λid=>by rw[AG,AG,AH,AH,hs.bo]⟩
def aeQ{f:mq}(hm:f.xv=false)(r:Nat):(f.zP.any λi=>Nat.beq i r)=true↔f.id=some r:=by
 cases f<;>first|(cases hm;done)|simp[mq.zP,mq.id,kS]
def Ti{f:mq}(hm:f.xv=false){b:Bx}(h:∀ r,f.id=some r->r ∉ b.kW):b.pd f=false:=by
 unfold Bx.pd;rw[Bool.and_eq_false_iff];right;rw[df];intro r hr hi;exact h r ((aeQ hm r).1 hi) hr
def aeu{x y:mq}{σ:PS}{d:Option Tmp}{u:kC}(hu:u.f=x)(m1:x.xv=false)(m2:y.xv=false)(hx:σ.pd x=false)(hy:σ.pd y=false)(hc:xD x.Lz y.id=true):(σ.app d u).pd y=false:=by
 subst hu;refine zB.2 λid b hb=>?_
 by_cases e:u.f.id=some id
 .refine Ti m2 λr hr hm=>?_
  have hn:=En hc hr;rw[AG,AH]at hb;cases hf:u.f<;>rw[hf]at e hb hn m1<;>simp only[mq.id,bK]at e<;>first
   | (cases e;done)
   | (cases m1;done)
   | (subst e;simp only[bL,bK]at hb;subst hb;exact hn hm)
   | (subst e;simp at hb;done)
 .rw [wa _ _ _ _ m1 hx e]at hb;exact zB.1 hy id b hb
def akd{O':qy}{x y:Oper×kC}(hi:CB il x y=true)(h1:rB P K T O il σ x.1=some x.2)(h2:rB P K T O' il (σ.app x.1.dst x.2) y.1=some y.2):
 rB P K T O' il σ y.1=some y.2/\rB P K T O il (σ.app y.1.dst y.2) x.1=some x.2/\sn ((σ.app x.1.dst x.2).app y.1.dst y.2) ((σ.app y.1.dst y.2).app x.1.dst x.2):=by
 simp only[CB,bO]at hi;obtain⟨⟨⟨⟨⟨⟨⟨⟨⟨⟨⟨⟨⟨⟨⟨⟨⟨i1,i2⟩,i3⟩,i4⟩,i5⟩,i6⟩,i7⟩,i8⟩,i9⟩,i10⟩,m1⟩,m2⟩,v1⟩,v2⟩,o1⟩,o2⟩,c1⟩,c2⟩:=hi;simp only[ev]at m1 m2 v1 v2;obtain⟨_,rx,_⟩:=DJ h1;obtain⟨_,ry,_⟩:=DJ h2;obtain⟨fx1,fx2⟩:=R0 h1;obtain⟨fy1,fy2⟩:=R0 h2;have hx:σ.pd x.2.f=false:=by rw[<-fx1];exact v1
 have qR:(σ.app x.1.dst x.2).pd y.2.f=false:=by rw[<-fy1];exact v2
 have hy:σ.pd y.2.f=false:=by
  refine zB.2 λid b hb=>?_
  by_cases e:x.2.f.id=some id
  .refine Ti m2 λr hr hm=>?_
   have:=En o1 hr;rw[fx2]at this;unfold PS.xE at this;rw[e]at this;simp only[hb]at this;exact this hm
  .exact zB.1 qR id b (by rw[wa _ _ _ _ m1 hx e];exact hb)
 have xt:(σ.app y.1.dst y.2).pd x.2.f=false:=aeu rfl m2 m1 hy hx c2;have r1:rB P K T O' il σ y.1=some y.2:=by
  refine LV h2 (λt ht=>?_) (λid hid=>wa _ _ _ _ m1 hx λe=>En i4 e hid) (GG _ _ _) (GB _ _ _) (λid b hf=>?_) (by rw[hy,qR]) (Om λid e=>wa _ _ _ _ m1 hx λe'=>EU i6 e' e rfl)
  .have hg:(σ.app x.1.dst x.2).get t=(σ.get t).kX x.2.f:=by
    rw[FL,bu λe=>En i1 e ht]
   rw[hg];by_cases hv:x.2.f.vX=true
   .have qN:Of ((σ.get t).kX x.2.f)=true:=by
     have h9:y.2.rd.all Of=true:=by simpa[hv]using i9
     rw[ry]at h9;exact bT.1 h9 _ (dG.2 ⟨t,ht,hg⟩)
    rw[EX m1]at qN ⊢;split at qN
    .rename_i hk;rw[bw hk]
    .cases qN
   .cases hf:x.2.f<;>rw[hf]at hv<;>first|exact absurd rfl hv|(cases σ.get t<;>rfl)
  .have:=LW h2 hf;rwa[wa _ _ _ _ m1 hx λe=>EU i6 e (by rw[hf];rfl) rfl]at this
 refine⟨r1,?_,?_⟩
 .refine LV h1 (λt ht=>?_) (λid hid=>(wa _ _ _ _ m2 hy λe=>En i5 e hid).symm) (GG _ _ _).symm (GB _ _ _).symm (λid b hf=>?_) (by rw[hx,xt]) (Om λid e=>(wa _ _ _ _ m2 hy λe'=>EU i6 e e' rfl).symm)
  .rw [FL,bu λe=>En i3 e ht];rw[rx]at i10;exact(NJ m2 (bT.1 i10 _ (dG.2 ⟨t,ht,rfl⟩))).symm
  .rw [wa _ _ _ _ m2 hy λe=>EU i6 (by rw[hf];rfl) e rfl];exact LW h1 hf
 .refine ⟨by simp only[GB],by simp only[GG],λt=>?_,λid=>?_⟩
  .simp only[FL];by_cases hx:x.1.dst=some t
   .have hy:¬y.1.dst=some t:=λe=>EU i2 hx e rfl
    rw[bu hy,bw hx,bw hx,NJ m2 i8]
   .by_cases hy:y.1.dst=some t
    .rw [bw hy,bu hx,bw hy,NJ m1 i7]
    .rw [bu hy,bu hx,bu hx,bu hy,alz _ m1 m2]
  .by_cases ex:x.2.f.id=some id
   .have ey:y.2.f.id≠some id:=λe=>EU i6 ex e rfl
    rw[wa _ _ _ _ m2 qR ey,AG,AG,AH,AH,wa _ _ _ _ m2 hy ey]
   .rw [wa _ _ x.2 _ m1 xt ex];rw[AG,AG,AH,AH,wa _ _ _ _ m1 hx ex]
end
section
variable {P:Program} {K:World->Prop} {T:List TI} {O:qy} {il:Array Oper}
def wW(P:Program)(K:World->Prop)(T:List TI)(il:Array Oper):List (Oper×kC)->PS->PS->Prop
 | [],σ,τ=>sn σ τ
 |x::l,σ,τ=>(∃ O,rB P K T O il σ x.1=some x.2)/\wW P K T il l (σ.app x.1.dst x.2) τ
def wW.qJ{l:List (Oper×kC)}{σ σ2 τ:PS}(h:wW P K T il l σ τ)(hs:sn σ σ2):wW P K T il l σ2 τ:=by
 induction l generalizing σ σ2 with
 |nil=>exact hs.symm.trans h
 |cons x l ih=>exact⟨h.1.imp λ_ h=>acI h hs,ih h.2 (Zz hs _ _)⟩
def wW.ac9{A C:List (Oper×kC)}{y:Oper×kC}{σ τ:PS}(h:wW P K T il (A++y::C) σ τ)(hi:∀ x,x ∈ A->CB il x y=true):
 (∃ O,rB P K T O il σ y.1=some y.2)/\wW P K T il (A++C) (σ.app y.1.dst y.2) τ:=by
 induction A generalizing σ with
 |nil=>exact h
 |cons x A ih=>
  obtain⟨⟨O1,h1⟩,h2⟩:=h;obtain⟨⟨O2,k1⟩,k2⟩:=ih h2 λz hz=>hi z (by simp[hz])
  obtain⟨s1,s2,s3⟩:=akd (hi x aH) h1 k1;exact⟨⟨O2,s1⟩,⟨O1,s2⟩,k2.qJ s3⟩
end
section
variable {P:Program} {K:World->Prop} {T:List TI} {O:qy} {w0:World} {B:Nat->Prop} {σ τ:PS} {o:Oper} {a:Act} {w:World} {L:Lk} {u:kC} {il:Array Oper}
def YO(r:jq w0 B σ a w L){b:Bool}(h:Ar il σ o=some b):Region.wanted o (yielded il a.tmps)=b:=by
 unfold Ar at h;unfold Region.wanted;split at h
 .rename_i hg;rw[hg];simpa using h
 .rename_i j want hg;rw[hg];simp only;split at h
  .rename_i t ht;have hv:=r.ht t;have key:∀ q:Bool,σ.get t = .e (.v (.bool q))->yielded il a.tmps j=some q:=by
    intro q hq;rw[hq]at hv;have hv:=iO.kG hv;unfold yielded;rw[ht];simp only[Option.bind_some];have iJ:a.tmps[t]? = some (.bool q):=by
     by_cases hs:t<a.tmps.size
     .simpa [hs]using hv
     .simp [hs,undef]at hv
    rw[iJ]
   split at h
   .rename_i hq;rw[key true hq];simp only[bK]at h;subst h;cases want<;>rfl
   .rename_i hq;rw[key false hq];simp only[bK]at h;subst h;cases want<;>rfl
   .rename_i q hq;rw[hq]at hv;have hv:=iO.kG hv;have hn:yielded il a.tmps j=none:=by
     unfold yielded;rw[ht];simp only[Option.bind_some];by_cases hs:t<a.tmps.size
     .rw [show a.tmps[t]? = some (.tuple q)by simpa[hs]using hv]
     .simp [hs]
    rw[hn];simp only[bK]at h;subst h;cases want<;>rfl
   .cases h
  .cases h
def R1(hT:mB P T)(g:Gd P K w0 B)(r:jq w0 B σ a w L)(h:rB P K T O il σ o=some u)(ho:∀ q,q ∈ u.jL->q)(Kc:Act->World->Prop)(Q:Exit->Act->World->Prop)
 (hk:∀ a' w' L',jq w0 B (σ.app o.dst u) a' w' L'->Kc a' w'):
 (Region.wanted o (yielded il a.tmps)=true/\o.wp P a w Kc Q)\/(Region.wanted o (yielded il a.tmps)=false/\Kc (a.put o.dst undef) w):=by
 obtain⟨hi,_,⟨hw,u0,h0,rfl⟩|⟨hw,rfl⟩⟩:=DJ h
 .refine .inl ⟨YO r hw,acK hT g r h0 ho Kc Q λv w' L' hr hp=>hk _ w' L' ?_⟩;have nJ:wE (σ.om u0.f) o.dst=true:=by cases hd:o.dst<;>rw[hd]at hi<;>exact hi
  exact hr.put o.dst u0.r v nJ hp
 .exact .inr ⟨YO r hw,hk _ w L (r.put o.dst (.e (.v (.tuple #[]))) undef hi (.v _))⟩
structure Left(il:Array Oper)(listed:Array Bool)(R:List (Nat×Oper×kC)):Prop where
 nc:∀ x,x ∈ R->il[x.1]? = some x.2.1/\listed.getD x.1 true=false
 all:∀ i,i<il.size->listed.getD i true=false->∃ x,x ∈ R/\x.1=i
 pw:R.Pairwise λx y=>x.1<y.1/\(BF il 3 y.2.1 x.1||CB il x.2 y.2)=true
 ed:∀ x,x ∈ R->∀ e,e ∈ x.2.1.after->Region.binds .any e=true->e.on<x.1
 up:∀ x,x ∈ R->∀ j z,il[j]? = some z->CE z x.1=true->listed.getD j true=false
def Left.BF{listed:Array Bool}{R:List (Nat×Oper×kC)}(h:Left il listed R){x:Nat×Oper×kC}(hx:x ∈ R):∀ (n:Nat) (j:Nat) (z:Oper),il[j]? = some z->Pu.BF il n z x.1=true ->
 listed.getD j true=false/\∃ e,e ∈ z.after/\Region.binds .any e=true/\listed.getD e.on true=false/\e.on<il.size:=by
 have direct:∀ (j:Nat) (z:Oper),il[j]? = some z->CE z x.1=true->listed.getD j true=false/\∃ e,e ∈ z.after/\Region.binds .any e=true/\listed.getD e.on true=false/\e.on<il.size:=by
  intro j z hz he;refine⟨h.up x hx j z hz he,?_⟩;unfold CE at he;obtain⟨e,mP,lW⟩:=eB.1 he;simp only[bO]at lW;have sT:=h.nc x hx;refine⟨e,by simpa using mP,lW.1,?_,?_⟩
  .rw [kS.1 lW.2];exact sT.2
  .rw [kS.1 lW.2];exact(du.1 sT.1).1
 intro n
 induction n with
 |zero=>exact direct
 |succ n ih=>
  intro j z hz hr;simp only[Pu.BF,eZ]at hr;rcases hr with hr|hr
  .exact direct j z hz hr
  .obtain ⟨e,mP,lW⟩:=eB.1 hr;simp only[bO]at lW;obtain⟨lW,MM⟩:=lW;split at MM
   .rename_i z' yA;obtain⟨k1,_⟩:=ih e.on z' yA MM;have iJ:=(du.1 yA).1;obtain⟨x',xt,Eb⟩:=h.all e.on iJ k1;refine⟨h.up x' xt j z hz ?_,e,by simpa using mP,lW,k1,iJ⟩;unfold CE;refine eB.2 ⟨e,mP,?_⟩;rw[lW,Eb];simp
   .cases MM
def OT{md:Region.Mode}{listed:Array Bool}{i:Nat}:i ∈ Region.ready md il listed↔i<il.size/\listed.getD i true=false/\∃ o,il[i]? = some o/\∀ e,e ∈ o.after->Region.binds md e=true->listed.getD e.on false=true:=by
 unfold Region.ready;rw[List.mem_filter];simp only[cC,bO,ev];constructor
 .rintro ⟨h1,h2,h3⟩;refine⟨h1,h2,il[i],by simp[h1],λe he hb=>?_⟩;rw[Array.getElem?_eq_getElem h1]at h3;simp only[cK,am1,anj]at h3;have:=h3 e he;simpa[hb]using this
 .rintro ⟨h1,h2,o,h3,h4⟩;refine⟨h1,h2,?_⟩;rw[h3];simp only[cK,am1,anj];intro e he;cases hb:Region.binds md e with
  |false=>rfl
  |true=>simpa using h4 e he hb
def Zv(hT:mB P T)(g:Gd P K w0 B){Q:Exit->Act->World->Prop}(hq:∀ a' w' L',jq w0 B τ a' w' L'->Q .normal a' w'):
 ∀ (fuel:Nat) (listed:Array Bool) (R:List (Nat×Oper×kC)) (σ:PS) (a:Act) (w:World) (L:Lk),R.length=fuel->listed.size=il.size->Left il listed R->(∀ x,x ∈ R->∀ q,q ∈ x.2.2.jL->q) ->
  wW P K T il (R.map (·.2)) σ τ->jq w0 B σ a w L->wpAny P .any il Q fuel listed a w:=by
 intro fuel
 induction fuel with
 |zero=>
  intro listed R σ a w L hlen DX hleft ho Jo r;have hR:=dz hlen;subst hR;refine⟨?_,hq a w L (r.qJ Jo)⟩;apply List.eq_nil_iff_forall_not_mem.2;intro i hi;obtain⟨h1,h2,_⟩:=OT.1 hi;obtain⟨x,hx,_⟩:=hleft.all i h1 h2;simp at hx
 |succ fuel ih=>
  intro listed R σ a w L hlen DX hleft ho Jo r;refine⟨λCo=>?_,λi hi=>?_⟩
  .
   exfalso;cases R with
   |nil=>simp at hlen
   |cons x R=>
    have hx:=hleft.nc x aH;have iJ:x.1<il.size:=(du.1 hx.1).1;have:x.1 ∈ Region.ready .any il listed:=OT.2 ⟨iJ,hx.2,x.2.1,hx.1,λe he hb=>by
     have D4:=hleft.ed x aH e he hb;cases hl:listed.getD e.on true with
     |true=>
      have:e.on<listed.size:= aC ;simp[this]at hl ⊢;exact hl
     |false=>
      exfalso;obtain⟨y,hy,Ec⟩:=hleft.all e.on aC hl;rcases dw.1 hy with hy|hy
      .subst hy;omega
      .have:=(am2.1 hleft.pw).1 y hy;omega⟩
    rw[Co]at this;simp at this
  .obtain ⟨h1,h2,o,h3,h4⟩:=OT.1 hi;obtain⟨y,hy,hyi⟩:=hleft.all i h1 h2;subst hyi;obtain⟨A,C,rfl⟩:=List.append_of_mem hy;have Ju:=hleft.nc y hy;have aet:∀ x,x ∈ A->CB il x.2 y.2=true:=by
    intro x hx;have hp:=(am3.1 hleft.pw).2.2 x hx y aH;rcases Bool.or_eq_true_iff.1 hp.2 with he|he
    .exfalso;obtain⟨_,e,mP,lW,lQ,iJ⟩:=hleft.BF (show x ∈ A++y::C by simp[hx]) 3 y.1 y.2.1 Ju.1 he;have sW:o=y.2.1:=by rw[Ju.1]at h3;exact(am4 h3).symm
     have hl:=h4 e (by rw[sW];exact mP) lW;have qf:e.on<listed.size:=by rw[DX];exact iJ
     simp[qf]at hl lQ;rw[hl]at lQ;cases lQ
    .exact he
   rw[gq,eR]at Jo;obtain⟨⟨O,k1⟩,k2⟩:=Jo.ac9 (λx hx=>by
    obtain⟨z,hz,rfl⟩:=dG.1 hx;exact aet z hz)
   have aex:Left il (listed.setIfInBounds y.1 true) (A++C):=by
    have kj:∀ x,x ∈ A++C->x.1≠y.1:=by
     intro x hx;rcases dK.1 hx with hx|hx
     .have:=((am3.1 hleft.pw).2.2 x hx y aH).1;omega
     .have:=((am2.1 (am3.1 hleft.pw).2.1).1 x hx).1;omega
    have Bh:∀ x,x ∈ A++C->x ∈ A++y::C:=λx hx=>by
     rcases dK.1 hx with hx|hx<;>simp[hx]
    refine⟨λx hx=>?_,λj hj hl=>?_,?_,λx hx=>hleft.ed x (Bh x hx),λx hx j z hz he=>?_⟩
    .obtain ⟨q1,q2⟩:=hleft.nc x (Bh x hx);refine⟨q1,?_⟩;have qf:x.1<listed.size:=by rw[DX];exact(du.1 q1).1
     simp[qf]at q2 ⊢;rw[am5 _ (λe=>kj x hx e.symm)];exact q2
    .have Jd:j<listed.size:= aC ;by_cases DU:j=y.1
     .subst DU;simp[Jd]at hl
     .have:listed.getD j true=false:=by
       simp[Jd]at hl ⊢;rw[am5 _ (λe=>DU e.symm)]at hl;exact hl
      obtain⟨x,hx,TZ⟩:=hleft.all j hj this;refine⟨x,?_,TZ⟩;rcases dK.1 hx with hx|hx
      .simp [hx]
      .rcases dw.1 hx with hx|hx
       .subst hx;exact absurd TZ.symm DU
       .simp [hx]
    .exact hleft.pw.sublist (List.Sublist.append (List.Sublist.refl A) (List.sublist_cons_self y C))
    .have q:=hleft.up x (Bh x hx) j z hz he;have Jd:j<listed.size:=by rw[DX];exact(du.1 hz).1
     by_cases DU:j=y.1
     .exfalso;subst DU;rw[Ju.1]at hz h3;cases hz;cases h3;unfold CE at he;obtain⟨e,mP,lW⟩:=eB.1 he;simp only[bO]at lW;have hl:=h4 e (by simpa using mP) lW.1;rw[kS.1 lW.2]at hl;have lQ:=(hleft.nc x (Bh x hx))
      have qf:x.1<listed.size:=by rw[DX];exact(du.1 lQ.1).1
      have lQ:=lQ.2;simp[qf]at hl lQ;rw[hl]at lQ;cases lQ
     .simp [Jd]at q ⊢;rw[am5 _ (λe=>DU e.symm)];exact q
   unfold wpOp;rw[Ju.1];simp only;rcases R1 hT g r k1 (ho y aH) (wpAny P .any il Q fuel (listed.setIfInBounds y.1 true)) Q (λa' w' L' hr=>ih _ (A++C) _ a' w' L' (by simp at hlen ⊢;omega) (by simpa using DX) aex (λx hx=>ho x (by
    rcases dK.1 hx with hx|hx<;>simp[hx])) (by rw[gq];exact k2) hr)with⟨p1,p2⟩|⟨p1,p2⟩
   .rw [bw p1];exact .inl p2
   .rw [bu (by rw[p1];simp)];exact p2
def afF{us:List (Oper×kC)}(zJ:us.map (·.1)=il.toList)(hp:Eu il 0 us=true):
 ∃ R:List (Nat×Oper×kC),R.map (·.2)=us/\R.length=il.size/\Left il (Array.replicate il.size false) R:=by
 have key:∀ (us:List (Oper×kC)) (k:Nat),Eu il k us=true->(∀ j x,us[j]? = some x->il[k+j]? = some x.1) ->
  ∃ R:List (Nat×Oper×kC),R.map (·.2)=us/\(∀ j x,R[j]? = some x->x.1=k+j)/\(∀ x,x ∈ R->il[x.1]? = some x.2.1)/\(R.Pairwise λx y=>x.1<y.1/\(BF il 3 y.2.1 x.1||CB il x.2 y.2)=true) /\
   (∀ x,x ∈ R->∀ e,e ∈ x.2.1.after->Region.binds .any e=true->e.on<x.1):=by
  intro us
  induction us with
  |nil=>exact λk _ _=>⟨[],rfl,λj x h=>by simp at h,λx h=>by simp at h,List.Pairwise.nil,λx h=>by simp at h⟩
  |cons x us ih=>
   intro k hp sT;simp only[Eu,bO]at hp;obtain⟨R,r1,r2,r3,r4,r5⟩:=ih (k+1) hp.2 (λj y hy=>by have:=sT (j+1) y (by simpa using hy);rwa[(aC:k+(j+1)=k+1+j)]at this);have tS:∀ y,y ∈ R->k<y.1/\y.2 ∈ us:=by
    intro y hy;obtain⟨j,hj⟩:=dI.1 hy;have:=r2 j y hj;exact⟨aC,by rw[<-r1];exact dG.2 ⟨y,hy,rfl⟩⟩
   refine⟨(k,x)::R,by simp[r1],λj y hy=>?_,λy hy=>?_,?_,λy hy=>?_⟩
   .cases j with
    |zero=>simp at hy;subst hy;rfl
    |succ j=>have:=r2 j y (by simpa using hy);omega
   .rcases dw.1 hy with hy|hy
    .subst hy;have:=sT 0 x rfl;simpa using this
    .exact r3 y hy
   .rw [am2];refine⟨λy hy=>⟨(tS y hy).1,?_⟩,r4⟩;exact bT.1 hp.1.2 y.2 (tS y hy).2
   .rcases dw.1 hy with hy|hy
    .subst hy;intro e he hb;have:=bT.1 hp.1.1 e (by simpa using he);simpa[hb]using this
    .exact r5 y hy
 obtain⟨R,r1,r2,r3,r4,r5⟩:=key us 0 hp (λj x hx=>by
  rw[cD];have:=congrArg (·[j]?) zJ;simp only[cG,hx,cK]at this;simpa using this.symm)
 have hlen:R.length=il.size:=by
  have h1:=congrArg List.length r1;have h2:=congrArg List.length zJ;simp at h1 h2;omega
 refine⟨R,r1,hlen,λx hx=>⟨r3 x hx,?_⟩,λi hi _=>?_,r4,r5,λx hx j z hz _=>by have:=(du.1 hz).1;simp[this]⟩
 .have:=(du.1 (r3 x hx)).1;simp[this]
 .have nJ:i<R.length:= aC ;exact⟨R[i],cO nJ,by have:=r2 i R[i] (bG nJ);omega⟩
end
def PS.le(σ τ:PS):Prop:=∀ (w0:World) (B:Nat->Prop) (a:Act) (w:World) (L:Lk),(∀ b,B b->b<w0.heap.size)->jq w0 B σ a w L->∃ L',jq w0 B τ a w L'
def PS.le.refl(σ:PS):PS.le σ σ:=λ_ _ _ _ L _ r=>⟨L,r⟩
def PS.le.trans{σ τ υ:PS}(h:PS.le σ τ)(k:PS.le τ υ):PS.le σ υ:=λw0 B a w L g r=>let⟨L',r'⟩:=h w0 B a w L g r;k w0 B a w L' g r'
def PV.le.refl(p:PV):PV.le p p:=λ_ _ _ _ _ h=>h
def Bx.le(a b:Bx):Prop:=(a.nl=true->b.nl=true)/\∀ (bs br:Nat->Prop) (L:Lk) (w:World) (id:Nat),nF bs br L w id a->nF bs br L w id b
def Bx.le.refl(a:Bx):Bx.le a a:=⟨id,λ_ _ _ _ _ h=>h⟩
def xP(σ:PS):List (Nat×PV)->Prop
 | []=>True
 | (k,p)::l=>PV.le (σ.get k) p/\xP σ l
def wU(σ:PS):List (Nat×Bx)->Prop
 | []=>True
 | (id,b)::l=>(∃ b',σ.bo id=some b'/\Bx.le b' b)/\wU σ l
def GY(τ:PS):Bool:=(τ.t.all λx=>x.2.kW.all λid=>(look τ.b id).isSome)&&(τ.b.all λx=>x.2.kW.all λid=>(look τ.b id).isSome)
def Gs{α:Type}{l:List (Nat×α)}{t:Nat}{x:α}(h:look l t=some x):(t,x) ∈ l:=by
 induction l with
 |nil=>cases h
 |cons y l ih=>
  obtain⟨k,z⟩:=y;rw[s9]at h;split at h
  .rename_i e;cases h;subst e;exact .head _
  .exact .tail _ (ih h)
def xP.get{σ:PS}{l:List (Nat×PV)}(h:xP σ l){t:Nat}{p:PV}(k:look l t=some p):PV.le (σ.get t) p:=by
 induction l with
 |nil=>cases k
 |cons y l ih=>
  obtain⟨q,z⟩:=y;rw[s9]at k;split at k
  .rename_i e;cases k;subst e;exact h.1
  .exact ih h.2 k
def wU.get{σ:PS}{l:List (Nat×Bx)}(h:wU σ l){t:Nat}{b:Bx}(k:look l t=some b):∃ b',σ.bo t=some b'/\Bx.le b' b:=by
 induction l with
 |nil=>cases k
 |cons y l ih=>
  obtain⟨q,z⟩:=y;rw[s9]at k;split at k
  .rename_i e;cases k;subst e;exact h.1
  .exact ih h.2 k
def PS.le.pg{σ τ:PS}(hn:σ.n=τ.n)(jQ:τ.nl=σ.nl)(hr:GY τ=true)(ht:xP σ τ.t)(hb:wU σ τ.b):PS.le σ τ:=λw0 B a w L _ r=>by
 let L':Lk:=⟨λid=>L.mg id/\(τ.bo id).isSome=true,λid x=>L.own id x/\(τ.bo id).isSome=true,L.val,L.iU⟩
 have iJ:rp L w L' w:=⟨bD _,λx _ ⟨id,h,_⟩=>⟨id,h⟩,λ_ _ _=>rfl⟩
 refine⟨L',r.hd,by rw[<-hn];exact r.hs,λt=>?_,λid b h=>?_,λid=>?_,λid x h=>⟨r.hn id x h.1,h.2⟩,λid x h=>r.hw id x h.1,λid id' x h k=>r.hi id id' x h.1 k.1,r.he,λh id b k=>?_⟩
 .have hg:τ.get t=((look τ.t t)).getD (.e .any):=rfl;cases hl:look τ.t t with
  |none=>rw[hg,hl];exact .any _
  |some p=>
   rw[hg,hl];have:=ht.get hl _ _ _ _ _ (r.ht t);refine kU.move iJ this λid hid pG=>⟨⟨pG,?_⟩,rfl,λ_=>rfl⟩
   have q:=bT.1 (ib.1 hr).1 _ (Gs hl);exact bT.1 q id hid
 .obtain ⟨b',h1,h2⟩:=hb.get h;have hs:(τ.bo id).isSome=true:=by rw[h];rfl
  refine(h2.2 _ _ _ _ _ (r.hb id b' h1)).later iJ rfl (λx=>⟨λq=>q.1,λq=>⟨q,hs⟩⟩) (λ_=>rfl) (λ_ _=>rfl) λp v hp k=>kU.move iJ k λid hid pG=>⟨⟨pG,?_⟩,rfl,λ_=>rfl⟩
  have q:=bT.1 (ib.1 hr).2 _ (Gs h);exact bT.1 q id (dH.2 ⟨p,hp,hid⟩)
 .show L.mg id/\(τ.bo id).isSome=true↔(τ.bo id).isSome=true;refine⟨λh=>h.2,λh=>⟨(r.hv id).2 ?_,h⟩⟩;obtain⟨b,ju⟩:=ia.1 h;obtain⟨b',h1,_⟩:=hb.get ju;rw[h1];rfl
 .obtain ⟨b',h1,h2⟩:=hb.get k;exact h2.1 (r.hl (by rw[<-jQ];exact h) id b' h1)
def Fq(σ:PS):List Nat->List (Nat×Bx)
 | []=>[]
 |i::l=>match σ.bo i with
  |some b=>(i,b)::Fq σ l
  |none=>Fq σ l
def PS.cut(ts bs:List Nat)(σ:PS):PS:={ n:=σ.n,nl:=σ.nl,t:=ts.map λt=>(t,σ.get t),b:=Fq σ bs }
def xP.cut(σ:PS):∀ ts:List Nat,xP σ (ts.map λt=>(t,σ.get t))
 | []=>trivial
 |_::l=>⟨PV.le.refl _,xP.cut σ l⟩
def wU.cut(σ:PS):∀ bs:List Nat,wU σ (Fq σ bs)
 | []=>trivial
 |i::l=>by
  unfold Fq;split
  .rename_i b h;exact⟨⟨b,h,Bx.le.refl b⟩,wU.cut σ l⟩
  .exact wU.cut σ l
def PS.le.cut{σ:PS}(ts bs:List Nat)(hr:GY (σ.cut ts bs)=true):PS.le σ (σ.cut ts bs):=PS.le.pg rfl rfl hr (xP.cut σ ts) (wU.cut σ bs)
def Ex.to:Ex->Exit
 | .normal=>.normal
 | .exit id=>.exit id
 | .ret=>.ret
def Sp(P:Program)(K:World->Prop)(c:Code)(σ:PS)(Q:Ex->PS->Prop):Prop:=
 ∀ (w0:World) (B:Nat->Prop) (a:Act) (w:World) (L:Lk),Gd P K w0 B->jq w0 B σ a w L->c.wp P (λe a' w'=>∃ ex τ L',e=ex.to/\Q ex τ/\jq w0 B τ a' w' L') a w
def Sp.mono{P:Program}{K:World->Prop}{c:Code}{σ:PS}{Q Q':Ex->PS->Prop}(h:Sp P K c σ Q)(hq:∀ e τ,Q e τ->Q' e τ):Sp P K c σ Q':=
 λw0 B a w L g r=>Code.wp_mono (λ_ _ _ ⟨ex,τ,L',h1,h2,h3⟩=>⟨ex,τ,L',h1,hq _ _ h2,h3⟩) (h w0 B a w L g r)
abbrev Lo:=List (Nat×(Ex×PS×List Nat×List Nat))
section
variable {P:Program} {K:World->Prop} {T:List TI} {O:qy} {lo:Lo}
def Sp.loop{b:Code}{Q:Ex->PS->Prop}(J:Nat->PS->Prop)(qe:∀ n σ,J n σ->Sp P K b σ (λe τ=>(e = .normal/\∃ m,m<n/\J m τ)\/(e ≠ .normal/\Q e τ))):
 ∀ n σ,J n σ->Sp P K (.loop b) σ Q:=by
 intro n0 σ0 hJ0 w0 B a0 w1 L0 g r0 bf k cs;have key:∀ n σ a w L,J n σ->jq w0 B σ a w L ->
  ∃ e a' w',(∃ ex τ L',e=ex.to/\Q ex τ/\jq w0 B τ a' w' L')/\Arrives P (lone (bf.at a (.code b :: .inLoop b::k)) cs w) bf k cs e a' w':=by
  intro n
  induction n using Nat.strongRecOn with
  |_ n ih=>
   intro σ a w L hJ r;obtain⟨e,a₁,w₁,⟨ex,υ,L2,rfl,hq,od⟩,tN⟩:=qe n σ hJ w0 B a w L g r bf (.inLoop b::k) cs;rcases hq with⟨rfl,m,hm,Mo⟩|⟨kj,hq⟩
   .obtain ⟨e₂,a₂,w₂,M9,MF⟩:=ih m hm υ a₁ w₁ L2 Mo od;exact⟨e₂,a₂,w₂,M9,.of_steps (Steps.trans tN (.one step_inLoop)) MF⟩
   .cases ex with
    |normal=>exact absurd rfl kj
    |exit i=>exact⟨_,a₁,w₁,⟨.exit i,υ,L2,rfl,hq,od⟩,.pass (x:=.inLoop b) rfl (λ_ _=>.inl (by simp[Ex.to])) tN⟩
    |ret=>exact⟨_,a₁,w₁,⟨.ret,υ,L2,rfl,hq,od⟩,.pass (x:=.inLoop b) rfl (λ_ _=>.inl (by simp[Ex.to])) tN⟩
 obtain⟨e,a',w',hq,tN⟩:=key n0 σ0 a0 w1 L0 hJ0 r0;exact⟨e,a',w',hq,.of_steps (.one step_loop) tN⟩
def akO{w0:World}{B:Nat->Prop}{σ:PS}{a:Act}{w:World}{L:Lk}(hB:∀ b,B b->b<w0.heap.size)(r:jq w0 B σ a w L){p:PV}{e:E}(h:Hl σ p=some e){v:Value}(hv:kU (ji B L) (jx L) L w p v):
 iO B (λ_=>True) w e v:=by
 have S2:∀ id x,L.own id x->¬B x:=λid x hx hb=>by have:=hB x hb;have:=(r.hw id x hx).1;omega
 have own:∀ (v:Value) (T:TypeId) (n sz:Nat) (f:Nat->Nat->Value) (nl:Bool) (el:Nat->Nat->E) (id:Nat),nN w v T n sz f nl->(∀ x,v.ownBlock=some x->L.own id x) ->
  (∀ i j,i<n->j<sz->iO (ji B L) (jx L) w (el i j) (f i j)/\(el i j).nr 2=true)->iO B (λ_=>True) w (.sl nl n sz el) v:=by
  intro v T n sz f nl el id h1 h2 h3;rcases h1 with⟨rfl,rfl⟩|⟨b,c,cur,rfl,hg,oJ,nS,mE,kt,jQ⟩
  .exact .sl nl 0 sz el none 0 f (bD _) aE (λ_=>rfl) (λi j hi=>absurd hi (bF i)) (λi j hi=>absurd hi (bF i)) (λi j hi=>absurd hi (bF i)) (λi j hi=>absurd hi (bF i))
  .have sW:=h2 b rfl;refine .sl nl n sz el _ c f oJ (by unfold maxLen at nS;omega) (λh=>by cases h) (λi j hi hj=>⟨(kt i j hi hj).2,λhn=>jQ hn _ (dZ (kt i j hi hj).1)⟩) (λi j hi hj=>(h3 i j hi hj).2)
    (λi j hi hj=>⟨b,0,rfl,S2 id b sW,(r.hw id b sW).2,?_⟩) (λi j hi hj=>((h3 i j hi hj).1.qw (λ_ h=>.inl h) (λ_ h=>h)).nr 2 (h3 i j hi hj).2)
   rw[cD];simp only[World.cell?,hg];simpa using(kt i j hi hj).1
 cases p with
 |e x=>
  simp only[Hl]at h;split at h
  .rename_i hn;cases h;exact(iO.qw (bs':=B) (br':=jx L) (λ_ h=>.inl h) (λ_ h=>h) hv).nr 3 hn
  .cases h
 |own id=>
  obtain⟨_,rfl⟩:=hv;simp only[Hl]at h;split at h
  .rename_i nl T n sz el ju;cases h;obtain⟨f,h1,h2,h3⟩:=r.hb id _ ju;exact own _ T n sz f nl el id h1 (λx hx=>(h2 x).2 hx) h3
  .rename_i nl T1 T0 n sz len el ju;cases h;rcases r.hb id _ ju with⟨h1,h2,_⟩|jj
   .subst h2;rw[h1];exact .sl true 0 1 _ none 0 (λ_ _=>undef) (bD _) aE (λ_=>rfl) (λi j hi=>absurd hi (bF i)) (λi j hi=>absurd hi (bF i)) (λi j hi=>absurd hi (bF i)) (λi j hi=>absurd hi (bF i))
   obtain⟨b,c,cur,f,h1,h2,h3,h4,h5,h6,h7,h8,h9,rU,r9⟩:=jj;have sW:L.own id b:=(h9 b).2 (.inl rfl);rw[h1];refine .sl true n 1 _ _ c (λk _=>L.iU id k) h3 (by unfold maxLen at h4;omega) (λh=>by cases h) (λk j hk hj=>?_) (λk j hk hj=>rfl)
    (λk j hk hj=>⟨b,0,rfl,S2 id b sW,(r.hw id b sW).2,?_⟩) (λk j hk hj=>own _ T0 (len k) sz (f k) nl (el k) id (h8 k hk).1 (λx hx=>(h9 x).2 (.inr ⟨k,hk,hx⟩)) (h8 k hk).2)
   .obtain ⟨_,q1,q2⟩:=(h8 k hk).1.head;exact⟨q1,λ_=>q2⟩
   .rw [cD,cI];obtain rfl:j=0:= aC ;simp only[World.cell?,h2];simpa using h6 k hk aH 
  .cases h
 |iU id k=>
  obtain⟨_,rfl⟩:=hv;simp only[Hl]at h;split at h
  .rename_i nl T1 T0 n sz len el ju;split at h
   .rename_i hk;have hk:k<n:=by simpa[fL]using hk
    cases h;obtain⟨b,c,cur,f,h1,h2,h3,h4,h5,h6,h7,h8,h9,rU,r9⟩:=(r.hb id _ ju).wQ aC;exact own _ T0 (len k) sz (f k) nl (el k) id (h8 k hk).1 (λx hx=>(h9 x).2 (.inr ⟨k,hk,hx⟩)) (h8 k hk).2
   .cases h
  .cases h
 |_=>cases h
def C5(tmps:Array Value):ResultVar->Sem Value
 | .tmp t=>Pure.pure (tmps.getD t undef)
 | .cell q t=>do loadVar t (<-asAddr (tmps.getD q undef))
def O3(fn:Func)(tmps:Array Value):results fn tmps=(do
 let vs <-fn.results.mapM (C5 tmps)
 Pure.pure (if h:vs.size=1 then vs[0]else .tuple vs)):=by
 unfold results;congr 1
def aiz{w0:World}{B:Nat->Prop}{σ:PS}{a:Act}{w:World}{L:Lk}(hT:mB P T)(hB:∀ b,B b->b<w0.heap.size)(r:jq w0 B σ a w L){x:ResultVar}{e:E}(h:OY T σ x=some e):
 ∃ v,(C5 a.tmps x).run P w = .ok v w/\iO B (λ_=>True) w e v:=by
 cases x with
 |tmp t=>exact⟨_,rfl,akO hB r h (r.ht t)⟩
 |cell q t=>
  simp only[OY]at h;split at h
  .rename_i ti ot;split at h
   .rename_i l is Na;obtain⟨b,of,vs,e1,h1,h2,h3⟩:=r.read (r.ht q) Na (λq hq=>by simp at hq);by_cases ha:ti.isAgg=true
    .rw [bw ha]at h;split at h
     .rename_i hn;cases h;refine⟨.agg vs.toArray,?_,(iO.qw (bs':=B) (br':=jx L) (λ_ h=>.inl h) (λ_ h=>h) h1.agg).nr 3 hn⟩;simp only[C5,e1,asAddr,Sem.run_bind,Sem.run_pure,Result.andThen_ok,Xa hT w ot ha b of vs h2 h3]
     .cases h
    .rw [bu ha]at h;split at h
     .rename_i y;split at h
      .rename_i hn;cases h;obtain⟨z,zs,rfl,hz,_⟩:=h1.nE;refine⟨z,?_,(iO.qw (bs':=B) (br':=jx L) (λ_ h=>.inl h) (λ_ h=>h) hz).nr 3 hn⟩;simp only[C5,e1,asAddr,Sem.run_bind,Sem.run_pure,Result.andThen_ok,Ki hT w ot (by simpa using ha) b of z (by simpa using h3 0 z rfl)]
      .cases h
     .cases h
   .cases h
  .cases h
def aix{w0:World}{B:Nat->Prop}{σ:PS}{a:Act}{w:World}{L:Lk}(hT:mB P T)(hB:∀ b,B b->b<w0.heap.size)(r:jq w0 B σ a w L){l:List ResultVar}{es:List E}(h:EC T σ l=some es):
 ∃ vs,(l.mapM (C5 a.tmps)).run P w = .ok vs w/\ky B (λ_=>True) w es vs:=by
 induction l generalizing es with
 |nil=>simp only[EC,bK]at h;subst h;exact⟨[],rfl,.nil _ _ _⟩
 |cons x l ih=>
  simp only[EC]at h;split at h
  .rename_i e es' h1 h2;cases h;obtain⟨v,q1,q2⟩:=aiz hT hB r h1;obtain⟨vs,p1,p2⟩:=ih h2;refine⟨v::vs,?_,.cons q2 p2⟩;rw[fQ];simp only[Sem.run_bind,q1,Result.andThen_ok,p1,Sem.run_pure]
  .cases h
def aiy{w0:World}{B:Nat->Prop}{σ:PS}{a:Act}{w:World}{L:Lk}(hT:mB P T)(hB:∀ b,B b->b<w0.heap.size)(r:jq w0 B σ a w L){fn:Func}{e:E}(h:J9 T fn σ=some e):
 ∃ v,(results fn a.tmps).run P w = .ok v w/\iO B (λ_=>True) w e v:=by
 unfold J9 at h;have main:∀ es,EC T σ fn.results.toList=some es->∃ vs:List Value,(fn.results.mapM (C5 a.tmps)).run P w = .ok vs.toArray w/\ky B (λ_=>True) w es vs:=by
  intro es FT;obtain⟨vs,h1,h2⟩:=aix hT hB r FT;refine⟨vs,?_,h2⟩;rw[ank];simp only[Sem.run_map,h1,Result.andThen_ok]
 split at h
 .rename_i y hy;cases h;obtain⟨vs,h1,h2⟩:=main _ hy;obtain⟨v,vs',rfl,hv,Co⟩:=h2.nE;have:=Co.r6;subst this;refine⟨v,?_,hv⟩;rw[O3,Sem.run_bind,h1];simp
 .rename_i l kj hl;cases h;obtain⟨vs,h1,h2⟩:=main _ hl;refine⟨.tuple vs.toArray,?_,h2.iE⟩;rw[O3,Sem.run_bind,h1];have hlen:¬vs.length=1:=by
   rw[h2.len];intro e1
   match l,e1 with
   | [y],_=>exact kj y rfl
  simp[hlen]
 .cases h
def aeV(args:List E):∀ (k t:Nat),look (Gj k args) t=if k<=t then(args[t-k]?).map .e else none:=by
 induction args with
 |nil=>intro k t;simp[Gj,look]
 |cons x l ih=>
  intro k t;simp only[Gj];rw[s9,ih (k+1) t];by_cases h:k=t
  .subst h;simp
  .rw [bu h];by_cases h2:k<=t
   .rw [bw aC,bw h2,(aC:t-k=(t-(k+1))+1)];simp
   .rw [bu aC,bu h2]
def jq.init{B:Nat->Prop}{w:World}{fn:Func}{args:List E}{vs:List Value}(hr:ky B (λ_=>False) w args vs)(hn:args.length<=fn.ntmps)(nl:Bool)(_hB:∀ b,B b->b<w.heap.size/\oY w b):
 jq w B (Bk fn nl args) { tmps:=vs.toArray++Array.replicate (fn.ntmps-vs.toArray.size) undef,defers:=[] } w ⟨λ_=>False,λ_ _=>False,λ_=>undef,λ_ _=>undef⟩:=by
 have hlen:=hr.len;refine⟨rfl,by simp[Bk];omega,λt=>?_,λid b hb=>(by cases hb),λid=>⟨λh=>h.elim,λh=>(by cases h)⟩,λ_ _ h=>h.elim,λ_ _ h=>h.elim,λ_ _ _ h=>h.elim,Below.refl _ _,λ_ id b hb=>(by cases hb)⟩;have hg:(Bk fn nl args).get t=((args[t]?).map PV.e).getD (.e .any):=by
  unfold PS.get Bk;rw[aeV];simp
 rw[hg];by_cases ht:t<args.length
 .have Jr:t<vs.length:= aC ;rw[bG ht];have hv:(vs.toArray++Array.replicate (fn.ntmps-vs.toArray.size) undef).getD t undef=vs[t]:=by
   simp[Array.getElem?_append,Jr]
  show iO _ _ _ _ _;rw[hv];exact(hr.kN t _ _ (bG ht) (bG Jr)).qw (λb h=>h.elim id λ⟨_,h⟩=>h.elim) (λ_ ⟨_,h⟩=>h.elim)
 .rw [cE aC];exact .any _
def PC.NW(hT:mB P T)(hm:P.follows .mixedOrders=true)(hp:∀ w w',K w->Below w.heap.size w w'->K w'){f:FuncId}{fn:Func}{c:Code}{args:List E}{kq:E}(xh:∀ (vs:Array Value) (w:World),(callFunc f vs).run P w = .ok (.enter f vs) w)
 (hf:P.funcs[f]? = some fn) (hb:fn.body=some c) (hn:args.length<=fn.ntmps) (nl:Bool)
 (h:Sp P K c (Bk fn nl args) (λe τ=>(e = .ret\/e = .normal)/\∃ r,J9 T fn τ=some r/\∀ (bs br:Nat->Prop) (w:World) (v:Value),iO bs br w r v->iO bs br w kq v)):PC P K f args kq:=by
 refine⟨xh,λw B vs hK hB hr=>calls_of_wp hf hb ?_⟩;have yy:=jq.init (fn:=fn) hr hn nl hB;refine Code.wp_mono ?_ (h w B _ w _ ⟨hK,hp,hB⟩ yy);rintro e a' w' ⟨ex,τ,L',rfl,⟨he,r,F7,hle⟩,xq⟩;obtain⟨v,h1,h2⟩:=aiy hT (λb hb=>(hB b hb).1) xq F7;have F5:a'.defers=[]/\∃ v,(results fn a'.tmps).run P w' = .ok v w'/\∃ v',Ending.returned v = .returned v'/\Below w.heap.size w w'/\iO B (λ_=>True) w' kq v':=⟨xq.hd,v,h1,v,rfl,xq.he,hle _ _ _ _ h2⟩
 rcases he with rfl|rfl
 .exact F5
 .exact F5
def uR.NW(hT:mB P T)(hm:P.follows .mixedOrders=true)(hp:∀ w w',K w->Below w.heap.size w w'->K w'){f:FuncId}{fn:Func}{c:Code}{args:List E}(xh:∀ (vs:Array Value) (w:World),(callFunc f vs).run P w = .ok (.enter f vs) w)
 (hf:P.funcs[f]? = some fn) (hb:fn.body=some c) (hn:args.length<=fn.ntmps) (nl:Bool) {nl':Bool} {T0:TypeId} {n sz:Nat} {el:Nat->Nat->E}
 (h:Sp P K c (Bk fn nl args) (λe τ=>(e = .ret\/e = .normal)/\∃ t id b,fn.results.toList=[.tmp t]/\τ.get t = .own id/\τ.bo id=some b/\∀ (bs br:Nat->Prop) (L:Lk) (w:World),nF bs br L w id b->nF bs br L w id (.row nl' T0 n sz el))):uR P K f args nl' T0 n sz el:=by
 refine⟨xh,λw B vs hK hB hr=>calls_of_wp hf hb ?_⟩;have yy:=jq.init (fn:=fn) hr hn nl hB;refine Code.wp_mono ?_ (h w B _ w _ ⟨hK,hp,hB⟩ yy);rintro e a' w' ⟨ex,τ,L',rfl,⟨he,t,id,b,F7,hg,ju,hle⟩,xq⟩;have ho:=xq.ht t;rw[hg]at ho;obtain⟨pG,hv⟩:=ho;obtain⟨f0,h1,h2,h3⟩:=hle _ _ _ _ (xq.hb id b ju);have kP:(results fn a'.tmps).run P w' = .ok (L'.val id) w':=by
  rw[O3,Sem.run_bind,ank,F7,Sem.run_map,fQ];simp only[C5,Sem.run_bind,Sem.run_pure,Result.andThen_ok,List.mapM_nil,hv];simp
 have F5:a'.defers=[]/\∃ v,(results fn a'.tmps).run P w' = .ok v w'/\∃ v',Ending.returned v = .returned v'/\Below w.heap.size w w'/\∃ g,nN w' v' T0 n sz g nl'/\(∀ x,v'.ownBlock=some x->w.heap.size<=x/\x<w'.heap.size) /\
  ∀ i j,i<n->j<sz->iO (λb=>B b\/v'.ownBlock=some b) (λ_=>True) w' (el i j) (g i j)/\(el i j).nr 2=true:=by
  refine⟨xq.hd,_,kP,_,rfl,xq.he,f0,h1,λx hx=>xq.hw id x ((h2 x).2 hx),λi j hi hj=>⟨?_,(h3 i j hi hj).2⟩⟩;refine((h3 i j hi hj).1.qw (bs':=λb=>B b\/(L'.val id).ownBlock=some b) (br':=jx L') (λb hb=>?_) (λ_ h=>h)).nr 2 (h3 i j hi hj).2;rcases hb with hb|hb
  .exact .inl hb
  .exact .inr ⟨id,(h2 b).2 hb⟩
 rcases he with rfl|rfl
 .exact F5
 .exact F5
end
def HI(P:Program):List TI->Prop
 | []=>True
 |x::l=>(P.underlying x.id=some x.d/\P.info? x.id=some x.i)/\HI P l
def HI.ok{P:Program}{T:List TI}(h:HI P T):mB P T:=by
 induction T with
 |nil=>intro x hx;simp at hx
 |cons y l ih=>
  intro x hx;rcases dw.1 hx with hx|hx
  .subst hx;exact h.1
  .exact ih h.2 x hx
def E.le(p q:E):Prop:=∀ (bs br:Nat->Prop) (w:World) (v:Value),iO bs br w p v->iO bs br w q v
def E.le.refl(p:E):E.le p p:=λ_ _ _ _ h=>h
def E.le.jl{p q:E}(h:p=q):E.le p q:=h▸E.le.refl p
def E.le.trans{p q r:E}(h:E.le p q)(k:E.le q r):E.le p r:=λ_ _ _ _ x=>k _ _ _ _ (h _ _ _ _ x)
def PV.le.e{p q:E}(h:E.le p q):aj p q:=λbs br _ w v k=>h bs br w v k
def PV.le.bool{a b:Bool}(h:a=b):aj (.v (.bool a)) (.v (.bool b)):=PV.le.e (.jl (by rw[h]))
def PV.le.int{k:IntKind}{a b:Int}(h:a=b):aj (.v (.int k a)) (.v (.int k b)):=PV.le.e (.jl (by rw[h]))
def aq(a b:Int)(h:a=b):aj (.v (.int .i64 a)) (.v (.int .i64 b)):=.int h
inductive tp:List E->List E->Prop
 |nil:tp [] []
 |cons {p q:E} {l m:List E} (h:E.le p q) (k:tp l m):tp (p::l) (q::m)
def tp.refl:∀ l:List E,tp l l
 | []=>.nil
 |p::l=>.cons (.refl p) (tp.refl l)
def tp.J8{l m:List E}(h:tp l m){bs br:Nat->Prop}{w:World}{vs:List Value}(k:ky bs br w l vs):ky bs br w m vs:=by
 induction h generalizing vs with
 |nil=>exact k
 |cons h _ ih=>
  obtain⟨x,ys,rfl,h1,h2⟩:=k.nE;exact .cons (h _ _ _ _ h1) (ih h2)
def E.le.agg{l m:List E}(h:tp l m):E.le (.agg l) (.agg m):=λ_ _ _ _ k=>by
 obtain⟨vs,rfl,hr⟩:=iO.Dt k;exact(h.J8 hr).agg
def E.le.iE{l m:List E}(h:tp l m):E.le (.iE l) (.iE m):=λ_ _ _ _ k=>by
 obtain⟨vs,rfl,hr⟩:=iO.Yz k;exact(h.J8 hr).iE
def E.le.nil(nl:Bool)(sz:Nat)(el:Nat->Nat->E):E.le (.v (.slice none 0 0)) (.sl nl 0 sz el):=λ_ _ _ _ k=>by
 obtain rfl:=iO.kG k;exact .sl nl 0 sz el none 0 (λ_ _=>undef) (bD _) aE (λ_=>rfl) (λi j h=>absurd h (bF i)) (λi j h=>absurd h (bF i)) (λi j h=>absurd h (bF i)) (λi j h=>absurd h (bF i))
def E.le.sl{nl:Bool}{n sz:Nat}{el el':Nat->Nat->E}(h:∀ i j,i<n->j<sz->E.le (el i j) (el' i j)/\(el' i j).nr 2=true):E.le (.sl nl n sz el) (.sl nl n sz el'):=λbs br w v k=>by
 cases k with
 |sl _ _ _ _ A c f hc hm h0 hl hr cell kk=>
  exact .sl nl n sz el' A c f hc hm h0 hl (λi j hi hj=>(h i j hi hj).2) cell λi j hi hj=>(h i j hi hj).1 _ _ _ _ (kk i j hi hj)
def PC.le{P:Program}{K:World->Prop}{f:FuncId}{args args':List E}{kq res':E}(h:PC P K f args kq)(ha:tp args' args)(hr:E.le kq res'):PC P K f args' res':=
 ⟨h.call,λw B vs hK hB rX=>(h.run w B vs hK hB (ha.J8 rX)).mono λ_ _ ⟨v,h1,h2,h3⟩=>⟨v,h1,h2,hr _ _ _ _ h3⟩⟩
def PC.kq{P:Program}{K:World->Prop}{f:FuncId}{args:List E}{kq res':E}(h:PC P K f args kq)(hr:E.le kq res'):PC P K f args res':=h.le (tp.refl _) hr
end Go.Proofs.YtgdahmmlddfimaaGreatDoor.Pu
namespace Go.Proofs.YtgdahmmlddfimaaGreatDoor
open Go.RowKit Fp
def vK(A:Option Addr)(c:Nat)(L:List Nat)(w:World)(hs:Sl w A c L):
 Calls prog 263 #[.slice A L.length c] w λe w'=>e = .returned (.slice A (iT L).length c)/\w=w':=by
 have hc:=hs.cap;have hl:=hs.rH;go_enter func263,ntmps263;go_wp2;go_loop [3] (λi=>∃ k:Nat,k<=L.length/\i = .int .i64 k/\mT L=mT (L.take k)) (λi=>(intOf i).toNat)
 case atStart=>exact⟨L.length,bD _,rfl,aH⟩
 case round=>
  obtain⟨k,hk,rfl,ht⟩:=hrel;have HT:=anv ht;clear ht;by_cases h0:0<k
  .obtain ⟨ab,ao,rfl,hb,h1⟩:=hs.nc (i:=k-1) aC ;have e1:((k:Int)-1).toNat=k-1:= aC ;have Z:=anv (PB L (k-1) aC);have NZ:=anv (PA L (k-1) aC);rw[gS h0]at Z NZ;generalize L[k-1]=x at *
   by_cases hx:x=0
   .have Hx:=anv hx;clear hx;have hb:((x:Int)==0)=true:=by have:=Hx.out;simp;omega
    go_wp2;go_round
    case rel=>exact⟨k-1,aC,by go_num,by rw[HT.out,Z.out Hx.out]⟩
    case measure=>simp[intOf];omega
   .have hb:((x:Int)==0)=false:= aN ;go_wp2;go_ret;exact⟨Kd (by show _=mT L;rw[HT.out,NZ.out hx]),rfl⟩
  .go_wp2;go_ret;have:k=0:= aC ;subst this;exact⟨Kd (by show _=mT L;rw[HT.out];rfl),rfl⟩
def acu(A:Option Addr)(c:Nat)(L:List Nat)(w:World)(hs:Sl w A c L):
 Calls prog 258 #[.slice A L.length c] w λe w'=>e = .returned (.slice A (iT L).length c)/\w=w':=by
 have hc:=hs.cap;have hl:=hs.rH;go_enter func258,ntmps258;go_wp2;go_loop [3] (λi=>∃ k:Nat,k<=L.length/\i = .int .i64 k/\mT L=mT (L.take k)) (λi=>(intOf i).toNat)
 case atStart=>exact⟨L.length,bD _,rfl,aH⟩
 case round=>
  obtain⟨k,hk,rfl,ht⟩:=hrel;have HT:=anv ht;clear ht;by_cases h0:0<k
  .obtain ⟨ab,ao,rfl,hb,h1⟩:=hs.nc (i:=k-1) aC ;have e1:((k:Int)-1).toNat=k-1:= aC ;have Z:=anv (PB L (k-1) aC);have NZ:=anv (PA L (k-1) aC);rw[gS h0]at Z NZ;generalize L[k-1]=x at *
   by_cases hx:x=0
   .have Hx:=anv hx;clear hx;have hb:((x:Int)==0)=true:=by have:=Hx.out;simp;omega
    go_wp2;go_round
    case rel=>exact⟨k-1,aC,by go_num,by rw[HT.out,Z.out Hx.out]⟩
    case measure=>simp[intOf];omega
   .have hb:((x:Int)==0)=false:= aN ;go_wp2;go_ret;exact⟨Kd (by show _=mT L;rw[HT.out,NZ.out hx]),rfl⟩
  .go_wp2;go_ret;have:k=0:= aC ;subst this;exact⟨Kd (by show _=mT L;rw[HT.out];rfl),rfl⟩
def Sl.uN{w:World}{A:Option Addr}{c:Nat}{L:List Nat}(h:Sl w A c L):Sl w A c (iT L):=(h.take (mT L)).eqv (Ky L).symm
def aau:Go.Shelf.Ren:=⟨λ|128=>296|n=>n,λ|51=>171|3=>3|4=>4|46=>190|5=>5|9=>9|n=>n,λ|n=>n⟩
def aaq:Go.Proofs.Lays.n128 prog aau:={
 mixed:= aF 
 f128:=func296.trans (congrArg some aF)
 t3:=underlying3
 a3:=Tryz.isAgg3
 z3:=Tryz.sizeOf3
 v3:=Tryz.zeroValue3
 t4:=underlying4
 a4:=Tryz.isAgg4
 z4:=Tryz.sizeOf4
 v4:=Tryz.zeroValue4
 t5:=underlying5
 a5:=Tryz.isAgg5
 z5:=Tryz.sizeOf5
 v5:=Tryz.zeroValue5
 t9:=underlying9
 a9:=Tryz.isAgg9
 z9:=Tryz.sizeOf9
 v9:=Tryz.zeroValue9
 t46:=underlying190
 a46:=Tryz.isAgg190
 z46:=Tryz.sizeOf190
 v46:=Tryz.zeroValue190
 t51:=underlying171
 a51:=Tryz.isAgg171
 z51:=Tryz.sizeOf171
 v51:=Tryz.zeroValue171 }
def UU(x:Nat)(hx:x<4294967296)(w:World):
 Calls prog 296 #[.int .u32 x] w λe w'=>e = .returned (.int .i64 (iD x))/\w=w':=by
 refine(Any.bits_Len32 aaq x w aC aC).mono ?_;rintro e w' ⟨rfl,rfl⟩;rw[gv,aam x hx];exact⟨rfl,rfl⟩
def alg(x k idx:Nat)(w:World)(oE:((x:Int)==0)=false)
 (key:bits BinOp.and IntKind.u32 (x:Int) (-(x:Int)%4294967296)*125613361%4294967296/134217728=(idx:Int))
 (hi:idx<32) (hk:k<32) (kt:w.cell? ⟨0,idx,none⟩=some (.int .u8 k)):
 Calls prog 292 #[.int .u32 x] w λe w'=>e = .returned (.int .i64 k)/\w=w':=by
 go_enter func292,ntmps292;go_wp2_with (simp only[key])
 go_ret;exact⟨rfl,rfl⟩
def alf(x:Nat)(h0:x≠0)(hx:x<4294967296)(w:World)(hT:Tb w):
 Calls prog 292 #[.int .u32 x] w λe w'=>e = .returned (.int .i64 (jX x))/\w=w':=by
 rw[<-abR x h0 hx];obtain⟨DW,hk⟩:=Lib.lowest_bit 32 x h0 hx;obtain⟨hi,aeL⟩:=Lib.deBruijn32_at _ hk;have kt:=hT _ hi;rw[aeL]at kt;exact alg x _ _ w aN (tz32_key x _ hx h0 DW) hi hk kt
def i64_in(n:Int)(h0:-9223372036854775808<=n)(h1:n<=9223372036854775807):IntKind.i64.wrap n=n:=by rw[IntKind.wrap_i64];omega
def QQ{L M:List Nat}{n:Nat}(hs:iY L)(hM:iT L=M)(hn:M.length=n+1):
 ∃ x,M[n]? = some x/\x<4294967296/\(32*(n:Int)+(iD x:Int))=(iD (val L):Int)/\iD x<=32:=by
 have hk:iY M:=hM▸hs.iT;have ht:oi M:=hM▸Ao L;rcases amU M with rfl|⟨l,x,rfl⟩
 .simp at hn
 .simp only[amV,cg,dm,Nat.add_right_cancel_iff]at hn hk ht hM ⊢;subst hn;have hx:x≠0:=by simpa using(BT _).1 ht aH 
  have iJ:x<4294967296:=hk x aH;refine⟨x,aH,iJ,?_,mJ.2 iJ⟩;have:=aat hk hx;rw[<-hM,qv]at this;omega
def VG(A:Option Addr)(c:Nat)(L:List Nat)(w:World)(hs:Sl w A c L)(hlen:L.length<=100000000):
 Calls prog 265 #[.slice A L.length c] w λe w'=>e = .returned (.int .i64 (iD (val L)))/\w=w':=by
 have hT:=anv (vK A c L w hs);have kZ:=hs.uN;have oD:=pW L;unfold mT at oD;generalize hM:iT L=M at *
 obtain⟨n,hn⟩:∃ n,n=M.length:=⟨_,rfl⟩
 rw[<-hn]at hT oD;rcases n with _|n
 .have hv:iD (val L)=0:=by rw[<-qv,hM,dz hn.symm];rfl
  have HV:=anv hv;clear hv hM hn;go_enter func265,ntmps265;go_wp2_with (go_at_call 263;refine hT.out.mono ?_;rintro e w' ⟨rfl,rfl⟩)
  go_ret;exact⟨by rw[HV.out];rfl,rfl⟩
 .obtain ⟨x,hx,iJ,hb,aeh⟩:=QQ hs.ok hM hn.symm;obtain⟨ab,ao,rfl,_,kt⟩:=kZ.cell _ _ hx;have HB:=anv hb;clear hb hM hn hx;go_enter func265,ntmps265;go_wp2_with (first|(go_at_call 263;refine hT.out.mono ?_;rintro e w' ⟨rfl,rfl⟩)|(go_at_call 296;refine(UU x iJ _).mono ?_;rintro e w' ⟨rfl,rfl⟩))
  go_ret;exact⟨pJ HB.out,rfl⟩
def aar{x:Nat}(h:x≠0):iD x=iD (x/2)+1:=by
 by_cases h1:x/2=0
 .have:x=1:= aC ;subst this;rfl
 .have e1:=uO h1;have e2:=sC (x/2);have e3:=pn h1;generalize iD (x/2)=k at *
  obtain⟨j,rfl⟩:∃ j,k=j+1:=⟨k-1,aC⟩
  rw[fh]at e1;refine y8 ?_ ?_
  .rw [bQ];omega
  .rw [bQ];omega
def aif(A:Option Addr)(c:Nat)(L:List Nat)(w:World)(hs:Sl w A c L)(ht:oi L)(hlen:L.length<=100000000):
 Calls prog 156 #[.slice A L.length c] w λe w'=>e = .returned (.int .i64 (iD (val L)))/\w=w':=by
 obtain⟨n,hn⟩:∃ n,n=L.length:=⟨_,rfl⟩
 rcases n with _|n
 .have hv:iD (val L)=0:=by rw[dz hn.symm];rfl
  have HV:=anv hv;rw[<-hn];clear hv ht hn;go_enter func156,ntmps156;go_wp2;go_ret;exact⟨by rw[HV.out];rfl,rfl⟩
 .obtain ⟨x,hx,iJ,hb,aeh⟩:=QQ hs.ok ht hn.symm;obtain⟨ab,ao,rfl,_,kt⟩:=hs.cell _ _ hx;have HB:=anv hb;rw[<-hn]at hlen ⊢;clear hb ht hn hx;go_enter func156,ntmps156;go_wp2;go_loop [3,4] (λm y=>∃ (k z:Nat),z<4294967296/\y = .int .u32 z/\m = .int .i64 k/\k<=10000000000/\k+iD z=iD (val L)) (λ_ y=>(intOf y).toNat)
  case atStart=>exact⟨32*n,x,iJ,rfl,by go_num,aC,by have:=HB.out;omega⟩
  case round=>
   obtain⟨k,z,hz,rfl,rfl,hk,he⟩:=hrel;have HE:=anv he;clear he;by_cases h0:0<z
   .have hh:=anv (aar (x:=z) aC);have xi:k<=3300000000:=by have:=HE.out;have:=HB.out;omega
    go_wp2;go_round
    case rel=>exact⟨k+1,z/2,aC,by go_num,by go_num,aC,by rw[<-HE.out,hh.out];omega⟩
    case measure=>simp[intOf];omega
   .obtain rfl:z=0:= aC ;go_wp2;go_ret;exact⟨pJ (by rw[<-HE.out];rfl),rfl⟩
def Rl{L M:List Nat}(hL:iY L)(h:(iT L).length<(iT M).length):lf (val L) (val M) = -1:=by
 have:=KD hL.iT (Ao M) h;rw[qv,qv]at this;unfold lf;rw[bw this]
def Rk{L M:List Nat}(hM:iY M)(h:(iT M).length<(iT L).length):lf (val L) (val M)=1:=by
 have:=KD hM.iT (Ao L) h;rw[qv,qv]at this;unfold lf;rw[bu aC,bw this]
def Iy{M N:List Nat}(hM:iY M){k x y:Nat}(hl:M.length=N.length)(hx:M[k]? = some x)(hy:N[k]? = some y)(hd:M.drop (k+1)=N.drop (k+1))(h:x<y):val M<val N:=by
 obtain⟨h1,rfl⟩:=cw.1 hx;obtain⟨h2,rfl⟩:=cw.1 hy;exact alr hM k h1 hl hd h
def RM{M N:List Nat}{k x:Nat}(hx:M[k]? = some x)(hy:N[k]? = some x)(hd:M.drop (k+1)=N.drop (k+1)):M.drop k=N.drop k:=by
 obtain⟨h1,e1⟩:=cw.1 hx;obtain⟨h2,e2⟩:=cw.1 hy;rw[fI h1,fI h2,e1,e2,hd]
def JH(A B:Option Addr)(c d:Nat)(L M:List Nat)(w:World)(hs:Sl w A c L)(hr:Sl w B d M)(h1:L.length<=100000000)(_h2:M.length<=100000000):
 Calls prog 223 #[.slice A L.length c,.slice B M.length d] w λe w'=>e = .returned (.int .i64 (lf (val L) (val M)))/\ja w w':=by
 have hT:=anv (vK A c L w hs);have hU:=anv (vK B d M w hr);have kZ:=hs.uN;have od:=hr.uN;have oD:=pW L;have qb:=pW M;unfold mT at oD qb;by_cases iJ:(iT L).length<(iT M).length
 .have HV:=anv (Rl hs.ok iJ);have kj:(((iT L).length:Int) != ((iT M).length:Nat))=true:= aN ;generalize (iT L).length=n at *
  generalize (iT M).length=m at *
  clear kZ od;go_enter func223,ntmps223;go_wp2_with fail;refine hT.out.mono ?_;rintro e w' ⟨rfl,rfl⟩;go_wp2_with fail;refine hU.out.mono ?_;rintro e w' ⟨rfl,rfl⟩;go_wp2;go_ret;exact⟨pJ (by rw[HV.out]),ja.refl _⟩
 .by_cases FV:(iT M).length<(iT L).length
  .have HV:=anv (Rk hr.ok FV);have kj:(((iT L).length:Int) != ((iT M).length:Nat))=true:= aN ;generalize (iT L).length=n at *
   generalize (iT M).length=m at *
   clear kZ od;go_enter func223,ntmps223;go_wp2_with fail;refine hT.out.mono ?_;rintro e w' ⟨rfl,rfl⟩;go_wp2_with fail;refine hU.out.mono ?_;rintro e w' ⟨rfl,rfl⟩;go_wp2;go_ret;exact⟨pJ (by rw[HV.out]),ja.refl _⟩
  .have hl:(iT L).length=(iT M).length:= aC ;have HL:=anv hl;rw[<-hl]at hU qb;have e1:=qv L;have e2:=qv M;generalize iT L=P at *
   generalize iT M=Q at *
   have E1:=anv e1;have E2:=anv e2;clear e1 e2 hl FV iJ;obtain⟨n,hn⟩:∃ n,n=P.length:=⟨_,rfl⟩
   rw[<-hn]at hT hU qb oD;have HN:=anv hn;clear hn;have kj:((n:Int) != (n:Int))=false:= aH ;have okP:=kZ.ok;have CZ:=od.ok;go_enter func223,ntmps223;go_wp2_with fail;refine hT.out.mono ?_;rintro e w' ⟨rfl,rfl⟩;go_wp2_with fail;refine hU.out.mono ?_;rintro e w' ⟨rfl,rfl⟩;go_wp2;go_loopw [5] (λi wr=>∃ k:Nat,k<=n/\i = .int .i64 ((k:Int)-1)/\P.drop k=Q.drop k/\ja w wr) (λi _=>(intOf i+1).toNat)
   case atStart=>exact⟨n,bD _,rfl,by rw[eN (by rw[<-HN.out];exact bD _),eN (by rw[<-HL.out,<-HN.out];exact bD _)],ja.refl _⟩
   case round=>
    obtain⟨k,hk,rfl,hd,hb⟩:=hrel;have HD:=anv hd;clear hd;rcases k with _|k
    .go_wp2;go_ret;have e:P=Q:=by simpa using HD.out
     exact⟨pJ (by rw[<-E1.out,<-E2.out,e];unfold lf;simp),hb⟩
    .have Cn:k<P.length:=by have:=HN.out;omega
     have zD:k<Q.length:=by have:=HN.out;have:=HL.out;omega
     have HP:=anv (bG Cn);have HQ:=anv (bG zD);obtain⟨ab,ao,rfl,_,c1⟩:=(kZ.below hb).nc Cn;obtain⟨bb,bo,rfl,_,c2⟩:=(od.below hb).nc zD;have Jg:(k:Int)<n:= aC ;have oo:(0:Int)<=k:= aC ;have x0:(0:Int)<=P[k]:= aC ;have y0:(0:Int)<=Q[k]:= aC ;generalize P[k]=x at *
     generalize Q[k]=y at *
     clear Cn zD;by_cases qQ:x<y
     .have Np:(x:Int)<y:= aC ;go_wp2;go_quiet (fail);go_wp2;go_ret;have h:=Iy okP HL.out HP.out HQ.out HD.out qQ;rw[E1.out,E2.out]at h;exact⟨pJ (by unfold lf;rw[bw h]),below_drewN hb _⟩
     .have Np:¬(x:Int)<y:= aC ;by_cases Nq:y<x
      .have Nr:(y:Int)<x:= aC ;go_wp2;go_quiet (fail);go_wp2;go_quiet (fail);go_wp2;go_ret;have h:=Iy CZ HL.out.symm HQ.out HP.out HD.out.symm Nq;rw[E1.out,E2.out]at h;exact⟨pJ (by unfold lf;rw[bu aC,bw h]),below_drewN (below_drewN hb _) _⟩
      .have Nr:¬(y:Int)<x:= aC ;have HX:=anv (aC:x=y);go_wp2;go_quiet (fail);go_wp2;go_quiet (fail);go_wp2;go_roundw
       case rel=>exact⟨k,aC,by go_num,RM HP.out (by rw[HX.out];exact HQ.out) HD.out,by repeat (first|exact hb|refine below_drewN ?_ _)⟩
       case measure=>simp[intOf];try omega
def aii(A B:Option Addr)(c d:Nat)(P Q:List Nat)(w:World)(kZ:Sl w A c P)(od:Sl w B d Q)(tP:oi P)(tQ:oi Q)(h1:P.length<=100000000)(_h2:Q.length<=100000000):
 Calls prog 97 #[.slice A P.length c,.slice B Q.length d] w λe w'=>e = .returned (.int .i64 (lf (val P) (val Q)))/\ja w w':=by
 have tP':iT P=P:=tP;have tQ':iT Q=Q:=tQ;by_cases iJ:P.length<Q.length
 .have HV:=anv (Rl (M:=Q) kZ.ok (by rw[tP',tQ'];exact iJ));have kj:((P.length:Int) != (Q.length:Nat))=true:= aN ;generalize P.length=n at *
  generalize Q.length=m at *
  clear kZ od tP' tQ' tP tQ;go_enter func97,ntmps97;go_wp2;go_ret;exact⟨pJ (by rw[HV.out]),ja.refl _⟩
 .by_cases FV:Q.length<P.length
  .have HV:=anv (Rk (L:=P) od.ok (by rw[tP',tQ'];exact FV));have kj:((P.length:Int) != (Q.length:Nat))=true:= aN ;generalize P.length=n at *
   generalize Q.length=m at *
   clear kZ od tP' tQ' tP tQ;go_enter func97,ntmps97;go_wp2;go_ret;exact⟨pJ (by rw[HV.out]),ja.refl _⟩
  .have hl:P.length=Q.length:= aC ;have HL:=anv hl;rw[<-hl];clear hl FV iJ tP' tQ' tP tQ _h2;obtain⟨n,hn⟩:∃ n,n=P.length:=⟨_,rfl⟩
   rw[<-hn]at h1 ⊢;have HN:=anv hn;clear hn;have kj:((n:Int) != (n:Int))=false:= aH ;have okP:=kZ.ok;have CZ:=od.ok;go_enter func97,ntmps97;go_wp2;go_loopw [5] (λi wr=>∃ k:Nat,k<=n/\i = .int .i64 ((k:Int)-1)/\P.drop k=Q.drop k/\ja w wr) (λi _=>(intOf i+1).toNat)
   case atStart=>exact⟨n,bD _,rfl,by rw[eN (by rw[<-HN.out];exact bD _),eN (by rw[<-HL.out,<-HN.out];exact bD _)],ja.refl _⟩
   case round=>
    obtain⟨k,hk,rfl,hd,hb⟩:=hrel;have HD:=anv hd;clear hd;rcases k with _|k
    .go_wp2;go_ret;have e:P=Q:=by simpa using HD.out
     exact⟨pJ (by rw[e];unfold lf;simp),hb⟩
    .have Cn:k<P.length:=by have:=HN.out;omega
     have zD:k<Q.length:=by have:=HN.out;have:=HL.out;omega
     have HP:=anv (bG Cn);have HQ:=anv (bG zD);obtain⟨ab,ao,rfl,_,c1⟩:=(kZ.below hb).nc Cn;obtain⟨bb,bo,rfl,_,c2⟩:=(od.below hb).nc zD;have Jg:(k:Int)<n:= aC ;have oo:(0:Int)<=k:= aC ;have x0:(0:Int)<=P[k]:= aC ;have y0:(0:Int)<=Q[k]:= aC ;generalize P[k]=x at *
     generalize Q[k]=y at *
     clear Cn zD;by_cases qQ:x<y
     .have Np:(x:Int)<y:= aC ;go_wp2;go_quiet (fail);go_wp2;go_ret;have h:=Iy okP HL.out HP.out HQ.out HD.out qQ;exact⟨pJ (by unfold lf;rw[bw h]),below_drewN hb _⟩
     .have Np:¬(x:Int)<y:= aC ;by_cases Nq:y<x
      .have Nr:(y:Int)<x:= aC ;go_wp2;go_quiet (fail);go_wp2;go_quiet (fail);go_wp2;go_ret;have h:=Iy CZ HL.out.symm HQ.out HP.out HD.out.symm Nq;exact⟨pJ (by unfold lf;rw[bu aC,bw h]),below_drewN (below_drewN hb _) _⟩
      .have Nr:¬(y:Int)<x:= aC ;have HX:=anv (aC:x=y);go_wp2;go_quiet (fail);go_wp2;go_quiet (fail);go_wp2;go_roundw
       case rel=>exact⟨k,aC,by go_num,RM HP.out (by rw[HX.out];exact HQ.out) HD.out,by repeat (first|exact hb|refine below_drewN ?_ _)⟩
       case measure=>simp[intOf];try omega
def Lu(A:Option Addr)(c:Nat)(L:List Nat)(w:World)(hs:Sl w A c L):
 Calls prog 260 #[.slice A L.length c] w λe w'=>e = .returned (.slice A L.length L.length)/\w=w':=by
 have hc:=hs.cap;have hl:=hs.rH;go_enter func260,ntmps260;go_wp2;go_ret;exact⟨rfl,rfl⟩
def Sl.Re{w:World}{A:Option Addr}{c:Nat}{L:List Nat}(h:Sl w A c L):Sl w A L.length L:=
 ⟨bD _,bI h.cap h.rH,h.ok,(λe=>by have:=h.yM e;have:=h.cap;omega),h.cell⟩
def Lw(A:Option Addr)(c:Nat)(L:List Nat)(w:World)(hs:Sl w A c L)(hlen:L.length<=100000000):
 Calls prog 204 #[.slice A L.length c] w (xR w L):=by
 have hc:=hs.cap;have hl:=hs.rH;rcases A with _|ad
 .have h0:=hs.yM rfl;subst h0;have:L=[]:=dz aC;subst this;have q:=λ(w:World) (n' c':Nat)=>Lib.run_eql_slice_nil (P:=prog) w 29 _ none 0 0 n' c' underlying29
  simp only[Option.isNone_none]at q;go_enter func204,ntmps204;go_wp2;go_ret;exact⟨none,0,rfl,Sl.nil _,ja.refl _⟩
 .have q:=λ(w:World) (n' c':Nat)=>Lib.run_eql_slice_nil (P:=prog) w 29 _ (some ad) L.length c n' c' underlying29
  simp only[Option.isNone_some]at q;go_enter func204,ntmps204;have mQ:([]:List Nat).length+L.length<=10000000000:= aN ;have h1:=Ow.empty w w.heap.size (bD _);have h2:=hs.alloc (.cells #[] 171);have h3:=xz (w:=w) (bD _) (.cells #[] 171);go_wp2_with (at_builtin;go_must (refine At aG _ _ aG w.heap.size _ [] aG h1 _ _ _ L aG aG h2 mQ h3 ?_);intro v' w' lO hg sT)
  obtain⟨A',c',rfl,qG⟩:=lO.sl;go_ret;exact⟨A',c',rfl,qG,(ja.alloc _ _).grown hg (xz (bD _) _) (λk hk=>by simp[Value.ownBlock]at hk;omega)⟩
def OW(A:Option Addr)(c:Nat)(L:List Nat)(w:World)(hs:Sl w A c L)(hlen:L.length<=100000000):
 Calls prog 227 #[.slice A L.length c] w (xR w (iT L)):=by
 have hc:=hs.cap;have hl:=hs.rH;have fin:∀ k:Nat,k=(iT L).length->Hid (iT L=L.take k):=λk hk=>by rw[hk];exact Ky L
 go_enter func227,ntmps227;go_wp2;go_loop [3] (λi=>∃ k:Nat,k<=L.length/\i = .int .i64 k/\mT L=mT (L.take k)) (λi=>(intOf i).toNat)
 case atStart=>exact⟨L.length,bD _,rfl,aH⟩
 case round=>
  obtain⟨k,hk,rfl,ht⟩:=hrel;have HT:=anv ht;clear ht;have mQ:([]:List Nat).length+(L.take k).length<=10000000000:=by rw[cF];simp;omega
  have HK:=anv (show k=(L.take k).length by rw[cF];omega);have h1:=Ow.empty w w.heap.size (bD _);have h2:=(hs.take k).alloc (.cells #[] 171);have h3:=xz (w:=w) (bD _) (.cells #[] 171);by_cases h0:0<k
  .obtain ⟨ab,ao,rfl,hb,Jt⟩:=hs.nc (i:=k-1) aC ;have e1:((k:Int)-1).toNat=k-1:= aC ;have Z:=anv (PB L (k-1) aC);have NZ:=anv (PA L (k-1) aC);rw[gS h0]at Z NZ;generalize L[k-1]=x at *
   by_cases hx:x=0
   .have Hx:=anv hx;clear hx;have hb:((x:Int)==0)=true:=by have:=Hx.out;simp;omega
    clear fin;go_wp2;go_round
    case rel=>exact⟨k-1,aC,by go_num,by rw[HT.out,Z.out Hx.out]⟩
    case measure=>simp[intOf];omega
   .have hb:((x:Int)==0)=false:= aN ;have F:=fin k (by show k=mT L;rw[HT.out,NZ.out hx]);clear fin;go_wp2_with (at_builtin;go_must (refine At aG _ _ aG w.heap.size _ [] aG h1 _ _ _ (L.take k) aG HK.out h2 mQ h3 ?_);intro v' w' lO hg sT)
    obtain⟨A',c',rfl,qG⟩:=lO.sl;go_ret;rw[F.out];exact⟨A',c',rfl,qG,(ja.alloc _ _).grown hg (xz (bD _) _) (λk hk=>by simp[Value.ownBlock]at hk;omega)⟩
  .have:k=0:= aC ;subst this;have F:=fin 0 (by show 0=mT L;rw[HT.out];rfl);clear fin;go_wp2_with (at_builtin;go_must (refine At aG _ _ aG w.heap.size _ [] aG h1 _ _ _ (L.take 0) aG HK.out h2 mQ h3 ?_);intro v' w' lO hg sT)
   obtain⟨A',c',rfl,qG⟩:=lO.sl;go_ret;rw[F.out];exact⟨A',c',rfl,qG,(ja.alloc _ _).grown hg (xz (bD _) _) (λk hk=>by simp[Value.ownBlock]at hk;omega)⟩
def U9(A:Option Addr)(n c:Nat)(w:World):
 Calls prog 268 #[.slice A n c] w λe w'=>e = .returned (.bool (decide (256<n)))/\w=w':=by
 by_cases h:256<n
 .have h':(256:Int)<n:= aC ;go_enter func268,ntmps268;go_wp2;go_ret;exact⟨by simp[h],rfl⟩
 .have h':¬(256:Int)<n:= aC ;go_enter func268,ntmps268;go_wp2;go_ret;exact⟨aH,rfl⟩
def KY(w:World)(g:Nat)(xs:List (Option Addr×Nat×Nat)):Prop:=∀ i x,xs[i]? = some x->w.cell? ⟨g,i,none⟩=some (.slice x.1 x.2.1 x.2.2)
def xN(xs:List (Option Addr×Nat×Nat)):Bool:=xs.any λx=>decide (256<x.2.1)
def Za(xs:List (Option Addr×Nat×Nat))(w:World)(e:Ending)(w':World):Prop:=
 ∃ n:Int,e = .returned (.int .i64 n)/\(0<=n↔xN xs=true)/\w=w'
def aeS(g:Nat)(xs:List (Option Addr×Nat×Nat))(w:World)(hs:KY w g xs)(hn:xs.length<=1000):
 Calls prog 302 #[.slice (some ⟨g,0,none⟩) xs.length xs.length,.func (.func 268) #[] #[]] w (Za xs w):=by
 go_enter func302,ntmps302;go_wp2;go_loop [8] (λi=>∃ k:Nat,k<=xs.length/\i = .int .i64 k/\xN (xs.take k)=false) (λi=>xs.length-(intOf i).toNat)
 case atStart=>exact⟨0,cz _,rfl,rfl⟩
 case round=>
  obtain⟨k,hk,rfl,ht⟩:=hrel;have HT:=anv ht;clear ht;by_cases h0:k<xs.length
  .have hc:=hs k _ (bG h0);have e1:((k:Int)).toNat=k:= aC ;have ec:=Zm g k;have HX:=anv (show xN (xs.take (k+1))=(xN (xs.take k)||decide (256<xs[k].2.1))by
    unfold xN;rw[gl h0,List.any_append];simp)
   have HM:=anv (cO h0);generalize xs[k]=x at *
   obtain⟨A,n,c⟩:=x;simp only at hc HX;by_cases hx:256<n
   .have hb:decide (256<n)=true:=by simp[hx]
    go_wp2_with (go_at_call 268;refine(U9 A n c _).mono ?_;rw[hb];rintro e w' ⟨rfl,rfl⟩)
    go_ret;refine⟨_,rfl,⟨λ_=>?_,λ_=> aC⟩,rfl⟩;unfold xN;rw[eB];exact⟨_,HM.out,by simpa using hx⟩
   .have hb:decide (256<n)=false:= aN ;go_wp2_with (go_at_call 268;refine(U9 A n c _).mono ?_;rw[hb];rintro e w' ⟨rfl,rfl⟩)
    go_round
    case rel=>exact⟨k+1,aC,by go_num,by rw[HX.out,HT.out,hb];rfl⟩
    case measure=>simp[intOf];omega
  .go_wp2;go_ret;have e:xs.take k=xs:=dk aC;have:=HT.out;rw[e]at this;exact⟨_,rfl,by rw[this];simp,rfl⟩
def abN(g:Nat)(xs:List (Option Addr×Nat×Nat))(w:World)(hs:KY w g xs)(hn:xs.length<=1000):
 Calls prog 267 #[.slice (some ⟨g,0,none⟩) xs.length xs.length,.func (.func 268) #[] #[]] w λe w'=>e = .returned (.bool (xN xs))/\w=w':=by
 have H:=anv (aeS g xs w hs hn);go_enter func267,ntmps267;go_wp2_with fail;refine H.out.mono ?_;rintro e w' ⟨n,rfl,hn,rfl⟩;have HN:=anv hn;clear hn;go_wp2;go_ret;refine⟨Kb ?_,rfl⟩;have:=HN.out;cases h:xN xs<;>simp[h]at this ⊢ <;> omega
def Vb(g:Nat)(xs:List (Option Addr×Nat×Nat))(w:World)(hs:KY w g xs)(hn:xs.length<=1000):
 Calls prog 230 #[.slice (some ⟨g,0,none⟩) xs.length xs.length] w λe w'=>e = .returned (.bool (xN xs))/\w=w':=by
 have H:=anv (abN g xs w hs hn);go_enter func230,ntmps230;go_wp2_with fail;refine H.out.mono ?_;rintro e w' ⟨rfl,rfl⟩;go_wp2;go_ret;exact⟨rfl,rfl⟩
def NP(g:Nat)(A:Option Addr)(n c:Nat)(w:World)(b:Bool)(h:w.cell? ⟨g,0,none⟩=some (.slice A n c))(hb:b=decide (256<n)):
 Calls prog 230 #[.slice (some ⟨g,0,none⟩) 1 1] w λe w'=>e = .returned (.bool b)/\w=w':=by
 have:=Vb g [(A,n,c)] w (λi x hx=>by
  obtain⟨h1,h2⟩:=cw.1 hx;obtain rfl:i=0:=by simp at h1;omega
  simp at h2;subst h2;exact h) aH 
 simpa[xN,hb]using this
def Va(g:Nat)(A B:Option Addr)(n c m d:Nat)(w:World)(b:Bool)(h:w.cell? ⟨g,0,none⟩=some (.slice A n c))(k:w.cell? ⟨g,1,none⟩=some (.slice B m d))(hb:b=(decide (256<n)||decide (256<m))):
 Calls prog 230 #[.slice (some ⟨g,0,none⟩) 2 2] w λe w'=>e = .returned (.bool b)/\w=w':=by
 have:=Vb g [(A,n,c),(B,m,d)] w (λi x hx=>by
  obtain⟨h1,h2⟩:=cw.1 hx;simp at h1;rcases i with _|_|i
  .simp at h2;subst h2;exact h
  .simp at h2;subst h2;exact k
  .omega) aH 
 simpa[xN,hb]using this
def GC(A:Option Addr)(c:Nat)(L:List Nat)(w:World)(hs:Sl w A c L)(hl:(iT L).length<=256):
 Calls prog 231 #[.slice A L.length c] w (Dm w (iT L) 0):=by
 have hT:=anv (vK A c L w hs);have kZ:=hs.uN;have hC:=hs.cap;have hL:=hs.rH;have H2:=anv (λw' (h:Sl w' A c (iT L))=>Lu A c (iT L) w' h);generalize iT L=M at *
 obtain⟨n,hn⟩:∃ n,n=M.length:=⟨_,rfl⟩
 rw[<-hn]at hT hl H2;have HN:=anv hn;clear hn;go_enter func231,ntmps231;go_wp2_with fail;refine hT.out.mono ?_;rintro e w' ⟨rfl,rfl⟩;go_wp2_with fail;refine(NP _ A n c _ false ?_ aN).mono ?_
 .go_simp
 rintro e w' ⟨rfl,rfl⟩;go_wp2_with fail;refine(H2.out _ (kZ.alloc _)).mono ?_;rintro e w' ⟨rfl,rfl⟩;go_wp2;go_ret2;exact⟨A,n,by rw[HN.out];rfl,by have:=kZ.Re.alloc (.cells #[.slice A n c] 29);rw[HN.out]at this ⊢;exact this,ja.alloc _ _⟩
def KA(a b:Nat)(ha:a<18446744073709551616)(hb:b<18446744073709551616):bits .or .u64 (a:Int) (b:Int)=((a |||b:Nat):Int):=by
 have hx:a |||b<2^64:=am6 aC aC 
 have h1:(BitVec.ofInt 64 (a:Int)).toNat=a:=by
  rw[ic,ie];exact cH aC 
 have h2:(BitVec.ofInt 64 (b:Int)).toNat=b:=by
  rw[ic,ie];exact cH aC 
 show IntKind.u64.wrap ((BitVec.ofInt 64 (a:Int) |||BitVec.ofInt 64 (b:Int)).toNat:Int)=_;rw[BitVec.toNat_or,h1,h2,IntKind.wrap_u64];omega
def JU(a b k:Nat)(h:a<2^k):a |||b*2^k=a+b*2^k:=by
 rw[bR,Nat.or_comm,<-Nat.two_pow_add_eq_or_of_lt h];omega
def Sl.drop{w:World}{A:Option Addr}{c:Nat}{L:List Nat}(h:Sl w A c L)(k:Nat):Sl w (A.map (·.add k)) (c-k) (L.drop k):=
 ⟨by have:=h.cap;rw[eV];omega,bI (gH _ _) h.rH,h.ok.drop k,(λe=>by
  rcases A with _|ad
  .rw [h.yM rfl];omega
  .cases e),λi x hx=>by
  rw[dN]at hx;obtain⟨b,o,rfl,h1,h2⟩:=h.cell _ _ hx;exact⟨b,o+k,by rw[cK,B2],h1,by rw[dt];exact h2⟩⟩
def part(T:List Nat)(k:Nat):List Nat:=T.take k++List.replicate (T.length-k) 0
def ahz(T:List Nat):part T 0=List.replicate T.length 0:=by unfold part;simp
def ahx(T:List Nat):part T T.length=T:=by unfold part;simp
def ahy(T:List Nat)(k:Nat)(h:k<T.length):(part T k)[k]? = some 0:=by
 unfold part;rw[et a6,cF,fC,bw aC]
def Wf(T:List Nat)(k x:Nat)(h:T[k]? = some x):(part T k).set k x=part T (k+1):=by
 obtain⟨h1,rfl⟩:=cw.1 h;unfold part;rw[List.set_append_right _ _ a6,cF,dE aC,dq,
  gl h1,(aC:T.length-k=(T.length-(k+1))+1),List.replicate_succ,List.set_cons_zero,gY]
 rfl
def ajN(x y s:Nat)(hx:x<4294967296)(hy:y<4294967296):
 bits BinOp.or IntKind.u64 (x:Int) ((y:Int)*4294967296)/2^s%4294967296=(((x+4294967296*y)/2^s%4294967296:Nat):Int):=by
 have e:((y:Int)*4294967296)=((y*2^32:Nat):Int):= aH ;rw[e,KA x (y*2^32) aC aC,JU x y 32 aC];simp[bR]
def ajO(x s:Nat):(x:Int)/2^s%4294967296=(((x+4294967296*0)/2^s%4294967296:Nat):Int):=by
 simp
def Ob(A:Option Addr)(c:Nat)(L:List Nat)(n:Nat)(w:World)(hs:Sl w A c L)(hlen:L.length<=100000000)(hn:n<=65536):
 Calls prog 232 #[.slice A L.length c,.int .i64 n] w (xR w (qX (n%32) ((iT L).drop (n/32)))):=by
 have hT:=anv (vK A c L w hs);have kZ:=hs.uN;have oD:=pW L;have hC:=kZ.cap;have hL:=hs.rH;unfold mT at oD;generalize iT L=M at *
 obtain⟨m,hm⟩:∃ m,m=M.length:=⟨_,rfl⟩
 rw[<-hm]at hT oD hC;have HM:=anv hm;clear hm;by_cases h0:m<=n/32
 .go_enter func232,ntmps232;go_wp2_with fail;refine hT.out.mono ?_;rintro e w' ⟨rfl,rfl⟩;go_wp2;go_ret;have:M.drop (n/32)=[]:=eN (by rw[<-HM.out];exact h0);rw[this];exact⟨none,0,rfl,Sl.nil _,ja.refl _⟩
 .obtain ⟨ab,ao,rfl,_,_⟩:=kZ.nc (i:=0) (by have:=HM.out;omega);have hK:=kZ.drop (n/32);have vq:=anv (show m-n/32=(M.drop (n/32)).length by rw[eV,HM.out]);have oP:n/32<c:= aC ;have wq:=Gt (m-n/32) aC;have q8:0<m-n/32:= aC ;have yg:m-n/32<=100000000:= aC ;generalize M.drop (n/32)=K at *
  simp only[cK,B2]at hK;have A5:=anv (Kl (n%32) K);have My:=anv (XT (n%32) K);have FP:=anv (By (n%32) K);generalize qX (n%32) K=T at *
  go_enter func232,ntmps232;go_wp2_with fail;refine hT.out.mono ?_;rintro e w' ⟨rfl,rfl⟩;go_wp2;go_loopw [25] (λi wr=>∃ k:Nat,k<=m-n/32/\i = .int .i64 k/\Rw wr w.heap.size (part T k)/\ja w wr) (λi _=>m-n/32-(intOf i).toNat)
  case atStart=>
   refine⟨0,cz _,rfl,?_,ja.alloc _ _⟩;rw[ahz,A5.out,<-vq.out];exact Rw.Bq _ _
  case round=>
   obtain⟨k,hk,rfl,hR,hb⟩:=hrel;by_cases iJ:k<m-n/32
   .have vu:k<K.length:=by have:=vq.out;omega
    obtain⟨ab',ao',e',_,c1⟩:=(hK.below hb).nc vu;cases e';have hg:=My.out k vu;have nV:K[k]<4294967296:=hK.ok.get vu;have HK:=anv (bG vu);have c3:=hR.cell (ahy T k (by have:=A5.out;omega));have c4:=hR.frozen k;by_cases Jh:k+1<m-n/32
    .have zC:k+1<K.length:=by have:=vq.out;omega
     obtain⟨ab',ao',e',_,c2⟩:=(hK.below hb).nc zC;cases e';have hy:K.getD (k+1) 0=K[k+1]:=by rw[bC,bG zC];rfl
     rw[hy]at hg;have rG:K[k+1]<4294967296:=hK.ok.get zC;have HG:=anv hg;clear hg hy;generalize K[k]=x at *
     generalize K[k+1]=y at *
     clear vu zC;go_wp2;go_roundw
     case rel=>
      rw[ajN x y (n%32) nV rG];exact⟨k+1,aC,by go_num,by rw[<-Wf T k _ HG.out];exact hR.set k _,hb.setCell (bD _) _⟩
     case measure=>simp[intOf];omega
    .have hy:K.getD (k+1) 0=0:=by rw[bC,cE (by have:=vq.out;omega)];rfl
     rw[hy]at hg;have HG:=anv hg;clear hg hy;generalize K[k]=x at *
     clear vu;go_wp2;go_roundw
     case rel=>
      rw[ajO x (n%32)];exact⟨k+1,aC,by go_num,by rw[<-Wf T k _ HG.out];exact hR.set k _,hb.setCell (bD _) _⟩
     case measure=>simp[intOf];omega
   .go_wp2;go_ret;obtain rfl:k=m-n/32:= aC ;rw[vq.out,<-A5.out,ahx]at hR;have:=hR.sl FP.out (by have:=A5.out;have:=vq.out;omega);rw[A5.out,<-vq.out]at this;exact⟨_,_,by rw[A5.out,<-vq.out];rfl,this,hb⟩
def ajM{L:List Nat}(h:iY L)(n:Nat):iT (qX (n%32) ((iT L).drop (n/32)))=im (val L/2^n):=by
 rw[sG (By _ _),KF h.iT,qv]
def P6(w:World)(A:Option Addr)(n c:Nat):(w.alloc (.cells #[.slice A n c] 29)).cell? ⟨w.heap.size,0,none⟩=some (.slice A n c):=by
 rw[World.cell?_alloc_at _ _ _ _ rfl];rfl
def P7(w:World)(A B:Option Addr)(n c m d:Nat):(w.alloc (.cells #[.slice A n c,.slice B m d] 29)).cell? ⟨w.heap.size,0,none⟩=some (.slice A n c):=by
 rw[World.cell?_alloc_at _ _ _ _ rfl];rfl
def P8(w:World)(A B:Option Addr)(n c m d:Nat):(w.alloc (.cells #[.slice A n c,.slice B m d] 29)).cell? ⟨w.heap.size,1,none⟩=some (.slice B m d):=by
 rw[World.cell?_alloc_at _ _ _ _ rfl];rfl
def VM(A:Option Addr)(c:Nat)(L:List Nat)(n:Nat)(w:World)(hs:Sl w A c L)(hlen:L.length<=256)(hn:n<=65536):
 Calls prog 175 #[.slice A L.length c,.int .i64 n] w (Dm w (im (val L/2^n)) 0):=by
 have hf:decide (256<L.length)=false:= aN ;have h3:=anv (ajM hs.ok n);have h4:(iT (qX (n%32) ((iT L).drop (n/32)))).length<=256:=by
  have h1:=pW (qX (n%32) ((iT L).drop (n/32)));unfold mT at h1;rw[Kl,eV]at h1;have h2:=pW L;unfold mT at h2;omega
 have H1:=anv (λw (h:Sl w A c L)=>Ob A c L n w h aC hn);generalize qX (n%32) ((iT L).drop (n/32))=T at *
 go_enter func175,ntmps175;go_wp2_with fail;refine(NP _ A _ c _ false (P6 _ _ _ _) aN).mono ?_;rintro e w' ⟨rfl,rfl⟩;go_wp2_with fail;refine(H1.out _ (hs.alloc _)).mono ?_;rintro e w' ⟨A',c',rfl,qG,hb⟩;go_wp2_with fail;refine(GC A' c' T _ qG h4).mono ?_;rintro e w'' ⟨A'',c'',rfl,vy,nR⟩;go_wp2;go_ret2;rw[<-h3.out];exact⟨A'',c'',rfl,vy,(ja.alloc _ _).trans (hb.trans nR)⟩
def Vk(n c:Nat)(hc:n<=c)(hn:c<=10000000000)(w:World):
 (Instr.makeSlice 29 (.int .i64 (n:Int)) (.int .i64 (c:Int))).run prog w = .ok (.slice (some ⟨w.heap.size,0,none⟩) n c) (w.alloc (.cells (oM (List.replicate c 0)).toArray 171)):=by
 obtain⟨i,hi,hz,h1,h2⟩:=info_parts Nw;have hr:=run_make (P:=prog) w 29 171 i _ underlying29 hi hz .i64 .i64 n c aC aC (by rw[h2];omega) aC;rw[hr,gv,gv,h1,cI];refine congrArg (λcs=>Result.ok (Value.slice (some ⟨w.heap.size,0,none⟩) n c) (w.alloc (.cells cs 171))) ?_;apply Array.ext
 .simp [madeCells,oM]
 .intro i h1 h2;simp[madeCells,oM,Value.cells,dX]
def Ow.Bq(w:World)(base n c:Nat)(hb:base<=w.heap.size)(hc:n<=c)(hn:c<=10000000000):
 Ow (w.alloc (.cells (oM (List.replicate c 0)).toArray 171)) base (.slice (some ⟨w.heap.size,0,none⟩) n c) (List.replicate n 0):=
 ⟨⟨by simp[oM],.inr ⟨w.heap.size,c,_,aH,hb,heap_alloc_new w _,by simpa using hc,by simp only[maxLen];omega,by simp[oM],by
  simp[oM,List.take_replicate,dE hc]⟩⟩,iY.EB n⟩
def ja.own{w w1 w2:World}(h:ja w w1)(v:Value)(L:List Nat)(ho:Ow w1 w.heap.size v L)(hg:w1.grownBy w2 v.ownBlock):ja w w2:=
 h.grown hg h.size (λk hk=>(ho.row.lt k hk).1)
def XP(x q s:Nat)(hx:x<4294967296)(hs:s<32)(hq:q<2^s):
 bits BinOp.or IntKind.u64 (IntKind.u64.wrap ((x:Int)*2^s)) (q:Int)=((x*2^s+q:Nat):Int)/\x*2^s+q<18446744073709551616/\(x*2^s+q)/4294967296<2^s:=by
 have hp:2^s<=2^31:=bY aE aC;have e31:(2:Nat)^31=2147483648:= aE ;have h1:(x+1)*2^s<=4294967296*2^s:=bW _ hx;rw[cj,ct]at h1;have h2:x*2^s<4294967296*2^s:=dF hx (bJ aE);refine⟨?_,aC,aC⟩;have e:((x:Int)*2^s)=((x*2^s:Nat):Int):= aH ;rw[e,IntKind.wrap_u64,show((x*2^s:Nat):Int)%18446744073709551616=((x*2^s:Nat):Int)by omega,KA _ _ aC aC,Nat.or_comm,JU q x s hq,Nat.add_comm]
def VQ(A:Option Addr)(c:Nat)(L:List Nat)(n:Nat)(w:World)(hs:Sl w A c L)(hlen:L.length<=100000000)(hn:n<=65536):
 Calls prog 293 #[.slice A L.length c,.int .i64 n] w (λe w'=>∃ T,val T=val L*2^n/\iY T/\T.length=n/32+(iT L).length+1/\xR w T e w'):=by
 have hT:=anv (vK A c L w hs);have kZ:=hs.uN;have oD:=pW L;have hC:=kZ.cap;have hL:=hs.rH;unfold mT at oD;have hv:=anv (qv L);generalize iT L=M at *
 obtain⟨m,hm⟩:∃ m,m=M.length:=⟨_,rfl⟩
 rw[<-hm]at hT oD hC;have HM:=anv hm;clear hm;have wq:=Vk (n/32) (n/32+m+1) aC aC;rw[show((n/32:Nat):Int)=n/32 by omega,show((n/32+m+1:Nat):Int)=n/32+m+1 by omega]at wq;have Ms:=anv (Ow.Bq w w.heap.size (n/32) (n/32+m+1) (bD _) aC aC);go_enter func293,ntmps293;go_wp2_with fail;refine hT.out.mono ?_;rintro e w' ⟨rfl,rfl⟩;go_wp2;go_loopw [5,6,23] (λv cy i wr=>∃ (k q:Nat) (O:List Nat),k<=m/\i = .int .i64 k/\cy = .int .u64 q/\q<2^(n%32)/\O.length=n/32+k/\val O+4294967296^(n/32+k)*q=val (M.take k)*2^(n%32)*4294967296^(n/32)/\Ow wr w.heap.size v O/\ja w wr) (λ_ _ i _=>m-(intOf i).toNat)
 case atStart=>
  exact⟨0,0,List.replicate (n/32) 0,cz _,rfl,rfl,bJ aE,aH,by simp[Dh],Ms.out,ja.alloc _ _⟩
 case round=>
  obtain⟨k,q,O,hk,rfl,rfl,hq,hO,my,oQ,hb⟩:=hrel;have HV:=anv my;have HO:=anv hO;have SG:O.length<=200000000:= aC ;have zG:=anv hq;clear my hO hq;obtain⟨OA,Oc,rfl,Cq⟩:=oQ.sl;by_cases iJ:k<m
  .have Cm:k<M.length:=by have:=HM.out;omega
   obtain⟨ab,ao,rfl,_,c1⟩:=(kZ.below hb).nc Cm;have nV:M[k]<4294967296:=kZ.ok.get Cm;have HX:=anv (XO (c:=q) (s:=n%32) (n0:=n/32) Cm HO.out HV.out);generalize M[k]=x at *
   obtain⟨hw,yB,zL⟩:=XP x q (n%32) nV (bS _ aE) zG.out;generalize x*2^(n%32)+q=z at *
   have Gg:=anv zL;clear zL;have mQ:O.length+[z%4294967296].length<=10000000000:= aN ;go_wp2_with (at_builtin;go_must (refine At aG _ _ aG w.heap.size _ O aG (oQ.alloc _) _ _ _ [z%4294967296] aG aG (Sl.Ep _ _ (z%4294967296) aC aC) mQ (xz hb.size _) ?_);intro v' w1 xn hg sT)
   go_roundw
   case rel=>
    exact⟨k+1,z/4294967296,O++[z%4294967296],aC,by go_num,by go_num,Gg.out,by rw[cg,HO.out];rfl,HX.out,xn,(hb.trans (ja.alloc _ _)).own _ _ (oQ.alloc _) hg⟩
   case measure=>simp[intOf];omega
  .obtain rfl:k=m:= aC ;have mQ:O.length+[q].length<=10000000000:= aN ;have aeH:q<4294967296:=by
    have:=zG.out;have hp:2^(n%32)<=2^31:=bY aE aC;have e31:(2:Nat)^31=2147483648:= aE ;omega
   have hqm:(q:Int)%4294967296=q:= aC ;go_wp2_with (at_builtin;go_must (refine At aG _ _ aG w.heap.size _ O aG (oQ.alloc _) _ _ _ [q] aG aG (Sl.Ep _ _ q aC aC) mQ (xz hb.size _) ?_);intro v' w1 xn hg sT)
   obtain⟨A',c',rfl,qG⟩:=xn.sl;go_ret;refine⟨O++[q],?_,qG.ok,by rw[cg,HO.out,<-HM.out];rfl,A',c',rfl,qG,(hb.trans (ja.alloc _ _)).own _ _ (oQ.alloc _) hg⟩;have h:=HV.out;rw[dk (by rw[HM.out];exact bD _)]at h;rw[BV,HO.out,sI,KE,dg,ch,h,<-hv.out,uG,bN,<-bH];congr 2;omega
def VJ(A:Option Addr)(c:Nat)(L:List Nat)(n:Nat)(w:World)(hs:Sl w A c L)(hlen:L.length<=256)(hn:n<=65536)(rE:(im (val L*2^n)).length<=256):
 Calls prog 261 #[.slice A L.length c,.int .i64 n] w (Dm w (im (val L*2^n)) 0):=by
 have H1:=anv (λw (h:Sl w A c L)=>VQ A c L n w h aC hn);obtain⟨R,hR⟩:∃ R,R=im (val L*2^n):=⟨_,rfl⟩
 rw[<-hR]at rE ⊢;have HR:=anv hR;clear hR;go_enter func261,ntmps261;go_wp2_with fail;refine(NP _ A _ c _ false (P6 _ _ _ _) aN).mono ?_;rintro e w' ⟨rfl,rfl⟩;go_wp2_with fail;refine(H1.out _ (hs.alloc _)).mono ?_;rintro e w' ⟨T,hT,FP,-,A',c',rfl,qG,hb⟩;have h3:=anv (show iT T=R by rw[sG FP,hT,HR.out]);clear hT FP;go_wp2_with fail;refine(GC A' c' T _ qG (by rw[h3.out];exact rE)).mono ?_;rintro e w'' ⟨A'',c'',rfl,vy,nR⟩;go_wp2;go_ret2;rw[<-h3.out];exact⟨A'',c'',rfl,vy,(ja.alloc _ _).trans (hb.trans nR)⟩
def ajK(A:Option Addr)(c:Nat)(L:List Nat)(n:Nat)(w:World)(hs:Sl w A c L)(hlen:L.length<=256)(hn:n<=65536)(rE:(im (val L*2^n)).length<=256):
 Calls prog 220 #[.slice A L.length c,.int .i64 n] w (xR w (im (val L*2^n))):=by
 have H1:=anv (VJ A c L n w hs hlen hn rE);generalize im (val L*2^n)=R at *
 go_enter func220,ntmps220;go_wp2_with fail;refine H1.out.mono ?_;rintro e w'' ⟨A'',c'',rfl,vy,nR⟩;go_wp2;go_ret;exact⟨A'',c'',rfl,vy,nR⟩
def alo(a b:Nat)(ha:a<18446744073709551616)(hb:b<18446744073709551616):bits .and .u64 (a:Int) (b:Int)=((a &&& b:Nat):Int):=by
 have hx:a &&& b<2^64:=fT _ aC;have h1:(BitVec.ofInt 64 (a:Int)).toNat=a:=by
  rw[ic,ie];exact cH aC 
 have h2:(BitVec.ofInt 64 (b:Int)).toNat=b:=by
  rw[ic,ie];exact cH aC 
 show IntKind.u64.wrap ((BitVec.ofInt 64 (a:Int) &&& BitVec.ofInt 64 (b:Int)).toNat:Int)=_;rw[BitVec.toNat_and,h1,h2,IntKind.wrap_u64];omega
def Fa(z:Nat)(hz:z<18446744073709551616):bits BinOp.and IntKind.u64 (z:Int) 4294967295=(z:Int)%4294967296:=by
 have e:(4294967295:Int)=((4294967295:Nat):Int):=rfl;rw[e,alo z _ hz aC,show(4294967295:Nat)=2^32-1 by decide,anl];simp
def ajQ(x y s:Nat)(hx:x<4294967296)(hy:y<4294967296):
 bits BinOp.and IntKind.u64 (bits BinOp.or IntKind.u64 (x:Int) ((y:Int)*4294967296)/2^s) 4294967295=(((x+4294967296*y)/2^s%4294967296:Nat):Int):=by
 have e:((y:Int)*4294967296)=((y*2^32:Nat):Int):= aH ;rw[e,KA x (y*2^32) aC aC,JU x y 32 aC];have h:(x+y*2^32)/2^s<18446744073709551616:=cP (cv _ _) aC;have h2:=Fa _ h;rw[show(((x+y*2^32:Nat):Int)/2^s)=(((x+y*2^32)/2^s:Nat):Int)by simp,h2];simp[bR]
def ajP(x s:Nat)(hx:x<4294967296):bits BinOp.and IntKind.u64 ((x:Int)/2^s) 4294967295=(((x+4294967296*0)/2^s%4294967296:Nat):Int):=by
 have h:x/2^s<18446744073709551616:=cP (cv _ _) aC;rw[show((x:Int)/2^s)=((x/2^s:Nat):Int)by simp,Fa _ h];simp
def aiq(A:Option Addr)(c:Nat)(M:List Nat)(n:Nat)(w:World)(kZ:Sl w A c M)(hlen:M.length<=3000)(hn:n<=100000):
 Calls prog 229 #[.slice A M.length c,.int .i64 n] w (xR w (im (val M/2^n))):=by
 have hC:=kZ.cap;have hL:=kZ.rH;have MT:Hid (iT (qX (n%32) (M.drop (n/32)))=im (val M/2^n)):=by
  show _=_;rw[sG (By _ _),KF kZ.ok]
 obtain⟨R,hR⟩:∃ R,R=im (val M/2^n):=⟨_,rfl⟩
 rw[<-hR]at MT ⊢;clear hR;obtain⟨m,hm⟩:∃ m,m=M.length:=⟨_,rfl⟩
 rw[<-hm]at hlen hC ⊢;have HM:=anv hm;clear hm;by_cases h0:m<=n/32
 .go_enter func229,ntmps229;go_wp2;go_ret;have:M.drop (n/32)=[]:=eN (by rw[<-HM.out];exact h0);have h:=MT.out;rw[this]at h;rw[<-h];exact⟨none,0,rfl,Sl.nil _,ja.refl _⟩
 .obtain ⟨ab,ao,rfl,_,_⟩:=kZ.nc (i:=0) (by have:=HM.out;omega);have hK:=kZ.drop (n/32);have vq:=anv (show m-n/32=(M.drop (n/32)).length by rw[eV,HM.out]);have oP:n/32<c:= aC ;have q8:0<m-n/32:= aC ;have yg:m-n/32<=3000:= aC ;generalize M.drop (n/32)=K at *
  simp only[cK,B2]at hK;have A5:=anv (Kl (n%32) K);have My:=anv (XT (n%32) K);have FP:=anv (By (n%32) K);generalize qX (n%32) K=T at *
  go_enter func229,ntmps229;go_wp2;go_loopw [5,6] (λv i wr=>∃ (k:Nat) (O:List Nat),k<=m-n/32/\i = .int .i64 k/\O=T.take k/\Ow wr w.heap.size v O/\ja w wr) (λ_ i _=>m-n/32-(intOf i).toNat)
  case atStart=>
   exact⟨0,[],cz _,rfl,aH,Ow.nil _ _,ja.refl _⟩
  case round=>
   obtain⟨k,O,hk,rfl,hO,oQ,hb⟩:=hrel;have SG:O.length<=3000:=by rw[hO,cF];omega
   have HO:=anv hO;clear hO;obtain⟨OA,Oc,rfl,Cq⟩:=oQ.sl;by_cases iJ:k<m-n/32
   .have vu:k<K.length:=by have:=vq.out;omega
    obtain⟨ab',ao',e',_,c1⟩:=(hK.below hb).nc vu;cases e';have hg:=My.out k vu;have nV:K[k]<4294967296:=hK.ok.get vu;have HK:=anv (bG vu);by_cases Jh:k+1<m-n/32
    .have zC:k+1<K.length:=by have:=vq.out;omega
     obtain⟨ab',ao',e',_,c2⟩:=(hK.below hb).nc zC;cases e';have hy:K.getD (k+1) 0=K[k+1]:=by rw[bC,bG zC];rfl
     rw[hy]at hg;have rG:K[k+1]<4294967296:=hK.ok.get zC;have HG:=anv hg;clear hg hy;generalize K[k]=x at *
     generalize K[k+1]=y at *
     clear vu zC;have hw:=ajQ x y (n%32) nV rG;have hz:(x+4294967296*y)/2^(n%32)%4294967296<4294967296:=bS _ aE;generalize (x+4294967296*y)/2^(n%32)%4294967296=z at *
     have mQ:O.length+[z].length<=10000000000:= aN ;go_wp2_with (at_builtin;go_must (refine At aG _ _ aG w.heap.size _ O aG (oQ.alloc _) _ _ _ [z] aG aG (Sl.Ep _ _ z aC aC) mQ (xz hb.size _) ?_);intro v' w1 xn hg sT)
     go_roundw
     case rel=>
      exact⟨k+1,O++[z],aC,by go_num,by rw[HO.out,am7,HG.out];rfl,xn,(hb.trans (ja.alloc _ _)).own _ _ (oQ.alloc _) hg⟩
     case measure=>simp[intOf];omega
    .have hy:K.getD (k+1) 0=0:=by rw[bC,cE (by have:=vq.out;omega)];rfl
     rw[hy]at hg;have HG:=anv hg;clear hg hy;generalize K[k]=x at *
     clear vu;have hw:=ajP x (n%32) nV;have hz:(x+4294967296*0)/2^(n%32)%4294967296<4294967296:=bS _ aE;generalize (x+4294967296*0)/2^(n%32)%4294967296=z at *
     have mQ:O.length+[z].length<=10000000000:= aN ;go_wp2_with (at_builtin;go_must (refine At aG _ _ aG w.heap.size _ O aG (oQ.alloc _) _ _ _ [z] aG aG (Sl.Ep _ _ z aC aC) mQ (xz hb.size _) ?_);intro v' w1 xn hg sT)
     go_roundw
     case rel=>
      exact⟨k+1,O++[z],aC,by go_num,by rw[HO.out,am7,HG.out];rfl,xn,(hb.trans (ja.alloc _ _)).own _ _ (oQ.alloc _) hg⟩
     case measure=>simp[intOf];omega
   .have hOT:Hid (iT O=R):=by
     show iT O=R;rw[HO.out,dk (by rw[A5.out,<-vq.out];omega)];exact MT.out
    go_wp2_with fail;refine(OW OA Oc O _ Cq aC).mono ?_;rintro e w' ⟨A'',c'',rfl,vy,nR⟩;go_wp2;go_ret;rw[<-hOT.out];exact⟨A'',c'',rfl,vy,hb.trans nR⟩
def Mg{L:List Nat}{k:Nat}(h:k<L.length):L.getD k 0=L[k]:=by
 rw[bC,bG h];rfl
def Mf{L:List Nat}{k:Nat}(h:¬k<L.length):L.getD k 0=0:=by
 rw[bC,cE aC];rfl
def ali(x s:Nat)(hx:x<4294967296):bits BinOp.and IntKind.u32 ((x:Int)/2^s) 1=((x/2^s%2:Nat):Int):=by
 have h:x/2^s<4294967296:=cP (cv _ _) aC;rw[show((x:Int)/2^s)=((x/2^s:Nat):Int)by simp,show(1:Int)=((1:Nat):Int)from rfl,bits_and_u32_nat _ _ h aE,Nat.and_one_is_mod]
def ait(A:Option Addr)(c:Nat)(L:List Nat)(w:World)(hs:Sl w A c L)(h1:L.length<=3000)(h0:val L≠0):
 Calls prog 228 #[.slice A L.length c] w λe w'=>e = .returned (.int .i64 (jX (val L)))/\w=w':=by
 have hz:=Fo hs.ok h0;have HB:=anv (λk (hk:k<jX (val L))=>aao h0 hk);have HE:=anv (aan h0);have HV:=anv (λk=>aap hs.ok k);generalize jX (val L)=t at *
 go_enter func228,ntmps228;go_wp2;go_loop [3] (λi=>∃ k:Nat,k<=t/\i = .int .i64 k) (λi=>t-(intOf i).toNat)
 case atStart=>exact⟨0,cz _,rfl⟩
 case round=>
  obtain⟨k,hk,rfl⟩:=hrel;have MY:k/32<L.length:= aC ;obtain⟨ab,ao,rfl,_,c1⟩:=hs.nc MY;have hv:=HV.out k MY;have nV:L[k/32]<4294967296:=hs.ok.get MY;generalize L[k/32]=x at *
  clear HV;have Ci:=ali x (k%32) nV;rw[<-hv]at Ci;clear hv;by_cases hkt:k<t
  .rw [HB.out k hkt]at Ci;have hb:(bits BinOp.and IntKind.u32 ((x:Int)/2^(k%32)) 1==0)=true:=by rw[Ci];rfl
   clear Ci;go_wp2;go_round
   case rel=>exact⟨k+1,aC,by go_num⟩
   case measure=>simp[intOf];omega
  .obtain rfl:k=t:= aC ;rw[HE.out]at Ci;have hb:(bits BinOp.and IntKind.u32 ((x:Int)/2^(k%32)) 1==0)=false:=by rw[Ci];rfl
   clear Ci;go_wp2;go_ret;exact⟨rfl,rfl⟩
def VE{O:List Nat}{p a b c o:Nat}(ho:O[p]? = some o):
 val (O.set p ((a*b+o+c)%4294967296))+4294967296^(p+1)*((a*b+o+c)/4294967296)=val O+4294967296^p*c+4294967296^p*(a*b):=by
 obtain⟨hp,rfl⟩:=cw.1 ho;have h:=PJ (x:=(a*b+O[p]+c)%4294967296) hp;have e:=congrArg (4294967296^p * ·) (fi (a*b+O[p]+c) 4294967296);simp only[b9]at e;rw[bQ,bN];omega
def Q5{O:List Nat}{p c o:Nat}(ho:O[p]? = some o):
 val (O.set p ((o+c)%4294967296))+4294967296^(p+1)*((o+c)/4294967296)=val O+4294967296^p*c:=by
 have h:=VE (a:=0) (b:=0) (c:=c) ho;simpa using h
def sH(x:Nat)(h:x<18446744073709551616):IntKind.u64.wrap (x:Int)=x:=by rw[IntKind.wrap_u64];omega
def Fp.iY.XL{L:List Nat}(h:iY L)(k:Nat)(x:Nat):iY (L.set k (x%4294967296)):=h.set k (bS _ aE)
def OV(s:Bool)(A:Option Addr)(c:Nat)(L:List Nat)(e:Int)(w:World)(hs:Sl w A c L)(hlen:L.length<=3000)(mP:-1000000<=e)(lW:e<=1000000):
 Calls prog 169 #[.bool s,.slice A L.length c,.int .i64 e] w (yZ w (canon s (val L) e)):=by
 by_cases h0:val L=0
 .have oO:=anv (show canon s (val L) e=iS by unfold canon;rw[bw h0];rfl);have Ng:iT L=[]:=by rw[sG hs.ok,h0,px]
  have hT:=anv (λw (h:Sl w A c L)=>OW A c L w h aC);rw[Ng]at hT;clear Ng h0;go_enter func169,ntmps169;go_wp2_with fail;refine(hT.out _ (hs.alloc _)).mono ?_;rintro e w' ⟨A',c',rfl,qG,hb⟩;have bx:=(jV.new w false none 0 0 0).ext hb;have b0:=bx.c0;have b1:=bx.c1;have b2:=bx.c2;have f0:=bx.fr 0;have f1:=bx.fr 1;have f2:=bx.fr 2;go_wp2;rw[oO.out];have hz:im iS.m=[]:=px;exact zg rfl rfl rfl (bx.set _ _ _ _ _) (by rw[hz];rfl) (by rw[hz];exact bx.vR (Sl.nil _) _ _ _ _ _) (jV.uK ((ja.alloc _ _).trans hb) (bD _) _ _ _ _ _)
 .have oO:=anv (show canon s (val L) e=⟨s,val L/2^jX (val L),e+jX (val L)⟩by unfold canon;rw[bu h0]);have hT:=anv (λw (h:Sl w A c L)=>OW A c L w h aC);have TK:=pW L;unfold mT at TK;have hv:=qv L;have mv:=hs.ok.iT;generalize iT L=M at *
  rw[<-hv]at h0 oO ⊢;clear hv;have hZ:=anv (λA c w (h:Sl w A c M)=>ait A c M w h aC h0);have uw:jX (val M)<=100000:=by have:=Fo mv h0;omega
  have hR:=anv (λA c w (h:Sl w A c M)=>aiq A c M (jX (val M)) w h aC uw);have tK:M.length≠0:=by intro h;rw[dz h]at h0;exact h0 rfl
  generalize val M/2^jX (val M)=q at *
  generalize jX (val M)=t at *
  obtain⟨m,hm⟩:∃ m,m=M.length:=⟨_,rfl⟩
  go_enter func169,ntmps169;go_wp2_with fail;refine(hT.out _ (hs.alloc _)).mono ?_;rintro e' w1 ⟨A1,c1,rfl,vz,kR⟩;go_wp2_with fail;refine(hZ.out _ _ _ vz).mono ?_;rintro e' w2 ⟨rfl,rfl⟩;go_wp2_with fail;refine(hR.out _ _ _ vz).mono ?_;rintro e' w2 ⟨A2,c2,rfl,kZ,oc⟩;have hb:=kR.trans oc;have bx:=(jV.new w false none 0 0 0).ext hb;have b0:=bx.c0;have b1:=bx.c1;have b2:=bx.c2;have f0:=bx.fr 0;have f1:=bx.fr 1;have f2:=bx.fr 2;go_wp2;rw[oO.out];exact zg rfl rfl rfl (bx.set _ _ _ _ _) rfl (bx.vR kZ _ _ _ _ _) (jV.uK ((ja.alloc _ _).trans hb) (bD _) _ _ _ _ _)
def acp(A:Option Addr)(c:Nat)(L:List Nat)(w:World)(hs:Sl w A c L)(h1:L.length<=3000)(h0:val L≠0)(hT:Tb w):
 Calls prog 259 #[.slice A L.length c] w λe w'=>e = .returned (.int .i64 (jX (val L)))/\w=w':=by
 have mv:=hs.ok;have HV:=anv (λi hi h hx=>abQ mv i hi h hx);have H0:=anv h0;clear h0;go_enter func259,ntmps259;go_wp2;go_loop [3,8] (λn i=>∃ k:Nat,k<=L.length/\i = .int .i64 k/\n = .int .i64 ((32*k:Nat):Int)/\∀ j,(hj:j<k)->L[j]? = some 0) (λ_ i=>L.length-(intOf i).toNat)
 case atStart=>exact⟨0,cz _,rfl,rfl,λj hj=> aC⟩
 case round=>
  obtain⟨k,hk,rfl,rfl,hz⟩:=hrel;have HZ:=anv hz;clear hz;by_cases iJ:k<L.length
  .obtain ⟨ab,ao,rfl,_,c1⟩:=hs.nc iJ;have nV:L[k]<4294967296:=mv.get iJ;have HG:=anv (bG iJ);have HC:=anv (λhx=>HV.out k iJ (λj hj=>by have:=HZ.out j hj;rw[bG aC]at this;simpa using this) hx);clear HV;generalize L[k]=x at *
   by_cases hx:x=0
   .have HX:=anv hx;clear hx;have hb:((x:Int) != 0)=false:=by have:=HX.out;simp;omega
    go_wp2;go_round
    case rel=>exact⟨k+1,aC,by go_num,by go_num,λj hj=>by
     by_cases e:j=k
     .subst e;rw[HG.out,HX.out]
     .exact HZ.out j aC⟩
    case measure=>simp[intOf];omega
   .have hb:((x:Int) != 0)=true:= aN ;have HX:=anv (HC.out hx);have ame:jX x<=32:=by
     have h1:=JY hx;rcases gp 32 (jX x)with h|h
     .have:=ig (a:=2) aE h;have e:(2:Nat)^32=4294967296:= aE ;omega
     .exact h
    go_wp2_with (go_at_call 292;refine(alf x hx nV _ hT).mono ?_;rintro e w' ⟨rfl,rfl⟩)
    go_ret;exact⟨pJ (by rw[HX.out];simp),rfl⟩
  .exfalso;have:val L=0:=by
    rw[Hq];intro y hy;obtain⟨j,hj,rfl⟩:=List.getElem_of_mem hy;have:=HZ.out j aC;rw[bG hj]at this;simpa using this
   exact H0.out this
def IF(s:Bool)(A:Option Addr)(c:Nat)(L:List Nat)(e:Int)(w:World)(hs:Sl w A c L)(_hlen:L.length<=100000)(oD:(iT L).length<=256)(mP:-1000000<=e)(lW:e<=1000000)(uq:Tb w):
 Calls prog 219 #[.bool s,.slice A L.length c,.int .i64 e] w (yZ w (canon s (val L) e)):=by
 have hT:=anv (λw (h:Sl w A c L)=>acu A c L w h);have kZ:=hs.uN;have hv:=qv L;have mv:=hs.ok.iT;have Cx:=Ao L;generalize iT L=M at *
 rw[<-hv];clear hv;by_cases h0:val M=0
 .have oO:=anv (show canon s (val M) e=iS by unfold canon;rw[bw h0];rfl);have tK:Hid (M.length=0):=by
   show M.length=0;rw[Cx.IJ mv,h0,px];rfl
  obtain⟨m,hm⟩:∃ m,m=M.length:=⟨_,rfl⟩
  rw[<-hm]at hT tK;clear hm h0;obtain rfl:m=0:=tK.out;clear tK;go_enter func219,ntmps219;go_wp2_with fail;refine(hT.out _ (hs.alloc _)).mono ?_;rintro e w' ⟨rfl,rfl⟩;have bx:=jV.new w false none 0 0 0;have b0:=bx.c0;have b1:=bx.c1;have b2:=bx.c2;have f0:=bx.fr 0;have f1:=bx.fr 1;have f2:=bx.fr 2;go_wp2;rw[oO.out];have hz:im iS.m=[]:=px;exact zg rfl rfl rfl bx (by rw[hz];rfl) (by rw[hz];exact Sl.nil _) (ja.alloc _ _)
 .have oO:=anv (show canon s (val M) e=⟨s,val M/2^jX (val M),e+jX (val M)⟩by unfold canon;rw[bu h0]);have hZ:=anv (λA c w (h:Sl w A c M) (ht:Tb w)=>acp A c M w h aC h0 ht);have uw:jX (val M)<=65536:=by have:=Fo mv h0;omega
  have hR:=anv (λA c w (h:Sl w A c M)=>VM A c M (jX (val M)) w h oD uw);have tK:M.length≠0:=by intro h;rw[dz h]at h0;exact h0 rfl
  have xp:(im (val M/2^jX (val M))).length<=256:=by
   refine xA (cP (cv _ _) ?_);exact bX (oX mv) (bY aE oD)
  generalize val M/2^jX (val M)=q at *
  generalize jX (val M)=t at *
  have hK:=anv (λA c w (h:Sl w A c (im q))=>Lw A c (im q) w h aC);have hP:=anv (λA c w (h:Sl w A c (im q))=>Lu A c (im q) w h);obtain⟨Q,hQ⟩:∃ Q,Q=im q:=⟨_,rfl⟩
  have HQ:=anv hQ;rw[<-hQ]at hR hK hP xp;clear hQ;go_enter func219,ntmps219;go_wp2_with fail;refine(hT.out _ (hs.alloc _)).mono ?_;rintro e' w1 ⟨rfl,rfl⟩;go_wp2_with fail;refine(hZ.out _ _ _ (kZ.alloc _) (uq.alloc _)).mono ?_;rintro e' w2 ⟨rfl,rfl⟩;go_wp2_with fail;refine(hR.out _ _ _ (kZ.alloc _)).mono ?_;rintro e' w2 ⟨A2,c2,rfl,aeJ,oc⟩;go_wp2_with fail;refine(hK.out _ _ _ aeJ).mono ?_;rintro e' w3 ⟨A3,c3,rfl,F8,sd⟩;go_wp2_with fail;refine(hP.out _ _ _ F8).mono ?_;rintro e' w4 ⟨rfl,rfl⟩;have hb:=oc.trans sd;have bx:=(jV.new w false none 0 0 0).ext hb;have b0:=bx.c0;have b1:=bx.c1;have b2:=bx.c2;have f0:=bx.fr 0;have f1:=bx.fr 1;have f2:=bx.fr 2;go_wp2;rw[oO.out];rw[HQ.out]at F8 ⊢;exact zg rfl rfl rfl (bx.set _ _ _ _ _) rfl (bx.vR F8.Re _ _ _ _ _) (jV.uK ((ja.alloc _ _).trans hb) (bD _) _ _ _ _ _)
def LK(A:Option Addr)(c:Nat)(L:List Nat)(w:World)(hs:Sl w A c L)(hlen:L.length<=100000000):
 Calls prog 225 #[.slice A L.length c] w λe w'=>e = .returned (.int .i64 (iD (val L)))/\w=w':=by
 have H:=anv (VG A c L w hs hlen);go_enter func225,ntmps225;go_wp2_with fail;refine H.out.mono ?_;rintro e w' ⟨rfl,rfl⟩;go_wp2;go_ret;exact⟨rfl,rfl⟩
def vE(m:Nat)(e:Int):Bool:=decide (oz ⟨false,m,e⟩)
def Nv(s:Bool)(A:Option Addr)(c:Nat)(L:List Nat)(e:Int)(w:World)(hs:Sl w A c L)(hlen:L.length<=100000000)(mP:-9223372036854775808<=e)(lW:e<=9223372036854775807):
 Calls prog 166 #[.agg #[.bool s,.slice A L.length c,.int .i64 e]] w λr w'=>r = .returned (.bool (vE (val L) e))/\ja w w':=by
 have H:=anv (λw (h:Sl w A c L)=>LK A c L w h hlen);have hn:Hid (vE (val L) e=decide (iD (val L)=0\/iD (val L)<=4096 /\ -16384<=e/\e<=16384/\(iD (val L):Int)+e<=16384)):=by
  have h:iD (val L)=0↔val L=0:=by
   constructor
   .intro h;apply ck;intro h0;have:=pn h0;omega
   .intro h;rw[h];rfl
  exact am8.2 (or_congr h.symm Iff.rfl)
 have A9:iD (val L)<=32*L.length:=mJ.2 (by rw[<-uG];exact oX hs.ok);generalize iD (val L)=n at *
 generalize vE (val L) e=b at *
 have ael:n=0\/(0<n/\4096<n)\/(0<n/\n<=4096/\e < -16384)\/(0<n/\n<=4096 /\ -16384<=e/\16384<e)\/(0<n/\n<=4096 /\ -16384<=e/\e<=16384/\16384<(n:Int)+e)\/(0<n/\n<=4096 /\ -16384<=e/\e<=16384/\(n:Int)+e<=16384):= aC ;rcases ael with h|⟨h,h1⟩|⟨h,h1,h2⟩|⟨h,h1,h2,h3⟩|⟨h,h1,h2,h3,h4⟩|⟨h,h1,h2,h3,h4⟩
 .subst h;have hb:b=true:=by rw[hn.out];simp
  clear hn;subst hb;go_enter func166,ntmps166;go_wp2_with fail;refine(H.out _ (hs.alloc _)).mono ?_;rintro r w' ⟨rfl,rfl⟩;go_wp2;go_ret;exact⟨rfl,ja.alloc _ _⟩
 .have hb:b=false:=by rw[hn.out];simp;omega
  have se:((n:Int)==0)=false:= aN ;have tU:decide ((n:Int)<=4096)=false:= aN ;clear hn;subst hb;go_enter func166,ntmps166;go_wp2_with fail;refine(H.out _ (hs.alloc _)).mono ?_;rintro r w' ⟨rfl,rfl⟩;go_wp2;go_ret;exact⟨rfl,ja.alloc _ _⟩
 .have hb:b=false:=by rw[hn.out];simp;omega
  have se:((n:Int)==0)=false:= aN ;have tU:decide ((n:Int)<=4096)=true:= aN ;have mF:decide (-16384<=e)=false:= aN ;clear hn;subst hb;go_enter func166,ntmps166;go_wp2_with fail;refine(H.out _ (hs.alloc _)).mono ?_;rintro r w' ⟨rfl,rfl⟩;go_wp2;go_ret;exact⟨rfl,ja.alloc _ _⟩
 .have hb:b=false:=by rw[hn.out];simp;omega
  have se:((n:Int)==0)=false:= aN ;have tU:decide ((n:Int)<=4096)=true:= aN ;have mF:decide (-16384<=e)=true:= aN ;have D2:decide (e<=16384)=false:= aN ;clear hn;subst hb;go_enter func166,ntmps166;go_wp2_with fail;refine(H.out _ (hs.alloc _)).mono ?_;rintro r w' ⟨rfl,rfl⟩;go_wp2;go_ret;exact⟨rfl,ja.alloc _ _⟩
 .have hb:b=false:=by rw[hn.out];simp;omega
  have se:((n:Int)==0)=false:= aN ;have tU:decide ((n:Int)<=4096)=true:= aN ;have mF:decide (-16384<=e)=true:= aN ;have D2:decide (e<=16384)=true:= aN ;have hn4:decide ((n:Int)+e<=16384)=false:= aN ;clear hn;subst hb;go_enter func166,ntmps166;go_wp2_with fail;refine(H.out _ (hs.alloc _)).mono ?_;rintro r w' ⟨rfl,rfl⟩;go_wp2;go_ret;exact⟨rfl,ja.alloc _ _⟩
 .have hb:b=true:=by rw[hn.out];simp;omega
  have se:((n:Int)==0)=false:= aN ;have tU:decide ((n:Int)<=4096)=true:= aN ;have mF:decide (-16384<=e)=true:= aN ;have D2:decide (e<=16384)=true:= aN ;have hn4:decide ((n:Int)+e<=16384)=true:= aN ;clear hn;subst hb;go_enter func166,ntmps166;go_wp2_with fail;refine(H.out _ (hs.alloc _)).mono ?_;rintro r w' ⟨rfl,rfl⟩;go_wp2;go_ret;exact⟨rfl,ja.alloc _ _⟩
def pB(s:Bool)(L:List Nat)(e:Int):Prop:=oi L/\L.length<=256/\Dy.iy ⟨s,val L,e⟩
def RL(s:Bool)(e:Int):pB s [] e↔s=false/\e=0:=by
 unfold pB;constructor
 .rintro ⟨_,_,hc,_⟩;rcases hc with⟨_,h1,h2⟩|h
  .exact ⟨h1,h2⟩
  .simp at h
 .rintro ⟨rfl,rfl⟩;exact⟨oi.nil,aH,sk⟩
def RK{s:Bool}{L:List Nat}{e:Int}{x y:Nat}(hx:L[0]? = some x)(hy:L[L.length-1]? = some y):
 pB s L e↔L.length<=256/\x%2=1/\y≠0/\vE (val L) e=true:=by
 have TC:val L%2=x%2:=by
  cases L with
  |nil=>simp at hx
  |cons z l=>simp at hx;subst hx;simp only[sI];omega
 have Cx:oi L↔y≠0:=by
  rw[BT];obtain⟨h1,h2⟩:=cw.1 hy;constructor
  .intro h;rw[<-h2];exact h aC 
  .intro h _;rw[h2];exact h
 unfold pB vE;rw[Cx,ij];constructor
 .rintro ⟨h1,h2,hc,hr⟩;have xq:oz ⟨false,val L,e⟩:=hr;refine⟨h2,?_,h1,xq⟩;rcases hc with⟨h,_,_⟩|h
  .exfalso;have:=(Cx.2 h1).EV (by intro h0;subst h0;simp at hx);simp only at h;omega
  .rw [<-TC];exact h
 .rintro ⟨h1,h2,h3,h4⟩;exact⟨h3,h1,.inr (by show val L%2=1;rw[TC];exact h2),h4⟩
def qZ{b:Bool}{P:Prop}(h:b=true↔P)(hn:¬P):b=false:=by
 cases b
 .rfl
 .exact absurd (h.1 rfl) hn
def Ld{b:Bool}{P:Prop}(h:b=true↔P)(hn:P):b=true:=h.2 hn
def QJ{b v:Bool}{P:Prop}(h:b=true↔P)(hn:P↔v=true):b=v:=by
 cases b<;>cases v<;>simp_all
def B9(s:Bool)(A:Option Addr)(c:Nat)(L:List Nat)(e:Int)(w:World)(b:Bool)(hs:Sl w A c L)(mP:-9223372036854775808<=e)(lW:e<=9223372036854775807)(hb:b=true↔pB s L e):
 Calls prog 91 #[.agg #[.bool s,.slice A L.length c,.int .i64 e]] w λr w'=>r = .returned (.bool b)/\ja w w':=by
 have DS:=hs.cap;have uw:=hs.rH;by_cases hL:L=[]
 .subst hL;rw[RL]at hb;cases s
  .by_cases h:e=0
   .subst h;have:b=true:=by simpa using hb
    clear hb;subst this;go_enter func91,ntmps91;go_wp2;go_ret;exact⟨rfl,ja.alloc _ _⟩
   .have:b=false:=qZ hb (by simp[h]);have h':(e==0)=false:= aN ;clear hb;subst this;go_enter func91,ntmps91;go_wp2;go_ret;exact⟨rfl,ja.alloc _ _⟩
  .have:b=false:=qZ hb aH ;clear hb;subst this;go_enter func91,ntmps91;go_wp2;go_ret;exact⟨rfl,ja.alloc _ _⟩
 .have wB:0<L.length:=gI.2 hL;clear hL;obtain⟨ab,ao,rfl,_,c1⟩:=hs.nc wB;obtain⟨ab',ao',e',_,c2⟩:=hs.nc (i:=L.length-1) aC;cases e';have nV:=hs.ok.get wB;have rG:=hs.ok.get (aC:L.length-1<L.length);rw[RK (bG wB) (bG (aC:L.length-1<L.length))]at hb;have c1':w.cell? ⟨ab,ao,none⟩=some (.int .u32 (L[0]:Int)):=c1;clear c1;generalize L[0]=x at *
  generalize L[L.length-1]=y at *
  have HB:=anv hb;clear hb;have H:=anv (λw (h:Sl w (some ⟨ab,ao,none⟩) c L) (hl:L.length<=256)=>Nv s _ c L e w h aC mP lW);obtain⟨n,hn⟩:∃ n,n=L.length:=⟨_,rfl⟩
  rw[<-hn]at wB c2 H HB DS ⊢;clear hn;generalize vE (val L) e=v at *
  have se:((n:Int)==0)=false:= aN ;by_cases h1:n<=256
  .have tU:decide ((n:Int)<=256)=true:= aN ;by_cases h2:x%2=1
   .have mF:((x:Int)%2==1)=true:= aN ;by_cases h3:y=0
    .have:b=false:=qZ HB.out (by simp[h3]);have D2:((y:Int) != 0)=false:= aN ;clear HB;subst this;go_enter func91,ntmps91;go_wp2;go_ret;exact⟨rfl,ja.alloc _ _⟩
    .have:b=v:=QJ HB.out (by simp[h1,h2,h3]);have D2:((y:Int) != 0)=true:= aN ;clear HB;subst this;go_enter func91,ntmps91;go_wp2_with fail;refine(H.out _ (hs.alloc _) h1).mono ?_;rintro r w' ⟨rfl,nR⟩;go_wp2;go_ret;exact⟨rfl,(ja.alloc _ _).trans nR⟩
   .have:b=false:=qZ HB.out (λh=>h2 h.2.1);have mF:((x:Int)%2==1)=false:= aN ;clear HB;subst this;go_enter func91,ntmps91;go_wp2;go_ret;exact⟨rfl,ja.alloc _ _⟩
  .have:b=false:=qZ HB.out (λh=>h1 h.1);have tU:decide ((n:Int)<=256)=false:= aN ;clear HB;subst this;go_enter func91,ntmps91;go_wp2;go_ret;exact⟨rfl,ja.alloc _ _⟩
def NN{n k:Nat}(h:iD n<=32*k):(im n).length<=k:=xA (by rw[uG];exact mJ.1 h)
def acg(d:Dy):pB d.neg (im d.m) d.e↔d.iy:=by
 unfold pB;rw[lh];constructor
 .exact λh=>h.2.2
 .intro h;refine⟨BU _,?_,h⟩;rcases h.range with h0|⟨h1,_⟩
  .rw [h0,px];simp
  .exact NN aC 
def pB.IJ{s:Bool}{L:List Nat}{e:Int}(h:pB s L e)(hk:iY L):L=im (val L):=h.1.IJ hk
def pB.len{s:Bool}{L:List Nat}{e:Int}(h:pB s L e):L.length<=256:=h.2.1
def pB.bits{s:Bool}{L:List Nat}{e:Int}(h:pB s L e):iD (val L)<=4096:=by
 rcases h.2.2.range with h0|⟨h1,_⟩
 .simp only at h0;rw[h0];decide
 .exact h1
def pB.exp{s:Bool}{L:List Nat}{e:Int}(h:pB s L e):-16384<=e/\e<=16384:=by
 rcases h.2.2.range with h0|⟨_,h1,h2,_⟩
 .rcases h.2.2.canon with⟨_,_,h3⟩|h3
  .simp only at h3;omega
  .simp only at h0 h3;omega
 .exact ⟨h1,h2⟩
def LL(s:Bool)(A:Option Addr)(c:Nat)(L:List Nat)(e:Int)(w:World)(hs:Sl w A c L)(hd:pB s L e):
 Calls prog 185 #[.agg #[.bool s,.slice A L.length c,.int .i64 e]] w λr w'=>r = .returned (.int .i64 (Dy.iI ⟨s,val L,e⟩))/\ja w w':=by
 obtain⟨mP,lW⟩:=hd.exp;have hl:=hd.len;have hbt:=hd.bits;have HV:=anv (λw (h:Sl w A c L)=>B9 s A c L e w true h aC aC (by simp[hd]));have HS:=anv (λw (h:Sl w A c L)=>LK A c L w h aC);by_cases h0:L=[]
 .subst h0;go_enter func185,ntmps185;go_wp2_with fail;refine(HV.out _ (hs.alloc _)).mono ?_;rintro r w' ⟨rfl,hb⟩;have bx:=(jV.new w s A 0 c e).ext hb;have b0:=bx.c0;have b1:=bx.c1;have b2:=bx.c2;go_wp2;go_ret;exact⟨rfl,(ja.alloc _ _).trans hb⟩
 .have wB:0<L.length:=gI.2 h0;have Bi:val L≠0:=by have:=hd.1.EV h0;omega
  have ht:=anv (show Dy.iI ⟨s,val L,e⟩=iD (val L)+e by unfold Dy.iI;rw[bu Bi]);clear h0 Bi;generalize Dy.iI ⟨s,val L,e⟩=t at *
  generalize iD (val L)=q at *
  have hw:IntKind.i64.wrap ((q:Int)+e)=q+e:=i64_in _ aC aC;have se:((L.length:Int)==0)=false:=bh aC;go_enter func185,ntmps185;go_wp2_with fail;refine(HV.out _ (hs.alloc _)).mono ?_;rintro r w' ⟨rfl,hb⟩;have bx:=(jV.new w s A L.length c e).ext hb;have b0:=bx.c0;have b1:=bx.c1;have b2:=bx.c2;have qG:=(hs.alloc _).below hb;go_wp2_with fail;go_region_held3 (λw'=>w'.cell? ⟨w.heap.size,1,none⟩=some (.slice A L.length c)/\w'.cell? ⟨w.heap.size,2,none⟩=some (.int .i64 e)) (go_keep)
   (first|(go_at_call 225;refine(HS.out _ ?_).mono ?_;(exact qG.drew);rintro r w'' ⟨rfl,rfl⟩))
  go_wp2;go_ret;exact⟨pJ (by rw[ht.out]),Below.drew ((ja.alloc _ _).trans hb)⟩
def ach(s:Bool)(A:Option Addr)(c:Nat)(L:List Nat)(e:Int)(w:World)(hs:Sl w A c L)(hd:pB s L e):
 Calls prog 173 #[.agg #[.bool s,.slice A L.length c,.int .i64 e]] w λr w'=>r = .returned (.int .i64 (iD (val L)))/\ja w w':=by
 obtain⟨mP,lW⟩:=hd.exp;have hl:=hd.len;have HV:=anv (λw (h:Sl w A c L)=>B9 s A c L e w true h aC aC (by simp[hd]));have HS:=anv (λw (h:Sl w A c L)=>LK A c L w h aC);go_enter func173,ntmps173;go_wp2_with fail;refine(HV.out _ (hs.alloc _)).mono ?_;rintro r w' ⟨rfl,hb⟩;have bx:=(jV.new w s A L.length c e).ext hb;have b0:=bx.c0;have b1:=bx.c1;have b2:=bx.c2;go_wp2_with fail;refine(HS.out _ ((hs.alloc _).below hb)).mono ?_;rintro r w' ⟨rfl,rfl⟩;go_wp2;go_ret;exact⟨rfl,(ja.alloc _ _).trans hb⟩
def LJ(s:Bool)(A:Option Addr)(c:Nat)(L:List Nat)(e:Int)(w:World)(hs:Sl w A c L)(hd:pB s L e):
 Calls prog 92 #[.agg #[.bool s,.slice A L.length c,.int .i64 e]] w λr w'=>r = .returned (.int .i64 (Dy.jG ⟨s,val L,e⟩))/\ja w w':=by
 obtain⟨mP,lW⟩:=hd.exp;have hl:=hd.len;have HV:=anv (λw (h:Sl w A c L)=>B9 s A c L e w true h aC aC (by simp[hd]));by_cases h0:L=[]
 .subst h0;go_enter func92,ntmps92;go_wp2_with fail;refine(HV.out _ (hs.alloc _)).mono ?_;rintro r w' ⟨rfl,hb⟩;have bx:=(jV.new w s A 0 c e).ext hb;have b0:=bx.c0;have b1:=bx.c1;have b2:=bx.c2;go_wp2;go_ret;exact⟨rfl,(ja.alloc _ _).trans hb⟩
 .have wB:0<L.length:=gI.2 h0;have Bi:val L≠0:=by have:=hd.1.EV h0;omega
  have ht:=anv (show Dy.jG ⟨s,val L,e⟩=if s then -1 else 1 by unfold Dy.jG;rw[bu Bi]);clear h0 Bi;generalize Dy.jG ⟨s,val L,e⟩=t at *
  have se:((L.length:Int)==0)=false:=bh aC;go_enter func92,ntmps92;go_wp2_with fail;refine(HV.out _ (hs.alloc _)).mono ?_;rintro r w' ⟨rfl,hb⟩;have bx:=(jV.new w s A L.length c e).ext hb;have b0:=bx.c0;have b1:=bx.c1;have b2:=bx.c2;cases s
  .go_wp2;go_ret;exact⟨pJ (by rw[ht.out];rfl),(ja.alloc _ _).trans hb⟩
  .go_wp2;go_ret;exact⟨pJ (by rw[ht.out];rfl),(ja.alloc _ _).trans hb⟩
def acY(e:Int)(w:World)(b:Bool)(hb:b=true↔(-32768<=e/\e<=32768)):
 Calls prog 233 #[.int .i64 e] w λr w'=>r = .returned (.bool b)/\w=w':=by
 by_cases h1:-32768<=e
 .have d1:decide (-32768<=e)=true:=by simpa using h1
  by_cases h2:e<=32768
  .have d2:decide (e<=32768)=true:=by simpa using h2
   have:=Ld hb ⟨h1,h2⟩;clear hb;subst this;go_enter func233,ntmps233;go_wp2;go_ret;exact⟨rfl,rfl⟩
  .have d2:decide (e<=32768)=false:=by simpa using h2
   have:=qZ hb (λh=>h2 h.2);clear hb;subst this;go_enter func233,ntmps233;go_wp2;go_ret;exact⟨rfl,rfl⟩
 .have d1:decide (-32768<=e)=false:=by simpa using h1
  have:=qZ hb (λh=>h1 h.1);clear hb;subst this;go_enter func233,ntmps233;go_wp2;go_ret;exact⟨rfl,rfl⟩
def Q9(d:Dy)(A:Option Addr)(c:Nat)(w:World)(hs:Sl w A c (im d.m))(hl:(im d.m).length<=100000000)(mP:-10000000<=d.e)(lW:d.e<=10000000)(hd:oz d):
 Calls prog 222 #[.agg #[.bool d.neg,.slice A (im d.m).length c,.int .i64 d.e]] w (y3 w d 0):=by
 obtain⟨s,m,e⟩:=d;simp only at *
 have hr:vE m e=true:=by unfold vE;exact bA hd
 have HV:=anv (λw (h:Sl w A c (im m))=>Nv s A c (im m) e w h hl aC aC);rw[lh,hr]at HV;clear hr hd;go_enter func222,ntmps222;go_wp2_with fail;refine(HV.out _ ((hs.alloc _).alloc _)).mono ?_;rintro r w' ⟨rfl,hb⟩;have bx:=((jV.new w s A (im m).length c e).alloc (.cells #[.bool false,.slice none 0 0,.int .i64 0] 31)).ext hb;have by_:=(jV.new (w.alloc (.cells #[.bool s,.slice A (im m).length c,.int .i64 e] 31)) false none 0 0 0).ext hb;have b0:=bx.c0;have b1:=bx.c1;have b2:=bx.c2;have bz:(w.alloc (.cells #[.bool s,.slice A (im m).length c,.int .i64 e] 31)).heap.size=w.heap.size+1:= aH ;rw[bz]at by_;have c0:=by_.c0;have c1:=by_.c1;have c2:=by_.c2;have f0:=by_.fr 0;have f1:=by_.fr 1;have f2:=by_.fr 2;have qG:=((hs.alloc (.cells #[.bool s,.slice A (im m).length c,.int .i64 e] 31)).alloc (.cells #[.bool false,.slice none 0 0,.int .i64 0] 31)).below hb;have nR:ja w w':=((ja.alloc _ _).trans (ja.alloc _ _)).trans hb;clear bz;go_wp2;exact DH rfl rfl rfl rfl (by_.set _ _ _ _ _) rfl (by_.vR qG _ _ _ _ _) (jV.uK nR aC _ _ _ _ _)
def abx(d:Dy)(A:Option Addr)(c:Nat)(w:World)(hs:Sl w A c (im d.m))(hl:(im d.m).length<=100000000)(mP:-10000000<=d.e)(lW:d.e<=10000000)(hd:¬oz d):
 Calls prog 222 #[.agg #[.bool d.neg,.slice A (im d.m).length c,.int .i64 d.e]] w (y3 w iS 9):=by
 obtain⟨s,m,e⟩:=d;simp only at *
 have hr:vE m e=false:=by unfold vE;exact bB hd
 have HV:=anv (λw (h:Sl w A c (im m))=>Nv s A c (im m) e w h hl aC aC);rw[lh,hr]at HV;clear hr hd;go_enter func222,ntmps222;go_wp2_with fail;refine(HV.out _ ((hs.alloc _).alloc _)).mono ?_;rintro r w' ⟨rfl,hb⟩;have by_:=(jV.new (w.alloc (.cells #[.bool s,.slice A (im m).length c,.int .i64 e] 31)) false none 0 0 0).ext hb;have bz:(w.alloc (.cells #[.bool s,.slice A (im m).length c,.int .i64 e] 31)).heap.size=w.heap.size+1:= aH ;rw[bz]at by_;have c0:=by_.c0;have c1:=by_.c1;have c2:=by_.c2;have f0:=by_.fr 0;have f1:=by_.fr 1;have f2:=by_.fr 2;have nR:ja w w':=((ja.alloc _ _).trans (ja.alloc _ _)).trans hb;have hz:im iS.m=[]:=px;have HZ:=anv hz;clear bz hz;go_wp2;exact DH rfl rfl rfl rfl (by_.set _ _ _ _ _) (by rw[HZ.out];rfl) (by rw[HZ.out];exact by_.vR (Sl.nil _) _ _ _ _ _) (jV.uK nR aC _ _ _ _ _)
def agi(s:Bool)(A:Option Addr)(c:Nat)(L:List Nat)(e:Int)(w:World)(hs:Sl w A c L)(hlen:L.length<=256)(mP:-32768<=e)(lW:e<=32768)(uq:Tb w)(hd:oz (canon s (val L) e)):
 Calls prog 176 #[.bool s,.slice A L.length c,.int .i64 e] w (y3 w (canon s (val L) e) 0):=by
 have F0:decide (256<(L.length:Int))=false:=bB aC;have HE:=anv (λw=>acY e w true (by simp[mP,lW]));have HC:=anv (λw (h:Sl w A c L) (ht:Tb w)=>IF s A c L e w h aC (by have:=pW L;unfold mT at this;omega) aC aC ht);have kR:(im (canon s (val L) e).m).length<=100000000:=by
  unfold canon;split
  .simp [px]
  .refine bI (xA (k:=256) (cP (cv _ _) ?_)) aE ;exact bX (oX hs.ok) (bY aE hlen)
 have oc:-10000000<=(canon s (val L) e).e/\(canon s (val L) e).e<=10000000:=by
  unfold canon;split
  .simp
  .rename_i h0;have:=Fo hs.ok h0;simp only;omega
 obtain⟨oc,sd⟩:=oc;have HK:=anv (λA c w (h:Sl w A c (im (canon s (val L) e).m))=>Q9 _ A c w h kR oc sd hd);generalize canon s (val L) e=d at *
 clear hd kR oc sd;go_enter func176,ntmps176;go_wp2_with fail;refine(HE.out _).mono ?_;rintro r w' ⟨rfl,rfl⟩;go_wp2_with fail;refine(HC.out _ (hs.alloc _) (uq.alloc _)).mono ?_;rintro r w1 ⟨A1,c1,rfl,vz,kR⟩;go_wp2_with fail;refine(HK.out _ _ _ vz).mono ?_;rintro r w2 ⟨A2,c2,rfl,kZ,oc⟩;have hb:=kR.trans oc;have bx:=(jV.new w false none 0 0 0).ext hb;have b0:=bx.c0;have b1:=bx.c1;have b2:=bx.c2;have f0:=bx.fr 0;have f1:=bx.fr 1;have f2:=bx.fr 2;go_wp2;exact DH rfl rfl rfl rfl (bx.set _ _ _ _ _) rfl (bx.vR kZ _ _ _ _ _) (jV.uK ((ja.alloc _ _).trans hb) (bD _) _ _ _ _ _)
def alh(x:Nat)(hx:x<4294967296):bits BinOp.and IntKind.u32 (x:Int) 1=((x%2:Nat):Int):=by
 rw[show(1:Int)=((1:Nat):Int)from rfl,bits_and_u32_nat _ _ hx aE,Nat.and_one_is_mod]
def aeR{m:Nat}(h0:m≠0)(e:Int):vE m e=true↔(iD m<=4096 /\ -16384<=e/\e<=16384/\(iD m:Int)+e<=16384):=by
 have h:vE m e=true↔oz ⟨false,m,e⟩:=ij;rw[h];constructor
 .rintro (h|h)
  .exact absurd h h0
  .exact h
 .exact λh=>.inr h
def WD(s:Bool)(A:Option Addr)(c:Nat)(L:List Nat)(e:Int)(w:World)(b:Bool)(hs:Sl w A c L)(mP:-9223372036854775808<=e)(lW:e<=9223372036854775807)(hb:b=true↔pB s L e):
 Calls prog 74 #[.agg #[.bool s,.slice A L.length c,.int .i64 e]] w λr w'=>r = .returned (.bool b)/\ja w w':=by
 have DS:=hs.cap;have uw:=hs.rH;by_cases hL:L=[]
 .subst hL;rw[RL]at hb;cases s
  .by_cases h:e=0
   .subst h;have:b=true:=by simpa using hb
    clear hb;subst this;go_enter func74,ntmps74;go_wp2;go_ret;exact⟨rfl,ja.alloc _ _⟩
   .have:b=false:=qZ hb (by simp[h]);have h':(e==0)=false:= aN ;clear hb;subst this;go_enter func74,ntmps74;go_wp2;go_ret;exact⟨rfl,ja.alloc _ _⟩
  .have:b=false:=qZ hb aH ;clear hb;subst this;go_enter func74,ntmps74;go_wp2;go_ret;exact⟨rfl,ja.alloc _ _⟩
 .have wB:0<L.length:=gI.2 hL;obtain⟨ab,ao,rfl,_,c1⟩:=hs.nc wB;obtain⟨ab',ao',e',_,c2⟩:=hs.nc (i:=L.length-1) aC;cases e';have nV:=hs.ok.get wB;have rG:=hs.ok.get (aC:L.length-1<L.length);rw[RK (bG wB) (bG (aC:L.length-1<L.length))]at hb;have c1':w.cell? ⟨ab,ao,none⟩=some (.int .u32 (L[0]:Int)):=c1;have SR:=anv (show L[L.length-1]≠0->oi L from λh=>(BT L).2 (λ_=>h));have xg:=anv (show L[L.length-1]≠0->val L≠0 from λh=>by have:=((BT L).2 (λ_=>h)).EV hL;omega);clear c1 hL;generalize L[0]=x at *
  generalize L[L.length-1]=y at *
  have HB:=anv hb;clear hb;have H:=anv (λw (h:Sl w (some ⟨ab,ao,none⟩) c L) (hl:L.length<=256) (ht:oi L)=>aif _ c L w h ht aC);have hr:Hid (val L≠0->(vE (val L) e=true↔(iD (val L)<=4096 /\ -16384<=e/\e<=16384/\(iD (val L):Int)+e<=16384))):=λh0=>by
   exact aeR h0 e
  obtain⟨n,hn⟩:∃ n,n=L.length:=⟨_,rfl⟩
  rw[<-hn]at wB c2 H HB DS ⊢;have HN:=anv hn;clear hn;have se:((n:Int)==0)=false:= aN ;by_cases h1:n<=256
  .have tU:decide (256<(n:Int))=false:=bB aC ;by_cases h3:y=0
   .have:b=false:=qZ HB.out (by simp[h3]);have D2:((y:Int)==0)=true:= aN ;clear HB hr;subst this;go_enter func74,ntmps74;go_wp2;go_ret;exact⟨rfl,ja.alloc _ _⟩
   .have D2:((y:Int)==0)=false:=bh aC ;have hand:=alh x nV;by_cases h2:x%2=1
    .have mF:(bits BinOp.and IntKind.u32 (x:Int) 1==0)=false:=by rw[hand,h2];rfl
     clear hand;have h0:=xg.out h3;have Cx:=SR.out h3;have A9:iD (val L)<=32*n:=mJ.2 (by rw[<-uG,HN.out];exact oX hs.ok);have HB2:Hid (b=true↔(iD (val L)<=4096 /\ -16384<=e/\e<=16384/\(iD (val L):Int)+e<=16384)):=by
      show b=true↔_;rw[HB.out,hr.out h0];simp[h1,h2,h3]
     have H2:=anv (λw h=>H.out w h h1 Cx);clear HB hr h0 Cx SR xg H;generalize iD (val L)=q at *
     by_cases h4:-16384<=e
     .have d4:decide (e < -16384)=false:=bB aC ;by_cases h5:e<=16384
      .have d5:decide (16384<e)=false:=bB aC ;by_cases h6:q<=4096
       .have d6:decide ((q:Int)<=4096)=true:=bA aC ;by_cases h7:(q:Int)+e<=16384
        .have d7:decide ((q:Int)+e<=16384)=true:=bA h7;have:=Ld HB2.out ⟨h6,h4,h5,h7⟩;clear HB2;subst this;go_enter func74,ntmps74;go_wp2_with fail;refine(H2.out _ (hs.alloc _)).mono ?_;rintro r w' ⟨rfl,rfl⟩;go_wp2;go_ret;exact⟨rfl,ja.alloc _ _⟩
        .have d7:decide ((q:Int)+e<=16384)=false:=bB h7;have:=qZ HB2.out (λh=>h7 h.2.2.2);clear HB2;subst this;go_enter func74,ntmps74;go_wp2_with fail;refine(H2.out _ (hs.alloc _)).mono ?_;rintro r w' ⟨rfl,rfl⟩;go_wp2;go_ret;exact⟨rfl,ja.alloc _ _⟩
       .have d6:decide ((q:Int)<=4096)=false:=bB aC ;have:=qZ HB2.out (λh=>h6 h.1);clear HB2;subst this;go_enter func74,ntmps74;go_wp2_with fail;refine(H2.out _ (hs.alloc _)).mono ?_;rintro r w' ⟨rfl,rfl⟩;go_wp2;go_ret;exact⟨rfl,ja.alloc _ _⟩
      .have d5:decide (16384<e)=true:=bA aC ;have:=qZ HB2.out (λh=>h5 h.2.2.1);clear HB2;subst this;go_enter func74,ntmps74;go_wp2;go_ret;exact⟨rfl,ja.alloc _ _⟩
     .have d4:decide (e < -16384)=true:=bA aC ;have:=qZ HB2.out (λh=>h4 h.2.1);clear HB2;subst this;go_enter func74,ntmps74;go_wp2;go_ret;exact⟨rfl,ja.alloc _ _⟩
    .have mF:(bits BinOp.and IntKind.u32 (x:Int) 1==0)=true:=by rw[hand,(aC:x%2=0)];rfl
     have:b=false:=qZ HB.out (λh=>h2 h.2.1);clear HB hand hr;subst this;go_enter func74,ntmps74;go_wp2;go_ret;exact⟨rfl,ja.alloc _ _⟩
  .have:b=false:=qZ HB.out (λh=>h1 h.1);have tU:decide (256<(n:Int))=true:=bA aC;clear HB hr;subst this;go_enter func74,ntmps74;go_wp2;go_ret;exact⟨rfl,ja.alloc _ _⟩
def ail(e:Int)(w:World)(b:Bool)(hb:b=true↔(-32768<=e/\e<=32768)):
 Calls prog 199 #[.int .i64 e] w λr w'=>r = .returned (.bool b)/\w=w':=by
 by_cases h1:-32768<=e
 .have d1:decide (-32768<=e)=true:=by simpa using h1
  by_cases h2:e<=32768
  .have d2:decide (e<=32768)=true:=by simpa using h2
   have:=Ld hb ⟨h1,h2⟩;clear hb;subst this;go_enter func199,ntmps199;go_wp2;go_ret;exact⟨rfl,rfl⟩
  .have d2:decide (e<=32768)=false:=by simpa using h2
   have:=qZ hb (λh=>h2 h.2);clear hb;subst this;go_enter func199,ntmps199;go_wp2;go_ret;exact⟨rfl,rfl⟩
 .have d1:decide (-32768<=e)=false:=by simpa using h1
  have:=qZ hb (λh=>h1 h.1);clear hb;subst this;go_enter func199,ntmps199;go_wp2;go_ret;exact⟨rfl,rfl⟩
def aih(d:Dy)(A:Option Addr)(c:Nat)(w:World)(hs:Sl w A c (im d.m))(hl:(im d.m).length<=100000000)(mP:-10000000<=d.e)(lW:d.e<=10000000)(hd:d.iy):
 Calls prog 95 #[.agg #[.bool d.neg,.slice A (im d.m).length c,.int .i64 d.e]] w (y3 w d 0):=by
 obtain⟨s,m,e⟩:=d;simp only at *
 have HV:=anv (λw (h:Sl w A c (im m))=>WD s A c (im m) e w true h aC aC (iff_of_true rfl ((acg ⟨s,m,e⟩).2 hd)));clear hd;go_enter func95,ntmps95;go_wp2_with fail;refine(HV.out _ ((hs.alloc _).alloc _)).mono ?_;rintro r w' ⟨rfl,hb⟩;have bx:=((jV.new w s A (im m).length c e).alloc (.cells #[.bool false,.slice none 0 0,.int .i64 0] 31)).ext hb;have by_:=(jV.new (w.alloc (.cells #[.bool s,.slice A (im m).length c,.int .i64 e] 31)) false none 0 0 0).ext hb;have b0:=bx.c0;have b1:=bx.c1;have b2:=bx.c2;have bz:(w.alloc (.cells #[.bool s,.slice A (im m).length c,.int .i64 e] 31)).heap.size=w.heap.size+1:= aH ;rw[bz]at by_;have c0:=by_.c0;have c1:=by_.c1;have c2:=by_.c2;have f0:=by_.fr 0;have f1:=by_.fr 1;have f2:=by_.fr 2;have qG:=((hs.alloc (.cells #[.bool s,.slice A (im m).length c,.int .i64 e] 31)).alloc (.cells #[.bool false,.slice none 0 0,.int .i64 0] 31)).below hb;have nR:ja w w':=((ja.alloc _ _).trans (ja.alloc _ _)).trans hb;clear bz;go_wp2;exact DH rfl rfl rfl rfl (by_.set _ _ _ _ _) rfl (by_.vR qG _ _ _ _ _) (jV.uK nR aC _ _ _ _ _)
def abJ{a b:Nat}:lf a b=0↔a=b:=by
 unfold lf;by_cases h:a<b
 .rw [bw h];omega
 .by_cases h':b<a
  .rw [bu h,bw h'];omega
  .rw [bu h,bu h'];omega
def aij(s:Bool)(A:Option Addr)(c:Nat)(L:List Nat)(e:Int)(t:Bool)(B:Option Addr)(d:Nat)(M:List Nat)(f:Int)(w:World)(b:Bool)
 (hs:Sl w A c L) (hr:Sl w B d M) (tL:oi L) (tM:oi M) (h1:L.length<=100000) (_h2:M.length<=100000) (hb:b=true↔(s=t/\e=f/\L=M)):
 Calls prog 34 #[.agg #[.bool s,.slice A L.length c,.int .i64 e],.agg #[.bool t,.slice B M.length d,.int .i64 f]] w λr w'=>r = .returned (.bool b)/\ja w w':=by
 have hE:ja w ((w.alloc (.cells #[.bool s,.slice A L.length c,.int .i64 e] 31)).alloc (.cells #[.bool t,.slice B M.length d,.int .i64 f] 31)):=(ja.alloc _ _).trans (ja.alloc _ _);by_cases h:s=t
 .subst h;by_cases h':e=f
  .subst h';have nR:b=true↔L=M:=by rw[hb];simp
   clear hb;by_cases hl:L.length=M.length
   .have HC:=anv (λw (h:Sl w A c L) (k:Sl w B d M)=>aii A B c d L M w h k tL tM aC aC);have hv:Hid (b=(lf (val L) (val M)==0)):=by
     show b=_;refine QJ nR ?_;rw[beq_iff_eq,abJ];exact⟨λh=>by rw[h],λh=>oi.ext tL tM hs.ok hr.ok h⟩
    generalize lf (val L) (val M)=v at *
    rw[<-hl]at HC hE ⊢;have hse:(e==e)=true:= aH ;have kZ:=(hs.alloc (.cells #[.bool s,.slice A L.length c,.int .i64 e] 31)).alloc (.cells #[.bool s,.slice B L.length d,.int .i64 e] 31);have od:=(hr.alloc (.cells #[.bool s,.slice A L.length c,.int .i64 e] 31)).alloc (.cells #[.bool s,.slice B L.length d,.int .i64 e] 31);clear nR hl tL tM;cases s
    .go_enter func34,ntmps34;go_wp2_with fail;refine(HC.out _ kZ od).mono ?_;rintro r w' ⟨rfl,kR⟩;go_wp2;go_ret;exact⟨Kb hv.out.symm,hE.trans kR⟩
    .go_enter func34,ntmps34;go_wp2_with fail;refine(HC.out _ kZ od).mono ?_;rintro r w' ⟨rfl,kR⟩;go_wp2;go_ret;exact⟨Kb hv.out.symm,hE.trans kR⟩
   .have:=qZ nR (λh=>hl (by rw[h]));clear nR;subst this;have kj:((L.length:Int)==M.length)=false:=bh aC;generalize L.length=n at *
    generalize M.length=m at *
    cases s
    .go_enter func34,ntmps34;go_wp2;go_ret;exact⟨rfl,hE⟩
    .go_enter func34,ntmps34;go_wp2;go_ret;exact⟨rfl,hE⟩
  .have:=qZ hb (λh=>h' h.2.1);clear hb;subst this;have kj:(e==f)=false:=bh h';cases s
   .go_enter func34,ntmps34;go_wp2;go_ret;exact⟨rfl,hE⟩
   .go_enter func34,ntmps34;go_wp2;go_ret;exact⟨rfl,hE⟩
 .have:=qZ hb (λh'=>h h'.1);clear hb;subst this;cases s<;>cases t
  .exact absurd rfl h
  .go_enter func34,ntmps34;go_wp2;go_ret;exact⟨rfl,hE⟩
  .go_enter func34,ntmps34;go_wp2;go_ret;exact⟨rfl,hE⟩
  .exact absurd rfl h
def Sl.Kz(w:World)(g:Nat)(hg:w.heap.size=g)(y z:Int)(p q:Nat)(e:y=(p:Int))(e':z=(q:Int))(hp:p<4294967296)(hq:q<4294967296):
 Sl (w.alloc (.cells #[.int .u32 y,.int .u32 z] 171)) (some ⟨g,0,none⟩) 2 [p,q]:=by
 subst e e' hg;refine⟨bD _,aE,iY.cons hp (iY.cons hq iY.nil),(λh=>by cases h),λi y hy=>?_⟩;obtain⟨h1,h2⟩:=cw.1 hy;simp at h1;refine⟨_,_,rfl,aH,?_⟩;rw[cD,World.cell?_alloc_at _ _ _ _ rfl];rcases i with _|_|i
 .simp at h2;subst h2;rfl
 .simp at h2;subst h2;rfl
 .omega
def aio(n:Nat)(w:World)(hn:n<4294967296):
 Calls prog 126 #[.int .i64 n] w (yZ w (canon false n 0)):=by
 have hm:=Fa n aC;have qb:(n:Int)%4294967296=n:= aC ;rw[qb]at hm;have hd:(n:Int)/4294967296=0:= aC ;have iJ:¬(n:Int)<0:= aC ;have MJ:decide ((n:Int)<0)=false:=bB iJ;have hu:IntKind.u64.wrap (n:Int)=n:=by rw[IntKind.wrap_u64];omega
 have HC:=anv (λ(A:Option Addr) c w (h:Sl w A c [n,0])=>OV false A c [n,0] 0 w h aH aE aE);have hv:val [n,0]=n:= aH ;rw[hv]at HC;clear hv;generalize canon false n 0=d at *
 go_enter func126,ntmps126;go_wp2_with fail;refine(HC.out _ _ _ (Sl.Kz _ _ aH _ _ n 0 rfl rfl hn aE)).mono ?_;rintro r w1 ⟨A1,c1,rfl,vz,kR⟩;have mf:ja (w.alloc (.cells #[.bool false,.slice none 0 0,.int .i64 0] 31)) w1:=(ja.alloc _ _).trans kR;have bx:=(jV.new w false none 0 0 0).ext mf;have b0:=bx.c0;have b1:=bx.c1;have b2:=bx.c2;have f0:=bx.fr 0;have f1:=bx.fr 1;have f2:=bx.fr 2;go_wp2;exact zg rfl rfl rfl (bx.set _ _ _ _ _) rfl (bx.vR vz _ _ _ _ _) (jV.uK ((ja.alloc _ _).trans mf) (bD _) _ _ _ _ _)
end Go.Proofs.YtgdahmmlddfimaaGreatDoor
namespace Go.Proofs.YtgdahmmlddfimaaGreatDoor.Fp
def Fk(s:Bool)(e:Int):canon s 0 e=iS:=by unfold canon;rw[bw rfl];rfl
def abk(s:Bool)(x:Nat)(k:Int):kH (if s then -(x:Int)else(x:Int)) k=canon s x k:=by
 unfold kH;cases s
 .have h:decide ((x:Int)<0)=false:=bB aC ;simp only[bM,bE];rw[h,gJ]
 .by_cases h:x=0
  .subst h;simp[Fk]
  .have h:decide (-(x:Int)<0)=true:=bA aC ;simp only[bL];rw[h,am9,gJ]
def afS{L:List Nat}(h:iY L)(n:Nat):(im (val L*2^n)).length<=L.length+n/32+1:=by
 refine xA ?_;have h1:=oX h;rw[uG]at h1 ⊢;have h2:val L*2^n<2^(32*L.length)*2^n:=dF h1 (bJ aE);rw[<-bH]at h2;exact bX h2 (bY aE aC)
def nB{a b:Nat}(h:a<=b):(im a).length<=(im b).length:=
 xA (cP h (NQ (bD _)))
end Go.Proofs.YtgdahmmlddfimaaGreatDoor.Fp
namespace Go.Proofs.YtgdahmmlddfimaaGreatDoor
open Go.RowKit Fp
def mW(a b:Dy):Dy:=canon (a.neg != b.neg) (a.m*b.m) (a.e+b.e)
def afU{L:List Nat}{k:Nat}(h:iY L)(hl:L.length<=k):(im (val L)).length<=k:=
 xA (bX (oX h) (bY aE hl))
end Go.Proofs.YtgdahmmlddfimaaGreatDoor
namespace Go.Proofs.YtgdahmmlddfimaaGreatDoor.Fp
def agh{d:Dy}{j k:Int}(h1:j<=k)(h2:k<=d.e):d.kA j=d.kA k*2^(k-j).toNat:=by
 unfold Dy.kA;rw[bN,<-bH];congr 2;omega
def JL{d:Dy}{j k:Int}(h1:j<=k)(h2:k<=d.e):d.num j=d.num k*((2^(k-j).toNat:Nat):Int):=by
 unfold Dy.num;rw[agh h1 h2];split
 .rw [fD,Int.neg_mul]
 .rw [fD]
def wK{d:Dy}(h:d.m=0)(k:Int):d.num k=0:=by
 unfold Dy.num;rw[Vj h];split<;>rfl
def xV(x y:Int):Int:=if x<y then -1 else if y<x then 1 else 0
def Rj(x y:Int){p:Nat}(hp:0<p):xV (x*(p:Int)) (y*(p:Int))=xV x y:=by
 unfold xV;have h:(0:Int)<p:= aC ;have a:=@Int.mul_lt_mul_right (p:Int) x y h;have b:=@Int.mul_lt_mul_right (p:Int) y x h;simp only[a,b]
def qx(d:Dy)(k:Int):Prop:=d.m=0\/k<=d.e
def qx.le{d:Dy}{j k:Int}(h:qx d k)(hj:j<=k):qx d j:=by
 rcases h with h|h
 .exact .inl h
 .exact .inr aC 
def qx.num{d:Dy}{j k:Int}(h:qx d k)(hj:j<=k):d.num j=d.num k*((2^(k-j).toNat:Nat):Int):=by
 rcases h with h|h
 .rw [wK h,wK h,Int.zero_mul]
 .exact JL hj h
def Fl{a b:Dy}{k:Int}(ha:qx a k)(hb:qx b k):jE a b=xV (a.num k) (b.num k):=by
 have e0:jE a b=xV (a.num (min a.e b.e)) (b.num (min a.e b.e)):=rfl;rw[e0];obtain⟨j,h1,h2⟩:∃ j:Int,j<=k/\j<=min a.e b.e:=⟨min k (min a.e b.e),aC,aC⟩
 have a1:=ha.num h1;have b1:=hb.num h1;have a2:=(show qx a (min a.e b.e)from .inr aC).num h2;have b2:=(show qx b (min a.e b.e)from .inr aC).num h2;rw[<-Rj _ _ (p:=2^(min a.e b.e-j).toNat) (bJ aE),<-a2,<-b2,a1,b1,Rj _ _ (bJ aE)]
def agf{s:Bool}{m:Nat}{e k:Int}(h:k<=e):(canon s m e).kA k=m*2^(e-k).toNat:=by
 unfold canon;split
 .rename_i h0;subst h0;simp[Dy.kA]
 .rename_i h0;unfold Dy.kA;simp only;have e1:=Fy h0
  conv=>rhs;rw[<-e1]
  rw[bN,<-bH];congr 2;omega
def CY{s:Bool}{m:Nat}{e k:Int}(h:k<=e):(canon s m e).num k=if s then -((m*2^(e-k).toNat:Nat):Int)else((m*2^(e-k).toNat:Nat):Int):=by
 by_cases h0:m=0
 .subst h0;rw[wK (by simp[canon])];simp
 .have:(canon s m e).neg=s:=by unfold canon;rw[bu h0]
  unfold Dy.num;rw[agf h,this]
def V4{m:Nat}{e k:Int}(h:k<=e):(canon false m e).num k=((m*2^(e-k).toNat:Nat):Int):=by
 rw[CY h];simp
def Oh{z e k:Int}(h:k<=e):(kH z e).num k=z*((2^(e-k).toNat:Nat):Int):=by
 unfold kH;rw[CY h];by_cases hz:z<0
 .simp only[hz,fU,bL];rw[fD,<-Int.neg_mul];congr 1;omega
 .simp only[hz,ado];rw[fD,show(z.natAbs:Int)=z by omega];simp
def AB{s:Bool}{m:Nat}{e k:Int}(h:k<=e):qx (canon s m e) k:=by
 unfold canon;split
 .exact .inl rfl
 .exact .inr (by simp only;omega)
def K1{z e k:Int}(h:k<=e):qx (kH z e) k:=AB h
def Kr{a b:Dy}{k:Int}(ha:qx a k)(hb:qx b k):(iG a b).num k=a.num k+b.num k:=by
 unfold iG;by_cases h1:a.m=0
 .rw [bw h1,wK h1,Int.zero_add]
 .rw [bu h1];by_cases h2:b.m=0
  .rw [bw h2,wK h2,Int.add_zero]
  .rw [bu h2];have ea:k<=a.e:=by rcases ha with h|h;exact absurd h h1;exact h
   have eb:k<=b.e:=by rcases hb with h|h;exact absurd h h2;exact h
   have hm:k<=min a.e b.e:= aC ;rw[Oh hm,Int.add_mul,<-JL hm aC,<-JL hm aC]
def HW{a b:Dy}{k:Int}(ha:qx a k)(hb:qx b k):qx (iG a b) k:=by
 unfold iG;by_cases h1:a.m=0
 .rw [bw h1];exact hb
 .rw [bu h1];by_cases h2:b.m=0
  .rw [bw h2];exact ha
  .rw [bu h2];have ea:k<=a.e:=by rcases ha with h|h;exact absurd h h1;exact h
   have eb:k<=b.e:=by rcases hb with h|h;exact absurd h h2;exact h
   exact K1 aC 
def DC{a b:Dy}(ha:a.nM)(hb:b.nM):(iG a b).nM:=by
 unfold iG;split
 .exact hb
 .split
  .exact ha
  .exact tG _ _ _
def K2{d:Dy}{k:Int}(h:qx d k):qx (iK d) k:=h
def Oi{d:Dy}(k:Int):(iK d).num k = -(d.num k):=by
 by_cases h:d.m=0
 .rw [wK h,wK (by exact h)];rfl
 .exact ag2 d k h
def RR{a b:Dy}(ha:a.nM)(hb:b.nM){k:Int}(h1:qx a k)(h2:qx b k)(h:a.num k=b.num k):a=b:=by
 have zero:∀ {d:Dy},d.nM->d.m=0->d=iS:=by
  intro d hd h0;obtain⟨s,m,e⟩:=d;rcases hd with⟨x,y,z⟩|hd
  .simp only at x y z;subst x y z;rfl
  .simp only at hd h0;omega
 have nz:∀ {d:Dy},d.num k=0->d.m=0:=by
  intro d hd;by_cases h0:d.m=0
  .exact h0
  .exfalso;have:=zW h0 k;unfold Dy.num at hd;split at hd<;>omega
 by_cases za:a.m=0
 .have zb:b.m=0:=nz (by rw[<-h];exact wK za k);rw[zero ha za,zero hb zb]
 .have zb:b.m≠0:=λzb=>za (nz (by rw[h];exact wK zb k))
  have oa:a.m%2=1:=by rcases ha with⟨x,_,_⟩|x;exact absurd x za;exact x
  have ob:b.m%2=1:=by rcases hb with⟨x,_,_⟩|x;exact absurd x zb;exact x
  have ea:k<=a.e:=by rcases h1 with h|h;exact absurd h za;exact h
  have eb:k<=b.e:=by rcases h2 with h|h;exact absurd h zb;exact h
  have pa:=zW za k;have pb:=zW zb k;have hm:a.neg=b.neg/\a.kA k=b.kA k:=by
   unfold Dy.num at h;cases x:a.neg<;>cases y:b.neg<;>simp[x,y]at h<;>first|exact⟨rfl,aC⟩|(exfalso;omega)
  have hc:=congrArg jX hm.2;unfold Dy.kA at hc;rw[zf oa,zf ob]at hc;have qb:=hm.2;unfold Dy.kA at qb;rw[hc]at qb;have sV:=anm (bJ aE) qb;obtain⟨s,m,e⟩:=a;obtain⟨t,n,f⟩:=b;simp only at *
  have:e=f:= aC ;rw[hm.1,sV,this]
end Go.Proofs.YtgdahmmlddfimaaGreatDoor.Fp
namespace Go.Proofs.YtgdahmmlddfimaaGreatDoor
open Go.RowKit Fp
def XN(A:Option Addr)(c:Nat)(M:List Nat)(n:Int)(w:World)(kZ:Sl w A c M)(hlen:M.length<=256)(h0:0<=n)(hn:n<=65536)(rE:(im (val M*2^n.toNat)).length<=256):
 Calls prog 220 #[.slice A M.length c,.int .i64 n] w (xR w (im (val M*2^n.toNat))):=by
 obtain⟨k,rfl⟩:=gK h0;exact ajK A c M k w kZ hlen aC rE
set_option maxHeartbeats 8000000 in
def acn(s : Bool)(A : Option Addr)(c : Nat)(L : List Nat)(e : Int)(t : Bool)(B : Option Addr)(d : Nat)(M : List Nat)(f : Int)(w : World)
    (hs : Sl w A c L) (hr : Sl w B d M) (da : pB s L e) (db : pB t M f) (wj : val L≠0) (tK : val M≠0):
    Calls prog 183 #[.agg #[.bool s,.slice A L.length c,.int .i64 e],.agg #[.bool t,.slice B M.length d,.int .i64 f]] w λr w' => r = .returned (.int .i64 (tH ⟨s,val L,e⟩ ⟨t,val M,f⟩))/\ja w w' := by
  obtain⟨mP,lW⟩ := da.exp;obtain⟨MO,MQ⟩ := db.exp;have hl := da.len;have hm := db.len;have hE : ja w ((w.alloc (.cells #[.bool s,.slice A L.length c,.int .i64 e] 31)).alloc (.cells #[.bool t,.slice B M.length d,.int .i64 f] 31)) := (ja.alloc _ _).trans (ja.alloc _ _);have me := ((jV.new w s A L.length c e).alloc (.cells #[.bool t,.slice B M.length d,.int .i64 f] 31)).drew;have mr := (jV.yL (W := w.alloc (.cells #[.bool s,.slice A L.length c,.int .i64 e] 31)) (g := w.heap.size+1) aH t B M.length d f).drew;have zI := (hs.below hE).drew;have Cu := (hr.below hE).drew;have HE := anv (hE.trans (ja.drew _));clear hE;have HTa := anv (λw (h : Sl w A c L) => LL s A c L e w h da);have HTb := anv (λw (h : Sl w B d M) => LL t B d M f w h db);have Hlt := anv (λh => abI (a := ⟨s,val L,e⟩) (b := ⟨t,val M,f⟩) wj tK h);have Hgt := anv (λh => abH (a := ⟨s,val L,e⟩) (b := ⟨t,val M,f⟩) wj tK h);have Hta := anv (show Dy.iI ⟨s,val L,e⟩=iD (val L)+e by unfold Dy.iI;rw[bu wj]);have Htb := anv (show Dy.iI ⟨t,val M,f⟩=iD (val M)+f by unfold Dy.iI;rw[bu tK]);obtain⟨k,hk⟩ : ∃ k,min e f=k := ⟨_,rfl⟩
  have hke : k<=e := aC ;have hkf : k<=f := aC ;have nT : -17000<=k := aC ;have Tm := anv (aC:k=e\/k=f);have TY : IntKind.i64.wrap (e-k)=e-k := i64_in _ aC aC;have hwf : IntKind.i64.wrap (f-k)=f-k := i64_in _ aC aC;have HM := anv (show tH ⟨s,val L,e⟩ ⟨t,val M,f⟩=lf (val L*2^(e-k).toNat) (val M*2^(f-k).toNat)by unfold tH;simp only[hk];rfl);have Hfa := anv (show iD (val L)+e=iD (val M)+f->iD (val L*2^(e-k).toNat)<=4096 from λh => by
    rw[sL wj];have := da.bits;have := db.bits;have := Tm.out;omega)
  have Hfb := anv (show iD (val L)+e=iD (val M)+f->iD (val M*2^(f-k).toNat)<=4096 from λh => by
    rw[sL tK];have := da.bits;have := db.bits;have := Tm.out;omega)
  have HXa := anv (λw (h : Sl w A c L) rE => XN A c L (e-k) w h hl aC aC rE);have HXb := anv (λw (h : Sl w B d M) rE => XN B d M (f-k) w h hm aC aC rE);generalize Dy.iI ⟨s,val L,e⟩=ta at *
  generalize Dy.iI ⟨t,val M,f⟩=tb at *
  generalize tH ⟨s,val L,e⟩ ⟨t,val M,f⟩=R at *
  generalize val L*2^(e-k).toNat=x at *
  generalize val M*2^(f-k).toNat=y at *
  have HC := anv (λA B c d w (h : Sl w A c (im x)) (k : Sl w B d (im y)) hx hy => JH A B c d (im x) (im y) w h k hx hy);rw[lh,lh]at HC;clear wj tK da db hl hm;go_enter func183,ntmps183;go_wp2_with fail;go_region_held3 (λw' => w'.cell? ⟨w.heap.size,0,none⟩=some (.bool s)/\w'.cell? ⟨w.heap.size,1,none⟩=some (.slice A L.length c)/\w'.cell? ⟨w.heap.size,2,none⟩=some (.int .i64 e)/\w'.cell? ⟨w.heap.size+1,0,none⟩=some (.bool t)/\w'.cell? ⟨w.heap.size+1,1,none⟩=some (.slice B M.length d)/\w'.cell? ⟨w.heap.size+1,2,none⟩=some (.int .i64 f))
    (first
      |exact⟨me.c0,me.c1,me.c2,mr.c0,mr.c1,mr.c2⟩
      |exact⟨(me.ext jj).c0,(me.ext jj).c1,(me.ext jj).c2,(mr.ext jj).c0,(mr.ext jj).c1,(mr.ext jj).c2⟩
      |exact⟨(me.ext jK).c0,(me.ext jK).c1,(me.ext jK).c2,(mr.ext jK).c0,(mr.ext jK).c1,(mr.ext jK).c2⟩
      |exact⟨(me.ext (jj.trans jK)).c0,(me.ext (jj.trans jK)).c1,(me.ext (jj.trans jK)).c2,(mr.ext (jj.trans jK)).c0,(mr.ext (jj.trans jK)).c1,(mr.ext (jj.trans jK)).c2⟩
      |exact⟨(me.ext (jK.trans jj)).c0,(me.ext (jK.trans jj)).c1,(me.ext (jK.trans jj)).c2,(mr.ext (jK.trans jj)).c0,(mr.ext (jK.trans jj)).c1,(mr.ext (jK.trans jj)).c2⟩
      |exact⟨(me.ext ((jj.trans jK).trans pM)).c0,(me.ext ((jj.trans jK).trans pM)).c1,(me.ext ((jj.trans jK).trans pM)).c2,(mr.ext ((jj.trans jK).trans pM)).c0,(mr.ext ((jj.trans jK).trans pM)).c1,(mr.ext ((jj.trans jK).trans pM)).c2⟩
      |exact⟨(me.ext ((jK.trans jj).trans pM)).c0,(me.ext ((jK.trans jj).trans pM)).c1,(me.ext ((jK.trans jj).trans pM)).c2,(mr.ext ((jK.trans jj).trans pM)).c0,(mr.ext ((jK.trans jj).trans pM)).c1,(mr.ext ((jK.trans jj).trans pM)).c2⟩)
    (first
      | (go_at_call_of 185 (Value.agg #[.bool s,.slice A L.length c,.int .i64 e])
         refine(HTa.out _ ?_).mono ?_
         (first|exact zI|exact zI.below jK)
         rintro r wx ⟨rfl,jj⟩)
      | (go_at_call_of 185 (Value.agg #[.bool t,.slice B M.length d,.int .i64 f])
         refine(HTb.out _ ?_).mono ?_
         (first|exact Cu|exact Cu.below jj)
         rintro r wy ⟨rfl,jK⟩))
  first
    | (have qQ := jj.trans jK)
    | (have qQ := jK.trans jj)
  have cx1 := (me.ext qQ).drew;have cx2 := (mr.ext qQ).drew;have kZ := (zI.below qQ).drew;have od := (Cu.below qQ).drew;have cx1n := (me.ext qQ)
  have cx2n := (mr.ext qQ)
  have HF := anv ((HE.out.trans qQ).trans (ja.drew _));have HFr := anv (HE.out.trans qQ);clear jj jK qQ;by_cases h1 : ta<tb
  . have hR := anv (Hlt.out h1)
    go_wp2;go_ret;exact⟨pJ hR.out.symm,HFr.out⟩
  . by_cases h2 : tb<ta
    . have hR := anv (Hgt.out h2)
      go_wp2;go_ret;exact⟨pJ hR.out.symm,HFr.out⟩
    . have nU : (iD (val L) : Int)+e=iD (val M)+f := by rw[<-Hta.out,<-Htb.out];omega
      have pF := NN (k := 128) (Hfa.out nU);have hfb := NN (k := 128) (Hfb.out nU);have HXa2 := anv (λw h => HXa.out w h aC);have HXb2 := anv (λw h => HXb.out w h aC);have HC2 := anv (λA B c d w h k => HC.out A B c d w h k aC aC);have b0 := cx1n.c0;have b1 := cx1n.c1;have b2 := cx1n.c2;have d0 := cx2n.c0;have d1 := cx2n.c1;have d2 := cx2n.c2;clear nU pF hfb;go_wp2_with fail;go_region_held3 (λw' => w'.cell? ⟨w.heap.size,0,none⟩=some (.bool s)/\w'.cell? ⟨w.heap.size,1,none⟩=some (.slice A L.length c)/\w'.cell? ⟨w.heap.size,2,none⟩=some (.int .i64 e)/\w'.cell? ⟨w.heap.size+1,0,none⟩=some (.bool t)/\w'.cell? ⟨w.heap.size+1,1,none⟩=some (.slice B M.length d)/\w'.cell? ⟨w.heap.size+1,2,none⟩=some (.int .i64 f))
        (first
          |exact⟨cx1.c0,cx1.c1,cx1.c2,cx2.c0,cx2.c1,cx2.c2⟩
          |exact⟨(cx1.ext jj).c0,(cx1.ext jj).c1,(cx1.ext jj).c2,(cx2.ext jj).c0,(cx2.ext jj).c1,(cx2.ext jj).c2⟩
          |exact⟨(cx1.ext jK).c0,(cx1.ext jK).c1,(cx1.ext jK).c2,(cx2.ext jK).c0,(cx2.ext jK).c1,(cx2.ext jK).c2⟩
          |exact⟨(cx1.ext (jj.trans jK)).c0,(cx1.ext (jj.trans jK)).c1,(cx1.ext (jj.trans jK)).c2,(cx2.ext (jj.trans jK)).c0,(cx2.ext (jj.trans jK)).c1,(cx2.ext (jj.trans jK)).c2⟩
          |exact⟨(cx1.ext (jK.trans jj)).c0,(cx1.ext (jK.trans jj)).c1,(cx1.ext (jK.trans jj)).c2,(cx2.ext (jK.trans jj)).c0,(cx2.ext (jK.trans jj)).c1,(cx2.ext (jK.trans jj)).c2⟩
          |exact⟨(cx1.ext ((jj.trans jK).trans pM)).c0,(cx1.ext ((jj.trans jK).trans pM)).c1,(cx1.ext ((jj.trans jK).trans pM)).c2,(cx2.ext ((jj.trans jK).trans pM)).c0,(cx2.ext ((jj.trans jK).trans pM)).c1,(cx2.ext ((jj.trans jK).trans pM)).c2⟩
          |exact⟨(cx1.ext ((jK.trans jj).trans pM)).c0,(cx1.ext ((jK.trans jj).trans pM)).c1,(cx1.ext ((jK.trans jj).trans pM)).c2,(cx2.ext ((jK.trans jj).trans pM)).c0,(cx2.ext ((jK.trans jj).trans pM)).c1,(cx2.ext ((jK.trans jj).trans pM)).c2⟩)
        (first
          | (go_at_call_of 220 (Value.slice A L.length c)
             refine(HXa2.out _ ?_).mono ?_
             (first|exact kZ|exact kZ.below jK)
             rintro r wx ⟨Ax,cx,rfl,TH,jj⟩)
          | (go_at_call_of 220 (Value.slice B M.length d)
             refine(HXb2.out _ ?_).mono ?_
             (first|exact od|exact od.below jj)
             rintro r wy ⟨Ay,cy,rfl,TJ,jK⟩)
          | (go_at_call 223
             refine(HC2.out _ _ _ _ _ ?_ ?_).mono ?_
             (first|exact TH.below jK|exact TH)
             (first|exact TJ|exact TJ.below jj)
             rintro r wz ⟨rfl,pM⟩))
      all_goals
        go_wp2;go_ret
        (first|exact⟨pJ HM.out.symm,HF.out.trans ((jj.trans jK).trans pM)⟩|exact⟨pJ HM.out.symm,HF.out.trans ((jK.trans jj).trans pM)⟩)
def XY{d:Dy}:d.jG=0↔d.m=0:=by
 rcases Hd d with⟨h1,h2⟩|⟨h1,_,h2⟩|⟨h1,_,h2⟩<;>simp[h1,h2]
def ack(s : Bool)(A : Option Addr)(c : Nat)(L : List Nat)(e : Int)(t : Bool)(B : Option Addr)(d : Nat)(M : List Nat)(f : Int)(w : World)
    (hs : Sl w A c L) (hr : Sl w B d M) (da : pB s L e) (db : pB t M f):
    Calls prog 108 #[.agg #[.bool s,.slice A L.length c,.int .i64 e],.agg #[.bool t,.slice B M.length d,.int .i64 f]] w λr w' => r = .returned (.int .i64 (jE ⟨s,val L,e⟩ ⟨t,val M,f⟩))/\ja w w' := by
  obtain⟨mP,lW⟩ := da.exp;obtain⟨MO,MQ⟩ := db.exp;have HVa := anv (λw (h : Sl w A c L) => B9 s A c L e w true h aC aC (by simp[da]));have HVb := anv (λw (h : Sl w B d M) => B9 t B d M f w true h aC aC (by simp[db]));have HSa := anv (λw (h : Sl w A c L) => LJ s A c L e w h da);have HSb := anv (λw (h : Sl w B d M) => LJ t B d M f w h db);have HK := anv (λh1 h2 w (h : Sl w A c L) (k : Sl w B d M) => acn s A c L e t B d M f w h k da db h1 h2);have HP := anv (Ri ⟨s,val L,e⟩ ⟨t,val M,f⟩);have z1 : Hid (Dy.jG ⟨s,val L,e⟩=0↔val L=0) := XY;have z2 : Hid (Dy.jG ⟨t,val M,f⟩=0↔val M=0) := XY;have Jp : Dy.jG ⟨s,val L,e⟩=0\/Dy.jG ⟨s,val L,e⟩ = -1\/Dy.jG ⟨s,val L,e⟩=1 := by
    rcases Hd ⟨s,val L,e⟩with⟨_,h⟩|⟨_,_,h⟩|⟨_,_,h⟩<;>simp[h]
  have nS : tH ⟨s,val L,e⟩ ⟨t,val M,f⟩ = -1\/tH ⟨s,val L,e⟩ ⟨t,val M,f⟩=0\/tH ⟨s,val L,e⟩ ⟨t,val M,f⟩=1 := by
    unfold tH lf;split;simp;split<;>simp
  generalize Dy.jG ⟨s,val L,e⟩=sa at *
  generalize Dy.jG ⟨t,val M,f⟩=sb at *
  generalize tH ⟨s,val L,e⟩ ⟨t,val M,f⟩=cm at *
  generalize jE ⟨s,val L,e⟩ ⟨t,val M,f⟩=R at *
  have Cz : IntKind.i64.wrap (sa*cm)=sa*cm := i64_in _ (by rcases Jp with rfl|rfl|rfl<;>omega) (by rcases Jp with rfl|rfl|rfl<;>omega);have HH := anv Jp;clear Jp nS da db;go_enter func108,ntmps108;go_wp2_with fail;refine(HVa.out _ ((hs.alloc _).alloc _)).mono ?_;rintro r w1 ⟨rfl,kR⟩;have me := ((jV.new w s A L.length c e).alloc (.cells #[.bool t,.slice B M.length d,.int .i64 f] 31)).ext kR;have mr := (jV.yL (W := w.alloc (.cells #[.bool s,.slice A L.length c,.int .i64 e] 31)) (g := w.heap.size+1) aH t B M.length d f).ext kR;have b0 := me.c0;have b1 := me.c1;have b2 := me.c2;have d0 := mr.c0;have d1 := mr.c1;have d2 := mr.c2;have hE := (((ja.alloc w (.cells #[.bool s,.slice A L.length c,.int .i64 e] 31)).trans (ja.alloc _ (.cells #[.bool t,.slice B M.length d,.int .i64 f] 31))).trans kR)
  go_wp2_with fail;refine(HVb.out _ (hr.below hE)).mono ?_;rintro r w2 ⟨rfl,oc⟩;have I2 := hE.trans oc;have me := (me.ext oc).drew;have mr := (mr.ext oc).drew;have zI := (hs.below I2).drew;have Cu := (hr.below I2).drew;have HE := anv (I2.trans (ja.drew _));clear hE I2 kR oc b0 b1 b2 d0 d1 d2;go_wp2_with fail;go_region_held3 (λw' => w'.cell? ⟨w.heap.size,0,none⟩=some (.bool s)/\w'.cell? ⟨w.heap.size,1,none⟩=some (.slice A L.length c)/\w'.cell? ⟨w.heap.size,2,none⟩=some (.int .i64 e)/\w'.cell? ⟨w.heap.size+1,0,none⟩=some (.bool t)/\w'.cell? ⟨w.heap.size+1,1,none⟩=some (.slice B M.length d)/\w'.cell? ⟨w.heap.size+1,2,none⟩=some (.int .i64 f))
    (first
      |exact⟨me.c0,me.c1,me.c2,mr.c0,mr.c1,mr.c2⟩
      |exact⟨(me.ext jj).c0,(me.ext jj).c1,(me.ext jj).c2,(mr.ext jj).c0,(mr.ext jj).c1,(mr.ext jj).c2⟩
      |exact⟨(me.ext jK).c0,(me.ext jK).c1,(me.ext jK).c2,(mr.ext jK).c0,(mr.ext jK).c1,(mr.ext jK).c2⟩
      |exact⟨(me.ext (jj.trans jK)).c0,(me.ext (jj.trans jK)).c1,(me.ext (jj.trans jK)).c2,(mr.ext (jj.trans jK)).c0,(mr.ext (jj.trans jK)).c1,(mr.ext (jj.trans jK)).c2⟩
      |exact⟨(me.ext (jK.trans jj)).c0,(me.ext (jK.trans jj)).c1,(me.ext (jK.trans jj)).c2,(mr.ext (jK.trans jj)).c0,(mr.ext (jK.trans jj)).c1,(mr.ext (jK.trans jj)).c2⟩)
    (first
      | (go_at_call_of 92 (Value.agg #[.bool s,.slice A L.length c,.int .i64 e])
         refine(HSa.out _ ?_).mono ?_
         (first|exact zI|exact zI.below jK)
         rintro r wx ⟨rfl,jj⟩)
      | (go_at_call_of 92 (Value.agg #[.bool t,.slice B M.length d,.int .i64 f])
         refine(HSb.out _ ?_).mono ?_
         (first|exact Cu|exact Cu.below jj)
         rintro r wy ⟨rfl,jK⟩))
  first
    | (have qQ := jj.trans jK)
    | (have qQ := jK.trans jj)
  have cx1 := (me.ext qQ)
  have cx2 := (mr.ext qQ)
  have kZ := (zI.below qQ)
  have od := (Cu.below qQ)
  have HFr := anv (HE.out.trans qQ);clear jj jK qQ;by_cases h1 : sa<sb
  . have hR := anv (show R = -1 by rw[HP.out,bw h1])
    go_wp2;go_ret;exact⟨pJ hR.out.symm,HFr.out⟩
  . by_cases h2 : sb<sa
    . have hR := anv (show R=1 by rw[HP.out,bu h1,bw h2])
      go_wp2;go_ret;exact⟨pJ hR.out.symm,HFr.out⟩
    . by_cases h3 : sa=0
      . have hR := anv (show R=0 by rw[HP.out,bu h1,bu h2,bw h3])
        have hz : (sa==0)=true := by simp[h3]
        go_wp2;go_ret;exact⟨pJ hR.out.symm,HFr.out⟩
      . have hR := anv (show R=sa*cm by rw[HP.out,bu h1,bu h2,bu h3])
        have hz : (sa==0)=false := bh h3;have HK2 := anv (HK.out (λh => h3 (z1.out.2 h)) (λh => h3 (by have := z2.out.2 h;omega)));have b0 := cx1.c0;have b1 := cx1.c1;have b2 := cx1.c2;have d0 := cx2.c0;have d1 := cx2.c1;have d2 := cx2.c2;go_wp2_with fail;refine(HK2.out _ kZ od).mono ?_;rintro r w3 ⟨rfl,sd⟩;go_wp2;go_ret;exact⟨pJ hR.out.symm,HFr.out.trans sd⟩
def Q3{L:List Nat}(h:iY L)(hl:L.length<=256)(s:Bool)(e:Int):(im (canon s (val L) e).m).length<=100000000:=by
 unfold canon;split
 .simp [px]
 .refine bI (xA (k:=256) (cP (cv _ _) ?_)) aE ;exact bX (oX h) (bY aE hl)
def Q2{L:List Nat}(h:iY L)(hl:L.length<=256)(s:Bool)(e:Int)(h1:-9000000<=e)(h2:e<=9000000):-10000000<=(canon s (val L) e).e/\(canon s (val L) e).e<=10000000:=by
 unfold canon;split
 .simp
 .rename_i h0;have:=Fo h h0;simp only;omega
def ais(s:Bool)(A:Option Addr)(c:Nat)(L:List Nat)(e k:Int)(w:World)(hs:Sl w A c L)(hd:pB s L e)(nT:-32768<=k)(xi:k<=32768)(hr:oz (canon s (val L) (e+k))):
 Calls prog 125 #[.agg #[.bool s,.slice A L.length c,.int .i64 e],.int .i64 k] w (y3 w (canon s (val L) (e+k)) 0):=by
 obtain⟨mP,lW⟩:=hd.exp;have hlen:=hd.len;have HV:=anv (λw (h:Sl w A c L)=>WD s A c L e w true h aC aC (by simp[hd]));have HX:=anv (λw=>ail k w true (by simp[nT,xi]));have hw:IntKind.i64.wrap (e+k)=e+k:=i64_in _ aC aC;have HC:=anv (λw (h:Sl w A c L)=>OV s A c L (e+k) w h aC aC aC);have kR:=Q3 hs.ok hlen s (e+k);obtain⟨oc,sd⟩:=Q2 hs.ok hlen s (e+k) aC aC;have hv:(canon s (val L) (e+k)).iy:=⟨tG _ _ _,hr⟩
 have HK:=anv (λA c w (h:Sl w A c (im (canon s (val L) (e+k)).m))=>aih _ A c w h kR oc sd hv);generalize canon s (val L) (e+k)=D at *
 clear hd hr hv kR oc sd;go_enter func125,ntmps125;go_wp2_with fail;refine(HV.out _ ((hs.alloc _).alloc _)).mono ?_;rintro r w1 ⟨rfl,kR⟩;have me:=((jV.new w s A L.length c e).alloc (.cells #[.bool false,.slice none 0 0,.int .i64 0] 31)).ext kR;have mr:=(jV.yL (W:=w.alloc (.cells #[.bool s,.slice A L.length c,.int .i64 e] 31)) (g:=w.heap.size+1) aH false none 0 0 0).ext kR;have b0:=me.c0;have b1:=me.c1;have b2:=me.c2;have hE:=(((ja.alloc w (.cells #[.bool s,.slice A L.length c,.int .i64 e] 31)).trans (ja.alloc _ (.cells #[.bool false,.slice none 0 0,.int .i64 0] 31))).trans kR)
 have zI:=hs.below hE;have HE:=anv hE;clear hE kR;go_wp2_with fail;refine(HX.out _).mono ?_;rintro r w2 ⟨rfl,rfl⟩;go_wp2_with fail;refine(HC.out _ zI).mono ?_;rintro r w2 ⟨A1,c1,rfl,vz,oc⟩;go_wp2_with fail;refine(HK.out _ _ _ vz).mono ?_;rintro r w3 ⟨A2,c2,rfl,kZ,sd⟩;have bz:=mr.ext (oc.trans sd);have z0:=bz.c0;have z1:=bz.c1;have z2:=bz.c2;have f0:=bz.fr 0;have f1:=bz.fr 1;have f2:=bz.fr 2;go_wp2;exact DH rfl rfl rfl rfl (bz.set _ _ _ _ _) rfl (bz.vR kZ _ _ _ _ _) (jV.uK (HE.out.trans (oc.trans sd)) aC _ _ _ _ _)
abbrev DV(d:Dy)(A:Option Addr)(c:Nat):Value:=.agg #[.bool d.neg,.slice A (im d.m).length c,.int .i64 d.e]
def afR{n k:Nat}(h:iD n<=32*k):(im n).length<=k:=by
 refine xA (bX (sC _) ?_);rw[uG];exact bY aE h
def Fp.Dy.iy.xX{d:Dy}(h:d.iy):pB d.neg (im d.m) d.e:=by
 refine⟨BU _,afR ?_,by rw[lh];exact h⟩;rcases h.range with h0|⟨h1,_⟩
 .rw [h0];exact cz _
 .omega
def Fp.Dy.iy.len{d:Dy}(h:d.iy):(im d.m).length<=256:=h.xX.2.1
def Fp.Dy.iy.exp{d:Dy}(h:d.iy):-16384<=d.e/\d.e<=16384:=h.xX.exp
def Fp.Dy.iy.bits{d:Dy}(h:d.iy):iD d.m<=4096:=by have:=h.xX.bits;rwa[lh]at this
def jV.all{w:World}{g n c:Nat}{s:Bool}{A:Option Addr}{e:Int}(h:jV w g s A n c e):w.cell? ⟨g,0,none⟩=some (.bool s)/\w.cell? ⟨g,1,none⟩=some (.slice A n c)/\w.cell? ⟨g,2,none⟩=some (.int .i64 e):=⟨h.c0,h.c1,h.c2⟩
def jV.Cd{w:World}{g n c:Nat}{s:Bool}{A:Option Addr}{e:Int}(h:jV w g s A n c e){g':Nat}(kj:g'≠g)(i:Nat)(v:Value):jV (w.setCell ⟨g',i,none⟩ v) g s A n c e:=by
 unfold jV at h ⊢;simp only[World.setCell,fJ];rw[bu kj];exact h
def jV.L8{w:World}{g n c:Nat}{s:Bool}{A:Option Addr}{e:Int}(h:jV w g s A n c e){g':Nat}(kj:g'≠g)(v0 v1 v2:Value):
 jV (((w.setCell ⟨g',0,none⟩ v0).setCell ⟨g',1,none⟩ v1).setCell ⟨g',2,none⟩ v2) g s A n c e:=((h.Cd kj 0 v0).Cd kj 1 v1).Cd kj 2 v2
def aik(a b:Dy)(A B:Option Addr)(c d:Nat)(w:World)(r:Bool)(h:Sl w A c (im a.m))(k:Sl w B d (im b.m))(ha:(im a.m).length<=100000)(hb:(im b.m).length<=100000)(hr:r=true↔a=b):
 Calls prog 34 #[DV a A c,DV b B d] w λe w'=>e = .returned (.bool r)/\ja w w':=
 aij a.neg A c (im a.m) a.e b.neg B d (im b.m) b.e w r h k (BU _) (BU _) ha hb (by
  rw[hr];obtain⟨s,m,e⟩:=a;obtain⟨t,n,f⟩:=b;simp only[Dy.mk.injEq];constructor
  .rintro ⟨x,y,z⟩;exact⟨x,z,by rw[y]⟩
  .rintro ⟨x,y,z⟩;have:=congrArg val z;rw[lh,lh]at this;exact⟨x,this,y⟩)
def acm(a b:Dy)(A B:Option Addr)(c d:Nat)(w:World)(h:Sl w A c (im a.m))(k:Sl w B d (im b.m))(ha:a.iy)(hb:b.iy):
 Calls prog 108 #[DV a A c,DV b B d] w λe w'=>e = .returned (.int .i64 (jE a b))/\ja w w':=by
 have:=ack a.neg A c (im a.m) a.e b.neg B d (im b.m) b.e w h k ha.xX hb.xX;rw[lh,lh]at this;exact this
def aci(a:Dy)(A:Option Addr)(c:Nat)(w:World)(h:Sl w A c (im a.m))(ha:a.iy):
 Calls prog 173 #[DV a A c] w λe w'=>e = .returned (.int .i64 (iD a.m))/\ja w w':=by
 have:=ach a.neg A c (im a.m) a.e w h ha.xX;rw[lh]at this;exact this
def acr(a:Dy)(A:Option Addr)(c:Nat)(w:World)(h:Sl w A c (im a.m))(ha:a.iy):
 Calls prog 92 #[DV a A c] w λe w'=>e = .returned (.int .i64 a.jG)/\ja w w':=by
 have:=LJ a.neg A c (im a.m) a.e w h ha.xX;rw[lh]at this;exact this
def RQ(a:Dy)(A:Option Addr)(c:Nat)(w:World)(h:Sl w A c (im a.m))(ha:a.iy):
 Calls prog 91 #[DV a A c] w λe w'=>e = .returned (.bool true)/\ja w w':=
 B9 a.neg A c (im a.m) a.e w true h (by have:=ha.exp;omega) (by have:=ha.exp;omega) (by simp[ha.xX])
open Pu
def P9:∀ w w',Tb w->Below w.heap.size w w'->Tb w':=λ_ _ h hb=>h.below hb
def mixed:prog.follows .mixedOrders=true:= aF 
abbrev ik(f:FuncId)(args:List E)(kq:E):Prop:=PC prog Tb f args kq
def iu(L:List Nat):E:=.sl false L.length 1 λi _=>.v (.int .u32 (L.getD i 0:Int))
def iA(d:Dy):E:=.agg [.v (.bool d.neg),iu (im d.m),.v (.int .i64 d.e)]
abbrev iP(z:Int):E:=.v (.int .i64 z)
abbrev bP(b:Bool):E:=.v (.bool b)
abbrev ar:List E:=[bP false,.v (.slice none 0 0),iP 0]
abbrev au:List E:=[bP false,.v (.slice none 0 0),iP 0,bP false,.v (.slice none 0 0),iP 0,bP false]
def Am{bs br:Nat->Prop}{w:World}{L:List Nat}{v:Value}(hk:iY L)(h:iO bs br w (iu L) v):∃ A c,v = .slice A L.length c/\Sl w A c L:=by
 cases h with
 |sl _ _ _ _ A c f hc hm h0 hl hr cell kk=>
  refine⟨A,c,rfl,hc,hm,hk,h0,λi x hx=>?_⟩;obtain⟨hi,xt⟩:=cw.1 hx;obtain⟨b,o,e1,_,iJ,kt⟩:=cell i 0 hi aE;have hv:=iO.kG (kk i 0 hi aE);refine⟨b,o,e1,iJ,?_⟩;rw[cI,ch,hv]at kt;rw[kt];simp[bC,hx]
def BO{B br:Nat->Prop}{w w':World}{A:Option Addr}{c:Nat}{L:List Nat}(hB:∀ b,B b->b<w.heap.size/\oY w b)(hb:ja w w')(h:Sl w' A c L):iO B br w' (iu L) (.slice A L.length c):=by
 refine .sl false L.length 1 _ A c (λi _=>.int .u32 (L.getD i 0:Int)) h.cap h.rH h.yM (λi j _ _=>⟨rfl,λh=>by cases h⟩) (λi j _ _=>rfl) (λi j hi hj=>?_) (λi j _ _=>.v _)
 .obtain rfl:j=0:= aC ;obtain⟨b,o,e1,iJ,kt⟩:=h.nc hi;have e2:L.getD i 0=L[i]:=by simp[bC,hi]
  refine⟨b,o,e1,λA8=>?_,iJ,by rw[cI,ch,kt,e2]⟩;obtain⟨h1,h2⟩:=hB b A8;exact(h2.Eo (hb.block b h1)) _ _ kt
def IG{bs br:Nat->Prop}{w:World}{d:Dy}{v:Value}(h:iO bs br w (iA d) v):∃ A c,v=DV d A c/\Sl w A c (im d.m):=by
 obtain⟨vs,rfl,q⟩:=iO.Dt (show iO bs br w (.agg _) v from h);obtain⟨v1,vs,rfl,h1,q⟩:=q.nE;obtain⟨v2,vs,rfl,h2,q⟩:=q.nE;obtain⟨v3,vs,rfl,h3,q⟩:=q.nE;obtain rfl:=q.r6;obtain rfl:=iO.kG h1;obtain rfl:=iO.kG h3;obtain⟨A,c,rfl,hs⟩:=Am (nD _) h2;exact⟨A,c,rfl,hs⟩
def RO{B br:Nat->Prop}{w w':World}{A:Option Addr}{c:Nat}{d:Dy}(hB:∀ b,B b->b<w.heap.size/\oY w b)(hb:ja w w')(h:Sl w' A c (im d.m)):iO B br w' (iA d) (DV d A c):=
 ky.agg (.cons (.v _) (.cons (BO hB hb h) (.cons (.v _) (.nil _ _ _))))
section
variable {f:FuncId} {a b:Dy}
def Ev(hc:∀ (vs:Array Value) (w:World),(callFunc f vs).run prog w = .ok (.enter f vs) w){kq:E}{R:World->Ending->World->Prop}
 (H:∀ A c w,Sl w A c (im a.m)->Tb w->Calls prog f #[DV a A c] w (R w)) (hR:∀ (B:Nat->Prop) w e w',(∀ b,B b->b<w.heap.size/\oY w b)->R w e w'->∃ v,e = .returned v/\Below w.heap.size w w'/\iO B (λ_=>True) w' kq v):ik f [iA a] kq:=by
 refine⟨hc,λw B vs hK hB hr=>?_⟩;obtain⟨v1,vs,rfl,h1,hr⟩:=hr.nE;obtain rfl:=hr.r6;obtain⟨A,c,rfl,s1⟩:=IG h1;exact(H A c w s1 hK).mono λe w' h=>hR B w e w' hB h
def Wg(hc:∀ (vs:Array Value) (w:World),(callFunc f vs).run prog w = .ok (.enter f vs) w){kq:E}{R:World->Ending->World->Prop}
 (H:∀ A c A' c' w,Sl w A c (im a.m)->Sl w A' c' (im b.m)->Tb w->Calls prog f #[DV a A c,DV b A' c'] w (R w)) (hR:∀ (B:Nat->Prop) w e w',(∀ b,B b->b<w.heap.size/\oY w b)->R w e w'->∃ v,e = .returned v/\Below w.heap.size w w'/\iO B (λ_=>True) w' kq v):ik f [iA a,iA b] kq:=by
 refine⟨hc,λw B vs hK hB hr=>?_⟩;obtain⟨v1,vs,rfl,h1,hr⟩:=hr.nE;obtain⟨v2,vs,rfl,h2,hr⟩:=hr.nE;obtain rfl:=hr.r6;obtain⟨A,c,rfl,s1⟩:=IG h1;obtain⟨A',c',rfl,s2⟩:=IG h2;exact(H A c A' c' w s1 s2 hK).mono λe w' h=>hR B w e w' hB h
end
def rv{x:Value}:∀ (B:Nat->Prop) (w:World) (e:Ending) (w':World),(∀ b,B b->b<w.heap.size/\oY w b)->(e = .returned x/\ja w w')->∃ v,e = .returned v/\Below w.heap.size w w'/\iO B (λ_=>True) w' (.v x) v:=
 λ_ _ _ _ _ h=>⟨x,h.1,h.2,.v x⟩
def rd{d:Dy}:∀ (B:Nat->Prop) (w:World) (e:Ending) (w':World),(∀ b,B b->b<w.heap.size/\oY w b)->yZ w d e w'->∃ v,e = .returned v/\Below w.heap.size w w'/\iO B (λ_=>True) w' (iA d) v:=
 λ_ _ _ _ hB ⟨_,_,h1,h2,h3⟩=>⟨_,h1,h3,RO hB h3 h2⟩
def OQ{d:Dy}{n:Int}:∀ (B:Nat->Prop) (w:World) (e:Ending) (w':World),(∀ b,B b->b<w.heap.size/\oY w b)->y3 w d n e w'->∃ v,e = .returned v/\Below w.heap.size w w'/\iO B (λ_=>True) w' (.iE [iA d,iP n]) v:=
 λ_ _ _ _ hB ⟨_,_,h1,h2,h3⟩=>⟨_,h1,h3,ky.iE (.cons (RO hB h3 h2) (.cons (.v _) (.nil _ _ _)))⟩
def Au:E.le (.agg ar) (iA iS):=by
 have:iA iS = .agg [bP false,.sl false 0 1 λi _=>.v (.int .u32 (((im 0).getD i 0:Nat):Int)),iP 0]:=by
  show E.agg [bP false,iu (im 0),iP 0]=_;unfold iu;rw[px];rfl
 rw[this];exact .agg (.cons (.refl _) (.cons (.nil _ _ _) (.cons (.refl _) .nil)))
def nv(a b:Dy)(ha:a.iy)(hb:b.iy):ik 108 [iA a,iA b] (iP (jE a b)):=Wg call108 (λA c A' c' w h k _=>acm a b A A' c c' w h k ha hb) rv
def pC(a:Dy)(ha:a.iy):ik 92 [iA a] (iP a.jG):=Ev call92 (λA c w h _=>acr a A c w h ha) rv
def q7(a:Dy)(ha:a.iy):ik 91 [iA a] (bP true):=Ev call91 (λA c w h _=>RQ a A c w h ha) rv
def IE(a:Dy)(ha:a.iy):ik 173 [iA a] (iP (iD a.m)):=Ev call173 (λA c w h _=>aci a A c w h ha) rv
def yS(t e:Nat)(s:String):TI:=⟨t,.slice e,⟨.slice e,s,1,24,true,8,8,some (.slice none 0 0),false,#[]⟩⟩
def uM(t:Nat)(d:TypeDesc)(s:String):TI:=⟨t,d,⟨d,s,1,8,true,8,8,some (.nilFunc),false,#[]⟩⟩
def TT:List TI:=[
 ⟨3,.int .i64,⟨.int .i64, "int", 1,8,false,8,8,some (.int .i64 0),true,#[]⟩⟩,
 ⟨4,.bool,⟨.bool, "bool", 1,1,false,1,1,some (.bool false),true,#[]⟩⟩,
 ⟨9,.string,⟨.string, "string", 1,16,true,8,8,some (.string ⟨#[]⟩),true,#[]⟩⟩,yS 22 107 "[]api.Op",yS 23 3 "[]int",
 ⟨25,.struct #[⟨"Ins", 3,0,false, "", "", 0⟩,⟨"Ops", 22,1,false, "", "", 8⟩,⟨"Outs", 23,2,false, "", "", 32⟩],⟨.named "flowpipe/api.Tape" 24, "api.Tape", 3,56,true,8,8,some (.agg #[.int .i64 0,.slice none 0 0,.slice none 0 0]),false,#[]⟩⟩,yS 26 39 "[]api.Interval",
 ⟨28,.struct #[⟨"Tape", 25,0,false, "", "", 0⟩,⟨"States", 3,3,false, "", "", 56⟩,⟨"Params", 26,4,false, "", "", 64⟩],⟨.named "flowpipe/api.System" 27, "api.System", 5,88,true,8,8,some (.agg #[.int .i64 0,.slice none 0 0,.slice none 0 0,.int .i64 0,.slice none 0 0]),false,#[]⟩⟩,yS 29 171 "[]uint32",
 ⟨31,.struct #[⟨"Neg", 4,0,false, "", "", 0⟩,⟨"M", 29,1,false, "", "", 8⟩,⟨"E", 3,2,false, "", "", 32⟩],⟨.named "flowpipe/api.Dyadic" 30, "api.Dyadic", 3,40,true,8,8,some (.agg #[.bool false,.slice none 0 0,.int .i64 0]),false,#[]⟩⟩,
 ⟨33,.struct #[⟨"From", 31,0,false, "", "", 0⟩,⟨"To", 31,3,false, "", "", 40⟩,⟨"Tube", 26,6,false, "", "", 80⟩,⟨"End", 26,7,false, "", "", 104⟩],⟨.named "flowpipe/api.Segment" 32, "api.Segment", 8,128,true,8,8,some (.agg #[.bool false,.slice none 0 0,.int .i64 0,.bool false,.slice none 0 0,.int .i64 0,.slice none 0 0,.slice none 0 0]),false,#[]⟩⟩,uM 36 (.func #[31] #[4] false) "func(api.Dyadic) bool",
 ⟨39,.struct #[⟨"Lo", 31,0,false, "", "", 0⟩,⟨"Hi", 31,3,false, "", "", 40⟩,⟨"All", 4,6,false, "", "", 80⟩],⟨.named "flowpipe/api.Interval" 38, "api.Interval", 7,88,true,8,8,some (.agg #[.bool false,.slice none 0 0,.int .i64 0,.bool false,.slice none 0 0,.int .i64 0,.bool false]),false,#[]⟩⟩,
 ⟨41,.struct #[⟨"Segment", 3,0,false, "", "", 0⟩,⟨"Kind", 3,1,false, "", "", 8⟩,⟨"Dir", 3,2,false, "", "", 16⟩,⟨"When", 39,3,false, "", "", 24⟩,⟨"Where", 26,10,false, "", "", 112⟩],⟨.named "flowpipe/cross.Crossing" 40, "cross.Crossing", 11,136,true,8,8,some (.agg #[.int .i64 0,.int .i64 0,.int .i64 0,.bool false,.slice none 0 0,.int .i64 0,.bool false,.slice none 0 0,.int .i64 0,.bool false,.slice none 0 0]),false,#[]⟩⟩,
 ⟨42,.int .i64,⟨.named "flowpipe/api.Errno" 3, "api.Errno", 1,8,false,8,8,some (.int .i64 0),true,#[]⟩⟩,uM 46 (.func #[41,41] #[4] false) "func(cross.Crossing, cross.Crossing) bool",yS 48 33 "[]api.Segment",
 ⟨50,.struct #[⟨"Start", 26,0,false, "", "", 0⟩,⟨"Segments", 48,1,false, "", "", 24⟩],⟨.named "flowpipe/api.Pipe" 49, "api.Pipe", 2,48,true,8,8,some (.agg #[.slice none 0 0,.slice none 0 0]),false,#[]⟩⟩,uM 52 (.func #[33] #[4] false) "func(api.Segment) bool",yS 53 41 "[]cross.Crossing",uM 62 (.func #[3] #[4] false) "func(int) bool",yS 66 31 "[]api.Dyadic",yS 72 26 "[][]api.Interval",
 ⟨81,.struct #[⟨"Method", 3,0,false, "", "", 0⟩,⟨"Order", 3,1,false, "", "", 8⟩,⟨"Prec", 3,2,false, "", "", 16⟩,⟨"Step", 31,3,false, "", "", 24⟩,⟨"Tol", 3,6,false, "", "", 64⟩,⟨"Most", 3,7,false, "", "", 72⟩],⟨.named "flowpipe/api.Config" 80, "api.Config", 8,80,true,8,8,some (.agg #[.int .i64 0,.int .i64 0,.int .i64 0,.bool false,.slice none 0 0,.int .i64 0,.int .i64 0,.int .i64 0]),false,#[]⟩⟩,
 ⟨93,.struct #[⟨"N", 3,0,false, "", "", 0⟩,⟨"D", 3,1,false, "", "", 8⟩],⟨.named "flowpipe/api.Ratio" 92, "api.Ratio", 2,16,false,8,8,some (.agg #[.int .i64 0,.int .i64 0]),true,#[]⟩⟩,uM 103 (.func #[39] #[4] false) "func(api.Interval) bool",uM 104 (.func #[26] #[4] false) "func([]api.Interval) bool",
 ⟨107,.struct #[⟨"Kind", 3,0,false, "", "", 0⟩,⟨"A", 3,1,false, "", "", 8⟩,⟨"B", 3,2,false, "", "", 16⟩,⟨"N", 3,3,false, "", "", 24⟩,⟨"C", 93,4,false, "", "", 32⟩],⟨.named "flowpipe/api.Op" 106, "api.Op", 6,48,false,8,8,some (.agg #[.int .i64 0,.int .i64 0,.int .i64 0,.int .i64 0,.int .i64 0,.int .i64 0]),true,#[]⟩⟩,uM 113 (.func #[39,39,3] #[39] false) "func(api.Interval, api.Interval, int) api.Interval",uM 121 (.func #[39,39] #[4] false) "func(api.Interval, api.Interval) bool",yS 155 72 "[][][]api.Interval",
 ⟨171,.int .u32,⟨.int .u32, "uint32", 1,4,false,4,4,some (.int .u32 0),true,#[]⟩⟩,uM 179 (.func #[31,3] #[31,42] false) "func(api.Dyadic, int) (api.Dyadic, api.Errno)",
 ⟨189,.int .u64,⟨.int .u64, "uint64", 1,8,false,8,8,some (.int .u64 0),true,#[]⟩⟩,
 ⟨190,.int .u64,⟨.int .u64, "uint", 1,8,false,8,8,some (.int .u64 0),true,#[]⟩⟩,uM 209 (.func #[39,39] #[39] false) "func(api.Interval, api.Interval) api.Interval",
 ⟨215,.struct #[⟨"m", 29,0,false, "", "flowpipe/round", 0⟩,⟨"e", 3,1,false, "", "flowpipe/round", 24⟩,⟨"more", 4,2,false, "", "flowpipe/round", 32⟩],⟨.named "flowpipe/round.exact" 214, "round.exact", 3,40,true,8,8,some (.agg #[.slice none 0 0,.int .i64 0,.bool false]),false,#[]⟩⟩,
 ⟨219,.func #[31,31,3] #[31,42] false,⟨.named "flowpipe/interval.rounded" 160, "interval.rounded", 1,8,true,8,8,some (.nilFunc),false,#[]⟩⟩,
 ⟨220,.array 2 31,⟨.array 2 31, "[2]api.Dyadic", 6,80,true,8,8,some (.agg #[.bool false,.slice none 0 0,.int .i64 0,.bool false,.slice none 0 0,.int .i64 0]),false,#[]⟩⟩,
 ⟨221,.array 4 220,⟨.array 4 220, "[4][2]api.Dyadic", 24,320,true,8,8,some (.agg #[.bool false,.slice none 0 0,.int .i64 0,.bool false,.slice none 0 0,.int .i64 0,.bool false,.slice none 0 0,.int .i64 0,.bool false,.slice none 0 0,.int .i64 0,.bool false,.slice none 0 0,.int .i64 0,.bool false,.slice none 0 0,.int .i64 0,.bool false,.slice none 0 0,.int .i64 0,.bool false,.slice none 0 0,.int .i64 0]),false,#[]⟩⟩,yS 225 29 "[][]uint32",uM 227 (.func #[29] #[4] false) "func([]uint32) bool",uM 250 (.func #[3] #[39] false) "func(int) api.Interval",
 ⟨266,.map 3 270,⟨.map 3 270, "map[int]func(gradient.node) api.Interval", 1,8,true,8,8,some (.map none),false,#[]⟩⟩,
 ⟨269,.struct #[⟨"o", 107,0,false, "", "flowpipe/gradient", 0⟩,⟨"v", 39,6,false, "", "flowpipe/gradient", 48⟩,⟨"a", 39,13,false, "", "flowpipe/gradient", 136⟩,⟨"b", 39,20,false, "", "flowpipe/gradient", 224⟩,⟨"da", 39,27,false, "", "flowpipe/gradient", 312⟩,⟨"db", 39,34,false, "", "flowpipe/gradient", 400⟩,⟨"p", 3,41,false, "", "flowpipe/gradient", 488⟩],⟨.named "flowpipe/gradient.node" 268, "gradient.node", 42,496,true,8,8,some (.agg #[.int .i64 0,.int .i64 0,.int .i64 0,.int .i64 0,.int .i64 0,.int .i64 0,.bool false,.slice none 0 0,.int .i64 0,.bool false,.slice none 0 0,.int .i64 0,.bool false,.bool false,.slice none 0 0,.int .i64 0,.bool false,.slice none 0 0,.int .i64 0,.bool false,.bool false,.slice none 0 0,.int .i64 0,.bool false,.slice none 0 0,.int .i64 0,.bool false,.bool false,.slice none 0 0,.int .i64 0,.bool false,.slice none 0 0,.int .i64 0,.bool false,.bool false,.slice none 0 0,.int .i64 0,.bool false,.slice none 0 0,.int .i64 0,.bool false,.int .i64 0]),false,#[]⟩⟩,uM 270 (.func #[269] #[39] false) "func(gradient.node) api.Interval",
 ⟨272,.struct #[⟨"p", 3,0,false, "", "flowpipe/exponent", 0⟩],⟨.named "flowpipe/exponent.work" 271, "exponent.work", 1,8,false,8,8,some (.agg #[.int .i64 0]),true,#[⟨"flowpipe/exponent.add", 209,#[],some (347,false)⟩,⟨"flowpipe/exponent.div", 209,#[],some (346,false)⟩,⟨"flowpipe/exponent.exp", 195,#[],some (370,false)⟩,⟨"flowpipe/exponent.halved", 252,#[],some (345,false)⟩,⟨"flowpipe/exponent.log", 195,#[],some (348,false)⟩,⟨"flowpipe/exponent.mul", 209,#[],some (349,false)⟩,⟨"flowpipe/exponent.small", 103,#[],some (372,false)⟩]⟩⟩,
 ⟨278,.struct #[⟨"neg", 4,0,false, "", "flowpipe/circle", 0⟩,⟨"m", 29,1,false, "", "flowpipe/circle", 8⟩],⟨.named "flowpipe/circle.fix" 277, "circle.fix", 2,32,true,8,8,some (.agg #[.bool false,.slice none 0 0]),false,#[⟨"flowpipe/circle.add", 289,#[],some (385,false)⟩,⟨"flowpipe/circle.by", 285,#[],some (388,false)⟩,⟨"flowpipe/circle.minus", 283,#[],some (376,false)⟩,⟨"flowpipe/circle.times", 286,#[],some (382,false)⟩,⟨"flowpipe/circle.zero", 34,#[],some (386,false)⟩]⟩⟩,uM 289 (.func #[278] #[278] false) "func(circle.fix) circle.fix"]
def K0:mB prog TT:=HI.ok ⟨⟨underlying3,aF⟩,⟨underlying4,aF⟩,⟨underlying9,aF⟩,⟨underlying22,aF⟩,⟨underlying23,aF⟩,⟨underlying25,aF⟩,⟨underlying26,aF⟩,⟨underlying28,aF⟩,⟨underlying29,aF⟩,⟨underlying31,aF⟩,⟨underlying33,aF⟩,⟨underlying36,aF⟩,⟨underlying39,aF⟩,⟨underlying41,aF⟩,⟨underlying42,aF⟩,⟨underlying46,aF⟩,⟨underlying48,aF⟩,⟨underlying50,aF⟩,⟨underlying52,aF⟩,⟨underlying53,aF⟩,⟨underlying62,aF⟩,⟨underlying66,aF⟩,⟨underlying72,aF⟩,⟨underlying81,aF⟩,⟨underlying93,aF⟩,⟨underlying103,aF⟩,⟨underlying104,aF⟩,⟨underlying107,aF⟩,⟨underlying113,aF⟩,⟨underlying121,aF⟩,⟨underlying155,aF⟩,⟨underlying171,aF⟩,⟨underlying179,aF⟩,⟨underlying189,aF⟩,⟨underlying190,aF⟩,⟨underlying209,aF⟩,⟨underlying215,aF⟩,⟨underlying219,aF⟩,⟨underlying220,aF⟩,⟨underlying221,aF⟩,⟨underlying225,aF⟩,⟨underlying227,aF⟩,⟨underlying250,aF⟩,⟨underlying266,aF⟩,⟨underlying269,aF⟩,⟨underlying270,aF⟩,⟨underlying272,aF⟩,⟨underlying278,aF⟩,⟨underlying289,aF⟩,trivial⟩
end Go.Proofs.YtgdahmmlddfimaaGreatDoor
namespace Go.Proofs.YtgdahmmlddfimaaGreatDoor.Pu
open Go.RowKit
def E.kT:E->Nat->Nat->E
 | .sl _ _ _ el,i,j=>el i j
 | .nI _ _ _ _ el,i,j=>el i j
 |_,_,_=>.any
section
variable {P:Program} {K:World->Prop}
def Sp.pre{c:Code}{σ τ:PS}{Q:Ex->PS->Prop}(h:PS.le σ τ)(k:Sp P K c τ Q):Sp P K c σ Q:=λw0 B a w L g r=>
 let⟨L',r'⟩:=h w0 B a w L (λb hb=>(g.hB b hb).1) r;k w0 B a w L' g r'
def Sp.post{c:Code}{σ:PS}{Q Q':Ex->PS->Prop}(h:Sp P K c σ Q)(k:∀ e τ,Q e τ->∃ τ',PS.le τ τ'/\Q' e τ'):Sp P K c σ Q':=λw0 B a w L g r=>
 Code.wp_mono (λ_ _ _ ⟨ex,τ,L',h1,h2,h3⟩=>let⟨τ',q1,q2⟩:=k ex τ h2;let⟨L2,r2⟩:=q1 w0 B _ _ L' (λb hb=>(g.hB b hb).1) h3;⟨ex,τ',L2,h1,q2,r2⟩) (h w0 B a w L g r)
def Sp.fam{α:Type}(f:α->PS)(p:α->Prop)(m:α->Nat){b:Code}{e:Ex}{τ:PS}
 (step:∀ x,p x->Sp P K b (f x) (λe' υ=>(e' = .normal/\∃ y,p y/\m y<m x/\υ=f y)\/(e' ≠ .normal/\e'=e/\υ=τ))) {σ:PS} (x:α) (hx:p x) (h0:PS.le σ (f x)):
 Sp P K (.loop b) σ (λe' υ=>e'=e/\υ=τ):=by
 refine Sp.pre h0 ?_;refine Sp.loop (Q:=λe' υ=>e'=e/\υ=τ) (λn σ=>∃ x,p x/\m x=n/\σ=f x) (λn σ ⟨x,h1,h2,h3⟩=>?_) (m x) (f x) ⟨x,hx,rfl,rfl⟩;subst h3 h2;exact(step x h1).mono λe' υ h=>h.imp (λ⟨q1,y,q2,q3,q4⟩=>⟨q1,m y,q3,y,q2,rfl,q4⟩) id
def Sp.ac4{α:Type}{f:α->PS}{p:α->Prop}{m:α->Nat}{b:Code}{e:Ex}{τ υ:PS}{x:α}(y:α)(h:Sp P K b (f x) (λe' υ'=>e' = .normal/\υ'=υ))(hy:p y)(hm:m y<m x)(hl:PS.le υ (f y)):
 Sp P K b (f x) (λe' υ=>(e' = .normal/\∃ y,p y/\m y<m x/\υ=f y)\/(e' ≠ .normal/\e'=e/\υ=τ)):=
 h.post λ_ _ ⟨h1,h2⟩=>⟨f y,h2▸hl,.inl ⟨h1,y,hy,hm,rfl⟩⟩
def Sp.ac5{α:Type}{f:α->PS}{p:α->Prop}{m:α->Nat}{b:Code}{e:Ex}{τ υ:PS}{x:α}(h:Sp P K b (f x) (λe' υ'=>e'=e/\υ'=υ))(he:e ≠ .normal)(hl:PS.le υ τ):
 Sp P K b (f x) (λe' υ=>(e' = .normal/\∃ y,p y/\m y<m x/\υ=f y)\/(e' ≠ .normal/\e'=e/\υ=τ)):=
 h.post λ_ _ ⟨h1,h2⟩=>⟨τ,h2▸hl,.inr ⟨h1▸he,h1,rfl⟩⟩
end
def Bp(k:Nat):Code->Option Code
 | .loop b=>if Nat.beq (FG b) k then some b else Bp k b
 | .seq a b=>match Bp k a with
  |some c=>some c
  |none=>Bp k b
 | .cond _ a b=>match Bp k a with
  |some c=>some c
  |none=>Bp k b
 | .block _ b=>Bp k b
 | .scope b=>Bp k b
 |_=>none
def aay(k:Nat)(fn:Func):Code:=((fn.body.bind (Bp k)).getD .skip)
def Bx.le.jl{a b:Bx}(h:a=b):Bx.le a b:=h▸Bx.le.refl a
def Bx.le.cells{T:TypeId}{l m:List E}(hn:(l.all E.mS=true->m.all E.mS=true))(h:tp l m):Bx.le (.cells T l) (.cells T m):=⟨hn,λ_ _ _ _ _ ⟨b,vs,h1,h2,h3,h4,h5⟩=>⟨b,vs,h1,h2,h3,h.J8 h4,h5⟩⟩
inductive E6:List PV->List PV->Prop
 |nil:E6 [] []
 |cons {p q:PV} {l m:List PV} (h:PV.le p q) (k:E6 l m):E6 (p::l) (q::m)
def E6.len{l m:List PV}(h:E6 l m):l.length=m.length:=by
 induction h with
 |nil=>rfl
 |cons _ _ ih=>simp[ih]
def Bx.le.row{nl:Bool}{T:TypeId}{n n' sz:Nat}{el el':Nat->Nat->E}(hn:n=n')(h:∀ i j,i<n->j<sz->E.le (el i j) (el' i j)/\(el' i j).nr 2=true):Bx.le (.row nl T n sz el) (.row nl T n' sz el'):=
 ⟨id,λ_ _ _ _ _ ⟨f,h1,h2,h3⟩=>by subst hn;exact⟨f,h1,h2,λi j hi hj=>⟨(h i j hi hj).1 _ _ _ _ (h3 i j hi hj).1,(h i j hi hj).2⟩⟩⟩
def Bx.le.jU{nl:Bool}{T1 T0:TypeId}{n n' sz:Nat}{len len':Nat->Nat}{el el':Nat->Nat->Nat->E}{pend:Option Nat}(hn:n=n')(hl:∀ k,k<n->len k=len' k)
 (h:∀ k i j,k<n->i<len k->j<sz->E.le (el k i j) (el' k i j)/\(el' k i j).nr 2=true):Bx.le (.jU nl T1 T0 n sz len el pend) (.jU nl T1 T0 n' sz len' el' pend):=
 ⟨id,λ_ _ _ _ _ hh=>by
  subst hn;rcases hh with hh|⟨b,c,cur,f,h1,h2,h3,h4,h5,h6,h7,h8,h9,rU,r9⟩
  .exact .inl hh
  refine .inr ⟨b,c,cur,f,h1,h2,h3,h4,h5,h6,h7,λk hk=>?_,h9,rU,r9⟩;rw[<-hl k hk];exact⟨(h8 k hk).1,λi j hi hj=>⟨(h k i j hk hi hj).1 _ _ _ _ ((h8 k hk).2 i j hi hj).1,(h k i j hk hi hj).2⟩⟩⟩
def Bx.le.aiY{T1 T0 sz:Nat}{len:Nat->Nat}{el:Nat->Nat->E}{el':Nat->Nat->Nat->E}:Bx.le (.row true T1 0 1 el) (.jU true T1 T0 0 sz len el' none):=
 ⟨id,λ_ _ _ _ _ ⟨f,h1,h2,h3⟩=>by
  rcases h1 with⟨h,_⟩|⟨b,c,cur,h,hg,oJ,nS,mE,kt,jQ⟩
  .refine .inl ⟨h,rfl,λx hx=>?_⟩;have:=(h2 x).1 hx;rw[h]at this;simp[Value.ownBlock]at this
  .refine .inr ⟨b,c,cur,λ_ _ _=>undef,h,hg,oJ,nS,aC,λk hk=>absurd hk (bF k),jQ rfl,λk hk=>absurd hk (bF k),λx=>?_,λk k' x hk=>absurd hk (bF k),λk hk=>absurd hk (bF k)⟩;rw[h2,h];simp only[Value.ownBlock,bK];exact⟨λe=>.inl e.symm,λe=>e.elim (λe=>e.symm) λ⟨k,hk,_⟩=>absurd hk (bF k)⟩⟩
def PS.le.afu{σ τ:PS}(hn:σ.n=τ.n)(jQ:(τ.b.all λx=>x.2.nl)=true)(hr:GY τ=true)(ht:xP σ τ.t)(hb:wU σ τ.b):PS.le σ τ:=λw0 B a w L _ r=>by
 let L':Lk:=⟨λid=>L.mg id/\(τ.bo id).isSome=true,λid x=>L.own id x/\(τ.bo id).isSome=true,L.val,L.iU⟩
 have iJ:rp L w L' w:=⟨bD _,λx _ ⟨id,h,_⟩=>⟨id,h⟩,λ_ _ _=>rfl⟩
 refine⟨L',r.hd,by rw[<-hn];exact r.hs,λt=>?_,λid b h=>?_,λid=>?_,λid x h=>⟨r.hn id x h.1,h.2⟩,λid x h=>r.hw id x h.1,λid id' x h k=>r.hi id id' x h.1 k.1,r.he,λh id b k=>?_⟩
 .have hg:τ.get t=((look τ.t t)).getD (.e .any):=rfl;cases hl:look τ.t t with
  |none=>rw[hg,hl];exact .any _
  |some p=>
   rw[hg,hl];have:=ht.get hl _ _ _ _ _ (r.ht t);refine kU.move iJ this λid hid pG=>⟨⟨pG,?_⟩,rfl,λ_=>rfl⟩
   have q:=bT.1 (ib.1 hr).1 _ (Gs hl);exact bT.1 q id hid
 .obtain ⟨b',h1,h2⟩:=hb.get h;have hs:(τ.bo id).isSome=true:=by rw[h];rfl
  refine(h2.2 _ _ _ _ _ (r.hb id b' h1)).later iJ rfl (λx=>⟨λq=>q.1,λq=>⟨q,hs⟩⟩) (λ_=>rfl) (λ_ _=>rfl) λp v hp k=>kU.move iJ k λid hid pG=>⟨⟨pG,?_⟩,rfl,λ_=>rfl⟩
  have q:=bT.1 (ib.1 hr).2 _ (Gs h);exact bT.1 q id (dH.2 ⟨p,hp,hid⟩)
 .show L.mg id/\(τ.bo id).isSome=true↔(τ.bo id).isSome=true;refine⟨λh=>h.2,λh=>⟨(r.hv id).2 ?_,h⟩⟩;obtain⟨b,ju⟩:=ia.1 h;obtain⟨b',h1,_⟩:=hb.get ju;rw[h1];rfl
 .exact bT.1 jQ _ (Gs k)
def PV.vj(id:Nat)(e:E)(p:PV):PV:=match p with
 | .own i=>if Nat.beq i id then .e e else .own i
 |p=>if p.kW.any (Nat.beq id)then .e .any else p
def PS.vj(σ:PS)(id:Nat)(e:E):PS:={ σ with t:=σ.t.map λx=>(x.1,x.2.vj id e),b:=(σ.b.filter λx=>!Nat.beq x.1 id).map λx=>(x.1,x.2.qT (PV.vj id e)) }
def Bx.as:Bx->Option E
 | .row nl _ n sz el=>some (.sl nl n sz el)
 | .jU nl _ _ n sz len el none=>some (.sl true n 1 λk _=>.sl nl (len k) sz (el k))
 |_=>none
def PS.le.freeze{σ:PS}(id:Nat){b:Bx}{e:E}(ju:σ.bo id=some b)(he:b.as=some e):PS.le σ (σ.vj id e):=λw0 B a w L hB r=>by
 let L':Lk:=⟨λi=>L.mg i/\i≠id,λi x=>L.own i x/\i≠id,L.val,L.iU⟩
 have iJ:rp L w L' w:=⟨bD _,λx _ ⟨i,h,_⟩=>⟨i,h⟩,λ_ _ _=>rfl⟩
 have rD:∀ i,(σ.vj id e).bo i=if i=id then none else(σ.bo i).map (Bx.qT (PV.vj id e)):=by
  intro i;unfold PS.bo PS.vj;simp only[JC];by_cases h:i=id
  .subst h;rw[bw rfl,Vc];rfl
  .rw [bu h,Gr _ _ _ (λe=>h e.symm)]
 have A8:∀ x,L.own id x->¬ji B L' x:=by
  rintro x hx (h|⟨i,h1,h2⟩)
  .have:=hB x h;have:=(r.hw id x hx).1;omega
  .exact h2 (r.hi i id x h1 hx)
 have own:∀ (v:Value) (T:TypeId) (n sz:Nat) (f:Nat->Nat->Value) (nl:Bool) (el:Nat->Nat->E),nN w v T n sz f nl->(∀ x,v.ownBlock=some x->L.own id x) ->
  (∀ i j,i<n->j<sz->iO (ji B L) (jx L) w (el i j) (f i j)/\(el i j).nr 2=true)->iO (ji B L') (jx L') w (.sl nl n sz el) v:=by
  intro v T n sz f nl el h1 h2 h3;rcases h1 with⟨rfl,rfl⟩|⟨b,c,cur,rfl,hg,oJ,nS,mE,kt,jQ⟩
  .exact .sl nl 0 sz el none 0 f (bD _) aE (λ_=>rfl) (λi j hi=>absurd hi (bF i)) (λi j hi=>absurd hi (bF i)) (λi j hi=>absurd hi (bF i)) (λi j hi=>absurd hi (bF i))
  .have sW:=h2 b rfl;refine .sl nl n sz el _ c f oJ (by unfold maxLen at nS;omega) (λh=>by cases h) (λi j hi hj=>⟨(kt i j hi hj).2,λhn=>jQ hn _ (dZ (kt i j hi hj).1)⟩) (λi j hi hj=>(h3 i j hi hj).2)
    (λi j hi hj=>⟨b,0,rfl,A8 b sW,(r.hw id b sW).2,?_⟩) (λi j hi hj=>iJ.kN (h3 i j hi hj).1)
   rw[cD];simp only[World.cell?,hg];simpa using(kt i j hi hj).1
 have hold:∀ v,v=L.val id->iO (ji B L') (jx L') w e v:=by
  rintro v rfl;have S3:=r.hb id b ju;cases b with
  |cells T l=>cases he
  |pD nl T l=>cases he
  |row nl T n sz el=>
   cases he;obtain⟨f,h1,h2,h3⟩:=S3;exact own _ T n sz f nl el h1 (λx hx=>(h2 x).2 hx) h3
  |jU nl T1 T0 n sz len el pend=>
   cases pend with
   |some k=>cases he
   |none=>
    cases he;rcases S3 with⟨h1,h2,_⟩|jj
    .subst h2;rw[h1];exact .sl true 0 1 _ none 0 (λ_ _=>undef) (bD _) aE (λ_=>rfl) (λi j hi=>absurd hi (bF i)) (λi j hi=>absurd hi (bF i)) (λi j hi=>absurd hi (bF i)) (λi j hi=>absurd hi (bF i))
    obtain⟨b,c,cur,f,h1,h2,h3,h4,h5,h6,h7,h8,h9,rU,r9⟩:=jj;have sW:L.own id b:=(h9 b).2 (.inl rfl);rw[h1];refine .sl true n 1 _ _ c (λk _=>L.iU id k) h3 (by unfold maxLen at h4;omega) (λh=>by cases h) (λk j hk hj=>?_) (λk j hk hj=>rfl)
     (λk j hk hj=>⟨b,0,rfl,A8 b sW,(r.hw id b sW).2,?_⟩) (λk j hk hj=>own _ T0 (len k) sz (f k) nl (el k) (h8 k hk).1 (λx hx=>(h9 x).2 (.inr ⟨k,hk,hx⟩)) (h8 k hk).2)
    .obtain ⟨_,q1,q2⟩:=(h8 k hk).1.head;exact⟨q1,λ_=>q2⟩
    .rw [cD,cI];obtain rfl:j=0:= aC ;simp only[World.cell?,h2];simpa using h6 k hk aH 
 have hT:∀ (p:PV) (v:Value),kU (ji B L) (jx L) L w p v->kU (ji B L') (jx L') L' w (p.vj id e) v:=by
  intro p v k;have move:∀ (p:PV) (v:Value),kU (ji B L) (jx L) L w p v->(p.kW.any (Nat.beq id))=false->kU (ji B L') (jx L') L' w p v:=by
   intro p v k hp;refine kU.move iJ k λi hi pG=>⟨⟨pG,?_⟩,rfl,λ_=>rfl⟩
   rintro rfl;have:=df.1 hp i hi;simp at this
  have gen:∀ (p:PV) (v:Value),kU (ji B L) (jx L) L w p v->kU (ji B L') (jx L') L' w (if p.kW.any (Nat.beq id)then .e .any else p) v:=by
   intro p v k;cases hp:p.kW.any (Nat.beq id)with
   |true=>exact .any _
   |false=>exact move p v k hp
  cases p with
  |own i=>
   simp only[PV.vj];by_cases hi:i=id
   .subst hi;rw[cJ,bw rfl];exact hold _ k.2
   .rw [dc hi,bu aE];exact⟨⟨k.1,hi⟩,k.2⟩
  |_=>exact gen _ _ k
 refine⟨L',r.hd,r.hs,λt=>?_,λi b' h=>?_,λi=>?_,λi x h=>⟨r.hn i x h.1,h.2⟩,λi x h=>r.hw i x h.1,λi i' x h k=>r.hi i i' x h.1 k.1,r.he,λh i b' k=>?_⟩
 .have hg:(σ.vj id e).get t=(σ.get t).vj id e:=by
   unfold PS.get PS.vj;rw[JC];cases look σ.t t<;>rfl
  rw[hg];exact hT _ _ (r.ht t)
 .rw [rD]at h;split at h
  .cases h
  .rename_i hi;obtain⟨b0',mf,rfl⟩:=b7.1 h;exact nF.map (g:=λp=>p) iJ (by rw[CQ];exact r.hb i b0' mf) rfl (λx=>⟨λq=>q.1,λq=>⟨q,hi⟩⟩) (λ_=>rfl) (λ_ _=>rfl) λp v _ k=>hT p v k
 .rw [rD];show L.mg i/\i≠id↔_;by_cases hi:i=id
  .subst hi;simp
  .simp only[hi,dv,eX,fO,bE,fw];exact r.hv i
 .rw [rD]at k;split at k
  .cases k
  .obtain ⟨b0',mf,rfl⟩:=b7.1 k;rw[CR];exact r.hl h i b0' mf
def PS.Ds(σ:PS)(t id:Nat)(b:Bx):PS:={ σ with t:=(t,.own id)::σ.t.filter (λx=>!Nat.beq x.1 t),b:=(id,b)::σ.b }
def PS.le.Zp{σ:PS}(t id:Nat){nl:Bool}{T:TypeId}{sz:Nat}{el:Nat->Nat->E}(ju:σ.bo id=none)(hg:σ.get t = .e (.v (.slice none 0 0)))(jQ:σ.nl=true->nl=true):PS.le σ (σ.Ds t id (.row nl T 0 sz el)):=λw0 B a w L hB r=>by
 have pO:¬L.mg id:=λh=>by have:=(r.hv id).1 h;rw[ju]at this;cases this
 let L':Lk:=⟨λi=>L.mg i\/i=id,L.own,λi=>if i=id then .slice none 0 0 else L.val i,L.iU⟩
 have iJ:rp L w L' w:=⟨bD _,λx _ h=>h,λ_ _ _=>rfl⟩
 have rD:∀ i,(σ.Ds t id (.row nl T 0 sz el)).bo i=if i=id then some (.row nl T 0 sz el)else σ.bo i:=by
  intro i;unfold PS.bo PS.Ds;rw[s9];by_cases h:id=i
  .rw [bw h,bw h.symm]
  .rw [bu h,bu (λe=>h e.symm)]
 have hv:a.tmps.getD t undef = .slice none 0 0:=by
  have:=r.ht t;rw[hg]at this;exact iO.kG this
 refine⟨L',r.hd,r.hs,λs=>?_,λi b' h=>?_,λi=>?_,λi x h=>.inl (r.hn i x h),r.hw,r.hi,r.he,λh i b' k=>?_⟩
 .have hgs:(σ.Ds t id (.row nl T 0 sz el)).get s=if t=s then .own id else σ.get s:=by
   unfold PS.get PS.Ds;simp only[s9];by_cases h:t=s
   .rw [bw h,bw h];rfl
   .rw [bu h,bu h,Gr _ _ _ h]
  rw[hgs];by_cases h:t=s
  .subst h;rw[bw rfl,hv];exact⟨.inr rfl,(bw rfl).symm⟩
  .rw [bu h];refine kU.move iJ (r.ht s) λi _ pG=>⟨.inl pG,bu (λ(q:i=id)=>pO (q▸pG)),λ_=>rfl⟩
 .rw [rD]at h;split at h
  .rename_i hi;subst hi;cases h;refine⟨λ_ _=>undef,.inl ⟨bw rfl,rfl⟩,λx=>⟨λq=>absurd (r.hn _ _ q) pO,λq=>?_⟩,λi j hi=>absurd hi (bF i)⟩;have e1:L'.val i = .slice none 0 0:=bw rfl;rw[e1]at q;cases q
  .rename_i hi;exact(r.hb i b' h).later iJ (bu hi) (λ_=>Iff.rfl) (λ_=>rfl) (λ_ _=>rfl) λp v _ k=>kU.move iJ k λi _ pG=>⟨.inl pG,bu (λ(q:i=id)=>pO (q▸pG)),λ_=>rfl⟩
 .rw [rD];show L.mg i\/i=id↔_;by_cases hi:i=id
  .subst hi;simp
  .simp only[hi,or_false,bE];exact r.hv i
 .rw [rD]at k;split at k
  .cases k;exact jQ h
  .exact r.hl h i b' k
def Bx.Hk:Bx->Option (Bool×TypeId×List PV)
 | .cells T l=>some (l.all E.mS,T,l.map .e)
 | .pD nl T l=>some (nl,T,l)
 |_=>none
def nF.Hk{B:Nat->Prop}{L:Lk}{w:World}{id:Nat}{b:Bx}{nl:Bool}{T:TypeId}{l:List PV}(h:nF (ji B L) (jx L) L w id b)(hf:b.Hk=some (nl,T,l)):nF (ji B L) (jx L) L w id (.pD nl T l):=by
 cases b with
 |cells T' l'=>
  cases hf;obtain⟨b,vs,h1,h2,h3,h4,h5⟩:=h;refine⟨b,vs,h1,h2,h3,by rw[h4.len,b6],λi p v hp hv=>?_,λu hu=>⟨h5 u hu,λhn=>JA h4 hn u hu⟩⟩;rw[cG]at hp;obtain⟨e,he,rfl⟩:=b7.1 hp;exact h4.kN i e v he hv
 |pD nl' T' l'=>cases hf;exact h
 |row=>cases hf
 |jU=>cases hf
def akN{b:Bx}{nl:Bool}{T:TypeId}{l:List PV}(hf:b.Hk=some (nl,T,l)):b.nl=nl:=by
 cases b<;>cases hf<;>rfl
def isNil:PV->Bool
 | .e (.v (.slice none 0 0))=>true
 |_=>false
def ae4{p:PV}(h:isNil p=true):p = .e (.v (.slice none 0 0)):=by
 unfold isNil at h;split at h
 .rfl
 .cases h
def PS.K6(σ:PS)(d off id:Nat)(b:Bx):Option PS:=match σ.bo id,σ.bo d with
 |none,some bd=>match bd.Hk with
  |some (nl,T,l)=>match l[off]? with
   |some p=>if isNil p then some { σ with b:=(id,b)::(d,.pD nl T (l.set off (.own id)))::σ.b }else none
   |none=>none
  |none=>none
 |_,_=>none
def PS.le.Zq{σ τ:PS}{d off id:Nat}{nl:Bool}{T:TypeId}{sz:Nat}{el:Nat->Nat->E}(h:σ.K6 d off id (.row nl T 0 sz el)=some τ)(jQ:σ.nl=true->nl=true):PS.le σ τ:=λw0 B a w L hB r=>by
 unfold PS.K6 at h;split at h
 .rename_i bd ju FR;split at h
  .rename_i nl' T' l hf;split at h
   .rename_i p hp;split at h
    .rename_i hn;obtain rfl:=ae4 hn;cases h;have kj:d≠id:=λe=>by subst e;rw[ju]at FR;cases FR
     have pO:¬L.mg id:=λh=>by have:=(r.hv id).1 h;rw[ju]at this;cases this
     let L':Lk:=⟨λi=>L.mg i\/i=id,L.own,λi=>if i=id then .slice none 0 0 else L.val i,L.iU⟩
     have iJ:rp L w L' w:=⟨bD _,λx _ h=>h,λ_ _ _=>rfl⟩
     have M5:∀ (p:PV) (v:Value),kU (ji B L) (jx L) L w p v->kU (ji B L') (jx L') L' w p v:=λp v k=>kU.move iJ k λi _ pG=>⟨.inl pG,bu (λ(q:i=id)=>pO (q▸pG)),λ_=>rfl⟩
     have rD:∀ i,PS.bo { σ with b:=(id,.row nl T 0 sz el)::(d,.pD nl' T' (l.set off (.own id)))::σ.b } i=if i=id then some (.row nl T 0 sz el)else if i=d then some (.pD nl' T' (l.set off (.own id)))else σ.bo i:=by
      intro i;unfold PS.bo;simp only[s9];by_cases h:id=i
      .rw [bw h,bw h.symm]
      .rw [bu h,bu (show ¬i=id from λe=>h e.symm)];by_cases h2:d=i
       .rw [bw h2,bw h2.symm]
       .rw [bu h2,bu (λe=>h2 e.symm)]
     refine⟨L',r.hd,r.hs,λs=>M5 _ _ (r.ht s),λi b' h=>?_,λi=>?_,λi x h=>.inl (r.hn i x h),r.hw,r.hi,r.he,λh i b' k=>?_⟩
     .rw [rD]at h;split at h
      .rename_i hi;subst hi;cases h;refine⟨λ_ _=>undef,.inl ⟨bw rfl,rfl⟩,λx=>⟨λq=>absurd (r.hn _ _ q) pO,λq=>?_⟩,λi j hi=>absurd hi (bF i)⟩;have e1:L'.val i = .slice none 0 0:=bw rfl;rw[e1]at q;cases q
      .rename_i hi;split at h
       .rename_i hd;subst hd;cases h;obtain⟨b,vs,h1,h2,h3,h4,h5,h6⟩:=(r.hb i _ FR).Hk hf;refine⟨b,vs,(bu hi).trans h1,h2,h3,by simpa using h4,λj p v Bg hv=>?_,h6⟩;rw[ana]at Bg;split at Bg
        .rename_i hj;subst hj;split at Bg
         .cases Bg;have Bi:=iO.kG (h5 off _ v hp hv);exact⟨.inr rfl,Bi.trans (bw rfl).symm⟩
         .cases Bg
        .exact M5 _ _ (h5 j p v Bg hv)
       .exact (r.hb i b' h).later iJ (bu hi) (λ_=>Iff.rfl) (λ_=>rfl) (λ_ _=>rfl) λp v _ k=>M5 p v k
     .rw [rD];show L.mg i\/i=id↔_;by_cases hi:i=id
      .subst hi;simp
      .simp only[hi,or_false,bE];by_cases hd:i=d
       .subst hd;simp only[bL,Option.isSome_some,iff_true];exact(r.hv i).2 (by rw[FR];rfl)
       .simp only[hd,bE];exact r.hv i
     .rw [rD]at k;split at k
      .cases k;exact jQ h
      .split at k
       .cases k;show nl'=true;rw[<-akN hf];exact r.hl h d _ FR
       .exact r.hl h i b' k
    .cases h
   .cases h
  .cases h
 .cases h
end Go.Proofs.YtgdahmmlddfimaaGreatDoor.Pu
namespace Go.Proofs.YtgdahmmlddfimaaGreatDoor.Fp
def nC(x i:Nat)(b o:List Nat):Nat->List Nat×Nat
 | 0=>(o,0)
 |k+1=>
  let r:=nC x i b o k
  let z:=x*b.getD k 0+r.1.getD (i+k) 0+r.2
  (r.1.set (i+k) (z%4294967296),z/4294967296)
def lP(a b:List Nat):Nat->List Nat
 | 0=>List.replicate (a.length+b.length) 0
 |i+1=>
  let r:=nC (a.getD i 0) i b (lP a b i) b.length
  r.1.set (i+b.length) (r.2%4294967296)
def VD{x y:Nat}(hx:x<4294967296)(hy:y<4294967296):x*y<=18446744065119617025:=by
 have:=dQ (aC:x<=4294967295) (aC:y<=4294967295);omega
def Di{L:List Nat}{k x:Nat}(hk:k<L.length):val (L.set k x)+4294967296^k*L.getD k 0=val L+4294967296^k*x:=by
 have:=PJ (x:=x) hk;rwa[bC,bG hk]
def AX{L:List Nat}{k j x:Nat}(h:k≠j):(L.set k x).getD j 0=L.getD j 0:=by
 simp only[bC,List.getElem?_set_ne h]
def adn{L:List Nat}{k x:Nat}(h:k<L.length):(L.set k x).getD k 0=x:=by
 simp[bC,h]
structure Ze(x i:Nat)(b o:List Nat)(k:Nat)(r:List Nat×Nat):Prop where
 ok:iY r.1
 len:r.1.length=o.length
 lt:r.2<4294967296
 eq:val r.1+4294967296^(i+k)*r.2=val o+4294967296^i*(x*val (b.take k))
 qJ:∀ j,i+k<=j->r.1.getD j 0=o.getD j 0
def Gy{x i:Nat}{b o:List Nat}(hx:x<4294967296)(hb:iY b)(ho:iY o)(hl:i+b.length<=o.length):∀ k,k<=b.length->Ze x i b o k (nC x i b o k)
 | 0,_=>⟨ho,rfl,Nat.zero_lt_succ _,by simp[nC,val],λ_ _=>rfl⟩
 |k+1,hk=>by
  obtain⟨h1,h2,h3,h4,h5⟩:=Gy hx hb ho hl k aC;have hy:=hb.getD k;have hw:=h1.getD (i+k);have hm:=VD hx hy;have hv:=BW b k;simp only[nC];generalize nC x i b o k=r at *
  generalize hz:x*b.getD k 0+r.1.getD (i+k) 0+r.2=z;have Cw:=Di (L:=r.1) (k:=i+k) (x:=z%4294967296) aC;refine⟨h1.set _ (bS _ aE),by simpa using h2,by show z/4294967296<_;omega,?_,λj hj=>?_⟩
  .have e1:z=z%4294967296+4294967296*(z/4294967296):=(fi z _).symm;show val (r.1.set (i+k) (z%4294967296))+4294967296^(i+(k+1))*(z/4294967296)=_;rw[hv,b9 x,b9 (4294967296^i),<-dt (val o),<-h4];have e2:4294967296^(i+(k+1))*(z/4294967296)=4294967296^(i+k)*(4294967296*(z/4294967296)):=by rw[(aC:i+(k+1)=(i+k)+1),bQ,bN]
   have e3:4294967296^i*(x*(4294967296^k*b.getD k 0))=4294967296^(i+k)*(x*b.getD k 0):=by rw[bH];simp only[bN,eC]
   rw[e2,e3];have e4:4294967296^(i+k)*z=4294967296^(i+k)*(x*b.getD k 0)+4294967296^(i+k)*r.1.getD (i+k) 0+4294967296^(i+k)*r.2:=by rw[<-hz,b9,b9]
   have e5:4294967296^(i+k)*z=4294967296^(i+k)*(z%4294967296)+4294967296^(i+k)*(4294967296*(z/4294967296)):=by rw[<-b9,<-e1]
   omega
  .show (r.1.set (i+k) _).getD j 0=_;rw[AX aC,h5 j aC]
structure Zf(a b:List Nat)(i:Nat)(o:List Nat):Prop where
 ok:iY o
 len:o.length=a.length+b.length
 eq:val o=val (a.take i)*val b
 zero:∀ j,i+b.length<=j->o.getD j 0=0
def GA{a b:List Nat}(ha:iY a)(hb:iY b):∀ i,i<=a.length->Zf a b i (lP a b i)
 | 0,_=>⟨iY.EB _,by simp[lP],by simp[lP,Dh,val],λj _=>by
  by_cases h:j<a.length+b.length<;>simp[lP,bC,fC,h]⟩
 |i+1,hi=>by
  obtain⟨h1,h2,h3,h4⟩:=GA ha hb i aC;obtain⟨q1,q2,q3,q4,q5⟩:=Gy (ha.getD i) hb h1 (i:=i) aC b.length (bD _);have hv:=BW a i;simp only[lP];generalize nC (a.getD i 0) i b (lP a b i) b.length=r at *
  have Cw:=Di (L:=r.1) (k:=i+b.length) (x:=r.2%4294967296) aC;rw[q5 _ (bD _),h4 _ (bD _),dg,ch,cH q3,q4,eD,h3]at Cw;refine⟨q1.set _ (bS _ aE),aN,?_,λj hj=>?_⟩
  .rw [cH q3,Cw,hv,cj,bN]
  .rw [AX aC,q5 _ aC,h4 _ aC]
def als{a b:List Nat}(ha:iY a)(hb:iY b):val (lP a b a.length)=val a*val b:=by
 have:=(GA ha hb a.length (bD _)).eq;rwa[eD]at this
end Go.Proofs.YtgdahmmlddfimaaGreatDoor.Fp
namespace Go.Proofs.YtgdahmmlddfimaaGreatDoor
open Go.RowKit Fp Pu
abbrev qp(L:List Nat):Nat->Nat->E:=λi _=>.v (.int .u32 (L.getD i 0:Int))
def ET(n:Nat):IntKind.u32.wrap (n:Int)=((n%4294967296:Nat):Int):=by rw[IntKind.wrap_u32];omega
def Uc(n:Nat)(h:n<9223372036854775808):IntKind.i64.wrap (n:Int)=n:=by rw[IntKind.wrap_i64];omega
def XS(n:Nat):(n:Int)/2^32=((n/4294967296:Nat):Int):= aC 
def X1{L:List Nat}{n:Nat}(h:n=L.length):E.le (.sl false n 1 (qp L)) (iu L):=by subst h;exact .refl _
def WY{T n n':Nat}{L:List Nat}(hn:n=n')(h:∀ i,L.getD i 0=0):Bx.le (.row false T n 1 λ_ j=>[.v (.int .u32 0)].getD j .any) (.row false T n' 1 (qp L)):=
 .row hn λi j _ hj=>by
  obtain rfl:j=0:= aC ;refine⟨.jl ?_,rfl⟩;show E.v (.int .u32 0)=E.v (.int .u32 (L.getD i 0:Int));rw[h i];rfl
def O8{T n n' p:Nat}{L:List Nat}{z:Nat}(hn:n=n')(hp:p<L.length):Bx.le (.row false T n 1 λi' j'=>if i'=p/\0<=j'/\j'<0+1 then[.v (.int .u32 (z:Int))].getD (j'-0) .any else(qp L) i' j') (.row false T n' 1 (qp (L.set p z))):=
 .row hn λi j _ hj=>by
  obtain rfl:j=0:= aC ;refine⟨.jl ?_,rfl⟩;by_cases h:i=p
  .subst h;rw[bw ⟨rfl,aC,aC⟩];show E.v (.int .u32 (z:Int))=E.v (.int .u32 (((L.set i z).getD i 0:Nat):Int));rw[Fp.adn hp]
  .rw [bu (λq=>h q.1)];show E.v (.int .u32 (L.getD i 0:Int))=E.v (.int .u32 (((L.set p z).getD i 0:Nat):Int));rw[Fp.AX (λq=>h q.symm)]
def WK{k l:IntKind}{a b c d:Int}(h:a=b)(h':c=d):Ending.returned (.tuple #[.int k a,.int l c]) = .returned (.tuple #[.int k b,.int l d]):=by rw[h,h']
def E8(x y c:Nat)(w:World)(hx:x<4294967296)(hy:y<4294967296)(hc:c<=1):
 Calls prog 294 #[.int .u32 x,.int .u32 y,.int .u32 c] w λe w'=>e = .returned (.tuple #[.int .u32 (((x+y+c)%4294967296:Nat):Int),.int .u32 (((x+y+c)/4294967296:Nat):Int)])/\w=w':=by
 go_enter func294,ntmps294;go_wp2;go_ret2;refine⟨?_,rfl⟩;exact WK aC aC 
def alj(a b:Nat)(ha:a<4294967296)(hb:b<4294967296):bits .or .u32 (a:Int) (b:Int)=((a |||b:Nat):Int):=by
 have h2:a |||b<2^32:=am6 ha hb
 show IntKind.u32.wrap ((BitVec.ofInt 32 (a:Int) |||BitVec.ofInt 32 (b:Int)).toNat:Int)=_;rw[BitVec.toNat_or,fV,fV];rw[show((a:Int)%((2^32:Nat):Int)).toNat=a by omega,show((b:Int)%((2^32:Nat):Int)).toNat=b by omega];rw[IntKind.wrap_u32];omega
def YD(a b:Nat)(ha:a<4294967296)(hb:b<4294967296):bits .and .u32 (a:Int) (b:Int)=((a &&& b:Nat):Int):=by
 have h2:a &&& b<2^32:=fT a hb;show IntKind.u32.wrap ((BitVec.ofInt 32 (a:Int) &&& BitVec.ofInt 32 (b:Int)).toNat:Int)=_;rw[BitVec.toNat_and,fV,fV];rw[show((a:Int)%((2^32:Nat):Int)).toNat=a by omega,show((b:Int)%((2^32:Nat):Int)).toNat=b by omega];rw[IntKind.wrap_u32];omega
def PH(a b:Nat)(ha:a<4294967296)(hb:b<4294967296):bits .xor .u32 (a:Int) (b:Int)=((a ^^^ b:Nat):Int):=by
 have h2:a ^^^ b<2^32:=fE ha hb;show IntKind.u32.wrap ((BitVec.ofInt 32 (a:Int) ^^^ BitVec.ofInt 32 (b:Int)).toNat:Int)=_;rw[BitVec.toNat_xor,fV,fV];rw[show((a:Int)%((2^32:Nat):Int)).toNat=a by omega,show((b:Int)%((2^32:Nat):Int)).toNat=b by omega];rw[IntKind.wrap_u32];omega
def Kx(n:Nat)(h:n<4294967296):n/2147483648=(n.testBit 31).toNat:=by
 rw[Nat.testBit_eq_decide_div_mod_eq,show(2:Nat)^31=2147483648 from rfl];have h2:n/2147483648<2:= aC ;generalize n/2147483648=q at *
 have:q=0\/q=1:= aC ;rcases this with rfl|rfl<;>rfl
def aj6(x y c d:Nat)(hx:x<4294967296)(hy:y<4294967296)(hc:c<=1)(hd:d=(x+(4294967296-y)+(4294967296-c))%4294967296):
 (((4294967295 ^^^ x) &&& y) ||| ((4294967295 ^^^ (x ^^^ y)) &&& d))/2147483648=if x<y+c then 1 else 0:=by
 have Ck:d<4294967296:= aC ;have h1:4294967295 ^^^ x<2^32:=fE aE hx;have h2:x ^^^ y<2^32:=fE hx hy;have h3:4294967295 ^^^ (x ^^^ y)<2^32:=fE aE h2;have h4:(4294967295 ^^^ x) &&& y<2^32:=fT _ hy;have h5:(4294967295 ^^^ (x ^^^ y)) &&& d<2^32:=fT _ Ck;rw[Kx _ (am6 h4 h5)];have tx:=Kx x hx;have ty:=Kx y hy;have td:=Kx d Ck;rw[Nat.testBit_or,Nat.testBit_and,Nat.testBit_and,anb,anb,anb,show(4294967295:Nat).testBit 31=true by decide];clear h1 h2 h3 h4 h5;generalize x.testBit 31=p at *
 generalize y.testBit 31=q at *
 generalize d.testBit 31=r at *
 cases p<;>cases q<;>cases r<;>simp at tx ty td ⊢ <;> omega
def B6(x y c:Nat):Nat:=if x<y+c then 1 else 0
def xW(x y c:Nat):Nat:=(x+(4294967296-y)+(4294967296-c))%4294967296
def Fv(x y c:Nat)(hx:x<4294967296)(hy:y<4294967296)(hc:c<=1):xW x y c+y+c=x+4294967296*B6 x y c/\B6 x y c<=1/\xW x y c<4294967296:=by
 unfold xW B6;split<;>omega
def Ya(x y c:Nat)(w:World)(hx:x<4294967296)(hy:y<4294967296)(hc:c<=1):
 Calls prog 295 #[.int .u32 x,.int .u32 y,.int .u32 c] w λe w'=>e = .returned (.tuple #[.int .u32 (xW x y c:Nat),.int .u32 (B6 x y c:Nat)])/\w=w':=by
 go_enter func295,ntmps295;go_wp2;go_ret2;refine⟨?_,rfl⟩;have hd:((x:Int)-y-c)%4294967296=(xW x y c:Int):=by unfold xW;omega
 have hb:=aj6 x y c (xW x y c) hx hy hc rfl;have hl:=(Fv x y c hx hy hc).2.2;have em:IntKind.u32.max=((4294967295:Nat):Int):=rfl;refine WK hd ?_;rw[hd,em,PH _ _ aE hx,PH _ _ hx hy];have h1:4294967295 ^^^ x<2^32:=fE aE hx;have h2:x ^^^ y<2^32:=fE hx hy;have h3:4294967295 ^^^ (x ^^^ y)<2^32:=fE aE h2;rw[PH _ _ aE h2,YD _ _ h1 hy,YD _ _ h3 hl];have h4:(4294967295 ^^^ x) &&& y<2^32:=fT _ hy;have h5:(4294967295 ^^^ (x ^^^ y)) &&& xW x y c<2^32:=fT _ hl;rw[alj _ _ h4 h5];unfold B6;rw[<-hb];omega
def Qf{O:List Nat}{k c x y P Q P' Q':Nat}(ho:O[k]? = some 0)(h:val O+4294967296^k*c=P+Q)
 (hP:P'=P+4294967296^k*x) (hQ:Q'=Q+4294967296^k*y):
 val (O.set k ((x+y+c)%4294967296))+4294967296^(k+1)*((x+y+c)/4294967296)=P'+Q':=by
 have h1:=VE (a:=1) (b:=x+y) (c:=c) ho;rw[ct,ch]at h1;rw[h1,h,hP,hQ,b9];omega
def Yb{O:List Nat}{k c x y d c' P Q P' Q':Nat}(ho:O[k]? = some 0)(h:val O+Q=P+4294967296^k*c)
 (hP:P'=P+4294967296^k*x) (hQ:Q'=Q+4294967296^k*y) (hd:d+y+c=x+4294967296*c'):
 val (O.set k d)+Q'=P'+4294967296^(k+1)*c':=by
 obtain⟨hk,h0⟩:=cw.1 ho;have h1:=PJ (x:=d) hk;rw[h0,dg,ch]at h1;have e:=congrArg (4294967296^k * ·) hd;simp only[b9,<-bN]at e;rw[bQ,h1,hP,hQ];omega
def uU(O:List Nat)(k:Nat):Prop:=∀ j,k<=j->j<O.length->O[j]? = some 0
def uU.at{O:List Nat}{k:Nat}(h:uU O k)(hk:k<O.length):O[k]? = some 0:=h k (bD _) hk
def uU.set{O:List Nat}{k:Nat}(h:uU O k)(v:Nat):uU (O.set k v) (k+1):=λj h1 h2=>by
 rw[List.getElem?_set_ne aC];exact h j aC (by simpa using h2)
def uU.PO(n:Nat):uU (List.replicate n 0) 0:=λj _ h=>by
 rw[fC];rw[bw (by simpa using h)]
def KX(w:World)(v n:Nat)(e:Ending)(w':World):Prop:=∃ T,val T=v/\iY T/\T.length=n/\xR w T e w'
def P4(w:World)(v n:Nat)(e:Ending)(w':World):Prop:=∃ T,val T=v/\iY T/\T.length<=n/\xR w T e w'
def agO(A B:Option Addr)(c d:Nat)(L M:List Nat)(w:World)(hs:Sl w A c L)(hr:Sl w B d M)(h1:L.length<=3000)(_h2:M.length<=3000)(hc:M.length<=L.length):
 Calls prog 262 #[.slice A L.length c,.slice B M.length d] w (KX w (val L+val M) (L.length+1)):=by
 obtain⟨l,hl⟩:∃ l,l=L.length:=⟨_,rfl⟩
 obtain⟨m,hm⟩:∃ m,m=M.length:=⟨_,rfl⟩
 rw[<-hl,<-hm]at hc;rw[<-hl]at h1;rw[<-hm]at _h2;have HL:=anv hl;have HM:=anv hm;rw[<-hl,<-hm];clear hl hm;have d0:decide ((l:Int)<m)=false:=bB aC;have d1:decide (l<m)=false:=bB aC;have wq:=Gt (l+1) aC;rw[show((l+1:Nat):Int)=l+1 by omega]at wq;have yj:=anv (Rw.Bq w (l+1));go_enter func262,ntmps262;go_wp2;go_loopw [6,7,8,9,23] (λcy _ _ _ i wr=>∃ (k q:Nat) (O:List Nat),k<=l/\i = .int .i64 k/\cy = .int .u32 q/\q<=1/\O.length=l+1/\iY O/\uU O k/\val O+4294967296^k*q=val (L.take k)+val (M.take k)/\Rw wr w.heap.size O/\ja w wr) (λ_ _ _ _ i _=>l-(intOf i).toNat)
 case atStart=>
  exact⟨0,0,List.replicate (l+1) 0,cz _,rfl,rfl,aE,aH,iY.EB _,uU.PO _,by simp[Dh],yj.out,ja.alloc _ _⟩
 case round=>
  obtain⟨k,q,O,hk,rfl,rfl,hq,hO,mv,hz,my,hR,hb⟩:=hrel;have HV:=anv my;have HO:=anv hO;clear my hO;have HZ:=anv hz;clear hz;by_cases iJ:k<l
  .have ur:k<L.length:=by have:=HL.out;omega
   obtain⟨ab,ao,e1,_,c1⟩:=(hs.below hb).nc ur;have nV:L[k]<4294967296:=hs.ok.get ur;have ho:=HZ.out.at (by have:=HO.out;omega)
   have c4:=hR.frozen k;have I9:=hR.cell ho;have HT:=anv (Dj L k ur);have HY:=anv (BW M k);have rG:M.getD k 0<4294967296:=hr.ok.getD k;have HYc:=anv (λ(h:k<M.length)=>(hr.below hb).nc h);have HYg:=anv (λ(h:k<M.length)=>Mg h);have HYn:=anv (λ(h:¬k<M.length)=>Mf h);have HX:=anv (rfl:L[k]=L[k]);obtain⟨a,ha⟩:∃ a,a=L[k]:=⟨_,rfl⟩
   rw[<-ha]at c1 nV HT;clear ha HX ur;have HS:=anv (Qf ho HV.out HT.out HY.out);have HN:=anv (λv=>HZ.out.set v);have HOK:=anv (λv=>mv.XL k v);have HR2:=anv (λv:Nat=>hR.set k v);have HE2:=anv (λv:Value=>hb.setCell (p:=⟨w.heap.size,k,none⟩) (bD _) v);clear ho hR hb mv;subst e1;by_cases T6:k<m
   .have xj:k<M.length:=by have:=HM.out;omega
    obtain⟨bb,bo,e2,_,c2⟩:=HYc.out xj;subst e2;rw[<-HYg.out xj]at c2;generalize M.getD k 0=b at *
    clear HYc HYg HYn xj;have HA:=anv (λw=>E8 a b q w nV rG hq);go_wp2_with fail;refine(HA.out _).mono ?_;rintro e w1 ⟨rfl,rfl⟩;go_wp2;go_roundw
    case rel=>
     exact⟨k+1,(a+b+q)/4294967296,O.set k ((a+b+q)%4294967296),aC,by go_num,rfl,aC,by rw[dA];exact HO.out,HOK.out _,HN.out _,HS.out,HR2.out _,HE2.out _⟩
    case measure=>simp[intOf];omega
   .rw [HYn.out (by have:=HM.out;omega)]at HS;clear HYc HYg HYn rG HY;have HA:=anv (λw=>E8 a 0 q w nV aE hq);go_wp2_with fail;refine(HA.out _).mono ?_;rintro e w1 ⟨rfl,rfl⟩;go_wp2;go_roundw
    case rel=>
     exact⟨k+1,(a+0+q)/4294967296,O.set k ((a+0+q)%4294967296),aC,by go_num,rfl,aC,by rw[dA];exact HO.out,HOK.out _,HN.out _,HS.out,HR2.out _,HE2.out _⟩
    case measure=>simp[intOf];omega
  .obtain rfl:k=l:= aC ;have ho:=HZ.out.at (by have:=HO.out;omega)
   have c4:=hR.frozen k;have I9:=hR.cell ho;have HF:=anv (show val (O.set k q)=val L+val M by
    have h:=Q5 (c:=q) ho;rw[cD,cH aC,dx aC,dg,ch,HV.out,show L.take k=L from dk (by rw[HL.out];exact bD _),show M.take k=M from dk (by rw[<-HM.out];omega)]at h;omega)
   have HLn:=anv (show(O.set k q).length=k+1 by rw[dA];exact HO.out);have HOK:Hid (iY (O.set k q)):=mv.set k aC;have HR2:=anv (hR.set k q);have HE2:=anv (λv:Value=>hb.setCell (p:=⟨w.heap.size,k,none⟩) (bD _) v);clear ho hR hb mv;go_wp2;go_ret;have sy:=HR2.out.sl HOK.out (by rw[HLn.out];omega);rw[HLn.out]at sy;exact⟨_,HF.out,HOK.out,HLn.out,_,_,(by rw[HLn.out];rfl),sy,HE2.out _⟩
def agP(A B:Option Addr)(c d:Nat)(L M:List Nat)(w:World)(hs:Sl w A c L)(hr:Sl w B d M)(h1:L.length<=3000)(h2:M.length<=3000)(hc:L.length<M.length):
 Calls prog 262 #[.slice A L.length c,.slice B M.length d] w (KX w (val L+val M) (M.length+1)):=by
 obtain⟨l,hl⟩:∃ l,l=L.length:=⟨_,rfl⟩
 obtain⟨m,hm⟩:∃ m,m=M.length:=⟨_,rfl⟩
 rw[<-hl,<-hm]at hc;rw[<-hl]at h1;rw[<-hm]at h2;have HL:=anv hl;have HM:=anv hm;rw[<-hl,<-hm];clear hl hm;have d0:decide ((l:Int)<m)=true:=bA aC;have d1:decide (l<m)=true:=bA aC;have wq:=Gt (m+1) aC;rw[show((m+1:Nat):Int)=m+1 by omega]at wq;have yj:=anv (Rw.Bq w (m+1));go_enter func262,ntmps262;go_wp2;go_loopw [6,7,8,9,23] (λcy _ _ _ i wr=>∃ (k q:Nat) (O:List Nat),k<=m/\i = .int .i64 k/\cy = .int .u32 q/\q<=1/\O.length=m+1/\iY O/\uU O k/\val O+4294967296^k*q=val (M.take k)+val (L.take k)/\Rw wr w.heap.size O/\ja w wr) (λ_ _ _ _ i _=>m-(intOf i).toNat)
 case atStart=>
  exact⟨0,0,List.replicate (m+1) 0,cz _,rfl,rfl,aE,aH,iY.EB _,uU.PO _,by simp[Dh],yj.out,ja.alloc _ _⟩
 case round=>
  obtain⟨k,q,O,hk,rfl,rfl,hq,hO,mv,hz,my,hR,hb⟩:=hrel;have HV:=anv my;have HO:=anv hO;clear my hO;have HZ:=anv hz;clear hz;by_cases iJ:k<m
  .have ur:k<M.length:=by have:=HM.out;omega
   obtain⟨ab,ao,e1,_,c1⟩:=(hr.below hb).nc ur;have nV:M[k]<4294967296:=hr.ok.get ur;have ho:=HZ.out.at (by have:=HO.out;omega)
   have c4:=hR.frozen k;have I9:=hR.cell ho;have HT:=anv (Dj M k ur);have HY:=anv (BW L k);have rG:L.getD k 0<4294967296:=hs.ok.getD k;have HYc:=anv (λ(h:k<L.length)=>(hs.below hb).nc h);have HYg:=anv (λ(h:k<L.length)=>Mg h);have HYn:=anv (λ(h:¬k<L.length)=>Mf h);have HX:=anv (rfl:M[k]=M[k]);obtain⟨a,ha⟩:∃ a,a=M[k]:=⟨_,rfl⟩
   rw[<-ha]at c1 nV HT;clear ha HX ur;have HS:=anv (Qf ho HV.out HT.out HY.out);have HN:=anv (λv=>HZ.out.set v);have HOK:=anv (λv=>mv.XL k v);have HR2:=anv (λv:Nat=>hR.set k v);have HE2:=anv (λv:Value=>hb.setCell (p:=⟨w.heap.size,k,none⟩) (bD _) v);clear ho hR hb mv;subst e1;by_cases T6:k<l
   .have xj:k<L.length:=by have:=HL.out;omega
    obtain⟨bb,bo,e2,_,c2⟩:=HYc.out xj;subst e2;rw[<-HYg.out xj]at c2;generalize L.getD k 0=b at *
    clear HYc HYg HYn xj;have HA:=anv (λw=>E8 a b q w nV rG hq);go_wp2_with fail;refine(HA.out _).mono ?_;rintro e w1 ⟨rfl,rfl⟩;go_wp2;go_roundw
    case rel=>
     exact⟨k+1,(a+b+q)/4294967296,O.set k ((a+b+q)%4294967296),aC,by go_num,rfl,aC,by rw[dA];exact HO.out,HOK.out _,HN.out _,HS.out,HR2.out _,HE2.out _⟩
    case measure=>simp[intOf];omega
   .rw [HYn.out (by have:=HL.out;omega)]at HS;clear HYc HYg HYn rG HY;have HA:=anv (λw=>E8 a 0 q w nV aE hq);go_wp2_with fail;refine(HA.out _).mono ?_;rintro e w1 ⟨rfl,rfl⟩;go_wp2;go_roundw
    case rel=>
     exact⟨k+1,(a+0+q)/4294967296,O.set k ((a+0+q)%4294967296),aC,by go_num,rfl,aC,by rw[dA];exact HO.out,HOK.out _,HN.out _,HS.out,HR2.out _,HE2.out _⟩
    case measure=>simp[intOf];omega
  .obtain rfl:k=m:= aC ;have ho:=HZ.out.at (by have:=HO.out;omega)
   have c4:=hR.frozen k;have I9:=hR.cell ho;have HF:=anv (show val (O.set k q)=val L+val M by
    have h:=Q5 (c:=q) ho;rw[cD,cH aC,dx aC,dg,ch,HV.out,show M.take k=M from dk (by rw[HM.out];exact bD _),show L.take k=L from dk (by rw[<-HL.out];omega)]at h;omega)
   have HLn:=anv (show(O.set k q).length=k+1 by rw[dA];exact HO.out);have HOK:Hid (iY (O.set k q)):=mv.set k aC;have HR2:=anv (hR.set k q);have HE2:=anv (λv:Value=>hb.setCell (p:=⟨w.heap.size,k,none⟩) (bD _) v);clear ho hR hb mv;go_wp2;go_ret;have sy:=HR2.out.sl HOK.out (by rw[HLn.out];omega);rw[HLn.out]at sy;exact⟨_,HF.out,HOK.out,HLn.out,_,_,(by rw[HLn.out];rfl),sy,HE2.out _⟩
def VP(A B:Option Addr)(c d:Nat)(L M:List Nat)(w:World)(hs:Sl w A c L)(hr:Sl w B d M)(h1:L.length<=3000)(h2:M.length<=3000):
 Calls prog 262 #[.slice A L.length c,.slice B M.length d] w (KX w (val L+val M) (max L.length M.length+1)):=by
 by_cases hc:M.length<=L.length
 .rw [Nat.max_eq_left hc];exact agO A B c d L M w hs hr h1 h2 hc
 .rw [Nat.max_eq_right aC];exact agP A B c d L M w hs hr h1 h2 aC 
def agN(A B:Option Addr)(c d:Nat)(L M:List Nat)(w:World)(hs:Sl w A c L)(hr:Sl w B d M)(h1:L.length<=3000)(h2:M.length<=3000):
 Calls prog 262 #[.slice A L.length c,.slice B M.length d] w (P4 w (val L+val M) (max L.length M.length+1)):=
 (VP A B c d L M w hs hr h1 h2).mono λ_ _ ⟨T,a,b,c,d⟩=>⟨T,a,b,amH c,d⟩
def agQ(A B:Option Addr)(c d:Nat)(L M:List Nat)(w:World)(uy:Sl w A c L)(yy:Sl w B d M)(h1:L.length<=3000)(_h2:M.length<=3000)(hle:val M<=val L):
 Calls prog 264 #[.slice A L.length c,.slice B M.length d] w (P4 w (val L-val M) L.length):=by
 have Mw:=anv (λw (h:Sl w A c L)=>vK A c L w h);have Mx:=anv (λw (h:Sl w B d M)=>vK B d M w h);have hs:=uy.uN;have hr:=yy.uN;have Ge:=qv L;have TV:=qv M;have F0:=pW L;have oD:=pW M;have DY:(iT M).length<=(iT L).length:=by
  apply ck;intro h;have:=KD hs.ok (Ao M) aC;omega
 unfold mT at F0 oD;rw[<-Ge,<-TV]at hle ⊢;clear Ge TV;obtain⟨n1,tU⟩:∃ n,n=L.length:=⟨_,rfl⟩
 obtain⟨n2,mF⟩:∃ n,n=M.length:=⟨_,rfl⟩
 rw[<-tU]at h1 F0 Mw ⊢;rw[<-mF]at _h2 oD Mx ⊢;have HTL:=anv (Mw.out w uy);have HTM:=anv (Mx.out w yy);clear Mw Mx uy yy tU mF;generalize iT L=L at *
 generalize iT M=M at *
 obtain⟨l,hl⟩:∃ l,l=L.length:=⟨_,rfl⟩
 obtain⟨m,hm⟩:∃ m,m=M.length:=⟨_,rfl⟩
 rw[<-hl]at F0 HTL DY;rw[<-hm]at oD HTM DY;have HL:=anv hl;have HM:=anv hm;have HLE:=anv hle;clear hl hm hle;have wq:=Gt l aC;have yj:=anv (Rw.Bq w l);go_enter func264,ntmps264;go_wp2_with fail;refine HTL.out.mono ?_;rintro e w1 ⟨rfl,rfl⟩;go_wp2_with fail;refine HTM.out.mono ?_;rintro e w1 ⟨rfl,rfl⟩;go_wp2;go_loopw [6,7,8,9,19] (λcy _ _ _ i wr=>∃ (k q:Nat) (O:List Nat),k<=l/\i = .int .i64 k/\cy = .int .u32 q/\q<=1/\O.length=l/\iY O/\uU O k/\val O+val (M.take k)=val (L.take k)+4294967296^k*q/\Rw wr w.heap.size O/\ja w wr) (λ_ _ _ _ i _=>l-(intOf i).toNat)
 case atStart=>
  exact⟨0,0,List.replicate l 0,cz _,rfl,rfl,aE,aH,iY.EB _,uU.PO _,by simp[Dh],yj.out,ja.alloc _ _⟩
 case round=>
  obtain⟨k,q,O,hk,rfl,rfl,hq,hO,mv,hz,my,hR,hb⟩:=hrel;have HV:=anv my;have HO:=anv hO;clear my hO;have HZ:=anv hz;clear hz;by_cases iJ:k<l
  .have ur:k<L.length:=by have:=HL.out;omega
   obtain⟨ab,ao,e1,_,c1⟩:=(hs.below hb).nc ur;have nV:L[k]<4294967296:=hs.ok.get ur;have ho:=HZ.out.at (by have:=HO.out;omega)
   have c4:=hR.frozen k;have I9:=hR.cell ho;have HT:=anv (Dj L k ur);have HY:=anv (BW M k);have rG:M.getD k 0<4294967296:=hr.ok.getD k;have HYc:=anv (λ(h:k<M.length)=>(hr.below hb).nc h);have HYg:=anv (λ(h:k<M.length)=>Mg h);have HYn:=anv (λ(h:¬k<M.length)=>Mf h);obtain⟨a,ha⟩:∃ a,a=L[k]:=⟨_,rfl⟩
   rw[<-ha]at c1 nV HT;clear ha ur;have HN:=anv (λv=>HZ.out.set v);have HOK:=anv (λ(v:Nat) (h:v<4294967296)=>mv.set k h);have HR2:=anv (λv:Nat=>hR.set k v);have HE2:=anv (λv:Value=>hb.setCell (p:=⟨w.heap.size,k,none⟩) (bD _) v);have HO0:=anv ho;clear ho hR hb mv;subst e1;by_cases T6:k<m
   .have xj:k<M.length:=by have:=HM.out;omega
    obtain⟨bb,bo,e2,_,c2⟩:=HYc.out xj;subst e2;rw[<-HYg.out xj]at c2;generalize M.getD k 0=b at *
    clear HYc HYg HYn xj;have HS:=anv (Yb HO0.out HV.out HT.out HY.out (Fv a b q nV rG hq).1);have HD:=anv (Fv a b q nV rG hq).2;have HA:=anv (λw=>Ya a b q w nV rG hq);generalize xW a b q=dd at *
    generalize B6 a b q=bb' at *
    go_wp2_with fail;refine(HA.out _).mono ?_;rintro e w1 ⟨rfl,rfl⟩;go_wp2;go_roundw
    case rel=>
     exact⟨k+1,bb',O.set k dd,aC,by go_num,rfl,HD.out.1,by rw[dA];exact HO.out,HOK.out _ HD.out.2,HN.out _,HS.out,HR2.out _,HE2.out _⟩
    case measure=>simp[intOf];omega
   .rw [HYn.out (by have:=HM.out;omega)]at HY;clear HYc HYg HYn rG;have HS:=anv (Yb HO0.out HV.out HT.out HY.out (Fv a 0 q nV aE hq).1);have HD:=anv (Fv a 0 q nV aE hq).2;have HA:=anv (λw=>Ya a 0 q w nV aE hq);generalize xW a 0 q=dd at *
    generalize B6 a 0 q=bb' at *
    go_wp2_with fail;refine(HA.out _).mono ?_;rintro e w1 ⟨rfl,rfl⟩;go_wp2;go_roundw
    case rel=>
     exact⟨k+1,bb',O.set k dd,aC,by go_num,rfl,HD.out.1,by rw[dA];exact HO.out,HOK.out _ HD.out.2,HN.out _,HS.out,HR2.out _,HE2.out _⟩
    case measure=>simp[intOf];omega
  .obtain rfl:k=l:= aC ;have HF:=anv (show val O=val L-val M by
    have h:=HV.out;rw[show L.take k=L from dk (by rw[HL.out];exact bD _),show M.take k=M from dk (by rw[<-HM.out];exact DY)]at h;exact(aj8 mv HO.out h HLE.out).2)
   go_wp2;go_ret;have sy:=hR.sl mv (by rw[HO.out];omega);exact⟨_,HF.out,mv,by rw[HO.out];exact F0,_,_,(by rw[HO.out];rfl),sy,hb⟩
def Yw{T:List Nat}{v:Nat}(h:iY T)(hv:val T=v):iT T=im v:=by rw[sG h,hv]
def agy(A B:Option Addr)(c d:Nat)(L M:List Nat)(w:World)(hs:Sl w A c L)(hr:Sl w B d M)(h1:L.length<=256)(h2:M.length<=256)(hf:(im (val L+val M)).length<=256):
 Calls prog 221 #[.slice A L.length c,.slice B M.length d] w (Dm w (im (val L+val M)) 0):=by
 have H1:=anv (λw (h:Sl w A c L) (k:Sl w B d M)=>agN A B c d L M w h k aC aC);generalize val L+val M=v at *
 go_enter func221,ntmps221;go_wp2_with fail;refine(Va _ A B _ c _ d _ false (P7 _ _ _ _ _ _ _) (P8 _ _ _ _ _ _ _) aN).mono ?_;rintro e w' ⟨rfl,rfl⟩;go_wp2_with fail;refine(H1.out _ (hs.alloc _) (hr.alloc _)).mono ?_;rintro e w' ⟨T,hv,hk,hl,A',c',rfl,qG,hb⟩;have ht:=anv (Yw hk hv);go_wp2_with fail;refine(GC A' c' T _ qG (by rw[ht.out];exact hf)).mono ?_;rintro e w'' ⟨A'',c'',rfl,vy,nR⟩;rw[ht.out]at vy ⊢;go_wp2;go_ret2;exact⟨A'',c'',rfl,vy,(ja.alloc _ _).trans (hb.trans nR)⟩
def agM(A B:Option Addr)(c d:Nat)(L M:List Nat)(w:World)(hs:Sl w A c L)(hr:Sl w B d M)(h1:L.length<=256)(h2:M.length<=256)(hle:val M<=val L):
 Calls prog 224 #[.slice A L.length c,.slice B M.length d] w (Dm w (im (val L-val M)) 0):=by
 have H1:=anv (λw (h:Sl w A c L) (k:Sl w B d M)=>agQ A B c d L M w h k aC aC hle);have HC:=anv (λw (h:Sl w A c L) (k:Sl w B d M)=>JH A B c d L M w h k aC aC);have hc:decide (lf (val L) (val M)<0)=false:=by
  apply bB;unfold lf;rw[bu aC];split<;>decide
 have hf:(im (val L-val M)).length<=256:=bI (nB (gH _ _)) (afU hs.ok h1);generalize val L-val M=v at *
 generalize lf (val L) (val M)=q at *
 clear hle;go_enter func224,ntmps224;go_wp2_with fail;refine(Va _ A B _ c _ d _ false (P7 _ _ _ _ _ _ _) (P8 _ _ _ _ _ _ _) aN).mono ?_;rintro e w' ⟨rfl,rfl⟩;go_wp2_with fail;refine(HC.out _ (hs.alloc _) (hr.alloc _)).mono ?_;rintro e w1 ⟨rfl,kR⟩;go_wp2_with fail;refine(H1.out _ ((hs.alloc _).below kR) ((hr.alloc _).below kR)).mono ?_;rintro e w' ⟨T,hv,hk,hl,A',c',rfl,qG,hb⟩;have ht:=anv (Yw hk hv);go_wp2_with fail;refine(GC A' c' T _ qG (by rw[ht.out];exact hf)).mono ?_;rintro e w'' ⟨A'',c'',rfl,vy,nR⟩;rw[ht.out]at vy ⊢;go_wp2;go_ret2;exact⟨A'',c'',rfl,vy,(ja.alloc _ _).trans (kR.trans (hb.trans nR))⟩
end Go.Proofs.YtgdahmmlddfimaaGreatDoor
namespace Go.Proofs.YtgdahmmlddfimaaGreatDoor.Fp
def r8(d:Dy):Dy:=if oz d then d else iS
def uk(d:Dy):Int:=if oz d then 0 else 9
def Lt{d:Dy}(h:oz d):r8 d=d:=bw h
def Ra{d:Dy}(h:oz d):uk d=0:=bw h
def Rb{d:Dy}(h:¬oz d):r8 d=iS:=bu h
def aby{d:Dy}(h:¬oz d):uk d=9:=bu h
def Rc{d:Dy}(h:d.nM):(r8 d).iy:=by
 by_cases hr:oz d
 .rw [Lt hr];exact⟨h,hr⟩
 .rw [Rb hr];exact sk
def Yd{a b:Dy}(ha:a.m≠0)(hb:b.m≠0):iG a b=iG b a:=by
 unfold iG;rw[bu ha,bu hb,bu hb,bu ha,Int.min_comm,Int.add_comm]
def jY(m:Nat)(e:Int)(p:Nat):Nat:=(max (max ((iD m:Int)-p) (-16384-e)) 0).toNat
def lr(m:Nat)(e:Int)(more:Bool)(p:Nat)(out:Bool):Nat:=
 m/2^jY m e p+if out=true/\(more=true\/m%2^jY m e p≠0)then 1 else 0
def mC(m:Nat)(e:Int)(more:Bool)(p:Nat)(out:Bool):Bool:=
 decide (lr m e more p out≠0)&&decide (16384<(iD (lr m e more p out):Int)+e+jY m e p)
def ku(neg:Bool)(m:Nat)(e:Int)(more:Bool)(p:Nat)(up:Bool):Dy:=
 if mC m e more p (neg != up)=true then(if(neg != up)=true then iS else canon neg (2^p-1) (16384-p))else canon neg (lr m e more p (neg != up)) (e+jY m e p)
def j9(neg:Bool)(m:Nat)(e:Int)(more:Bool)(p:Nat)(up:Bool):Int:=
 if(mC m e more p (neg != up)&&(neg != up))=true then 9 else 0
def aca{N d k:Nat}:(N/2^d%2^k≠0\/N%2^d≠0)↔N%2^(d+k)≠0:=by
 have e1:N%2^(d+k)=N%2^d+2^d*(N/2^d%2^k):=by rw[bH,Nat.mod_mul]
 have hp:0<2^d:=bJ aE;rw[e1];constructor
 .rintro (h|h)
  .have:=gn hp (eE h);omega
  .omega
 .intro h;by_cases h1:N%2^d=0
  .left;intro h2;rw[h1,h2,dg]at h;exact h rfl
  .exact .inr h1
def abU{N:Nat}{E:Int}{more:Bool}{d p:Nat}(hb:p<iD (N/2^d)):
 jY (N/2^d) (E+d) p+d=jY N E p /\
 ∀ out,lr (N/2^d) (E+d) (more||decide (N%2^d≠0)) p out=lr N E more p out:=by
 have hN:d<iD N:=by
  apply ck;intro h;have h1:N<2^d:=mJ.1 aC;rw[dx h1]at hb;simp[iD]at hb
 have MH:iD (N/2^d)+d=iD N:=by
  have h0:N/2^d≠0:=by intro h;rw[h]at hb;simp[iD]at hb
  have h1:=uO h0;have h2:=sC (N/2^d);obtain⟨j,hj⟩:∃ j,iD (N/2^d)=j+1:=⟨iD (N/2^d)-1,aC⟩
  rw[hj]at h1 h2 ⊢;rw[fh,dB (bJ aE),<-bH]at h1;rw[cS (bJ aE),<-bH]at h2;have:=y8 (k:=j+d) h1 (by rw[(aC:j+d+1=j+1+d)];exact h2);omega
 have hk:jY (N/2^d) (E+d) p+d=jY N E p:=by
  unfold jY;omega
 refine⟨hk,λout=>?_⟩;unfold lr;rw[<-hk];generalize jY (N/2^d) (E+d) p=k;have MK:=@aca N d k;rw[(aC:k+d=d+k),dL,<-bH];congr 1;have:((more||decide (N%2^d≠0))=true\/N/2^d%2^k≠0)↔(more=true\/N%2^(d+k)≠0):=by
  rw[<-MK];simp only[eZ,cL];constructor
  .rintro ((h|h)|h)
   .exact .inl h
   .exact .inr (.inr h)
   .exact .inr (.inl h)
  .rintro (h|h|h)
   .exact .inl (.inl h)
   .exact .inr h
   .exact .inl (.inr h)
 by_cases ho:out=true
 .simp only[ho,true_and,this]
 .rw [bu (λh=>ho h.1),bu (λh=>ho h.1)]
def Iz{N:Nat}{E:Int}{more:Bool}{d p:Nat}(neg up:Bool)(hb:p<iD (N/2^d)):
 ku neg (N/2^d) (E+d) (more||decide (N%2^d≠0)) p up=ku neg N E more p up /\
 j9 neg (N/2^d) (E+d) (more||decide (N%2^d≠0)) p up=j9 neg N E more p up:=by
 obtain⟨hk,hq⟩:=abU (more:=more) (E:=E) hb;have hq:=hq (neg != up);have e1:E+(d:Int)+(jY (N/2^d) (E+d) p:Int)=E+(jY N E p:Int):= aC ;have e2:(iD (lr N E more p (neg != up)):Int)+(E+(d:Int))+(jY (N/2^d) (E+d) p:Int)=(iD (lr N E more p (neg != up)):Int)+E+(jY N E p:Int):= aC ;have ho:mC (N/2^d) (E+d) (more||decide (N%2^d≠0)) p (neg != up)=mC N E more p (neg != up):=by
  unfold mC;rw[hq,e2]
 unfold ku j9;rw[hq,ho,e1];exact⟨rfl,rfl⟩
def Ls(s:Bool)(m:Nat)(e:Int)(j:Nat):canon s (m*2^j) (e-j)=canon s m e:=by
 by_cases h0:m=0
 .subst h0;rw[c9];rfl
 .have h1:m*2^j≠0:=dW h0 (eP (bJ aE));obtain⟨q,hq,he⟩:=B7 h0;have hc:jX (m*2^j)=jX m+j:=by
   conv=>lhs;rw[he,bN,<-bH]
   exact zf hq _
  unfold canon;rw[bu h1,bu h0,hc,bH,bR (2^jX m),<-dL,ep _ (bJ aE)];rw[(aC:e-(j:Int)+((jX m+j:Nat):Int)=e+(jX m:Int))]
def abT(neg up:Bool)(N:Nat)(E:Int)(j p:Nat)(h0:N≠0):
 ku neg (N*2^j) (E-j) false p up=ku neg N E false p up/\j9 neg (N*2^j) (E-j) false p up=j9 neg N E false p up:=by
 have MH:=sL h0 j;by_cases hk:jY N E p=0
 .
  have xi:jY (N*2^j) (E-j) p<=j:=by unfold jY at hk ⊢;rw[MH];omega
  obtain⟨i,hi⟩:∃ i,j=i+jY (N*2^j) (E-j) p:=⟨j-jY (N*2^j) (E-j) p,aC⟩
  generalize hK:jY (N*2^j) (E-j) p=k at *
  have hdiv:N*2^j/2^k=N*2^i:=by
   rw[hi,bH,<-bN,ep _ (bJ aE)]
  have M3:N*2^j%2^k=0:=by
   rw[hi,bH,<-bN];exact gT _ _
  have hq:∀ out,lr (N*2^j) (E-j) false p out=N*2^i:=λout=>by
   unfold lr;rw[hK,hdiv,M3];simp
  have zG:∀ out,lr N E false p out=N:=λout=>by
   unfold lr;rw[hk];simp[dX]
  have kj:N*2^i≠0:=dW h0 (eP (bJ aE));have ho:∀ out,mC (N*2^j) (E-j) false p out=mC N E false p out:=λout=>by
   unfold mC;rw[hq,zG,hK,hk,sL h0 i];simp only[dv,kj,h0,eX,fU,e9];rw[am8];omega
  unfold ku j9;rw[ho,hq,zG,hK,hk];rw[(aC:E-(j:Int)+k=E+((0:Nat):Int)-(i:Int)),Ls];exact⟨rfl,rfl⟩
 .have xi:jY (N*2^j) (E-j) p=jY N E p+j:=by unfold jY at hk ⊢;rw[MH];omega
  have hq:∀ out,lr (N*2^j) (E-j) false p out=lr N E false p out:=λout=>by
   unfold lr;rw[xi,bH,bR (2^jY N E p),<-dL,ep _ (bJ aE),bR N,Nat.mul_mod_mul_left];have:(2^j*(N%2^jY N E p)≠0)↔(N%2^jY N E p≠0):=by
    rw[dv,dv,Nat.mul_eq_zero];have:=bJ (n:=j) (aE:0<2);omega
   simp only[this]
  have ho:∀ out,mC (N*2^j) (E-j) false p out=mC N E false p out:=λout=>by
   unfold mC;rw[hq,xi];congr 2;rw[eq_iff_iff];omega
  unfold ku j9;rw[ho,hq,xi];rw[(aC:E-(j:Int)+((jY N E p+j:Nat):Int)=E+(jY N E p:Int))];exact⟨rfl,rfl⟩
def iM(d:Dy)(p:Nat)(up:Bool):Dy:=ku d.neg d.m d.e false p up
def jP(d:Dy)(p:Nat)(up:Bool):Int:=j9 d.neg d.m d.e false p up
def WM(s up:Bool)(m:Nat)(e:Int)(p:Nat)(h0:m≠0):
 iM (canon s m e) p up=ku s m e false p up/\jP (canon s m e) p up=j9 s m e false p up:=by
 have hm:=Fy h0;have hq:m/2^jX m≠0:=by have:=GI h0;omega
 have h:=abT s up (m/2^jX m) (e+jX m) (jX m) p hq;rw[hm,(aC:e+(jX m:Int)-(jX m:Int)=e)]at h;unfold iM jP canon;rw[bu h0];exact⟨h.1.symm,h.2.symm⟩
def DB{s:Bool}{m:Nat}{e:Int}(h0:m≠0):(iD (canon s m e).m:Int)+(canon s m e).e=iD m+e/\e<=(canon s m e).e/\(canon s m e).m≠0/\iD (canon s m e).m<=iD m:=by
 have hm:=Fy h0;have hq:m/2^jX m≠0:=by have:=GI h0;omega
 have h:=sL hq (jX m);rw[hm]at h;unfold canon;rw[bu h0];simp only;exact⟨aC,aC,hq,aC⟩
def RE(m:Nat)(e:Int)(p:Nat):m/2^jY m e p<2^p:=by
 rw[cS (bJ aE),<-bH];refine mJ.1 ?_;unfold jY;omega
def abm{s:Bool}{q p:Nat}{e:Int}(h:q<=2^p)(hp:1<=p):iD (canon s q e).m<=p:=by
 by_cases h0:q=0
 .subst h0;exact cz _
 .by_cases h1:q=2^p
  .have hc:jX q=p:=by rw[h1];have:=zf (m:=1) rfl p;rwa[ct]at this
   unfold canon;rw[bu h0,hc,h1,Nat.div_self (bJ aE)];exact bI (mJ.2 (show 1<2^1 by decide)) hp
  .exact bI (DB h0).2.2.2 (mJ.2 aC)
def Rr(m:Nat)(e:Int)(more:Bool)(p:Nat)(out:Bool):lr m e more p out<=2^p:=by
 have:=RE m e p;unfold lr;split<;>omega
def sN(neg:Bool)(m:Nat)(e:Int)(more:Bool)(p:Nat)(up:Bool)(hp:1<=p)(iw:p<=4096):(ku neg m e more p up).iy:=by
 unfold ku;by_cases ho:mC m e more p (neg != up)=true
 .rw [bw ho];by_cases hn:(neg != up)=true
  .rw [bw hn];exact sk
  .rw [bu hn];have xo:2<=2^p:=by
    have:=bY (n:=2) aE hp;omega
   have h0:2^p-1≠0:= aC ;have hb:iD (2^p-1)=p:=by
    obtain⟨j,rfl⟩:∃ j,p=j+1:=⟨p-1,aC⟩
    have h2:2^(j+1)=2^j*2:=bQ _ _;have h3:=bJ (n:=j) (aE:0<2);exact y8 aC aC 
   obtain⟨h1,h2,h3,h4⟩:=DB (s:=neg) (e:=(16384:Int)-p) h0;have h5:=pn h3;exact⟨tG _ _ _,.inr ⟨aC,aC,aC,aC⟩⟩
 .rw [bu ho];refine⟨tG _ _ _,?_⟩;by_cases h0:lr m e more p (neg != up)=0
  .rw [h0];exact .inl rfl
  .have hq:=abm (s:=neg) (e:=e+(jY m e p:Int)) (Rr m e more p (neg != up)) hp;obtain⟨h1,h2,h3,h4⟩:=DB (s:=neg) (e:=e+(jY m e p:Int)) h0;have h5:=pn h3;have h6:-16384<=e+(jY m e p:Int):=by unfold jY;omega
   unfold mC at ho;simp only[dv,h0,eX,fU,e9,cL]at ho;exact .inr ⟨aC,aC,aC,aC⟩
def Fs{neg:Bool}{m:Nat}{e:Int}{more:Bool}{p:Nat}{up:Bool}:j9 neg m e more p up=0↔¬(mC m e more p (neg != up)=true/\(neg != up)=true):=by
 unfold j9;cases mC m e more p (neg != up)<;>cases(neg != up)<;>simp
def Rs(neg:Bool)(m:Nat)(e:Int)(more:Bool)(p:Nat)(h1:j9 neg m e more p false=0)(h2:j9 neg m e more p true=0):
 jE (ku neg m e more p false) (ku neg m e more p true)<=0:=by
 have qc:¬mC m e more p true=true:=by
  cases neg
  .rw [Fs]at h2;simpa using h2
  .rw [Fs]at h1;simpa using h1
 have hle:lr m e more p false<=lr m e more p true:=by
  unfold lr;simp only[bM,false_and,bE];omega
 have kV:¬mC m e more p false=true:=by
  unfold mC at qc ⊢;intro h;apply qc;simp only[bO,cL]at h ⊢;have:=wY hle;exact⟨aC,aC⟩
 have key:∀ o:Bool,¬mC m e more p o=true:=λo=>by cases o;exact kV;exact qc
 unfold ku;rw[bu (key _),bu (key _)];rw[Fl (k:=e+(jY m e p:Int)) (AB (cM _)) (AB (cM _)),CY (cM _),CY (cM _)];rw[show(e+(jY m e p:Int)-(e+(jY m e p:Int))).toNat=0 by omega];simp only[cT,cI];unfold xV;cases neg
 .simp only[bM,bE,Bool.false_bne];split
  .decide
  .split<;>omega
 .simp only[bL,Bool.true_bne,fu,fK];split
  .decide
  .split<;>omega
def mY(b:Dy)(low:Int):Nat:=if low<=b.e then b.m*2^(b.e-low).toNat else b.m/2^(low-b.e).toNat
def og(b:Dy)(low:Int):Bool:=decide (¬low<=b.e)&&decide (b.m%2^(low-b.e).toNat≠0)
def Yc{a b:Dy}(ha:a.nM)(hb:b.nM){K:Int}(h1:K<=a.e)(h2:K<=b.e):iG a b=kH (a.num K+b.num K) K:=by
 refine RR (k:=K) (DC ha hb) (tG _ _ _) (HW (.inr h1) (.inr h2)) (K1 (cM _)) ?_;rw[Kr (.inr h1) (.inr h2),Oh (cM _),show(K-K).toNat=0 by omega];simp
def Ke{a b:Dy}(ha:a.nM)(hb:b.nM){K:Int}(h1:K<=a.e)(h2:K<=b.e)(s:Bool)(Z:Nat)(h0:Z≠0)(hz:a.num K+b.num K=if s then -(Z:Int)else(Z:Int))(p:Nat)(up:Bool):
 iM (iG a b) p up=ku s Z K false p up/\jP (iG a b) p up=j9 s Z K false p up:=by
 have:iG a b=canon s Z K:=by rw[Yc ha hb h1 h2,hz,abk]
 rw[this];exact WM s up Z K p h0
def JK(d:Dy)(K:Int):d.num K=if d.neg then -(d.kA K:Int)else(d.kA K:Int):=rfl
section
variable {a b:Dy} {low:Int} {p:Nat}
def Pb(a0:a.m≠0)(b0:b.m≠0)(h1:low<=a.e)(h2:low<=a.iI-p-8)(h3:low<=b.e\/3<=a.iI-b.iI):
 ∃ (K:Int) (d:Nat),K<=a.e/\K<=b.e/\low=K+d/\a.kA K=a.m*2^(a.e-low).toNat*2^d/\mY b low=b.kA K/2^d/\(og b low=decide (b.kA K%2^d≠0)) /\
  (d=0\/(p+8<=iD (a.m*2^(a.e-low).toNat)/\iD (b.kA K/2^d)+3<=iD (a.m*2^(a.e-low).toNat))):=by
 have ta:a.iI=iD a.m+a.e:=by unfold Dy.iI;rw[bu a0]
 have tb:b.iI=iD b.m+b.e:=by unfold Dy.iI;rw[bu b0]
 have hx:=sL a0 (a.e-low).toNat
 by_cases h:low<=b.e
 .refine ⟨low,0,h1,h,aC,by unfold Dy.kA;simp,?_,?_,.inl rfl⟩
  .unfold mY Dy.kA;rw[bw h];simp
  .unfold og;simp[h,dX]
 .refine ⟨b.e,(low-b.e).toNat,aC,cM _,aC,?_,?_,?_,.inr ⟨aC,?_⟩⟩
  .unfold Dy.kA;rw[bN,<-bH];congr 2;omega
  .unfold mY Dy.kA;rw[bu h];simp
  .unfold og Dy.kA;simp[h]
  .have hm:b.kA b.e=b.m:=by unfold Dy.kA;simp
   rw[hm];have hd:iD (b.m/2^(low-b.e).toNat)<=iD b.m-(low-b.e).toNat:=by
    rw[mJ,cS (bJ aE),<-bH];exact mJ.1 aC 
   have:=h3.resolve_left h;omega
def ai2(ha:a.nM)(hb:b.nM)(a0:a.m≠0)(b0:b.m≠0)(h1:low<=a.e)(h2:low<=a.iI-p-8)(h3:low<=b.e\/3<=a.iI-b.iI)(hs:a.neg=b.neg)(up:Bool):
 ku a.neg (a.m*2^(a.e-low).toNat+mY b low) low (og b low) p up=iM (iG a b) p up/\j9 a.neg (a.m*2^(a.e-low).toNat+mY b low) low (og b low) p up=jP (iG a b) p up:=by
 obtain⟨K,d,k1,k2,rfl,hx,hy,hl,hd⟩:=Pb (p:=p) a0 b0 h1 h2 h3;generalize a.m*2^(a.e-(K+d)).toNat=x at *
 have ma:=zW a0 K;have mb:=zW b0 K;obtain⟨r1,r2⟩:=Ke ha hb k1 k2 a.neg (a.kA K+b.kA K) aC (by
  rw[JK a,JK b,<-hs];cases a.neg<;>simp<;>omega) p up
 rw[r1,r2,hy,hl];have e1:(a.kA K+b.kA K)/2^d=x+b.kA K/2^d:=by
  rw[hx,bR x,amX (bJ aE)]
 have e2:(a.kA K+b.kA K)%2^d=b.kA K%2^d:=by
  rw[hx,bR x,gw]
 rcases hd with rfl|⟨Bb,Bc⟩
 .simp only[cT,fW,dX]at e1 ⊢;rw[<-e1];have:K+((0:Nat):Int)=K:= aC ;rw[this];simp
 .have hb:p<iD ((a.kA K+b.kA K)/2^d):=by
   rw[e1];have:=wY (aC:x<=x+b.kA K/2^d);omega
  have h:=Iz (E:=K) (more:=false) a.neg up hb;rw[e1,e2,amI]at h;exact h
def aj7{x N D:Nat}(hD:0<D)(h:N<=x*D):(x*D-N)/D=x-(N/D+if N%D≠0 then 1 else 0)/\((x*D-N)%D≠0↔N%D≠0)/\N/D+(if N%D≠0 then 1 else 0)<=x:=by
 have hN:=cV N D;have hr:=bS N hD;generalize N/D=q at *
 generalize N%D=r at *
 by_cases h0:r=0
 .subst h0;simp only[dv,amZ,bE,ch]at hN ⊢;have hq:q<=x:=by
   apply ck;intro h';have:=bW D (aC:x+1<=q);rw[cj,bR q]at this;omega
  have e:x*D-N=(x-q)*D:=by rw[Nat.sub_mul,<-hN,bR q]
  rw[e,ep _ hD,gT];exact⟨rfl,aH,hq⟩
 .have hq:q+1<=x:=by
   apply ck;intro h';have:=bW D (aC:x<=q);rw[bR q]at this;omega
  have e:x*D-N=(D-r)+D*(x-(q+1)):=by
   have h1:D*(x-(q+1))=D*x-D*(q+1):=Nat.mul_sub _ _ _;have h2:D*(q+1)<=D*x:=cW _ hq;rw[b9,cI]at h1 h2;rw[bR x];omega
  have iJ:D-r<D:= aC ;rw[e,fH _ _ hD,dx iJ,eK,cH iJ];simp only[dv,h0,eX,bL];exact⟨aC,⟨λ_=>trivial,λ_=> aC⟩,hq⟩
def ai1(ha:a.nM)(hb:b.nM)(a0:a.m≠0)(b0:b.m≠0)(h1:low<=a.e)(h2:low<=a.iI-p-8)(h3:low<=b.e\/3<=a.iI-b.iI)(hs:a.neg≠b.neg)(up:Bool):
  (a.m*2^(a.e-low).toNat<mY b low+(if og b low=true then 1 else 0) ->
   ku (!a.neg) (mY b low+(if og b low=true then 1 else 0)-a.m*2^(a.e-low).toNat) low false p up=iM (iG a b) p up/\j9 (!a.neg) (mY b low+(if og b low=true then 1 else 0)-a.m*2^(a.e-low).toNat) low false p up=jP (iG a b) p up) /\
  (mY b low+(if og b low=true then 1 else 0)<=a.m*2^(a.e-low).toNat ->
   (a.m*2^(a.e-low).toNat-(mY b low+(if og b low=true then 1 else 0))=0/\og b low=false->iG a b=iS) /\
   (¬(a.m*2^(a.e-low).toNat-(mY b low+(if og b low=true then 1 else 0))=0/\og b low=false) ->
    ku a.neg (a.m*2^(a.e-low).toNat-(mY b low+(if og b low=true then 1 else 0))) low (og b low) p up=iM (iG a b) p up/\j9 a.neg (a.m*2^(a.e-low).toNat-(mY b low+(if og b low=true then 1 else 0))) low (og b low) p up=jP (iG a b) p up)):=by
 obtain⟨K,d,k1,k2,rfl,hx,hy,hl,hd⟩:=Pb (p:=p) a0 b0 h1 h2 h3;generalize a.m*2^(a.e-(K+d)).toNat=x at *
 have ma:=zW a0 K;have mb:=zW b0 K;have Jm:a.num K+b.num K=if a.neg then(b.kA K:Int)-a.kA K else(a.kA K:Int)-b.kA K:=by
  rw[JK a,JK b];cases h:a.neg<;>cases h':b.neg<;>simp[h,h']at hs ⊢ <;> omega
 rw[hy,hl];rcases hd with rfl|⟨Bb,Bc⟩
 .
  rw[cT,cI]at hx;have e0:K+((0:Nat):Int)=K:= aC ;simp only[cT,fW,dX,dv,amZ,ado,bM,bE,ch,e0,fO];refine⟨λiJ=>?_,λhle=>⟨λhz=>?_,λhz=>?_⟩⟩
  .obtain ⟨r1,r2⟩:=Ke ha hb k1 k2 (!a.neg) (b.kA K-x) aC (by
    rw[Jm,hx];cases a.neg<;>simp<;>omega) p up
   exact⟨r1.symm,r2.symm⟩
  .rw [Yc ha hb k1 k2,Jm,hx];have:x=b.kA K:= aC ;rw[this];cases a.neg<;>simp[kH,canon,iS]
  .obtain ⟨r1,r2⟩:=Ke ha hb k1 k2 a.neg (x-b.kA K) aC (by
    rw[Jm,hx];cases a.neg<;>simp<;>omega) p up
   exact⟨r1.symm,r2.symm⟩
 .
  have hD:=bJ (n:=d) (aE:0<2);have oE:x≠0:=by intro h;rw[h]at Bb;simp[iD]at Bb
  obtain⟨j,hj⟩:∃ j,iD x=j+3:=⟨iD x-3,aC⟩
  have lQ:=uO oE;rw[hj,(aC:j+3-1=j+2),bH]at lQ;have pH:b.kA K/2^d<2^j:=mJ.1 aC;have hle:b.kA K<=x*2^d:=by
   have h5:=cV (b.kA K) (2^d);have h6:=bS (b.kA K) hD;have h7:2^d*(b.kA K/2^d+1)<=2^d*x:=cW _ aC;rw[b9,cI,bR _ x]at h7;omega
  obtain⟨e1,e2,e3⟩:=aj7 hD hle;have hc:(if decide (b.kA K%2^d≠0)=true then 1 else 0)=(if b.kA K%2^d≠0 then 1 else 0):=by simp only[cL]
  rw[hc];have A9:p<iD (x-(b.kA K/2^d+if b.kA K%2^d≠0 then 1 else 0)):=by
   have h8:2^(j+1)<=x-(b.kA K/2^d+if b.kA K%2^d≠0 then 1 else 0):=by
    rw[bQ];have h9:2^j*2^2<=x:=lQ;have rU:=bJ (n:=j) (aE:0<2);split<;>omega
   have:=xB.2 h8;omega
  refine⟨λiJ=> aC,λ_=>⟨λhz=>?_,λ_=>?_⟩⟩
  .exfalso;rw[hz.1]at A9;simp[iD]at A9
  .obtain ⟨r1,r2⟩:=Ke ha hb k1 k2 a.neg (a.kA K-b.kA K) (by
    intro h;rw[<-hx,h,Nat.zero_div]at e1;rw[<-e1]at A9;simp[iD]at A9) (by
    rw[Jm];cases a.neg<;>simp<;>omega) p up
   rw[r1,r2,hx];rw[<-e1]at A9 ⊢;have h:=Iz (E:=K) (more:=false) a.neg up A9;rw[amI]at h;have e4:decide ((x*2^d-b.kA K)%2^d≠0)=decide (b.kA K%2^d≠0):=am8.2 e2;rw[e4]at h;exact h
end
def jv(m:Nat)(e:Int)(p:Nat):Int:=max (e+iD m-p) (-16384)
def oj(m:Nat)(e:Int)(more:Bool)(p:Nat)(up:Bool):Nat:=
 if jv m e p<=e then m*2^(e-jv m e p).toNat else m/2^(jv m e p-e).toNat+if(up&&(more||decide (m%2^(jv m e p-e).toNat≠0)))=true then 1 else 0
def Rq{m:Nat}{e:Int}{more:Bool}{p:Nat}(up:Bool)(h0:m≠0)(hm:more=true->p<iD m)(hp:1<=p):
 (iD (oj m e more p up):Int)+jv m e p<=16384/\ku false m e more p up=canon false (oj m e more p up) (jv m e p)/\j9 false m e more p up=0 \/
 16384<(iD (oj m e more p up):Int)+jv m e p/\((up=true/\ku false m e more p up=iS/\j9 false m e more p up=9)\/(up=false/\ku false m e more p up=canon false (2^p-1) (16384-p)/\j9 false m e more p up=0)):=by
 have qc:(false != up)=up:=by cases up<;>rfl
 by_cases hU:jv m e p<=e
 .
  have hmf:more=false:=by
   cases M4:more with
   |false=>rfl
   |true=>have:=hm M4;unfold jv at hU;omega
  subst hmf;have hK:jY m e p=0:=by unfold jv at hU;unfold jY;omega
  have hQ:lr m e false p up=m:=by unfold lr;rw[hK];simp[dX]
  have hP:oj m e false p up=m*2^(e-jv m e p).toNat:=by unfold oj;rw[bw hU]
  have hb:iD (oj m e false p up)=iD m+(e-jv m e p).toNat:=by rw[hP];exact sL h0 _
  have hc:canon false (oj m e false p up) (jv m e p)=canon false m e:=by
   rw[hP];have:=Ls false m e (e-jv m e p).toNat
   rwa[(aC:e-((e-jv m e p).toNat:Int)=jv m e p)]at this
  have hO:mC m e false p up=decide (16384<(iD m:Int)+e):=by
   unfold mC;rw[hQ,hK];simp[h0]
  by_cases sf:16384<(iD m:Int)+e
  .refine .inr ⟨aC,?_⟩;unfold ku j9;rw[qc,hO,bA sf];cases up
   .exact .inr ⟨rfl,rfl,rfl⟩
   .exact .inl ⟨rfl,rfl,rfl⟩
  .refine .inl ⟨aC,?_,?_⟩
   .unfold ku;rw[qc,hO,bB sf,bu aE,hQ,hK,hc];simp
   .unfold j9;rw[qc,hO,bB sf];simp
 .have hK:jY m e p=(jv m e p-e).toNat:=by unfold jv at hU ⊢;unfold jY;omega
  have hQ:lr m e more p up=oj m e more p up:=by
   unfold lr oj;rw[bu hU,hK];congr 1;cases up<;>cases more<;>simp
  have heK:e+(jY m e p:Int)=jv m e p:=by rw[hK];omega
  have kj:16384<(iD (oj m e more p up):Int)+jv m e p->oj m e more p up≠0:=by
   intro h hz;have qO:m/2^(jv m e p-e).toNat=0:=by
    unfold oj at hz;rw[bu hU]at hz;exact(Nat.add_eq_zero_iff.1 hz).1
   have iJ:m<2^(jv m e p-e).toNat:=by
    rcases Nat.div_eq_zero_iff.1 qO with h|h
    .exact absurd h (eP (bJ aE))
    .exact h
   have:=mJ.2 iJ;rw[hz,sM]at h;have wB:=pn h0;unfold jv at h hU this;omega
  have hO:mC m e more p up=decide (16384<(iD (oj m e more p up):Int)+jv m e p):=by
   unfold mC;rw[hQ,show(iD (oj m e more p up):Int)+e+(jY m e p:Int)=(iD (oj m e more p up):Int)+jv m e p by omega];by_cases sf:16384<(iD (oj m e more p up):Int)+jv m e p
   .simp [kj sf]
   .simp [sf]
  by_cases sf:16384<(iD (oj m e more p up):Int)+jv m e p
  .refine .inr ⟨sf,?_⟩;unfold ku j9;rw[qc,hO,bA sf];cases up
   .exact .inr ⟨rfl,rfl,rfl⟩
   .exact .inl ⟨rfl,rfl,rfl⟩
  .refine .inl ⟨aC,?_,?_⟩
   .unfold ku;rw[qc,hO,bB sf,bu aE,hQ,heK]
   .unfold j9;rw[qc,hO,bB sf];simp
def Rp{m:Nat}{e:Int}{more:Bool}{p:Nat}{up:Bool}(h0:m≠0):iD (oj m e more p up)<=p+1:=by
 unfold oj;split
 .rename_i h;rw[sL h0];unfold jv at h ⊢;omega
 .rename_i h;have h1:m/2^(jv m e p-e).toNat<2^p:=by
   rw[cS (bJ aE),<-bH];refine mJ.1 ?_;unfold jv at h ⊢;omega
  refine mJ.2 ?_;rw[bQ];have:0<2^p:=bJ aE;split<;>omega
def pQ{m k:Nat}(h:iD m<=32*k):(im m).length<=k:=by
 refine xA ?_;rw[uG];exact mJ.1 h
def Fg{m k:Nat}(h:(im m).length<=k):iD m<=32*k:=by
 have:=NQ h;rw[uG]at this;exact mJ.2 this
def RG{m n:Nat}(h:iD m<=n):m/2^n=0/\m%2^n=m:=by
 have:=mJ.1 h;exact⟨dx this,cH this⟩
def Vd(m n:Nat):(lf (m/2^n*2^n) m != 0)=decide (m%2^n≠0):=by
 have h:=cV m (2^n);rw[bR]at h;unfold lf;by_cases h0:m%2^n=0
 .rw [bu aC,bu aC];simp[h0]
 .rw [bw aC];simp[h0]
def Ru(neg:Bool)(m:Nat)(e:Int)(more:Bool)(p:Nat)(up:Bool):
 j9 neg m e more p up=j9 false m e more p (up != neg) /\
 (j9 false m e more p (up != neg)=0->neg=true->iK (ku false m e more p (up != neg))=ku neg m e more p up) /\
 ((j9 false m e more p (up != neg)≠0\/neg=false)->ku false m e more p (up != neg)=ku neg m e more p up):=by
 have qc:(false != (up != neg))=(neg != up):=by cases up<;>cases neg<;>rfl
 have hE:j9 neg m e more p up=j9 false m e more p (up != neg):=by unfold j9;rw[qc]
 refine⟨hE,λh hn=>?_,λh=>?_⟩
 .have h':=Fs.1 h;rw[qc]at h';have neg_canon:∀ q u,iK (canon false q u)=canon true q u:=by
   intro q u;unfold canon iK;by_cases hq:q=0
   .simp [hq]
   .rw [bu hq,bu hq];have:=GI hq;have h0:q/2^jX q≠0:= aC ;simp[h0]
  subst hn;unfold ku;rw[qc];by_cases ho:mC m e more p (true != up)=true
  .have hu:(true != up)=false:=by
    cases hq:(true != up)with
    |false=>rfl
    |true=>exact absurd ⟨ho,hq⟩ h'
   rw[bw ho,bw ho,hu];simp only[bM,bE];exact neg_canon _ _
  .rw [bu ho,bu ho];exact neg_canon _ _
 .rcases h with h|h
  .have h1:mC m e more p (neg != up)=true/\(neg != up)=true:=by
    by_cases q:mC m e more p (neg != up)=true/\(neg != up)=true
    .exact q
    .exact absurd (Fs.2 (by rw[qc];exact q)) h
   unfold ku;rw[qc,bw h1.1,bw h1.2,bw h1.1,bw h1.2]
  .subst h;cases up<;>rfl
def jy(a b:Dy)(p:Nat):Int:=if a.iI-b.iI<=2 then min (min a.e (a.iI-p-8)) b.e else min a.e (a.iI-p-8)
def oA(a b:Dy)(p:Nat):Nat:=a.m*2^(a.e-jy a b p).toNat
def mX(a b:Dy)(p:Nat):Nat:=mY b (jy a b p)+if(a.neg != b.neg&&og b (jy a b p))=true then 1 else 0
def pV(a b:Dy)(p:Nat):Bool:=(a.neg != b.neg)&&decide (oA a b p<mX a b p)
def mn(a b:Dy)(p:Nat):Nat:=if a.neg=b.neg then oA a b p+mX a b p else if oA a b p<mX a b p then mX a b p-oA a b p else oA a b p-mX a b p
def nK(a b:Dy)(p:Nat):Bool:=og b (jy a b p) && !pV a b p
def O4(a b:Dy)(p:Nat):jy a b p<=a.e/\jy a b p<=a.iI-p-8/\(jy a b p<=b.e\/3<=a.iI-b.iI):=by
 unfold jy;split<;>omega
def Hn{a:Dy}(a0:a.m≠0):a.iI=iD a.m+a.e:=by unfold Dy.iI;rw[bu a0]
structure Zj(a b:Dy)(p:Nat):Prop where
 lo:-17000<=jy a b p
 hi:jy a b p<=16384
 x:iD (oA a b p)<=4100
 x0:oA a b p≠0
 sh:(a.e-jy a b p).toNat<=60000
 sh2:(b.e-jy a b p).toNat<=60000
 sh3:(jy a b p-b.e).toNat<=60000
 y:iD (mY b (jy a b p))<=4100
 l:og b (jy a b p)=true->p+8<=iD (oA a b p)/\iD (mY b (jy a b p))+3<=iD (oA a b p)
def Kt{a b:Dy}{p:Nat}(ha:a.iy)(hb:b.iy)(a0:a.m≠0)(b0:b.m≠0)(ht:b.iI<=a.iI)(iw:p<=512):Zj a b p:=by
 have ra:=ha.range.resolve_left a0;have rb:=hb.range.resolve_left b0;have ta:=Hn a0;have tb:=Hn b0;obtain⟨h1,h2,h3⟩:=O4 a b p;have hx:iD (oA a b p)=iD a.m+(a.e-jy a b p).toNat:=sL a0 _;have DW:jy a b p=a.e\/jy a b p=a.iI-p-8\/(a.iI-b.iI<=2/\jy a b p=b.e):=by unfold jy;split<;>omega
 have hy:iD (mY b (jy a b p))<=iD (oA a b p):=by
  unfold mY;split
  .rw [sL b0];omega
  .have:iD (b.m/2^(jy a b p-b.e).toNat)<=iD b.m-(jy a b p-b.e).toNat:=by
    rw[mJ,cS (bJ aE),<-bH];exact mJ.1 aC 
   omega
 have pa:=pn a0;have pb:=pn b0;refine⟨aC,aC,aC,?_,aC,aC,aC,aC,λhl=>?_⟩
 .intro h;unfold oA at h;exact(dW a0 (eP (bJ aE))) h
 .obtain ⟨K,d,k1,k2,k3,k4,k5,k6,k7⟩:=Pb (p:=p) a0 b0 h1 h2 h3;rcases k7 with rfl|⟨k7,k8⟩
  .rw [k6]at hl;simp[dX]at hl
  .rw [k5];exact⟨k7,k8⟩
def Pv{a b:Dy}{p:Nat}(ha:a.iy)(hb:b.iy)(a0:a.m≠0)(b0:b.m≠0)(ht:b.iI<=a.iI)(iw:p<=512):
 iD (mX a b p)<=4101/\iD (mn a b p)<=4102/\(nK a b p=true->p<iD (mn a b p)):=by
 obtain⟨l1,l2,l3,l4,l5,l6,l7,l8,l9⟩:=Kt ha hb a0 b0 ht iw;have hy:mX a b p<=mY b (jy a b p)+1:=by unfold mX;split<;>omega
 obtain⟨K,hK⟩:∃ K:Nat,K=4100:=⟨_,rfl⟩
 have g1:4101=K+1:= aC ;have g2:4102=K+2:= aC ;rw[g1,g2];rw[<-hK]at l3 l8;have hy4:mY b (jy a b p)<2^K:=mJ.1 l8;have hx4:oA a b p<2^K:=mJ.1 l3;have e1:(2:Nat)^(K+1)=2*2^K:=by rw[bQ];omega
 have e2:(2:Nat)^(K+2)=4*2^K:=by rw[bH];omega
 generalize (2:Nat)^K=Z at *
 refine⟨mJ.2 aC,mJ.2 ?_,λhl=>?_⟩
 .unfold mn;split
  .omega
  .split<;>omega
 .unfold nK at hl;simp only[bO,ev]at hl;obtain⟨q1,q2⟩:=l9 hl.1;have hX:2^(iD (oA a b p)-1)<=oA a b p:=uO l4;rw[xB];have hY:mY b (jy a b p)<2^(iD (oA a b p)-3):=mJ.1 aC;have e3:(2:Nat)^(iD (oA a b p)-1)=4*2^(iD (oA a b p)-3):=by
   rw[(aC:iD (oA a b p)-1=(iD (oA a b p)-3)+2),bH];omega
  have hp:(2:Nat)^p<=2^(iD (oA a b p)-3):=bY aE aC;unfold mn;split
  .omega
  .rename_i hs;unfold pV at hl;rw[bu (by
    have:=hl.2;simp[hs]at this;omega)]
   omega
def Yf{a b:Dy}{p:Nat}(ha:a.iy)(hb:b.iy)(a0:a.m≠0)(b0:b.m≠0)(up:Bool):
 (mn a b p=0/\nK a b p=false->iG a b=iS) /\
 (¬(mn a b p=0/\nK a b p=false)->ku (a.neg != pV a b p) (mn a b p) (jy a b p) (nK a b p) p up=iM (iG a b) p up/\j9 (a.neg != pV a b p) (mn a b p) (jy a b p) (nK a b p) p up=jP (iG a b) p up):=by
 obtain⟨h1,h2,h3⟩:=O4 a b p;by_cases hs:a.neg=b.neg
 .have hn:(a.neg != b.neg)=false:=by rw[hs];simp
  have e1:pV a b p=false:=by unfold pV;rw[hn];rfl
  have e2:nK a b p=og b (jy a b p):=by unfold nK;rw[e1];simp
  have e3:mn a b p=a.m*2^(a.e-jy a b p).toNat+mY b (jy a b p):=by unfold mn;rw[bw hs];unfold oA mX;rw[hn];simp
  have hx:mn a b p≠0:=by
   rw[e3];have:=dW a0 (eP (bJ (n:=(a.e-jy a b p).toNat) (show 0<2 by decide)));omega
  refine⟨λh=>absurd h.1 hx,λ_=>?_⟩;rw[e1,e2,e3];have:=ai2 ha.canon hb.canon a0 b0 h1 h2 h3 hs up;cases hA:a.neg<;>rw[hA]at this<;>exact this
 .have hn:(a.neg != b.neg)=true:=by simpa using hs
  have eY:mX a b p=mY b (jy a b p)+if og b (jy a b p)=true then 1 else 0:=by unfold mX;rw[hn];simp
  obtain⟨r1,r2⟩:=ai1 (p:=p) ha.canon hb.canon a0 b0 h1 h2 h3 hs up;rw[<-eY]at r1 r2;change oA a b p<mX a b p->_ at r1;change mX a b p<=oA a b p->_ at r2;by_cases hc:oA a b p<mX a b p
  .have e1:pV a b p=true:=by unfold pV;rw[hn,bA hc];rfl
   have e2:nK a b p=false:=by unfold nK;rw[e1];simp
   have e3:mn a b p=mX a b p-oA a b p:=by unfold mn;rw[bu hs,bw hc]
   rw[e1,e2,e3];refine⟨λh=> aC,λ_=>?_⟩;have:=r1 hc;cases hA:a.neg<;>rw[hA]at this<;>exact this
  .have e1:pV a b p=false:=by unfold pV;rw[hn,bB hc];rfl
   have e2:nK a b p=og b (jy a b p):=by unfold nK;rw[e1];simp
   have e3:mn a b p=oA a b p-mX a b p:=by unfold mn;rw[bu hs,bu hc]
   rw[e1,e2,e3];obtain⟨q1,q2⟩:=r2 aC;refine⟨q1,λh=>?_⟩;have:=q2 h;cases hA:a.neg<;>rw[hA]at this<;>exact this
end Go.Proofs.YtgdahmmlddfimaaGreatDoor.Fp
namespace Go.Proofs.YtgdahmmlddfimaaGreatDoor
open Go.RowKit Fp
def aas(a b:Nat):iD (a*b)<=iD a+iD b:=by
 rw[mJ,bH];exact Nat.mul_lt_mul'' (sC a) (sC b)
def abw(d:Dy)(A:Option Addr)(c:Nat)(w:World)(hs:Sl w A c (im d.m))(hl:(im d.m).length<=100000000)(mP:-10000000<=d.e)(lW:d.e<=10000000):
 Calls prog 222 #[DV d A c] w (y3 w (r8 d) (uk d)):=by
 by_cases hd:oz d
 .rw [Lt hd,Ra hd];exact Q9 d A c w hs hl mP lW hd
 .rw [Rb hd,aby hd];exact abx d A c w hs hl mP lW hd
def Q4(s:Bool)(m:Nat)(e:Int)(A:Option Addr)(c:Nat)(w:World)(hs:Sl w A c (im m))(hl:(im m).length<=256)(mP:-1000000<=e)(lW:e<=1000000)(uq:Tb w):
 Calls prog 219 #[.bool s,.slice A (im m).length c,.int .i64 e] w (yZ w (canon s m e)):=by
 have:=IF s A c (im m) e w hs aC (by have:=pW (im m);unfold mT at this;omega) mP lW uq;rw[lh]at this;exact this
def V1{m:Nat}(h:m=0):(((im m).length:Int)==0)=true:=by rw[h,px];rfl
def ahG{m:Nat}(h:m≠0):(((im m).length:Int)==0)=false:=by
 refine bh ?_;have:im m≠[]:=λe=>h (U3.1 e)
 have:=gI.2 this;omega
def amc(a b:Dy)(A B:Option Addr)(c d:Nat)(w:World)(_hs:Sl w A c (im a.m))(hr:Sl w B d (im b.m))(uq:Tb w)(hb:b.iy)(h0:a.m=0):
 Calls prog 164 #[DV a A c,DV b B d] w (y3 w (r8 (iG a b)) (uk (iG a b))):=by
 have D7:iG a b=b:=by unfold iG;rw[bw h0]
 rw[D7,Lt hb.range,Ra hb.range];have hl:=hb.len;obtain⟨mP,lW⟩:=hb.exp;have HC:=anv (λw (h:Sl w B d (im b.m)) (ht:Tb w)=>Q4 b.neg b.m b.e B d w h hl aC aC ht);rw[hb.canon.Iu]at HC;have n0:=V1 h0;clear D7 h0;have hE:=((ja.alloc w (.cells #[.bool b.neg,.slice B ((im b.m).length) d,.int .i64 b.e] 31)).trans (ja.alloc (w.alloc (.cells #[.bool b.neg,.slice B ((im b.m).length) d,.int .i64 b.e] 31)) (.cells #[.bool b.neg,.slice B ((im b.m).length) d,.int .i64 b.e] 31))).trans (ja.alloc ((w.alloc (.cells #[.bool b.neg,.slice B ((im b.m).length) d,.int .i64 b.e] 31)).alloc (.cells #[.bool b.neg,.slice B ((im b.m).length) d,.int .i64 b.e] 31)) (.cells #[.bool false,.slice none 0 0,.int .i64 0] 31));have b1:=((jV.yL (W:=w) (g:=w.heap.size) aH b.neg B ((im b.m).length) d b.e).alloc (.cells #[.bool b.neg,.slice B ((im b.m).length) d,.int .i64 b.e] 31)).alloc (.cells #[.bool false,.slice none 0 0,.int .i64 0] 31);have b2:=(jV.yL (W:=(w.alloc (.cells #[.bool b.neg,.slice B ((im b.m).length) d,.int .i64 b.e] 31))) (g:=w.heap.size+1) aH b.neg B ((im b.m).length) d b.e).alloc (.cells #[.bool false,.slice none 0 0,.int .i64 0] 31);have b3:=jV.yL (W:=((w.alloc (.cells #[.bool b.neg,.slice B ((im b.m).length) d,.int .i64 b.e] 31)).alloc (.cells #[.bool b.neg,.slice B ((im b.m).length) d,.int .i64 b.e] 31))) (g:=w.heap.size+2) aH false none 0 0 0;replace hr:=hr.below hE;replace uq:=uq.below hE;go_enter func164,ntmps164;go_wp2_with fail
 (with_reducible refine(HC.out _ hr uq).mono ?_)
 rintro r w1 ⟨A_h4,c_h4,rfl,h4,hb⟩;replace hE:=hE.trans hb;replace hr:=hr.below hb;replace uq:=uq.below hb;replace b1:=b1.ext hb;replace b2:=b2.ext hb;replace b3:=b3.ext hb;clear hb;have amE:=b3.c0;have yb30:=b3.fr 0;have amF:=b3.c1;have yb31:=b3.fr 1;have amG:=b3.c2;have yb32:=b3.fr 2;go_wp2;exact DH (d:=b) rfl rfl rfl rfl (b3.set _ _ _ _ _) rfl (b3.vR h4 _ _ _ _ _) (jV.uK hE aC _ _ _ _ _)
def acs(a:Dy)(A:Option Addr)(c:Nat)(w:World)(h:Sl w A c (im a.m))(ha:a.iy):
 Calls prog 185 #[DV a A c] w λe w'=>e = .returned (.int .i64 a.iI)/\ja w w':=by
 have:=LL a.neg A c (im a.m) a.e w h ha.xX;rw[lh]at this;exact this
set_option maxRecDepth 100000 in
set_option maxHeartbeats 8000000 in
def acq(a : Dy)(A : Option Addr)(c : Nat)(w : World)(hs : Sl w A c (im a.m))(ha : a.iy):
    Calls prog 137 #[DV a A c] w (yZ w (iK a)) := by
  have HV := anv (λw (h : Sl w A c (im a.m)) => RQ a A c w h ha);have hl := ha.len;by_cases h0 : a.m=0
  . have hz : Hid (iK a=iS) := by
      show iK a=iS;obtain⟨s,m,e⟩ := a;rcases ha.canon with⟨h1,h2,h3⟩|h1
      . simp only at h1 h2 h3;subst h1 h2 h3;rfl
      . simp only at h0 h1;omega
    have n0 := V1 h0;clear h0;have hE := (ja.alloc w (.cells #[.bool a.neg,.slice A ((im a.m).length) c,.int .i64 a.e] 31)).trans (ja.alloc (w.alloc (.cells #[.bool a.neg,.slice A ((im a.m).length) c,.int .i64 a.e] 31)) (.cells #[.bool false,.slice none 0 0,.int .i64 0] 31));have b1 := (jV.yL (W := w) (g := w.heap.size) aH a.neg A ((im a.m).length) c a.e).alloc (.cells #[.bool false,.slice none 0 0,.int .i64 0] 31);have b2 := jV.yL (W := (w.alloc (.cells #[.bool a.neg,.slice A ((im a.m).length) c,.int .i64 a.e] 31))) (g := w.heap.size+1) aH false none 0 0 0;replace hs := hs.below hE;go_enter func137,ntmps137;go_wp2_with fail
    (with_reducible refine(HV.out _ hs).mono ?_)
    rintro r w1 ⟨rfl,hb⟩;replace hE := hE.trans hb;replace hs := hs.below hb;replace b1 := b1.ext hb;replace b2 := b2.ext hb;clear hb;have KN := b1.c0;have KO := b1.c1;have KP := b1.c2;have amB := b2.c0;have yb20 := b2.fr 0;have amC := b2.c1;have yb21 := b2.fr 1;have amD := b2.c2;have yb22 := b2.fr 2;go_wp2;rw[hz.out];exact zg (d := iS) rfl rfl rfl (b2.set _ _ _ _ _) (by rw[show iS.m=0 from rfl,px];rfl) (by rw[show iS.m=0 from rfl,px];exact Sl.nil _) (jV.uK hE aC _ _ _ _ _)
  . have n0 := ahG h0
    have HN := anv (show iK a=⟨!a.neg,a.m,a.e⟩by unfold iK;simp[h0]);have HC := anv (λw (h : Sl w A c (im a.m)) => Lw A c (im a.m) w h aC);clear h0;have hE := (ja.alloc w (.cells #[.bool a.neg,.slice A ((im a.m).length) c,.int .i64 a.e] 31)).trans (ja.alloc (w.alloc (.cells #[.bool a.neg,.slice A ((im a.m).length) c,.int .i64 a.e] 31)) (.cells #[.bool false,.slice none 0 0,.int .i64 0] 31));have b1 := (jV.yL (W := w) (g := w.heap.size) aH a.neg A ((im a.m).length) c a.e).alloc (.cells #[.bool false,.slice none 0 0,.int .i64 0] 31);have b2 := jV.yL (W := (w.alloc (.cells #[.bool a.neg,.slice A ((im a.m).length) c,.int .i64 a.e] 31))) (g := w.heap.size+1) aH false none 0 0 0;replace hs := hs.below hE;go_enter func137,ntmps137;go_wp2_with fail
    (with_reducible refine(HV.out _ hs).mono ?_)
    rintro r w1 ⟨rfl,hb⟩;replace hE := hE.trans hb;replace hs := hs.below hb;replace b1 := b1.ext hb;replace b2 := b2.ext hb;clear hb;have KN := b1.c0;have KO := b1.c1;have KP := b1.c2;clear KN KO KP;have KN := b1.c0;have KO := b1.c1;have KP := b1.c2;go_wp2_with fail;clear KN KO KP;replace hs := hs.drew;replace b1 := b1.drew;replace b2 := b2.drew;replace hE := hE.trans (ja.drew _);go_region_held3 (λw' => w'.cell? ⟨w.heap.size,0,none⟩=some (.bool a.neg)/\w'.cell? ⟨w.heap.size,1,none⟩=some (.slice A ((im a.m).length) c)/\w'.cell? ⟨w.heap.size,2,none⟩=some (.int .i64 a.e))
      (first|with_reducible exact⟨(b1).c0,(b1).c1,(b1).c2⟩|with_reducible exact⟨(b1.ext mf).c0,(b1.ext mf).c1,(b1.ext mf).c2⟩|with_reducible exact⟨((b1.ext mf).L8 (g' := w.heap.size+1) aC _ _ _).c0,((b1.ext mf).L8 (g' := w.heap.size+1) aC _ _ _).c1,((b1.ext mf).L8 (g' := w.heap.size+1) aC _ _ _).c2⟩)
      (first
        | (go_at_call 204
           (with_reducible refine(HC.out _ hs).mono ?_)
           rintro r wx0 ⟨A_h4,c_h4,rfl,h4,mf⟩;have bz := b2.ext mf;have z0 := bz.c0;have z1 := bz.c1;have z2 := bz.c2;have y0 := bz.fr 0;have y1 := bz.fr 1;have y2 := bz.fr 2))
    replace hE := hE.trans mf;replace hs := hs.below mf;replace b1 := b1.ext mf;replace b2 := b2.ext mf;go_wp2;rw[HN.out];exact zg (d := ⟨!a.neg,a.m,a.e⟩) rfl rfl rfl (bz.set _ _ _ _ _) rfl (bz.vR h4 _ _ _ _ _) (jV.uK hE aC _ _ _ _ _)
open Pu
section
variable {f:FuncId} {L M:List Nat} {kq:E}
def GP(hk:iY L)(hc:∀ (vs:Array Value) (w:World),(callFunc f vs).run prog w = .ok (.enter f vs) w)
 {R:Option Addr->Nat->World->Ending->World->Prop} (H:∀ A c w,Sl w A c L->Tb w->Calls prog f #[.slice A L.length c] w (R A c w))
 (hR:∀ (A:Option Addr) (c:Nat) (B:Nat->Prop) w e w',Sl w A c L->(∀ b,B b->b<w.heap.size/\oY w b)->R A c w e w'->∃ v,e = .returned v/\Below w.heap.size w w'/\iO B (λ_=>True) w' kq v):ik f [iu L] kq:=by
 refine⟨hc,λw B vs hK hB hr=>?_⟩;obtain⟨v1,vs,rfl,h1,hr⟩:=hr.nE;obtain rfl:=hr.r6;obtain⟨A,c,rfl,s1⟩:=Am hk h1;exact(H A c w s1 hK).mono λe w' h=>hR A c B w e w' s1 hB h
def JW(hk:iY L){n:Int}(hc:∀ (vs:Array Value) (w:World),(callFunc f vs).run prog w = .ok (.enter f vs) w)
 {R:Option Addr->Nat->World->Ending->World->Prop} (H:∀ A c w,Sl w A c L->Tb w->Calls prog f #[.slice A L.length c,.int .i64 n] w (R A c w))
 (hR:∀ (A:Option Addr) (c:Nat) (B:Nat->Prop) w e w',Sl w A c L->(∀ b,B b->b<w.heap.size/\oY w b)->R A c w e w'->∃ v,e = .returned v/\Below w.heap.size w w'/\iO B (λ_=>True) w' kq v):ik f [iu L,iP n] kq:=by
 refine⟨hc,λw B vs hK hB hr=>?_⟩;obtain⟨v1,vs,rfl,h1,hr⟩:=hr.nE;obtain⟨v2,vs,rfl,h2,hr⟩:=hr.nE;obtain rfl:=hr.r6;obtain rfl:=iO.kG h2;obtain⟨A,c,rfl,s1⟩:=Am hk h1;exact(H A c w s1 hK).mono λe w' h=>hR A c B w e w' s1 hB h
def GQ(hk:iY L)(hm:iY M)(hc:∀ (vs:Array Value) (w:World),(callFunc f vs).run prog w = .ok (.enter f vs) w)
 {R:World->Ending->World->Prop} (H:∀ A c B d w,Sl w A c L->Sl w B d M->Tb w->Calls prog f #[.slice A L.length c,.slice B M.length d] w (R w))
 (hR:∀ (B:Nat->Prop) w e w',(∀ b,B b->b<w.heap.size/\oY w b)->R w e w'->∃ v,e = .returned v/\Below w.heap.size w w'/\iO B (λ_=>True) w' kq v):ik f [iu L,iu M] kq:=by
 refine⟨hc,λw B vs hK hB hr=>?_⟩;obtain⟨v1,vs,rfl,h1,hr⟩:=hr.nE;obtain⟨v2,vs,rfl,h2,hr⟩:=hr.nE;obtain rfl:=hr.r6;obtain⟨A,c,rfl,s1⟩:=Am hk h1;obtain⟨A',d,rfl,s2⟩:=Am hm h2;exact(H A c A' d w s1 s2 hK).mono λe w' h=>hR B w e w' hB h
end
def GZ{L:List Nat}{n:Int}(B:Nat->Prop)(w:World)(e:Ending)(w':World)(hB:∀ b,B b->b<w.heap.size/\oY w b)(h:Dm w L n e w'):∃ v,e = .returned v/\Below w.heap.size w w'/\iO B (λ_=>True) w' (.iE [iu L,iP n]) v:=
 let⟨_,_,h1,h2,h3⟩:=h
 ⟨_,h1,h3,ky.iE (.cons (BO hB h3 h2) (.cons (.v _) (.nil _ _ _)))⟩
def rl{L:List Nat}(B:Nat->Prop)(w:World)(e:Ending)(w':World)(hB:∀ b,B b->b<w.heap.size/\oY w b)(h:xR w L e w'):∃ v,e = .returned v/\Below w.heap.size w w'/\iO B (λ_=>True) w' (iu L) v:=
 let⟨_,_,h1,h2,h3⟩:=h
 ⟨_,h1,h3,BO hB h3 h2⟩
def uE(L:List Nat)(hk:iY L):ik 263 [iu L] (iu (iT L)):=
 GP hk call263 (λA c w h _=>vK A c L w h) λA c B w e w' h hB ⟨h1,h2⟩=>by subst h2;exact⟨_,h1,Below.refl _ _,BO hB (Below.refl _ _) h.uN⟩
def VH(L:List Nat)(hk:iY L)(hl:(iT L).length<=256):ik 231 [iu L] (.iE [iu (iT L),iP 0]):=
 GP hk call231 (λA c w h _=>GC A c L w h hl) λA c B w e w' h hB r=>GZ B w e w' hB r
def agz(L:List Nat)(hk:iY L)(hl:L.length<=100000):ik 265 [iu L] (iP (iD (val L))):=
 GP hk call265 (λA c w h _=>VG A c L w h aC) λA c B w e w' h hB ⟨h1,h2⟩=>by subst h2;exact⟨_,h1,Below.refl _ _,.v _⟩
def N7(L M:List Nat)(hk:iY L)(hm:iY M)(hl:L.length<=100000)(oD:M.length<=100000):ik 223 [iu L,iu M] (iP (lf (val L) (val M))):=
 GQ hk hm call223 (λA c B d w h k _=>JH A B c d L M w h k aC aC) rv
def VK(m n:Nat)(hl:(im m).length<=256)(hn:n<=65536)(hf:(im (m*2^n)).length<=256):ik 261 [iu (im m),iP (n:Int)] (.iE [iu (im (m*2^n)),iP 0]):=
 JW (nD m) call261 (λA c w h _=>VJ A c (im m) n w h hl hn (by rw[lh];exact hf)) λA c B w e w' h hB r=>by rw[lh]at r;exact GZ B w e w' hB r
def Oa(m n:Nat)(hl:(im m).length<=256)(hn:n<=65536):ik 175 [iu (im m),iP (n:Int)] (.iE [iu (im (m/2^n)),iP 0]):=
 JW (nD m) call175 (λA c w h _=>VM A c (im m) n w h hl hn) λA c B w e w' h hB r=>by rw[lh]at r;exact GZ B w e w' hB r
def JG(m n:Nat)(h1:(im m).length<=256)(h2:(im n).length<=256)(hf:(im (m+n)).length<=256):ik 221 [iu (im m),iu (im n)] (.iE [iu (im (m+n)),iP 0]):=by
 refine GQ (nD m) (nD n) call221 (λA c B d w h k _=>agy A B c d (im m) (im n) w h k h1 h2 (by rw[lh,lh];exact hf)) ?_;rw[lh,lh];exact GZ
def GD(m n:Nat)(h1:(im m).length<=256)(h2:(im n).length<=256)(hf:n<=m):ik 224 [iu (im m),iu (im n)] (.iE [iu (im (m-n)),iP 0]):=by
 refine GQ (nD m) (nD n) call224 (λA c B d w h k _=>agM A B c d (im m) (im n) w h k h1 h2 (by rw[lh,lh];exact hf)) ?_;rw[lh,lh];exact GZ
def tf(m:Nat)(hl:(im m).length<=100000):ik 265 [iu (im m)] (iP (iD m)):=by
 have:=agz (im m) (nD m) hl;rwa[lh]at this
def z8(m n:Nat)(hl:(im m).length<=100000)(oD:(im n).length<=100000):ik 223 [iu (im m),iu (im n)] (iP (lf m n)):=by
 have:=N7 (im m) (im n) (nD m) (nD n) hl oD;rwa[lh,lh]at this
def um(a:Dy)(ha:a.iy):ik 137 [iA a] (iA (iK a)):=Ev call137 (λA c w h _=>acq a A c w h ha) rd
def pr(a:Dy)(ha:a.iy):ik 185 [iA a] (iP a.iI):=Ev call185 (λA c w h _=>acs a A c w h ha) rv
def B8(s:Bool)(m:Nat)(e:Int)(hl:(im m).length<=256)(mP:-32768<=e)(lW:e<=32768)(hd:oz (canon s m e)):ik 176 [bP s,iu (im m),iP e] (.iE [iA (canon s m e),iP 0]):=by
 refine⟨call176,λw B vs hK hB hr=>?_⟩;obtain⟨v1,vs,rfl,h1,hr⟩:=hr.nE;obtain⟨v2,vs,rfl,h2,hr⟩:=hr.nE;obtain⟨v3,vs,rfl,h3,hr⟩:=hr.nE;obtain rfl:=hr.r6;obtain rfl:=iO.kG h1;obtain rfl:=iO.kG h3;obtain⟨A,c,rfl,s1⟩:=Am (nD m) h2;have:=agi s A c (im m) e w s1 hl mP lW hK (by rw[lh];exact hd);rw[lh]at this;exact this.mono λe w' h=>OQ B w e w' hB h
def yO:E.le (.sl false 1 1 λi j=>[E.v (.int .u32 1)].getD (i*1+j) (.v (.bool false))) (iu (im 1)):=by
 have e1:im 1=[1]:=by rw[Ej aE,show 1/4294967296=0 by decide,px]
 rw[e1];refine .sl λi j hi hj=>?_
 obtain rfl:i=0:= aC ;obtain rfl:j=0:= aC ;exact⟨.refl _,rfl⟩
def iR(d:Dy):List E:=[bP d.neg,iu (im d.m),iP d.e]
def nZ(l:List Dy):E:=.sl true l.length 3 λi j=>(iR (l.getD i iS)).getD j .any
def LM(a:Dy):E.le (.sl true 1 3 λi j=>[bP a.neg,iu (im a.m),iP a.e].getD (i*3+j) (.v (.bool false))) (nZ [a]):=.sl λi j hi hj=>by
 obtain rfl:i=0:= aC ;rcases j with _|_|_|j
 .exact ⟨.refl _,rfl⟩
 .exact ⟨.refl _,rfl⟩
 .exact ⟨.refl _,rfl⟩
 .omega
def w9(a b:Dy):E.le (.sl true 2 3 λi j=>[bP a.neg,iu (im a.m),iP a.e,bP b.neg,iu (im b.m),iP b.e].getD (i*3+j) (.v (.bool false))) (nZ [a,b]):=.sl λi j hi hj=>by
 obtain rfl|rfl:i=0\/i=1:= aC 
 all_goals
  rcases j with _|_|_|j
  .exact ⟨.refl _,rfl⟩
  .exact ⟨.refl _,rfl⟩
  .exact ⟨.refl _,rfl⟩
  .omega
def pz{n:Nat}(h:n≠0):((n:Int)==0)=false:= aN 
def vL{n:Nat}(h:n=0):((n:Int)==0)=true:=by subst h;rfl
def agH{n:Nat}(h:n=0):((n:Int) != 0)=false:=by subst h;rfl
def agI{n:Nat}(h:n≠0):((n:Int) != 0)=true:= aN 
def yJ{m:Nat}:(im m).length=0↔m=0:=by rw[ann,U3]
def q9{m:Nat}(h:m≠0):(im m).length≠0:=λq=>h (yJ.1 q)
def Fp.Dy.iy.im{d:Dy}(h:d.iy):(im d.m).length<=256:=by have:=h.len;omega
end Go.Proofs.YtgdahmmlddfimaaGreatDoor
namespace Go.Proofs.YtgdahmmlddfimaaGreatDoor.Fp
structure Iv where
 lo:Dy
 hi:Dy
 all:Bool
def ix:Iv:=⟨iS,iS,true⟩
def Iv.iy(x:Iv):Prop:=(x.all=true/\x.lo=iS/\x.hi=iS)\/(x.all=false/\x.lo.iy/\x.hi.iy/\jE x.lo x.hi<=0)
def mc:ix.iy:=.inl ⟨rfl,rfl,rfl⟩
def mh(lo:Dy)(e:Int)(hi:Dy)(f:Int):Iv:=if e≠0\/f≠0 then ix else⟨lo,hi,false⟩
def xF(a b:Dy):Dy:=canon (a.neg != b.neg) (a.m*b.m) (a.e+b.e)
def mz(x:Iv):Iv:=if x.all then ix else⟨iK x.hi,iK x.lo,false⟩
def jO(x y:Iv)(p:Nat):Iv:=
 if x.all||y.all then ix else mh (iM (iG x.lo y.lo) p false) (jP (iG x.lo y.lo) p false) (iM (iG x.hi y.hi) p true) (jP (iG x.hi y.hi) p true)
def rm(x y:Iv)(p:Nat):Iv:=jO x (mz y) p
def abG{x y:Int}:xV x y<=0↔x<=y:=by
 unfold xV;split
 .constructor<;>intro<;>omega
 .split<;>constructor<;>intro<;>omega
def s8{a b:Dy}{k:Int}(ha:qx a k)(hb:qx b k):jE a b<=0↔a.num k<=b.num k:=by rw[Fl ha hb,abG]
def le_trans{a b c:Dy}(h1:jE a b<=0)(h2:jE b c<=0):jE a c<=0:=by
 obtain⟨k,ka,kb,kc⟩:∃ k:Int,k<=a.e/\k<=b.e/\k<=c.e:=⟨min a.e (min b.e c.e),aC,aC,aC⟩
 rw[s8 (.inr ka) (.inr kb)]at h1;rw[s8 (.inr kb) (.inr kc)]at h2;rw[s8 (.inr ka) (.inr kc)];omega
def CL(a:Dy):jE a a<=0:=by rw[s8 (k:=a.e) (.inr (cM _)) (.inr (cM _))];exact cM _
def afD(a b:Dy):jE a b<=0\/jE b a<=0:=by
 obtain⟨k,ka,kb⟩:∃ k:Int,k<=a.e/\k<=b.e:=⟨min a.e b.e,aC,aC⟩
 rw[s8 (.inr ka) (.inr kb),s8 (.inr kb) (.inr ka)];omega
def agV{a b:Dy}(h:jE a b<=0):jE (iK b) (iK a)<=0:=by
 obtain⟨k,ka,kb⟩:∃ k:Int,k<=a.e/\k<=b.e:=⟨min a.e b.e,aC,aC⟩
 rw[s8 (.inr ka) (.inr kb)]at h;rw[s8 (k:=k) (K2 (.inr kb)) (K2 (.inr ka)),Oi,Oi];omega
def akb{a b c d:Dy}(h1:jE a b<=0)(h2:jE c d<=0):jE (iG a c) (iG b d)<=0:=by
 obtain⟨k,ka,kb,kc,kd⟩:∃ k:Int,k<=a.e/\k<=b.e/\k<=c.e/\k<=d.e:=⟨min (min a.e b.e) (min c.e d.e),aC,aC,aC,aC⟩
 rw[s8 (.inr ka) (.inr kb)]at h1;rw[s8 (.inr kc) (.inr kd)]at h2;rw[s8 (k:=k) (HW (.inr ka) (.inr kc)) (HW (.inr kb) (.inr kd)),Kr (.inr ka) (.inr kc),Kr (.inr kb) (.inr kd)];omega
def IA(m:Nat)(e:Int)(p:Nat):
 lr m e false p false*2^jY m e p<=m/\m<=lr m e false p true*2^jY m e p:=by
 have h:=cV m (2^jY m e p);have hr:=bS m (bJ (n:=jY m e p) (aE:0<2));unfold lr;simp only[bM,false_and,bE,ch,false_or,true_and];rw[bR];generalize m/2^jY m e p=q at *
 generalize 2^jY m e p=P at *
 refine⟨aC,?_⟩;rw[cj,bR q];split
 .omega
 .omega
def Lr{s:Bool}{m n:Nat}{e f K:Int}(h1:K<=e)(h2:K<=f)(h:m*2^(e-K).toNat<=n*2^(f-K).toNat):
 (s=false->jE (canon s m e) (canon s n f)<=0)/\(s=true->jE (canon s n f) (canon s m e)<=0):=by
 constructor
 .rintro rfl;rw[s8 (AB h1) (AB h2),V4 h1,V4 h2]
  exact_mod_cast h
 .rintro rfl;rw[s8 (AB h2) (AB h1),CY h1,CY h2];simp only[bL];omega
def Rt(neg:Bool)(m:Nat)(e:Int)(p:Nat)(up:Bool)(he:j9 neg m e false p up=0)(_hp:1<=p):
 (up=true->jE (canon neg m e) (ku neg m e false p up)<=0)/\(up=false->jE (ku neg m e false p up) (canon neg m e)<=0):=by
 rw[Fs]at he;obtain⟨c1,c2⟩:=IA m e p;have e1:(e-e).toNat=0:= aC ;have e2:(e+(jY m e p:Int)-e).toNat=jY m e p:= aC ;have hk:e<=e+(jY m e p:Int):= aC ;have A:=λs:Bool=>Lr (s:=s) (m:=lr m e false p false) (n:=m) (e:=e+jY m e p) (f:=e) (K:=e) hk (cM _) (by rw[e1,e2];simpa using c1)
 have B:=λs:Bool=>Lr (s:=s) (m:=m) (n:=lr m e false p true) (e:=e) (f:=e+jY m e p) (K:=e) (cM _) hk (by rw[e1,e2];simpa using c2)
 unfold ku;by_cases ho:mC m e false p (neg != up)=true
 .have hn:¬(neg != up)=true:=λh=>he ⟨ho,h⟩
  rw[bw ho,bu hn];have Tx:neg=up:=by cases neg<;>cases up<;>simp at hn ⊢
  have mF:(neg != up)=false:=by rw[Tx];simp
  rw[mF]at ho;unfold mC at ho;simp only[bO,cL]at ho;obtain⟨o1,o2⟩:=ho;have hq:=uO o1;have I7:=pn o1;obtain⟨K,k1,k2⟩:∃ K:Int,K<=e/\K<=16384-p:=⟨min e (16384-p),aC,aC⟩
  have C:(2^p-1)*2^((16384:Int)-p-K).toNat<=m*2^(e-K).toNat:=by
   have h1:2^(iD (lr m e false p false)-1)*2^jY m e p<=m:=bI (bW _ hq) c1;have h2:=bW (2^(e-K).toNat) h1;rw[<-bH,<-bH]at h2;refine bI (bW _ (gH _ _)) (bI ?_ h2);rw[<-bH];exact bY aE aC 
  have D:=Lr (s:=neg) k2 k1 C;subst Tx;cases neg
  .exact ⟨λh=>absurd h aE,λ_=>D.1 rfl⟩
  .exact ⟨λ_=>D.2 rfl,λh=>absurd h aE⟩
 .rw [bu ho];cases neg<;>cases up
  .exact ⟨λh=>absurd h aE,λ_=>(A false).1 rfl⟩
  .exact ⟨λ_=>(B false).1 rfl,λh=>absurd h aE⟩
  .exact ⟨λh=>absurd h aE,λ_=>(B true).2 rfl⟩
  .exact ⟨λ_=>(A true).2 rfl,λh=>absurd h aE⟩
def O5{d:Dy}(hd:d.nM)(p:Nat)(hp:1<=p):
 (jP d p true=0->jE d (iM d p true)<=0)/\(jP d p false=0->jE (iM d p false) d<=0):=by
 have h:=hd.Iu;constructor
 .intro he;have:=(Rt d.neg d.m d.e p true he hp).1 rfl;rwa[h]at this
 .intro he;have:=(Rt d.neg d.m d.e p false he hp).2 rfl;rwa[h]at this
def qk{x y:Iv}(hx:x.iy)(hy:y.iy){p:Nat}(hp:1<=p)(iw:p<=4096):(jO x y p).iy:=by
 unfold jO;rcases hx with⟨h,_⟩|⟨h1,h2,h3,h4⟩
 .rw [h];exact mc
 .rcases hy with⟨h,_⟩|⟨k1,k2,k3,k4⟩
  .rw [h,h1];exact mc
  .rw [h1,k1];simp only[gL,bM,bE];unfold mh;by_cases he:jP (iG x.lo y.lo) p false≠0\/jP (iG x.hi y.hi) p true≠0
   .rw [bw he];exact mc
   .rw [bu he];have e1:jP (iG x.lo y.lo) p false=0:= aC ;have e2:jP (iG x.hi y.hi) p true=0:= aC ;refine .inr ⟨rfl,sN _ _ _ _ _ _ hp iw,sN _ _ _ _ _ _ hp iw,?_⟩;exact le_trans ((O5 (DC h2.canon k2.canon) p hp).2 e1) (le_trans (akb h4 k4) ((O5 (DC h3.canon k3.canon) p hp).1 e2))
def Bu{x:Iv}(hx:x.iy):(mz x).iy:=by
 unfold mz;rcases hx with⟨h,_⟩|⟨h1,h2,h3,h4⟩
 .rw [bw h];exact mc
 .rw [h1];exact .inr ⟨rfl,vN h3,vN h2,agV h4⟩
def jk(a b:Dy):Dy:=if jE b a<0 then b else a
def jg(a b:Dy):Dy:=if 0<jE b a then b else a
def Gv(a b:Dy):jE (jk a b) a<=0:=by
 unfold jk;split
 .omega
 .exact CL a
def Vp(a b:Dy):jE (jk a b) b<=0:=by
 unfold jk;split
 .exact CL b
 .rcases afD a b with h|h
  .exact h
  .have h0:jE b a=0:= aC ;obtain⟨k,ka,kb⟩:∃ k:Int,k<=a.e/\k<=b.e:=⟨min a.e b.e,aC,aC⟩
   rw[Fl (k:=k) (.inr kb) (.inr ka)]at h0;rw[s8 (.inr ka) (.inr kb)];unfold xV at h0;split at h0
   .omega
   .split at h0<;>omega
def Fm(a b:Dy):jE a b = -jE b a:=by
 obtain⟨k,ka,kb⟩:∃ k:Int,k<=a.e/\k<=b.e:=⟨min a.e b.e,aC,aC⟩
 rw[Fl (k:=k) (.inr ka) (.inr kb),Fl (k:=k) (.inr kb) (.inr ka)];unfold xV;split<;>split<;>(try split)<;>omega
def CT(a b:Dy):jE a (jg a b)<=0:=by
 unfold jg;split
 .rw [Fm];omega
 .exact CL a
def Vn(a b:Dy):jE b (jg a b)<=0:=by
 unfold jg;split
 .exact CL b
 .omega
def rJ{a b:Dy}(ha:a.iy)(hb:b.iy):(jk a b).iy:=by unfold jk;split;exact hb;exact ha
def qI{a b:Dy}(ha:a.iy)(hb:b.iy):(jg a b).iy:=by unfold jg;split;exact hb;exact ha
def pt(D : Dy->Dy->Bool->Dy)(E : Dy->Dy->Bool->Int)(x y : Iv) : Iv:=
 if(E x.lo y.lo false=0/\E x.lo y.lo true=0)/\(E x.lo y.hi false=0/\E x.lo y.hi true=0)/\(E x.hi y.lo false=0/\E x.hi y.lo true=0)/\(E x.hi y.hi false=0/\E x.hi y.hi true=0)then
  ⟨jk (jk (jk (D x.lo y.lo false) (D x.lo y.hi false)) (D x.hi y.lo false)) (D x.hi y.hi false),
   jg (jg (jg (D x.lo y.lo true) (D x.lo y.hi true)) (D x.hi y.lo true)) (D x.hi y.hi true),false⟩
 else ix
def So{D:Dy->Dy->Bool->Dy}{E:Dy->Dy->Bool->Int}{x y:Iv}(hv:∀ a b up,(D a b up).iy)
 (hle:E x.lo y.lo false=0->E x.lo y.lo true=0->jE (D x.lo y.lo false) (D x.lo y.lo true)<=0):(pt D E x y).iy:=by
 unfold pt;split
 .rename_i h;refine .inr ⟨rfl,rJ (rJ (rJ (hv _ _ _) (hv _ _ _)) (hv _ _ _)) (hv _ _ _),qI (qI (qI (hv _ _ _) (hv _ _ _)) (hv _ _ _)) (hv _ _ _),?_⟩;refine le_trans (Gv _ _) (le_trans (Gv _ _) (le_trans (Gv _ _) (le_trans (hle h.1.1 h.1.2) ?_)));exact le_trans (CT _ _) (le_trans (CT _ _) (CT _ _))
 .exact mc
def iV(x y:Iv)(p:Nat):Iv:=
 if x.all||y.all then ix else pt (λa b up=>iM (xF a b) p up) (λa b up=>jP (xF a b) p up) x y
def oV(x y:Iv){p:Nat}(hp:1<=p)(iw:p<=4096):(iV x y p).iy:=by
 unfold iV;split
 .exact mc
 .exact So (λ_ _ _=>sN _ _ _ _ _ _ hp iw) (λh1 h2=>Rs _ _ _ _ _ h1 h2)
def lG(a b:Dy)(p:Nat)(g:Nat):Nat:=p+g+iD b.m-iD a.m
def oC(a b:Dy)(p:Nat)(up:Bool):Dy:=
 if a.m=0 then iS else ku (a.neg != b.neg) (a.m*2^lG a b p 2/b.m) (a.e-b.e-lG a b p 2) (decide (a.m*2^lG a b p 2%b.m≠0)) p up
def pZ(a b:Dy)(p:Nat)(up:Bool):Int:=
 if a.m=0 then 0 else j9 (a.neg != b.neg) (a.m*2^lG a b p 2/b.m) (a.e-b.e-lG a b p 2) (decide (a.m*2^lG a b p 2%b.m≠0)) p up
def LH{a b:Dy}(a0:a.m≠0)(b0:b.m≠0)(p g:Nat)(hg:2<=g):p<iD (a.m*2^lG a b p g/b.m):=by
 have h1:=uO a0;have h2:=sC b.m;have ha:=pn a0;have h3:2^p<=a.m*2^lG a b p g/b.m:=by
  rw[dB aC];refine bI (cW _ (dR h2)) (bI ?_ (bW _ h1));rw[<-bH,<-bH];exact bY aE (by unfold lG;omega)
 exact xB.2 h3
def acd{a b:Dy}(a0:a.m≠0)(b0:b.m≠0)(p:Nat)(up:Bool):
 ku (a.neg != b.neg) (a.m*2^lG a b p 3/b.m) (a.e-lG a b p 3-b.e) (decide (a.m*2^lG a b p 3%b.m≠0)) p up=oC a b p up /\
 j9 (a.neg != b.neg) (a.m*2^lG a b p 3/b.m) (a.e-lG a b p 3-b.e) (decide (a.m*2^lG a b p 3%b.m≠0)) p up=pZ a b p up:=by
 obtain⟨d,hd⟩:∃ d,lG a b p 3=lG a b p 2+d:=⟨lG a b p 3-lG a b p 2,by unfold lG;omega⟩
 have hb:=LH a0 b0 p 2 aE;unfold oC pZ;rw[bu a0,bu a0,hd];generalize lG a b p 2=k at *
 have hB:0<b.m:= aC ;have hP:=bJ (n:=d) (aE:0<2);have e1:a.m*2^(k+d)/b.m/2^d=a.m*2^k/b.m:=by
  rw[dL,bH,<-bN,Nat.mul_div_mul_right _ _ hP]
 have e2:(decide (a.m*2^(k+d)%b.m≠0)||decide (a.m*2^(k+d)/b.m%2^d≠0))=decide (a.m*2^k%b.m≠0):=by
  have h1:a.m*2^(k+d)%(b.m*2^d)=a.m*2^k%b.m*2^d:=by rw[bH,<-bN,Nat.mul_mod_mul_right]
  have h2:a.m*2^(k+d)%(b.m*2^d)=a.m*2^(k+d)%b.m+b.m*(a.m*2^(k+d)/b.m%2^d):=Nat.mod_mul;rw[h1]at h2;rw[fc];simp only[eZ,cL];constructor
  .intro h h0;rw[h0,c9]at h2;rcases h with h|h
   .omega
   .have:=gn hB (eE h);omega
  .intro h;apply ck;intro hn;have n1:a.m*2^(k+d)%b.m=0:=by
    apply ck;intro h';exact hn (.inl h')
   have n2:a.m*2^(k+d)/b.m%2^d=0:=by
    apply ck;intro h';exact hn (.inr h')
   rw[n1,n2,dg]at h2;have:=gn (eE h) hP;omega
 have h:=Iz (N:=a.m*2^(k+d)/b.m) (E:=a.e-((k+d:Nat):Int)-b.e) (more:=decide (a.m*2^(k+d)%b.m≠0)) (d:=d) (p:=p) (a.neg != b.neg) up (by rw[e1];exact hb);rw[e1,e2,(aC:a.e-((k+d:Nat):Int)-b.e+(d:Int)=a.e-b.e-(k:Int))]at h;exact⟨h.1.symm,h.2.symm⟩
def lZ(x:Iv):Int:=if x.all then 0 else if 0<x.lo.jG then 1 else if x.hi.jG<0 then -1 else 0
def jz(x y:Iv)(p:Nat):Iv:=
 if x.all||y.all||decide (lZ y=0)then ix else pt (λa b up=>oC a b p up) (λa b up=>pZ a b p up) x y
def oZ(x y:Iv){p:Nat}(hp:1<=p)(iw:p<=4096):(jz x y p).iy:=by
 unfold jz;split
 .exact mc
 .refine So (λa b up=>?_) (λh1 h2=>?_)
  .unfold oC;split
   .exact sk
   .exact sN _ _ _ _ _ _ hp iw
  .unfold oC pZ at *
   split
   .exact CL _
   .rename_i h;rw[bu h]at h1 h2;exact Rs _ _ _ _ _ h1 h2
def mw(d:Dy):Dy:=⟨false,d.m,d.e⟩
def y4{d:Dy}(h:d.iy):(mw d).iy:=by
 refine⟨?_,h.range⟩;rcases h.canon with⟨h1,_,h3⟩|h1
 .exact .inl ⟨h1,rfl,h3⟩
 .exact .inr h1
def Zk(d:Dy)(k:Int):(mw d).num k=(d.kA k:Int):=by unfold Dy.num mw Dy.kA;simp
def ng(x:Iv):Dy:=jg (mw x.lo) (mw x.hi)
def ph(x:Iv):Dy:=if lZ x=0 then iS else jk (mw x.lo) (mw x.hi)
def kf(x:Iv):Iv:=if x.all then ix else⟨ph x,ng x,false⟩
def jF(d:Dy):Iv:=⟨d,d,false⟩
def qV{d:Dy}(h:d.iy):(jF d).iy:=.inr ⟨rfl,h,h,CL d⟩
def JD{x:Iv}(h1:x.lo.iy)(h2:x.hi.iy):(ng x).iy:=qI (y4 h1) (y4 h2)
def H9{x:Iv}(h:x.iy):(kf x).iy:=by
 unfold kf;rcases h with⟨h,_⟩|⟨h,h1,h2,_⟩
 .rw [h];exact mc
 .rw [h];have v1:=y4 h1;have v2:=y4 h2;refine .inr ⟨rfl,?_,JD h1 h2,?_⟩
  .show (ph x).iy;unfold ph;split
   .exact sk
   .exact rJ v1 v2
  .show jE (ph x) (ng x)<=0;unfold ph;split
   .refine le_trans (b:=mw x.lo) ?_ (CT _ _);rw[s8 (a:=iS) (b:=mw x.lo) (k:=x.lo.e) (.inl rfl) (.inr (cM _)),wK rfl,Zk];omega
   .exact le_trans (Gv _ _) (CT _ _)
def jo(n:Int):Dy:=kH n 0
def jI(n:Int):Iv:=jF (jo n)
def aiP(r:List Iv)(p:Nat):Option Dy:=
 r.foldl (λs x=>s.bind λs=>if x.all then none else if jP (iG s (ng x)) p true≠0 then none else some (iM (iG s (ng x)) p true)) (some iS)
def agZ(m:List (List Iv))(p:Nat):Option Dy:=
 m.foldl (λs r=>s.bind λs=>(aiP r p).map λn=>if 0<jE n s then n else s) (some iS)
def Wk(u:Iv)(p:Nat):Nat->Iv
 | 0=>jI 1
 |j+1=>iV (Wk u p j) (jz u (jI (j+1:Nat)) p) p
def mI(m:List (List Iv))(h:Iv)(k p:Nat):Option Iv:=
 (agZ m p).bind λn=>
  let u:=iV (kf h) (jF n) p
  if u.all||decide (0<=jE u.hi (jo (k+2:Nat)))then none
  else
   let e:=jz (Wk u p (k+1)) (rm (jI 1) (jz u (jI (k+2:Nat)) p) p) p
   if e.all then none else some ⟨iK e.hi,e.hi,false⟩
end Go.Proofs.YtgdahmmlddfimaaGreatDoor.Fp
namespace Go.Proofs.YtgdahmmlddfimaaGreatDoor
open Go.RowKit Fp Pu
def iQ(x:Iv):List E:=[bP x.lo.neg,iu (im x.lo.m),iP x.lo.e,bP x.hi.neg,iu (im x.hi.m),iP x.hi.e,bP x.all]
def iz(x:Iv):E:=.agg (iQ x)
def iq(l:List Iv):E:=.sl true l.length 7 λi j=>(iQ (l.getD i ix)).getD j .any
def lv(m:List (List Iv)):E:=.sl true m.length 1 λi _=>iq (m.getD i [])
def Bl(x y:Iv):Bool:=y.all||(!x.all&&(decide (jE y.lo x.lo<=0)&&decide (jE x.hi y.hi<=0)))
def GF:E.le (.v (.slice none 0 0)) (iu (im 0)):=by
 have:iu (im 0) = .sl false 0 1 λi _=>.v (.int .u32 (((im 0).getD i 0:Nat):Int)):=by unfold iu;rw[px];rfl
 rw[this];exact .nil _ _ _
def KM:E.le (.agg [bP false,.v (.slice none 0 0),iP 0,bP false,.v (.slice none 0 0),iP 0,bP true]) (iz ix):=
 .agg (.cons (.refl _) (.cons GF (.cons (.refl _) (.cons (.refl _) (.cons GF (.cons (.refl _) (.cons (.refl _) .nil)))))))
structure RD where
 neg:Bool
 L:List Nat
 e:Int
structure RI where
 lo:RD
 hi:RD
 all:Bool
def xI(d:RD):List E:=[bP d.neg,iu d.L,iP d.e]
def tl(d:RD):E:=.agg (xI d)
def Aj(x:RI):List E:=[bP x.lo.neg,iu x.lo.L,iP x.lo.e,bP x.hi.neg,iu x.hi.L,iP x.hi.e,bP x.all]
def xJ(x:RI):E:=.agg (Aj x)
def EK:RD:=⟨false,[],0⟩
def lg:RI:=⟨EK,EK,true⟩
def jd(l:List RI):E:=.sl true l.length 7 λi j=>(Aj (l.getD i lg)).getD j .any
structure RD.jB(d:RD):Prop where
 ok:iY d.L
 lo:-9223372036854775808<=d.e
 hi:d.e<=9223372036854775807
structure RI.jB(x:RI):Prop where
 lo:x.lo.jB
 hi:x.hi.jB
def Xb:EK.jB:=⟨iY.nil,aE,aE⟩
def EJ:lg.jB:=⟨Xb,Xb⟩
def RD.dy(d:RD):Dy:=⟨d.neg,val d.L,d.e⟩
def RD.Ok(d:RD):Prop:=pB d.neg d.L d.e
def RD.Zero(d:RD):Prop:=d.neg=false/\d.L=[]/\d.e=0
def RI.iv(x:RI):Iv:=⟨x.lo.dy,x.hi.dy,x.all⟩
def RI.Ok(x:RI):Prop:=(x.all=true/\x.lo.Zero/\x.hi.Zero)\/(x.all=false/\x.lo.Ok/\x.hi.Ok/\jE x.lo.dy x.hi.dy<=0)
def Fp.Dy.raw(d:Dy):RD:=⟨d.neg,im d.m,d.e⟩
def Fp.Iv.raw(x:Iv):RI:=⟨x.lo.raw,x.hi.raw,x.all⟩
def RD.Ok.valid{d:RD}(h:d.Ok):d.dy.iy:=h.2.2
def RD.Ok.eq{d:RD}(h:d.Ok)(g:d.jB):d.dy.raw=d:=by
 obtain⟨n,L,e⟩:=d;show RD.mk n (im (val L)) e=_;rw[<-pB.IJ h g.ok]
def RD.Zero.eq{d:RD}(h:d.Zero):d.dy=iS/\d.dy.raw=d:=by
 obtain⟨n,L,e⟩:=d;obtain⟨rfl,rfl,rfl⟩:=h;refine⟨rfl,?_⟩;show RD.mk false (im 0) 0=_;rw[px]
def RI.Ok.valid{x:RI}(h:x.Ok):x.iv.iy:=by
 rcases h with⟨h1,h2,h3⟩|⟨h1,h2,h3,h4⟩
 .exact .inl ⟨h1,h2.eq.1,h3.eq.1⟩
 .exact .inr ⟨h1,h2.valid,h3.valid,h4⟩
def RI.Ok.eq{x:RI}(h:x.Ok)(g:x.jB):x.iv.raw=x:=by
 obtain⟨lo,hi,a⟩:=x;rcases h with⟨h1,h2,h3⟩|⟨h1,h2,h3,h4⟩
 .show RI.mk lo.dy.raw hi.dy.raw a=_;rw[h2.eq.2,h3.eq.2]
 .show RI.mk lo.dy.raw hi.dy.raw a=_;rw[h2.eq g.lo,h3.eq g.hi]
def LI(d:Dy):tl d.raw=iA d:=rfl
def ND(x:Iv):xJ x.raw=iz x:=rfl
def Fp.Iv.iy.kr{x:Iv}(h:x.iy):x.lo.iy/\x.hi.iy:=by
 rcases h with⟨_,h2,h3⟩|⟨_,h2,h3,_⟩
 .rw [h2,h3];exact⟨sk,sk⟩
 .exact ⟨h2,h3⟩
def alO:ix.raw=lg:=by
 show RI.mk iS.raw iS.raw true=RI.mk EK EK true;have:iS.raw=EK:=by show RD.mk false (im 0) 0=_;rw[px];rfl
 rw[this]
def C3(l:List Iv):List RI:=l.map Iv.raw
def adm(l:List Iv)(i:Nat):(C3 l).getD i lg=(l.getD i ix).raw:=by
 unfold C3;rw[bC,bC,cG];cases l[i]? with
 |none=>exact alO.symm
 |some x=>rfl
def UA(l:List Iv):jd (C3 l)=iq l:=by
 unfold jd iq;rw[show(C3 l).length=l.length by simp[C3]];congr 1;funext i j;rw[adm];rfl
def PY(m:List (List RI)):Prop:=∀ r,r ∈ m->∀ x,x ∈ r->x.jB
def PY.at{m:List (List RI)}(h:PY m)(i j:Nat):((m.getD i []).getD j lg).jB:=by
 by_cases hi:i<m.length
 .rw [bC (l:=m),bG hi];show(m[i].getD j lg).jB;by_cases hj:j<m[i].length
  .rw [bC,bG hj];exact h _ (cO hi) _ (cO hj)
  .rw [bC,cE aC];exact EJ
 .rw [bC (l:=m),cE aC];exact EJ
def AR(d:RD)(g:d.jB)(b:Bool)(hb:b=true↔d.Ok):ik 91 [tl d] (bP b):=by
 refine⟨call91,λw B vs hK hB hr=>?_⟩;obtain⟨v1,vs,rfl,h1,hr⟩:=hr.nE;obtain rfl:=hr.r6;obtain⟨us,rfl,q⟩:=iO.Dt (show iO _ _ w (.agg _) v1 from h1);obtain⟨u1,us,rfl,k1,q⟩:=q.nE;obtain⟨u2,us,rfl,k2,q⟩:=q.nE;obtain⟨u3,us,rfl,k3,q⟩:=q.nE;obtain rfl:=q.r6;obtain rfl:=iO.kG k1;obtain rfl:=iO.kG k3;obtain⟨A,c,rfl,hs⟩:=Am g.ok k2;exact(B9 d.neg A c d.L d.e w b hs g.lo g.hi hb).mono λe w' h=>rv B w e w' hB h
def yK{a b:Nat}(h:a=b):((a:Int) != (b:Int))=false:=by simp[h]
def agD{a b:Nat}(h:a=b):((a:Int)==b)=true:=by simp[h]
open Classical in
noncomputable def Af(x:RI):Bool:=decide x.Ok
def Bw{x:RI}:Af x=true↔x.Ok:=by unfold Af;simp
open Classical in
open Go.ChangeShapes Go.WideShapes Go.ChangeAt
abbrev mA:Nat->Prop:=λ_=>False
def abo{W:World}{a:Addr}{v:Value}(h:W.cell? a=some v):a.spot=none:=by
 obtain⟨b,o,s⟩:=a;rcases s with _|q
 .rfl
 .exfalso;unfold World.cell? at h;split at h<;>simp at h
def OX{W:World}{a:Addr}{len cap sz:Nat}{nl:Bool}(el:Nat->Nat->E)(hl:len<=cap)(hm:cap<=maxLen)(mQ:0<sz)
 (h1:∀ i j,i<len->j<sz->(el i j).one=true/\(nl=true->(el i j).mS=true)/\(el i j).nr 2=true)
 (hx:∀ i,i<len->∃ cs,W.cells? 0 (a.add (i*sz)) sz=some cs/\∀ j,j<sz->∃ v,cs[j]? = some v/\iO mA mA W (el i j) v):
 iO mA mA W (.sl nl len sz el) (.slice (some a) len cap):=by
 have Tu:cap<=9223372036854775807:=by simpa[maxLen]using hm
 have cellAt:∀ i j,i<len->j<sz->∃ v,W.cell? (a.add (i*sz+j))=some v/\iO mA mA W (el i j) v:=by
  intro i j hi hj;obtain⟨cs,h2,h3⟩:=hx i hi;obtain⟨v,h4,h5⟩:=h3 j hj;refine⟨v,?_,h5⟩;rw[<-Deep.add_add,(World.cells?_some h2).2.2 j hj,h4]
 by_cases h0:len=0
 .subst h0;exact .sl nl 0 sz el _ cap (λ_ _=>.bool false) aC Tu (λh=>by cases h) (λi j hi=>absurd hi aC) (λi j hi=>absurd hi aC) (λi j hi=>absurd hi aC) (λi j hi=>absurd hi aC)
 .obtain ⟨b,o,s⟩:=a;have hs:s=none:=by
   obtain⟨v,h2,_⟩:=cellAt 0 0 aC mQ;rw[c9,cD,show(⟨b,o,s⟩:Addr).add 0=⟨b,o,s⟩from rfl]at h2;exact abo h2
  subst hs;have cell2:∀ i j,∃ v:Value,i<len->j<sz->W.cell? ⟨b,o+(i*sz+j),none⟩=some v/\iO mA mA W (el i j) v:=by
   intro i j;by_cases hi:i<len
   .by_cases hj:j<sz
    .obtain ⟨v,h2,h3⟩:=cellAt i j hi hj;rw[B2]at h2;exact⟨v,λ_ _=>⟨h2,h3⟩⟩
    .exact ⟨.bool false,λ_ h=>absurd h hj⟩
   .exact ⟨.bool false,λh=>absurd h hi⟩
  let f:Nat->Nat->Value:=λi j=>Classical.choose (cell2 i j)
  have hf:∀ i j,i<len->j<sz->W.cell? ⟨b,o+(i*sz+j),none⟩=some (f i j)/\iO mA mA W (el i j) (f i j):=λi j=>dh (cell2 i j)
  refine .sl nl len sz el _ cap f hl Tu (λh=>by cases h) (λi j hi hj=>?_) (λi j hi hj=>(h1 i j hi hj).2.2) (λi j hi hj=>?_) (λi j hi hj=>(hf i j hi hj).2)
  .exact ⟨(hf i j hi hj).2.one (h1 i j hi hj).1,λq=>(hf i j hi hj).2.mS ((h1 i j hi hj).2.1 q)⟩
  .exact ⟨b,o,rfl,id,block_lt_of_cell (hf i j hi hj).1,(hf i j hi hj).1⟩
def Zb(W:World)(d:RD)(cs:List Value):Prop:=d.jB/\cs.length=3/\∀ j,j<3->∃ v,cs[j]? = some v/\iO mA mA W ((xI d).getD j .any) v
def KT(W:World)(x:RI)(cs:List Value):Prop:=x.jB/\cs.length=7/\∀ j,j<7->∃ v,cs[j]? = some v/\iO mA mA W ((Aj x).getD j .any) v
section
variable {H:Type} {enc:TypeId×Value->H} {W:World} {fuel:Nat} {cs:List Value} {x:DataW H×List MemPlace}
def JR(h:DataW.trod enc prog W 0 (λ_=>true) true fuel 31 cs=some x)(iJ:∀ p ∈ x.2,p.block<W.heap.size):∃ d,Zb W d cs:=by
 obtain⟨s,A,L,cap,e,rfl,sy,h1,h2⟩:=ahd h iJ;refine⟨⟨s,L,e⟩,⟨sy.ok,h1,h2⟩,rfl,λj hj=>?_⟩;rcases j with _|_|_|j
 .exact ⟨_,rfl,.v _⟩
 .exact ⟨_,rfl,BO (w:=W) (λ_ h=>h.elim) (.refl _) sy⟩
 .exact ⟨_,rfl,.v _⟩
 .omega
def ahh(h:DataW.trod enc prog W 0 (λ_=>true) true fuel 39 cs=some x)(iJ:∀ p ∈ x.2,p.block<W.heap.size):∃ d,KT W d cs:=by
 obtain⟨xs,n,rfl,rfl,hl,lQ,hf⟩:=DataW.trod_struct underlying39 h;have hC:prog.cellsOf 39=7:= aF ;have hD:prog.cellsOf 31=3:= aF ;have hB:prog.cellsOf 4=1:= aF ;rw[hC]at hl;obtain⟨c0,c1,c2,c3,c4,c5,c6,rfl⟩:=af0 hl;have h0:=hf 0 _ rfl;have h1:=hf 1 _ rfl;have h2:=hf 2 _ rfl;simp only[fj,fk,ek]at h0 h1 h2;simp only[hD,hB,fm,fo,eO,fp]at h0 h1 h2;rw[bG (by rw[lQ];decide)]at h0 h1 h2;obtain⟨lo,g1,_,k1⟩:=JR h0 (λp hp=>iJ p (dH.2 ⟨_,cO _,hp⟩));obtain⟨hi,g2,_,k2⟩:=JR h1 (λp hp=>iJ p (dH.2 ⟨_,cO _,hp⟩));obtain⟨al,e2,_⟩:=DataW.trod_bool underlying4 h2;simp at e2;subst e2;refine⟨⟨lo,hi,al⟩,⟨g1,g2⟩,rfl,λj hj=>?_⟩;rcases j with _|_|_|_|_|_|_|j
 .exact k1 0 aE 
 .exact k1 1 aE 
 .exact k1 2 aE 
 .exact k2 0 aE 
 .exact k2 1 aE 
 .exact k2 2 aE 
 .exact ⟨_,rfl,.v _⟩
 .omega
def aiC(x:RI)(j:Nat)(hj:j<7):((Aj x).getD j .any).one=true/\(((Aj x).getD j .any).mS=true)/\((Aj x).getD j .any).nr 2=true:=by
 rcases j with _|_|_|_|_|_|_|j
 all_goals first|exact⟨rfl,rfl,rfl⟩|omega
def JS(h:DataW.trod enc prog W 0 (λ_=>true) true fuel 26 cs=some x)(iJ:∀ p ∈ x.2,p.block<W.heap.size):
  ∃ l v,cs=[v]/\(∀ y,y ∈ l->y.jB)/\iO mA mA W (jd l) v:=by
 have hC:prog.cellsOf 39=7:= aF ;rcases Deep.open_slice underlying26 h with⟨rfl,_⟩|⟨a,len,cap,m,n,D,Pl,rfl,hb,hl,hm,sV,rfl,hx⟩
 .exact ⟨[],_,rfl,(λy hy=>by cases hy),.sl true 0 7 _ none 0 (λ_ _=>.bool false) (bD _) aE (λ_=>rfl) (λi j hi=>absurd hi (bF i)) (λi j hi=>absurd hi (bF i)) (λi j hi=>absurd hi (bF i)) (λi j hi=>absurd hi (bF i))⟩
 .simp only[bL]at sV;subst sV;have ex:∀ i,∃ y:RI,i<len->∃ cs',W.cells? 0 (a.add (i*7)) 7=some cs'/\KT W y cs':=by
   intro i;by_cases hi:i<len
   .obtain ⟨cs',h1,h2⟩:=hx i aC ;rw[hC]at h1;obtain⟨y,hy⟩:=ahh h2 (λp hp=>iJ p (List.mem_append_right _ (dH.2 ⟨i,cC.2 aC,hp⟩)));exact⟨y,λ_=>⟨cs',h1,hy⟩⟩
   .exact ⟨lg,λh=>absurd h hi⟩
  let X:Nat->RI:=λi=>Classical.choose (ex i)
  have hX:∀ i,i<len->∃ cs',W.cells? 0 (a.add (i*7)) 7=some cs'/\KT W (X i) cs':=λi=>dh (ex i)
  have hlen:((List.range len).map X).length=len:= aH ;refine⟨(List.range len).map X,_,rfl,?_,?_⟩
  .intro y hy;obtain⟨i,hi,rfl⟩:=dG.1 hy;obtain⟨cs',_,h2⟩:=hX i (cC.1 hi);exact h2.1
  .have Cl:∀ i,i<len->((List.range len).map X).getD i lg=X i:=by
    intro i hi;rw[bC,cG,amJ hi];rfl
   have:=OX (W:=W) (a:=a) (len:=len) (cap:=m) (nl:=true) (λi j=>(Aj (((List.range len).map X).getD i lg)).getD j .any) hl hm (show 0<7 by decide)
    (λi j _ hj=>let⟨h1,h2,h3⟩:=aiC (((List.range len).map X).getD i lg) j hj;⟨h1,λ_=>h2,h3⟩)
    (λi hi=>by
     obtain⟨cs',h1,h2,_,h3⟩:=hX i hi;exact⟨cs',h1,λj hj=>by rw[Cl i hi];exact h3 j hj⟩)
   unfold jd;rw[hlen];exact this
end
def adV{P:Program}{c:OpenClaim}(h:P.funcs.any Func.goes=false)(hs:c.start = .entering):false=c.goesBy P:=by
 have h1:∀ g:Nat,(P.funcs[g]?).any Func.goes=false:=by
  intro g;cases hg:P.funcs[g]? with
  |none=>rfl
  |some fn=>
   rw[Option.any_some];rw[Array.any_eq_false]at h;obtain⟨hl,he⟩:=du.1 hg;have:=h g hl;rw[he]at this;simpa using this
 have h2:∀ f,P.goes f=false:=by
  intro f;unfold Program.goes;rw[h,Bool.and_false,eW,df];intro g _;rw[h1 g];decide
 unfold OpenClaim.goesBy Program.goesAt Program.goesFrom;rw[hs];cases P.funcNamed c.func with
 |none=>rfl
 |some f=>simp[h2 f]
def ada:Tryz.pinned.checked.prog.funcs.any Func.goes=false:= aF 
def Uj(k:IntKind)(l:List Int):E:=.sl true l.length 1 λi _=>.v (.int k (l.getD i 0))
def YP{k:IntKind}{z:Int}(h:(Lit.int k z).wf=true):kB k z:=by
 cases k<;>(simp[Lit.wf,IntKind.min,IntKind.max,IntKind.signed,IntKind.bits]at h;simp only[kB];omega)
def ahe{H:Type}{enc:TypeId×Value->H}{W:World}{fuel:Nat}{cs:List Value}{x:DataW H×List MemPlace}{t e:TypeId}{k:IntKind}(hk:∀ z,qh (.int k z)=false)(ht:prog.underlying t=some (.slice e))(he:prog.underlying e=some (.int k))(hC:prog.cellsOf e=1)
  (h:DataW.trod enc prog W 0 (λ_=>true) true fuel t cs=some x):∃ l v,cs=[v]/\(∀ z,z ∈ l->kB k z)/\iO mA mA W (Uj k l) v:=by
 rcases Deep.open_slice ht h with⟨rfl,_⟩|⟨a,len,cap,m,n,D,Pl,rfl,hb,hl,hm,sV,rfl,hx⟩
 .exact ⟨[],_,rfl,(λy hy=>by cases hy),.sl true 0 1 _ none 0 (λ_ _=>.bool false) (bD _) aE (λ_=>rfl) (λi j hi=>absurd hi (bF i)) (λi j hi=>absurd hi (bF i)) (λi j hi=>absurd hi (bF i)) (λi j hi=>absurd hi (bF i))⟩
 .simp only[bL]at sV;subst sV;have ex:∀ i,∃ z:Int,i<len->W.cells? 0 (a.add (i*1)) 1=some [.int k z]/\kB k z:=by
   intro i;by_cases hi:i<len
   .obtain ⟨cs',h1,h2⟩:=hx i aC ;rw[hC]at h1;obtain⟨z,hz,_,hw⟩:=DataW.trod_int he h2;subst hz;exact⟨z,λ_=>⟨h1,YP hw⟩⟩
   .exact ⟨0,λh=>absurd h hi⟩
  let X:Nat->Int:=λi=>Classical.choose (ex i)
  have hX:∀ i,i<len->W.cells? 0 (a.add (i*1)) 1=some [.int k (X i)]/\kB k (X i):=λi=>dh (ex i)
  have hlen:((List.range len).map X).length=len:= aH ;refine⟨(List.range len).map X,_,rfl,?_,?_⟩
  .intro r hr;obtain⟨i,hi,rfl⟩:=dG.1 hr;exact(hX i (cC.1 hi)).2
  .have Cl:∀ i,i<len->((List.range len).map X).getD i 0=X i:=by
    intro i hi;rw[bC,cG,amJ hi];rfl
   have:=OX (W:=W) (a:=a) (len:=len) (cap:=m) (nl:=true) (λi _=>.v (.int k (((List.range len).map X).getD i 0))) hl hm (show 0<1 by decide)
    (λi j _ hj=>⟨rfl,λ_=>by show(!qh _)=true;rw[hk];rfl,rfl⟩)
    (λi hi=>by
     refine⟨[.int k (X i)],(hX i hi).1,λj hj=>?_⟩;obtain rfl:j=0:= aC ;exact⟨_,rfl,by rw[Cl i hi];exact .v _⟩)
   unfold Uj;rw[hlen];exact this
end Go.Proofs.YtgdahmmlddfimaaGreatDoor
