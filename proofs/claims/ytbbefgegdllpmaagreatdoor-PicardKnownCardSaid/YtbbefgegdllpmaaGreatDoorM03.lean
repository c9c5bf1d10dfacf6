/- Lemmas that the last file uses. -/
import Derived.Test.YtbbefgegdllpmaaGreatDoorM02
import Derived.Scope
set_option linter.unusedSimpArgs false
set_option linter.unusedVariables false
set_option linter.defProp false
set_option maxHeartbeats 4000000
open Go.Proofs.Tryz
namespace Go.Proofs.YtbbefgegdllpmaaGreatDoor.Pu
open Go.RowKit
inductive R where
 |nil
 |jx
 |a (p:Prop) (r:R)
 |w (p:Prop) (r1:p->R) (r2:¬p->R)
def R.ok:R->Prop
 | .nil=>True
 | .jx=>False
 | .a p r=>p/\r.ok
 | .w p r1 r2=>(∀ h:p,(r1 h).ok)/\(∀ h:¬p,(r2 h).ok)
inductive Tr(P:Program)(K:World->Prop) where
 |nil
 |c {f:FuncId} {args:List E} {jQ:E} (h:PC P K f args jQ) (t:Tr P K)
 |cf {f:FuncId} {args:List E} {jQ:E} (h:CY P K f args jQ) (t:Tr P K)
 |cn {f:FuncId} {args:List E} {nl:Bool} {T:TypeId} {n sz:Nat} {el:Nat->Nat->E} (h:xI P K f args nl T n sz el) (t:Tr P K)
 |g {op:BinOp} {ty:TypeId} {x y:E} {v:Value} (h:mi P op ty x y v) (t:Tr P K)
 |gi {op:BinOp} {ty:TypeId} {x y:E} {v:Value} (h:mi P op ty x y v) (t:Tr P K)
 |m {l:List<|Int×FuncId×List FuncId} {z:Int} {e:E} (h:D5 l z=some e) (t:Tr P K)
 |o (d:Nat) {p q:PV} (h:PV.le p q) (t:Tr P K)
 |bo (t:Tr P K)
 |a {p:Prop} (h:p) (t:Tr P K)
 |w (p:Prop) (t1:p->Tr P K) (t2:¬p->Tr P K)
 |s {c:Code} {σ τ:PS} {e:Ex} (h:Sp P K c σ λe' τ'=>e'=e/\τ'=τ) (l t:Tr P K)
 |j (c:Nat) (τ:PS) (tj t:Tr P K)
 |v (d:Nat) {p q:PV} (h:PV.le p q) (t:Tr P K)
 |b (d:Nat) {p q:Bx} (h:Bx.le p q) (t:Tr P K)
 |z (id:Nat) (t:Tr P K)
 |y (s id:Nat) (nl:Bool) (T:TypeId) (sz:Nat) (el:Nat->Nat->E) (t:Tr P K)
 |e (t:Tr P K)
 |k (ts bs:List Nat) (t:Tr P K)
 |u (n:Nat) (t:Tr P K)
 |x (h:False)
 |r {p q:E} (h:E.le p q)
 |rb {p q:Bx} (h:Bx.le p q)
section
variable {P:Program} {K:World->Prop}
def Gl:List (Nat×PV)->Tr P K->(Tr P K->R)->R
 | [],t,k=>k t
 | (d,q)::l,t,k=>match t with
  | .o d' (p:=p) (q:=q') _ t'=>if Nat.beq d' d then .a (PV.le p q') (Gl l t' k)else .a (PV.le q q) (Gl l t k)
  |t=>.a (PV.le q q)<|Gl l t k
def EL:List (Nat×Bx)->Tr P K->R->R
 | [],_,r=>r
 | (d,q)::l,t,r=>match t with
  | .b d' (p:=p) (q:=q') _ t'=>if Nat.beq d' d then .a (Bx.le p q') (EL l t' r)else .a (Bx.le q q) (EL l t r)
  |t=>.a (Bx.le q q)<|EL l t r
def Gi(σ:PS)(t:Tr P K)(r:R):R:=Gl σ.t t λt=>EL σ.b t r
def Tr.ex:Tr P K->(Tr P K->R)->R
 | .nil,fin=>fin .nil
 | .e t,fin=>fin t
 | @Tr.c _ _ f args jQ _ t,fin=>.a (PC P K f args jQ)<|t.ex fin
 | @Tr.cf _ _ f args jQ _ t,fin=>.a (CY P K f args jQ)<|t.ex fin
 | @Tr.cn _ _ f args nl T n sz el _ t,fin=>.a (xI P K f args nl T n sz el)<|t.ex fin
 | @Tr.g _ _ op₁ ty₁ xe₁ ye₁ ve₁ _ t,fin=>.a (mi P op₁ ty₁ xe₁ ye₁ ve₁)<|t.ex fin
 | @Tr.gi _ _ op₁ ty₁ xe₁ ye₁ ve₁ _ t,fin=>.a (mi P op₁ ty₁ xe₁ ye₁ ve₁)<|t.ex fin
 | @Tr.m _ _ l₁ z₁ e₁ _ t,fin=>.a (D5 l₁ z₁=some e₁)<|t.ex fin
 | .o _ (p:=p) (q:=q) _ t,fin=>.a (PV.le p q)<|t.ex fin
 | .bo t,fin=>.a True<|t.ex fin
 | .a (p:=p) _ t,fin=>.a p<|t.ex fin
 | .w p t1 t2,fin=>.w p (λh=>(t1 h).ex fin) λh=>(t2 h).ex fin
 | @Tr.s _ _ c₁ σ τ e₁ _ l t,fin=>Gi σ l<|.a (Sp P K c₁ σ λe' τ'=>e'=e₁/\τ'=τ)<|t.ex fin
 | .j _ τ tj t,fin=>.a (tj.ex λt=>Gi τ t .nil).ok<|t.ex fin
 | .v _ (p:=p) (q:=q) _ t,fin=>.a (PV.le p q)<|t.ex fin
 | .b _ _ t,fin=>t.ex fin
 | .z _ t,fin=>t.ex fin
 | .y _ _ _ _ _ _ t,fin=>t.ex fin
 | .k _ _ t,fin=>t.ex fin
 | .u _ t,fin=>t.ex fin
 | .x _,fin=>.a False .nil
 | .r (p:=p) (q:=q) _,fin=>.a (E.le p q) .nil
 | .rb (p:=p) (q:=q) _,fin=>.a (Bx.le p q) .nil
def ar2{l:List<|Nat×PV}{t:Tr P K}{k:Tr P K->R}(hk:∀ t,(k t).ok):(Gl l t k).ok:=by
 induction l generalizing t with
 |nil=>exact hk t
 |cons x l ih=>
  obtain⟨d,q⟩:=x;cases t with
  |o d' h t'=>
   simp only[Gl];split
   .exact ⟨h,ih⟩
   .exact ⟨PV.le.refl q,ih⟩
  |_=>exact⟨PV.le.refl q,ih⟩
def aeY{l:List<|Nat×Bx}{t:Tr P K}{r:R}(hr:r.ok):(EL l t r).ok:=by
 induction l generalizing t with
 |nil=>exact hr
 |cons x l ih=>
  obtain⟨d,q⟩:=x;cases t with
  |b d' h t'=>
   simp only[EL];split
   .exact ⟨h,ih⟩
   .exact ⟨Bx.le.refl q,ih⟩
  |_=>exact⟨Bx.le.refl q,ih⟩
def S5{σ:PS}{t:Tr P K}{r:R}(hr:r.ok):(Gi σ t r).ok:=ar2 λ_=>aeY hr
def Tr.PG{fin:Tr P K->R}(hf:∀ t,(fin t).ok)(t:Tr P K):(t.ex fin).ok:=by
 induction t generalizing fin with
 |nil=>exact hf _
 |e t=>exact hf _
 |c h t ih=>exact⟨h,ih hf⟩
 |cf h t ih=>exact⟨h,ih hf⟩
 |cn h t ih=>exact⟨h,ih hf⟩
 |g h t ih=>exact⟨h,ih hf⟩
 |gi h t ih=>exact⟨h,ih hf⟩
 |m h t ih=>exact⟨h,ih hf⟩
 |o d h t ih=>exact⟨h,ih hf⟩
 |bo t ih=>exact⟨trivial,ih hf⟩
 |a h t ih=>exact⟨h,ih hf⟩
 |w p t1 t2 IM IN=>exact⟨λh=>IM h hf,λh=>IN h hf⟩
 |s h l t ihl Rh=>exact S5 ⟨h,Rh hf⟩
 |j c τ tj t ihj Rh=>exact⟨ihj λ_=>S5 trivial,Rh hf⟩
 |v d h t ih=>exact⟨h,ih hf⟩
 |b d h t ih=>exact ih hf
 |z id t ih=>exact ih hf
 |y s id nl T sz el t ih=>exact ih hf
 |k ts bs t ih=>exact ih hf
 |u n t ih=>exact ih hf
 |x h=>exact h.elim
 |r h=>exact⟨h,trivial⟩
 |rb h=>exact⟨h,trivial⟩
def Tf(υ:PS):List (Nat×PV)->R->R
 | [],r=>r
 | (d,q)::l,r=>.a (PV.le (υ.get d) q)<|Tf υ l r
def KB(υ:PS):List (Nat×Bx)->R->R
 | [],r=>r
 | (d,q)::l,r=>match υ.bo d with
  |some b=>.a (Bx.le b q)<|KB υ l r
  |none=>.jx
def Nl(υ σ:PS)(r:R):R:=if Nat.beq υ.n σ.n&&(σ.b.all (λx=>x.2.nl)||(σ.nl==υ.nl))&&JI σ then Tf υ σ.t (KB υ σ.b r)else .jx
def Tr.tail:Tr P K->Tr P K
 | .c _ t=>t
 | .cf _ t=>t
 | .cn _ t=>t
 | .g _ t=>t
 | .gi _ t=>t
 | .m _ t=>t
 | .bo t=>t
 | .a _ t=>t
 |_=>.nil
def RZ:List Prop->Tr P K->(Tr P K->R)->R
 | [],t,k=>k t
 |p::l,t,k=>.a p<|RZ l t.tail k
def V9(d:Option Tmp)(t:Tr P K):qY:=match d with
 |some d=>match t with
  | @Tr.c _ _ _ _ jQ _ _=>{ cl:=[(d,jQ)] }
  | @Tr.cf _ _ _ _ jQ _ _=>{ cl:=[(d,jQ)] }
  | @Tr.g _ _ _ _ _ _ ve₁ _ _=>{ cl:=[(d,.v ve₁)] }
  | @Tr.gi _ _ _ _ _ _ ve₁ _ _=>{ gi:=[(d,ve₁)] }
  | @Tr.m _ _ _ _ e₁ _ _=>{ cl:=[(d,e₁)] }
  | @Tr.cn _ _ _ _ nl T n sz el _ _=>{ nw:=[(d,.row nl T n sz el)] }
  | .bo _=>{ nw:=[(d,.cells 0 [])] }
  |_=>{}
 |none=>{}
def Jt:Tr P K->(Tr P K->R)->R
 | .w p t1 t2,k=>.w p (λh=>Jt (t1 h) k) λh=>Jt (t2 h) k
 | .x _,_=>.a False .nil
 |t,k=>k t
def Sa(o:Oper)(u:lq)(t:Tr P K)(k:lq->Tr P K->R):R:=match o.dst,t with
 |some d,.o d' (q:=q) _ t'=>if Nat.beq d' d then .a (PV.le u.r q) (k { u with r:=q,jX:=PV.le u.r q::u.jX } t')else k u t
 |_,t=>k u t
def R7(T:List TI)(iN:Array Oper)(σ:PS)(o:Oper)(t:Tr P K)(k:lq->Tr P K->R):R:=
 if yb σ o.dst then match BB iN σ o with
  |some false=>k { r:=.e<|.v<|.tuple #[],rd:=(looks iN o).map σ.get } t
  |some true=>Jt t λt=>match jT P K T (V9 o.dst t) σ o with
   |some u=>RZ u.jX t λt=>Jt t λt=>Sa o u t λu t=>k { u with rd:=(looks iN o).map σ.get } t
   |none=>.jx
  |none=>.jx
 else .jx
def R9(T:List TI)(iN:Array Oper)(k:List (Oper×lq)->PS->Tr P K->R):List Oper->List (Oper×lq)->PS->Tr P K->R
 | [],us,σ,t=>k us σ t
 |o::l,us,σ,t=>R7 T iN σ o t λu t'=>R9 T iN k l ((o,u)::us) (σ.app o.dst u) t'
def tf(c:Bool):Tr P K->PS->(Tr P K->PS->R)->R
 | .w p t1 t2,σ,k=>.w p (λh=>tf c (t1 h) σ k) λh=>tf c (t2 h) σ k
 | .x _,_,_=>.a False .nil
 | .v d (q:=q) _ t,σ,k=>match q with
  | .e x=>if yb σ (some d)then .a (PV.le (σ.get d)<|.e x) (tf c t (σ.put (some d)<|.e x) k)else .jx
  |_=>.jx
 | .k ts bs t,σ,k=>if c then k (.k ts bs t) σ else if JI (σ.cut ts bs)then tf c t (σ.cut ts bs) k else .jx
 | .z id t,σ,k=>if c then k (.z id t) σ else match σ.bo id with
  |some b=>match b.as with
   |some e=>tf c t (σ.zP id e) k
   |none=>.jx
  |none=>.jx
 | .y s id nl T sz el t,σ,k=>if c then k (.y s id nl T sz el t) σ else match σ.bo id,σ.get s with
  |none,.e (.v<|.slice none 0 0)=>if !σ.nl||nl then tf c t (σ.EJ s id<|.row nl T 0 sz el) k else .jx
  |_,_=>.jx
 |t,σ,k=>k t σ
def Nh(c:Code)(σ:PS)(t:Tr P K)(k:Ex->PS->Tr P K->R):R:=match t with
 | @Tr.s _ _ _ σ' τ e _ _ t=>Nl σ σ'<|.a (Sp P K c σ' λe' τ'=>e'=e/\τ'=τ)<|k e τ t
 |_=>.jx
def Ex.qP:Ex->Ex->Bool
 | .normal,.normal=>true
 | .ret,.ret=>true
 | .exit a,.exit b=>Nat.beq a b
 |_,_=>false
def Hq(e:Ex)(τ:PS)(e':Ex)(υ:PS)(_:Tr P K):R:=if Ex.qP e' e then Nl υ τ .nil else .jx
def ahy:Operand->Nat
 | .tmp t=>2*t
 |_=>1
def jn(c:Nat)(g:PS->Tr P K->(Ex->PS->Tr P K->R)->R)(σ:PS)(t:Tr P K)(k:Ex->PS->Tr P K->R):R:=match t with
 | .j c' τ tj t'=>if Nat.beq c' c then .a (g σ tj<|Hq .normal τ).ok (k .normal τ t')else g σ t k
 |t=>g σ t k
def Tr.isS:Tr P K->Bool
 | .s ..=>true
 |_=>false
def adP(g f:PS->Tr P K->(Ex->PS->Tr P K->R)->R):Nat->PS->Tr P K->(Ex->PS->Tr P K->R)->R
 | 0,_,_,_=>.jx
 |n+1,σ,t,k=>tf false t σ λt σ=>if t.isS then g σ t k else f σ t λe τ t=>match e with
  | .normal=>adP g f n τ t k
  |e=>k e τ t
def xP(T:List TI):Code->PS->Tr P K->(Ex->PS->Tr P K->R)->R
 | .skip,σ,t,k=>k .normal σ t
 | .region _ iN d,σ,t,k=>R9 T iN (λus τ t=>if !d||FW iN 0 us.reverse then k .normal τ t else .jx) iN.toList [] σ t
 | .seq a b,σ,t,k=>xP T a σ t λe τ t=>match e with
  | .normal=>xP T b τ t k
  |e=>k e τ t
 | .cond c a b,σ,t,k=>tf true t σ λt σ=>jn (ahy c) (λσ t k=>tf true t σ λt σ=>match σ.op c with
  | .e (.v<|.bool true)=>xP T a σ t k
  | .e (.v<|.bool false)=>xP T b σ t k
  |_=>.jx) σ t k
 | .block id b,σ,t,k=>tf true t σ λt σ=>jn (2*id+1) (λσ t k=>xP T b σ t λe τ t=>match e with
  | .exit i=>if Nat.beq i id then k .normal τ t else k (.exit i) τ t
  |e=>k e τ t) σ t k
 | .exit id,σ,t,k=>tf false t σ λt σ=>k (.exit id) σ t
 | .ret,σ,t,k=>tf false t σ λt σ=>k .ret σ t
 | .loop b,σ,t,k=>tf false t σ λt σ=>match t with
  | .u n t=>adP (Nh<|.loop b) (xP T b) n σ t k
  |t=>Nh (.loop b) σ t k
 | .label _,σ,t,k=>k .normal σ t
 | .scope b,σ,t,k=>xP T b σ t k
 |_,_,_,_=>.jx
def abe{t:Tr P K}{k:Tr P K->R}(h:(Jt t k).ok):∃ t',(k t').ok:=by
 induction t with
 |w p t1 t2 IM IN=>
  by_cases hp:p
  .exact IM hp<|h.1 hp
  .exact IN hp<|h.2 hp
 |x hf=>exact hf.elim
 |_=>exact⟨_,h⟩
def anO{l:List Prop}{t:Tr P K}{k:Tr P K->R}(h:(RZ l t k).ok):(∀ q,q ∈ l->q)/\∃ t',(k t').ok:=by
 induction l generalizing t with
 |nil=>exact⟨λq hq=>by simp at hq,t,h⟩
 |cons p l ih=>
  obtain⟨h1,h2⟩:=ih h.2;refine⟨λq hq=>?_,h2⟩;rcases dM.1 hq with hq|hq
  .subst hq;exact h.1
  .exact h1 q hq
variable {T:List TI} {iN:Array Oper} {σ:PS} {o:Oper}
def an1{O:qY}{u:lq}{t:Tr P K}{k:lq->Tr P K->R}(hO:O.ov=[])(hu:jT P K T O σ o=some u)(ho:∀ q,q ∈ u.jX->q)(h:(Sa o u t k).ok):
 ∃ O' u' t',wX P K T O' σ o=some u'/\(∀ q,q ∈ u'.jX->q)/\(k u' t').ok:=by
 have plain:(k u t).ok->∃ O' u' t',wX P K T O' σ o=some u'/\(∀ q,q ∈ u'.jX->q)/\(k u' t').ok:=by
  intro h;refine⟨O,u,t,?_,ho,h⟩;unfold wX;rw[hu,hO];cases o.dst<;>rfl
 unfold Sa at h;split at h
 .rename_i d d' p q hpq t' hd;split at h
  .obtain ⟨h1,h2⟩:=h;refine⟨⟨O.cl,[(d,q)],O.nw,O.gi⟩,_,t',?_,λx hx=>?_,h2⟩
   .unfold wX;have he:jT P K T ⟨O.cl,[(d,q)],O.nw,O.gi⟩ σ o=jT P K T O σ o:=by cases O;rfl
    rw[he,hu,hd];simp[look]
   .rcases dM.1 hx with hx|hx
    .subst hx;exact h1
    .exact ho x hx
  .exact plain h
 .exact plain h
def anT{t:Tr P K}{k:lq->Tr P K->R}(h:(R7 T iN σ o t k).ok):∃ u t',(∃ O,sJ P K T O iN σ o=some u)/\(∀ q,q ∈ u.jX->q)/\(k u t').ok:=by
 unfold R7 at h;split at h
 .rename_i hi;split at h
  .rename_i hw;refine⟨_,t,⟨{},?_⟩,λq hq=>by simp at hq,h⟩;unfold sJ;rw[bA hi,hw]
  .rename_i hw;obtain⟨t1,h1⟩:=abe h;split at h1
   .rename_i u hu;obtain⟨ho,t2,h2⟩:=anO h1;obtain⟨t2,h2⟩:=abe h2;obtain⟨O',u',t3,xm,DG,h3⟩:=an1 (by
     unfold V9;cases o.dst with
     |none=>rfl
     |some d=>cases t1<;>rfl) hu ho h2
    refine⟨{ u' with rd:=(looks iN o).map σ.get },t3,⟨O',?_⟩,DG,h3⟩;unfold sJ;rw[bA hi,hw,xm]
   .exact h1.elim
  .exact h.elim
 .exact h.elim
def anX{k:List (Oper×lq)->PS->Tr P K->R}{l:List Oper}{us:List<|Oper×lq}{t:Tr P K}(h:(R9 T iN k l us σ t).ok):
 ∃ vs τ t',yy P K T iN vs σ τ/\vs.map (·.1)=l/\(∀ x,x ∈ vs->∀ q,q ∈ x.2.jX->q)/\(k (vs.reverse++us) τ t').ok:=by
 induction l generalizing us σ t with
 |nil=>exact⟨[],σ,t,tD.refl σ,rfl,λx hx=>by simp at hx,h⟩
 |cons o l ih=>
  obtain⟨u,t1,h1,h2,h3⟩:=anT h;obtain⟨vs,τ,t',k1,k2,k3,k4⟩:=ih h3;refine⟨(o,u)::vs,τ,t',⟨h1,k1⟩,by simp[k2],λx hx=>?_,by simpa using k4⟩;rcases dM.1 hx with hx|hx
  .subst hx;exact h2
  .exact k3 x hx
def PS.le.set{σ:PS}{d:Nat}{x:E}(hd:yb σ (some d)=true)(h:PV.le (σ.get d)<|.e x):PS.le σ<|σ.put (some d)<|.e x:=λw0 B a w L _ r=>by
 have Fk:d<σ.n:=by simpa[yb,gE]using hd
 refine⟨L,r.hd,by rw[PS.RS];exact r.hs,λt=>?_,λid b hb=>r.hb id b hb,r.hv,r.hn,r.hw,r.hi,r.he,r.hl⟩;rw[PS.PU];by_cases e:d=t
 .subst e;rw[bA rfl];exact h _ _ _ _ _<|r.ht d
 .rw [bw e];exact r.ht t
def Ed{c:Bool}{t:Tr P K}{σ:PS}{k:Tr P K->PS->R}(h:(tf c t σ k).ok):∃ t' τ,PS.le σ τ/\(k t' τ).ok:=by
 induction t generalizing σ with
 |w p t1 t2 IM IN=>
  by_cases hp:p
  .exact IM hp<|h.1 hp
  .exact IN hp<|h.2 hp
 |k ts bs t ih=>
  simp only[tf]at h;split at h
  .exact ⟨_,σ,PS.le.refl σ,h⟩
  split at h
  .rename_i hr;obtain⟨t',τ,h1,h2⟩:=ih h;exact⟨t',τ,(PS.le.cut ts bs hr).trans h1,h2⟩
  .exact h.elim
 |v d h0 t ih=>
  simp only[tf]at h;split at h
  .rename_i x;split at h
   .rename_i hd;obtain⟨t',τ,h1,h2⟩:=ih h.2;exact⟨t',τ,(PS.le.set hd h.1).trans h1,h2⟩
   .exact h.elim
  .exact h.elim
 |z id t ih=>
  simp only[tf]at h;split at h
  .exact ⟨_,σ,PS.le.refl σ,h⟩
  split at h
  .rename_i b hb;split at h
   .rename_i e he;obtain⟨t',τ,h1,h2⟩:=ih h;exact⟨t',τ,(PS.le.freeze id hb he).trans h1,h2⟩
   .exact h.elim
  .exact h.elim
 |y s id nl T sz el t ih=>
  simp only[tf]at h;split at h
  .exact ⟨_,σ,PS.le.refl σ,h⟩
  split at h
  .rename_i hb hg;split at h
   .rename_i hn;obtain⟨t',τ,h1,h2⟩:=ih h;exact⟨t',τ,(PS.le.aey s id hb hg (λe=>by rw[e]at hn;simpa using hn)).trans h1,h2⟩
   .exact h.elim
  .exact h.elim
 |x hf=>exact hf.elim
 |_=>exact⟨_,σ,PS.le.refl σ,h⟩
def ar3{υ:PS}{l:List<|Nat×PV}{r:R}(h:(Tf υ l r).ok):zz υ l/\r.ok:=by
 induction l with
 |nil=>exact⟨trivial,h⟩
 |cons x l ih=>obtain⟨d,q⟩:=x;exact⟨⟨h.1,(ih h.2).1⟩,(ih h.2).2⟩
def afe{υ:PS}{l:List<|Nat×Bx}{r:R}(h:(KB υ l r).ok):yv υ l/\r.ok:=by
 induction l with
 |nil=>exact⟨trivial,h⟩
 |cons x l ih=>
  obtain⟨d,q⟩:=x;simp only[KB]at h;split at h
  .rename_i b hb;exact⟨⟨⟨b,hb,h.1⟩,(ih h.2).1⟩,(ih h.2).2⟩
  .exact h.elim
def adg{υ σ:PS}{r:R}(h:(Nl υ σ r).ok):PS.le υ σ/\r.ok:=by
 unfold Nl at h;split at h
 .rename_i hc;simp only[cr,fj,atp]at hc;obtain⟨⟨h1,h2⟩,h3⟩:=hc;obtain⟨h4,h5⟩:=ar3 h;obtain⟨h6,h7⟩:=afe h5;refine⟨?_,h7⟩;rcases h2 with h2|h2
  .exact PS.le.amf (mg.1 h1) h2 h3 h4 h6
  .exact PS.le.pL (mg.1 h1) h2 h3 h4 h6
 .exact h.elim
def aqZ(hT:ni P T){w0:World}{B:Nat->Prop}{a:Act}{w:World}{L:Lk}(g:Gd P K w0 B){us:List<|Oper×lq}{τ:PS}{Q:Exit->Act->World->Prop}(h:yy P K T iN us σ τ)(ho:∀ x,x ∈ us->∀ q,q ∈ x.2.jX->q)
 (r:jC w0 B σ a w L) (hq:∀ a' w' L',jC w0 B τ a' w' L'->Q .normal a' w'):wpList P iN Q (us.map (·.1)) a w:=by
 induction us generalizing σ a w L with
 |nil=>exact hq a w L<|r.qP h
 |cons x us ih=>
  obtain⟨⟨O,h1⟩,h2⟩:=h;rw[ff];unfold wpList;rcases Xw hT g r h1 (ho x aP) (wpList P iN Q (us.map (·.1))) Q (λa' w' L' hr=>ih h2 (λy hy=>ho y<|by simp[hy]) hr)with⟨p1,p2⟩|⟨p1,p2⟩
  .rw [bA p1];exact .inl p2
  .rw [bw<|by rw[p1];simp];exact p2
def aqs(hT:ni P T)(hm:P.follows .mixedOrders=true){w0:World}{B:Nat->Prop}{a:Act}{w:World}{L:Lk}(g:Gd P K w0 B){id:Nat}{draw:Bool}{us:List<|Oper×lq}{τ:PS}{Q:Exit->Act->World->Prop}
 (h:yy P K T iN us σ τ) (hl:us.map (·.1)=iN.toList) (ho:∀ x,x ∈ us->∀ q,q ∈ x.2.jX->q) (hp:(!draw||FW iN 0 us)=true) (r:jC w0 B σ a w L)
 (hq:∀ a' w' L',jC w0 B τ a' w' L'->Q .normal a' w'):(Code.region id iN draw).wp P Q a w:=by
 cases draw with
 |false=>exact wp_region_list<|by rw[<-hl];exact aqZ hT g h ho r hq
 |true=>
  obtain⟨R,r1,r2,r3⟩:=amx hl (by simpa using hp);refine wp_region_any hm (aeB hT g hq iN.size (Array.replicate iN.size false) R σ a w.drew L r2 aP r3 (λx hx=>ho x.2 ?_) (by rw[r1];exact h) r.drew);rw[<-r1];exact e9.2 ⟨x,hx,rfl⟩
def ac9{c:Code}{t:Tr P K}{k:Ex->PS->Tr P K->R}(h:(Nh c σ t k).ok):Sp P K c σ (λe τ=>∃ t',(k e τ t').ok):=by
 unfold Nh at h;split at h
 .obtain ⟨h1,h2,h3⟩:=adg h;exact Sp.pre h1 (h2.mono λe τ ⟨q1,q2⟩=>by subst q1 q2;exact⟨_,h3⟩)
 .exact h.elim
def Ex.aq0{a b:Ex}(h:Ex.qP a b=true):a=b:=by
 cases a<;>cases b<;>first|rfl|(cases h;done)|exact congrArg Ex.exit<|mg.1 h
def Xm{e e':Ex}{τ υ:PS}{t:Tr P K}(h:(Hq e τ e' υ t).ok):e'=e/\PS.le υ τ:=by
 unfold Hq at h;split at h
 .rename_i he;exact⟨Ex.aq0 he,(adg h).1⟩
 .exact h.elim
def ZM{c:Code}{cb:Nat}{g:PS->Tr P K->(Ex->PS->Tr P K->R)->R}(hg:∀ σ t k,(g σ t k).ok->Sp P K c σ (λe τ=>∃ t',(k e τ t').ok)){σ:PS}{t:Tr P K}{k:Ex->PS->Tr P K->R}(h:(jn cb g σ t k).ok):
 Sp P K c σ (λe τ=>∃ t',(k e τ t').ok):=by
 unfold jn at h;split at h
 .rename_i c' τ tj t;split at h
  .refine (hg _ _ _ h.1).post λe υ ⟨t',ht⟩=>?_
   obtain⟨he,hl⟩:=Xm ht;exact⟨τ,hl,t,by rw[he];exact h.2⟩
  .exact hg _ _ _ h
 .exact hg _ _ _ h
def uJ(P:Program)(K:World->Prop)(b:Code)(σ:PS)(Q:Ex->PS->Prop):Prop:=
 ∀ (w0:World) (B:Nat->Prop) (a:Act) (w:World) (L:Lk),Gd P K w0 B->jC w0 B σ a w L->∀ bf k cs,
  ∃ e a' w',(∃ ex τ L',e=Ex.to ex/\Q ex τ/\jC w0 B τ a' w' L')/\Arrives P (lone (bf.at a<|.code b :: .inLoop b::k) cs w) bf k cs e a' w'
def uJ.loop{b:Code}{σ:PS}{Q:Ex->PS->Prop}(h:uJ P K b σ Q):Sp P K (.loop b) σ Q:=by
 intro w0 B a w L g r bf k cs;obtain⟨e,a',w',hq,uT⟩:=h w0 B a w L g r bf k cs;exact⟨e,a',w',hq,.of_steps (.one step_loop) uT⟩
def uJ.pre{b:Code}{σ τ:PS}{Q:Ex->PS->Prop}(h:PS.le σ τ)(k:uJ P K b τ Q):uJ P K b σ Q:=λw0 B a w L g r=>
 let⟨L',r'⟩:=h w0 B a w L (λb hb=>(g.hB b hb).1) r;k w0 B a w L' g r'
def uJ.step{b:Code}{σ:PS}{Q:Ex->PS->Prop}(h:Sp P K b σ λe τ=>(e = .normal/\uJ P K b τ Q)\/(e ≠ .normal/\Q e τ)):uJ P K b σ Q:=by
 intro w0 B a w L g r bf k cs;obtain⟨e,a₁,w₁,⟨ex,υ,L2,rfl,hq,pn⟩,uT⟩:=h w0 B a w L g r bf (.inLoop b::k) cs;rcases hq with⟨rfl,hs⟩|⟨jM,hq⟩
 .obtain ⟨e₂,a₂,w₂,Q3,Qp⟩:=hs w0 B a₁ w₁ L2 g pn bf k cs;exact⟨e₂,a₂,w₂,Q3,.of_steps (Steps.trans uT<|.one step_inLoop) Qp⟩
 .cases ex with
  |normal=>exact absurd rfl jM
  |exit i=>exact⟨_,a₁,w₁,⟨.exit i,υ,L2,rfl,hq,pn⟩,.pass (x:=.inLoop b) rfl (λ_ _=>.inl<|by simp[Ex.to]) uT⟩
  |ret=>exact⟨_,a₁,w₁,⟨.ret,υ,L2,rfl,hq,pn⟩,.pass (x:=.inLoop b) rfl (λ_ _=>.inl<|by simp[Ex.to]) uT⟩
def PH{id : Nat} : ∀ {k k' : List Item},exitTo id k=some k'->k'.length<=k.length
  | [],_,h => by simp[exitTo]at h
  |x::k,k',h => by
    cases x
    all_goals
      simp only[exitTo]at h
      first
        | (have := PH h;simp only[dR];omega)
        | (split at h
           . cases h;simp
           . have := PH h;simp only[dR];omega)
def Steps.OD{m m1 m':Machine}(hs:step P m = .next m1)(jM:m≠m')(h:Steps P m m'):Steps P m1 m':=by
 obtain⟨n,hn⟩:=h;cases n with
 |zero=>simp only[runN,Stepped.next.injEq]at hn;exact absurd hn jM
 |succ n=>exact⟨n,by simpa only[runN,hs]using hn⟩
def uJ.anP{b:Code}{σ:PS}{Q:Ex->PS->Prop}(h:Sp P K (.loop b) σ Q):uJ P K b σ Q:=by
 intro w0 B a w L g r bf k cs;obtain⟨e,a',w',⟨ex,τ,L',rfl,hq,hr⟩,uT⟩:=h w0 B a w L g r bf k cs;have todo:∀ (f g:Frame) (w w':World),lone f cs w=lone g cs w'->f.todo=g.todo:=λf g w w' e=>by
  have e1:=congrArg Machine.gs e;simp only[lone,Array.mk.injEq,List.cons.injEq,gl]at e1;injection e1 with e2;rw[e2]
 have ne:∀ (a₁:Act) (k₁:List Item) (w₁:World),k₁.length<=k.length->lone (bf.at a<|.code (.loop b)::k) cs w≠lone (bf.at a₁ k₁) cs w₁:=λa₁ k₁ w₁ hk e=>by
  have:=congrArg List.length<|todo _ _ _ _ e;simp[Frame.at]at this;omega
 refine⟨_,a',w',⟨ex,τ,L',rfl,hq,hr⟩,?_⟩;cases ex with
 |normal=>exact Steps.OD step_loop (ne _ _ _<|bB _) uT
 |exit i=>exact λk' hk=>Steps.OD step_loop (ne _ _ _<|PH hk)<|uT k' hk
 |ret=>
  obtain⟨td,hs⟩:=uT;refine⟨td,Steps.OD step_loop (λe=>?_) hs⟩;have e1:=congrArg Machine.gs e;simp only[lone,Array.mk.injEq,List.cons.injEq,gl]at e1;injection e1 with e2;have e3:=congrArg Frame.mode e2;simp[Frame.at]at e3
section
variable(hT:ni P T)(hm:P.follows .mixedOrders=true){c:Code}
def Pw{σ:PS}{t:Tr P K}{k:Ex->PS->Tr P K->R}(h:(xP T c σ t k).ok):Sp P K c σ (λe τ=>∃ t',(k e τ t').ok):=by
 induction c generalizing σ t k with
 |skip=>exact λw0 B a w L g r=>wp_skip ⟨.normal,_,L,rfl,⟨t,h⟩,r⟩
 |region id iN d=>
  obtain⟨vs,τ,t',h1,h2,h3,h4⟩:=anX h;split at h4
  .rename_i hp;simp only[List.append_nil,List.reverse_reverse]at hp;exact λw0 B a w L g r=>aqs hT hm g h1 h2 h3 hp r λa' w' L' hr=>⟨.normal,τ,L',rfl,⟨t',h4⟩,hr⟩
  .exact h4.elim
 |seq x y Ri Rj=>
  intro w0 B a w L g r;refine wp_seq<|Code.wp_mono ?_ (Ri h w0 B a w L g r);rintro ex a' w' ⟨e1,τ1,L',rfl,⟨t',ht⟩,hr⟩;cases e1 with
  |normal=>exact Rj ht w0 B a' w' L' g hr
  |exit i=>exact⟨.exit i,τ1,L',rfl,⟨t',ht⟩,hr⟩
  |ret=>exact⟨.ret,τ1,L',rfl,⟨t',ht⟩,hr⟩
 |cond c x y Ri Rj=>
  obtain⟨t1,τ,hle,h1⟩:=Ed h;refine Sp.pre hle<|ZM (λσ t k h=>?_) h1;obtain⟨t1,τ,hle,h1⟩:=Ed h;refine Sp.pre hle ?_;split at h1
  .rename_i hc;intro w0 B a w L g r;have hv:=r.op c;rw[hc]at hv;exact wp_cond_true (jd.lh hv)<|Ri h1 w0 B a w L g r
  .rename_i hc;intro w0 B a w L g r;have hv:=r.op c;rw[hc]at hv;exact wp_cond_false (jd.lh hv)<|Rj h1 w0 B a w L g r
  .exact h1.elim
 |block id b ih=>
  obtain⟨t1,τ,hle,h1⟩:=Ed h;refine Sp.pre hle<|ZM (λσ t k h=>?_) h1;intro w0 B a w L g r;refine wp_block<|Code.wp_mono ?_ (ih h w0 B a w L g r);rintro ex a' w' ⟨e1,τ1,L',rfl,⟨t',ht⟩,hr⟩;cases e1 with
  |normal=>exact⟨.normal,_,L',rfl,⟨t',ht⟩,hr⟩
  |ret=>exact⟨.ret,_,L',rfl,⟨t',ht⟩,hr⟩
  |exit i=>
   simp only at ht;show Exit.inBlock id _ (.exit i) a' w';split at ht
   .rename_i hi;have hi:=mg.1 hi;subst hi;simp only[Exit.inBlock,bW];exact⟨.normal,_,L',rfl,⟨t',ht⟩,hr⟩
   .rename_i hi;have hi:i≠id:=λe=>hi (mg.2 e)
    simp only[Exit.inBlock,hi,bN];exact⟨.exit i,_,L',rfl,⟨t',ht⟩,hr⟩
 |label l=>exact λw0 B a w L g r=>wp_label ⟨.normal,_,L,rfl,⟨t,h⟩,r⟩
 |scope b ih=>
  intro w0 B a w L g r;refine wp_scope_straight<|Code.wp_mono ?_ (ih h w0 B a w L g r);rintro ex a' w' ⟨e1,τ1,L',rfl,⟨t',ht⟩,hr⟩;cases e1 with
  |normal=>exact⟨.normal,τ1,L',rfl,⟨t',ht⟩,hr⟩
  |ret=>exact⟨.ret,τ1,L',rfl,⟨t',ht⟩,hr⟩
  |exit i=>exact⟨.exit i,τ1,L',rfl,⟨t',ht⟩,hr⟩
 |exit id=>
  obtain⟨t1,τ,hle,h1⟩:=Ed h;exact Sp.pre hle λw0 B a w L g r=>wp_exit ⟨.exit id,_,L,rfl,⟨t1,h1⟩,r⟩
 |ret=>
  obtain⟨t1,τ,hle,h1⟩:=Ed h;exact Sp.pre hle λw0 B a w L g r=>wp_ret ⟨.ret,_,L,rfl,⟨t1,h1⟩,r⟩
 |loop b ih=>
  obtain⟨t1,τ,hle,h1⟩:=Ed h;refine Sp.pre hle ?_;split at h1
  .rename_i n t;clear hle h;refine uJ.loop ?_
   induction n generalizing τ t with
   |zero=>exact h1.elim
   |succ n ihn=>
    obtain⟨t2,τ2,hle,h1⟩:=Ed h1;split at h1
    .exact uJ.pre hle<|uJ.anP<|ac9 h1
    refine uJ.pre hle<|uJ.step<|(ih h1).mono λe υ ⟨t',ht⟩=>?_;cases e with
    |normal=>exact .inl ⟨rfl,ihn _ _ ht⟩
    |exit i=>exact .inr ⟨aP,t',ht⟩
    |ret=>exact .inr ⟨aP,t',ht⟩
  .exact ac9 h1
 |_=>exact h.elim
def Sp.tr{σ τ:PS}{e:Ex}(t:Tr P K)(h:xP T c σ t (Hq e τ)=t.ex λt=>Gi τ t .nil):
 Sp P K c σ (λe' τ'=>e'=e/\τ'=τ):=by
 have hk:=Tr.PG (fin:=λt=>Gi τ t .nil) (λt=>S5 trivial) t;rw[<-h]at hk;refine(Pw hT hm hk).post λe' υ ⟨t',ht⟩=>?_
 obtain⟨he,hl⟩:=Xm ht;exact⟨τ,hl,he,rfl⟩
end
def XH(T:List TI)(fn:Func)(jQ:E)(e:Ex)(τ:PS)(_:Tr P K):R:=match e with
 | .exit _=>.jx
 |_=>match MX T fn τ with
  |some r=>.a (E.le r jQ) .nil
  |none=>.jx
def JE(T:List TI)(fn:Func)(nl:Bool)(args:List E)(jQ:E)(t:Tr P K):R:=match fn.body with
 |some c=>if Nat.ble args.length fn.ntmps then xP T c (Cd fn nl args) t (XH T fn jQ)else .jx
 |none=>.jx
def PC.Th(hT:ni P T)(hm:P.follows .mixedOrders=true)(hp:∀ w w',K w->Below w.heap.size w w'->K w'){f:FuncId}{fn:Func}{args:List E}{jQ:E}(yP:∀ (vs:Array Value) (w:World),(callFunc f vs).run P w = .ok (.enter f vs) w)
 (hf:P.funcs[f]? = some fn) (nl:Bool) (t:Tr P K) (h:JE T fn nl args jQ t=t.ex λ_=>.a (E.le jQ jQ) .nil):PC P K f args jQ:=by
 have hk:=Tr.PG (fin:=λ_=>.a (E.le jQ jQ) .nil) (λt=>⟨E.le.refl jQ,trivial⟩) t;rw[<-h]at hk;unfold JE at hk;split at hk
 .rename_i c hb;split at hk
  .rename_i hn;refine PC.RP hT hm hp yP hf hb (dx hn) nl<|(Pw hT hm hk).mono λe τ ⟨t',ht⟩=>?_;unfold XH at ht;split at ht
   .exact ht.elim
   .rename_i jM;split at ht
    .rename_i r hr;refine⟨?_,r,hr,ht.1⟩;cases e with
     |normal=>exact .inr rfl
     |ret=>exact .inl rfl
     |exit i=>exact absurd rfl (jM i)
    .exact ht.elim
  .exact hk.elim
 .exact hk.elim
def XG(fn:Func)(b:Bx)(e:Ex)(τ:PS)(_:Tr P K):R:=match e with
 | .exit _=>.jx
 |_=>match fn.results.toList with
  | [.tmp t]=>match τ.get t with
   | .own id=>match τ.bo id with
    |some c=>.a (Bx.le c b) .nil
    |none=>.jx
   |_=>.jx
  |_=>.jx
def SC(T:List TI)(fn:Func)(args:List E)(b:Bx)(t:Tr P K):R:=match fn.body with
 |some c=>if Nat.ble args.length fn.ntmps then xP T c (Cd fn true args) t (XG fn b)else .jx
 |none=>.jx
def xI.Th(hT:ni P T)(hm:P.follows .mixedOrders=true)(hp:∀ w w',K w->Below w.heap.size w w'->K w'){f:FuncId}{fn:Func}{args:List E}{nl:Bool}{T0:TypeId}{n sz:Nat}{el:Nat->Nat->E}(yP:∀ (vs:Array Value) (w:World),(callFunc f vs).run P w = .ok (.enter f vs) w)
 (hf:P.funcs[f]? = some fn) (t:Tr P K) (h:SC T fn args (.row nl T0 n sz el) t=t.ex λ_=>.a (Bx.le (.row nl T0 n sz el)<|.row nl T0 n sz el) .nil):xI P K f args nl T0 n sz el:=by
 have hk:=Tr.PG (fin:=λ_=>.a (Bx.le (.row nl T0 n sz el)<|.row nl T0 n sz el) .nil) (λt=>⟨Bx.le.refl _,trivial⟩) t;rw[<-h]at hk;unfold SC at hk;split at hk
 .rename_i c hb;split at hk
  .rename_i hn;refine xI.RP hT hm hp yP hf hb (dx hn) true<|(Pw hT hm hk).mono λe τ ⟨t',ht⟩=>?_;unfold XG at ht;split at ht
   .exact ht.elim
   .rename_i jM;split at ht
    .rename_i t0 hr;split at ht
     .rename_i id hg;split at ht
      .rename_i c' hc;refine⟨?_,t0,id,c',hr,hg,hc,λbs br L w hk=>ht.1.2 _ _ _ _ _ hk⟩;cases e with
       |normal=>exact .inr rfl
       |ret=>exact .inl rfl
       |exit i=>exact absurd rfl (jM i)
      .exact ht.elim
     .exact ht.elim
    .exact ht.elim
  .exact hk.elim
 .exact hk.elim
def Sp.kj{b:Code}{e:Ex}{τ:PS}(f:Nat->PS)(lo hi:Nat)(h0:lo<=hi)(go:∀ x,(lo<=x/\x<=hi)->x<hi->Sp P K b (f x) (λe' υ=>e' = .normal/\υ=f (x+1)))
 (out:(lo<=hi/\hi<=hi)->Sp P K b (f hi) (λe' υ=>e'=e/\υ=τ)) (he:e ≠ .normal):Sp P K (.loop b) (f lo) λe' υ=>e'=e/\υ=τ:=by
 refine Sp.fam f (λx=>lo<=x/\x<=hi) (λx=>hi-x) (λx hx=>?_) lo ⟨bB _,h0⟩<|PS.le.refl _;rcases Nat.lt_or_eq_of_le hx.2 with je|heq
 .exact Sp.ajt (x+1) (go x hx je) ⟨aI,aI⟩ aI<|PS.le.refl _
 .subst heq;exact Sp.aju (out hx) he<|PS.le.refl _
def iL(z:Int)(h:-9223372036854775808<=z/\z<=9223372036854775807:=by omega):Tr P K->Tr P K:=.a (p:=ny .i64 z) h
def nW(z:Int)(h:0<=z/\z<=18446744073709551615:=by omega):Tr P K->Tr P K:=.a (p:=ny .u64 z) h
def iX(z:Int)(n:Nat)(h:0<=z/\z<n:=by omega):Tr P K->Tr P K:=.a h
def tB(d:Nat){a b:Bool}(h:a=b):Tr P K->Tr P K:=.o d<|PV.le.bool h
def ah(d:Nat)(a:Bool)(h:a=true):Tr P K->Tr P K:=tB d h
def ai(d:Nat)(a:Bool)(h:a=false):Tr P K->Tr P K:=tB d h
def tT(d:Nat)(p:Prop)[Decidable p](h:p):Tr P K->Tr P K:=.o d<|PV.le.bool<|bC h
def tF(d:Nat)(p:Prop)[Decidable p](h:¬p):Tr P K->Tr P K:=.o d<|PV.le.bool<|bE h
def wV{b:Bool}(h:b=true):(!b)=false:=by rw[h];rfl
def wU{b:Bool}(h:b=false):(!b)=true:=by rw[h];rfl
def rQ(p q:E)(h:p=q):Tr P K:=.r<|E.le.jm h
def rR(q:E){p:E}(h:E.le p q):Tr P K:=.r h
def ae(l:List<|Tr P K->Tr P K)(t:Tr P K):Tr P K:=l.foldr (λf t=>f t) t
def af(l:List<|Tr P K->Tr P K):Tr P K:=ae l .nil
end
end Go.Proofs.YtbbefgegdllpmaaGreatDoor.Pu
namespace Go.Proofs.YtbbefgegdllpmaaGreatDoor
open Go.RowKit Fp Pu
def tr(nl:Bool){f:FuncId}{fn:Func}{args:List E}{jQ:E}(yP:∀ (vs:Array Value) (w:World),(callFunc f vs).run prog w = .ok (.enter f vs) w)
 (hf:prog.funcs[f]? = some fn) (t:Tr prog Tb) (h:JE TT fn nl args jQ t=t.ex λ_=>.a (E.le jQ jQ) .nil):iA f args jQ:=
 PC.Th Oj mixed UM yP hf nl t h
def ag(args:List E){f:FuncId}{ko:E}(h:iA f args ko):Tr prog Tb->Tr prog Tb:=.c h
def ak{f:FuncId}{fn:Func}{args:List E}{jQ:E}(yP:∀ (vs:Array Value) (w:World),(callFunc f vs).run prog w = .ok (.enter f vs) w)
 (hf:prog.funcs[f]? = some fn) (t:Tr prog Tb) (h:JE TT fn true args jQ t=t.ex λ_=>.a (E.le jQ jQ) .nil:=by kernel_rfl):iA f args jQ:=tr true yP hf t h
def an{f:FuncId}{fn:Func}{args:List E}{jQ:E}(yP:∀ (vs:Array Value) (w:World),(callFunc f vs).run prog w = .ok (.enter f vs) w)
 (hf:prog.funcs[f]? = some fn) (t:Tr prog Tb) (h:JE TT fn false args jQ t=t.ex λ_=>.a (E.le jQ jQ) .nil:=by kernel_rfl):iA f args jQ:=tr false yP hf t h
noncomputable def Lh(f:FuncId):Func:=(prog.funcs[f]?).getD default
noncomputable def FT(f:FuncId):Bool:=match prog.funcs[f]? with
 |some n=>!(n.name == "runtime.NumGoroutine")&&n.body.isSome
 |none=>false
section
variable{f:FuncId}(h:FT f=true)
def R2:prog.funcs[f]? = some (Lh f):=by
 unfold FT at h;unfold Lh;cases e:prog.funcs[f]? with
 |none=>rw[e]at h;cases h
 |some n=>rfl
def aa4(vs:Array Value)(w:World):(callFunc f vs).run prog w = .ok (.enter f vs) w:=by
 have e:=R2 h;unfold FT at h;rw[e]at h;simp at h;obtain⟨h1,h2⟩:=h;obtain⟨c,hc⟩:=gL.1 h2;simp[callFunc,e,h1,hc]
end
section
variable{f:FuncId}{args:List E}{jQ:E}(t:Tr prog Tb)
def iM(h:(FT f,JE TT (Lh f) true args jQ t)=(true,t.ex λ_=>.a (E.le jQ jQ) .nil):=by(kernel_rfl)):iA f args jQ:=
 tr true (aa4 (gq h).1) (R2 (gq h).1) t (gq h).2
def oY(h:(FT f,JE TT (Lh f) false args jQ t)=(true,t.ex λ_=>.a (E.le jQ jQ) .nil):=by(kernel_rfl)):iA f args jQ:=
 tr false (aa4 (gq h).1) (R2 (gq h).1) t (gq h).2
end
def jg{c:Code}{σ τ:PS}{e:Ex}(t:Tr prog Tb)(h:xP TT c σ t (Hq e τ)=t.ex λt=>Gi τ t .nil):
 Sp prog Tb c σ (λe' τ'=>e'=e/\τ'=τ):=Sp.tr Oj mixed t h
abbrev ki(k:Nat)(fn:Func)(σ:PS)(e:Ex)(τ:PS):Prop:=Sp prog Tb (.loop<|afI k fn) σ λe' τ'=>e'=e/\τ'=τ
end Go.Proofs.YtbbefgegdllpmaaGreatDoor
namespace Go.Proofs.YtbbefgegdllpmaaGreatDoor.Fp
def iV(n k:Nat):Nat:=n/4294967296^k%4294967296
def qB(n k:Nat):iV n k<4294967296:=bQ _ aK 
def Dh(k:Nat):iV 0 k=0:=by unfold iV;rw[fL]
def pw(k:Nat):0<4294967296^k:=bL aK 
def qg{L:List Nat}(h:jc L)(k:Nat):L.getD k 0=iV (val L) k:=by
 unfold iV;rw[<-JY h];by_cases hk:k<L.length
 .rw [fU hk,show val (L[k]::L.drop (k+1))=L[k]+4294967296*val (L.drop<|k+1)from rfl,eW,cw<|h.get hk];simp[bJ,hk]
 .rw [eX aI,bJ,dp aI];rfl
def mod_succ(n k:Nat):n%4294967296^(k+1)=n%4294967296^k+4294967296^k*iV n k:=by
 rw[bV,gP];rfl
def xO{n k:Nat}(h:n<4294967296^k){j:Nat}(hj:k<=j):iV n j=0:=by
 unfold iV;rw[cI<|cg h<|bZ aK hj]
def jj(n m:Nat):List Nat:=(List.range m).map<|iV n
def nH(n m:Nat):(jj n m).length=m:=by simp[jj]
def vN(n m:Nat):jc<|jj n m:=λx hx=>by
 obtain⟨k,_,rfl⟩:=e9.1 hx;exact qB n k
def vJ{n m k:Nat}(h:k<m:=by omega):(jj n m).getD k 0=iV n k:=by
 simp[jj,bJ,h]
def KW(m i:Nat):(jj 0 m).getD i 0=0:=by
 by_cases h:i<m
 .rw [vJ h,Dh]
 .rw [bJ,dp<|by rw[nH];omega];rfl
def ah1(n m:Nat):jj n (m+1)=jj n m++[iV n m]:=by simp[jj,List.range_succ]
def zt(n m:Nat):val (jj n m)=n%4294967296^m:=by
 induction m with
 |zero=>simp[jj,val];omega
 |succ m ih=>
  rw[ah1,xB,ih,nH,mod_succ];rfl
def asC{L M:List Nat}(hL:jc L)(hM:jc M)(hl:L.length=M.length)(hv:val L=val M):L=M:=by
 apply atq hl;intro i h1 h2;have e1:=qg hL i;have e2:=qg hM i;rw[hv,<-e2]at e1;simpa[bJ,h1,h2]using e1
def ah2{L:List Nat}(h:jc L):jj (val L) L.length=L:=
 asC (vN _ _) h (nH _ _) (by rw[zt,cw<|nd h])
def KX{L:List Nat}{n m:Nat}(h:jc L)(hl:L.length=m)(hv:val L=n):jj n m=L:=by subst hl hv;exact ah2 h
def Eu{n m:Nat}(h:n<4294967296^m):iI (jj n m)=iB n:=by
 rw[sY<|vN n m,zt,cw h]
def Pe(n:Nat):jj n (iB n).length=iB n:=KX (lO n) rfl (kE n)
def lK(a b k m:Nat):List Nat:=(List.range m).map λj=>if j<k then iV a j else iV b j
def xt(a b k m:Nat):(lK a b k m).length=m:=by simp[lK]
def am4{a b k m j:Nat}(h:j<m):(lK a b k m).getD j 0=if j<k then iV a j else iV b j:=by
 simp[lK,bJ,h]
def Jb{a b k m:Nat}(h:k<m:=by omega):(lK a b k m).getD k 0=iV b k:=by rw[am4 h,bw<|fN k]
def Jc(a b m:Nat):lK a b 0 m=jj b m:=by simp[lK,jj]
section
variable{a b k m:Nat}
def Mm(h:m<=k):lK a b k m=jj a m:=by
 unfold lK jj;exact gn λj hj=>bA<|cg (dr.1 hj) h
def Mn:(lK a b k m).set k (iV a k)=lK a b (k+1) m:=by
 apply atq
 .simp [lK]
 .intro j h1 h2;have hj:j<m:=by simpa[lK]using h2
  rw[atY];by_cases h:k=j
  .subst h;simp[lK]
  .rw [bw h];simp only[lK,atr,atZ];by_cases q:j<k
   .rw [bA q,bA aI]
   .rw [bw q,bw aI]
def am5:(lK a b (k+1) m).set k (iV b k)=lK a b k m:=by
 apply atq
 .simp [lK]
 .intro j h1 h2;have hj:j<m:=by simpa[lK]using h2
  rw[atY];by_cases h:k=j
  .subst h;simp[lK]
  .rw [bw h];simp only[lK,atr,atZ];by_cases q:j<k
   .rw [bA q,bA aI]
   .rw [bw q,bw aI]
end
def Pg(a k:Nat):a/4294967296^k=4294967296*(a/4294967296^(k+1))+iV a k:=by
 rw[bV,<-dc];unfold iV;omega
def ark{a d k:Nat}(hd:0<d)(ug:d<4294967296):(a/4294967296^(k+1)%d*4294967296+iV a k)/d=iV (a/d) k/\(a/4294967296^(k+1)%d*4294967296+iV a k)%d=a/4294967296^k%d:=by
 have e1:=Pg a k;have e2:=cN (a/4294967296^(k+1)) d;have e3:=bQ (a/4294967296^(k+1)) hd;have e4:=qB a k;have e5:a/4294967296^k=d*(4294967296*(a/4294967296^(k+1)/d))+(a/4294967296^(k+1)%d*4294967296+iV a k):=by
  rw[e1,dF];omega
 have e6:(a/4294967296^(k+1)%d*4294967296+iV a k)/d<4294967296:=by
  rw[cK hd];have:=cC 4294967296<|show a/4294967296^(k+1)%d+1<=d from e3;omega
 constructor
 .conv=>rhs;unfold iV
  rw[dc,bR d,<-dc,e5,ef hd,eD,cw e6]
 .rw [e5,eD]
def Xr{a b N:Nat}(ha:a<4294967296^N)(hb:b<4294967296^N)(h:∀ i,i<N->iV a i=iV b i):a=b:=by
 have e1:val (jj a N)=a:=by rw[zt,cw ha]
 have e2:val (jj b N)=b:=by rw[zt,cw hb]
 rw[<-e1,<-e2];congr 1;exact gn λj hj=>h j<|dr.1 hj
section
variable{a b N j:Nat}(ha:a<4294967296^N)(hb:b<4294967296^N)
def aia(h:∀ i,j<=i->iV a i=iV b i):a/4294967296^j=b/4294967296^j:=by
 have e:∀ (n i:Nat),iV (n/4294967296^j) i=iV n (j+i):=λn i=>by unfold iV;rw[dc,<-bG]
 refine Xr (N:=N) (dh (cM _ _) ha) (dh (cM _ _) hb) λi _=>?_
 rw[e,e];exact h _ aI 
def aaf(h:∀ i,j<i->iV a i=iV b i)(hd:iV a j<iV b j):a<b:=by
 have e:=aia (j:=j+1) ha hb λi hi=>h i hi
 have e1:=Pg a j;have e2:=Pg b j;have:a/4294967296^j<b/4294967296^j:= aI ;exact att λhle=>by
  have:=Nat.div_le_div_right (c:=4294967296^j) hle;omega
end
def VG{n k:Nat}(h:n<4294967296^(k+1))(hd:iV n k≠0):iE n=32*k+iE (iV n k):=by
 have e1:iV n k=n/4294967296^k:=by
  unfold iV;rw[cw];rw[cK<|pw k,bR 4294967296,<-bV];exact h
 have h1:=tu hd;have h2:=qL<|iV n k;have h3:=og hd;obtain⟨m,hm⟩:∃ m,iE (iV n k)=m+1:=⟨iE (iV n k)-1,aI⟩
 rw[hm]at h1 h2 ⊢;rw[eK]at h1;rw[<-dm];have hp:(4294967296:Nat)^k=2^(32*k):=oz k;refine xM ?_ ?_
 .rw [e1,dO<|pw k,hp,<-bG,eZ]at h1;exact h1
 .rw [e1,cK<|pw k,hp,<-bG,(aI:m+1+32*k=32*k+m+1)]at h2;exact h2
def jR(a b k:Nat):Nat:=(a%4294967296^k+b%4294967296^k)/4294967296^k
def KN(a b:Nat):jR a b 0=0:=by unfold jR;simp[dz]
section
variable(a b k:Nat)
def vI:jR a b k<=1:=by
 unfold jR;have h1:=bQ a<|pw k;have h2:=bQ b<|pw k;have:(a%4294967296^k+b%4294967296^k)/4294967296^k<2:=by rw[cK<|pw k];omega
 omega
def Oo:(a+b)/4294967296^k=a/4294967296^k+b/4294967296^k+jR a b k:=by
 unfold jR;have h1:=cN a<|4294967296^k;have h2:=cN b<|4294967296^k;have h3:=ef (pw k) (a/4294967296^k+b/4294967296^k)<|a%4294967296^k+b%4294967296^k;rw[<-h3];congr 1;rw[ct];omega
def AI:iV a k+iV b k+jR a b k=iV (a+b) k+4294967296*jR a b (k+1):=by
 have h1:jR a b (k+1)=(iV a k+iV b k+jR a b k)/4294967296:=by
  conv=>lhs;unfold jR
  rw[mod_succ,mod_succ,bV,<-dc];congr 1;have h3:=ef (pw k) (iV a k+iV b k)<|a%4294967296^k+b%4294967296^k;unfold jR;rw[<-h3];congr 1;rw[ct];omega
 have h2:iV (a+b) k=(iV a k+iV b k+jR a b k)%4294967296:=by
  conv=>lhs;unfold iV
  rw[Oo];unfold iV;omega
 rw[h1,h2];exact(eA _ _).symm
end
def afU{a b k:Nat}(h:a+b<4294967296^k):jR a b k=0:=by
 have h0:=Oo a b k;rw[cI h]at h0;exact(Nat.add_eq_zero_iff.1 h0.symm).2
def afV{a b k:Nat}(ha:a<4294967296^k)(hb:b<4294967296^k):jR a b (k+1)=0:=by
 apply afU;rw[bV];omega
def adi{a b:Nat}(h:b<=a)(k:Nat):iV a k+4294967296-iV b k-jR (a-b) b k=iV (a-b) k+4294967296*(1-jR (a-b) b (k+1)):=by
 have h1:=AI (a-b) b k;rw[fT h]at h1;have h2:=vI (a-b) b<|k+1;have h3:=qB b k;have h4:=vI (a-b) b k;have h5:=qB (a-b) k;omega
def arn(n s k:Nat):iV (n/2^s) k=((iV n (k+s/32)+4294967296*iV n (k+s/32+1))/2^(s%32))%4294967296:=by
 have e:2^s*4294967296^k=4294967296^(k+s/32)*2^(s%32):=by
  rw[oz,oz,<-bG,<-bG];congr 1;omega
 unfold iV;rw[dc,e,<-dc,bV,<-dc];generalize n/4294967296^(k+s/32)=N;have hr:s%32<32:=bQ _ aK;generalize s%32=r at *
 have h1:N%4294967296+4294967296*(N/4294967296%4294967296)=N%(4294967296*4294967296):=(gP).symm;rw[h1];have h2:N=4294967296*(N/(4294967296*4294967296))*4294967296+N%(4294967296*4294967296):=by
  have:=cN N<|4294967296*4294967296;omega
 have h3:(4294967296:Nat)=2^r*2^(32-r):=by rw[<-bG,(aI:r+(32-r)=32)]
 generalize N%(4294967296*4294967296)=u at *
 generalize N/(4294967296*4294967296)=t at *
 have h4:N/2^r=4294967296*(t*2^(32-r))+u/2^r:=by
  rw[h2];have e2:4294967296*t*4294967296=2^r*(4294967296*(t*2^(32-r))):=by
   conv=>lhs;rw[bR]
   conv=>lhs;lhs;rw[h3]
   rw[bO,dF<|2^(32-r),bR (2^(32-r)) t]
  rw[e2,ef<|bL aK]
 rw[h4,eD]
def arj{O:List Nat}{P x n k m:Nat}(hx:x<4294967296)(hO:O=jj (P*2^n) m)(hP:P<4294967296^k)(hm:k+n/32+1<m):
 (O.getD (k+n/32) 0)<2^(n%32)/\((O.set (k+n/32)<|O.getD (k+n/32) 0+x*2^(n%32)%4294967296).set (k+n/32+1)<|x*2^(n%32)/4294967296)=jj ((P+4294967296^k*x)*2^n) m:=by
 have hr:n%32<32:=bQ _ aK;have hq:(2:Nat)^n=2^(n%32)*4294967296^(n/32):=by rw[oz,<-bG];congr 1;omega
 have AR:2^(n%32)<=2^31:=bZ aK aI;have Hy:(2:Nat)^31=2147483648:= aK ;have qU:0<2^(n%32):=bL aK;have mf:jc O:=by rw[hO];exact vN _ _
 have hlen:O.length=m:=by rw[hO,nH]
 have hN:P*2^n<4294967296^(k+n/32)*2^(n%32):=by
  have h1:P*2^(n%32)<4294967296^k*2^(n%32):=dJ hP qU;have h2:=dJ h1<|pw<|n/32;rw[hq,<-bO,bG,gy<|4294967296^k];exact h2
 have wc:P*2^n<4294967296^(k+n/32+1):=by
  rw[bV];exact cg hN<|cT _ aI
 have o1:O.getD (k+n/32) 0=P*2^n/4294967296^(k+n/32):=by
  rw[hO,vJ];unfold iV;rw[cw];rw[cK<|pw _,bR 4294967296,<-bV];exact wc
 have o2:O.getD (k+n/32+1) 0=0:=by rw[hO,vJ hm];exact xO wc<|bB _
 have o3:O.getD (k+n/32) 0<2^(n%32):=by
  rw[o1,cK<|pw _,bR<|2^(n%32)];exact hN
 refine⟨o3,?_⟩;have xY:x*2^(n%32)<4294967296*2^(n%32):=dJ hx qU;have BZ:O.getD (k+n/32) 0+x*2^(n%32)%4294967296<4294967296:=by
  have h3:(4294967296:Nat)=2^(n%32)*2^(32-n%32):=by rw[<-bG,(aI:n%32+(32-n%32)=32)]
  have h4:x*2^(n%32)%4294967296=2^(n%32)*(x%2^(32-n%32)):=by
   conv=>lhs;rw[bR];rhs;rw[h3]
   exact apV _ _ _
  have h5:x%2^(32-n%32)<2^(32-n%32):=bQ _<|bL aK;have h6:=cT (2^(n%32))<|show x%2^(32-n%32)+1<=2^(32-n%32)from h5;rw[<-h3,ct,cG]at h6;omega
 have pB:k+n/32<O.length:= aI ;have zX:=zw (x:=O.getD (k+n/32) 0+x*2^(n%32)%4294967296) pB;have tL:k+n/32+1<(O.set (k+n/32)<|O.getD (k+n/32) 0+x*2^(n%32)%4294967296).length:=by rw[di];omega
 have qJ:=zw (x:=x*2^(n%32)/4294967296) tL;rw[wZ aI,o2,cW,ch]at qJ;refine(KX ((mf.set _ BZ).set _ ?_) (by rw[di,di,hlen]) ?_).symm
 .rw [cK aK];exact cg xY<|cT _ aI
 .have tN:val O=P*2^n:=by
   rw[hO,zt,cw];exact cg wc<|bZ aK aI
  rw[qJ];rw[tN,ct]at zX;have e1:=eA (x*2^(n%32)) 4294967296;have e2:=congrArg (4294967296^(k+n/32) * ·) e1;simp only[ct]at e2;have e3:4294967296^(k+n/32)*(x*2^(n%32))=4294967296^k*x*2^n:=by
   rw[hq,bG];simp only[bO,bR,dF]
  rw[bV,bO,ca];rw[e3]at e2;omega
def mR(r b k:Nat):Nat:=(2*(r%4294967296^k)+b)/4294967296^k
def Pc(r b:Nat):mR r b 0=b:=by unfold mR;simp[dz]
section
variable{r b:Nat}(hb:b<=1)(k:Nat)
def KU:mR r b k<=1:=by
 unfold mR;have h1:=bQ r<|pw k;have:(2*(r%4294967296^k)+b)/4294967296^k<2:=by rw[cK<|pw k];omega
 omega
def KV:iV (2*r+b) k=2*iV r k%4294967296+mR r b k/\mR r b (k+1)=iV r k/2147483648:=by
 have h1:(2*r+b)/4294967296^k=2*(r/4294967296^k)+mR r b k:=by
  unfold mR;have h1:=cN r<|4294967296^k;have h3:=ef (pw k) (2*(r/4294967296^k))<|2*(r%4294967296^k)+b;rw[<-h3];congr 1;rw[dF];omega
 have h2:=KU (r:=r) hb k;have h3:mR r b (k+1)=(2*iV r k+mR r b k)/4294967296:=by
  conv=>lhs;unfold mR
  rw[mod_succ,bV,<-dc];congr 1;have h3:=ef (pw k) (2*iV r k)<|2*(r%4294967296^k)+b;unfold mR;rw[<-h3];congr 1;rw[dF];omega
 have h4:iV (2*r+b) k=(2*iV r k+mR r b k)%4294967296:=by
  conv=>lhs;unfold iV
  rw[h1];unfold iV;omega
 have h5:=qB r k;constructor
 .rw [h4];omega
 .rw [h3];omega
end
end Go.Proofs.YtbbefgegdllpmaaGreatDoor.Fp
namespace Go.Proofs.YtbbefgegdllpmaaGreatDoor
open Go.RowKit Fp Pu
def CL{n:Nat}{L:List Nat}(h:n=L.length):(E.sl false n 1<|jt L)=iG L:=by subst h;rfl
def CP(n:Nat)(h:n<18446744073709551616:=by omega):bits .and .u64 (n:Int) 4294967295=((n%4294967296:Nat):Int):=by
 have:=Tm n 4294967295 h aK;rw[show((4294967295:Int))=((4294967295:Nat):Int)from rfl,this];exact congrArg _<|aug n 32
def yp(n:Nat)(h:n<4294967296:=by omega):bits .and .u32 (n:Int) 1=((n%2:Nat):Int):=by
 have:=bits_and_u32_nat n 1 h aK;rw[show((1:Int))=((1:Nat):Int)from rfl,this];exact congrArg _<|ix n
def Gg(n:Nat)(h:n<4294967296:=by omega):IntKind.u64.wrap ((n:Int)*2^32)=((n*4294967296:Nat):Int):=by rw[IntKind.wrap_u64];omega
def Jr(a b:Nat)(ha:a<4294967296)(hb:b<4294967296):bits .or .u64 ((a*4294967296:Nat):Int) (b:Int)=((a*4294967296+b:Nat):Int):=by
 rw[Nw _ _,gN,show a*4294967296=a*2^32 by rfl,Cu b a 32<|by simpa using hb,eZ]
def F8{T n n' p:Nat}{L L':List Nat}{z:Nat}(hn:n=n')(hp:p<L.length)(hs:L.set p z=L'):Bx.le (.row false T n 1 λi' j'=>if i'=p/\0<=j'/\j'<0+1 then[.v<|.int .u32 (z:Int)].getD (j'-0) .any else(jt L) i' j')<|.row false T n' 1<|jt L':=hs▸JK hn hp
def Cj{T n n':Nat}{N:Nat}{z:Int}(hn:n'=n+1)(hz:z=(iV N n:Int)):
 Bx.le (.row false T (n+1) 1 λi_ j_=>if i_<n then(jt<|jj N n) i_ j_ else(E.jV<|.sl false 1 1 λi_ j_=>[.v<|.int .u32 z].getD (i_*1+j_)<|.v<|.bool false) (i_-n) j_) (.row false T n' 1<|jt<|jj N n'):=by
 subst hn hz;refine .row rfl λi j hi hj=>?_
 obtain rfl:j=0:= aI ;refine⟨.jm ?_,rfl⟩;by_cases h:i<n
 .rw [bA h];show E.v (.int .u32 (((jj N n).getD i 0:Nat):Int))=E.v (.int .u32 (((jj N<|n+1).getD i 0:Nat):Int));rw[vJ h,vJ hi]
 .obtain rfl:i=n:= aI ;rw[bw<|fN i];show E.jV _ (i-i) 0=E.v (.int .u32 (((jj N<|i+1).getD i 0:Nat):Int));rw[vJ<|gM i,dD];rfl
end Go.Proofs.YtbbefgegdllpmaaGreatDoor
namespace Go.Proofs.YtbbefgegdllpmaaGreatDoor.Fp
def jk(a b n x:Nat):Nat:=a/2^(n-x)%b
def lM(a b n x:Nat):Nat:=a/2^(n-x)/b
def jD(a n x:Nat):Nat:=a/2^(n-1-x)%2
def K0(a n x:Nat):jD a n x<=1:=by unfold jD;omega
def WR{a n x:Nat}(hx:x<n):a/2^(n-(x+1))=2*(a/2^(n-x))+jD a n x:=by
 unfold jD;rw[(aI:n-x=(n-1-x)+1),(aI:n-(x+1)=n-1-x),bV,<-dc];omega
section
variable{a b n x:Nat}(hb:0<b)(hx:x<n)
def WO(h:2*jk a b n x+jD a n x<b):jk a b n (x+1)=2*jk a b n x+jD a n x/\lM a b n (x+1)=2*lM a b n x:=by
 have e:a/2^(n-(x+1))=b*(2*lM a b n x)+(2*jk a b n x+jD a n x):=by
  rw[WR hx];have:=cN (a/2^(n-x)) b;unfold lM jk;rw[dF];omega
 constructor
 .conv=>lhs;unfold jk
  rw[e,eD,cw h]
 .conv=>lhs;unfold lM
  rw[e,ef hb,cI h,ch]
def WQ(h:¬2*jk a b n x+jD a n x<b):jk a b n (x+1)=2*jk a b n x+jD a n x-b/\lM a b n (x+1)=2*lM a b n x+1:=by
 have hr:jk a b n x<b:=bQ _ hb;have qF:=K0 a n x;have e:a/2^(n-(x+1))=b*(2*lM a b n x+1)+(2*jk a b n x+jD a n x-b):=by
  rw[WR hx];have:=cN (a/2^(n-x)) b;unfold lM jk at *
  rw[ct,dF,cG];omega
 constructor
 .conv=>lhs;unfold jk
  rw[e,eD,cw aI]
 .conv=>lhs;unfold lM
  rw[e,ef hb,cI aI,ch]
end
def WS{a b n:Nat}(h:a<2^n):jk a b n 0=0/\lM a b n 0=0:=by
 unfold jk lM;rw[dT,cI h];simp
def WN(a b n:Nat):jk a b n n=a%b/\lM a b n n=a/b:=by
 unfold jk lM;rw[dD,cH,ew];exact⟨rfl,rfl⟩
def aif(a b n x:Nat):lM a b n x*2^(n-x)<=a:=by
 unfold lM;exact b9 (cC _<|cM _ _)<|eH _ _
def VI{L:List Nat}(h:jc L):iE (val L)<=32*L.length:=lE.2<|by rw[<-oz];exact nd h
def aq9{q i m:Nat}(hi:i/32<m)(hq:q*2^(i+1)<4294967296^m):
 (∃ t,iV (q*2^(i+1)) (i/32)=t*2^(i%32+1))/\iV (q*2^(i+1)) (i/32)+2^(i%32)<4294967296 /\
 (jj (q*2^(i+1)) m).set (i/32) (iV (q*2^(i+1)) (i/32)+2^(i%32))=jj ((2*q+1)*2^i) m:=by
 have hr:i%32<32:=bQ _ aK;have e1:q*2^(i+1)/4294967296^(i/32)=q*2^(i%32+1):=by
  rw[(aI:i+1=(i%32+1)+32*(i/32)),bG,<-oz,<-bO,eB _<|pw _]
 have h3:(4294967296:Nat)=2^(i%32+1)*2^(32-(i%32+1)):=by rw[<-bG,(aI:i%32+1+(32-(i%32+1))=32)]
 have e2:iV (q*2^(i+1)) (i/32)=(q%2^(32-(i%32+1)))*2^(i%32+1):=by
  unfold iV;rw[e1,bR]
  conv=>lhs;rhs;rw[h3]
  rw[apV,bR]
 have e3:(q%2^(32-(i%32+1)))*2^(i%32+1)+2^(i%32+1)<=4294967296:=by
  have:=cC (2^(i%32+1))<|show q%2^(32-(i%32+1))+1<=2^(32-(i%32+1))from bQ _<|bL aK;rw[ca,cj]at this;refine b9 this<|apI ?_;rw[bR];exact h3.symm
 have e4:2^(i%32)<2^(i%32+1):=fJ aK aI;have je:iV (q*2^(i+1)) (i/32)+2^(i%32)<4294967296:=by rw[e2];omega
 refine⟨⟨_,e2⟩,je,?_⟩;have hk:i/32<(jj (q*2^(i+1)) m).length:=by rw[nH];exact hi
 have hv:=zw (x:=iV (q*2^(i+1)) (i/32)+2^(i%32)) hk;rw[vJ hi,zt,cw hq,ct]at hv;refine(KX ((vN _ _).set _ je) (by rw[di,nH]) ?_).symm;have e5:4294967296^(i/32)*2^(i%32)=2^i:=by rw[oz,<-bG];congr 1;omega
 rw[e5]at hv;have e6:2*q*2^i=q*2^(i+1):=by rw[bV,bR 2 q,bO,bR 2]
 rw[ca,cj,e6];omega
end Go.Proofs.YtbbefgegdllpmaaGreatDoor.Fp
namespace Go.Proofs.YtbbefgegdllpmaaGreatDoor
open Go.RowKit Fp Pu
def anY(s t:Nat)(hs:s<32)(je:t*2^(s+1)+2^s<4294967296):bits .or .u32 ((t*2^(s+1):Nat):Int) (IntKind.u32.wrap<|1*2^s)=((t*2^(s+1)+2^s:Nat):Int):=by
 have h2:2^s<2^(s+1):=fJ aK aI;have e:IntKind.u32.wrap (1*2^s)=((2^s:Nat):Int):=by
  rw[IntKind.wrap_u32,Int.one_mul,show(2:Int)^s=((2^s:Nat):Int)by simp];omega
 rw[e,JX _ _ aI aI,gN,Cu _ t (s+1) h2,eZ]
def anZ(o r a:Nat)(hr:r<32)(ho:o<2^r):bits .or .u32 (o:Int) ((a*2^r%4294967296%4294967296:Nat):Int)=((o+a*2^r%4294967296:Nat):Int):=by
 have h3:(4294967296:Nat)=2^r*2^(32-r):=by rw[<-bG,(aI:r+(32-r)=32)]
 have AR:2^r<=2^31:=bZ aK aI;have Hy:(2:Nat)^31=2147483648:= aK ;have e2:a*2^r%4294967296=(a%2^(32-r))*2^r:=by
  rw[bR]
  conv=>lhs;rhs;rw[h3]
  rw[apV,bR]
 rw[Nat.mod_mod,JX _ _ aI<|bQ _ aK,e2,Cu _ _ _ ho]
def ari(a r:Nat)(ha:a<4294967296)(hr:r<32):IntKind.u64.wrap ((a:Int)*2^r)=((a*2^r:Nat):Int):=by
 have AR:2^r<=2^31:=bZ aK aI;have Hy:(2:Nat)^31=2147483648:= aK ;have h2:a*2^r<=4294967295*2147483648:=dE aI aI;have e:(a:Int)*2^r=((a*2^r:Nat):Int):= aP ;rw[e];exact px _ 
def arh{a r:Nat}(ha:a<4294967296)(hr:r<32):a*2^r<=9223372034707292160:=by
 have AR:2^r<=2^31:=bZ aK aI;have Hy:(2:Nat)^31=2147483648:= aK ;have h2:a*2^r<=4294967295*2147483648:=dE aI aI;omega
def S1(x:Nat):IntKind.u32.wrap ((x:Int)*2^1)=((2*x%4294967296:Nat):Int):=by rw[IntKind.wrap_u32];omega
def MC(x c:Nat)(hc:c<=1):bits .or .u32 ((2*x%4294967296:Nat):Int) (c:Int)=((2*x%4294967296+c:Nat):Int):=by
 have h:2*x%4294967296=(2*x%4294967296/2)*2^1:= aI ;rw[JX _ _ aI aI,gN,h,Cu _ _ 1 aI,eZ]
def aqL{T n n' p q:Nat}{L L':List Nat}{z y:Nat}(hn:n=n')(hp:p<L.length)(hq:q<L.length)(hs:(L.set p z).set q y=L'):
 Bx.le (.row false T n 1 λi' j'=>if i'=q/\0<=j'/\j'<0+1 then[.v<|.int .u32 (y:Int)].getD (j'-0) .any else(λi' j'=>if i'=p/\0<=j'/\j'<0+1 then[.v<|.int .u32 (z:Int)].getD (j'-0) .any else(jt L) i' j') i' j') (.row false T n' 1<|jt L'):=by
 subst hs;refine .row hn λi j _ hj=>?_
 obtain rfl:j=0:= aI ;refine⟨.jm ?_,rfl⟩;by_cases h1:i=q
 .subst h1;rw[bA ⟨rfl,aI,aI⟩];show E.v (.int .u32 (y:Int))=E.v (.int .u32 ((((L.set p z).set i y).getD i 0:Nat):Int));rw[Fp.PT<|by rw[di];exact hq]
 .rw [bw λk=>h1 k.1];by_cases h:i=p
  .subst h;show(if i=i/\0<=0/\0<0+1 then _ else _)=E.v (.int .u32 ((((L.set i z).set q y).getD i 0:Nat):Int));rw[bA ⟨rfl,aI,aI⟩,Fp.wZ λk=>h1 k.symm,Fp.PT hp];rfl
  .show (if i=p/\0<=0/\0<0+1 then _ else E.v (.int .u32 (L.getD i 0:Int)))=E.v (.int .u32 ((((L.set p z).set q y).getD i 0:Nat):Int));rw[bw λk=>h k.1,Fp.wZ λk=>h1 k.symm,Fp.wZ λk=>h k.symm]
end Go.Proofs.YtbbefgegdllpmaaGreatDoor
namespace Go.Proofs.YtbbefgegdllpmaaGreatDoor.Fp
section
variable {a b:Dy} {k:Int}
end
section
variable{m gm p:Nat}{e ge K:Int}(hp:1<=p)(hg:iE gm<=p)(uV:-16384<=ge)(k1:K<=e)(k2:K<=ge)
def akB
 (h:gm*2^(ge-K).toNat<=m*2^(e-K).toNat):gm*2^(ge-K).toNat<=lF m e false p false*2^(e+jy m e p-K).toNat:=by
 have hq:lF m e false p false=m/2^jy m e p:=by unfold lF;simp
 rw[hq];have hm:=cN m<|2^jy m e p;have hr:=bQ m<|bL (n:=jy m e p) (aK:0<2);obtain⟨k,hk⟩:∃ k,k=jy m e p:=⟨_,rfl⟩
 rw[<-hk]at hm hr ⊢;have e1:(e+(k:Int)-K).toNat=k+(e-K).toNat:= aI ;rw[e1,bG];generalize hE:2^(e-K).toNat=E at *
 have P3:0<E:=by rw[<-hE];exact bL aK 
 have hmE:m*E<(m/2^k+1)*(2^k*E):=by
  rw[<-bO];refine dJ ?_ P3;rw[ca,cj,bR];omega
 by_cases hc:e+k<=ge
 .
  have e2:(ge-K).toNat=(ge-(e+k)).toNat+(k+(e-K).toNat):= aI ;rw[e2,bG,bG 2 k,hE]at h ⊢;rw[<-bO]at h ⊢;generalize gm*2^(ge-(e+k)).toNat=g at *
  have:g<m/2^k+1:=by
   apply cF;intro h';have:=cC (2^k*E) (aI:m/2^k+1<=g);omega
  exact cC _ aI 
 .by_cases oM:k=0
  .subst oM;rw[cH,ew,cj];exact h
  .
   have hb:(iE m:Int)-p=k:=by unfold jy at hk;omega
   have DA:m≠0:=by intro h0;rw[h0]at hb;simp[iE]at hb;omega
   have h1:=tu DA;have h2:2^(iE m-1-k)<=m/2^k:=by
    rw[dO<|bL aK,<-bG];exact b9 (bZ aK<|by have:=og DA;omega) h1
   have h3:gm<2^p:=lE.1 hg;refine b9 (cC _<|dU h3)<|b9 ?_ (cC _ h2);rw[<-hE,<-bG,<-bG,<-bG];exact bZ aK aI 
def X2
 (h:m*2^(e-K).toNat<=gm*2^(ge-K).toNat):lF m e false p true*2^(e+jy m e p-K).toNat<=gm*2^(ge-K).toNat:=by
 have QZ:lF m e false p false=m/2^jy m e p:=by unfold lF;simp
 have FA:lF m e false p true=m/2^jy m e p+if m%2^jy m e p≠0 then 1 else 0:=by unfold lF;simp
 have hm:=cN m<|2^jy m e p;obtain⟨k,hk⟩:∃ k,k=jy m e p:=⟨_,rfl⟩
 rw[FA];rw[<-hk]at hm ⊢;have e1:(e+(k:Int)-K).toNat=k+(e-K).toNat:= aI ;rw[e1,bG];generalize hE:2^(e-K).toNat=E at *
 have P3:0<E:=by rw[<-hE];exact bL aK 
 by_cases hr:m%2^k=0
 .rw [bw aI,ch,<-bO];refine b9 (apI ?_) h;congr 1;rw[bR];omega
 .rw [bA hr];have oM:k≠0:=by intro h0;rw[h0,cH,dz]at hr;exact hr rfl
  have je:m/2^k*(2^k*E)<gm*2^(ge-K).toNat:=by
   refine cg ?_ h;rw[<-bO];refine dJ ?_ P3;rw[bR];omega
  by_cases hc:e+k<=ge
  .have e2:(ge-K).toNat=(ge-(e+k)).toNat+(k+(e-K).toNat):= aI ;have e3:gm*2^(ge-K).toNat=gm*2^(ge-(e+k)).toNat*(2^k*E):=by rw[e2,bG,bG 2 k,hE,bO]
   rw[e3]at je ⊢;generalize gm*2^(ge-(e+k)).toNat=g at *
   have:m/2^k<g:=aui je;exact cC _ this
  .
   exfalso;have hb:(iE m:Int)-p=k:=by unfold jy at hk;omega
   have DA:m≠0:=by intro h0;rw[h0]at hr;simp at hr
   have h1:=tu DA;have qH:=og DA;have h3:gm<2^p:=lE.1 hg;have h4:gm*2^(ge-K).toNat<=2^(iE m-1)*E:=by
    refine b9 (cC _<|dU h3) ?_;rw[<-hE,<-bG,<-bG];exact bZ aK aI 
   have h5:2^(iE m-1-k)<=m/2^k:=by
    rw[dO<|bL aK,<-bG];exact b9 (bZ aK aI) h1
   have h6:2^(iE m-1)*E<=m/2^k*(2^k*E):=by
    rw[<-bO];refine cC _ ?_;have:=cC (2^k) h5;rw[<-bG]at this;exact b9 (bZ aK aI) this
   omega
end
def P2(k:Int):Rat:=(2:Rat)^k
def nb(k:Int):0<P2 k:=Rat.zpow_pos aK 
def qZ(a b:Int):P2 (a+b)=P2 a*P2 b:=Rat.zpow_add aK a b
def vu(n:Nat):P2 (n:Int)=((2^n:Nat):Rat):=by unfold P2;rw[Rat.zpow_natCast];simp
def tC:P2 0=1:=by have:=vu 0;simpa using this
def GF{e k:Int}(h:k<=e):P2 e=((2^(e-k).toNat:Nat):Rat)*P2 k:=by
 rw[<-vu,<-qZ];congr 1;omega
def D6{x y:Rat}(k:Int):x*P2 k<=y*P2 k↔x<=y:=
 ⟨λh=>dG h<|nb k,λh=>bK h<|bF<|nb k⟩
def uw{m n:Nat}{e f K:Int}(h1:K<=e)(h2:K<=f):(m:Rat)*P2 e<=(n:Rat)*P2 f↔m*2^(e-K).toNat<=n*2^(f-K).toNat:=by
 rw[GF h1,GF h2,<-dP,<-dP,D6,<-cQ,<-cQ,cX]
def Dy.q(d:Dy):Rat:=((d.num d.e:Int):Rat)*P2 d.e
def Ag{d:Dy}{k:Int}(h:oo d k):d.q=((d.num k:Int):Rat)*P2 k:=by
 unfold Dy.q;rcases h with h|h
 .rw [yj h,yj h];simp
 .rw [MA h<|cO _,GF h,<-dP,gQ,dj]
def qf(a b:Dy):jI a b<=0↔a.q<=b.q:=by
 obtain⟨k,ka,kb⟩:∃ k:Int,k<=a.e/\k<=b.e:=⟨min a.e b.e,aI,aI⟩
 rw[pD (.inr ka)<|.inr kb,Ag<|.inr ka,Ag<|.inr kb,D6,cY]
def Jw(a b:Dy):jI a b<0↔a.q<b.q:=by
 have h:=qf b a;rw[AN b a]at h;constructor
 .intro h1;apply gR.1;intro h2;have:=h.2 h2;omega
 .intro h1;apply cF;intro h2;exact gR.2 h1<|h.1 aI
def Sn(a b:Dy):(jh a b).q=a.q+b.q:=by
 obtain⟨k,ka,kb⟩:∃ k:Int,k<=a.e/\k<=b.e:=⟨min a.e b.e,aI,aI⟩
 rw[Ag<|Kq (.inr ka)<|.inr kb,Ag<|.inr ka,Ag<|.inr kb,No (.inr ka)<|.inr kb,fO,Rat.add_mul]
def oX(a:Dy):(jl a).q = -a.q:=by
 rw[Ag<|GH<|.inr<|cO a.e,Jn,dY,atu];rfl
def qO(s:Bool)(m:Nat)(e:Int):(canon s m e).q=if s then -((m:Rat)*P2 e)else(m:Rat)*P2 e:=by
 rw[Ag<|BH<|cO e,Ea<|cO e];have:(e-e).toNat=0:= aI ;rw[this];cases s<;>simp[dY,atu,dj]
def qt(a:Dy):a.q=if a.neg then -((a.m:Rat)*P2 a.e)else(a.m:Rat)*P2 a.e:=by
 unfold Dy.q Dy.num Dy.kg;have:(a.e-a.e).toNat=0:= aI ;rw[this];cases a.neg<;>simp[dY,atu,dj]
def MJ(a b:Dy):(mJ a b).q=a.q*b.q:=by
 unfold mJ;rw[qO,qt a,qt b,qZ,cQ];cases a.neg<;>cases b.neg<;>simp<;>grind
def r7:jK.q=0:=by rw[qt];simp[jK]
def Sm{a b:Dy}(ha:a.mX)(hb:b.mX)(h:a.q=b.q):a=b:=by
 obtain⟨k,ka,kb⟩:∃ k:Int,k<=a.e/\k<=b.e:=⟨min a.e b.e,aI,aI⟩
 refine Pm ha hb (.inr ka) (.inr kb) ?_;rw[Ag<|.inr ka,Ag<|.inr kb]at h;have h1:=(D6 (x:=((a.num k:Int):Rat)) (y:=((b.num k:Int):Rat)) k).1 (by rw[h];exact bH);have h2:=(D6 (x:=((b.num k:Int):Rat)) (y:=((a.num k:Int):Rat)) k).1 (by rw[h];exact bH);rw[cY]at h1 h2;omega
def uA(n:Int):(kV n).q=(n:Rat):=by
 unfold kV;rw[Ag (k:=0)<|Ol<|cO 0,RW<|cO 0,tC];simp
def FY(d:Dy):0<=(mG d).q/\d.q<=(mG d).q /\ -d.q<=(mG d).q/\((mG d).q=d.q\/(mG d).q = -d.q):=by
 have h:(mG d).q=(d.m:Rat)*P2 d.e:=by rw[qt];rfl
 have h0:0<=(d.m:Rat)*P2 d.e:=bD cE<|bF<|nb _;rw[h,qt d];cases d.neg<;>simp<;>grind
def rA(d:Dy):(0<d.jB↔0<d.q)/\(d.jB<0↔d.q<0):=by
 have h:=nb d.e;have hm:d.m≠0->0<(d.m:Rat)*P2 d.e:=λh0=>cR (dQ.2 aI) h
 rw[qt];unfold Dy.jB;by_cases h0:d.m=0
 .simp [h0]
 .have:=hm h0;rw[bw h0];cases d.neg<;>simp<;>grind
def FZ(a b:Dy):a.q<=(jq a b).q/\b.q<=(jq a b).q/\((jq a b).q=a.q\/(jq a b).q=b.q):=
 ⟨(qf _ _).1<|FM a b,(qf _ _).1<|amZ a b,by unfold jq;split;exact .inr rfl;exact .inl rfl⟩
def Ei(a b:Dy):(jv a b).q<=a.q/\(jv a b).q<=b.q/\((jv a b).q=a.q\/(jv a b).q=b.q):=
 ⟨(qf _ _).1<|Ja a b,(qf _ _).1<|am3 a b,by unfold jv;split;exact .inr rfl;exact .inl rfl⟩
def GM(p:Nat)(g:Rat):Prop:=∃ (m:Nat) (e:Int),iE m<=p /\ -16384<=e/\(iE m:Int)+e<=16384/\g=(m:Rat)*P2 e
def G(p:Nat)(g:Rat):Prop:=GM p g\/GM p (-g)
def GM.Jl{p:Nat}{g:Rat}(h:GM p g):0<=g:=by
 obtain⟨m,e,_,_,_,rfl⟩:=h;exact bD cE<|bF<|nb _
def yu(p:Nat):GM p 0:=⟨0,0,by simp[tE],aI,by simp[tE],aP⟩
section
variable{p:Nat}{g:Rat}(h:G p g)
def G.neg:G p (-g):=by
 rcases h with h|h
 .exact .inr<|by rw[gr];exact h
 .exact .inl h
def G.pos(h0:0<=g):GM p g:=by
 rcases h with h|h
 .exact h
 .have:=h.Jl;have:g=0:= aS ;rw[this];exact yu p
end
def OL(k:Nat):iE (2^k)=k+1:=xM (bB _)<|fJ aK aI
def zF:iE 1=1:=OL 0
section
variable {m p:Nat} {e:Int}
section
variable(hp:1<=p)
def adH(iJ:p<=4096)(ho:mQ m e false p false=true):
 GM p (((2^p-1:Nat):Rat)*P2 (16384-p))/\((2^p-1:Nat):Rat)*P2 (16384-p)<=(m:Rat)*P2 e/\∀ g,GM p g->g<=((2^p-1:Nat):Rat)*P2 (16384-p):=by
 have qq:2<=2^p:=by
  have:=bZ (n:=2) aK hp;omega
 have hb:iE (2^p-1)=p:=by
  obtain⟨j,rfl⟩:∃ j,p=j+1:=⟨p-1,aI⟩
  have h2:2^(j+1)=2^j*2:=bV _ _;have h3:=bL (n:=j) (aK:0<2);exact xM aI aI 
 refine⟨⟨_,_,apI hb,aI,aI,rfl⟩,?_,?_⟩
 .obtain ⟨c1,c2⟩:=KT m e p;unfold mQ at ho;simp only[cr,dn]at ho;obtain⟨o1,o2⟩:=ho;have hq:=tu o1;have qH:=og o1;obtain⟨K,k1,k2⟩:∃ K:Int,K<=e/\K<=16384-p:=⟨min e<|16384-p,aI,aI⟩
  rw[uw k2 k1];have h1:2^(iE (lF m e false p false)-1)*2^jy m e p<=m:=b9 (cC _ hq) c1;have h2:=cC (2^(e-K).toNat) h1;rw[<-bG,<-bG]at h2;refine b9 (cC _<|en _ _)<|b9 ?_ h2;rw[<-bG];exact bZ aK aI 
 .rintro g ⟨gm,ge,b1,b2,b3,rfl⟩;by_cases hc:ge<=16384-p
  .have:gm<2^p:=lE.1 b1;rw[uw (K:=ge) (cO _) hc];have e0:(ge-ge).toNat=0:= aI ;rw[e0,cH,cG];exact b9 (aI:gm<=2^p-1)<|ib _<|bL aK
  .rw [uw (K:=16384-p) aI<|cO _];have e0:((16384:Int)-p-(16384-p)).toNat=0:= aI ;rw[e0,cH,cG];have h1:gm<2^(16384-ge).toNat:=by
    by_cases h0:gm=0
    .rw [h0];exact bL aK 
    .exact lE.1 aI 
   have h2:=dJ h1<|bL (n:=(ge-(16384-p)).toNat) (aK:0<2);by_cases hg:ge<=16384
   .rw [<-bG,show(16384-ge).toNat+(ge-(16384-(p:Int))).toNat=p by omega]at h2;omega
   .have:gm=0:=by
     rw[show(16384-ge).toNat=0 by omega]at h1;simpa using h1
    rw[this,de];omega
def adG(ho:¬mQ m e false p false=true):
 GM p (((lF m e false p false:Nat):Rat)*P2 (e+jy m e p))/\((lF m e false p false:Nat):Rat)*P2 (e+jy m e p)<=(m:Rat)*P2 e /\
 ∀ g,GM p g->g<=(m:Rat)*P2 e->g<=((lF m e false p false:Nat):Rat)*P2 (e+jy m e p):=by
 obtain⟨c1,c2⟩:=KT m e p;have hk:-16384<=e+(jy m e p:Int):=by unfold jy;omega
 refine⟨?_,?_,?_⟩
 .by_cases h0:lF m e false p false=0
  .rw [h0];simpa using yu p
  .have hq:lF m e false p false<2^p:=by
    have:=WE m e p;unfold lF;simpa using this
   unfold mQ at ho;simp only[dS,h0,fi,gO,fk,dn]at ho;exact⟨_,_,lE.2 hq,hk,aI,rfl⟩
 .rw [uw (K:=e) aI<|cO _];rw[show(e-e).toNat=0 by omega,show(e+(jy m e p:Int)-e).toNat=jy m e p by omega,cH,cG];exact c1
 .rintro g ⟨gm,ge,b1,b2,b3,rfl⟩ h;obtain⟨K,k1,k2⟩:∃ K:Int,K<=e/\K<=ge:=⟨min e ge,aI,aI⟩
  rw[uw k2 k1]at h;rw[uw (K:=K) k2 aI];exact akB hp b1 b2 k1 k2 h
def V5(ho:mQ m e false p true=true)(g:Rat)(hg:GM p g):¬(m:Rat)*P2 e<=g:=by
 obtain⟨gm,ge,b1,b2,b3,rfl⟩:=hg;intro h;obtain⟨K,k1,k2⟩:∃ K:Int,K<=e/\K<=ge:=⟨min e ge,aI,aI⟩
 rw[uw k1 k2]at h;have h:=X2 hp b1 b2 k1 k2 h;unfold mQ at ho;simp only[cr,dn]at ho;obtain⟨o1,o2⟩:=ho;have hq:=tu o1;have qH:=og o1;have h3:gm<2^iE gm:=qL gm;have h4:=dJ h3<|bL (n:=(ge-K).toNat) (aK:0<2);have h5:=cC (2^(e+(jy m e p:Int)-K).toNat) hq;rw[<-bG]at h4 h5;have h6:2^(iE gm+(ge-K).toNat)<=2^(iE (lF m e false p true)-1+(e+(jy m e p:Int)-K).toNat):=bZ aK aI;omega
def V4(ho:¬mQ m e false p true=true):
 GM p (((lF m e false p true:Nat):Rat)*P2 (e+jy m e p))/\(m:Rat)*P2 e<=((lF m e false p true:Nat):Rat)*P2 (e+jy m e p) /\
 ∀ g,GM p g->(m:Rat)*P2 e<=g->((lF m e false p true:Nat):Rat)*P2 (e+jy m e p)<=g:=by
 obtain⟨c1,c2⟩:=KT m e p;have hk:-16384<=e+(jy m e p:Int):=by unfold jy;omega
 refine⟨?_,?_,?_⟩
 .by_cases h0:lF m e false p true=0
  .rw [h0];simpa using yu p
  .unfold mQ at ho;simp only[dS,h0,fi,gO,fk,dn]at ho;rcases Nat.lt_or_eq_of_le (Wt m e false p true)with hq|hq
   .exact ⟨_,_,lE.2 hq,hk,aI,rfl⟩
   .rw [hq]at ho ⊢;rw[OL]at ho;refine⟨1,p+(e+jy m e p),by rw[zF];exact hp,aI,by rw[zF];omega,?_⟩;rw[qZ (p:Int),vu p,show((1:Nat):Rat)=1 from rfl,eI]
 .rw [uw (K:=e) (cO _) aI];rw[show(e-e).toNat=0 by omega,show(e+(jy m e p:Int)-e).toNat=jy m e p by omega,cH,cG];exact c2
 .rintro g ⟨gm,ge,b1,b2,b3,rfl⟩ h;obtain⟨K,k1,k2⟩:∃ K:Int,K<=e/\K<=ge:=⟨min e ge,aI,aI⟩
  rw[uw k1 k2]at h;rw[uw (K:=K) aI k2];exact X2 hp b1 b2 k1 k2 h
end
end
section
variable(p:Nat)(v:Rat)(D:Dy)(E:Int)
def Dn:Prop:=(E=0->G p D.q/\D.q<=v)/\∀ g,G p g->g<=v->E=0/\g<=D.q
def Up:Prop:=(E=0->G p D.q/\v<=D.q)/\∀ g,G p g->v<=g->E=0/\D.q<=g
end
section
variable{p:Nat}{v w:Rat}{D:Dy}{E:Int}
def Dn.of(h:Dn p v D E)(k:∀ g,G p g->(g<=v↔g<=w)):Dn p w D E:=
 ⟨λe=>⟨(h.1 e).1,(k _ (h.1 e).1).1 (h.1 e).2⟩,λg hg hw=>h.2 g hg<|(k g hg).2 hw⟩
def Up.of(h:Up p v D E)(k:∀ g,G p g->(v<=g↔w<=g)):Up p w D E:=
 ⟨λe=>⟨(h.1 e).1,(k _ (h.1 e).1).1 (h.1 e).2⟩,λg hg hw=>h.2 g hg<|(k g hg).2 hw⟩
end
section
variable(neg:Bool)(m:Nat)(e:Int){p:Nat}(hp:1<=p)(iJ:p<=4096)
def Dg:Dn p (canon neg m e).q (j9 neg m e false p false)<|jW neg m e false p false:=by
 have hv:0<=(m:Rat)*P2 e:=bD cE<|bF<|nb _;rw[qO];cases neg
 .
  have hE:jW false m e false p false=0:=by unfold jW;simp
  rw[hE];unfold j9;simp only[bne_self_eq_false,cz,bN];by_cases ho:mQ m e false p false=true
  .obtain ⟨t1,t2,t3⟩:=adH hp iJ ho;rw[bA ho];(first|unfold Dn|unfold Up);rw[qO];simp only[cz,bN];refine⟨λ_=>⟨.inl t1,t2⟩,λg hg hle=>⟨trivial,?_⟩⟩;by_cases h0:0<=g
   .exact t3 g<|hg.pos h0
   .have:=t1.Jl;grind
  .obtain ⟨t1,t2,t3⟩:=adG hp ho;rw[bw ho];(first|unfold Dn|unfold Up);rw[qO];simp only[cz,bN];refine⟨λ_=>⟨.inl t1,t2⟩,λg hg hle=>⟨trivial,?_⟩⟩;by_cases h0:0<=g
   .exact t3 g (hg.pos h0) hle
   .have:=t1.Jl;grind
 .unfold j9 jW;simp only[Bool.bne_false,Bool.and_true,bW];by_cases ho:mQ m e false p true=true
  .rw [bA ho,bA ho];refine⟨λh=>by simp at h,λg hg hle=>?_⟩;exact absurd (show(m:Rat)*P2 e <= -g by grind)<|V5 hp ho _<|hg.neg.pos aS
  .obtain ⟨t1,t2,t3⟩:=V4 hp ho;rw[bw ho,bw ho];(first|unfold Dn|unfold Up);rw[qO];simp only[bW];refine⟨λ_=>⟨.inr<|by rw[gr];exact t1,aS⟩,λg hg hle=>⟨trivial,?_⟩⟩;have:=t3 (-g) (hg.neg.pos aS) aS 
   grind
def Hg:Up p (canon neg m e).q (j9 neg m e false p true)<|jW neg m e false p true:=by
 have hv:0<=(m:Rat)*P2 e:=bD cE<|bF<|nb _;rw[qO];cases neg
 .unfold j9 jW;simp only[Bool.bne_true,fe,Bool.and_true,bW,cz,bN];by_cases ho:mQ m e false p true=true
  .rw [bA ho,bA ho];refine⟨λh=>by simp at h,λg hg hle=>?_⟩;exact absurd hle<|V5 hp ho _<|hg.pos aS
  .obtain ⟨t1,t2,t3⟩:=V4 hp ho;rw[bw ho,bw ho];(first|unfold Dn|unfold Up);rw[qO];simp only[cz,bN];exact⟨λ_=>⟨.inl t1,t2⟩,λg hg hle=>⟨trivial,t3 g (hg.pos aS) hle⟩⟩
 .have hE:jW true m e false p true=0:=by unfold jW;simp
  rw[hE];unfold j9;simp only[bne_self_eq_false,cz,bN,bW];by_cases ho:mQ m e false p false=true
  .obtain ⟨t1,t2,t3⟩:=adH hp iJ ho;rw[bA ho];(first|unfold Dn|unfold Up);rw[qO];simp only[bW];refine⟨λ_=>⟨.inr<|by rw[gr];exact t1,aS⟩,λg hg hle=>⟨trivial,?_⟩⟩;by_cases h0:0 <= -g
   .have:=t3 (-g)<|hg.neg.pos h0;grind
   .have:=t1.Jl;grind
  .obtain ⟨t1,t2,t3⟩:=adG hp ho;rw[bw ho];(first|unfold Dn|unfold Up);rw[qO];simp only[bW];refine⟨λ_=>⟨.inr<|by rw[gr];exact t1,aS⟩,λg hg hle=>⟨trivial,?_⟩⟩;by_cases h0:0 <= -g
   .have:=t3 (-g) (hg.neg.pos h0) aS;grind
   .have:=t1.Jl;grind
end
section
variable{d:Dy}(hd:d.mX){p:Nat}(hp:1<=p)(iJ:p<=4096)
def M1:Dn p d.q (kt d p false)<|kS d p false:=by
 have:=Dg d.neg d.m d.e hp iJ;rwa[hd.BK]at this
def M4:Up p d.q (kt d p true)<|kS d p true:=by
 have:=Hg d.neg d.m d.e hp iJ;rwa[hd.BK]at this
end
section
variable{N p:Nat}{e:Int}(hb:p<iE N)
def Li{g:Rat}(hg:GM p g):g<=(N:Rat)*P2 e\/((N+1:Nat):Rat)*P2 e<=g:=by
 obtain⟨gm,ge,b1,b2,b3,rfl⟩:=hg;by_cases hc:e<=ge
 .rw [uw (K:=e) hc<|cO _,uw (K:=e) (cO _) hc,show(e-e).toNat=0 by omega];omega
 .left;rw[uw (K:=ge) (cO _) aI,show(ge-ge).toNat=0 by omega,cH,cG];have h1:gm<2^p:=lE.1 b1;have h2:2^p<=N:=xr.1 hb;exact b9 (dU<|cg h1 h2)<|ib _<|bL aK
def Vu{x y:Rat}(x1:(N:Rat)*P2 e<x)(x2:x<((N+1:Nat):Rat)*P2 e)(y1:(N:Rat)*P2 e<y)(y2:y<((N+1:Nat):Rat)*P2 e){g:Rat}(hg:G p g):
 (g<=x↔g<=y)/\(x<=g↔y<=g)/\(g <= -x↔g <= -y)/\(-x<=g ↔ -y<=g):=by
 have hv:0<=(N:Rat)*P2 e:=bD cE<|bF<|nb _;have hG:∀ g,G p g->g<=(N:Rat)*P2 e\/((N+1:Nat):Rat)*P2 e<=g:=by
  intro g hg;by_cases h0:0<=g
  .exact Li hb<|hg.pos h0
  .left;grind
 have h1:=hG g hg;have h2:=hG (-g) hg.neg;generalize (N:Rat)*P2 e=A at *
 generalize ((N+1:Nat):Rat)*P2 e=B at *
 refine⟨?_,?_,?_,?_⟩<;>constructor<;>intro h<;>grind
end
def Df{N p:Nat}(E:Int)(hb:p<iE N)(neg up:Bool):j9 neg N E true p up=j9 neg (2*N+1) (E-1) false p up/\jW neg N E true p up=jW neg (2*N+1) (E-1) false p up:=by
 have h1:(2*N+1)/2^1=N:= aI ;have h:=KS (N:=2*N+1) (E:=E-1) (more:=false) (d:=1) (p:=p) neg up (by rw[h1];exact hb);have h2:decide ((2*N+1)%2^1≠0)=true:= aP ;rw[h1,h2,(aI:E-1+((1:Nat):Int)=E)]at h;exact h
def Hl{a b:Dy}(b0:b.m≠0){p:Nat}(hp:1<=p)(iJ:p<=4096):Dn p (a.q/b.q) (lj a b p false) (nZ a b p false)/\Up p (a.q/b.q) (lj a b p true) (nZ a b p true):=by
 by_cases a0:a.m=0
 .have hq:a.q=0:=by rw[qt,a0];simp
  have h0:(0:Rat)/b.q=0:=by rw[cB,fu]
  unfold lj nZ;rw[hq,h0,bA a0,bA a0,bA a0,bA a0];have hz:G p 0:=.inl<|yu p;exact⟨⟨λ_=>⟨by rw[r7];exact hz,by rw[r7];exact bH⟩,λg _ h=>⟨rfl,by rw[r7];exact h⟩⟩,⟨λ_=>⟨by rw[r7];exact hz,by rw[r7];exact bH⟩,λg _ h=>⟨rfl,by rw[r7];exact h⟩⟩⟩
 .have hb:=Pf a0 b0 p 2 aK ;unfold lj nZ;rw[bw a0,bw a0,bw a0,bw a0];generalize hk:kQ a b p 2=k at *
  generalize hs:(a.neg != b.neg)=s;generalize hE:a.e-b.e-(k:Int)=E0;have hB:(0:Rat)<(b.m:Rat):=dQ.2 aI;have Ya:=nb b.e;have hP:=nb E0;obtain⟨w,hw⟩:∃ w:Rat,w=(a.m:Rat)*P2 a.e/((b.m:Rat)*P2 b.e):=⟨_,rfl⟩
  have Zd:w*((b.m:Rat)*P2 b.e)=(a.m:Rat)*P2 a.e:=by
   have:(b.m:Rat)*P2 b.e≠0:=by have:=cR hB Ya;grind
   rw[hw];exact cV this
  have lI:a.q/b.q=if s then -w else w:=by
   have uU:b.q≠0:=by
    have:=cR hB Ya;rw[qt b];cases b.neg<;>simp<;>grind
   have hq:(if s then -w else w)*b.q=a.q:=by
    rw[qt a,qt b,<-hs,<-Zd];cases a.neg<;>cases b.neg<;>simp<;>grind
   rw[<-hq,gv uU]
  have Qx:=cN (a.m*2^k) b.m;have hr:=bQ (a.m*2^k) (aI:0<b.m);generalize hN:a.m*2^k/b.m=N at *
  generalize hR:a.m*2^k%b.m=R at *
  have akZ:(b.m:Rat)*(N:Rat)+(R:Rat)=(a.m:Rat)*((2^k:Nat):Rat):=by rw[<-cQ,<-cQ,<-dH,Qx]
  have hae:P2 a.e=((2^k:Nat):Rat)*P2 b.e*P2 E0:=by rw[<-vu,<-qZ,<-qZ];congr 1;omega
  have L5:w*(b.m:Rat)=((b.m:Rat)*(N:Rat)+(R:Rat))*P2 E0:=by
   have:w*(b.m:Rat)*P2 b.e=((b.m:Rat)*(N:Rat)+(R:Rat))*P2 E0*P2 b.e:=by
    rw[akZ,dP,Zd,hae];grind
   have jM:P2 b.e≠0:= aS ;have h2:=congrArg (· / P2 b.e) this;simp only[gv jM]at h2;exact h2
  by_cases h0:R=0
  .have IJ:w=(N:Rat)*P2 E0:=by
    rw[h0]at L5;have jM:(b.m:Rat)≠0:= aS ;have h2:w*(b.m:Rat)=((N:Rat)*P2 E0)*(b.m:Rat):=by rw[L5];simp;grind
    have h3:=congrArg (· / (b.m:Rat)) h2;simp only[gv jM]at h3;exact h3
   have hc:a.q/b.q=(canon s N E0).q:=by rw[lI,qO,IJ]
   rw[hc,bE<|by simpa using h0];exact⟨Dg _ _ _ hp iJ,Hg _ _ _ hp iJ⟩
  .have xS:(0:Rat)<(R:Rat):=dQ.2 aI ;have hRb:(R:Rat)<(b.m:Rat):=atv.2 hr;have w1:(N:Rat)*P2 E0<w:=by
    apply auj (c:=(b.m:Rat)) _<|bF hB;rw[L5];have:=cR xS hP
    grind
   have w2:w<((N+1:Nat):Rat)*P2 E0:=by
    apply auj (c:=(b.m:Rat)) _<|bF hB;rw[L5,dH];have:=cR (show(0:Rat)<(b.m:Rat)-(R:Rat)by grind) hP;simp
    grind
   have hh:P2 E0=2*P2 (E0-1):=by
    rw[GF (aI:E0-1<=E0),show(E0-(E0-1)).toNat=1 by omega];simp
   have v1:(N:Rat)*P2 E0<((2*N+1:Nat):Rat)*P2 (E0-1):=by
    have:=nb<|E0-1;rw[hh,dH,cQ];simp;grind
   have v2:((2*N+1:Nat):Rat)*P2 (E0-1)<((N+1:Nat):Rat)*P2 E0:=by
    have:=nb<|E0-1;rw[hh,dH,cQ,dH];simp;grind
   rw[bC<|by simpa using h0,(Df E0 hb s false).1,(Df E0 hb s false).2,(Df E0 hb s true).1,(Df E0 hb s true).2,lI];have A:=Dg s (2*N+1) (E0-1) hp iJ;have B:=Hg s (2*N+1) (E0-1) hp iJ;rw[qO]at A B;refine⟨A.of λg hg=>?_,B.of λg hg=>?_⟩
   .obtain ⟨k1,k2,k3,k4⟩:=Vu hb v1 v2 w1 w2 hg;cases s
    .exact k1
    .exact k3
   .obtain ⟨k1,k2,k3,k4⟩:=Vu hb v1 v2 w1 w2 hg;cases s
    .exact k2
    .exact k4
def Iv.ja(x:Iv)(r:Rat):Prop:=x.all=true\/(x.lo.q<=r/\r<=x.hi.q)
def Sub(x y:Iv):Prop:=y.all=true\/(x.all=false/\y.lo.q<=x.lo.q/\x.hi.q<=y.hi.q)
def Sub.refl(x:Iv):Sub x x:=by
 cases h:x.all
 .exact .inr ⟨h,bH,bH⟩
 .exact .inl h
def Sub.ja{x y:Iv}(h:Sub x y){r:Rat}(k:x.ja r):y.ja r:=by
 rcases h with h|⟨h1,h2,h3⟩
 .exact .inl h
 .rcases k with k|⟨k1,k2⟩
  .rw [h1]at k;cases k
  .exact .inr ⟨aS,aS⟩
def Sub.Bf{x y:Iv}(h:Sub x y)(k:y.all=false):x.all=false/\y.lo.q<=x.lo.q/\x.hi.q<=y.hi.q:=by
 rcases h with h|h
 .rw [h]at k;cases k
 .exact h
def Iv.iD.q{x:Iv}(h:x.iD):x.lo.q<=x.hi.q:=by
 rcases h with⟨_,h2,h3⟩|⟨_,_,_,h⟩
 .rw [h2,h3];exact bH
 .exact (qf _ _).1 h
section
variable{x:Iv}(h:x.iD)
def Iv.iD.EO:x.lo.mX/\x.hi.mX:=by
 rcases h with⟨_,h2,h3⟩|⟨_,h2,h3,_⟩
 .rw [h2,h3];exact⟨ri.canon,ri.canon⟩
 .exact ⟨h2.canon,h3.canon⟩
def Iv.iD.tK:x.ja x.lo.q:=.inr ⟨bH,h.q⟩
def Iv.iD.Fh:x.ja x.hi.q:=.inr ⟨h.q,bH⟩
end
structure AE(p:Nat)(S:Rat->Prop)(X:Iv):Prop where
 ja:∀ r,S r->X.ja r
 on:X.all=false->G p X.lo.q/\G p X.hi.q
 s9:∀ L U,G p L->G p U->(∀ r,S r->L<=r/\r<=U)->X.all=false/\L<=X.lo.q/\X.hi.q<=U
def AE.sub{p:Nat}{S T:Rat->Prop}{X Y:Iv}(h:AE p S X)(k:AE p T Y)(hs:∀ r,S r->T r):Sub X Y:=by
 cases hy:Y.all
 .right;obtain⟨k1,k2⟩:=k.on hy;refine h.s9 _ _ k1 k2 λr hr=>?_
  rcases k.ja r (hs r hr)with h1|h1
  .rw [hy]at h1;cases h1
  .exact h1
 .exact .inl hy
def C1{x y:Iv}(hx:x.iD)(hy:y.iD)(xa:x.all=false)(ya:y.all=false){p:Nat}(hp:1<=p)(iJ:p<=4096):
 AE p (λr=>∃ a b,x.ja a/\y.ja b/\r=a+b) (iZ x y p):=by
 have A:=M1 (Db hx.EO.1 hy.EO.1) hp iJ;have B:=M4 (Db hx.EO.2 hy.EO.2) hp iJ;rw[Sn]at A B;unfold iZ ns;rw[xa,ya];simp only[ato,cz,bN];have ja:∀ r,(∃ a b,x.ja a/\y.ja b/\r=a+b)->x.lo.q+y.lo.q<=r/\r<=x.hi.q+y.hi.q:=by
  rintro r ⟨a,b,ha,hb,rfl⟩;rcases ha with ha|ha
  .rw [xa]at ha;cases ha
  .rcases hb with hb|hb
   .rw [ya]at hb;cases hb
   .grind
 have s9:∀ L U,G p L->G p U->(∀ r,(∃ a b,x.ja a/\y.ja b/\r=a+b)->L<=r/\r<=U) ->
  (kS (jh x.lo y.lo) p false=0/\L<=(kt (jh x.lo y.lo) p false).q)/\kS (jh x.hi y.hi) p true=0/\(kt (jh x.hi y.hi) p true).q<=U:=λL U hL hU h=>
  ⟨A.2 L hL (h _ ⟨_,_,hx.tK,hy.tK,rfl⟩).1,B.2 U hU (h _ ⟨_,_,hx.Fh,hy.Fh,rfl⟩).2⟩
 split
 .rename_i he;refine⟨λ_ _=>.inl rfl,λh=>absurd h aK,λL U hL hU h=>?_⟩;obtain⟨⟨e1,_⟩,e2,_⟩:=s9 L U hL hU h;rcases he with he|he
  .exact absurd e1 he
  .exact absurd e2 he
 .rename_i he;obtain⟨a1,a2⟩:=A.1 aI;obtain⟨b1,b2⟩:=B.1 aI;refine⟨λr hr=>.inr ?_,λ_=>⟨a1,b1⟩,λL U hL hU h=>?_⟩
  .obtain ⟨h1,h2⟩:=ja r hr;exact⟨bI a2 h1,bI h2 b2⟩
  .obtain ⟨⟨_,e1⟩,_,e2⟩:=s9 L U hL hU h;exact⟨rfl,e1,e2⟩
def Ks{x y:Iv}(p:Nat)(h:x.all=true\/y.all=true):iZ x y p=iH:=by
 unfold iZ;rw[bA<|by rcases h with h|h<;>rw[h]<;>simp]
def vF{x y:Iv}(hx:x.iD)(hy:y.iD){p:Nat}(hp:1<=p)(iJ:p<=4096){a b:Rat}(ha:x.ja a)(hb:y.ja b):(iZ x y p).ja<|a+b:=by
 cases xa:x.all
 .cases ya:y.all
  .exact (C1 hx hy xa ya hp iJ).ja _ ⟨a,b,ha,hb,rfl⟩
  .rw [Ks p<|.inr ya];exact .inl rfl
 .rw [Ks p<|.inl xa];exact .inl rfl
def xv{x:Iv}{a:Rat}(ha:x.ja a):(lg x).ja (-a):=by
 unfold lg;rcases ha with ha|⟨h1,h2⟩
 .rw [bA ha];exact .inl rfl
 .split
  .exact .inl rfl
  .refine .inr ⟨?_,?_⟩
   .show (jl x.hi).q<=_;rw[oX];grind
   .show _<=(jl x.lo).q;rw[oX];grind
def Nn{x y:Iv}(hx:x.iD)(hy:y.iD){p:Nat}(hp:1<=p)(iJ:p<=4096){a b:Rat}(ha:x.ja a)(hb:y.ja b):(jP x y p).ja<|a-b:=by
 rw[Rat.sub_eq_add_neg];exact vF hx (nO hy) hp iJ ha<|xv hb
def XQ{p:Nat}{D:Dy->Dy->Bool->Dy}{E:Dy->Dy->Bool->Int}{f:Rat->Rat->Rat}{x y:Iv}{S:Rat->Prop}
 (hD:∀ a b,(a=x.lo\/a=x.hi)->(b=y.lo\/b=y.hi)->Dn p (f a.q b.q) (D a b false) (E a b false)/\Up p (f a.q b.q) (D a b true) (E a b true)/\S (f a.q b.q))
 (hS:∀ r,S r->(f x.lo.q y.lo.q<=r\/f x.lo.q y.hi.q<=r\/f x.hi.q y.lo.q<=r\/f x.hi.q y.hi.q<=r)/\(r<=f x.lo.q y.lo.q\/r<=f x.lo.q y.hi.q\/r<=f x.hi.q y.lo.q\/r<=f x.hi.q y.hi.q)):
 AE p S (ng D E x y):=by
 obtain⟨a1,a2,a3⟩:=hD x.lo y.lo (.inl rfl)<|.inl rfl;obtain⟨b1,b2,b3⟩:=hD x.lo y.hi (.inl rfl)<|.inr rfl;obtain⟨c1,c2,c3⟩:=hD x.hi y.lo (.inr rfl)<|.inl rfl;obtain⟨d1,d2,d3⟩:=hD x.hi y.hi (.inr rfl)<|.inr rfl;have s9:∀ L U,G p L->G p U->(∀ r,S r->L<=r/\r<=U) ->
  ((E x.lo y.lo false=0/\L<=(D x.lo y.lo false).q)/\E x.lo y.lo true=0/\(D x.lo y.lo true).q<=U)/\((E x.lo y.hi false=0/\L<=(D x.lo y.hi false).q)/\E x.lo y.hi true=0/\(D x.lo y.hi true).q<=U) /\
  ((E x.hi y.lo false=0/\L<=(D x.hi y.lo false).q)/\E x.hi y.lo true=0/\(D x.hi y.lo true).q<=U)/\((E x.hi y.hi false=0/\L<=(D x.hi y.hi false).q)/\E x.hi y.hi true=0/\(D x.hi y.hi true).q<=U):=λL U hL hU h=>
  ⟨⟨a1.2 L hL (h _ a3).1,a2.2 U hU (h _ a3).2⟩,⟨b1.2 L hL (h _ b3).1,b2.2 U hU (h _ b3).2⟩,⟨c1.2 L hL (h _ c3).1,c2.2 U hU (h _ c3).2⟩,⟨d1.2 L hL (h _ d3).1,d2.2 U hU (h _ d3).2⟩⟩
 unfold ng;split
 .rename_i he;obtain⟨⟨e1,e2⟩,⟨e3,e4⟩,⟨e5,e6⟩,⟨e7,e8⟩⟩:=he;obtain⟨ga,la⟩:=a1.1 e1;obtain⟨gA,lA⟩:=a2.1 e2;obtain⟨gb,lb⟩:=b1.1 e3;obtain⟨gB,lB⟩:=b2.1 e4;obtain⟨gc,lc⟩:=c1.1 e5;obtain⟨gC,lC⟩:=c2.1 e6;obtain⟨gd,ld⟩:=d1.1 e7;obtain⟨gD,lD⟩:=d2.1 e8;obtain⟨m1,m2,m3⟩:=Ei (D x.lo y.lo false)<|D x.lo y.hi false;obtain⟨m4,m5,m6⟩:=Ei (jv (D x.lo y.lo false)<|D x.lo y.hi false)<|D x.hi y.lo false;obtain⟨m7,m8,m9⟩:=Ei (jv (jv (D x.lo y.lo false)<|D x.lo y.hi false)<|D x.hi y.lo false)<|D x.hi y.hi false;obtain⟨n1,n2,n3⟩:=FZ (D x.lo y.lo true)<|D x.lo y.hi true;obtain⟨n4,n5,n6⟩:=FZ (jq (D x.lo y.lo true)<|D x.lo y.hi true)<|D x.hi y.lo true;obtain⟨n7,n8,n9⟩:=FZ (jq (jq (D x.lo y.lo true)<|D x.lo y.hi true)<|D x.hi y.lo true)<|D x.hi y.hi true;generalize (jv (D x.lo y.lo false)<|D x.lo y.hi false)=u1 at *
  generalize (jv u1<|D x.hi y.lo false)=u2 at *
  generalize (jv u2<|D x.hi y.hi false)=u3 at *
  generalize (jq (D x.lo y.lo true)<|D x.lo y.hi true)=v1 at *
  generalize (jq v1<|D x.hi y.lo true)=v2 at *
  generalize (jq v2<|D x.hi y.hi true)=v3 at *
  refine⟨λr hr=>.inr ?_,λ_=>⟨?_,?_⟩,λL U hL hU h=>⟨rfl,?_,?_⟩⟩
  .obtain ⟨h1,h2⟩:=hS r hr;constructor
   .show u3.q<=r;rcases h1 with h1|h1|h1|h1<;>grind
   .show r<=v3.q;rcases h2 with h1|h1|h1|h1<;>grind
  .show G p u3.q;rcases m9 with h|h
   .rw [h];rcases m6 with h|h
    .rw [h];rcases m3 with h|h<;>rw[h]<;>assumption
    .rw [h];assumption
   .rw [h];assumption
  .show G p v3.q;rcases n9 with h|h
   .rw [h];rcases n6 with h|h
    .rw [h];rcases n3 with h|h<;>rw[h]<;>assumption
    .rw [h];assumption
   .rw [h];assumption
  .obtain ⟨⟨⟨_,k1⟩,_,k2⟩,⟨⟨_,k3⟩,_,k4⟩,⟨⟨_,k5⟩,_,k6⟩,⟨⟨_,k7⟩,_,k8⟩⟩:=s9 L U hL hU h;show L<=u3.q;rcases m9 with h|h
   .rw [h];rcases m6 with h|h
    .rw [h];rcases m3 with h|h<;>rw[h]<;>assumption
    .rw [h];assumption
   .rw [h];assumption
  .obtain ⟨⟨⟨_,k1⟩,_,k2⟩,⟨⟨_,k3⟩,_,k4⟩,⟨⟨_,k5⟩,_,k6⟩,⟨⟨_,k7⟩,_,k8⟩⟩:=s9 L U hL hU h;show v3.q<=U;rcases n9 with h|h
   .rw [h];rcases n6 with h|h
    .rw [h];rcases n3 with h|h<;>rw[h]<;>assumption
    .rw [h];assumption
   .rw [h];assumption
 .rename_i he;refine⟨λ_ _=>.inl rfl,λh=>absurd h aK,λL U hL hU h=>?_⟩;obtain⟨⟨⟨k1,_⟩,k2,_⟩,⟨⟨k3,_⟩,k4,_⟩,⟨⟨k5,_⟩,k6,_⟩,⟨⟨k7,_⟩,k8,_⟩⟩:=s9 L U hL hU h;exact absurd ⟨⟨k1,k2⟩,⟨k3,k4⟩,⟨k5,k6⟩,k7,k8⟩ he
def Wn{a b c d x y:Rat}(h1:a<=x)(h2:x<=b)(h3:c<=y)(h4:y<=d):
 (a*c<=x*y\/a*d<=x*y\/b*c<=x*y\/b*d<=x*y)/\(x*y<=a*c\/x*y<=a*d\/x*y<=b*c\/x*y<=b*d):=by
 have mono:∀ {u v w:Rat},u<=v->0<=w->u*w<=v*w:=λh k=>bK h k
 have anti:∀ {u v w:Rat},u<=v->w<=0->v*w<=u*w:=by
  intro u v w h k;have:=mono h<|show 0 <= -w by grind
  grind
 have side:∀ t:Rat,(t*c<=t*y\/t*d<=t*y)/\(t*y<=t*c\/t*y<=t*d):=by
  intro t;rw[gw t c,gw t d,gw t y];rcases Rat.le_total (a:=0) (b:=t)with h|h
  .exact ⟨.inl<|mono h3 h,.inr<|mono h4 h⟩
  .exact ⟨.inr<|anti h4 h,.inl<|anti h3 h⟩
 have sa:=side a;have sb:=side b;rcases Rat.le_total (a:=0) (b:=y)with h|h
 .have m1:=mono h1 h;have m2:=mono h2 h;clear mono anti side;constructor
  .rcases sa.1 with k|k<;>grind
  .rcases sb.2 with k|k<;>grind
 .have m1:=anti h1 h;have m2:=anti h2 h;clear mono anti side;constructor
  .rcases sb.1 with k|k<;>grind
  .rcases sa.2 with k|k<;>grind
def Iv.ja.kA{x:Iv}{r:Rat}(h:x.ja r)(k:x.all=false):x.lo.q<=r/\r<=x.hi.q:=by
 rcases h with h|h
 .rw [k]at h;cases h
 .exact h
def KM(a b:Dy):(mJ a b).mX:=sG _ _ _
def Co{x y:Iv}(hx:x.iD)(hy:y.iD)(xa:x.all=false)(ya:y.all=false){p:Nat}(hp:1<=p)(iJ:p<=4096):
 AE p (λr=>∃ a b,x.ja a/\y.ja b/\r=a*b) (iO x y p):=by
 unfold iO;rw[xa,ya];simp only[ato,cz,bN];refine XQ (f:=λa b=>a*b) (λa b ha hb=>⟨?_,?_,a.q,b.q,?_,?_,rfl⟩) λr ⟨a,b,ha,hb,e⟩=>?_
 .have:=M1 (KM a b) hp iJ;rwa[MJ]at this
 .have:=M4 (KM a b) hp iJ;rwa[MJ]at this
 .rcases ha with rfl|rfl;exact hx.tK;exact hx.Fh
 .rcases hb with rfl|rfl;exact hy.tK;exact hy.Fh
 .obtain ⟨h1,h2⟩:=ha.kA xa;obtain⟨h3,h4⟩:=hb.kA ya;rw[e];exact Wn h1 h2 h3 h4
def Cp{x y:Iv}(p:Nat)(h:x.all=true\/y.all=true):iO x y p=iH:=by
 unfold iO;rw[bA<|by rcases h with h|h<;>rw[h]<;>simp]
def wH{x y:Iv}(hx:x.iD)(hy:y.iD){p:Nat}(hp:1<=p)(iJ:p<=4096){a b:Rat}(ha:x.ja a)(hb:y.ja b):(iO x y p).ja<|a*b:=by
 cases xa:x.all
 .cases ya:y.all
  .exact (Co hx hy xa ya hp iJ).ja _ ⟨a,b,ha,hb,rfl⟩
  .rw [Cp p<|.inr ya];exact .inl rfl
 .rw [Cp p<|.inl xa];exact .inl rfl
def am6{x y x' y':Iv}(hx:x.iD)(hy:y.iD)(xX:x'.iD)(q9:y'.iD){p:Nat}(hp:1<=p)(iJ:p<=4096)(h:Sub x x')(k:Sub y y'):Sub (iO x y p)<|iO x' y' p:=by
 cases xa:x'.all
 .cases ya:y'.all
  .exact (Co hx hy (h.Bf xa).1 (k.Bf ya).1 hp iJ).sub (Co xX q9 xa ya hp iJ) λr ⟨a,b,ha,hb,e⟩=>⟨a,b,h.ja ha,k.ja hb,e⟩
  .rw [Cp p<|.inr ya];exact .inl rfl
 .rw [Cp p<|.inl xa];exact .inl rfl
def Rn{b c:Rat}(h0:0<c)(h:c<=b):b⁻¹<=c⁻¹:=by
 have hb:0<b:= aS ;apply dG (c:=b*c) _<|cR hb h0;have e1:b⁻¹*(b*c)=c:=by rw[<-dP,atw _ aS,eI]
 have e2:c⁻¹*(b*c)=b:=by rw[gw b c,<-dP,atw _ aS,eI]
 rw[e1,e2];exact h
def aaN(b:Rat):(-b)⁻¹ = -b⁻¹:=by
 by_cases h:b=0
 .rw [h];simp
 .have h1:(-b)⁻¹*(-b)=1:=atw _ aS ;have h2:b⁻¹*b=1:=atw _ h;have h3:(-b)⁻¹*(-b)*b⁻¹=b⁻¹:=by rw[h1,eI]
  grind
def ZC{b c:Rat}(h0:b<0)(h:c<=b):b⁻¹<=c⁻¹:=by
 have:=Rn (b:=-c) (c:=-b) aS aS;rw[aaN,aaN]at this
 grind
def Ng{y:Iv}(_hy:y.iD)(h:lL y≠0):y.all=false/\(0<y.lo.q\/y.hi.q<0):=by
 unfold lL at h;cases ya:y.all
 .rw [ya]at h;simp only[cz,bN]at h;refine⟨rfl,?_⟩;split at h
  .rename_i h1;exact .inl<|(rA _).1.1 h1
  .split at h
   .rename_i h1;exact .inr<|(rA _).2.1 h1
   .exact absurd rfl h
 .rw [ya]at h;simp at h
def ac2{y:Iv}(ya:y.all=false)(h:0<y.lo.q\/y.hi.q<0):lL y≠0:=by
 unfold lL;rw[ya];simp only[cz,bN];rcases h with h|h
 .rw [bA<|(rA _).1.2 h];decide
 .split
  .decide
  .rw [bA<|(rA _).2.2 h];decide
def amO{d:Dy}(h:d.q≠0):d.m≠0:=by
 intro h0;apply h;rw[qt,h0];simp
def Di{x y:Iv}(hx:x.iD)(hy:y.iD)(xa:x.all=false)(hs:lL y≠0){p:Nat}(hp:1<=p)(iJ:p<=4096):
 AE p (λr=>∃ a b,x.ja a/\y.ja b/\r=a/b) (jo x y p):=by
 obtain⟨ya,h0⟩:=Ng hy hs;have hle:=hy.q;unfold jo;rw[xa,ya,bE hs];simp only[ato,cz,bN];refine XQ (f:=λa b=>a/b) (λa b ha hb=>?_) λr ⟨a,b,ha,hb,e⟩=>?_
 .have b0:b.m≠0:=amO (by rcases hb with rfl|rfl<;>grind);obtain⟨h1,h2⟩:=Hl (a:=a) b0 hp iJ;refine⟨h1,h2,a.q,b.q,?_,?_,rfl⟩
  .rcases ha with rfl|rfl;exact hx.tK;exact hx.Fh
  .rcases hb with rfl|rfl;exact hy.tK;exact hy.Fh
 .obtain ⟨h1,h2⟩:=ha.kA xa;obtain⟨h3,h4⟩:=hb.kA ya;have i1:y.hi.q⁻¹<=b⁻¹:=by
   rcases h0 with h0|h0
   .exact Rn aS h4
   .exact ZC aS h4
  have i2:b⁻¹<=y.lo.q⁻¹:=by
   rcases h0 with h0|h0
   .exact Rn h0 h3
   .exact ZC aS h3
  obtain⟨k1,k2⟩:=Wn h1 h2 i1 i2;rw[e];simp only[cB];exact⟨aS,aS⟩
def AP{x y:Iv}(p:Nat)(h:x.all=true\/lL y=0):jo x y p=iH:=by
 unfold jo;rw[bA<|by rcases h with h|h<;>rw[h]<;>simp]
def Hk{x y:Iv}(hx:x.iD)(hy:y.iD){p:Nat}(hp:1<=p)(iJ:p<=4096){a b:Rat}(ha:x.ja a)(hb:y.ja b):(jo x y p).ja<|a/b:=by
 cases xa:x.all
 .by_cases hs:lL y=0
  .rw [AP p<|.inr hs];exact .inl rfl
  .exact (Di hx hy xa hs hp iJ).ja _ ⟨a,b,ha,hb,rfl⟩
 .rw [AP p<|.inl xa];exact .inl rfl
def ah5{x y x' y':Iv}(hx:x.iD)(hy:y.iD)(xX:x'.iD)(q9:y'.iD){p:Nat}(hp:1<=p)(iJ:p<=4096)(h:Sub x x')(k:Sub y y'):Sub (jo x y p)<|jo x' y' p:=by
 cases xa:x'.all
 .by_cases hs:lL y'=0
  .rw [AP p<|.inr hs];exact .inl rfl
  .obtain ⟨ya,h0⟩:=Ng q9 hs;obtain⟨y1,y2,y3⟩:=k.Bf ya;have sO:lL y≠0:=ac2 y1 aS;exact(Di hx hy (h.Bf xa).1 sO hp iJ).sub (Di xX q9 xa hs hp iJ) λr ⟨a,b,ha,hb,e⟩=>⟨a,b,h.ja ha,k.ja hb,e⟩
 .rw [AP p<|.inl xa];exact .inl rfl
def yf{x:Iv}(h:x.lo.q<=x.hi.q):x.hi.q<=(mB x).q /\ -x.lo.q<=(mB x).q/\((mB x).q=x.hi.q\/(mB x).q = -x.lo.q):=by
 obtain⟨a1,a2,a3,a4⟩:=FY x.lo;obtain⟨b1,b2,b3,b4⟩:=FY x.hi;obtain⟨c1,c2,c3⟩:=FZ (mG x.lo)<|mG x.hi;unfold mB;generalize (jq (mG x.lo)<|mG x.hi).q=M at *
 refine⟨aS,aS,?_⟩;rcases c3 with c3|c3
 .rcases a4 with a4|a4
  .grind
  .grind
 .rcases b4 with b4|b4
  .grind
  .grind
def amT{x x':Iv}(hx:x.iD)(xX:x'.iD)(h:Sub x x')(xa:x'.all=false):(mB x).q<=(mB x').q:=by
 obtain⟨h1,h2,h3⟩:=h.Bf xa;obtain⟨a1,a2,a3⟩:=yf hx.q;obtain⟨b1,b2,b3⟩:=yf xX.q
 grind
def Cm{x:Iv}(hx:x.iD)(xa:x.all=false):0<=(nV x).q/\(x.lo.q<=0->0<=x.hi.q->(nV x).q=0)/\(0<x.lo.q->(nV x).q=x.lo.q)/\(x.hi.q<0->(nV x).q = -x.hi.q):=by
 have hle:=hx.q;obtain⟨a1,a2,a3,a4⟩:=FY x.lo;obtain⟨b1,b2,b3,b4⟩:=FY x.hi;obtain⟨c1,c2,c3⟩:=Ei (mG x.lo)<|mG x.hi;by_cases hs:lL x=0
 .have hn:¬(0<x.lo.q\/x.hi.q<0):=λh=>ac2 xa h hs
  have:nV x=jK:=by unfold nV;rw[bA hs]
  rw[this,r7];refine⟨bH,λ_ _=>rfl,λh=>absurd (.inl h) hn,λh=>absurd (.inr h) hn⟩
 .obtain ⟨_,h0⟩:=Ng hx hs;have:nV x=jv (mG x.lo) (mG x.hi):=by unfold nV;rw[bw hs]
  rw[this];generalize (jv (mG x.lo)<|mG x.hi).q=M at *
  generalize (mG x.lo).q=u at *
  generalize (mG x.hi).q=v at *
  refine⟨aS,aS,aS,aS⟩
def asV{x x':Iv}(hx:x.iD)(xX:x'.iD)(h:Sub x x'):Sub (iW x)<|iW x':=by
 cases xa:x'.all
 .obtain ⟨h1,h2,h3⟩:=h.Bf xa;unfold iW;rw[h1,xa];refine .inr ⟨rfl,?_,amT hx xX h xa⟩;show(nV x').q<=(nV x).q;obtain⟨a1,a2,a3,a4⟩:=Cm hx h1;obtain⟨b1,b2,b3,b4⟩:=Cm xX xa;have:=hx.q;by_cases c1:0<x'.lo.q
  .rw [b3 c1,a3 aS];exact h2
  .by_cases c2:x'.hi.q<0
   .rw [b4 c2,a4 aS];grind
   .rw [b2 aS aS];exact a1
 .refine .inl ?_;unfold iW;rw[bA xa];rfl
def Om{x:Iv}(hx:x.iD){r s:Rat}(h:x.ja r)(hs:s=r/\0<=r\/s = -r/\r<=0):(iW x).ja s:=by
 unfold iW;cases xa:x.all
 .obtain ⟨h1,h2⟩:=h.kA xa;obtain⟨a1,a2,a3⟩:=yf hx.q;obtain⟨b1,b2,b3,b4⟩:=Cm hx xa;refine .inr ⟨?_,?_⟩
  .show (nV x).q<=s;by_cases c1:0<x.lo.q
   .rw [b3 c1];grind
   .by_cases c2:x.hi.q<0
    .rw [b4 c2];grind
    .rw [b2 aS aS];grind
  .show s<=(mB x).q
   grind
 .exact .inl rfl
def MH(d:Dy):(mT d).ja d.q:=.inr ⟨bH,bH⟩
def yi(n:Int):(iT n).ja (n:Rat):=by have:=MH<|kV n;rwa[uA]at this
section
variable{T p:Nat}{E:Int}(hT:iE T=p)
def X1(hp:1<=p){g:Rat}(hg:GM p g):g<=(T:Rat)*P2 E\/((T+1:Nat):Rat)*P2 E<=g:=by
 obtain⟨gm,ge,b1,b2,b3,rfl⟩:=hg;by_cases hc:E<=ge
 .rw [uw (K:=E) hc<|cO _,uw (K:=E) (cO _) hc,show(E-E).toNat=0 by omega];omega
 .left;rw[uw (K:=ge) (cO _) aI,show(ge-ge).toNat=0 by omega,cH,cG];have h1:gm<2^p:=lE.1 b1;have h2:2^(p-1)<=T:=xr.1 aI;have h3:2^1<=2^(E-ge).toNat:=bZ aK aI;have h4:=dE h2 h3;rw[<-bG,(aI:p-1+1=p)]at h4;omega
section
variable(hp:1<=p)(h1:-16384<=E)
def anH(h2:(p:Int)+E<=16384){v:Rat}(zX:(T:Rat)*P2 E<=v)(qJ:v<((T+1:Nat):Rat)*P2 E):Dn p v (canon false T E) 0:=by
 have e:(canon false T E).q=(T:Rat)*P2 E:=by rw[qO];simp
 have h0:0<=(T:Rat)*P2 E:=bD cE<|bF<|nb E;refine⟨λ_=>⟨by rw[e];exact .inl ⟨T,E,aI,h1,aI,rfl⟩,by rw[e];exact zX⟩,λg hg QH=>⟨rfl,?_⟩⟩;rw[e];by_cases Im:0<=g
 .rcases X1 (E:=E) hT hp (hg.pos Im)with k|k
  .exact k
  .exfalso;grind
 .grind
def anJ(h2:(p:Int)+E+1<=16384){v:Rat}(zX:(T:Rat)*P2 E<v)(qJ:v<=((T+1:Nat):Rat)*P2 E):Up p v (canon false (T+1) E) 0:=by
 have e:(canon false (T+1) E).q=((T+1:Nat):Rat)*P2 E:=by rw[qO];simp
 have h0:0<=(T:Rat)*P2 E:=bD cE<|bF<|nb E;refine⟨λ_=>⟨?_,by rw[e];exact qJ⟩,λg hg QH=>⟨rfl,?_⟩⟩
 .rw [e];have je:T<2^p:=lE.1 aI;by_cases hb:T+1<2^p
  .exact .inl ⟨T+1,E,lE.2 hb,h1,by have:=lE.2 hb;omega,rfl⟩
  .refine .inl ⟨1,(p:Int)+E,by rw[zF];exact hp,aI,by rw[zF];omega,?_⟩;rw[(aI:T+1=2^p),qZ,vu,show((1:Nat):Rat)=1 from rfl,eI]
 .rw [e];have Im:0<=g:= aS ;rcases X1 (E:=E) hT hp (hg.pos Im)with k|k
  .exfalso;grind
  .exact k
end
def ajh(h1:-16384<=E)(h2:(p:Int)+E<=16384){v:Rat}(hv:v=(T:Rat)*P2 E):Up p v (canon false T E) 0:=by
 have e:(canon false T E).q=(T:Rat)*P2 E:=by rw[qO];simp
 exact⟨λ_=>⟨by rw[e];exact .inl ⟨T,E,aI,h1,aI,rfl⟩,by rw[e,hv];exact bH⟩,λg _ hg=>⟨rfl,by rw[e,<-hv];exact hg⟩⟩
end
section
variable{p:Nat}{v:Rat}{D D':Dy}{E':Int}
def aid(h:Dn p v D 0)(k:Dn p v D' E')(hc:D.mX)(Dv:D'.mX):E'=0/\D'=D:=by
 obtain⟨g,hl⟩:=h.1 rfl;obtain⟨he,hle⟩:=k.2 _ g hl;obtain⟨g',qm⟩:=k.1 he;obtain⟨_,Ft⟩:=h.2 _ g' qm;exact⟨he,Sm Dv hc<|fw Ft hle⟩
def asB(h:Up p v D 0)(k:Up p v D' E')(hc:D.mX)(Dv:D'.mX):E'=0/\D'=D:=by
 obtain⟨g,hl⟩:=h.1 rfl;obtain⟨he,hle⟩:=k.2 _ g hl;obtain⟨g',qm⟩:=k.1 he;obtain⟨_,Ft⟩:=h.2 _ g' qm;exact⟨he,Sm Dv hc<|fw hle Ft⟩
end
end Go.Proofs.YtbbefgegdllpmaaGreatDoor.Fp
namespace Go.Proofs.YtbbefgegdllpmaaGreatDoor
open Go.RowKit Fp Pu
abbrev kK(xs:List Iv):Nat->Nat->E:=λi j=>(ju<|xs.getD i iH).getD j .any
def Me(x:Iv)(j:Nat)(hj:j<7):((ju x).getD j .any).nr 2=true:=by
 rcases j with _|_|_|_|_|_|_|j
 all_goals first|rfl|omega
def amc{T n:Nat}{xs:List Iv}{y:Iv}(hn:n=xs.length):
 Bx.le (.row true T (n+[y].length) 7 λi j=>if i<n then kK xs i j else(E.jV<|iQ [y]) (i-n) j) (.row true T (xs++[y]).length 7<|kK<|xs++[y]):=by
 subst hn;refine .row aP λi j hi hj=>⟨.jm ?_,Me _ _ hj⟩
 by_cases h:i<xs.length
 .rw [bA h];show(ju<|xs.getD i iH).getD j .any=(ju<|(xs++[y]).getD i iH).getD j .any;congr 2;simp[bJ,fY h]
 .have kG:i=xs.length:=by simp at hi;omega
  subst kG;rw[bw h,dD];show(ju y).getD j .any=(ju<|(xs++[y]).getD xs.length iH).getD j .any;congr 2;simp[bJ]
def wM{α:Type}(y:α):[y].length=1:=rfl
def MR{n i:Nat}{F:Nat->Iv}(h:i<n):((List.range n).map F).getD i iH=F i:=by
 simp[bJ,h]
def asZ{α:Type}{l:List α}{i:Nat}{d:α}(h:i<l.length):l.getD i d=l[i]:=by
 rw[bJ,bS h];rfl
def yZ{T n n' k:Nat}{F:Nat->Iv}{y:Iv}(hn:n=k)(A5:n'=k+1)(hy:y=F k):
 Bx.le (.row true T (n+[y].length) 7 λi j=>if i<n then kK ((List.range k).map F) i j else(E.jV<|iQ [y]) (i-n) j) (.row true T n' 7<|kK<|(List.range<|k+1).map F):=by
 subst hn A5 hy;refine .row rfl λi j hi hj=>⟨.jm ?_,Me _ _ hj⟩
 have hi:i<n+1:=hi;by_cases h:i<n
 .rw [bA h];simp only[kK];rw[MR h,MR hi]
 .have kG:i=n:= aI ;subst kG;rw[bw h,dD];simp only[kK];rw[MR hi];rfl
def Aa{n:Nat}{M:List Iv}(hn:n=M.length):E.le (.sl true n 7<|kK M)<|iQ M:=by subst hn;exact .refl _
def aij(s:Bool)(L:List Nat)(e:Int)(hk:jc L)(hl:L.length<=256)(lG:-1000000<=e)(kW:e<=1000000):iA 121 [bP s,iG L,iP e]<|iF<|canon s (val L) e:=by
 refine⟨call121,λw B vs hK hB hr=>?_⟩;obtain⟨v1,vs,rfl,h1,hr⟩:=hr.nc;obtain⟨v2,vs,rfl,h2,hr⟩:=hr.nc;obtain⟨v3,vs,rfl,h3,hr⟩:=hr.nc;obtain rfl:=hr.rz;obtain rfl:=jd.lh h1;obtain rfl:=jd.lh h3;obtain⟨A,c,rfl,s1⟩:=xy hk h2;exact(K2 s A c L e w s1 aI (by have:=pV L;unfold mV at this;omega) lG kW hK).mono λe w' h=>rd B w e w' hB h
def asn(x y:Nat):E.le (.sl false 2 1 λi j=>[E.v<|.int .u32 (x:Int),.v<|.int .u32 (y:Int)].getD (i*1+j)<|.v<|.bool false)<|iG [x,y]:=.sl λi j hi hj=>by
 obtain rfl:j=0:= aI ;obtain rfl|rfl:i=0\/i=1:= aI 
 .exact ⟨.refl _,rfl⟩
 .exact ⟨.refl _,rfl⟩
def Md(n:Nat):kV (n:Int)=canon false n 0:=by
 unfold kV mz;rw[bE aI,eo]
def Zx(n:Nat)(h:n<4294967296):(kV (n:Int)).iD:=by
 rw[Md];refine⟨sG _ _ _,?_⟩;by_cases h0:n=0
 .subst h0;exact .inl rfl
 .have:=EM (s:=false) (e:=0) h0;have hb:iE n<=32:=lE.2 h;refine .inr ⟨aI,aI,?_,aI⟩;obtain⟨h1,h2,h3,h4⟩:=this;have:=og h3;omega
def asJ(x y:Nat):val [x,y]=x+4294967296*y:=by simp[val]
def Jm(n:Nat)(h:n<4294967296):(iT (n:Int)).iD:=tS<|Zx n h
structure Fp.Iv.NN(x:Iv):Prop where
 lo:x.lo.neg=false
 hi:x.hi.neg=false
section
variable {m m':List<|List Iv} {h h':Iv} {n p:Nat}
def Cs(j:Nat)(hj:j<4294967296):(iT (j:Int)).iD:=tS<|Zx j hj
end
def aoD{d:Dy}(h:d.neg=false):0<=d.q:=by
 rw[qt,h];exact bD cE<|bF<|nb _
def Fp.Iv.ja.nn{x:Iv}{r:Rat}(h:x.ja r)(k:x.all=false)(hx:x.NN):0<=r/\r<=x.hi.q:=by
 obtain⟨h1,h2⟩:=h.kA k;have:=aoD hx.lo;exact⟨aS,h2⟩
def CF(s:Bool)(m:Nat)(e:Int)(hl:(iB m).length<=3000:=by omega)(lG:-1000000<=e:=by omega)(kW:e<=1000000:=by omega):iA 104 [bP s,iG<|iB m,iP e]<|iF<|canon s m e:=by
 refine⟨call104,λw B vs hK hB hr=>?_⟩;obtain⟨v1,vs,rfl,h1,hr⟩:=hr.nc;obtain⟨v2,vs,rfl,h2,hr⟩:=hr.nc;obtain⟨v3,vs,rfl,h3,hr⟩:=hr.nc;obtain rfl:=hr.rz;obtain rfl:=jd.lh h1;obtain rfl:=jd.lh h3;obtain⟨A,c,rfl,s1⟩:=xy (lO m) h2;have:=JG s A c (iB m) e w s1 hl lG kW;rw[kE]at this;exact this.mono λe w' h=>rd B w e w' hB h
def F5(a:Dy)(ha:a.iD):iA 101 [iF a]<|bP true:=Af call101 (λA c w h _=>aqp a A c w h ha) rv
def JH(a:Dy):iA 135 [iF a]<|iP a.jB:=Af call135 (λA c w h _=>aqk a A c w h) rv
def Br(a:Dy):iA 93 [iF a]<|iF<|jl a:=
 Af call93 (λA c w h _=>by
  have:=aqa a.neg A c (iB a.m) a.e w h<|Av _;rw[kE]at this;exact this) rd
def zf(a:Dy)(ha:xH a):iA 141 [iF a]<|iP a.jb:=Af call141 (λA c w h _=>aqn a A c w h ha) rv
def ap7(n:Nat)(hn:n<4294967296):iA 56 [iP (n:Int)]<|iF<|canon false n 0:=by
 refine⟨call56,λw B vs hK hB hr=>?_⟩;obtain⟨v1,vs,rfl,h1,hr⟩:=hr.nc;obtain rfl:=hr.rz;obtain rfl:=jd.lh h1;exact(ap6 n w hn).mono λe w' h=>rd B w e w' hB h
end Go.Proofs.YtbbefgegdllpmaaGreatDoor
namespace Go.Proofs.YtbbefgegdllpmaaGreatDoor.Fp
def aae(m k:Nat):kP (m/2^k*2^k) m=0↔m%2^k=0:=by
 have h1:=cN m<|2^k;rw[bR]at h1;unfold kP;split
 .simp;omega
 .split
  .have:=eH m<|2^k;omega
  .simp;omega
section
variable{neg up more:Bool}{m p q:Nat}{e:Int}(hq:lF m e more p (neg != up)=q)
def Wu(h:q=0\/¬16384<(iE q:Int)+e+jy m e p):j9 neg m e more p up=canon neg q (e+jy m e p)/\jW neg m e more p up=0:=by
 have ho:mQ m e more p (neg != up)=false:=by
  unfold mQ;rw[hq];rcases h with h|h
  .simp [h]
  .simp [h]
 unfold j9 jW;rw[ho,hq];simp
def Ww(h0:q≠0)(h:16384<(iE q:Int)+e+jy m e p):
 ((neg != up)=true->j9 neg m e more p up=jK/\jW neg m e more p up=9)/\((neg != up)=false->j9 neg m e more p up=canon neg (2^p-1) (16384-p)/\jW neg m e more p up=0):=by
 have ho:mQ m e more p (neg != up)=true:=by unfold mQ;rw[hq];simp[h0,h]
 unfold j9 jW;rw[ho];constructor
 .intro hn;rw[hn];exact⟨rfl,rfl⟩
 .intro hn;rw[hn];exact⟨rfl,rfl⟩
end
end Go.Proofs.YtbbefgegdllpmaaGreatDoor.Fp
namespace Go.Proofs.YtbbefgegdllpmaaGreatDoor
open Go.RowKit Fp Pu
def aqh(d:Dy)(k:Int)(hd:d.iD)(pB:-32768<=k)(tL:k<=32768)(hr:oC<|canon d.neg d.m<|d.e+k):iA 55 [iF d,iP k]<|.iK [iF<|canon d.neg d.m<|d.e+k,iP 0]:=by
 refine⟨call55,λw B vs hK hB ID=>?_⟩;obtain⟨v1,vs,rfl,h1,ID⟩:=ID.nc;obtain⟨v2,vs,rfl,h2,ID⟩:=ID.nc;obtain rfl:=ID.rz;obtain⟨A,c,rfl,s1⟩:=K3 h1;obtain rfl:=jd.lh h2;have:=aqi d.neg A c (iB d.m) d.e k w s1 hd.yH pB tL (by rw[kE];exact hr);rw[kE]at this;exact this.mono λe w' h=>SB B w e w' hB h
def VR{n:Int}{e:Int}:canon (kV n).neg (kV n).m ((kV n).e+e)=mz n e:=by
 unfold kV mz;by_cases h:n.natAbs=0
 .rw [h,EN,EN];show canon false 0 _=_;rw[EN]
 .have h1:=KY h;rw[show canon (decide (n<0)) n.natAbs 0=⟨decide (n<0),n.natAbs/2^kq n.natAbs,0+(kq n.natAbs:Int)⟩by unfold canon;rw[bw h]];show canon (decide (n<0)) (n.natAbs/2^kq n.natAbs) (0+(kq n.natAbs:Int)+e)=_;rw[<-OR _ _ _ (kq n.natAbs),h1];congr 1;omega
def AL{n e:Int}(h1:n.natAbs<4294967296)(h2:-1000<=e)(h3:e<=1000):(mz n e).iD:=by
 refine⟨sG _ _ _,?_⟩;unfold mz;by_cases h0:n.natAbs=0
 .rw [h0,EN];exact .inl rfl
 .have:=EM (s:=decide (n<0)) (e:=e) h0;have hb:iE n.natAbs<=32:=lE.2 h1;obtain⟨h4,h5,h6,_⟩:=this;have:=og h6;exact .inr ⟨aI,aI,aI,aI⟩
def IT{n:Int}(h1:n.natAbs<4294967296):(kV n).iD:=AL h1 aK aK 
def ap5(k:Nat)(w:World)(h0:0<k)(hn:k<4294967296):
 Calls prog 56 #[.int .i64 (-(k:Int))] w (vv w<|canon true k 0):=by
 have hm:=yA k;have uX:(k:Int)%4294967296=k:= aI ;rw[uX]at hm;have hd:(k:Int)/4294967296=0:= aI ;have je:(-(k:Int))<0:= aI ;have Qw:decide ((-(k:Int))<0)=true:=bC je;have hu:IntKind.u64.wrap (-(k:Int))=18446744073709551616-k:=by rw[IntKind.wrap_u64];omega
 have hs:IntKind.u64.wrap (-(18446744073709551616-(k:Int)))=k:=by rw[IntKind.wrap_u64];omega
 have HC:=aum λ(A:Option Addr) c w (h:Sl w A c [k,0])=>JG true A c [k,0] 0 w h aP aK aK;have hv:val [k,0]=k:= aP ;rw[hv]at HC;clear hv;generalize canon true k 0=d at *
 generalize hN:(-(k:Int))=N at *
 go_enter func56,ntmps56;go_wp2_with fail;refine(HC.out _ _ _<|Sl.Aw _ _ aP _ _ k 0 rfl rfl hn aK).mono ?_;rintro r w1 ⟨A1,c1,rfl,sO,lu⟩;have qi:iY (w.alloc<|.cells #[.bool false,.slice none 0 0,.int .i64 0] 31) w1:=(iY.alloc _ _).trans lu;have bx:=(jO.new w false none 0 0 0).ext qi;have b0:=bx.c0;have b1:=bx.c1;have b2:=bx.c2;have f0:=bx.fr 0;have f1:=bx.fr 1;have f2:=bx.fr 2;go_wp2;exact uc rfl rfl rfl (bx.set _ _ _ _ _) rfl (bx.uE sO _ _ _ _ _) (jO.tV ((iY.alloc _ _).trans qi) (bB _) _ _ _ _ _)
def Zw(k:Nat)(h0:0<k):kV (-(k:Int))=canon true k 0:=by
 unfold kV mz;rw[bC<|show(-(k:Int))<0 by omega,gp,eo]
def F4(n:Int)(h:n.natAbs<4294967296:=by omega):iA 56 [iP n]<|iF<|kV n:=by
 by_cases h0:0<=n
 .obtain ⟨k,rfl⟩:=eh h0;rw[Md];exact ap7 k aI 
 .obtain ⟨k,rfl⟩:∃ k:Nat,n = -(k:Int):=⟨n.natAbs,aI⟩
  rw[Zw k aI];refine⟨call56,λw B vs hK hB hr=>?_⟩;obtain⟨v1,vs,rfl,h1,hr⟩:=hr.nc;obtain rfl:=hr.rz;obtain rfl:=jd.lh h1;exact(ap5 k w aI aI).mono λe w' h=>rd B w e w' hB h
open Classical in
noncomputable def Fp.th(d:Dy)(k:Int):Dy:=if oC (canon d.neg d.m<|d.e+k)then canon d.neg d.m (d.e+k)else jK
open Classical in
noncomputable def Fp.uC(d:Dy)(k:Int):Int:=if oC (canon d.neg d.m<|d.e+k)then 0 else 9
def acI(d:Dy)(k:Int):(th d k).iD:=by
 unfold th;split
 .rename_i h;exact⟨sG _ _ _,h⟩
 .exact ri
noncomputable def Fp.kI(x:Iv)(k:Int):Iv:=if x.all then iH else ns (th x.lo k) (uC x.lo k) (th x.hi k) (uC x.hi k)
def Fp.yC(x:Iv):Iv:=if x.all then x else⟨jl<|mB x,mB x,false⟩
def Fp.ko(n:Int):Dy:=canon false 1 n
def s6(y:Iv):Nat->Iv
 | 0=>iT 1
 |j+1=>jo (iO (s6 y j) y 320) (iT ((j+1:Nat):Int)) 320
def zM(y:Iv):Nat->Iv
 | 0=>iT 1
 |j+1=>iZ (zM y j) (s6 y<|j+1) 320
def W3(y:Iv):Iv:=iZ (zM y 20) (yC<|iO (jo (iO (s6 y 20) y 320) (iT 21) 320) (iT 2) 320) 320
def yJ(y:Iv):Nat->Iv
 | 0=>W3 y
 |j+1=>iO (yJ y j) (yJ y j) 320
def lY{n:Int}(h:n.natAbs<4294967296:=by omega):(iT n).iD:=tS<|IT h
def Ov{x:Iv}(hx:x.iD):(yC x).iD:=by
 unfold yC;cases lp:x.all
 .have he:=hx.kA;have hm:=RL he.1 he.2;simp only[cz,bN];refine .inr ⟨rfl,ru hm,hm,?_⟩;show jI (jl<|mB x) (mB x)<=0;rw[qf,oX];obtain⟨a1,a2,_⟩:=yf hx.q;have:=hx.q
  grind
 .exact hx
def SV{d:Dy}{k:Int}(h:uC d k=0):th d k=canon d.neg d.m (d.e+k):=by
 unfold uC at h;unfold th;split at h
 .rename_i h1;rw[bA h1]
 .cases h
def Gc{d:Dy}{k:Int}(h:uC d k=0:=by omega):(th d k).q=d.q*P2 k:=by
 rw[SV h,qO,qt d,qZ];cases d.neg<;>simp<;>grind
def rB{x:Iv}(hx:x.iD)(k:Int):(kI x k).iD:=by
 unfold kI;split
 .exact nP
 .unfold ns;split
  .exact nP
  .rename_i h;refine .inr ⟨rfl,acI _ _,acI _ _,?_⟩;rw[qf,Gc,Gc,D6];exact hx.q
def SW{x:Iv}{r:Rat}(h:x.ja r)(k:Int):(kI x k).ja<|r*P2 k:=by
 unfold kI;split
 .exact .inl rfl
 .rename_i ha;unfold ns;split
  .exact .inl rfl
  .obtain ⟨h1,h2⟩:=h.kA (by simpa using ha);refine .inr ⟨?_,?_⟩
   .show (th x.lo k).q<=_;rw[Gc,D6];exact h1
   .show _<=(th x.hi k).q;rw[Gc,D6];exact h2
def Bn{n:Int}(h1:-1000<=n)(h2:n<=1000):(ko n).iD:=by
 have:=AL (n:=1) (e:=n) aK h1 h2;exact this
def qX(x y:Iv):Prop:=x.all=true\/y.all=true\/(jI x.lo y.hi<=0/\jI y.lo x.hi<=0)
def Cl(x y:Iv):Iv:=if x.all then y else if y.all then x else⟨jq x.lo y.lo,jv x.hi y.hi,false⟩
def am0{x y:Iv}(hx:x.iD)(hy:y.iD)(h:qX x y)(xa:x.all=false)(ya:y.all=false):jI (jq x.lo y.lo) (jv x.hi y.hi)<=0:=by
 have h1:=hx.q;have h2:=hy.q;rcases h with h|h|⟨h3,h4⟩
 .rw [h]at xa;cases xa
 .rw [h]at ya;cases ya
 .rw [qf]at h3 h4 ⊢;obtain⟨_,_,a⟩:=FZ x.lo y.lo;obtain⟨_,_,b⟩:=Ei x.hi y.hi;rcases a with a|a<;>rcases b with b|b<;>rw[a,b]<;>assumption
def aao{W Z:Iv}(h:W.all=false->Z.all=false->W.lo.q<=Z.hi.q/\Z.lo.q<=W.hi.q):qX W Z:=by
 unfold qX;cases hw:W.all
 .cases hz:Z.all
  .exact .inr<|.inr ⟨(qf _ _).2 (h hw hz).1,(qf _ _).2 (h hw hz).2⟩
  .exact .inr<|.inl rfl
 .exact .inl rfl
def Ho(y:Iv):∀ j,(s6 y j).iD
 | 0=>Jm 1 aK 
 |j+1=>pf _ _ aK aK 
def EZ(y:Iv):∀ j,(zM y j).iD
 | 0=>Jm 1 aK 
 |j+1=>mn (EZ y j) (Ho y<|j+1) aK aK 
def K6(y:Iv):∀ j,(yJ y j).iD
 | 0=>mn (EZ y 20) (Ov<|ku _ _ aK aK) aK aK 
 |j+1=>ku _ _ aK aK 
section
variable(nl:Bool)
def ZA(n N:Nat)(el:Nat->Nat->E)(g:FuncId)(cap:List E)(i:Nat):PS:=⟨19,false,[(8,.e<|iP i),(7,.e<|iP n),(0,.e<|.sl nl n 1 el),(1,.e<|.fn g cap)],[]⟩
section
variable(n:Nat)(el:Nat->Nat->E)(g:FuncId)(cap:List E)(i:Nat)
def Zz:PS:=⟨19,false,[(8,.e<|iP i),(7,.e<|iP n),(0,.e<|.sl nl n 1 el),(1,.e<|.fn g cap)],[]⟩
def Z3:PS:=⟨19,false,[(8,.e<|iP i),(7,.e<|iP n),(0,.e<|.sl nl n 1 el),(1,.e<|.fn g cap)],[]⟩
end
def ZL(n N:Nat)(el:Nat->Nat->E)(g:FuncId)(cap:List E)(i:Nat):PS:=⟨19,false,[(8,.e<|iP i),(7,.e<|iP n),(0,.e<|.sl nl n 7 el),(1,.e<|.fn g cap)],[]⟩
section
variable(n:Nat)(el:Nat->Nat->E)(g:FuncId)(cap:List E)(i:Nat)
def ZK:PS:=⟨19,false,[(8,.e<|iP i),(7,.e<|iP n),(0,.e<|.sl nl n 7 el),(1,.e<|.fn g cap)],[]⟩
def acs:PS:=⟨19,false,[(8,.e<|iP i),(7,.e<|iP n),(0,.e<|.sl nl n 1 el),(1,.e<|.fn g cap)],[]⟩
end
end
def ur{p:Nat->Bool}{n:Nat}(h:∃ i,i<n/\p i=true):∃ N,N<n/\p N=true/\∀ i,i<N->p i=false:=by
 induction n with
 |zero=>obtain⟨i,h1,_⟩:=h;omega
 |succ n ih=>
  by_cases hn:∃ i,i<n/\p i=true
  .obtain ⟨N,h1,h2,h3⟩:=ih hn;exact⟨N,aI,h2,h3⟩
  .obtain ⟨i,h1,h2⟩:=h;have:i=n:=by
    by_cases q:i=n
    .exact q
    .exact absurd ⟨i,aI,h2⟩ hn
   subst this;exact⟨i,h1,h2,λj hj=>by simpa using λq=>hn ⟨j,hj,q⟩⟩
section
variable(nl:Bool)(n:Nat)(el:Nat->Nat->E)(g:FuncId)(cap:List E)(p:Nat->Bool)
section
variable(hp:∀ i,i<n->iA g ((el i 0)::cap) (bP<|p i))
def alR(N:Nat)(hl:n<=1000000)(qD:N<n)(jA:∀ i,i<N->p i=false)(hN:p N=true):iA 174 [.sl nl n 1 el,.fn g cap]<|iP N:=
 oY (af [.s (Sp.kj (ZA nl n N el g cap) 0 N aI (λi hi qn=>by
    exact jg (af [tT 9 ((i:Int)<n) aI,iX (i:Int) n,.c (hp i aI:iA g ((el i 0)::cap) _),ai 16 (p i)<|jA i aI,iL<|(i:Int)+1]) aM)
  (λhi=>by
    exact jg (af [tT 9 ((N:Int)<n) aI,iX (N:Int) n,.c (hp N aI:iA g ((el N 0)::cap) _),ah 16 (p N) hN]) aM) aQ:ki 2 f174 (ZA nl n N el g cap 0) .ret ⟨19,false,[(4,.e<|iP N)],[]⟩) .nil])
def alT(hl:n<=1000000)(jA:∀ i,i<n->p i=false):iA 174 [.sl nl n 1 el,.fn g cap]<|iP (-1):=
 oY (af [.s (Sp.kj (Zz nl n el g cap) 0 n aI (λi hi qn=>by
    exact jg (af [tT 9 ((i:Int)<n) aI,iX (i:Int) n,.c (hp i aI:iA g ((el i 0)::cap) _),ai 16 (p i)<|jA i aI,iL<|(i:Int)+1]) aM)
  (λhi=>by
    exact jg (af [tF 9 ((n:Int)<n) aI]) aM) aQ:ki 2 f174 (Zz nl n el g cap 0) (.exit 0) ⟨19,false,[],[]⟩) .nil])
def ate(N:Nat)(hl:n<=1000000)(qD:N<n)(jA:∀ i,i<N->p i=false)(hN:p N=true):iA 113 [.sl nl n 1 el,.fn g cap]<|bP true:=
 oY (af [ag [.sl nl n 1 el,.fn g cap]<|alR nl n el g cap p hp N hl qD jA hN,tT 8 (0<=(N:Int)) aI])
section
variable(hl:n<=1000000)(jA:∀ i,i<n->p i=false)
def ZB:iA 113 [.sl nl n 1 el,.fn g cap]<|bP false:=
 oY (af [ag [.sl nl n 1 el,.fn g cap]<|alT nl n el g cap p hp hl jA,ai 8 (decide ((0:Int)<=(-1))) aK])
def amJ:iA 259 [.sl nl n 1 el,.fn g cap]<|iP (-1):=
 oY (af [.s (Sp.kj (Z3 nl n el g cap) 0 n aI (λi hi qn=>by
    exact jg (af [tT 9 ((i:Int)<n) aI,iX (i:Int) n,.c (hp i aI:iA g ((el i 0)::cap) _),ai 16 (p i)<|jA i aI,iL<|(i:Int)+1]) aM)
  (λhi=>by
    exact jg (af [tF 9 ((n:Int)<n) aI]) aM) aQ:ki 2 f259 (Z3 nl n el g cap 0) (.exit 0) ⟨19,false,[],[]⟩) .nil])
def amG:iA 241 [.sl nl n 1 el,.fn g cap]<|bP false:=
 oY (af [ag [.sl nl n 1 el,.fn g cap]<|amJ nl n el g cap p hp hl jA,ai 8 (decide ((0:Int)<=(-1))) aK])
end
end
section
variable(hp:∀ i,i<n->iA g ((.agg [el i 0,el i 1,el i 2,el i 3,el i 4,el i 5,el i 6])::cap) (bP<|p i))
def al8(N:Nat)(hl:n<=1000000)(qD:N<n)(jA:∀ i,i<N->p i=false)(hN:p N=true):iA 175 [.sl nl n 7 el,.fn g cap]<|iP N:=
 oY (af [.s (Sp.kj (ZL nl n N el g cap) 0 N aI (λi hi qn=>by
    exact jg (af [tT 9 ((i:Int)<n) aI,iX (i:Int) n,.c (hp i aI:iA g ((.agg [el i 0,el i 1,el i 2,el i 3,el i 4,el i 5,el i 6])::cap) _),ai 16 (p i)<|jA i aI,iL<|(i:Int)+1]) aM)
  (λhi=>by
    exact jg (af [tT 9 ((N:Int)<n) aI,iX (N:Int) n,.c (hp N aI:iA g ((.agg [el N 0,el N 1,el N 2,el N 3,el N 4,el N 5,el N 6])::cap) _),ah 16 (p N) hN]) aM) aQ:ki 2 f175 (ZL nl n N el g cap 0) .ret ⟨19,false,[(4,.e<|iP N)],[]⟩) .nil])
def ama(hl:n<=1000000)(jA:∀ i,i<n->p i=false):iA 175 [.sl nl n 7 el,.fn g cap]<|iP (-1):=
 oY (af [.s (Sp.kj (ZK nl n el g cap) 0 n aI (λi hi qn=>by
    exact jg (af [tT 9 ((i:Int)<n) aI,iX (i:Int) n,.c (hp i aI:iA g ((.agg [el i 0,el i 1,el i 2,el i 3,el i 4,el i 5,el i 6])::cap) _),ai 16 (p i)<|jA i aI,iL<|(i:Int)+1]) aM)
  (λhi=>by
    exact jg (af [tF 9 ((n:Int)<n) aI]) aM) aQ:ki 2 f175 (ZK nl n el g cap 0) (.exit 0) ⟨19,false,[],[]⟩) .nil])
def al9(N:Nat)(hl:n<=1000000)(qD:N<n)(jA:∀ i,i<N->p i=false)(hN:p N=true):iA 115 [.sl nl n 7 el,.fn g cap]<|bP true:=
 oY (af [ag [.sl nl n 7 el,.fn g cap]<|al8 nl n el g cap p hp N hl qD jA hN,tT 8 (0<=(N:Int)) aI])
def DY(hl:n<=1000000)(jA:∀ i,i<n->p i=false):iA 115 [.sl nl n 7 el,.fn g cap]<|bP false:=
 oY (af [ag [.sl nl n 7 el,.fn g cap]<|ama nl n el g cap p hp hl jA,ai 8 (decide ((0:Int)<=(-1))) aK])
def al7(hl:n<=1000000):iA 115 [.sl nl n 7 el,.fn g cap]<|bP<|(List.range n).any p:=by
 by_cases h:∃ i,i<n/\p i=true
 .obtain ⟨N,h1,h2,h3⟩:∃ N,N<n/\p N=true/\∀ i,i<N->p i=false:=ur h;refine(al9 nl n el g cap p hp N hl h1 h3 h2).jQ<|.jm ?_;rw[eE.2 ⟨N,dr.2 h1,h2⟩]
 .refine (DY nl n el g cap p hp hl λi hi=>by simpa using λq=>h ⟨i,hi,q⟩).jQ<|.jm ?_;rw[dW.2 λi hi q=>h ⟨i,dr.1 hi,q⟩]
end
section
variable(hp:∀ i,i<n->iA g ((el i 0)::cap) (bP<|p i))(hl:n<=1000000)(jA:∀ i,i<n->p i=false)
def aqK:iA 234 [.sl nl n 1 el,.fn g cap]<|iP (-1):=
 oY (af [.s (Sp.kj (acs nl n el g cap) 0 n aI (λi hi qn=>by
    exact jg (af [tT 9 ((i:Int)<n) aI,iX (i:Int) n,.c (hp i aI:iA g ((el i 0)::cap) _),ai 16 (p i)<|jA i aI,iL<|(i:Int)+1]) aM)
  (λhi=>by
    exact jg (af [tF 9 ((n:Int)<n) aI]) aM) aQ:ki 2 f234 (acs nl n el g cap 0) (.exit 0) ⟨19,false,[],[]⟩) .nil])
def aqI:iA 208 [.sl nl n 1 el,.fn g cap]<|bP false:=
 oY (af [ag [.sl nl n 1 el,.fn g cap]<|aqK nl n el g cap p hp hl jA,ai 8 (decide ((0:Int)<=(-1))) aK])
end
end
section
variable(a b:List Nat)
def aaw(x:Nat):PS:=⟨67,false,[(20,.e<|iP x),(19,.e<|iP a.length),(18,.e<|iG a),(5,.own 17),(1,.e<|iG b)],[(17,.row false 99 (a.length+b.length) 1<|jt<|mI a b x)]⟩
def aax(x:Nat)(k:Nat):PS:=⟨67,false,[(27,.e<|iP k),(26,.e<|iP b.length),(25,.e<|iG b),(8,.e<|.v<|.int .u64 (((jN (a.getD x 0) x b (mI a b x) k).2:Nat):Int)),(7,.e<|.v<|.int .u32 (a.getD x 0:Int)),(6,.e<|iP x),(20,.e<|iP x),(19,.e<|iP a.length),(18,.e<|iG a),(5,.own 17),(1,.e<|iG b)],[(17,.row false 99 (a.length+b.length) 1<|jt<|(jN (a.getD x 0) x b (mI a b x) k).1)]⟩
def ank(ha:jc a)(hb:jc b)(h1:a.length<=3000)(h2:b.length<=3000):iA 258 [iG a,iG b]<|iG<|mI a b a.length:=
 oY (ae [iL<|(a.length:Int)+b.length,.a (aI:0<=(((a.length:Int)+b.length):Int)/\(((a.length:Int)+b.length):Int)<=(((a.length:Int)+b.length):Int)),.a (aI:((4:Nat):Int)*((a.length:Int)+b.length)<=281474976710656/\(((a.length:Int)+b.length):Int)<=9223372036854775807),.s (Sp.kj (aaw a b) 0 a.length aI (λx hx mr=>by
    have f1:=ha.getD x;have so:=Je ha hb x aI;have g1:=so.len;have g2:=(Cq f1 hb so.ok (i:=x) aI b.length aI).len;have g3:=(Cq f1 hb so.ok (i:=x) aI b.length aI).lt;exact jg (ae [tT 21 ((x:Int)<a.length) aI,iX (x:Int)<|a.length,.s (Sp.kj (aax a b x) 0 b.length aI (λk hk yW=>by
    have f2:=hb.getD k;have q:=Cq f1 hb so.ok (i:=x) aI k aI;have f3:=q.ok.getD<|x+k;have f4:=q.lt;have f5:=q.len;have f6:=RQ f1 f2;exact jg (ae [tT 28 ((k:Int)<b.length) aI,iX (k:Int)<|b.length,.o 33 (.int<|px _:aj (.v<|.int .u64<|IntKind.u64.wrap (a.getD x 0:Int))<|.v<|.int .u64 (a.getD x 0:Int)),.o 35 (.int<|px _:aj (.v<|.int .u64<|IntKind.u64.wrap (b.getD k 0:Int))<|.v<|.int .u64 (b.getD k 0:Int)),
     nW ((a.getD x 0:Int)*(b.getD k 0:Int)),iL<|(x:Int)+k,iX ((x+k:Nat):Int)<|a.length+b.length,.a (aI:(x+k)<(a.length+b.length)),.o 43 (.int<|px _:aj (.v<|.int .u64<|IntKind.u64.wrap ((((jN (a.getD x 0) x b (mI a b x) k).1).getD (x+k) 0:Nat):Int))<|.v<|.int .u64 ((((jN (a.getD x 0) x b (mI a b x) k).1).getD (x+k) 0:Nat):Int)),
     nW ((((a.getD x 0)*(b.getD k 0):Nat):Int)+((((jN (a.getD x 0) x b (mI a b x) k).1).getD (x+k) 0:Nat):Int)),
     nW (((((a.getD x 0)*(b.getD k 0))+(((jN (a.getD x 0) x b (mI a b x) k).1).getD (x+k) 0):Nat):Int)+(((jN (a.getD x 0) x b (mI a b x) k).2:Nat):Int)),
     iL ((x:Int)+k),.o 52 (.int<|tX _:aj (.v<|.int .u32<|IntKind.u32.wrap (((((a.getD x 0)*(b.getD k 0))+(((jN (a.getD x 0) x b (mI a b x) k).1).getD (x+k) 0))+(jN (a.getD x 0) x b (mI a b x) k).2:Nat):Int))<|.v<|.int .u32 ((((((a.getD x 0)*(b.getD k 0))+(((jN (a.getD x 0) x b (mI a b x) k).1).getD (x+k) 0))+(jN (a.getD x 0) x b (mI a b x) k).2)%4294967296:Nat):Int)),.a (aI:0<=(32:Int)/\(32:Int)<=((64:Nat):Int)),.o 54 (.int<|Al _:aj (.v<|.int .u64<|(((((a.getD x 0)*(b.getD k 0))+(((jN (a.getD x 0) x b (mI a b x) k).1).getD (x+k) 0))+(jN (a.getD x 0) x b (mI a b x) k).2:Nat):Int)/2^32)<|.v<|.int .u64 ((((((a.getD x 0)*(b.getD k 0))+(((jN (a.getD x 0) x b (mI a b x) k).1).getD (x+k) 0))+(jN (a.getD x 0) x b (mI a b x) k).2)/4294967296:Nat):Int)),
     iX ((x+k:Nat):Int) (a.length+b.length),.a (aI:(x+k)<(a.length+b.length)),iL<|(k:Int)+1]<|.e<|af [.o 8<|.int (k:=.u64) (by first|rfl|omega|(simp only[ca,cj];omega):((((((a.getD x 0)*(b.getD k 0))+(((jN (a.getD x 0) x b (mI a b x) k).1).getD (x+k) 0))+(jN (a.getD x 0) x b (mI a b x) k).2)/4294967296:Nat):Int)=(((jN (a.getD x 0) x b (mI a b x)<|k+1).2:Nat):Int)),.b 17 (JK rfl:Bx.le (.row false 99 (a.length+b.length) 1 λi' j'=>if i'=(x+k)/\0<=j'/\j'<0+1 then[.v<|.int .u32 ((((((a.getD x 0)*(b.getD k 0))+(((jN (a.getD x 0) x b (mI a b x) k).1).getD (x+k) 0))+(jN (a.getD x 0) x b (mI a b x) k).2)%4294967296:Nat):Int)].getD (j'-0) .any else(jt<|(jN (a.getD x 0) x b (mI a b x) k).1) i' j')<|.row false 99 (a.length+b.length) 1<|jt<|(jN (a.getD x 0) x b (mI a b x)<|k+1).1)]) aM)
  (λhk=>by
    exact jg (af [tF 28 ((b.length:Int)<b.length) aI]) aM) aQ:ki 7 f258 (aax a b x 0) (.exit 2) ⟨67,false,[(8,.e<|.v<|.int .u64 (((jN (a.getD x 0) x b (mI a b x) b.length).2:Nat):Int)),(6,.e<|iP x),(20,.e<|iP x),(19,.e<|iP a.length),(18,.e<|iG a),(5,.own 17),(1,.e<|iG b)],[(17,.row false 99 (a.length+b.length) 1<|jt<|(jN (a.getD x 0) x b (mI a b x) b.length).1)]⟩)<|af [.o 8<|.int (k:=.u64) (by first|rfl|omega|(simp only[ca,cj];omega):0=(((jN (a.getD x 0) x b (mI a b x) 0).2:Nat):Int)),.b 17<|.refl<|.row false 99 (a.length+b.length) 1<|jt<|(jN (a.getD x 0) x b (mI a b x) 0).1],
     iL ((x:Int)+b.length),.o 63 (.int<|tX _:aj (.v<|.int .u32<|IntKind.u32.wrap (((jN (a.getD x 0) x b (mI a b x) b.length).2:Nat):Int))<|.v<|.int .u32 (((jN (a.getD x 0) x b (mI a b x) b.length).2%4294967296:Nat):Int)),
     iX ((x+b.length:Nat):Int) (a.length+b.length),.a (aI:(x+b.length)<(a.length+b.length)),iL<|(x:Int)+1]<|.e<|af [.b 17 (JK rfl:Bx.le (.row false 99 (a.length+b.length) 1 λi' j'=>if i'=(x+b.length)/\0<=j'/\j'<0+1 then[.v<|.int .u32 (((jN (a.getD x 0) x b (mI a b x) b.length).2%4294967296:Nat):Int)].getD (j'-0) .any else(jt<|(jN (a.getD x 0) x b (mI a b x) b.length).1) i' j')<|.row false 99 (a.length+b.length) 1<|jt<|mI a b<|x+1)]) aM)
  (λhx=>by
    exact jg (af [tF 21 ((a.length:Int)<a.length) aI]) aM) aQ:ki 3 f258 (aaw a b 0) (.exit 0) ⟨67,false,[(5,.own 17)],[(17,.row false 99 (a.length+b.length) 1<|jt<|mI a b a.length)]⟩)<|af [.b 17 (F9 rfl (λi=>by simp[mI,bJ,fG];split<;>rfl):Bx.le (.row false 99 (a.length+b.length) 1 λ_ j_=>[.v<|.int .u32 0].getD j_ .any)<|.row false 99 (a.length+b.length) 1<|jt<|mI a b 0)]]<|rR (iG<|mI a b a.length) (Am<|by rw[(Je ha hb a.length aI).len]:E.le (.sl false (a.length+b.length) 1<|jt<|mI a b a.length)<|iG<|mI a b a.length))
end
def aaE(L:List Nat)(h:L.length<=256):iA 242 [iG L]<|bP false:=
 iM (af [tF 5 (256<(L.length:Int)) aI])
def aaF(L:List Nat)(M:List Nat)(h1:L.length<=256)(h2:M.length<=256):iA 215 [(.sl true 2 1 λi_ j_=>[iG L,iG M].getD (i_*1+j_)<|.v<|.bool false)]<|bP false:=
 iM (af [.c (amG true 2 _ 242 [] (λ_=>false) (λi hi=>(match i,hi with|0,_=>aaE _ h1|1,_=>aaE _ h2|n+2,hi=>absurd hi aI)) aI λ_ _=>rfl:iA 241 [(.sl true 2 1 λi_ j_=>[iG L,iG M].getD (i_*1+j_)<|.v<|.bool false),.fn 242 []] _)])
def anl(L M:List Nat)(hL:jc L)(hM:jc M)(h1:L.length<=256)(h2:M.length<=256)(hf:(iB<|val L*val M).length<=256):iA 239 [iG L,iG M]<|.iK [iG<|iB<|val L*val M,iP 0]:=by
 have ka:=hL.iI;have kb:=hM.iI;have ta:=pV L;have tb:=pV M;unfold mV at ta tb;have km:=(Je ka kb _<|bB _).ok;have he:iI (mI (iI L) (iI M) (iI L).length)=iB (val L*val M):=by rw[sY km,asF ka kb,pW,pW]
 have hd:(iI<|mI (iI L) (iI M) (iI L).length).length<=256:=by rw[he];exact hf
 exact iM<|ae [ag [(.sl true 2 1 λi_ j_=>[iG L,iG M].getD (i_*1+j_)<|.v<|.bool false)]<|aaF _ _ aJ aJ,.c<|Bj L hL,.c<|Bj M hM,.c<|ank (iI L) (iI M) ka kb aI aI,.c<|ani (mI (iI L) (iI M) (iI L).length) km hd]<|rQ (.iK [iG<|iI<|mI (iI L) (iI M) (iI L).length,iP 0]) (.iK [iG<|iB<|val L*val M,iP 0])<|by rw[he]
def anm(m n:Nat)(h1:(iB m).length<=256)(h2:(iB n).length<=256)(hf:(iB<|m*n).length<=256):iA 239 [iG<|iB m,iG<|iB n]<|.iK [iG<|iB<|m*n,iP 0]:=by
 have:=anl (iB m) (iB n) (lO m) (lO n) h1 h2 (by rw[kE,kE];exact hf);rwa[kE,kE]at this
def Ai(m n:Nat)(h1:(iB m).length<=256:=by omega)(h2:n<=65536:=by omega)(h3:(iB<|m*2^n).length<=256:=by omega):iA 255 [iG<|iB m,iP n]<|iG<|iB<|m*2^n:=
 iM (af [.c<|aaH m n aI aI aI])
def SA(m n:Nat)(h1:(iB m).length<=256)(h2:n<=65536):iA 256 [iG<|iB m,iP n]<|.iK [iG<|iB<|m/2^n,bP<|decide (m%2^n≠0)]:=by
 have hb:=zG h1;have hq:(iB<|m/2^n).length<=256:=nJ (by have:=ub<|cM m<|2^n;omega);have xk:(iB<|m/2^n*2^n).length<=256:=nJ (by have:=ub<|eH m<|2^n;omega);have hr:(iB<|m/2^iE m).length<=256:=nJ (by have:=ub<|cM m<|2^iE m;omega);have pn:(iB<|m/2^iE m*2^iE m).length<=256:=nJ (by have:=ub<|eH m<|2^iE m;omega);by_cases hn:iE m<n
 .have q1:=WH<|dU hn;have q2:=WH<|bB<|iE m;exact iM<|ae [.c<|yh m,tT 11 ((iE m:Int)<n) aI,.c<|yh m,.c<|aaJ m (iE m) aI aI,ag [iG<|iB<|m/2^(iE m),iP (iE m:Int)]<|Ai _ _,.c<|Mr ((m/2^(iE m))*2^(iE m)) m]<|rQ (.iK [iG<|iB<|m/2^(iE m),bP<|(kP ((m/2^(iE m))*2^(iE m)) m) != 0]) (.iK [iG<|iB<|m/2^n,bP<|decide (m%2^n≠0)])<|by rw[aad,q1.1,q1.2,q2.1,q2.2]
 .exact iM<|ae [.c<|yh m,tF 11 ((iE m:Int)<n) aI,.c<|aaJ m n aI aI,ag [iG<|iB<|m/2^n,iP n]<|Ai _ _,.c<|Mr ((m/2^n)*2^n) m]<|rQ (.iK [iG<|iB<|m/2^n,bP<|(kP ((m/2^n)*2^n) m) != 0]) (.iK [iG<|iB<|m/2^n,bP<|decide (m%2^n≠0)])<|by rw[aad]
abbrev Tn:E:=.sl false 1 1 λi_ j_=>[.v<|.int .u32 1].getD (i_*1+j_)<|.v<|.bool false
def pe(m:Nat)(e:Int)(p:Nat):Nat:=if jF m e p<=e then m*2^(e-jF m e p).toNat else m/2^(jF m e p-e).toNat
section
variable(m:Nat)(e:Int)(more:Bool)(p:Nat)
def tH:Bool:=if jF m e p<=e then more else(more||decide (m%2^(jF m e p-e).toNat≠0))
def ahT:oJ m e more p false=pe m e p:=by unfold oJ pe;simp
end
def Pb{m:Nat}{e:Int}{more:Bool}{p:Nat}(hm:more=true->p<iE m):oJ m e more p true=pe m e p+if tH m e more p=true then 1 else 0:=by
 unfold oJ pe tH;by_cases hU:jF m e p<=e
 .have hmo:more=false:=by
   cases QW:more with
   |false=>rfl
   |true=>have:=hm QW;unfold jF at hU;omega
  simp[hU,hmo]
 .simp [hU]
def apU(m:Nat)(e:Int)(more up:Bool)(p:Nat)(h1:(iB m).length<=256)(h0:m≠0)(iU:8<=p)(iJ:p<=512)(lG:-45000<=e)(kW:e<=45000)(hm:more=true->p<iE m):iA 257 [.agg [iG<|iB m,iP e,bP more],iP (p:Int),bP up]<|.iK [iF<|j9 false m e more p up,iP<|jW false m e more p up]:=by
 have Y1:=Ws (e:=e) true h0 hm (aI:1<=p);have xV:=Ws (e:=e) false h0 hm (aI:1<=p);have hb:=zG h1;have qH:=og h0;have LV:=Wr (e:=e) (more:=more) (p:=p) (up:=true) h0;have hqa:=Wr (e:=e) (more:=more) (p:=p) (up:=false) h0;rw[ahT]at xV hqa;have hu1:-16384<=(jF m e p):=by unfold jF;omega
 have hu2:(jF m e p)<=60000:=by unfold jF;omega
 have hu3:(jF m e p)<=max (e+8192) (-16384):=by unfold jF;omega
 have fa:(iB<|pe m e p).length<=256:=nJ;have fb:(iB<|oJ m e more p true).length<=256:=nJ;have f1:(iB 1).length<=256:=nJ aK;cases up with
 |true=>
  exact iM (ae [.c<|yh m,iL<|e+(iE m:Int),iL<|(e+(iE m:Int))-(p:Int),.o 21<|ar (if(-16384)>((e+(iE m:Int))-(p:Int))then(-16384)else((e+(iE m:Int))-(p:Int))) (jF m e p)<|by unfold jF;split<;>omega,.j 58 ⟨84,true,[(9,.e<|iG<|iB<|pe m e p),(10,.e<|bP<|tH m e more p),(8,.e<|iP<|jF m e p),(6,.box 6 0),(1,.e<|iP p),(2,.e<|bP true)],[(6,.cells 31 av)]⟩
   (.w ((jF m e p)<=e)
    (λm1=>by
     have fx:(iB<|m*2^(e-(jF m e p)).toNat).length<=256:=by have:=fa;rwa[show pe m e p=_ from bA m1]at this
     exact ae [.v 29<|.bool<|bC m1,iL<|e-(jF m e p),.o 35<|ar (e-(jF m e p)) ((e-(jF m e p)).toNat:Int),.c<|Ai m ((e-(jF m e p)).toNat:Nat)]<|.e<|af [.o 9 (.e<|.jm<|by rw[show pe m e p=_ from bA m1]:aj (iG<|iB<|m*2^((e-(jF m e p)).toNat))<|iG<|iB<|pe m e p),tB 10 (by simp[tH,m1]:more=(tH m e more p))])
    (λm1=>ae [.v 29<|.bool<|bE m1,iL<|(jF m e p)-e,.o 43<|ar ((jF m e p)-e) (((jF m e p)-e).toNat:Int),.c<|SA m (((jF m e p)-e).toNat:Nat) aI aI]<|.w (more=true)
     (λm2=>ae [tB 48 m2]<|.e<|af [.o 9 (.e<|.jm<|by rw[show pe m e p=_ from bw m1]:aj (iG<|iB<|m/2^(((jF m e p)-e).toNat))<|iG<|iB<|pe m e p),tB 10 (by simp[tH,m1,m2]:true=(tH m e more p))])
     (λm2=>ae [tB 48<|bn m2]<|.e<|af [.o 9 (.e<|.jm<|by rw[show pe m e p=_ from bw m1]:aj (iG<|iB<|m/2^(((jF m e p)-e).toNat))<|iG<|iB<|pe m e p),tB 10 (by simp[tH,m1,m2]:(decide (m%2^(((jF m e p)-e).toNat)≠0))=(tH m e more p))]))),.j 110 ⟨84,true,[(9,.e<|iG<|iB<|oJ m e more p true),(8,.e<|iP<|jF m e p),(6,.box 6 0),(1,.e<|iP p),(2,.e<|bP true)],[(6,.cells 31 av)]⟩
   (.w (tH m e more p=true)
    (λm1=>by
     have fx:(iB<|pe m e p+1).length<=256:=by have:=fb;rwa[Pb hm,bA m1]at this
     exact ae [.v 55<|.bool m1,.o 58 (.e wL:aj Tn<|iG<|iB 1),.c<|Mq (pe m e p) 1 aI aI aI]<|.e<|af [.o 9 (.e<|.jm<|by rw[Pb hm,bA m1]:aj (iG<|iB<|(pe m e p)+1)<|iG<|iB<|oJ m e more p true)])
    (λm1=>ae [.v 55<|.bool<|bn m1]<|.e<|af [.o 9 (.e<|.jm<|by rw[Pb hm,bw m1,ch]:aj (iG<|iB<|pe m e p)<|iG<|iB<|oJ m e more p true)])),.c<|yh<|oJ m e more p true,iL<|(iE<|oJ m e more p true:Int)+(jF m e p)]<|.w (16384<((iE<|oJ m e more p true:Int)+(jF m e p)))
   (λk1=>by
    have w1:=(Y1.resolve_left λh=>absurd k1 aI).2.resolve_right λh=>absurd h.1 aK;exact ae [tB 66<|bC k1,.o 68 (.e tz:aj (.agg av)<|iF jK)]<|rQ (.iK [iF jK,iP 9]) (.iK [iF<|j9 false m e more p true,iP<|jW false m e more p true])<|by rw[w1.2.1,w1.2.2])
   (λk1=>by
    have w1:=Y1.resolve_right λh=>k1 h.1;have hd:oC<|canon false (oJ m e more p true)<|jF m e p:=by rw[<-w1.2.1];exact(nj false m e more p true).range
    exact ae [tB 66<|bE k1,.c<|Hm false (oJ m e more p true) (jF m e p) aI aI aI aJ]<|rQ (.iK [iF<|canon false (oJ m e more p true)<|jF m e p,iP 0]) (.iK [iF<|j9 false m e more p true,iP<|jW false m e more p true])<|by rw[w1.2.1,w1.2.2]))
 |false=>
  exact iM (ae [.c<|yh m,iL<|e+(iE m:Int),iL<|(e+(iE m:Int))-(p:Int),.o 21<|ar (if(-16384)>((e+(iE m:Int))-(p:Int))then(-16384)else((e+(iE m:Int))-(p:Int))) (jF m e p)<|by unfold jF;split<;>omega,.j 58 ⟨84,true,[(9,.e<|iG<|iB<|pe m e p),(10,.e<|bP<|tH m e more p),(8,.e<|iP<|jF m e p),(6,.box 6 0),(1,.e<|iP p),(2,.e<|bP false)],[(6,.cells 31 av)]⟩
   (.w ((jF m e p)<=e)
    (λm1=>by
     have fx:(iB<|m*2^(e-(jF m e p)).toNat).length<=256:=by have:=fa;rwa[show pe m e p=_ from bA m1]at this
     exact ae [.v 29<|.bool<|bC m1,iL<|e-(jF m e p),.o 35<|ar (e-(jF m e p)) ((e-(jF m e p)).toNat:Int),.c<|Ai m ((e-(jF m e p)).toNat:Nat)]<|.e<|af [.o 9 (.e<|.jm<|by rw[show pe m e p=_ from bA m1]:aj (iG<|iB<|m*2^((e-(jF m e p)).toNat))<|iG<|iB<|pe m e p),tB 10 (by simp[tH,m1]:more=(tH m e more p))])
    (λm1=>ae [.v 29<|.bool<|bE m1,iL<|(jF m e p)-e,.o 43<|ar ((jF m e p)-e) (((jF m e p)-e).toNat:Int),.c<|SA m (((jF m e p)-e).toNat:Nat) aI aI]<|.w (more=true)
     (λm2=>ae [tB 48 m2]<|.e<|af [.o 9 (.e<|.jm<|by rw[show pe m e p=_ from bw m1]:aj (iG<|iB<|m/2^(((jF m e p)-e).toNat))<|iG<|iB<|pe m e p),tB 10 (by simp[tH,m1,m2]:true=(tH m e more p))])
     (λm2=>ae [tB 48<|bn m2]<|.e<|af [.o 9 (.e<|.jm<|by rw[show pe m e p=_ from bw m1]:aj (iG<|iB<|m/2^(((jF m e p)-e).toNat))<|iG<|iB<|pe m e p),tB 10 (by simp[tH,m1,m2]:(decide (m%2^(((jF m e p)-e).toNat)≠0))=(tH m e more p))]))),.c<|yh<|pe m e p,iL<|(iE<|pe m e p:Int)+(jF m e p)]<|.w (16384<((iE<|pe m e p:Int)+(jF m e p)))
   (λk1=>by
    have w1:=(xV.resolve_left λh=>absurd k1 aI).2.resolve_left λh=>absurd h.1 aK;have hd:oC<|canon false ((1*2^p)-1)<|16384-(p:Int):=by rw[cj,<-w1.2.1];exact(nj false m e more p false).range
    have g0:iE (1*2^p)=p+1:=by rw[cj];exact xM (bB _) (fJ aK aI)
    have g1:(iB 1).length<=256:=nJ aK;have g2:(iB<|1*2^p).length<=256:=nJ;have g4:1<=1*2^p:=by rw[cj];exact bL aK 
    have g3:(iB<|(1*2^p)-1).length<=256:=nJ (by have:=ub<|en (1*2^p) 1;omega);exact ae [tB 66<|bC k1,.o 70 (.e wL:aj Tn<|iG<|iB 1),.c<|Ai 1 p,.o 73 (.e wL:aj Tn<|iG<|iB 1),.c<|Jj (1*2^p) 1 aI aI aI,
     iL (16384-(p:Int)),.c<|Hm false ((1*2^p)-1) (16384-(p:Int)) aI aI aI aJ]<|rQ (.iK [iF<|canon false ((1*2^p)-1)<|16384-(p:Int),iP 0]) (.iK [iF<|j9 false m e more p false,iP<|jW false m e more p false])<|by rw[w1.2.1,w1.2.2,cj])
   (λk1=>by
    have w1:=xV.resolve_right λh=>k1 h.1;have hd:oC<|canon false (pe m e p)<|jF m e p:=by rw[<-w1.2.1];exact(nj false m e more p false).range
    exact ae [tB 66<|bE k1,.c<|Hm false (pe m e p) (jF m e p) aI aI aI aJ]<|rQ (.iK [iF<|canon false (pe m e p)<|jF m e p,iP 0]) (.iK [iF<|j9 false m e more p false,iP<|jW false m e more p false])<|by rw[w1.2.1,w1.2.2]))
def apW(up:Bool)(p:Nat)(iU:8<=p)(iJ:p<=512):iA 257 [.agg [iG<|iB 0,iP 0,bP false],iP (p:Int),bP up]<|.iK [iF<|j9 false 0 0 false p up,iP<|jW false 0 0 false p up]:=by
 have hU:jF 0 0 p = -(p:Int):=by unfold jF;rw[tE];omega
 have hK:jy 0 0 p=0:=by unfold jy;rw[tE];omega
 have hQ:lF 0 0 false p up=0:=by unfold lF;rw[hK];simp
 have hO:mQ 0 0 false p up=false:=by unfold mQ;rw[hQ];simp
 have pT:(false != up)=up:=by cases up<;>rfl
 have k2:j9 false 0 0 false p up=jK:=by unfold j9;rw[pT,hO,bw aK,hQ];rfl
 have k3:jW false 0 0 false p up=0:=by unfold jW;rw[pT,hO];rfl
 have lz:iE 0=0:=rfl;have l0:(iB 0).length<=256:=by rw[oP];decide
 have l1:(iB<|0*2^(0-jF 0 0 p).toNat).length<=256:=by rw[de];exact l0
 have lb:iE (0*2^(0-jF 0 0 p).toNat)=0:=by rw[de];rfl
 have hd:oC<|canon false (0*2^(0-jF 0 0 p).toNat)<|jF 0 0 p:=by rw[de];exact .inl rfl
 by_cases DQ:up=true
 .exact iM (ae [.c<|yh 0,iL<|0+(iE 0:Int),iL<|(0+(iE 0:Int))-(p:Int),.o 21<|ar (if(-16384)>((0+(iE 0:Int))-(p:Int))then(-16384)else((0+(iE 0:Int))-(p:Int))) (jF 0 0 p)<|by unfold jF;rw[tE];split<;>omega,tT 29 ((jF 0 0 p)<=0) aI,iL<|0-(jF 0 0 p),.o 35<|ar (0-(jF 0 0 p)) ((0-(jF 0 0 p)).toNat:Int),.c<|Ai 0 ((0-(jF 0 0 p)).toNat:Nat),ah 52 up DQ,.c<|yh<|0*2^((0-(jF 0 0 p)).toNat),
   iL ((iE<|0*2^((0-(jF 0 0 p)).toNat):Int)+(jF 0 0 p)),tF 66 (16384<((iE<|0*2^((0-(jF 0 0 p)).toNat):Int)+(jF 0 0 p))) aI,.c<|Hm false (0*2^((0-(jF 0 0 p)).toNat)) (jF 0 0 p) aI aI aI aJ]<|rQ (.iK [iF<|canon false (0*2^((0-(jF 0 0 p)).toNat))<|jF 0 0 p,iP 0]) (.iK [iF<|j9 false 0 0 false p up,iP<|jW false 0 0 false p up])<|by rw[k2,k3,de];rfl)
 .exact iM (ae [.c<|yh 0,iL<|0+(iE 0:Int),iL<|(0+(iE 0:Int))-(p:Int),.o 21<|ar (if(-16384)>((0+(iE 0:Int))-(p:Int))then(-16384)else((0+(iE 0:Int))-(p:Int))) (jF 0 0 p)<|by unfold jF;rw[tE];split<;>omega,tT 29 ((jF 0 0 p)<=0) aI,iL<|0-(jF 0 0 p),.o 35<|ar (0-(jF 0 0 p)) ((0-(jF 0 0 p)).toNat:Int),.c<|Ai 0 ((0-(jF 0 0 p)).toNat:Nat),ai 52 up<|by simpa using DQ,.c<|yh<|0*2^((0-(jF 0 0 p)).toNat),
   iL ((iE<|0*2^((0-(jF 0 0 p)).toNat):Int)+(jF 0 0 p)),tF 66 (16384<((iE<|0*2^((0-(jF 0 0 p)).toNat):Int)+(jF 0 0 p))) aI,.c<|Hm false (0*2^((0-(jF 0 0 p)).toNat)) (jF 0 0 p) aI aI aI aJ]<|rQ (.iK [iF<|canon false (0*2^((0-(jF 0 0 p)).toNat))<|jF 0 0 p,iP 0]) (.iK [iF<|j9 false 0 0 false p up,iP<|jW false 0 0 false p up])<|by rw[k2,k3,de];rfl)
def MS(m:Nat)(e:Int)(more up:Bool)(p:Nat)(h1:(iB m).length<=256)(h0:m≠0\/m=0/\e=0/\more=false)(iU:8<=p)(iJ:p<=512)(lG:-45000<=e)(kW:e<=45000)(hm:more=true->p<iE m):iA 257 [.agg [iG<|iB m,iP e,bP more],iP (p:Int),bP up]<|.iK [iF<|j9 false m e more p up,iP<|jW false m e more p up]:=by
 rcases h0 with h0|⟨rfl,rfl,rfl⟩
 .exact apU m e more up p h1 h0 iU iJ lG kW hm
 .exact apW up p iU iJ
def mH(p:Int):Bool:=decide (8<=p)&&decide (p<=512)
def sC{p:Int}:mH p=true↔8<=p/\p<=512:=by simp[mH]
def Cf(p:Int):iA 165 [iP p]<|bP<|mH p:=by
 by_cases h:8<=p
 .exact iM<|ae [tB 4<|bC h]<|rQ (bP<|decide (p<=512)) (bP<|mH p)<|by simp[mH,h]
 .exact iM<|ae [tB 4<|bE h]<|rQ (bP false) (bP<|mH p)<|by simp[mH,h]
def aqc(p:Int):iA 195 [iP p]<|bP<|mH p:=by
 by_cases h:8<=p
 .exact iM<|ae [tB 4<|bC h]<|rQ (bP<|decide (p<=512)) (bP<|mH p)<|by simp[mH,h]
 .exact iM<|ae [tB 4<|bE h]<|rQ (bP false) (bP<|mH p)<|by simp[mH,h]
def apZ(p:Int):iA 253 [iP p]<|bP<|mH p:=by
 by_cases h:8<=p
 .exact iM<|ae [tB 4<|bC h]<|rQ (bP<|decide (p<=512)) (bP<|mH p)<|by simp[mH,h]
 .exact iM<|ae [tB 4<|bE h]<|rQ (bP false) (bP<|mH p)<|by simp[mH,h]
def aca(l:List Dy)(p:Nat)(i:Nat):PS:=⟨20,true,[(9,.e<|iP i),(8,.e<|iP l.length),(7,.e<|Dj l),(0,.e<|iP p)],[]⟩
def JD(neg:Bool)(m:Nat)(e:Int)(more up:Bool)(p:Nat)(h1:(iB m).length<=256)(h0:m≠0\/m=0/\e=0/\more=false)(iU:8<=p)(iJ:p<=512)(lG:-45000<=e)(kW:e<=45000)(hm:more=true->p<iE m):iA 238 [bP neg,.agg [iG<|iB m,iP e,bP more],iP p,bP up]<|.iK [iF<|j9 neg m e more p up,iP<|jW neg m e more p up]:=by
 cases neg with
 |true=>
  have hs:=Wy true m e more p up;change _/\(jW false m e more p (!(up==true))=0->_->jl (j9 false m e more p<|!(up==true))=_)/\((jW false m e more p (!(up==true))≠0\/_)->j9 false m e more p (!(up==true))=_)at hs;have hE:jW true m e more p up=jW false m e more p (!(up==true)):=hs.1;have hv:=nj false m e more p (!(up==true)) (aI:1<=p);by_cases hz:jW false m e more p (!(up==true))=0
  .exact iM<|ae [.c<|MS m e more (! (up==true)) p aI aJ aI aI aI aI aJ,ah 22 ((jW false m e more p<|!(up==true))==0)<|by rw[hz];rfl,.c<|AQ (j9 false m e more p<|! (up==true)) aJ]<|rQ (.iK [iF<|jl<|j9 false m e more p<|!(up==true),iP<|jW false m e more p<|!(up==true)]) (.iK [iF<|j9 true m e more p up,iP<|jW true m e more p up])<|by rw[hs.2.1 hz rfl,hE]
  .exact iM<|ae [.c<|MS m e more (! (up==true)) p aI aJ aI aI aI aI aJ,ai 22 ((jW false m e more p<|!(up==true))==0)<|by simpa using hz]<|rQ (.iK [iF<|j9 false m e more p<|!(up==true),iP<|jW false m e more p<|!(up==true)]) (.iK [iF<|j9 true m e more p up,iP<|jW true m e more p up])<|by rw[hs.2.2<|.inl hz,hE]
 |false=>
  have hs:=Wy false m e more p up;change _/\(jW false m e more p (!(up==false))=0->_->jl (j9 false m e more p<|!(up==false))=_)/\((jW false m e more p (!(up==false))≠0\/_)->j9 false m e more p (!(up==false))=_)at hs;have hE:jW false m e more p up=jW false m e more p (!(up==false)):=hs.1;have hv:=nj false m e more p (!(up==false)) (aI:1<=p);by_cases hz:jW false m e more p (!(up==false))=0
  .exact iM<|ae [.c<|MS m e more (! (up==false)) p aI aJ aI aI aI aI aJ,ah 22 ((jW false m e more p<|!(up==false))==0)<|by rw[hz];rfl]<|rQ (.iK [iF<|j9 false m e more p<|!(up==false),iP<|jW false m e more p<|!(up==false)]) (.iK [iF<|j9 false m e more p up,iP<|jW false m e more p up])<|by rw[hs.2.2<|.inr rfl,hE]
  .exact iM<|ae [.c<|MS m e more (! (up==false)) p aI aJ aI aI aI aI aJ,ai 22 ((jW false m e more p<|!(up==false))==0)<|by simpa using hz]<|rQ (.iK [iF<|j9 false m e more p<|!(up==false),iP<|jW false m e more p<|!(up==false)]) (.iK [iF<|j9 false m e more p up,iP<|jW false m e more p up])<|by rw[hs.2.2<|.inl hz,hE]
def apY(d:Dy):iA 254 [iF d]<|.agg [iG<|iB d.m,iP d.e,bP false]:=
 iM (.nil)
def acb(p:Nat)(l:List Dy)(hl:l.length<=1000)(hv:∀ i,i<l.length->(l.getD i jK).iD)(iU:8<=p)(iJ:p<=512):iA 235 [iP p,Dj l]<|iP 0:=
 iM (af [.s (Sp.kj (aca l p) 0 l.length aI (λi hi qn=>by
    have Zb:=hv i qn;exact jg (af [tT 10 ((i:Int)<l.length) aI,iX (i:Int)<|l.length,.c<|tI (l.getD i jK) aJ,iL<|(i:Int)+1]) aM)
  (λhi=>by
    exact jg (af [tF 10 ((l.length:Int)<l.length) aI]) aM) aQ:ki 2 f235 (aca l p 0) (.exit 0) ⟨20,true,[(0,.e<|iP p)],[]⟩) .nil,.c<|apZ (p:Int),ah 18 (mH (p:Int))<|sC.2 ⟨aI,aI⟩])
def apX(p:Nat)(a:Dy)(ha:a.iD)(iU:8<=p)(iJ:p<=512):iA 235 [iP (p:Int),Dj [a]]<|iP 0:=
 acb p [a] aP (λi hi=>(match i,hi with
  | 0,_=>ha
  |n+1,hi=>absurd hi aP)) iU iJ
def zd(p:Nat)(a b:Dy)(ha:a.iD)(hb:b.iD)(iU:8<=p:=by omega)(iJ:p<=512:=by omega):iA 235 [iP (p:Int),Dj [a,b]]<|iP 0:=
 acb p [a,b] aP (λi hi=>(match i,hi with
  | 0,_=>ha
  | 1,_=>hb
  |n+2,hi=>absurd hi aP)) iU iJ
def MT(d:Dy)(p:Nat)(up:Bool)(hd:d.iD)(iU:8<=p:=by omega)(iJ:p<=512:=by omega):iA 236 [iF d,iP p,bP up]<|.iK [iF<|kt d p up,iP<|kS d p up]:=by
 have hl:=hd.iB;have hz:d.m≠0\/d.m=0/\d.e=0/\false=false:=by
  by_cases h:d.m=0
  .rcases hd.canon with q|q
   .exact .inr ⟨h,q.2.2,rfl⟩
   .omega
  .exact .inl h
 have B9:-45000<=d.e:=by have:=hd.exp;omega
 have xY:d.e<=45000:=by have:=hd.exp;omega
 have hm:false=true->p<iE d.m:=λh=>by cases h
 exact iM<|af [.o 11<|.e<|aiu d,ag [iP p,Dj [d]]<|apX _ _ aJ aI aI,ai 14 ((0:Int) != 0) aK,ag [iF d]<|apY _,ag [bP d.neg,.agg [iG<|iB d.m,iP d.e,bP false],iP p,bP up]<|JD _ _ _ _ _ _ aI aJ aI aI aI aI aJ]
def Wi{a b:Nat}:kP a b<0↔a<b:=by
 unfold kP;split
 .simp_all
 .split<;>simp_all
def MU(a b:Dy)(p:Nat)(ha:a.iD)(hb:b.iD)(a0:a.m≠0)(b0:b.m≠0)(ht:b.jb<=a.jb)(iU:8<=p:=by omega)(iJ:p<=512:=by omega):iA 237 [iF a,iF b,iP p]<|.iK [.agg [iG<|iB<|mU a b p,iP<|jJ a b p,bP<|oj a b p],bP<|qu a b p]:=by
 have sz:=Nq ha hb a0 b0 ht iJ;have sp:=Ta ha hb a0 b0 ht iJ;obtain⟨l1,l2,l3,l4,l5,l6,l7,l8,l9⟩:=sz;obtain⟨l10,l11,l12⟩:=sp;obtain⟨r1,r2,r3⟩:=SI a b p;have va:=ha.iB;have vb:=hb.iB;have xa:=ha.exp;have xb:=hb.exp;have ta:=JT a0;have tb:=JT b0;have ba:=zG va;have bb:=zG vb;have z1:(iB<|a.m*2^((a.e-(jJ a b p)).toNat)).length<=256:=nJ (aI:iE (oR a b p)<=_);have zy:(iB<|nN b<|jJ a b p).length<=256:=nJ;have z3:(iB<|nM a b p).length<=256:=nJ;have zm:(iB<|mU a b p).length<=256:=nJ;have z5:(iB 1).length<=256:=nJ aK;exact iM (ae [.c<|uP a aJ,iL<|(Dy.jb a)-(p:Int),iL<|((Dy.jb a)-(p:Int))-8,.c<|uP a aJ,.c<|uP b aJ,
  iL ((Dy.jb a)-(Dy.jb b)),.j 62 ⟨109,true,[(8,.e<|iP<|jJ a b p),(6,.box 6 0),(4,.box 4 0),(3,.box 3 0)],[(6,.cells 192 [.v<|.slice none 0 0,iP 0,bP false]),(4,.cells 31<|ke b),(3,.cells 31<|ke a)]⟩
   (.w (((Dy.jb a)-(Dy.jb b))<=2)
    (λm1=>ae [.v 31<|.bool<|bC m1]<|.e<|af [.o 8<|ar (if b.e<(if(((Dy.jb a)-(p:Int))-8)<a.e then(((Dy.jb a)-(p:Int))-8)else a.e)then b.e else(if(((Dy.jb a)-(p:Int))-8)<a.e then(((Dy.jb a)-(p:Int))-8)else a.e)) (jJ a b p)<|by unfold jJ;rw[bA m1];split<;>split<;>omega])
    (λm1=>ae [.v 31<|.bool<|bE m1]<|.e<|af [.o 8<|ar (if(((Dy.jb a)-(p:Int))-8)<a.e then(((Dy.jb a)-(p:Int))-8)else a.e) (jJ a b p)<|by unfold jJ;rw[bw m1];split<;>omega])),
  iL (a.e-(jJ a b p)),.o 41<|ar (a.e-(jJ a b p)) ((a.e-(jJ a b p)).toNat:Int),.c<|Ai a.m<|(a.e-(jJ a b p)).toNat,.j 92 ⟨109,true,[(10,.e<|iG<|iB<|nN b<|jJ a b p),(11,.e<|bP<|oD b<|jJ a b p),(9,.e<|iG<|iB<|a.m*2^((a.e-(jJ a b p)).toNat)),(8,.e<|iP<|jJ a b p),(6,.box 6 0),(4,.box 4 0),(3,.box 3 0)],[(6,.cells 192 [.v<|.slice none 0 0,iP 0,bP false]),(4,.cells 31<|ke b),(3,.cells 31<|ke a)]⟩
   (.w ((jJ a b p)<=b.e)
    (λm1=>by
     have z2:(iB<|b.m*2^((b.e-(jJ a b p)).toNat)).length<=256:=by have:=zy;rwa[show nN b (jJ a b p)=_ from bA m1]at this
     exact ae [.v 46<|.bool<|bC m1,iL<|b.e-(jJ a b p),.o 52<|ar (b.e-(jJ a b p)) ((b.e-(jJ a b p)).toNat:Int),.c<|Ai b.m<|(b.e-(jJ a b p)).toNat]<|.e<|af [.o 10 (.e<|.jm<|by rw[show nN b (jJ a b p)=_ from bA m1]:aj (iG<|iB<|b.m*2^((b.e-(jJ a b p)).toNat))<|iG<|iB<|nN b<|jJ a b p),tB 11 (by simp[oD,m1]:false=(oD b<|jJ a b p))])
    (λm1=>ae [.v 46<|.bool<|bE m1,iL<|(jJ a b p)-b.e,.o 60<|ar ((jJ a b p)-b.e) (((jJ a b p)-b.e).toNat:Int),.c<|SA b.m (((jJ a b p)-b.e).toNat) aI aI]<|.e<|af [.o 10 (.e<|.jm<|by rw[show nN b (jJ a b p)=_ from bw m1]:aj (iG<|iB<|b.m/2^(((jJ a b p)-b.e).toNat))<|iG<|iB<|nN b<|jJ a b p),tB 11 (by simp[oD,m1]:(decide (b.m%2^(((jJ a b p)-b.e).toNat)≠0))=(oD b<|jJ a b p))]))]<|.w (a.neg=b.neg)
  (λk1=>by
   have eT:qu a b p=false:=by unfold qu;simp[k1]
   have eY:nM a b p=nN b (jJ a b p):=by unfold nM;simp[k1]
   have eM:mU a b p=oR a b p+nN b (jJ a b p):=by unfold mU;rw[bA k1,eY]
   have eS:oj a b p=oD b (jJ a b p):=by unfold oj;rw[eT];simp
   have z4:(iB<|(a.m*2^((a.e-(jJ a b p)).toNat))+nN b (jJ a b p)).length<=256:=by have:=zm;rwa[eM]at this
   exact ae [tB 68<|bl k1,.c<|Mq (a.m*2^((a.e-(jJ a b p)).toNat)) (nN b<|jJ a b p) aI aI aI]<|rQ (.iK [.agg [iG<|iB<|(a.m*2^((a.e-(jJ a b p)).toNat))+(nN b<|jJ a b p),iP<|jJ a b p,bP<|oD b<|jJ a b p],bP false]) (.iK [.agg [iG<|iB<|mU a b p,iP<|jJ a b p,bP<|oj a b p],bP<|qu a b p])<|by rw[eM,eS,eT];rfl)
  (λk1=>ae [tB 68<|bk k1,.j 158 ⟨109,true,[(10,.e<|iG<|iB<|nM a b p),(11,.e<|bP<|oD b<|jJ a b p),(9,.e<|iG<|iB<|a.m*2^((a.e-(jJ a b p)).toNat)),(8,.e<|iP<|jJ a b p),(6,.box 6 0)],[(6,.cells 192 [.v<|.slice none 0 0,iP 0,bP false])]⟩
   (.w (oD b (jJ a b p)=true)
    (λm1=>by
     have z6:(iB<|(nN b<|jJ a b p)+1).length<=256:=nJ (by rw[show(nN b<|jJ a b p)+1=nM a b p by(unfold nM;simp[k1,m1])];omega);exact ae [.v 79<|.bool m1,.o 82 (.e wL:aj (.sl false 1 1 λi_ j_=>[.v<|.int .u32 1].getD (i_*1+j_)<|.v<|.bool false)<|iG<|iB 1),.c<|Mq (nN b<|jJ a b p) 1 aI aI aI]<|.e<|af [.o 10 (.e<|.jm<|by unfold nM;simp[k1,m1]:aj (iG<|iB<|(nN b<|jJ a b p)+1)<|iG<|iB<|nM a b p)])
    (λm1=>ae [.v 79<|.bool<|bn m1]<|.e<|af [.o 10 (.e<|.jm<|by unfold nM;simp[k1,m1]:aj (iG<|iB<|nN b<|jJ a b p)<|iG<|iB<|nM a b p)])),.c<|Mr (a.m*2^((a.e-(jJ a b p)).toNat))<|nM a b p]<|.w ((kP (a.m*2^((a.e-(jJ a b p)).toNat))<|nM a b p)<0)
   (λk2=>by
    have hc:oR a b p<nM a b p:=Wi.1 k2;have eT:qu a b p=true:=by unfold qu;simp[k1,hc]
    have eM:mU a b p=nM a b p-oR a b p:=by unfold mU;rw[bw k1,bA hc]
    have eS:oj a b p=false:=by unfold oj;rw[eT];simp
    have z4:(iB<|nM a b p-(a.m*2^((a.e-(jJ a b p)).toNat))).length<=256:=by have:=zm;rwa[eM]at this
    have z7:(a.m*2^((a.e-(jJ a b p)).toNat))<=nM a b p:=dU hc;exact ae [tB 89<|bC k2,.c<|Jj (nM a b p) (a.m*2^((a.e-(jJ a b p)).toNat)) aI aI aI]<|rQ (.iK [.agg [iG<|iB<|(nM a b p)-(a.m*2^((a.e-(jJ a b p)).toNat)),iP<|jJ a b p,bP false],bP true]) (.iK [.agg [iG<|iB<|mU a b p,iP<|jJ a b p,bP<|oj a b p],bP<|qu a b p])<|by rw[eM,eS,eT];rfl)
   (λk2=>by
    have hc:¬oR a b p<nM a b p:=λh=>k2 (Wi.2 h)
    have eT:qu a b p=false:=by unfold qu;simp[hc]
    have eM:mU a b p=oR a b p-nM a b p:=by unfold mU;rw[bw k1,bw hc]
    have eS:oj a b p=oD b (jJ a b p):=by unfold oj;rw[eT];simp
    have z4:(iB<|(a.m*2^((a.e-(jJ a b p)).toNat))-nM a b p).length<=256:=by have:=zm;rwa[eM]at this
    have z7:nM a b p<=(a.m*2^((a.e-(jJ a b p)).toNat)):=fz hc;exact ae [tB 89<|bE k2,.c<|Jj (a.m*2^((a.e-(jJ a b p)).toNat)) (nM a b p) aI aI aI]<|rQ (.iK [.agg [iG<|iB<|(a.m*2^((a.e-(jJ a b p)).toNat))-(nM a b p),iP<|jJ a b p,bP<|oD b<|jJ a b p],bP false]) (.iK [.agg [iG<|iB<|mU a b p,iP<|jJ a b p,bP<|oj a b p],bP<|qu a b p])<|by rw[eM,eS,eT];rfl)))
def CI(p:Nat)(up:Bool):kt jK p up=jK/\kS jK p up=0:=by
 have hK:jy 0 0 p=0:=by unfold jy;rw[tE];omega
 have hQ:∀ o,lF 0 0 false p o=0:=by intro o;unfold lF;rw[hK];simp
 have hO:∀ o,mQ 0 0 false p o=false:=by intro o;unfold mQ;rw[hQ];simp
 unfold kt kS j9 jW;simp only[jK,hO,hQ];exact⟨rfl,rfl⟩
section
variable(a b:Dy)(p:Nat)(up:Bool)(ha:a.iD)(hb:b.iD)(iU:8<=p)(iJ:p<=512)
def ab6:iA 209 [iF a,iF b,iP p,bP up]<|.iK [iF<|kt (jh a b) p up,iP<|kS (jh a b) p up]:=by
 by_cases a0:a.m=0
 .have e1:jh a b=b:=by unfold jh;rw[bA a0]
  exact iM<|ae [.o 16<|.e<|yI a b,.c<|zd p a b aJ aJ,ai 19 ((0:Int) != 0) aK,ah 26 (((iB a.m).length:Int)==0)<|sA<|oO.2 a0,.c<|MT b p up aJ]<|rQ (.iK [iF<|kt b p up,iP<|kS b p up]) (.iK [iF<|kt (jh a b) p up,iP<|kS (jh a b) p up])<|by rw[e1]
 .by_cases b0:b.m=0
  .have e1:jh a b=a:=by unfold jh;rw[bw a0,bA b0]
   exact iM<|ae [.o 16<|.e<|yI a b,.c<|zd p a b aJ aJ,ai 19 ((0:Int) != 0) aK,ai 26 (((iB a.m).length:Int)==0)<|nK<|pF a0,ah 37 (((iB b.m).length:Int)==0)<|sA<|oO.2 b0,.c<|MT a p up aJ]<|rQ (.iK [iF<|kt a p up,iP<|kS a p up]) (.iK [iF<|kt (jh a b) p up,iP<|kS (jh a b) p up])<|by rw[e1]
  .by_cases ht:a.jb<b.jb
   .have A9:a.jb<=b.jb:= aI ;have law:=ads (p:=p) hb ha b0 a0 up;have siz:=Nq hb ha b0 a0 A9 iJ;have prt:=Ta hb ha b0 a0 A9 iJ;obtain⟨l1,l2,_,_,_,_,_,_,_⟩:=siz;have z1:(iB<|mU b a p).length<=256:=nJ;have zT:=prt.2.2;have y1:-45000<=jJ b a p:= aI ;have y2:jJ b a p<=45000:= aI ;by_cases hz:mU b a p=0
    .by_cases hl:oj b a p=true
     .have h0:mU b a p≠0:=by intro q;have:=zT hl;rw[q,tE]at this;omega
      exact absurd hz h0
     .replace hz:mU b a p=0/\oj b a p=false:=⟨hz,by simpa using hl⟩
      have FB:jh a b=jK:=by rw[S8 a0 b0];exact law.1 hz
      exact iM<|ae [.o 16<|.e<|yI a b,.c<|zd p a b aJ aJ,ai 19 ((0:Int) != 0) aK,ai 26 (((iB a.m).length:Int)==0)<|nK<|pF a0,ai 37 (((iB b.m).length:Int)==0)<|nK<|pF b0,.c<|uP a aJ,.c<|uP b aJ,tB 48<|bC ht,.c<|MU b a p aJ aJ aJ aJ aJ,ah 61 (((iB<|mU b a p).length:Int)==0)<|sA<|oO.2 hz.1,ai 64 (oj b a p) hz.2,.o 67 (.e tz:aj (.agg av)<|iF jK)]<|rQ (.iK [iF jK,iP 0]) (.iK [iF<|kt (jh a b) p up,iP<|kS (jh a b) p up])<|by rw[FB,(CI p up).1,(CI p up).2]
    .have h0:mU b a p≠0\/mU b a p=0/\jJ b a p=0/\oj b a p=false:=.inl hz;obtain⟨q1,q2⟩:=law.2 λq=>hz q.1;rw[<-S8 a0 b0]at q1 q2;exact iM<|ae [.o 16<|.e<|yI a b,.c<|zd p a b aJ aJ,ai 19 ((0:Int) != 0) aK,ai 26 (((iB a.m).length:Int)==0)<|nK<|pF a0,ai 37 (((iB b.m).length:Int)==0)<|nK<|pF b0,.c<|uP a aJ,.c<|uP b aJ,tB 48<|bC ht,.c<|MU b a p aJ aJ aJ aJ aJ,ai 61 (((iB<|mU b a p).length:Int)==0)<|nK<|pF hz,.c<|JD (! (b.neg==(qu b a p))) (mU b a p) (jJ b a p) (oj b a p) up p aI aJ aI aI aI aI aJ]<|rQ (.iK [iF<|j9 (!(b.neg==(qu b a p))) (mU b a p) (jJ b a p) (oj b a p) p up,iP<|jW (!(b.neg==(qu b a p))) (mU b a p) (jJ b a p) (oj b a p) p up]) (.iK [iF<|kt (jh a b) p up,iP<|kS (jh a b) p up])<|by rw[<-q1,<-q2];rfl
   .have A9:b.jb<=a.jb:= aI ;have law:=ads (p:=p) ha hb a0 b0 up;have siz:=Nq ha hb a0 b0 A9 iJ;have prt:=Ta ha hb a0 b0 A9 iJ;obtain⟨l1,l2,_,_,_,_,_,_,_⟩:=siz;have z1:(iB<|mU a b p).length<=256:=nJ;have zT:=prt.2.2;have y1:-45000<=jJ a b p:= aI ;have y2:jJ a b p<=45000:= aI ;by_cases hz:mU a b p=0
    .by_cases hl:oj a b p=true
     .have h0:mU a b p≠0:=by intro q;have:=zT hl;rw[q,tE]at this;omega
      exact absurd hz h0
     .replace hz:mU a b p=0/\oj a b p=false:=⟨hz,by simpa using hl⟩
      have FB:jh a b=jK:=by exact law.1 hz
      exact iM<|ae [.o 16<|.e<|yI a b,.c<|zd p a b aJ aJ,ai 19 ((0:Int) != 0) aK,ai 26 (((iB a.m).length:Int)==0)<|nK<|pF a0,ai 37 (((iB b.m).length:Int)==0)<|nK<|pF b0,.c<|uP a aJ,.c<|uP b aJ,tB 48<|bE ht,.c<|MU a b p aJ aJ aJ aJ aJ,ah 61 (((iB<|mU a b p).length:Int)==0)<|sA<|oO.2 hz.1,ai 64 (oj a b p) hz.2,.o 67 (.e tz:aj (.agg av)<|iF jK)]<|rQ (.iK [iF jK,iP 0]) (.iK [iF<|kt (jh a b) p up,iP<|kS (jh a b) p up])<|by rw[FB,(CI p up).1,(CI p up).2]
    .have h0:mU a b p≠0\/mU a b p=0/\jJ a b p=0/\oj a b p=false:=.inl hz;obtain⟨q1,q2⟩:=law.2 λq=>hz q.1;exact iM<|ae [.o 16<|.e<|yI a b,.c<|zd p a b aJ aJ,ai 19 ((0:Int) != 0) aK,ai 26 (((iB a.m).length:Int)==0)<|nK<|pF a0,ai 37 (((iB b.m).length:Int)==0)<|nK<|pF b0,.c<|uP a aJ,.c<|uP b aJ,tB 48<|bE ht,.c<|MU a b p aJ aJ aJ aJ aJ,ai 61 (((iB<|mU a b p).length:Int)==0)<|nK<|pF hz,.c<|JD (! (a.neg==(qu a b p))) (mU a b p) (jJ a b p) (oj a b p) up p aI aJ aI aI aI aI aJ]<|rQ (.iK [iF<|j9 (!(a.neg==(qu a b p))) (mU a b p) (jJ a b p) (oj a b p) p up,iP<|jW (!(a.neg==(qu a b p))) (mU a b p) (jJ a b p) (oj a b p) p up]) (.iK [iF<|kt (jh a b) p up,iP<|kS (jh a b) p up])<|by rw[<-q1,<-q2];rfl
def acd:iA 210 [iF a,iF b,iP p,bP up]<|.iK [iF<|kt (oi a b) p up,iP<|kS (oi a b) p up]:=by
 by_cases a0:a.m=0
 .have e1:oi a b=jK:=by unfold oi;rw[a0,de];rfl
  exact iM<|ae [.o 16<|.e<|yI a b,.c<|zd p a b aJ aJ,ai 19 ((0:Int) != 0) aK,ah 25 (((iB a.m).length:Int)==0)<|sA<|oO.2 a0,.o 32 (.e tz:aj (.agg av)<|iF jK)]<|rQ (.iK [iF jK,iP 0]) (.iK [iF<|kt (oi a b) p up,iP<|kS (oi a b) p up])<|by rw[e1,(CI p up).1,(CI p up).2]
 .by_cases b0:b.m=0
  .have e1:oi a b=jK:=by unfold oi;rw[b0,cW];rfl
   exact iM<|ae [.o 16<|.e<|yI a b,.c<|zd p a b aJ aJ,ai 19 ((0:Int) != 0) aK,ai 25 (((iB a.m).length:Int)==0)<|nK<|pF a0,ah 30 (((iB b.m).length:Int)==0)<|sA<|oO.2 b0,.o 32 (.e tz:aj (.agg av)<|iF jK)]<|rQ (.iK [iF jK,iP 0]) (.iK [iF<|kt (oi a b) p up,iP<|kS (oi a b) p up])<|by rw[e1,(CI p up).1,(CI p up).2]
  .have va:=ha.iB;have vb:=hb.iB;have xa:=ha.exp;have xb:=hb.exp;have ra:=ha.range.resolve_left a0;have rb:=hb.range.resolve_left b0;have bm:=VH a.m b.m;have z1:(iB<|a.m*b.m).length<=256:=nJ;have m0:a.m*b.m≠0:=eN a0 b0;have h0:a.m*b.m≠0\/a.m*b.m=0/\a.e+b.e=0/\false=false:=.inl m0;have hm:false=true->p<iE (a.m*b.m):=λh=>by cases h
   obtain⟨q1,q2⟩:=acm (a.neg != b.neg) up (a.m*b.m) (a.e+b.e) p m0;change kt (oi a b) p up=_ at q1;change kS (oi a b) p up=_ at q2;exact iM<|ae [.o 16<|.e<|yI a b,.c<|zd p a b aJ aJ,ai 19 ((0:Int) != 0) aK,ai 25 (((iB a.m).length:Int)==0)<|nK<|pF a0,ai 30 (((iB b.m).length:Int)==0)<|nK<|pF b0,.c<|anm a.m b.m aI aI aI,iL<|a.e+b.e,.c<|JD (! (a.neg==b.neg)) (a.m*b.m) (a.e+b.e) false up p aI aJ aI aI aI aI aJ]<|rQ (.iK [iF<|j9 (!(a.neg==b.neg)) (a.m*b.m) (a.e+b.e) false p up,iP<|jW (!(a.neg==b.neg)) (a.m*b.m) (a.e+b.e) false p up]) (.iK [iF<|kt (oi a b) p up,iP<|kS (oi a b) p up])<|by rw[q1,q2];rfl
end
section
variable(a b:Dy)(p:Nat)(ha:a.iD)(hb:b.iD)(iU:8<=p)(iJ:p<=512)
def apT:iA 167 [iF a,iF b,iP p]<|.iK [iF<|kt (jh a b) p false,iP<|kS (jh a b) p false]:=
 iM (af [ag [iF a,iF b,iP p,bP false]<|ab6 _ _ _ _ aJ aJ aI aI])
def ab5:iA 168 [iF a,iF b,iP p]<|.iK [iF<|kt (jh a b) p true,iP<|kS (jh a b) p true]:=
 iM (af [ag [iF a,iF b,iP p,bP true]<|ab6 _ _ _ _ aJ aJ aI aI])
def Sy:iA 171 [iF a,iF b,iP p]<|.iK [iF<|kt (oi a b) p false,iP<|kS (oi a b) p false]:=
 iM (af [ag [iF a,iF b,iP p,bP false]<|acd _ _ _ _ aJ aJ aI aI])
def Sz:iA 172 [iF a,iF b,iP p]<|.iK [iF<|kt (oi a b) p true,iP<|kS (oi a b) p true]:=
 iM (af [ag [iF a,iF b,iP p,bP true]<|acd _ _ _ _ aJ aJ aI aI])
end
end Go.Proofs.YtbbefgegdllpmaaGreatDoor
namespace Go.Proofs.YtbbefgegdllpmaaGreatDoor.Fp
def amr{U V P q:Nat}(hP:0<P)(hV:9223372036854775808<=V/P)(hUV:U<4294967296*V)(h1:q<=4294967295)(h2:q<=U/P/(V/P))(h3:q=4294967295\/U/P/(V/P)<=q):
 U/V<=q/\q<=U/V+1:=by
 have Qh:0<V/P:= aI ;have yM:0<V:=by
  apply cF;intro h;have:V=0:= aI ;rw[this,fL]at Qh;omega
 have hVm:=cN V P;have hVr:=bQ V hP;have hUm:=cN U P;have hUr:=bQ U hP;constructor
 .
  rcases h3 with h3|h3
  .have:U/V<4294967296:=by rw[cK yM];exact hUV
   omega
  .refine b9 ?_ h3;rw[dO Qh,dO hP,bO];have h4:V/P*P<=V:=eH V P;exact b9 (cT _ h4)<|eH U V
 .
  have h4:q*(V/P)<=U/P:=(dO Qh).1 h2;have h5:q*V<=q*(V/P)*P+q*P:=by
   have:V<=V/P*P+P:=by rw[bR];omega
   have:=cT q this;rw[ct,<-bO]at this;exact this
  have h6:q*(V/P)*P<=U:=b9 (cC P h4)<|eH U P;have h7:(q+1)*P<=V/P*P:=cC P aI;have h8:V/P*P<=V:=eH V P;have h9:q*V<U+V:=by
   rw[ca,cj]at h7;omega
  apply cF;intro h;have rM:(U/V+2)*V<=q*V:=cC V aI;have ue:=cN U V;have h12:=bQ U yM;rw[ca,bR<|U/V]at rM;omega
section
variable{x v w third q rest:Nat}(hx:q*v+rest=x)
def ahY(hq:q<=4294967295)(hw:w<4294967296)(hv:0<v)
 (h:4294967296<=rest\/q*w<=rest*4294967296+third):q<=(x*4294967296+third)/(v*4294967296+w):=by
 rw[dO aI,ct,<-hx];have e:q*(v*4294967296)=q*v*4294967296:=by rw[bO]
 rw[e,ca];rcases h with h|h
 .have h1:q*w<=4294967295*4294967295:=dE hq aI ;omega
 .omega
def WC(hv:0<v)(h:rest*4294967296+third<q*w):
 (x*4294967296+third)/(v*4294967296+w)<=q-1/\0<q/\(q-1)*v+(rest+v)=x:=by
 have hq:0<q:=by
  apply cF;intro h';have:q=0:= aI ;subst this;rw[de]at h;omega
 obtain⟨r,rfl⟩:∃ r,q=r+1:=⟨q-1,aI⟩
 refine⟨?_,hq,?_⟩
 .have e1:(r+1)*(v*4294967296+w)=(r+1)*v*4294967296+(r+1)*w:=by rw[ct,<-bO]
  have e2:((r+1)*v+rest)*4294967296=(r+1)*v*4294967296+rest*4294967296:=ca _ _ _;have:(x*4294967296+third)/(v*4294967296+w)<r+1:=by
   have hd:0<v*4294967296+w:= aI ;have e4:x*4294967296=(r+1)*v*4294967296+rest*4294967296:=hx▸e2;refine(cK hd).2 ?_;rw[e1,e4];clear e1 e2 e4 hd hx hq;generalize (r+1)*v=a at *
   generalize (r+1)*w=z at *
   exact Nat.add_lt_add_left h _|>λh=>by rw[<-dm]at h;exact h
  omega
 .have e3:(r+1)*v=r*v+v:=Nat.succ_mul r v;rw[eK];rw[e3]at hx;clear e3 h hq;generalize r*v=a at *
  omega
end
def ah0{x v w third:Nat}(hv:0<v)(ht:third<4294967296):(x*4294967296+third)/(v*4294967296+w)<=x/v:=by
 have h1:(x*4294967296+third)/(v*4294967296+w)<=(x*4294967296+third)/(v*4294967296):=Nat.div_le_div_left aI aI;refine b9 h1 ?_;rw[bR v,<-dc];have:(x*4294967296+third)/4294967296=x:= aI ;rw[this];exact bB _
structure zB(O0:List Nat)(j q:Nat)(V:List Nat)(k:Nat)(O:List Nat)(c b:Nat):Prop where
 len:O.length=O0.length
 ok:jc O
 vl:val O+q*(4294967296^j*val (V.take k))=val O0+4294967296^(j+k)*(c+b)
 qP:∀ i,j+k<=i->O.getD i 0=O0.getD i 0
 VQ:c<4294967296
 Vt:b<=1
def zB.start{O0:List Nat}(h:jc O0)(j q:Nat)(V:List Nat):zB O0 j q V 0 O0 0 0:=
 ⟨rfl,h,by simp[val],λ_ _=>rfl,aK,aK⟩
def ar5{q y c b u:Nat}(hq:q<=4294967295)(hy:y<4294967296)(hc:c<4294967296)(hb:b<=1)(hu:u<4294967296):
 q*y+c<18446744073709551616/\(q*y+c)/4294967296<4294967296 /\
 ((u+18446744073709551616-(q*y+c)%4294967296-b)%18446744073709551616)/9223372036854775808<=1 /\
 ((u+18446744073709551616-(q*y+c)%4294967296-b)%18446744073709551616)%4294967296+(q*y+c)%4294967296+b =
  u+4294967296*(((u+18446744073709551616-(q*y+c)%4294967296-b)%18446744073709551616)/9223372036854775808):=by
 have h1:q*y<=4294967295*4294967295:=dE hq aI;generalize q*y=z at *
 omega
def zB.step{O0 V O:List Nat}{j q k c b:Nat}(h:zB O0 j q V k O c b){u' b':Nat}(hk:k<V.length)(hj:j+V.length<O0.length)(hu:u'<4294967296)(hc:(q*V.getD k 0+c)/4294967296<4294967296)(hb:b'<=1)
 (hd:u'+(q*V.getD k 0+c)%4294967296+b=O.getD (j+k) 0+4294967296*b'):
 zB O0 j q V (k+1) (O.set (j+k) u') ((q*V.getD k 0+c)/4294967296) b':=by
 have q7:j+k<O.length:=by rw[h.len];omega
 refine⟨by rw[di];exact h.len,h.ok.set _ hu,?_,λi hi=>?_,hc,hb⟩
 .have e:=eA (q*V.getD k 0+c) 4294967296;have h1:=zw (x:=u') q7;have h2:=h.vl;have h3:u'+(q*V.getD k 0+c)+b=O.getD (j+k) 0+4294967296*((q*V.getD k 0+c)/4294967296+b'):= aI ;have h4:=congrArg (4294967296^(j+k) * ·) h3;simp only[ct]at h4;rw[wP,ct<|4294967296^j,ct q,<-bO (4294967296^j),<-bG,show q*(4294967296^(j+k)*V.getD k 0)=4294967296^(j+k)*(q*V.getD k 0)from dF _ _ _,
   show j+(k+1)=j+k+1 from rfl,bV,bO,ct 4294967296,ct<|4294967296^(j+k)]
  rw[ct]at h2;omega
 .rw [wZ aI];exact h.qP i aI 
def zB.RC{O0 V O:List Nat}{j q c b:Nat}(h:zB O0 j q V V.length O c b)(hj:j+V.length<O0.length){t:Nat}
 (ht:t=(O.getD (j+V.length) 0+18446744073709551616-c-b)%18446744073709551616):
 (O.set (j+V.length)<|t%4294967296).length=O0.length/\jc (O.set (j+V.length)<|t%4294967296)/\t/9223372036854775808<=1 /\
 val (O.set (j+V.length)<|t%4294967296)+q*(4294967296^j*val V)=val O0+4294967296^(j+V.length+1)*(t/9223372036854775808) /\
 ∀ i,j+V.length<i->(O.set (j+V.length)<|t%4294967296).getD i 0=O0.getD i 0:=by
 have q7:j+V.length<O.length:=by rw[h.len];omega
 have hc:=h.VQ;have hb:=h.Vt;have hu:=h.ok.getD<|j+V.length;have hd:t%4294967296+c+b=O.getD (j+V.length) 0+4294967296*(t/9223372036854775808):= aI ;refine⟨by rw[di];exact h.len,h.ok.set _<|bQ _ aK,aI,?_,λi hi=>by rw[wZ aI];exact h.qP i aI⟩;have h1:=zw (x:=t%4294967296) q7;have h2:=h.vl;rw[fo]at h2;have h4:=congrArg (4294967296^(j+V.length) * ·) hd;simp only[ct]at h4;rw[bV,bO];rw[ct]at h2;omega
structure zA(O0:List Nat)(j:Nat)(V:List Nat)(k:Nat)(O:List Nat)(c:Nat):Prop where
 len:O.length=O0.length
 ok:jc O
 vl:val O+4294967296^(j+k)*c=val O0+4294967296^j*val (V.take k)
 qP:∀ i,j+k<=i->O.getD i 0=O0.getD i 0
 OO:c<=1
def zA.start{O0:List Nat}(h:jc O0)(j:Nat)(V:List Nat):zA O0 j V 0 O0 0:=
 ⟨rfl,h,by simp[val],λ_ _=>rfl,aK⟩
def zA.step{O0 V O:List Nat}{j k c:Nat}(h:zA O0 j V k O c)(hV:jc V)(hk:k<V.length)(hj:j+V.length<O0.length):
 zA O0 j V (k+1) (O.set (j+k)<|(O.getD (j+k) 0+V.getD k 0+c)%4294967296) ((O.getD (j+k) 0+V.getD k 0+c)/4294967296):=by
 have q7:j+k<O.length:=by rw[h.len];omega
 have hu:=h.ok.getD<|j+k;have hy:=hV.getD k;have hc:=h.OO;refine⟨by rw[di];exact h.len,h.ok.set _<|bQ _ aK,?_,λi hi=>by rw[wZ aI];exact h.qP i aI,aI⟩;have h1:=zw (x:=(O.getD (j+k) 0+V.getD k 0+c)%4294967296) q7;have h2:=h.vl;have h4:=congrArg (4294967296^(j+k) * ·)<|eA (O.getD (j+k) 0+V.getD k 0+c) 4294967296;simp only[ct]at h4;rw[wP,ct<|4294967296^j,<-bO (4294967296^j),<-bG,show j+(k+1)=j+k+1 from rfl,bV,bO];omega
def zA.RC{O0 V O:List Nat}{j c:Nat}(h:zA O0 j V V.length O c)(hj:j+V.length<O0.length):
 (O.set (j+V.length)<|(O.getD (j+V.length) 0+c)%4294967296).length=O0.length/\jc (O.set (j+V.length)<|(O.getD (j+V.length) 0+c)%4294967296) /\
 (∃ κ,κ<=1/\val (O.set (j+V.length)<|(O.getD (j+V.length) 0+c)%4294967296)+4294967296^(j+V.length+1)*κ=val O0+4294967296^j*val V) /\
 ∀ i,j+V.length<i->(O.set (j+V.length)<|(O.getD (j+V.length) 0+c)%4294967296).getD i 0=O0.getD i 0:=by
 have q7:j+V.length<O.length:=by rw[h.len];omega
 have hu:=h.ok.getD<|j+V.length;have hc:=h.OO;refine⟨by rw[di];exact h.len,h.ok.set _<|bQ _ aK,⟨(O.getD (j+V.length) 0+c)/4294967296,aI,?_⟩,λi hi=>by rw[wZ aI];exact h.qP i aI⟩;have h1:=zw (x:=(O.getD (j+V.length) 0+c)%4294967296) q7;have h2:=h.vl;rw[fo]at h2;have h4:=congrArg (4294967296^(j+V.length) * ·)<|eA (O.getD (j+V.length) 0+c) 4294967296;simp only[ct]at h4;rw[bV,bO];omega
section
variable{O:List Nat}(h:jc O){k:Nat}
def NA(hz:∀ i,k<=i->O.getD i 0=0):val O<4294967296^k:=by
 by_cases hk:O.length<=k
 .exact cg (nd h)<|bZ aK hk
 .rw [Gn O k];have:val (O.drop k)=0:=by
   rw[JZ];intro x hx;obtain⟨i,hi⟩:=ej.1 hx;rw[fD]at hi;have:=hz (k+i) aI;rw[bJ,hi]at this;exact this
  rw[this,cW,ch];have h1:=nd<|h.take k;rw[cS,dV aI]at h1;exact h1
def asf(hv:val O<4294967296^k){i:Nat}(hi:k<=i):O.getD i 0=0:=by
 have h1:val (O.drop k)=0:=by rw[JY h,cI hv]
 rw[JZ]at h1;rw[bJ];cases hg:O[i]? with
 |none=>rfl
 |some x=>exact h1 x<|ej.2 ⟨i-k,by rw[fD,(aI:k+(i-k)=i)];exact hg⟩
end
def WD{u u' V P x:Nat}(hP:0<P)(hV:0<V)(h:u'+x*(P*V)=u)(hx:u/P/V<=x):x=u/P/V/\u'<V*P:=by
 have h1:x*V<=u/P:=by
  rw[dO hP,bO,bR V P];omega
 have h2:x<=u/P/V:=(dO hV).2 h1;have h3:x=u/P/V:= aI ;refine⟨h3,?_⟩;have e1:=cN u P;have e2:=bQ u hP;have e3:=cN (u/P) V;have e4:=bQ (u/P) hV;rw[<-h3]at e3;have e5:P*(u/P)=x*(P*V)+P*(u/P%V):=by
  rw[<-e3,ct,e3,bR V x,dF]
 have e6:P*(u/P%V)+P<=V*P:=by
  rw[bR V P,<-Nat.mul_succ];exact cT P e4
 omega
def ahZ{u u' u'' V P R x κ:Nat}(hP:0<P)(hV:0<V)(h:u'+x*(P*V)=u+R)(h':u'<R)(hx:x<=u/P/V+1)
 (hk:κ<=1) (h2:u''+R*κ=u'+P*V) (h3:u''<R):0<x/\x-1=u/P/V/\u''+(x-1)*(P*V)=u/\u''<V*P:=by
 have pU:u/P<x*V:=by
  rw[cK hP,bO,bR V P];omega
 have B9:u/P/V<x:=by rw[cK hV];exact pU
 have xY:x=u/P/V+1:=at0 hx B9;obtain⟨y,hy⟩:∃ y,y=u/P/V:=⟨_,rfl⟩
 rw[<-hy]at xY;subst xY;rw[eK];have e0:(y+1)*(P*V)=y*(P*V)+P*V:=Nat.succ_mul _ _;have e1:y*(P*V)<=u:=by
  have:y*V<=u/P:=by rw[hy];exact eH _ _
  have:=(dO hP).1 this;rw[bO,bR V P]at this;exact this
 have hκ:κ=1:=by
  apply cF;intro q;obtain rfl:κ=0:= aI ;omega
 subst hκ;have e2:u''+y*(P*V)=u:= aI ;exact⟨aI,hy,e2,(WD hP hV e2 aI).2⟩
def uO(q rest third v w x:Nat):Prop:=rest+x*v<4294967296/\(rest+x*v)*4294967296+third<(q-x)*w
def WA{X q rest third v w:Nat}(hx:q*v+rest=X)(hq:q<=4294967295)(hv:2147483648<=v)(hw:w<4294967296):
 ∃ N,N<=2/\N<=q/\(∀ x,x<N->uO q rest third v w x)/\¬uO q rest third v w N/\q-N<=(X*4294967296+third)/(v*4294967296+w)/\(N=0\/(X*4294967296+third)/(v*4294967296+w)<=q-N):=by
 have stop:∀ {q' r':Nat},q'*v+r'=X->q'<=4294967295->¬(r'<4294967296/\r'*4294967296+third<q'*w)->q'<=(X*4294967296+third)/(v*4294967296+w):=fun {q' r'} h1 h2 h3=>
  ahY h1 h2 hw aI (by
   by_cases hr:4294967296<=r'
   .exact .inl hr
   .refine .inr<|fz λhn=>h3 ⟨att hr,hn⟩)
 by_cases h0:uO q rest third v w 0
 .have g0:=h0;unfold uO at g0;rw[de,ch,dT]at g0;obtain⟨k1,k2,k3⟩:=WC hx aI g0.2;by_cases h1:uO q rest third v w 1
  .have g1:=h1;unfold uO at g1;rw[cj]at g1;obtain⟨l1,l2,l3⟩:=WC k3 aI g1.2;have h2:¬uO q rest third v w 2:=λh=>by unfold uO at h;omega
   refine⟨2,bB _,aI,λx hx=>?_,h2,?_,.inr l1⟩
   .obtain rfl|rfl:x=0\/x=1:= aI 
    .exact h0
    .exact h1
   .refine stop (r':=rest+v+v) l3 aI λh=> aI 
  .refine ⟨1,aK,k2,λx hx=>?_,h1,?_,.inr k1⟩
   .obtain rfl:x=0:= aI ;exact h0
   .unfold uO at h1;rw[cj]at h1;exact stop k3 aI h1
 .refine ⟨0,aK,cA _,λx hx=>absurd hx<|bM x,h0,?_,.inl rfl⟩;unfold uO at h0;rw[de,ch,dT]at h0;exact stop hx hq h0
def ah7{a b s q r:Nat}(hb:0<b)(h:r+b*2^s*q=a*2^s)(hr:r<b*2^s):q=a/b/\r=a%b*2^s:=by
 have hp:0<2^s:=bL aK;have h1:r%2^s=0:=by
  have:=congrArg (· % 2^s) h;simp only[fV]at this;rw[bO,dF,eW]at this;exact this
 obtain⟨t,ht⟩:∃ t,r=t*2^s:=⟨r/2^s,by rw[at1<|Nat.dvd_of_mod_eq_zero h1]⟩
 subst ht;have h2:(t+b*q)*2^s=a*2^s:=by rw[ca,<-h,gy]
 have h3:=auh hp h2;have h4:t<b:=aui hr;constructor
 .rw [<-h3,fS _ _ hb,cI h4,cJ]
 .rw [<-h3,eW,cw h4]
def adB{O:List Nat}(h:jc O){j n:Nat}(hn:2<=n)(hz:∀ i,j+n<i->O.getD i 0=0):
 val O/4294967296^j/4294967296^(n-2)=(O.getD (j+n) 0*4294967296+O.getD (j+n-1) 0)*4294967296+O.getD (j+n-2) 0:=by
 rw[dc,<-bG,<-JY h];have e:∀ (l:List Nat),jc l->(∀ i,2<i->l.getD i 0=0)->val l=(l.getD 2 0*4294967296+l.getD 1 0)*4294967296+l.getD 0 0:=by
  intro l hl hz;rcases l with _|⟨a,_|⟨b,_|⟨c,l⟩⟩⟩
  .rfl
  .simp [val]
  .simp [val];omega
  .have:val l=0:=by
    rw[JZ];intro x hx;obtain⟨i,hi⟩:=ej.1 hx;have:=hz (i+3) aI;rw[bJ]at this;simp only[at6,hi]at this;exact this
   simp[val,this];omega
 have g:∀ i,(O.drop<|j+(n-2)).getD i 0=O.getD (j+(n-2)+i) 0:=λi=>by
  rw[bJ,fD,bJ]
 rw[e _ (h.drop _) (λi hi=>by rw[g];exact hz _ aI),g,g,g];rw[(aI:j+(n-2)+2=j+n),(aI:j+(n-2)+1=j+n-1),(aI:j+(n-2)+0=j+n-2)]
def ase{V:List Nat}(h:jc V){n:Nat}(hn:2<=n)(hl:V.length=n):val V/4294967296^(n-2)=V.getD (n-1) 0*4294967296+V.getD (n-2) 0:=by
 have:=adB (O:=V) h (j:=0) (n:=n) hn (λi hi=>by rw[bJ,dp aI];rfl);rw[cH,ew,cJ]at this;rw[this,show V.getD n 0=0 by rw[bJ,dp aI];rfl];omega
end Go.Proofs.YtbbefgegdllpmaaGreatDoor.Fp
namespace Go.Proofs.YtbbefgegdllpmaaGreatDoor
open Go.RowKit Fp
def Rx(w:World)(b:Nat)(L:List Nat)(R:List Value):Prop:=w.heap[b]? = some (.cells (pv L++R).toArray 99 (0,0))
section
variable {w w':World} {b:Nat} {L:List Nat} {R:List Value}
def Rx.lt(h:Rx w b L R):b<w.heap.size:=(dN.1 h).1
def Rx.cell(h:Rx w b L R){i:Nat}(hi:i<L.length):w.cell? ⟨b,i,none⟩=some (.int .u32 (L.getD i 0:Int)):=by
 unfold Rx at h;simp only[World.cell?,h];simp[pv,hi,gz]
def Rx.frozen(h:Rx w b L R)(i:Nat):w.frozen? ⟨b,i,none⟩=false:=by
 unfold Rx at h;simp[World.frozen?,h]
def Rx.set(h:Rx w b L R){i:Nat}(hi:i<L.length)(x:Nat):Rx (w.setCell ⟨b,i,none⟩<|.int .u32 (x:Int)) b (L.set i x) R:=by
 unfold Rx at h ⊢;simp only[World.setCell,fW,h];simp[pv,List.map_set,List.set_append,hi]
def Rx.qP(h:Rx w b L R)(hb:w'.heap[b]? = w.heap[b]?):Rx w' b L R:=by unfold Rx at h ⊢;rw[hb];exact h
end
structure uG(b:Nat)(w w':World):Prop where
 below:Below b w w'
 size:w'.heap.size=w.heap.size
 pL:∀ x,x≠b->w'.heap[x]? = w.heap[x]?
def uG.refl(b:Nat)(w:World):uG b w w:=⟨Below.refl _ _,rfl,λ_ _=>rfl⟩
def uG.JN{b:Nat}{w w':World}(h:uG b w w')(i:Nat)(v:Value):uG b w<|w'.setCell ⟨b,i,none⟩ v:=
 ⟨h.below.setCell (p:=⟨b,i,none⟩) (bB _) v,by
  have:(w'.setCell ⟨b,i,none⟩ v).heap.size=w'.heap.size:=by simp[World.setCell]
  rw[this,h.size],λx hx=>by
  rw[<-h.pL x hx];simp only[World.setCell,fW];rw[bw λe=>hx e.symm]⟩
def Uq(b:Nat)(A:Option Addr):Prop:=∀ b' o s,A=some ⟨b',o,s⟩->b'≠b
def Sl.pL{w w':World}{A:Option Addr}{c b:Nat}{L:List Nat}(h:Sl w A c L)(ha:Uq b A)(ho:uG b w w'):Sl w' A c L:=
 ⟨h.cap,h.nU,h.ok,h.y4,λi x hx=>by
  obtain⟨b',o,e,h1,h2⟩:=h.cell i x hx;refine⟨b',o,e,by rw[ho.size];exact h1,?_⟩;rw[<-h2];exact(World.cell?_of_block (w:=w) (w':=w')<|ho.pL b'<|ha _ _ _ e)⟩
def adV{u m b:Nat}(hm:m<4294967296)(hb:b<=4294967296):
 IntKind.u64.wrap (IntKind.u64.wrap ((u:Int)-m)-(b:Int))=(((u+18446744073709551616-m-b)%18446744073709551616:Nat):Int):=by
 rw[IntKind.wrap_u64,IntKind.wrap_u64];omega
def ar4(b j cu c q:Nat)(O V:List Nat)(R:List Value)(A:Option Addr)(w:World)(hu:Rx w b O R)(hv:Sl w A c V)(hA:Uq b A)(mf:jc O)(hj:j+V.length<O.length)(hq:q<=4294967295)(hl:O.length<=1000000):
 Calls prog 346 #[.slice (some ⟨b,j,none⟩) (V.length+1) cu,.slice A V.length c,.int .u64 q] w λe w'=>∃ (O':List Nat) (δ:Nat),e = .returned (.bool<|decide (δ=1))/\Rx w' b O' R/\O'.length=O.length/\jc O'/\δ<=1 /\
  val O'+q*(4294967296^j*val V)=val O+4294967296^(j+V.length+1)*δ/\(∀ i,j+V.length<i->O'.getD i 0=O.getD i 0)/\uG b w w':=by
 obtain⟨n,hn⟩:∃ n,n=V.length:=⟨_,rfl⟩
 rw[<-hn]at hj ⊢;have HN:=aum hn;have HJ:=aum hj;clear hn;have kf:n<=1000000:= aI ;have BX:j<=1000000:= aI ;clear hj;have HT0:=aum<|zB.start mf j q V;clear mf;have HO:=aum<|uG.refl b w;have HU:=aum hu;clear hu;go_enter func346,ntmps346;go_wp2;go_loopw [7,8,9,10,11,12,16] (λcy bo _ _ _ _ i wr=>∃ (k c' b':Nat) (O':List Nat),k<=n/\i = .int .i64 k/\cy = .int .u64 c'/\bo = .int .u64 b'/\zB O j q V k O' c' b'/\Rx wr b O' R/\uG b w wr) (λ_ _ _ _ _ _ i _=>n-(intOf i).toNat)
 case atStart=>
  exact⟨0,0,0,O,cA _,rfl,rfl,rfl,HT0.out,HU.out,HO.out⟩
 case round=>
  obtain⟨k,c',b',O',hk,rfl,rfl,rfl,ht,hR,ho⟩:=hrel;clear HT0 HO HU;have HTk:=aum ht;have lu:=ht.Vt;have AU:=ht.VQ;have HOl:=aum ht.len;clear ht;have Rb:=hv.pL hA ho;by_cases je:k<n
  .have A0:k<V.length:=by rw[<-HN.out];exact je
   obtain⟨ab,ao,e1,_,c1⟩:=Rb.mM A0;have qK:V.getD k 0<4294967296:=hv.ok.getD k;have Zg:V[k]=V.getD k 0:=by simp[bJ,A0]
   rw[Zg]at c1;have q7:j+k<O'.length:=by rw[HOl.out];have:=HJ.out;omega
   have c2:=hR.cell q7;have c3:=hR.frozen<|j+k;have IH:O'.getD (j+k) 0<4294967296:=HTk.out.ok.getD _;obtain⟨sO,kZ,DN,YX⟩:=ar5 hq qK AU lu IH;have HST:=aum (HTk.out.step (b':=((O'.getD (j+k) 0+18446744073709551616-(q*V.getD k 0+c')%4294967296-b')%18446744073709551616)/9223372036854775808) A0 (by rw[<-HN.out];exact HJ.out) (bQ _ aK) kZ DN YX);have HRS:=aum (λx:Nat=>hR.set q7 x);have HOS:=aum λ(v:Value)=>ho.JN (j+k) v;clear hR ho HTk q7 Zg A0 YX HOl Rb;subst e1;have Iu:q*V.getD k 0<=4294967295*4294967295:=dE hq aI;have yX:IntKind.u64.wrap ((q:Int)*(V.getD k 0:Int))=((q*V.getD k 0:Nat):Int):=by rw[<-eF];exact px _ 
   generalize V.getD k 0=y at *
   generalize q*y=z at *
   have IJ:IntKind.u64.wrap ((z:Int)+c')=((z+c':Nat):Int):=by rw[<-fI];exact px _ 
   generalize O'.getD (j+k) 0=u at *
   generalize z+c'=s at *
   have xh:bits .and .u64 (s:Int) 4294967295=((s%4294967296:Nat):Int):=by rw[yA s];omega
   have as6:s%4294967296<4294967296:=bQ _ aK;have hd:(s:Int)/4294967296=((s/4294967296:Nat):Int):= aI ;generalize s%4294967296=m at *
   generalize s/4294967296=s2 at *
   have IE:=adV (u:=u) (m:=m) (b:=b') aI aI;generalize (u+18446744073709551616-m-b')%18446744073709551616=t at *
   have zR:(j:Int)+k=((j+k:Nat):Int):= aI ;go_wp2;go_roundw
   case rel=>
    have e1:((t:Int)%4294967296)=((t%4294967296:Nat):Int):= aI ;exact⟨k+1,s2,t/9223372036854775808,O'.set (j+k)<|t%4294967296,aI,by go_num,by go_num,by go_num,HST.out,by rw[e1];exact HRS.out _,HOS.out _⟩
   case measure=>simp[intOf];omega
  .obtain rfl:k=n:= aI ;have QI:j+k<O.length:=HJ.out;have HTk':=aum (show zB O j q V V.length O' c' b' by rw[<-HN.out];exact HTk.out);have HL:=HTk'.out.RC (t:=(O'.getD (j+k) 0+18446744073709551616-c'-b')%18446744073709551616) (by rw[<-HN.out];exact QI) (by rw[<-HN.out]);rw[<-HN.out]at HL;have HT:=aum HL;clear HL;have q7:j+k<O'.length:=by rw[HOl.out];exact QI
   have c2:=hR.cell q7;have c3:=hR.frozen<|j+k;have IH:O'.getD (j+k) 0<4294967296:=HTk.out.ok.getD _;have HRS:=aum (λx:Nat=>hR.set q7 x);have HOS:=aum λ(v:Value)=>ho.JN (j+k) v;clear hR ho HTk HTk' q7 QI HOl Rb;generalize O'.getD (j+k) 0=u at *
   have IE:=adV (u:=u) (m:=c') (b:=b') AU aI;have htl:(u+18446744073709551616-c'-b')%18446744073709551616<18446744073709551616:=bQ _ aK;generalize (u+18446744073709551616-c'-b')%18446744073709551616=t at *
   have zR:(j:Int)+k=((j+k:Nat):Int):= aI ;go_wp2;go_ret;have e1:((t:Int)%4294967296)=((t%4294967296:Nat):Int):= aI ;obtain⟨t1,t2,t3,t4,t5⟩:=HT.out;exact⟨O'.set (j+k)<|t%4294967296,t/9223372036854775808,acj (a:=(((t:Int)/9223372036854775808)==1))<|by rw[fM,atp,atS];omega,by rw[e1];exact HRS.out _,t1,t2,t3,t4,t5,HOS.out _⟩
def aaK(A:Option Addr)(c:Nat)(L:List Nat)(n:Nat)(w:World)(hs:Sl w A c L)(hlen:L.length<=100000000)(hn:n<=65536):
 Calls prog 228 #[.slice A L.length c,.int .i64 n] w (λe w'=>∃ T v,e = .returned v/\val T=val L*2^n/\T.length=n/32+(iI L).length+1/\Ow w' w.heap.size v T/\iY w w'):=by
 have hT:=aum<|xu A c L w hs;have kZ:=hs.wO;have ot:=pV L;have hC:=kZ.cap;have hL:=hs.nU;unfold mV at ot;have hv:=aum<|pW L;generalize iI L=M at *
 obtain⟨m,hm⟩:∃ m,m=M.length:=⟨_,rfl⟩
 rw[<-hm]at hT ot hC;have HM:=aum hm;clear hm;have qo:=RM (n/32) (n/32+m+1) aI aI;rw[show((n/32:Nat):Int)=n/32 by omega,show((n/32+m+1:Nat):Int)=n/32+m+1 by omega]at qo;have Ia:=aum<|Ow.Ac w w.heap.size (n/32) (n/32+m+1) (bB _) aI aI;go_enter func228,ntmps228;go_wp2_with fail;refine hT.out.mono ?_;rintro e w' ⟨rfl,rfl⟩;go_wp2;go_loopw [5,6,23] (λv cy i wr=>∃ (k q:Nat) (O:List Nat),k<=m/\i = .int .i64 k/\cy = .int .u64 q/\q<2^(n%32)/\O.length=n/32+k/\val O+4294967296^(n/32+k)*q=val (M.take k)*2^(n%32)*4294967296^(n/32)/\Ow wr w.heap.size v O/\iY w wr) (λ_ _ i _=>m-(intOf i).toNat)
 case atStart=>
  exact⟨0,0,List.replicate (n/32) 0,cA _,rfl,rfl,bL aK,aP,by simp[Az],Ia.out,iY.alloc _ _⟩
 case round=>
  obtain⟨k,q,O,hk,rfl,rfl,hq,hO,lI,lX,hb⟩:=hrel;have HV:=aum lI;have HO:=aum hO;have H8:O.length<=200000000:= aI ;have xk:=aum hq;clear lI hO hq;obtain⟨OA,Oc,rfl,vc⟩:=lX.sl;by_cases je:k<m
  .have qk:k<M.length:=by have:=HM.out;omega
   obtain⟨ab,ao,rfl,_,c1⟩:=(kZ.below hb).mM qk;have nF:M[k]<4294967296:=kZ.ok.get qk;have HX:=aum<|S2 (c:=q) (s:=n%32) (n0:=n/32) qk HO.out HV.out;generalize M[k]=x at *
   obtain⟨hw,sQ,rU⟩:=S3 x q (n%32) nF (bQ _ aK) xk.out;generalize x*2^(n%32)+q=z at *
   have Cb:=aum rU;clear rU;have lJ:O.length+[z%4294967296].length<=10000000000:= aV ;go_wp2_with (at_builtin;go_must (refine si aO _ _ aO w.heap.size _ O aO (lX.alloc _) _ _ _ [z%4294967296] aO aO (Sl.uy _ _ (z%4294967296) aI aI) lJ (qW hb.size _) ?_);intro v' w1 pJ hg qh)
   go_roundw
   case rel=>
    exact⟨k+1,z/4294967296,O++[z%4294967296],aI,by go_num,by go_num,Cb.out,by rw[c9,HO.out];rfl,HX.out,pJ,(hb.trans<|iY.alloc _ _).own _ _ (lX.alloc _) hg⟩
   case measure=>simp[intOf];omega
  .obtain rfl:k=m:= aI ;have lJ:O.length+[q].length<=10000000000:= aV ;have LU:q<4294967296:=by
    have:=xk.out;have hp:2^(n%32)<=2^31:=bZ aK aI;have e31:(2:Nat)^31=2147483648:= aK ;omega
   have YV:(q:Int)%4294967296=q:= aI ;go_wp2_with (at_builtin;go_must (refine si aO _ _ aO w.heap.size _ O aO (lX.alloc _) _ _ _ [q] aO aO (Sl.uy _ _ q aI aI) lJ (qW hb.size _) ?_);intro v' w1 pJ hg qh)
   go_ret;refine⟨O++[q],v',rfl,?_,by rw[c9,HO.out,<-HM.out];rfl,pJ,(hb.trans<|iY.alloc _ _).own _ _ (lX.alloc _) hg⟩;have h:=HV.out;rw[dg<|by rw[HM.out];exact bB _]at h;rw[xB,HO.out,rE,Bz,cW,ch,h,<-hv.out,oz,bO,<-bG];congr 2;omega
end Go.Proofs.YtbbefgegdllpmaaGreatDoor
namespace Go.Proofs.YtbbefgegdllpmaaGreatDoor.Fp
structure tZ(U0:Nat)(V:List Nat)(k m:Nat)(O Q:List Nat):Prop where
 Z1:O.length=m
 I4:Q.length=m-V.length
 Bl:jc O
 Eb:jc Q
 eq:val O+val V*val Q=U0
 lt:val O<val V*4294967296^k
 qz:∀ i,i<k->Q.getD i 0=0
def tZ.step{U0 k m x:Nat}{V O Q O2:List Nat}(h:tZ U0 V (k+1) m O Q)(hk:k<m-V.length)(hl:O2.length=m)(mf:jc O2)(hx:x<4294967296)
 (he:val O2+x*(4294967296^k*val V)=val O) (je:val O2<val V*4294967296^k):tZ U0 V k m O2<|Q.set k x:=by
 have AY:k<Q.length:=by rw[h.I4];exact hk
 have hv:=zw (x:=x) AY;rw[h.qz k<|gM k,cW,ch]at hv;refine⟨hl,by rw[di];exact h.I4,mf,h.Eb.set _ hx,?_,je,λi hi=>by rw[wZ aI];exact h.qz i aI⟩;rw[hv,ct,show val V*(4294967296^k*x)=x*(4294967296^k*val V)by simp only[bR,dF,bO]];have:=h.eq;omega
section
variable{U0 k m:Nat}{V O Q:List Nat}(h:tZ U0 V (k+1) m O Q)(hV:jc V)
def tZ.zero{i:Nat}(hi:k+V.length<i):O.getD i 0=0:=by
 refine asf h.Bl (k:=k+V.length+1) ?_ hi;refine fF h.lt ?_;have:=dJ (nd hV)<|pw<|k+1;rw[<-bG,(aI:V.length+(k+1)=k+V.length+1)]at this;exact this
def tZ.akG(hn:2<=V.length)(hN:2147483648<=V.getD (V.length-1) 0):
 O.getD (k+V.length) 0<=V.getD (V.length-1) 0/\∀ g,g<=4294967295 ->
  g<=((O.getD (k+V.length) 0*4294967296+O.getD (k+V.length-1) 0)*4294967296+O.getD (k+V.length-2) 0)/(V.getD (V.length-1) 0*4294967296+V.getD (V.length-2) 0) ->
  (g=4294967295\/((O.getD (k+V.length) 0*4294967296+O.getD (k+V.length-1) 0)*4294967296+O.getD (k+V.length-2) 0)/(V.getD (V.length-1) 0*4294967296+V.getD (V.length-2) 0)<=g) ->
  val O/4294967296^k/val V<=g/\g<=val O/4294967296^k/val V+1:=by
 have t3:=adB h.Bl (j:=k) hn λi hi=>h.zero hV hi;have t2:=ase hV hn rfl;have hU:val O/4294967296^k<4294967296*val V:=by
  rw[cK<|pw k];have:=h.lt;rw[bV]at this;rw[show 4294967296*val V*4294967296^k=val V*(4294967296^k*4294967296)by simp only[bR,dF,bO]];exact this
 have w1:=h.Bl.getD<|k+V.length-1;have w2:=h.Bl.getD<|k+V.length-2;have w3:=hV.getD<|V.length-2;refine⟨?_,λg g1 g2 g3=>?_⟩
 .have hP:=pw<|V.length-2;have h1:val V<(V.getD (V.length-1) 0*4294967296+V.getD (V.length-2) 0+1)*4294967296^(V.length-2):=by
   rw[<-t2,<-cK hP];omega
  have h2:val O/4294967296^k/4294967296^(V.length-2)<4294967296*(V.getD (V.length-1) 0*4294967296+V.getD (V.length-2) 0+1):=by
   rw[cK hP];refine cg hU ?_;rw[bO];exact cT _<|dU h1
  rw[t3]at h2;omega
 .rw [<-t3,<-t2]at g2 g3;exact amr (pw _) (by rw[t2];omega) hU g1 g2 g3
end
def tZ.abc{U0 k m x:Nat}{V O Q O':List Nat}(h:tZ U0 V (k+1) m O Q)(hV:jc V)(mf:jc O')(hv:val O'+x*(4294967296^k*val V)=val O+4294967296^(k+V.length+1)*1)
 (hs:∀ i,k+V.length<i->O'.getD i 0=O.getD i 0):val O'<4294967296^(k+V.length+1)/\0<x:=by
 have h1:val O'<4294967296^(k+V.length+1):=NA mf λi hi=>by rw[hs i aI];exact h.zero hV aI 
 refine⟨h1,?_⟩;rcases fg x with h0|h0
 .subst h0;rw[de]at hv;omega
 .exact h0
def tZ.afk{U0 k m x κ:Nat}{V O Q O' O2:List Nat}(h:tZ U0 V (k+1) m O Q)(hV:jc V)(hk:k<m-V.length)(mf:jc O')(hv:val O'+x*(4294967296^k*val V)=val O+4294967296^(k+V.length+1)*1)
 (hs:∀ i,k+V.length<i->O'.getD i 0=O.getD i 0) (hx:x<=4294967295) (xY:x<=val O/4294967296^k/val V+1) (yM:0<val V) (ot:O2.length=m) (LS:jc O2) (hκ:κ<=1)
 (h2:val O2+4294967296^(k+V.length+1)*κ=val O'+4294967296^k*val V) (kZ:∀ i,k+V.length<i->O2.getD i 0=O'.getD i 0):tZ U0 V k m O2<|Q.set k<|x-1:=by
 obtain⟨h1,h0⟩:=h.abc hV mf hv hs;have h3:val O2<4294967296^(k+V.length+1):=NA LS λi hi=>by rw[kZ i aI,hs i aI];exact h.zero hV aI 
 rw[cG]at hv;obtain⟨_,_,e,l⟩:=ahZ (pw k) yM hv h1 xY hκ h2 h3;exact h.step (x:=x-1) hk ot LS aI e l
def anN{L:List Nat}{x s l:Nat}(hk:jc L)(hl:L.length=l+1)(hx:L.getD l 0=x)(pU:x≠0)(hs:s=32-iE x):
 s<32/\(iB<|val L*2^s).length=l+1/\2147483648<=(iB<|val L*2^s).getD l 0/\4294967296^l*2147483648<=val L*2^s/\val L*2^s<4294967296^(l+1):=by
 have nF:x<4294967296:=by rw[<-hx];exact hk.getD l
 have lu:=og pU;have mq:iE x<=32:=lE.2 nF;have h1:=tu pU;have h2:=qL x;have e1:2^(iE x-1)*2^s=2147483648:=by rw[<-bG,(aI:iE x-1+s=31)]
 have e2:2^iE x*2^s=4294967296:=by rw[<-bG,(aI:iE x+s=32)]
 have hp:0<2^s:=bL aK;have hv:val L=val (L.take l)+4294967296^l*x:=by
  have:=wP L l;rw[dg aI,hx]at this;exact this
 have BZ:val (L.take l)<4294967296^l:=by
  have:=nd<|hk.take l;rw[cS,dV aI]at this;exact this
 have g1:4294967296^l*2147483648<=val L*2^s:=by
  rw[<-e1,<-bO];refine cC _ ?_;rw[hv];exact b9 (cT _ h1)<|Nat.le_add_left _ _
 have g2:val L*2^s<4294967296^(l+1):=by
  have e3:4294967296^(l+1)=4294967296^l*(2^iE x*2^s):=by rw[bV,e2]
  rw[e3,<-bO];refine dJ ?_ hp;rw[hv];have:=cT (4294967296^l)<|show x+1<=2^iE x from h2;rw[ct,cG]at this;omega
 have hlen:(iB<|val L*2^s).length=l+1:=by
  have u1:=sR g2;have u2:¬(iB<|val L*2^s).length<=l:=λh=>by
   have:=wF h;have:=pw l;omega
  omega
 refine⟨aI,hlen,?_,g1,g2⟩;rw[qg<|lO _,kE];unfold iV;rw[cw<|by rw[cK<|pw l,bR 4294967296,<-bV];exact g2,dO<|pw l,bR];exact g1
def tZ.start{A s:Nat}{V O:List Nat}(hO:jc O)(hv:val O=A*2^s){la:Nat}(hA:A<4294967296^la)(hl:O.length=la+1)(hs:s<32)(hn:1<=V.length)(kf:V.length<=la)(hV:4294967296^(V.length-1)*2147483648<=val V):
 tZ (A*2^s) V (la+1-V.length) (la+1) O (List.replicate (la+1-V.length) 0):=by
 refine⟨hl,aP,hO,jc.CH _,by rw[Az,cW,ch,hv],?_,λi _=>?_⟩
 .rw [hv];have AR:2^s<=2^31:=bZ aK aI;have Hy:(2:Nat)^31=2147483648:= aK ;rw[Hy]at AR;have h1:A*2^s<4294967296^la*2^s:=dJ hA<|bL aK;have h2:=cT (4294967296^la) AR;have h3:=cC (4294967296^(la+1-V.length)) hV;rw[gy,<-bG,(aI:V.length-1+(la+1-V.length)=la)]at h3;omega
 .rw [bJ,fG];split<;>rfl
end Go.Proofs.YtbbefgegdllpmaaGreatDoor.Fp
namespace Go.Proofs.YtbbefgegdllpmaaGreatDoor
open Go.RowKit Fp Pu
def Wz(q rest third v w:Nat)(x:Nat):PS:=⟨32,true,[(0,.e<|.v<|.int .u64 ((q-x:Nat):Int)),(1,.e<|.v<|.int .u64 ((rest+(x*v):Nat):Int)),(2,.e<|.v<|.int .u32 (third:Int)),(3,.e<|.v<|.int .u32 (v:Int)),(4,.e<|.v<|.int .u32 (w:Int))],[]⟩
def acX(L:List Nat)(d:Nat)(x:Nat):PS:=⟨34,false,[(8,.e<|iP<|(L.length:Int)-1-(x:Int)),(7,.e<|.v<|.int .u32 ((val L/4294967296^(L.length-x)%d:Nat):Int)),(6,.own 11),(0,.e<|iG L),(1,.e<|.v<|.int .u32 (d:Int))],[(11,.row false 99 L.length 1<|jt<|lK 0 (val L/d) (L.length-x) L.length)]⟩
def ah3(h l d:Nat)(h1:h<d)(h2:l<4294967296)(h3:d<4294967296):iA 349 [.v<|.int .u32 (h:Int),.v<|.int .u32 (l:Int),.v<|.int .u32 (d:Int)]<|.iK [.v<|.int .u32 (((h*4294967296+l)/d:Nat):Int),.v<|.int .u32 (((h*4294967296+l)%d:Nat):Int)]:=by
 have e1:(h*4294967296+l)/d<4294967296:=by rw[cK aI];omega
 have e2:(h*4294967296+l)%d<4294967296:=fF (bQ _ aI) h3;exact iM (ae [ah 10 ((d:Int) != 0) aV,tF 14 ((d:Int)<=h) aI,.o 18 (.int<|px _:aj (.v<|.int .u64<|IntKind.u64.wrap (h:Int))<|.v<|.int .u64 (h:Int)),.a (aI:0<=(32:Int)/\(32:Int)<=((64:Nat):Int)),.o 19 (.int<|Gg _:aj (.v<|.int .u64<|IntKind.u64.wrap<|(h:Int)*2^32)<|.v<|.int .u64 ((h*4294967296:Nat):Int)),.o 21 (.int<|px _:aj (.v<|.int .u64<|IntKind.u64.wrap (l:Int))<|.v<|.int .u64 (l:Int)),.o 22 (.int<|Jr _ _ aI aI:aj (.v<|.int .u64<|bits .or .u64 ((h*4294967296:Nat):Int) (l:Int))<|.v<|.int .u64 ((h*4294967296+l:Nat):Int)),.o 25 (.int<|px _:aj (.v<|.int .u64<|IntKind.u64.wrap (d:Int))<|.v<|.int .u64 (d:Int)),.a (aI:0<((d:Int):Int)),
  nW ((h*4294967296+l:Nat):Int),.o 27 (.int<|tX _:aj (.v<|.int .u32<|IntKind.u32.wrap (((h*4294967296+l)/d:Nat):Int))<|.v<|.int .u32 ((((h*4294967296+l)/d)%4294967296:Nat):Int)),.o 30 (.int<|px _:aj (.v<|.int .u64<|IntKind.u64.wrap (d:Int))<|.v<|.int .u64 (d:Int)),.a (aI:0<((d:Int):Int)),.o 32 (.int<|tX _:aj (.v<|.int .u32<|IntKind.u32.wrap (((h*4294967296+l)%d:Nat):Int))<|.v<|.int .u32 ((((h*4294967296+l)%d)%4294967296:Nat):Int))]<|rQ (.iK [.v<|.int .u32 ((((h*4294967296+l)/d)%4294967296:Nat):Int),.v<|.int .u32 ((((h*4294967296+l)%d)%4294967296:Nat):Int)]) (.iK [.v<|.int .u32 (((h*4294967296+l)/d:Nat):Int),.v<|.int .u32 (((h*4294967296+l)%d:Nat):Int)])<|by rw[cw e1,cw e2])
def atf(q rest third v w N:Nat)(hq:q<=4294967295)(hr:rest<9223372036854775808)(ht:third<4294967296)(hv:v<4294967296)(hw:w<4294967296)(hNq:N<=q)(jA:∀ x,x<N->uO q rest third v w x)(g1:¬rest+N*v<4294967296):iA 350 [.v<|.int .u64 (q:Int),.v<|.int .u64 (rest:Int),.v<|.int .u32 (third:Int),.v<|.int .u32 (v:Int),.v<|.int .u32 (w:Int)]<|.v<|.int .u64 ((q-N:Nat):Int):=
 iM (af [.s (Sp.kj (Wz q rest third v w) 0 N aI (λx hx mr=>by
    obtain⟨g1,g2⟩:=jA x aI;have m1:(q-x)*w<=4294967295*4294967295:=dE aI aI;have g3:0<q-x:=by
     rcases fg (q-x)with h|h
     .rw [h,de]at g2;omega
     .exact h
    exact jg (ae [tT 12 (((rest+(x*v):Nat):Int)<4294967296) aI,.o 16 (.int<|px _:aj (.v<|.int .u64<|IntKind.u64.wrap (w:Int))<|.v<|.int .u64 (w:Int)),
     nW (((q-x:Nat):Int)*(w:Int)),.a (aI:0<=(32:Int)/\(32:Int)<=((64:Nat):Int)),.o 19 (.int<|Gg _:aj (.v<|.int .u64<|IntKind.u64.wrap<|((rest+(x*v):Nat):Int)*2^32)<|.v<|.int .u64 (((rest+(x*v))*4294967296:Nat):Int)),.o 21 (.int<|px _:aj (.v<|.int .u64<|IntKind.u64.wrap (third:Int))<|.v<|.int .u64 (third:Int)),.o 22 (.int<|Jr _ _ aI aI:aj (.v<|.int .u64<|bits .or .u64 (((rest+(x*v))*4294967296:Nat):Int) (third:Int))<|.v<|.int .u64 ((((rest+(x*v))*4294967296)+third:Nat):Int)),tT 23 (((((rest+(x*v))*4294967296)+third:Nat):Int)<(((q-x)*w:Nat):Int))<|Int.ofNat_lt.2 g2,nW<|((q-x:Nat):Int)-1,.o 29 (.int<|px _:aj (.v<|.int .u64<|IntKind.u64.wrap (v:Int))<|.v<|.int .u64 (v:Int)),nW<|((rest+(x*v):Nat):Int)+v]<|.e<|af [.o 0<|.int (k:=.u64) (by first|rfl|omega|(simp only[ca,cj];omega):(((q-x:Nat):Int)-1)=((q-(x+1):Nat):Int)),.o 1<|.int (k:=.u64) (by first|rfl|omega|(simp only[ca,cj];omega):(((rest+(x*v))+v:Nat):Int)=((rest+((x+1)*v):Nat):Int))]) aM)
  (λhx=>by
    have m1:(q-N)*w<=4294967295*4294967295:=dE aI aI;exact jg (af [tF 12 (((rest+(N*v):Nat):Int)<4294967296) aI]) aM) aQ:ki 1 f350 (Wz q rest third v w 0) (.exit 0) ⟨32,true,[(0,.e<|.v<|.int .u64 ((q-N:Nat):Int))],[]⟩)<|af [.o 0<|.int (k:=.u64) (by first|rfl|omega|(simp only[ca,cj];omega):(q:Int)=((q-0:Nat):Int)),.o 1<|.int (k:=.u64) (by first|rfl|omega|(simp only[ca,cj];omega):(rest:Int)=((rest+(0*v):Nat):Int))]])
def ann(L:List Nat)(d:Nat)(hk:jc L)(hl:L.length<=1000000)(rO:0<d)(ug:d<4294967296):iA 343 [iG L,.v<|.int .u32 (d:Int)]<|.iK [iG<|jj (val L/d) L.length,.v<|.int .u32 ((val L%d:Nat):Int)]:=
 oY (ae [.a (aI:0<=((L.length:Int):Int)/\((L.length:Int):Int)<=((L.length:Int):Int)),.a (aI:((4:Nat):Int)*(L.length:Int)<=281474976710656/\((L.length:Int):Int)<=9223372036854775807),iL<|(L.length:Int)-1,.s (Sp.kj (acX L d) 0 L.length aI (λx hx mr=>by
    have YJ:((L.length:Int)-1-(x:Int)).toNat=L.length-1-x:= aI ;have hld:((L.getD ((L.length:Int)-1-(x:Int)).toNat 0:Nat):Int)=(iV (val L)<|L.length-1-x:Int):=by rw[YJ,qg hk]
    have xV:=ark (a:=val L) (k:=L.length-1-x) rO ug;have qT:L.length-1-x+1=L.length-x:= aI ;have kX:L.length-(x+1)=L.length-1-x:= aI ;rw[qT]at xV;have LO:=bQ (val L/4294967296^(L.length-x)) rO;have Qw:=qB (val L)<|L.length-1-x;have uk:(lK 0 (val L/d) (L.length-x) L.length).set ((L.length:Int)-1-(x:Int)).toNat ((val L/4294967296^(L.length-x)%d*4294967296+iV (val L) (L.length-1-x))/d)=lK 0 (val L/d) (L.length-(x+1)) L.length:=by
     rw[YJ,xV.1,<-qT,am5,kX]
    exact jg (ae [tT 16 (0<=((L.length:Int)-1-(x:Int))) aI,iX ((L.length:Int)-1-(x:Int))<|L.length,.o 26 (.int hld:aj (.v<|.int .u32 ((L.getD ((L.length:Int)-1-(x:Int)).toNat 0:Nat):Int))<|.v<|.int .u32 (iV (val L)<|L.length-1-x:Int)),ag [.v<|.int .u32 ((val L/4294967296^(L.length-x)%d:Nat):Int),.v<|.int .u32 (iV (val L)<|L.length-1-x:Int),.v<|.int .u32 (d:Int)]<|ah3 _ _ _ aI aI aI,
     iX ((L.length:Int)-1-(x:Int)) (L.length),.a (aI:(((L.length:Int)-1-(x:Int))).toNat<L.length),iL<|((L.length:Int)-1-(x:Int))-1]<|.e<|af [.o 8<|ar (((L.length:Int)-1-(x:Int))-1) ((L.length:Int)-1-((x+1:Nat):Int)) aZ,.o 7<|.int (k:=.u32) (by rw[xV.2,kX]:((((val L/4294967296^(L.length-x)%d)*4294967296+(iV (val L)<|L.length-1-x))%d:Nat):Int)=((val L/4294967296^(L.length-(x+1))%d:Nat):Int)),.b 11 (F8 rfl bh uk:Bx.le (.row false 99 L.length 1 λi' j'=>if i'=(((L.length:Int)-1-(x:Int))).toNat/\0<=j'/\j'<0+1 then[.v<|.int .u32 ((((val L/4294967296^(L.length-x)%d)*4294967296+(iV (val L)<|L.length-1-x))/d:Nat):Int)].getD (j'-0) .any else(jt<|lK 0 (val L/d) (L.length-x) L.length) i' j')<|.row false 99 L.length 1<|jt<|lK 0 (val L/d) (L.length-(x+1)) L.length)]) aM)
  (λhx=>by
    exact jg (af [tF 16 (0<=((L.length:Int)-1-(L.length:Int))) aI]) aM) aQ:ki 4 f343 (acX L d 0) (.exit 0) ⟨34,false,[(7,.e<|.v<|.int .u32 ((val L/4294967296^(L.length-L.length)%d:Nat):Int)),(6,.own 11)],[(11,.row false 99 L.length 1<|jt<|lK 0 (val L/d) (L.length-L.length) L.length)]⟩)<|af [.o 8<|ar ((L.length:Int)-1) ((L.length:Int)-1-((0:Nat):Int)) aZ,.o 7<|.int (k:=.u32) (by rw[dT,cI<|nd hk,Nat.zero_mod];rfl:0=((val L/4294967296^(L.length-0)%d:Nat):Int)),.b 11 (F9 rfl (λi=>by rw[dT,Mm<|bB _,KW]):Bx.le (.row false 99 L.length 1 λ_ j_=>[.v<|.int .u32 0].getD j_ .any)<|.row false 99 L.length 1<|jt<|lK 0 (val L/d) (L.length-0) L.length)]]<|rR (.iK [iG<|jj (val L/d) L.length,.v<|.int .u32 ((val L%d:Nat):Int)]) (.iK<|.cons (by rw[dD,Jc];exact Am (nH _ _).symm)<|.cons (.jm<|by rw[dD,cH,ew]) .nil:E.le (.iK [.sl false L.length 1<|jt<|lK 0 (val L/d) (L.length-L.length) L.length,.v<|.int .u32 ((val L/4294967296^(L.length-L.length)%d:Nat):Int)])<|.iK [iG<|jj (val L/d) L.length,.v<|.int .u32 ((val L%d:Nat):Int)]))
def aeq(w:World)(T S:List Nat)(e:Ending)(w':World):Prop:=∃ A c B d,e = .returned (.tuple #[.slice A T.length c,.slice B S.length d])/\Sl w' A c T/\Sl w' B d S/\iY w w'
def Ow.rx{w:World}{base:Nat}{v:Value}{L:List Nat}(h:Ow w base v L)(hl:L≠[]):∃ g cap R,v = .slice (some ⟨g,0,none⟩) L.length cap/\base<=g/\g<w.heap.size/\Rx w g L R/\L.length<=cap/\cap<=maxLen:=by
 rcases h.row.2 with⟨_,h0⟩|⟨g,cap,cur,rfl,hb,hg,qd,oq,pk,IG⟩
 .exact absurd (dZ h0) hl
 .refine ⟨g,cap,cur.toList.drop L.length,rfl,hb,(dN.1 hg).1,?_,qd,oq⟩;unfold Rx;rw[hg];rw[cG]at IG;rw[<-IG,atz]
def Rx.sl{w:World}{b cap:Nat}{L:List Nat}{R:List Value}(h:Rx w b L R)(hk:jc L)(hc:L.length<=cap)(hm:cap<=maxLen)(n:Nat):Sl w (some ⟨b,0,none⟩) cap<|L.take n:=
 ⟨by rw[cS];omega,by unfold maxLen at hm;omega,hk.take n,(λh=>by cases h),λi x hx=>by
  rw[fC]at hx;split at hx
  .obtain ⟨hi,xX⟩:=cP.1 hx;refine⟨_,_,rfl,h.lt,?_⟩;rw[cJ,h.cell hi];simp[bJ,hx]
  .cases hx⟩
def amN(x:Nat)(hx:x<4294967296)(w:World):
 Calls prog 344 #[.int .u32 x] w λe w'=>e = .returned (.int .i64 ((32-iE x:Nat):Int))/\w=w':=by
 have mq:iE x<=32:=lE.2 hx;have H:=aum λw=>Z0 x hx w;go_enter func344,ntmps344;go_wp2_with fail;refine(H.out _).mono ?_;rintro e w' ⟨rfl,rfl⟩;go_wp2;go_ret;exact⟨pG aI,rfl⟩
def WB(q rest third v w0 N:Nat)(w:World)(hq:q<=4294967295)(hr:rest<9223372036854775808)(ht:third<4294967296)(hv:v<4294967296)(hw:w0<4294967296)(hNq:N<=q)(jA:∀ x,x<N->uO q rest third v w0 x)(hN:¬uO q rest third v w0 N):
 Calls prog 350 #[.int .u64 q,.int .u64 rest,.int .u32 third,.int .u32 v,.int .u32 w0] w λe w'=>e = .returned (.int .u64 ((q-N:Nat):Int))/\w=w':=by
 have HLO:=aum jA;have HNN:=aum hN;clear jA hN;go_enter func350,ntmps350;go_wp2;go_loop [0,1] (λa b=>∃ k:Nat,k<=N/\a = .int .u64 ((q-k:Nat):Int)/\b = .int .u64 ((rest+k*v:Nat):Int)) (λa _=>(intOf a).toNat+0*N)
 case atStart=>exact⟨0,cA _,by go_num,by go_num⟩
 case round=>
  obtain⟨k,hk,rfl,rfl⟩:=hrel;have m1:(q-k)*w0<=4294967295*4294967295:=dE aI aI;have m2:(q-k)*w0=(q-k)*w0:=rfl;by_cases je:k<N
  .have hc:=HLO.out k je;have wu:0<q-k:= aI ;have YQ:rest+(k+1)*v=rest+k*v+v:=by rw[ca,cj];omega
   have HX:=aum YQ;clear YQ;unfold uO at hc;have yX:IntKind.u64.wrap (((q-k:Nat):Int)*(w0:Int))=(((q-k)*w0:Nat):Int):=by rw[<-eF];exact px _ 
   generalize rest+k*v=y at *
   generalize hz:(q-k)*w0=z at *
   have FA:q-k=q-(k+1)+1:= aI ;have HQ:=aum FA;obtain⟨p,hp⟩:∃ p,p=q-k:=⟨_,rfl⟩
   rw[<-hp]at yX wu FA HQ ⊢;have HP:=aum hp;have DK:p<=4294967295:= aI ;clear hp hz FA;have B7:=Gg y hc.1;have wm:=Jr y third hc.1 ht;have g2:=hc.2;have g1:=hc.1;clear hc;rw[show((y*4294967296:Nat):Int)=y*4294967296 by omega]at wm B7;have d1:decide ((y:Int)<4294967296)=true:=bC aI;have d2:decide ((y:Int)*4294967296+(third:Int)<z)=true:=bC aI;have Iu:IntKind.u64.wrap ((p:Int)-1)=((p-1:Nat):Int):=by rw[IntKind.wrap_u64];omega
   go_wp2;go_round
   case rel=>
    have e1:=HP.out;exact⟨k+1,aI,by go_num,by rw[HX.out];go_num⟩
   case measure=>simp[intOf];omega
  .obtain rfl:k=N:= aI ;have hn:=HNN.out;clear HNN HLO;unfold uO at hn;have yX:IntKind.u64.wrap (((q-k:Nat):Int)*(w0:Int))=(((q-k)*w0:Nat):Int):=by rw[<-eF];exact px _ 
   generalize rest+k*v=y at *
   generalize (q-k)*w0=z at *
   obtain⟨p,hp⟩:∃ p,p=q-k:=⟨_,rfl⟩
   rw[<-hp]at yX ⊢;have HP:=aum hp;clear hp;by_cases g1:y<4294967296
   .have B7:=Gg y g1;have wm:=Jr y third g1 ht;rw[show((y*4294967296:Nat):Int)=y*4294967296 by omega]at wm B7;have d1:decide ((y:Int)<4294967296)=true:=bC aI;have d2:decide ((y:Int)*4294967296+(third:Int)<z)=false:=bE aI;clear hn;go_wp2;go_ret;exact⟨pG<|by rw[<-HP.out],rfl⟩
   .have d1:decide ((y:Int)<4294967296)=false:=bE aI ;clear hn yX;go_wp2;go_ret;exact⟨pG<|by rw[<-HP.out],rfl⟩
def akH(jb next third v w0:Nat)(hv:2147483648<=v)(qJ:v<4294967296)(hn:next<4294967296)(ht:third<4294967296)(hw:w0<4294967296)(htv:jb<=v):
 ∃ g,g<=4294967295/\g<=((jb*4294967296+next)*4294967296+third)/(v*4294967296+w0)/\(g=4294967295\/((jb*4294967296+next)*4294967296+third)/(v*4294967296+w0)<=g) /\
  ∀ w,Calls prog 345 #[.int .u32 jb,.int .u32 next,.int .u32 third,.int .u32 v,.int .u32 w0] w λe w'=>e = .returned (.int .u64 (g:Int))/\∃ m,w'=w.drewN m:=by
 by_cases k1:v<=jb
 .obtain ⟨N,hN3,qD,wc,uS,g1,g2⟩:=WA (X:=jb*4294967296+next) (q:=4294967295) (rest:=(jb-v)*4294967296+next+v) (third:=third) (v:=v) (w:=w0) aI (bB _) hv hw;refine⟨4294967295-N,aI,g1,g2.elim (λh=>.inl<|by rw[h]) .inr,λw=>?_⟩;clear g1 g2;have H:=λw=>WB 4294967295 ((jb-v)*4294967296+next+v) third v w0 N w aI aI ht qJ hw qD wc uS
  clear wc uS;obtain rfl:v=jb:= aI ;have vg:(v-v)*4294967296+next+v=next+v:= aI 
  rw[vg,fI]at H;have HD:=aum H;clear H;have d1:decide ((v:Int)<=v)=true:=bC aI;go_enter func345,ntmps345;go_wp2_with fail;refine(HD.out _).mono ?_;rintro e w' ⟨rfl,rfl⟩;go_wp2;go_ret;exact⟨rfl,0,rfl⟩
 .have d1:=cN (jb*4294967296+next) v;have d2:=bQ (jb*4294967296+next) (aI:0<v);have d3:(jb*4294967296+next)/v<4294967296:=by rw[cK aI];omega
  obtain⟨N,hN3,qD,wc,uS,g1,g2⟩:=WA (X:=jb*4294967296+next) (q:=(jb*4294967296+next)/v) (rest:=(jb*4294967296+next)%v) (third:=third) (v:=v) (w:=w0) (by rw[bR];exact d1) aI hv hw;have g3:=ah0 (x:=jb*4294967296+next) (v:=v) (w:=w0) (third:=third) aI ht;refine⟨(jb*4294967296+next)/v-N,aI,g1,.inr ?_,λw=>?_⟩
  .rcases g2 with rfl|g2
   .exact g3
   .exact g2
  have H:=λw=>WB ((jb*4294967296+next)/v) ((jb*4294967296+next)%v) third v w0 N w (Nat.le_of_lt_succ d3) (fF d2 aI) ht qJ hw qD wc uS
  rw[Int.natCast_ediv,Int.natCast_emod]at H;have HD:=aum H;clear H g1 g2 g3 qD wc uS d1 d2 d3;have d1:decide ((v:Int)<=jb)=false:=bE aI;have B7:=Gg jb;have wm:=Jr jb next aI hn
  rw[show((jb*4294967296:Nat):Int)=jb*4294967296 by omega]at wm B7;have pU:((jb*4294967296+next:Nat):Int)<18446744073709551616:= aI ;rw[show((jb*4294967296+next:Nat):Int)=jb*4294967296+(next:Int)by omega]at wm pU;have tN:((v:Int)==0)=false:= aV ;go_enter func345,ntmps345;go_wp2;go_quiet (exact Calls.quiet_of_same<|(HD.out _).mono λ_ _ ⟨h1,h2⟩=>⟨h1,h2.symm⟩);go_wp2;go_ret;exact⟨rfl,_,rfl⟩
def Fp.iY.asg{w0 w w':World}{g n:Nat}(h:iY w0 w)(k:uG g (w.drewN n) w')(hg:w0.heap.size<=g):iY w0 w':=
 (below_drewN h n).trans (k.below.mono hg)
def Fp.iY.only{w0 w w':World}{g:Nat}(h:iY w0 w)(k:uG g w w')(hg:w0.heap.size<=g):iY w0 w':=
 Below.trans h (k.below.mono hg)
def Sl.XC{w:World}{g cap:Nat}{L:List Nat}(h:Sl w (some ⟨g,0,none⟩) cap L){b:Nat}(hb:g≠b)(i:Nat)(v:Value):Sl (w.setCell ⟨b,i,none⟩ v) (some ⟨g,0,none⟩) cap L:=
 h.pL (λb' o _ e=>by cases e;exact hb) (uG.JN (uG.refl b w) i v)
def Sl.drewN{w:World}{A:Option Addr}{c:Nat}{L:List Nat}(h:Sl w A c L)(n:Nat):Sl (w.drewN n) A c L:=h.below<|below_drewN (Below.refl _ _) n
def aoF{P:Program}{f:FuncId}{args:Array Value}{w:World}{n:Nat}{v:Value}
 (h:Calls P f args (w.drewN n) λe w'=>e = .returned v/\∃ m,w'=(w.drewN n).drewN m):Calls P f args (w.drewN n) λe w''=>e = .returned v/\∃ m,w''=w.drewN m:=
 h.mono λ_ _ ⟨he,m,hm⟩=>⟨he,n+m,by rw[hm,World.drewN_drewN]⟩
set_option maxRecDepth 100000 in
set_option maxHeartbeats 8000000 in
def aib(A B:Option Addr)(c d:Nat)(L M:List Nat)(w:World)(lx ly s:Nat)(B3:lx=(iI L).length)(LM:ly=(iI M).length)(xV:s=32-iE ((iI M).getD (ly-1) 0))(hs:Sl w A c L)(hr:Sl w B d M)(s7:Tb w)(h1:L.length<=100000)(h2:M.length<=100000)(uV:val M<=val L)(hlen:2<=ly):
 Calls prog 324 #[.slice A L.length c,.slice B M.length d] w (aeq w (jj (val L/val M)<|lx+1-ly)<|se (s%32)<|(iB<|val L%val M*2^s).drop<|s/32):=by
 have H1:=xu A c L w hs;have H2:=xu B d M w hr;have X8:=pV L;unfold mV at X8;have Ln:=pV M;unfold mV at Ln;have eL:=pW L;have eM:=pW M;rw[<-eL,<-eM]at uV ⊢;have kZ:=hs.wO;have pn:=hr.wO;have P7:=By M;have Yl:iI (iI L)=iI L:=By L;have Yo:iI (iI M)=iI M:=By M;have H3:=Ms A B c d (iI L) (iI M) w kZ pn aI aI;generalize iI L=X at *
 generalize iI M=Y at *
 have nD:0<=kP (val X) (val Y):=by unfold kP;split<;>(try split)<;>omega
 generalize kP (val X) (val Y)=cm at *
 have Yn:Y.length<=X.length:=by
  apply cF;intro h;have:=Nz kZ.ok P7 (aI:X.length<Y.length);omega
 clear eL eM hs hr uV;rw[<-B3]at Yn H1 H3 X8;rw[<-LM]at Yn H2 H3 Ln;have pU:Y.getD (ly-1) 0≠0:=by
  have:=(CO Y).1 P7 aI;have e:Y.getD (ly-1) 0=Y[Y.length-1]'(aI):=by
   rw[bJ,(aI:ly-1=Y.length-1)];simp[(aI:Y.length-1<Y.length)]
  rw[e];exact this
 have HN:=anN pn.ok (l:=ly-1) aI rfl pU xV;rw[(aI:ly-1+1=ly)]at HN;obtain⟨x,hx⟩:∃ x,x=Y.getD (ly-1) 0:=⟨_,rfl⟩
 have nF:x<4294967296:=by rw[hx];exact pn.ok.getD _
 have H4:=aum λw=>amN x nF w;rw[<-hx]at xV;rw[<-xV]at H4;obtain⟨ab,ao,rfl,BU,c1⟩:=pn.mM (i:=ly-1) aI;have FF:Y[ly-1]'(aI)=x:=by rw[hx];simp[bJ,(aI:ly-1<Y.length)]
 rw[FF]at c1;have alB:s<32:=HN.1;have HNh:=aum HN;have H5:=λw (h:Sl w A c X)=>aaK A c X s w h aI aI 
 have H6:=λw (h:Sl w (some ⟨ab,ao,none⟩) d Y)=>aaK (some ⟨ab,ao,none⟩) d Y s w h aI aI 
 rw[Yl,<-B3,(aI:s/32+lx+1=lx+1)]at H5;rw[Yo,<-LM,(aI:s/32+ly+1=ly+1)]at H6;have H5h:=aum H5;have H6h:=aum H6;have HX:=aum B3;have HY:=aum LM;have HS2:=aum kZ;have HR2:=aum pn;have H1h:=aum H1;have H2h:=aum H2;have H3h:=aum H3;clear H1 H2 H3 H5 H6 Yl Yo HN B3 LM hx FF xV pU kZ pn P7;have yX:(ly:Int)-1=((ly-1:Nat):Int):= aI ;have d0:decide (cm<0)=false:=bE aI;have d2:decide ((lx:Int)+1<=(lx:Int))=false:=bE aI;have qo:=FL (lx+1-ly) aI;rw[show((lx+1-ly:Nat):Int)=lx+1-(ly:Int)by omega]at qo;have d1:((ly:Int)==1)=false:= aV ;go_enter func324,ntmps324;go_wp2_with fail;refine H1h.out.mono ?_;rintro e w' ⟨rfl,rfl⟩;go_wp2_with fail;refine H2h.out.mono ?_;rintro e w' ⟨rfl,rfl⟩;go_wp2_with fail;refine H3h.out.mono ?_;rintro e w1 ⟨rfl,lu⟩;have c2:=c1;rw[<-(lu.cell (p:=⟨ab,ao+(ly-1),none⟩) BU)]at c2;go_wp2_with fail;refine(H4.out _).mono ?_;rintro e w2 ⟨rfl,rfl⟩;go_wp2_with fail;refine(H5h.out _<|HS2.out.below lu).mono ?_;rintro e w2 ⟨T,v1,he,Yi,Dr,lX,mq⟩;obtain⟨g,cap,R,zX,YE,YF,Yd,Fi,akW⟩:=lX.rx (by intro h;rw[h]at Dr;simp at Dr);have Yh:=aum lX.ok;rw[Dr]at zX Fi;subst zX;subst he;clear lX;have HTv:=aum Yi;have HTl:=aum Dr;clear Yi Dr;go_wp2_with fail;refine(H6h.out _<|(HR2.out.below lu).below mq).mono ?_;rintro e w3 ⟨S,v2,he,Yg,Ib,lX,ph⟩;have Ls:=Yd.qP<|ph.block g YF;obtain⟨g',cap',R',qJ,alc,as4,_,as2,_⟩:=lX.rx (by intro h;rw[h]at Ib;simp at Ib);obtain⟨_,_,e2,Qb⟩:=lX.sl;rw[qJ]at e2;cases e2;have LF:g'≠g:= aI 
 have H7:=xu (some ⟨g',0,none⟩) cap' S w3 Qb;have hV:iI S=iB (val Y*2^s):=by rw[sY lX.ok,Yg]
 have AS:=Qb.wO;rw[hV]at H7 AS;rw[HNh.out.2.1,Ib]at H7;rw[Ib]at qJ;have akT:iY w w3:=(lu.trans mq).trans ph;subst qJ;subst he;have H7h:=aum H7;clear lX Qb hV Yg Ib H7 Yd mq ph;go_wp2_with fail;refine H7h.out.mono ?_;rintro e w4 ⟨rfl,rfl⟩;go_wp2;go_loop [9] (λu=>u = .slice (some ⟨g,0,none⟩) (lx+1) cap) (λ_=>0)
 case atStart=>rfl
 case round=>
  subst hrel;go_wp2;have xS:=Rw.Ac w3<|lx+1-ly;have LP:=HNh.out.2.1;have wc:=HNh.out.2.2.1;have uS:=HNh.out.2.2.2.1;have Yj:=lO<|val Y*2^s;have Qi:=kE<|val Y*2^s;rw[<-Qi]at uS;generalize iB (val Y*2^s)=V at *
  have P1:=tZ.start (A:=val X) (s:=s) (V:=V) (O:=T) Yh.out HTv.out (la:=lx) (by rw[HX.out];exact nd HS2.out.ok) HTl.out alB aI aI (by rw[LP];exact uS);have Yf:=AS.alloc<|.cells (pv<|List.replicate (lx+1-ly) 0).toArray 99;have Ye:Rx (w3.alloc<|.cells (pv<|List.replicate (lx+1-ly) 0).toArray 99) g T R:=Ls.qP ((iY.alloc w3 _).block g<|by have:=Ls.lt;omega);rw[LP]at P1;have HD0:=aum P1;have HR0:=aum xS;have HRx:=aum Ye;have HSV:=aum Yf;have HE0:=aum<|akT.trans<|iY.alloc w3<|.cells (pv<|List.replicate (lx+1-ly) 0).toArray 99;have HnV:=aum LP;have HVok:=aum Yj;have HVv:=aum Qi;have HN1:=aum wc;have hgq:g<w3.heap.size:=Ls.lt;have YG:w.heap.size<=g:=b9 lu.size YE;clear P1 xS Ye Yf AS Ls LP Yj Qi wc uS HTv HTl Yh H1h H2h H3h H4 H5h H6h H7h c1 c2 d2 qo lu YE alc YF HNh HS2 HR2;go_loopw [13] (λj wr=>∃ (k:Nat) (O Q:List Nat),k<=lx+1-ly/\j = .int .i64 ((k:Int)-1)/\tZ (val X*2^s) V k (lx+1) O Q/\Rx wr g O R/\Rw wr w3.heap.size Q/\Sl wr (some ⟨g',0,none⟩) cap' V/\iY w wr) (λj _=>(intOf j+1).toNat)
  case atStart=>
   exact⟨lx+1-ly,T,_,bB _,by go_num,HD0.out,HRx.out,HR0.out,HSV.out,HE0.out⟩
  case round=>
   clear HD0 HRx HR0 HSV HE0;obtain⟨k,O,Q,hk,rfl,hD,Fe,Qa,AS,Yv⟩:=hrel;have HE:=aum Yv;have HSV:=aum AS;have HRQ:=aum Qa;have HRO:=aum Fe;have HD:=aum hD;clear hD Yv;rcases k with _|t
   .have hO:=HD.out.Z1;have YZ:=HRO.out.sl HD.out.Bl (cap:=cap) aI akW ly;have HZ:=aaL (some ⟨g,0,none⟩) cap (O.take ly) s wr YZ bg aI;have e1:(O.take ly).length=ly:=by rw[cS];omega
    rw[e1]at HZ;have HZh:=aum HZ;have HQs:=aum (HRQ.out.sl HD.out.Eb<|by rw[HD.out.I4];omega);have yM:0<val V:=by
     have:=HD.out.lt;rcases fg (val V)with h|h
     .rw [h,de]at this;omega
     .exact h
    have Ym:0<val Y:=by
     rw[HVv.out]at yM;exact Nat.pos_of_mul_pos_right yM
    have Qz:=ah7 (a:=val X) (b:=val Y) (s:=s) (q:=val Q) (r:=val O) Ym (by rw[<-HVv.out];exact HD.out.eq) (by rw[<-HVv.out];have:=HD.out.lt;rw[cH,cG]at this;exact this);have BZ:val (O.take ly)=val O:=by
     rw[asI HD.out.Bl,cw];have:=HD.out.lt;rw[cH,cG]at this;refine fF this ?_;have h:=nd HVok.out;rw[HnV.out]at h;exact h
    have X9:iI (O.take ly)=iB (val X%val Y*2^s):=by rw[sY<|HD.out.Bl.take ly,BZ,Qz.2]
    rw[X9]at HZh;have Lq:=HD.out.I4;rw[HnV.out]at Lq;have Yb:jj (val X/val Y) (lx+1-ly)=Q:=KX HD.out.Eb Lq Qz.1;have HQd:=aum Yb;generalize se (s%32) ((iB<|val X%val Y*2^s).drop<|s/32)=Z at *
    have HQl:=aum Lq;clear Qz BZ X9 Yb YZ HZ e1 Lq hO yM Ym AS Fe Qa;go_wp2_with fail;refine HZh.out.mono ?_;rintro e w5 ⟨AZ,cZ,rfl,hZs,Yp⟩;go_wp2;go_ret2;have hq:=HQs.out.below Yp;rw[HQl.out]at hq;exact⟨_,_,_,_,by rw[nH];rfl,by rw[HQd.out];exact hq,hZs,HE.out.trans Yp⟩
   .have hO:=HD.out.Z1;have c4:=Fe.cell (i:=t+ly) aI;have c5:=Fe.cell (i:=t+ly-1) aI;have c6:=Fe.cell (i:=t+ly-2) aI;obtain⟨_,_,e1,_,c7⟩:=AS.mM (i:=ly-1) (by rw[HnV.out];omega);obtain⟨_,_,e2,_,c8⟩:=AS.mM (i:=ly-2) (by rw[HnV.out];omega);cases e1;cases e2;rw[cJ]at c7 c8;have v7:V[ly-1]'(by rw[HnV.out];omega)=V.getD (ly-1) 0:=by simp[bJ,HnV.out,(aI:ly-1<ly)]
    have v8:V[ly-2]'(by rw[HnV.out];omega)=V.getD (ly-2) 0:=by simp[bJ,HnV.out,(aI:ly-2<ly)]
    rw[v7]at c7;rw[v8]at c8;clear v7 v8;have mf:=HD.out.Bl;have o4:=mf.getD<|t+ly;have o5:=mf.getD<|t+ly-1;have o6:=mf.getD<|t+ly-2;have o7:=HVok.out.getD<|ly-1;have o8:=HVok.out.getD<|ly-2;have hG:=HD.out.akG HVok.out (by rw[HnV.out];omega) (by rw[HnV.out];exact HN1.out);rw[HnV.out]at hG;obtain⟨gd,g1,g2,g3,g4⟩:=akH (O.getD (t+ly) 0) (O.getD (t+ly-1) 0) (O.getD (t+ly-2) 0) (V.getD (ly-1) 0) (V.getD (ly-2) 0) HN1.out o7 o5 o6 o8 hG.1;have HGq:=aum<|hG.2 gd g1 g2 g3;have HG:=aum g4;clear hG g2 g3 g4 mf AS Fe Qa;generalize O.getD (t+ly) 0=x4 at *
    generalize O.getD (t+ly-1) 0=x5 at *
    generalize O.getD (t+ly-2) 0=x6 at *
    have HV1:=aum (rfl:V.getD (ly-1) 0=V.getD (ly-1) 0);generalize hx7:V.getD (ly-1) 0=x7 at *
    generalize V.getD (ly-2) 0=x8 at *
    clear hx7 HV1;have i1:(((t+1:Nat):Int)-1)=(t:Int):= aI ;have i2:((t:Int)+ly).toNat=t+ly:= aI ;have i3:((t:Int)+ly-1).toNat=t+ly-1:= aI ;have i4:((t:Int)+ly-2).toNat=t+ly-2:= aI ;have i6:((ly:Int)-2)=((ly-2:Nat):Int):= aI ;have p1:IntKind.i64.wrap ((t:Int)+ly)=(t:Int)+ly:=i64_in _;have p2:IntKind.i64.wrap ((t:Int)+ly-1)=(t:Int)+ly-1:=i64_in _;have p3:IntKind.i64.wrap ((t:Int)+ly-2)=(t:Int)+ly-2:=i64_in _;have p4:IntKind.i64.wrap ((ly-1:Nat):Int)=((ly-1:Nat):Int):=i64_in _;have p5:IntKind.i64.wrap ((ly-2:Nat):Int)=((ly-2:Nat):Int):=i64_in _;have j6:((ly-1:Nat):Int)<ly:= aI ;have j7:((ly-2:Nat):Int)<ly:= aI ;have j0:0<=(t:Int)+ly:= aI ;have j1:0<=(t:Int)+ly-1:= aI ;have j2:0<=(t:Int)+ly-2:= aI ;have j3:(t:Int)+ly<lx+1:= aI ;have j4:(t:Int)+ly-1<(lx:Int)+1:= aI ;have j5:(t:Int)+ly-2<(lx:Int)+1:= aI ;rw[i1];clear i1;go_wp2;go_quiet (exact aoF<|HG.out _);go_wp2_with fail;have HTk:=ar4 g t (cap-t) cap' gd O V R (some ⟨g',0,none⟩) (wr.drewN nq) (HRO.out.qP rfl) (HSV.out.drewN nq) (λb' o _ e=>by cases e;exact LF) HD.out.Bl (by rw[HnV.out];omega) g1 aI;rw[HnV.out,(aI:ly+1=t+ly+1-t)]at HTk;refine HTk.mono ?_;rintro e w5 ⟨O',δ,rfl,Yc,qm,Fx,hδ,lI,LZ,Fy⟩;have HRO':=aum Yc;have HON:=aum Fy;have HSV5:=aum ((HSV.out.drewN nq).pL (λb' o _ e=>by cases e;exact LF) Fy);have HRQ5:=aum<|show Rw w5 w3.heap.size Q from(Fy.pL _ aI).trans HRQ.out;have HE5:=aum<|show iY w w5 from Fp.iY.asg HE.out Fy YG;have hPt:=pw t;have Yk:0<val V:=by
     have:=HD.out.lt;rcases fg (val V)with h|h
     .rw [h,de]at this;omega
     .exact h
    have wg:IntKind.u32.wrap (gd:Int)=gd:=by rw[IntKind.wrap_u32];omega
    have htm:(t:Int)<lx+1-(ly:Int):= aI ;have Y4:t<Q.length:=by rw[HD.out.I4,HnV.out];omega
    have P9:=bS Y4;have cq:=HRQ5.out.cell P9;have fq:=HRQ5.out.frozen t;generalize Q[t]=q0 at *
    have HQG:=aum P9;clear P9 Y4 c4 c5 c6 c7 c8 HRO HRQ HSV HE HTk Yc Fy;rcases eP δ 1 with FJ|hδ1
    .obtain rfl:δ=0:= aI ;have X7:=WD hPt Yk (by rw[lI,cW,ch]) HGq.out.1;have HDS:=aum (HD.out.step (x:=gd) (by rw[HnV.out];omega) (by rw[qm,hO]) Fx aI (by rw[lI,cW,ch]) X7.2);clear X7 lI LZ Fx qm HD HGq;have HRQ6:=aum (λx:Nat=>HRQ5.out.set t x);have HRO6:=aum (λv:Value=>HRO'.out.qP (w':=w5.setCell ⟨w3.heap.size,t,none⟩ v)<|by simp only[World.setCell,fW];rw[bw aI]);have HSV6:=aum (λv:Value=>HSV5.out.XC (b:=w3.heap.size) aI t v);have HE6:=aum (λv:Value=>HE5.out.setCell (p:=⟨w3.heap.size,t,none⟩) (by show w.heap.size<=w3.heap.size;omega) v);go_wp2;go_roundw
     case rel=>exact⟨t,O',Q.set t gd,aI,by go_num,HDS.out,HRO6.out _,HRQ6.out _,HSV6.out _,HE6.out _⟩
     case measure=>simp[intOf]
    .obtain rfl:δ=1:= aI ;have wq:=HD.out.abc (x:=gd) HVok.out Fx (by rw[HnV.out];exact lI) (by rw[HnV.out];exact LZ);have Dx:=wq.2;have HB:=aum (λ(κ:Nat) (O2:List Nat)=>HD.out.afk (x:=gd) (κ:=κ) (O2:=O2) HVok.out (by rw[HnV.out];omega) Fx (by rw[HnV.out];exact lI) (by rw[HnV.out];exact LZ) g1 HGq.out.2 Yk);have HP0:=aum<|zA.start Fx t V;have YL:O'.length=lx+1:=by rw[qm,hO]
     have HL':=aum YL;have hxm:IntKind.u64.wrap ((gd:Int)-1)=((gd-1:Nat):Int):=by rw[IntKind.wrap_u64];omega
     have wg1:IntKind.u32.wrap ((gd-1:Nat):Int)=((gd-1:Nat):Int):=by rw[IntKind.wrap_u32];omega
     clear wq lI LZ Fx qm YL HD HGq wg cq fq;go_wp2;go_loopw [15,125] (λcy i wr2=>∃ (k c':Nat) (O2:List Nat),k<=ly/\i = .int .i64 k/\cy = .int .u32 c'/\zA O' t V k O2 c'/\Rx wr2 g O2 R/\uG g w5 wr2) (λ_ i _=>ly-(intOf i).toNat)
     case atStart=>exact⟨0,0,O',cA _,rfl,rfl,HP0.out,HRO'.out,uG.refl _ _⟩
     case round=>
      clear HP0 HRO';obtain⟨k,c',O2,tL,rfl,rfl,hP,BT,Ix⟩:=hrel;have HP:=aum hP;have AU:=hP.OO;have ot:O2.length=lx+1:=by rw[hP.len];exact HL'.out
      have HL2:=aum ot;clear hP;by_cases je:k<ly
      .have A0:k<V.length:=by rw[HnV.out];exact je
       obtain⟨_,_,e1,_,c1⟩:=(HSV5.out.pL (λb' o _ e=>by cases e;exact LF) Ix).mM A0;cases e1;rw[cJ]at c1;have v7:V[k]=V.getD k 0:=by simp[bJ,A0]
       rw[v7]at c1;have q7:t+k<O2.length:= aI ;have c2:=BT.cell q7;have c3:=BT.frozen<|t+k;have qK:V.getD k 0<4294967296:=HVok.out.getD k;have IH:O2.getD (t+k) 0<4294967296:=HP.out.ok.getD _;have HST:=aum (HP.out.step HVok.out A0<|by rw[HL'.out,HnV.out];omega);have HRS:=aum (λx:Nat=>BT.set q7 x);have HOS:=aum λ(v:Value)=>Ix.JN (t+k) v;have HA:=aum λw=>GJ (O2.getD (t+k) 0) (V.getD k 0) c' w IH qK AU;clear BT Ix HP v7 A0 q7 ot HL2;generalize O2.getD (t+k) 0=u at *
       generalize V.getD k 0=y at *
       have zR:((t:Int)+k).toNat=t+k:= aI ;have yR:0<=(t:Int)+k:= aI ;have YI:(t:Int)+k<lx+1:= aI ;go_wp2_with fail;refine(HA.out _).mono ?_;rintro e w6 ⟨rfl,rfl⟩;go_wp2;go_roundw
       case rel=>
        exact⟨k+1,(u+y+c')/4294967296,O2.set (t+k)<|(u+y+c')%4294967296,aI,by go_num,rfl,HST.out,HRS.out _,HOS.out _⟩
       case measure=>simp[intOf];omega
      .obtain rfl:k=ly:= aI ;have Lp:=(show zA O' t V V.length O2 c' by rw[HnV.out];exact HP.out).RC (by rw[HL'.out,HnV.out];omega);rw[HnV.out]at Lp;obtain⟨q1,q2,⟨κ,q3,q4⟩,q5⟩:=Lp;have q7:t+k<O2.length:= aI ;have c2:=BT.cell q7;have c3:=BT.frozen<|t+k;have IH:O2.getD (t+k) 0<4294967296:=HP.out.ok.getD _;have HDS:=aum (HB.out κ _ (by rw[q1];exact HL'.out) q2 q3 (by rw[HnV.out];exact q4)<|by rw[HnV.out];exact q5);have HRS:=aum (λx:Nat=>BT.set q7 x);have HOS:=aum λ(v:Value)=>Ix.JN (t+k) v;have Lr:∀ v:Value,Rw (wr.setCell ⟨g,t+k,none⟩ v) w3.heap.size Q:=λv=>((HOS.out v).pL _ aI).trans HRQ5.out
       have hcq:∀ v:Value,(wr.setCell ⟨g,t+k,none⟩ v).cell? ⟨w3.heap.size,t,none⟩=some (.int .u32 (q0:Int)):=λv=>(Lr v).cell HQG.out
       have hfq:∀ v:Value,(wr.setCell ⟨g,t+k,none⟩ v).frozen? ⟨w3.heap.size,t,none⟩=false:=λv=>(Lr v).frozen t
       have HRQ8:=aum λ(v:Value) (x:Nat)=>(Lr v).set t x;have HRO8:=aum (λ(x:Nat) (v:Value)=>(HRS.out x).qP (w':=(wr.setCell ⟨g,t+k,none⟩<|.int .u32 (x:Int)).setCell ⟨w3.heap.size,t,none⟩ v)<|by simp only[World.setCell,fW];rw[bw aI]);have HSV8:=aum (λ(v v2:Value)=>(HSV5.out.pL (λb' o _ e=>by cases e;exact LF)<|HOS.out v).XC (b:=w3.heap.size) aI t v2);have HE8:=aum (λ(v v2:Value)=>(Fp.iY.only HE5.out (HOS.out v) YG).setCell (p:=⟨w3.heap.size,t,none⟩) (by show w.heap.size<=w3.heap.size;omega) v2);clear Lr HRS HOS BT Ix HP q1 q2 q3 q4 q5 q7 ot HL2;generalize O2.getD (t+k) 0=u at *
       have zR:((t:Int)+k).toNat=t+k:= aI ;have yR:0<=(t:Int)+k:= aI ;have YI:(t:Int)+k<lx+1:= aI ;have hi4:IntKind.u32.wrap ((u:Int)+c')=(((u+c')%4294967296:Nat):Int):=by rw[IntKind.wrap_u32];omega
       generalize (u+c')%4294967296=uu at *
       go_wp2;go_roundw
       case rel=>exact⟨t,O2.set (t+k) uu,Q.set t<|gd-1,aI,by go_num,HDS.out,HRO8.out _ _,HRQ8.out _ _,HSV8.out _ _,HE8.out _ _⟩
       case measure=>simp[intOf]
def arA:E.le (.v<|.slice none 0 0)<|iG []:=λbs br w v h=>by
 obtain rfl:=jd.lh h;exact .sl false 0 1 _ none 0 (λ_ _=>undef) (bB _) aK (λ_=>rfl) (λi j hi=>absurd hi<|bM i) (λi j hi=>absurd hi<|bM i) (λi j hi=>absurd hi<|bM i) λi j hi=>absurd hi<|bM i
def arB{x:Nat}:E.le (.sl false 1 1 λi_ j_=>[.v<|.int .u32 (x:Int)].getD (i_*1+j_)<|.v<|.bool false)<|iG [x]:=.sl λi j hi hj=>by
 obtain rfl:i=0:= aI ;obtain rfl:j=0:= aI ;exact⟨.refl _,rfl⟩
def Wb(L:List Nat)(hk:jc L):iA 180 [iG L]<|iG L:=Js hk call180 (λA c w h _=>O4 A c L w h) λA c B w e w' h hB ⟨h1,h2⟩=>by
 subst h2;exact⟨_,h1,Below.refl _ _,zn hB (Below.refl _ _) ⟨bB _,h.len,h.ok,λhn=>by have:=h.y4 hn;have:=h.cap;omega,h.cell⟩⟩
def Wc(L:List Nat)(hk:jc L)(hl:L.length<=1000000):iA 181 [iG L]<|iG L:=Js hk call181 (λA c w h _=>O5 A c L w h aI) λA c B w e w' h hB r=>rl B w e w' hB r
section
variable(L M:List Nat)(hL:jc L)(hM:jc M)(h1:L.length<=100000)
def anf(h2:M.length<=100000)(hc:kP (val<|iI L) (val<|iI M)<0):iA 324 [iG L,iG M]<|.iK [iG [],iG<|iI L]:=by
 have ta:=pV L;have tb:=pV M;unfold mV at ta tb;exact iM<|ae [.c<|Bj L aJ,.c<|Bj M aJ,.c<|RT (iI L) (iI M) (jc.iI aJ) (jc.iI aJ) aI aI,tB 25<|bC hc,ag [iG<|iI L]<|Wc _ (jc.iI aJ) aI]<|rR (.iK [iG [],iG<|iI L]) (.iK<|.cons arA<|.cons (.refl _) .nil:E.le (.iK [.v<|.slice none 0 0,iG<|iI L])<|.iK [iG [],iG<|iI L])
def ang(h2:M.length<=100000)(hc:¬kP (val<|iI L) (val<|iI M)<0)(hl:(iI M).length=1)(rO:0<(iI M).getD 0 0)(ug:(iI M).getD 0 0<4294967296):iA 324 [iG L,iG M]<|.iK [iG<|jj (val (iI L)/(iI M).getD 0 0) (iI L).length,iG [val (iI L)%(iI M).getD 0 0]]:=by
 have ta:=pV L;have tb:=pV M;unfold mV at ta tb;exact iM<|ae [.c<|Bj L aJ,.c<|Bj M aJ,.c<|RT (iI L) (iI M) (jc.iI aJ) (jc.iI aJ) aI aI,tB 25<|bE hc,ah 30 (((iI M).length:Int)==1)<|by rw[hl];rfl,iX 0<|(iI M).length,.c<|ann (iI L) ((iI M).getD 0 0) (jc.iI aJ) aI rO ug]<|rR (.iK [iG<|jj (val (iI L)/(iI M).getD 0 0) (iI L).length,iG [val (iI L)%(iI M).getD 0 0]]) (.iK<|.cons (.refl _)<|.cons arB .nil:E.le (.iK [iG<|jj (val (iI L)/((iI M).getD 0 0)) (iI L).length,(.sl false 1 1 λi_ j_=>[.v<|.int .u32 ((val (iI L)%((iI M).getD 0 0):Nat):Int)].getD (i_*1+j_)<|.v<|.bool false)])<|.iK [iG<|jj (val (iI L)/(iI M).getD 0 0) (iI L).length,iG [val (iI L)%(iI M).getD 0 0]])
def anh(h2:M.length<=100000)(h0:val M≠0):∃ T S:List Nat,iA 324 [iG L,iG M] (.iK [iG T,iG S])/\val T=val L/val M/\val S=val L%val M/\jc T/\jc S/\T.length<=L.length/\S.length<=L.length+1:=by
 have ta:=pV L;have tb:=pV M;unfold mV at ta tb;have e1:=pW L;have e2:=pW M;by_cases hc:kP (val<|iI L) (val<|iI M)<0
 .refine ⟨[],iI L,anf L M hL hM h1 h2 hc,?_,?_,jc.nil,hL.iI,cA _,aI⟩
  .rw [e1,e2]at hc;have:val L<val M:=by unfold kP at hc;split at hc<;>(try split at hc)<;>omega
   rw[cI this];rfl
  .rw [e1,e2]at hc;have:val L<val M:=by unfold kP at hc;split at hc<;>(try split at hc)<;>omega
   rw[cw this,e1]
 .have uV:val M<=val L:=by rw[e1,e2]at hc;unfold kP at hc;split at hc<;>(try split at hc)<;>omega
  have jM:iI M≠[]:=by intro h;rw[h]at e2;exact h0 e2.symm
  have hlen:(iI M).length≠0:=by simpa using jM
  by_cases hl:(iI M).length=1
  .obtain ⟨x,hx⟩:=List.length_eq_one_iff.1 hl;have mf:=hM.iI;rw[hx]at mf;have Zf:x=val M:=by rw[<-e2,hx];simp[val]
   have hg:(iI M).getD 0 0=x:=by rw[hx];rfl
   have:=ang L M hL hM h1 h2 hc hl (by rw[hg];omega) (by rw[hg];exact mf.head);rw[hg]at this;refine⟨_,_,this,?_,?_,vN _ _,jc.cons (fF (bQ _ aI) mf.head) jc.nil,by rw[nH];exact ta,aP⟩
   .rw [zt,cw,e1,Zf];exact dh (cM _ _)<|nd hL.iI
   .simp [val,e1,Zf]
  .refine ⟨_,_,Ec hL hM call324 (λA c B d w h k hT=>aib A B c d L M w _ _ _ rfl rfl rfl h k hT h1 h2 uV aI) λB w e w' hB ⟨A1,c1,B1,d1,q1,q2,q3,q4⟩=>⟨_,q1,q4,kR.iK<|.cons (zn hB q4 q2)<|.cons (zn hB q4 q3)<|.nil _ _ _⟩,?_,?_,vN _ _,Jo _ _,?_,?_⟩
   .rw [zt,cw];rw[cK aI];have g1:=nd hL.iI;rw[e1]at g1;refine cg g1 ?_;obtain⟨l,qm⟩:∃ l,(iI M).length=l+1:=⟨(iI M).length-1,aI⟩
    have g2:4294967296^l<=val M:=by
     apply cF;intro q;have q2:(iB<|val M).length<=l:=sR aI;rw[<-sY hM]at q2;omega
    have g3:=cT (4294967296^((iI L).length+1-(iI M).length)) g2;rw[<-bG]at g3;refine b9 ?_ g3;exact bZ aK aI 
   .rw [Tp<|lO _,kE,eB _<|bL aK]
   .rw [nH];omega
   .rw [Nd,fE];have hb:32-iE ((iI M).getD ((iI M).length-1) 0)<33:= aI ;have:=amI (lO<|val L%val M)<|32-iE ((iI M).getD ((iI M).length-1) 0);rw[kE]at this;have h3:(iB<|val L%val M).length<=(iB<|val L).length:=wC<|gS _ _;rw[<-sY hL]at h3;omega
end
def ane(m n:Nat)(h1:(iB m).length<=256)(h2:(iB n).length<=256)(h0:n≠0):iA 303 [iG<|iB m,iG<|iB n]<|.iK [iG<|iB<|m/n,iG<|iB<|m%n,iP 0]:=by
 obtain⟨T,S,hdv,hT,hS,oT,oS,_,_⟩:=anh (iB m) (iB n) (lO m) (lO n) aI aI (by rw[kE];exact h0);rw[kE,kE]at hT hS;have hz:iI (iB n)=iB n:=Av n;have hl:=pF h0;have ot:(((iI<|iB n).length:Int)==0)=false:=by rw[hz];exact nK hl
 exact iM<|ae [.c<|aaF (iB m) (iB n) aJ aJ,.c<|Bj (iB n)<|lO _,ai 18 (((iI<|iB n).length:Int)==0) ot,ag [iG<|iB m,iG<|iB n] hdv,.c<|Bj T aJ,ag [iG<|iI T]<|Wb _<|jc.iI aJ,.c<|Bj S aJ,ag [iG<|iI S]<|Wb _<|jc.iI aJ]<|rQ (.iK [iG<|iI T,iG<|iI S,iP 0]) (.iK [iG<|iB<|m/n,iG<|iB<|m%n,iP 0])<|by rw[sY oT,sY oS,hT,hS]
def ab9(a b:Dy)(p:Nat)(up:Bool)(ha:a.iD)(hb:b.iD)(b0:b.m≠0)(iU:8<=p)(iJ:p<=512):iA 290 [iF a,iF b,iP p,bP up]<|.iK [iF<|lj a b p up,iP<|nZ a b p up]:=by
 by_cases a0:a.m=0
 .have e1:lj a b p up=jK/\nZ a b p up=0:=by unfold lj nZ;rw[bA a0,bA a0];exact⟨rfl,rfl⟩
  exact iM<|ae [.o 18<|.e<|yI a b,.c<|zd p a b aJ aJ,ai 21 ((0:Int) != 0) aK,ai 28 (((iB b.m).length:Int)==0)<|nK<|pF b0,ah 34 (((iB a.m).length:Int)==0)<|sA<|oO.2 a0,.o 35 (.e tz:aj (.agg av)<|iF jK)]<|rQ (.iK [iF jK,iP 0]) (.iK [iF<|lj a b p up,iP<|nZ a b p up])<|by rw[e1.1,e1.2]
 .have va:=ha.iB;have vb:=hb.iB;have xa:=ha.exp;have xb:=hb.exp;have ra:=ha.range.resolve_left a0;have rb:=hb.range.resolve_left b0;have pa:=og a0;have pb:=og b0;have hK:kQ a b p 3=p+3+iE b.m-iE a.m:=rfl;have bs:=rJ a0<|kQ a b p 3;have z1:(iB<|a.m*2^kQ a b p 3).length<=256:=nJ;have hq:=Pf a0 b0 p 3 aK;have q0:a.m*2^kQ a b p 3/b.m≠0:=by intro q;rw[q,tE]at hq;omega
  have z2:(iB<|a.m*2^kQ a b p 3/b.m).length<=256:=nJ (by have:=ub<|cM (a.m*2^kQ a b p 3) b.m;omega);have z3:(iB<|a.m*2^kQ a b p 3%b.m).length<=256:=nJ (by have:=ub<|dU<|bQ (a.m*2^kQ a b p 3)<|ep b0;omega);have qi:decide (0<(iE<|a.m*2^kQ a b p 3%b.m:Int))=decide (a.m*2^kQ a b p 3%b.m≠0):=by
   by_cases h:a.m*2^kQ a b p 3%b.m=0
   .rw [h,tE];rfl
   .have:=og h;rw[bC h,bC aI]
  obtain⟨d1,d2⟩:=ah8 a0 b0 p up;have h0:a.m*2^kQ a b p 3/b.m≠0\/a.m*2^kQ a b p 3/b.m=0/\a.e-(kQ a b p 3:Int)-b.e=0/\decide (0<(iE<|a.m*2^kQ a b p 3%b.m:Int))=false:=.inl q0;have hm:decide (0<(iE<|a.m*2^kQ a b p 3%b.m:Int))=true->p<iE (a.m*2^kQ a b p 3/b.m):=λ_=>hq
  exact iM (ae [.o 18<|.e<|yI a b,.c<|zd p a b aJ aJ,ai 21 ((0:Int) != 0) aK,ai 28 (((iB b.m).length:Int)==0)<|nK<|pF b0,ai 34 (((iB a.m).length:Int)==0)<|nK<|pF a0,iL<|(p:Int)+3,.c<|WT b aJ,
   iL (((p:Int)+3)+(iE<|Dy.m b:Int)),.c<|WT a aJ,iL<|(((p:Int)+3)+(iE<|Dy.m b:Int))-(iE<|Dy.m a:Int),.o 44<|ar (if((((p:Int)+3)+(iE<|Dy.m b:Int))-(iE<|Dy.m a:Int))>0 then((((p:Int)+3)+(iE<|Dy.m b:Int))-(iE<|Dy.m a:Int))else 0) (kQ a b p 3:Int) aU,.c<|Ai a.m<|kQ a b p 3,.c<|ane (a.m*2^(kQ a b p 3)) b.m aI aI aJ,iL<|a.e-(kQ a b p 3:Int),
   iL ((a.e-(kQ a b p 3:Int))-b.e),.c<|yh<|(a.m*2^(kQ a b p 3))%b.m,.c<|JD (! (a.neg==b.neg)) ((a.m*2^(kQ a b p 3))/b.m) ((a.e-(kQ a b p 3:Int))-b.e) (decide (0<(iE<|(a.m*2^(kQ a b p 3))%b.m:Int))) up p aI aJ aI aI aI aI aJ]<|rQ (.iK [iF<|j9 (!(a.neg==b.neg)) ((a.m*2^(kQ a b p 3))/b.m) ((a.e-(kQ a b p 3:Int))-b.e) (decide (0<(iE<|(a.m*2^(kQ a b p 3))%b.m:Int))) p up,iP<|jW (!(a.neg==b.neg)) ((a.m*2^(kQ a b p 3))/b.m) ((a.e-(kQ a b p 3:Int))-b.e) (decide (0<(iE<|(a.m*2^(kQ a b p 3))%b.m:Int))) p up]) (.iK [iF<|lj a b p up,iP<|nZ a b p up])<|by rw[<-d1,<-d2,<-qi];rfl)
section
variable(a b:Dy)(p:Nat)(ha:a.iD)(hb:b.iD)(b0:b.m≠0)(iU:8<=p)(iJ:p<=512)
def ab7:iA 264 [iF a,iF b,iP p]<|.iK [iF<|lj a b p false,iP<|nZ a b p false]:=
 iM (af [ag [iF a,iF b,iP p,bP false]<|ab9 _ _ _ _ aJ aJ aJ aI aI])
def ab8:iA 265 [iF a,iF b,iP p]<|.iK [iF<|lj a b p true,iP<|nZ a b p true]:=
 iM (af [ag [iF a,iF b,iP p,bP true]<|ab9 _ _ _ _ aJ aJ aJ aI aI])
end
def ZG(l:List Iv)(i:Nat):PS:=⟨19,true,[(7,.e<|iP i),(6,.e<|iP l.length),(5,.e<|iQ l)],[]⟩
def ZF(l:List Iv)(N:Nat)(i:Nat):PS:=⟨19,true,[(7,.e<|iP i),(6,.e<|iP l.length),(5,.e<|iQ l)],[]⟩
def nT(a:Iv):E.le (.sl true 1 7 λi j=>(ju a).getD (i*7+j)<|.v<|.bool false)<|iQ [a]:=.sl λi j hi hj=>by
 obtain rfl:i=0:= aI ;rcases j with _|_|_|_|_|_|_|j
 all_goals first|exact⟨.refl _,rfl⟩|omega
def xq(a b:Iv):E.le (.sl true 2 7 λi j=>(ju a++ju b).getD (i*7+j)<|.v<|.bool false)<|iQ [a,b]:=.sl λi j hi hj=>by
 obtain rfl|rfl:i=0\/i=1:= aI 
 all_goals
  rcases j with _|_|_|_|_|_|_|j
  all_goals first|exact⟨.refl _,rfl⟩|omega
def qs{x:Iv}(h:x.iD)(ha:x.all=false):x.lo.iD/\x.hi.iD/\jI x.lo x.hi<=0:=by
 rcases h with⟨h1,_⟩|⟨_,h⟩
 .rw [ha]at h1;cases h1
 .exact h
def Rt{x:Iv}(h:x.iD)(ha:x.all=true):x.lo=jK/\x.hi=jK:=by
 rcases h with⟨_,h⟩|⟨h1,_⟩
 .exact h
 .rw [ha]at h1;cases h1
def tO : iA 166 []<|iC iH:=
 iM (af [.o 1 (.e J0:aj (.agg [bP false,.v<|.slice none 0 0,iP 0,bP false,.v<|.slice none 0 0,iP 0,bP true])<|iC iH)])
def Rr(lo hi:Dy)(e f:Int):iA 169 [iF lo,iP e,iF hi,iP f]<|iC<|ns lo e hi f:=by
 by_cases he:e=0
 .by_cases hf:f=0
  .exact iM<|ae [ai 10 (e != 0)<|by rw[he];rfl,ai 13 (f != 0)<|by rw[hf];rfl]<|rQ (iC<|Iv.mk lo hi false) (iC<|ns lo e hi f)<|by rw[show ns lo e hi f=⟨lo,hi,false⟩by unfold ns;rw[bw<|by simp[he,hf]]];try rfl
  .exact iM<|ae [ai 10 (e != 0)<|by rw[he];rfl,ah 13 (f != 0)<|by simpa using hf,ag [] tO]<|rQ (iC iH) (iC<|ns lo e hi f)<|by rw[show ns lo e hi f=iH by unfold ns;rw[bA<|.inr hf]]
 .exact iM<|ae [ah 10 (e != 0)<|by simpa using he,ag [] tO]<|rQ (iC iH) (iC<|ns lo e hi f)<|by rw[show ns lo e hi f=iH by unfold ns;rw[bA<|.inl he]]
def ZJ : iA 99 [iF jK]<|bP true:=
 iM (af [ai 4 jK.neg rfl,ah 10 (((iB jK.m).length:Int)==0)<|sA<|oO.2 rfl,ah 15 (jK.e==0) rfl])
def z8(x:Iv)(hx:x.iD):iA 51 [iC x]<|bP true:=by
 by_cases lp:x.all=true
 .obtain ⟨h1,h2⟩:=Rt hx lp;exact iM<|af [ah 5 x.all lp,.c (by rw[h1];exact ZJ:iA 99 [iF x.lo]<|bP true),.c (by rw[h2];exact ZJ:iA 99 [iF x.hi]<|bP true)]
 .replace lp:x.all=false:=by simpa using lp
  obtain⟨h1,h2,h3⟩:=qs hx lp;exact iM<|af [ai 5 x.all lp,.c<|tI x.lo aJ,.c<|tI x.hi aJ,.c<|ss x.lo x.hi aJ aJ,tB 30<|bC h3]
section
variable(l:List Iv)(hl:l.length<=1000)(hv:∀ i,i<l.length->(l.getD i iH).iD)
def ZH(ha:∀ i,i<l.length->(l.getD i iH).all=false):iA 164 [iQ l]<|bP true:=
 iM (af [.s (Sp.kj (ZG l) 0 l.length aI (λi hi qn=>by
    have Zb:=hv i aI;have Ql:=ha i aI;exact jg (af [tT 8 ((i:Int)<l.length) aI,iX (i:Int)<|l.length,ai 12 ((l.getD i iH).all) Ql,ag [iC<|l.getD i iH]<|z8 _ aJ,
     iL ((i:Int)+1)]) aM)
  (λhi=>by
    exact jg (af [tF 8 ((l.length:Int)<l.length) aI]) aM) aQ:ki 2 f164 (ZG l 0) (.exit 0) ⟨19,true,[],[]⟩) .nil])
def Rp(N:Nat)(hN:N<l.length)(ha:∀ i,i<N->(l.getD i iH).all=false)(uS:(l.getD N iH).all=true):iA 164 [iQ l]<|bP false:=
 iM (af [.s (Sp.kj (ZF l N) 0 N aI (λi hi qn=>by
    have Zb:=hv i aI;have Ql:=ha i aI;exact jg (af [tT 8 ((i:Int)<l.length) aI,iX (i:Int)<|l.length,ai 12 ((l.getD i iH).all) Ql,ag [iC<|l.getD i iH]<|z8 _ aJ,
     iL ((i:Int)+1)]) aM)
  (λhi=>by
    exact jg (af [tT 8 ((N:Int)<l.length) aI,iX (N:Int)<|l.length,ah 12 ((l.getD N iH).all) uS]) aM) aQ:ki 2 f164 (ZF l N 0) .ret ⟨19,true,[(2,.e<|bP false)],[]⟩) .nil])
end
def uq(x:Iv)(hx:x.iD):iA 164 [iQ [x]]<|bP<|!x.all:=by
 have hv:∀ i,i<[x].length->([x].getD i iH).iD:=λi hi=>(match i,hi with
  | 0,_=>hx
  |n+1,hi=>absurd hi aP)
 cases lp:x.all with
 |true=>exact Rp [x] aP hv 0 aP (λi hi=>absurd hi<|bM i) lp
 |false=>exact ZH [x] aP hv (λi hi=>(match i,hi with
  | 0,_=>lp
  |n+1,hi=>absurd hi aP))
def Ce(x y:Iv)(hx:x.iD)(hy:y.iD):iA 164 [iQ [x,y]]<|bP<|!(x.all||y.all):=by
 have hv:∀ i,i<[x,y].length->([x,y].getD i iH).iD:=λi hi=>(match i,hi with
  | 0,_=>hx
  | 1,_=>hy
  |n+2,hi=>absurd hi aP)
 cases lp:x.all with
 |true=>exact Rp [x,y] aP hv 0 aP (λi hi=>absurd hi<|bM i) lp
 |false=>cases Ca:y.all with
  |true=>exact Rp [x,y] aP hv 1 aP (λi hi=>(match i,hi with
   | 0,_=>lp
   |n+1,hi=>absurd hi aI)) Ca
  |false=>exact ZH [x,y] aP hv (λi hi=>(match i,hi with
   | 0,_=>lp
   | 1,_=>Ca
   |n+2,hi=>absurd hi aP))
def IW(x y:Iv)(p:Nat)(hx:x.iD)(hy:y.iD)(iU:8<=p:=by omega)(iJ:p<=512:=by omega):iA 106 [iC x,iC y,iP p]<|iC<|iZ x y p:=by
 by_cases hk:(x.all||y.all)=true
 .exact iM<|ae [.o 13<|.e<|xq x y,ag [iQ [x,y]]<|Ce _ _ aJ aJ,ai 14 (!(x.all||y.all))<|by rw[hk];rfl,ag [] tO]<|rQ (iC iH) (iC<|iZ x y p)<|by rw[show iZ x y p=iH by unfold iZ;rw[bA hk]]
 .replace hk:(x.all||y.all)=false:=by simpa using hk
  have lp:x.all=false:=by cases h:x.all;rfl;rw[h]at hk;simp at hk
  have Ca:y.all=false:=by cases h:y.all;rfl;rw[h]at hk;simp at hk
  obtain⟨v1,v2,v3⟩:=qs hx lp;obtain⟨v4,v5,v6⟩:=qs hy Ca;exact iM<|ae [.o 13<|.e<|xq x y,ag [iQ [x,y]]<|Ce _ _ aJ aJ,ah 14 (!(x.all||y.all))<|by rw[hk];rfl,.c<|Cf (p:Int),ah 18 (mH (p:Int))<|sC.2 ⟨aI,aI⟩,.c<|apT x.lo y.lo p aJ aJ aI aI,.c<|ab5 x.hi y.hi p aJ aJ aI aI,ag [iF<|kt (jh x.lo y.lo) p false,iP<|kS (jh x.lo y.lo) p false,iF<|kt (jh x.hi y.hi) p true,iP<|kS (jh x.hi y.hi) p true]<|Rr _ _ _ _]<|rQ (iC<|ns (kt (jh x.lo y.lo) p false) (kS (jh x.lo y.lo) p false) (kt (jh x.hi y.hi) p true)<|kS (jh x.hi y.hi) p true) (iC<|iZ x y p)<|by rw[show iZ x y p=_ by unfold iZ;rw[bw<|by rw[hk];decide]]
def ZI(x:Iv)(hx:x.iD):iA 268 [iC x]<|iC<|lg x:=by
 by_cases lp:x.all=true
 .exact iM<|ae [.o 4<|.e<|nT x,ag [iQ [x]]<|uq _ aJ,ai 5 (!x.all)<|by rw[lp];rfl,ag [] tO]<|rQ (iC iH) (iC<|lg x)<|by rw[show lg x=iH by unfold lg;rw[bA lp]]
 .replace lp:x.all=false:=by simpa using lp
  obtain⟨v1,v2,v3⟩:=qs hx lp;exact iM<|ae [.o 4<|.e<|nT x,ag [iQ [x]]<|uq _ aJ,ah 5 (!x.all)<|by rw[lp];rfl,.c<|AQ x.hi aJ,.c<|AQ x.lo aJ]<|rQ (iC<|Iv.mk (jl x.hi) (jl x.lo) false) (iC<|lg x)<|by rw[show lg x=⟨jl x.hi,jl x.lo,false⟩by unfold lg;rw[bw<|by rw[lp];decide]];try rfl
def al6(x y:Iv)(p:Nat)(hx:x.iD)(hy:y.iD)(iU:8<=p)(iJ:p<=512):iA 266 [iC x,iC y,iP p]<|iC<|jP x y p:=by
 have hn:=nO hy;exact iM<|af [ag [iC y]<|ZI _ aJ,ag [iC x,iC<|lg y,iP p]<|IW _ _ _ aJ aJ]
def al5(d:Dy)(hd:d.iD):iA 288 [iF d]<|iC<|mT d:=
 iM (af [.c<|tI d aJ])
def K1(d:Dy)(hd:d.iD):iA 309 [iF d]<|iF<|mG d:=by
 have hl:=hd.iB;by_cases h0:d.m=0
 .have e1:mG d=jK:=by
   rcases hd.canon with q|q
   .unfold mG jK;rw[q.1,q.2.2]
   .omega
  exact iM<|ae [.c<|tI d aJ,ah 10 (((iB d.m).length:Int)==0)<|sA<|oO.2 h0,.o 12 (.e tz:aj (.agg av)<|iF jK)]<|rQ (iF jK) (iF<|mG d)<|by rw[e1]
 .exact iM<|af [.c<|tI d aJ,ai 10 (((iB d.m).length:Int)==0)<|nK<|pF h0,.c<|Wc (iB d.m) (lO _) aI]
section
variable(a b:Dy)(ha:a.iD)(hb:b.iD)
def Rq:iA 53 [iF a,iF b]<|iF<|jv a b:=by
 have hc:=AN a b;by_cases h:(jI a b<=0)
 .exact iM<|ae [.c<|ss a b aJ aJ,tB 8<|bC h]<|rQ (iF a) (iF<|jv a b)<|by unfold jv;rw[bw aI]
 .exact iM<|ae [.c<|ss a b aJ aJ,tB 8<|bE h]<|rQ (iF b) (iF<|jv a b)<|by unfold jv;rw[bA aI]
def Rs:iA 52 [iF a,iF b]<|iF<|jq a b:=by
 have hc:=AN a b;by_cases h:(0<=jI a b)
 .exact iM<|ae [.c<|ss a b aJ aJ,tB 8<|bC h]<|rQ (iF a) (iF<|jq a b)<|by unfold jq;rw[bw aI]
 .exact iM<|ae [.c<|ss a b aJ aJ,tB 8<|bE h]<|rQ (iF b) (iF<|jq a b)<|by unfold jq;rw[bA aI]
end
section
variable(x:Iv)(hx:x.iD)
def Mg:iA 291 [iC x]<|iP<|lL x:=by
 by_cases lp:x.all=true
 .exact iM<|ae [.o 5<|.e<|nT x,ag [iQ [x]]<|uq _ aJ,ai 6 (!x.all)<|by rw[lp];rfl]<|rQ (iP 0) (iP<|lL x)<|by rw[show lL x=0 by unfold lL;rw[bA lp]]
 .replace lp:x.all=false:=by simpa using lp
  obtain⟨v1,v2,v3⟩:=qs hx lp;by_cases h1:0<x.lo.jB
  .exact iM<|ae [.o 5<|.e<|nT x,ag [iQ [x]]<|uq _ aJ,ah 6 (!x.all)<|by rw[lp];rfl,.c<|vO x.lo aJ,tB 12<|bC h1]<|rQ (iP 1) (iP<|lL x)<|by rw[show lL x=1 by unfold lL;rw[bw<|by rw[lp];decide];simp[h1]]
  .by_cases h2:x.hi.jB<0
   .exact iM<|ae [.o 5<|.e<|nT x,ag [iQ [x]]<|uq _ aJ,ah 6 (!x.all)<|by rw[lp];rfl,.c<|vO x.lo aJ,tB 12<|bE h1,.c<|vO x.hi aJ,tB 17<|bC h2]<|rQ (iP (-1)) (iP<|lL x)<|by rw[show lL x = -1 by unfold lL;rw[bw<|by rw[lp];decide];simp[h1,h2]]
   .exact iM<|ae [.o 5<|.e<|nT x,ag [iQ [x]]<|uq _ aJ,ah 6 (!x.all)<|by rw[lp];rfl,.c<|vO x.lo aJ,tB 12<|bE h1,.c<|vO x.hi aJ,tB 17<|bE h2]<|rQ (iP 0) (iP<|lL x)<|by rw[show lL x=0 by unfold lL;rw[bw<|by rw[lp];decide];simp[h1,h2]]
def al2(lp:x.all=false):iA 305 [iC x]<|.iK [iF<|mB x,bP true]:=by
 obtain⟨v1,v2,v3⟩:=qs hx lp;have w1:=ua v1;have w2:=ua v2;exact iM<|af [.o 5<|.e<|nT x,ag [iQ [x]]<|uq _ aJ,ah 6 (!x.all)<|by rw[lp];rfl,ag [iF x.lo]<|K1 _ aJ,ag [iF x.hi]<|K1 _ aJ,ag [iF<|mG x.lo,iF<|mG x.hi]<|Rs _ _ aJ aJ]
def al4(lp:x.all=false):iA 304 [iC x]<|.iK [iF<|nV x,bP true]:=by
 obtain⟨v1,v2,v3⟩:=qs hx lp;have w1:=ua v1;have w2:=ua v2;by_cases hs:lL x=0
 .exact iM<|ae [.o 5<|.e<|nT x,ag [iQ [x]]<|uq _ aJ,ah 6 (!x.all)<|by rw[lp];rfl,ag [iC x]<|Mg _ aJ,ah 11 ((lL x)==0)<|by rw[hs];rfl,.o 12 (.e tz:aj (.agg av)<|iF jK)]<|rQ (.iK [iF jK,bP true]) (.iK [iF<|nV x,bP true])<|by rw[show nV x=jK by unfold nV;rw[bA hs]]
 .exact iM<|ae [.o 5<|.e<|nT x,ag [iQ [x]]<|uq _ aJ,ah 6 (!x.all)<|by rw[lp];rfl,ag [iC x]<|Mg _ aJ,ai 11 ((lL x)==0)<|by simpa using hs,ag [iF x.lo]<|K1 _ aJ,ag [iF x.hi]<|K1 _ aJ,ag [iF<|mG x.lo,iF<|mG x.hi]<|Rq _ _ aJ aJ]<|rQ (.iK [iF<|jv (mG x.lo)<|mG x.hi,bP true]) (.iK [iF<|nV x,bP true])<|by rw[show nV x=jv (mG x.lo) (mG x.hi)by unfold nV;rw[bw hs]]
def alW:iA 292 [iC x]<|iC<|iW x:=by
 by_cases lp:x.all=true
 .exact iM<|ae [.o 8<|.e<|nT x,ag [iQ [x]]<|uq _ aJ,ai 9 (!x.all)<|by rw[lp];rfl,ag [] tO]<|rQ (iC iH) (iC<|iW x)<|by rw[show iW x=iH by unfold iW;rw[bA lp]]
 .replace lp:x.all=false:=by simpa using lp
  obtain⟨v1,v2,v3⟩:=qs hx lp;exact iM<|ae [.o 8<|.e<|nT x,ag [iQ [x]]<|uq _ aJ,ah 9 (!x.all)<|by rw[lp];rfl,ag [iC x]<|al4 _ aJ lp,ag [iC x]<|al2 _ aJ lp]<|rQ (iC<|Iv.mk (nV x) (mB x) false) (iC<|iW x)<|by rw[show iW x=⟨nV x,mB x,false⟩by unfold iW;rw[bw<|by rw[lp];decide]];try rfl
end
section
variable(x y:Iv)(p:Nat)(gd gu:FuncId)(DD:Dy->Dy->Bool->Dy)
def alY(EE:Dy->Dy->Bool->Int):PS:=⟨96,true,[(41,.e<|iP 0),(40,.e<|.agg<|ju (Iv.mk x.lo y.lo x.lo.neg)++[iG<|iB x.lo.m,iP x.lo.e]++ju (Iv.mk y.hi x.hi y.lo.neg)++[iG<|iB y.lo.m,iP y.lo.e]++ke x.hi++ke y.hi),(12,.box 12 0),(10,.box 10 0),(2,.e<|iP p),(3,.e<|.fn gd []),(4,.e<|.fn gu [])],[(12,.cells 38<|ju<|Iv.mk (DD x.lo y.lo false) (DD x.lo y.lo true) false),(10,.cells 38 aw)]⟩
def alZ(EE:Dy->Dy->Bool->Int):PS:=⟨96,true,[(41,.e<|iP<|0+1),(40,.e<|.agg<|ju (Iv.mk x.lo y.lo x.lo.neg)++[iG<|iB x.lo.m,iP x.lo.e]++ju (Iv.mk y.hi x.hi y.lo.neg)++[iG<|iB y.lo.m,iP y.lo.e]++ke x.hi++ke y.hi),(12,.box 12 0),(10,.box 10 0),(2,.e<|iP p),(3,.e<|.fn gd []),(4,.e<|.fn gu [])],[(12,.cells 38<|ju<|Iv.mk (jv (DD x.lo y.lo false)<|DD x.lo y.hi false) (jq (DD x.lo y.lo true)<|DD x.lo y.hi true) false),(10,.cells 38 aw)]⟩
def al0(EE:Dy->Dy->Bool->Int):PS:=⟨96,true,[(41,.e<|iP<|(0+1)+1),(40,.e<|.agg<|ju (Iv.mk x.lo y.lo x.lo.neg)++[iG<|iB x.lo.m,iP x.lo.e]++ju (Iv.mk y.hi x.hi y.lo.neg)++[iG<|iB y.lo.m,iP y.lo.e]++ke x.hi++ke y.hi),(12,.box 12 0),(10,.box 10 0),(2,.e<|iP p),(3,.e<|.fn gd []),(4,.e<|.fn gu [])],[(12,.cells 38<|ju<|Iv.mk (jv (jv (DD x.lo y.lo false)<|DD x.lo y.hi false)<|DD x.hi y.lo false) (jq (jq (DD x.lo y.lo true)<|DD x.lo y.hi true)<|DD x.hi y.lo true) false),(10,.cells 38 aw)]⟩
def al1(EE:Dy->Dy->Bool->Int):PS:=⟨96,true,[(41,.e<|iP<|((0+1)+1)+1),(40,.e<|.agg<|ju (Iv.mk x.lo y.lo x.lo.neg)++[iG<|iB x.lo.m,iP x.lo.e]++ju (Iv.mk y.hi x.hi y.lo.neg)++[iG<|iB y.lo.m,iP y.lo.e]++ke x.hi++ke y.hi),(12,.box 12 0),(10,.box 10 0),(2,.e<|iP p),(3,.e<|.fn gd []),(4,.e<|.fn gu [])],[(12,.cells 38<|ju<|Iv.mk (jv (jv (jv (DD x.lo y.lo false)<|DD x.lo y.hi false)<|DD x.hi y.lo false)<|DD x.hi y.hi false) (jq (jq (jq (DD x.lo y.lo true)<|DD x.lo y.hi true)<|DD x.hi y.lo true)<|DD x.hi y.hi true) false),(10,.cells 38 aw)]⟩
def ZE(EE:Dy->Dy->Bool->Int)(hd:∀ a b,(a=x.lo\/a=x.hi)->(b=y.lo\/b=y.hi)->iA gd [iF a,iF b,iP (p:Int)] (.iK [iF<|DD a b false,iP<|EE a b false]))
  (hu:∀ a b,(a=x.lo\/a=x.hi)->(b=y.lo\/b=y.hi)->iA gu [iF a,iF b,iP (p:Int)] (.iK [iF<|DD a b true,iP<|EE a b true])) (hv:∀ a b up,(DD a b up).iD):iA 170 [iC x,iC y,iP p,.fn gd [],.fn gu []]<|iC<|ng DD EE x y:=by
 exact iM (ae [.u 5,ah 42 (decide ((0:Int)<4)) aK]<|.w ((EE x.lo y.lo false)=0)
  (λk1=>.w ((EE x.lo y.lo true)=0)
   (λk2=>ae [.j 3 (alY x y p gd gu DD EE)
   (af [iX 0 4,iX 0 2,iX 1 2,.c (hd _ _ (.inl rfl)<|.inl rfl:iA gd ((iF x.lo)::(iF y.lo)::(iP p)::[]) _),iX 0 2,iX 1 2,.c (hu _ _ (.inl rfl)<|.inl rfl:iA gu ((iF x.lo)::(iF y.lo)::(iP p)::[]) _),tB 66<|bt k1,tB 69<|bt k2,ah 73 ((0:Int)==0) aK,ah 84 ((0:Int)==0) aK]),
    iL (0+1),ah 42 (decide (((0+1):Int)<4)) aK]<|.w ((EE x.lo y.hi false)=0)
    (λk3=>.w ((EE x.lo y.hi true)=0)
     (λk4=>ae [.j 3 (alZ x y p gd gu DD EE)
   (ae [iX (0+1) 4,iX 0 2,iX 1 2,.c (hd _ _ (.inl rfl)<|.inr rfl:iA gd ((iF x.lo)::(iF y.hi)::(iP p)::[]) _),iX 0 2,iX 1 2,.c (hu _ _ (.inl rfl)<|.inr rfl:iA gu ((iF x.lo)::(iF y.hi)::(iP p)::[]) _),tB 66<|bt k3,tB 69<|bt k4,ai 73 (((0+1):Int)==0) aK,.c<|ss (DD x.lo y.hi false) (DD x.lo y.lo false) (hv _ _ _)<|hv _ _ _]<|.w ((jI (DD x.lo y.hi false)<|DD x.lo y.lo false)<0)
    (λm1=>ae [tB 79<|bC m1,ai 84 (((0+1):Int)==0) aK,.c<|ss (DD x.lo y.hi true) (DD x.lo y.lo true) (hv _ _ _)<|hv _ _ _]<|.w (0<(jI (DD x.lo y.hi true)<|DD x.lo y.lo true))
     (λm2=>ae [tB 90<|bC m2]<|.e<|af [.b 12 (.jm<|by rw[show jv (DD x.lo y.lo false) (DD x.lo y.hi false)=(DD x.lo y.hi false)from bA m1,show jq (DD x.lo y.lo true) (DD x.lo y.hi true)=(DD x.lo y.hi true)from bA m2]:Bx.le (.cells 38<|ju<|Iv.mk (DD x.lo y.hi false) (DD x.lo y.hi true) false)<|.cells 38<|ju<|Iv.mk (jv (DD x.lo y.lo false)<|DD x.lo y.hi false) (jq (DD x.lo y.lo true)<|DD x.lo y.hi true) false)])
     (λm2=>ae [tB 90<|bE m2]<|.e<|af [.b 12 (.jm<|by rw[show jv (DD x.lo y.lo false) (DD x.lo y.hi false)=(DD x.lo y.hi false)from bA m1,show jq (DD x.lo y.lo true) (DD x.lo y.hi true)=(DD x.lo y.lo true)from bw m2]:Bx.le (.cells 38<|ju<|Iv.mk (DD x.lo y.hi false) (DD x.lo y.lo true) false)<|.cells 38<|ju<|Iv.mk (jv (DD x.lo y.lo false)<|DD x.lo y.hi false) (jq (DD x.lo y.lo true)<|DD x.lo y.hi true) false)]))
    (λm1=>ae [tB 79<|bE m1,ai 84 (((0+1):Int)==0) aK,.c<|ss (DD x.lo y.hi true) (DD x.lo y.lo true) (hv _ _ _)<|hv _ _ _]<|.w (0<(jI (DD x.lo y.hi true)<|DD x.lo y.lo true))
     (λm2=>ae [tB 90<|bC m2]<|.e<|af [.b 12 (.jm<|by rw[show jv (DD x.lo y.lo false) (DD x.lo y.hi false)=(DD x.lo y.lo false)from bw m1,show jq (DD x.lo y.lo true) (DD x.lo y.hi true)=(DD x.lo y.hi true)from bA m2]:Bx.le (.cells 38<|ju<|Iv.mk (DD x.lo y.lo false) (DD x.lo y.hi true) false)<|.cells 38<|ju<|Iv.mk (jv (DD x.lo y.lo false)<|DD x.lo y.hi false) (jq (DD x.lo y.lo true)<|DD x.lo y.hi true) false)])
     (λm2=>ae [tB 90<|bE m2]<|.e<|af [.b 12 (.jm<|by rw[show jv (DD x.lo y.lo false) (DD x.lo y.hi false)=(DD x.lo y.lo false)from bw m1,show jq (DD x.lo y.lo true) (DD x.lo y.hi true)=(DD x.lo y.lo true)from bw m2]:Bx.le (.cells 38<|ju<|Iv.mk (DD x.lo y.lo false) (DD x.lo y.lo true) false)<|.cells 38<|ju<|Iv.mk (jv (DD x.lo y.lo false)<|DD x.lo y.hi false) (jq (DD x.lo y.lo true)<|DD x.lo y.hi true) false)]))),
      iL ((0+1)+1),ah 42 (decide ((((0+1)+1):Int)<4)) aK]<|.w ((EE x.hi y.lo false)=0)
      (λk5=>.w ((EE x.hi y.lo true)=0)
       (λk6=>ae [.j 3 (al0 x y p gd gu DD EE)
   (ae [iX ((0+1)+1) 4,iX 0 2,iX 1 2,.c (hd _ _ (.inr rfl)<|.inl rfl:iA gd ((iF x.hi)::(iF y.lo)::(iP p)::[]) _),iX 0 2,iX 1 2,.c (hu _ _ (.inr rfl)<|.inl rfl:iA gu ((iF x.hi)::(iF y.lo)::(iP p)::[]) _),tB 66<|bt k5,tB 69<|bt k6,ai 73 ((((0+1)+1):Int)==0) aK,.c<|ss (DD x.hi y.lo false) (jv (DD x.lo y.lo false)<|DD x.lo y.hi false) (hv _ _ _)<|rX (hv _ _ _)<|hv _ _ _]<|.w ((jI (DD x.hi y.lo false)<|jv (DD x.lo y.lo false)<|DD x.lo y.hi false)<0)
    (λm1=>ae [tB 79<|bC m1,ai 84 ((((0+1)+1):Int)==0) aK,.c<|ss (DD x.hi y.lo true) (jq (DD x.lo y.lo true)<|DD x.lo y.hi true) (hv _ _ _)<|qM (hv _ _ _)<|hv _ _ _]<|.w (0<(jI (DD x.hi y.lo true)<|jq (DD x.lo y.lo true)<|DD x.lo y.hi true))
     (λm2=>ae [tB 90<|bC m2]<|.e<|af [.b 12 (.jm<|by rw[show jv (jv (DD x.lo y.lo false)<|DD x.lo y.hi false) (DD x.hi y.lo false)=(DD x.hi y.lo false)from bA m1,show jq (jq (DD x.lo y.lo true)<|DD x.lo y.hi true) (DD x.hi y.lo true)=(DD x.hi y.lo true)from bA m2]:Bx.le (.cells 38<|ju<|Iv.mk (DD x.hi y.lo false) (DD x.hi y.lo true) false)<|.cells 38<|ju<|Iv.mk (jv (jv (DD x.lo y.lo false)<|DD x.lo y.hi false)<|DD x.hi y.lo false) (jq (jq (DD x.lo y.lo true)<|DD x.lo y.hi true)<|DD x.hi y.lo true) false)])
     (λm2=>ae [tB 90<|bE m2]<|.e<|af [.b 12 (.jm<|by rw[show jv (jv (DD x.lo y.lo false)<|DD x.lo y.hi false) (DD x.hi y.lo false)=(DD x.hi y.lo false)from bA m1,show jq (jq (DD x.lo y.lo true)<|DD x.lo y.hi true) (DD x.hi y.lo true)=(jq (DD x.lo y.lo true)<|DD x.lo y.hi true)from bw m2]:Bx.le (.cells 38<|ju<|Iv.mk (DD x.hi y.lo false) (jq (DD x.lo y.lo true)<|DD x.lo y.hi true) false)<|.cells 38<|ju<|Iv.mk (jv (jv (DD x.lo y.lo false)<|DD x.lo y.hi false)<|DD x.hi y.lo false) (jq (jq (DD x.lo y.lo true)<|DD x.lo y.hi true)<|DD x.hi y.lo true) false)]))
    (λm1=>ae [tB 79<|bE m1,ai 84 ((((0+1)+1):Int)==0) aK,.c<|ss (DD x.hi y.lo true) (jq (DD x.lo y.lo true)<|DD x.lo y.hi true) (hv _ _ _)<|qM (hv _ _ _)<|hv _ _ _]<|.w (0<(jI (DD x.hi y.lo true)<|jq (DD x.lo y.lo true)<|DD x.lo y.hi true))
     (λm2=>ae [tB 90<|bC m2]<|.e<|af [.b 12 (.jm<|by rw[show jv (jv (DD x.lo y.lo false)<|DD x.lo y.hi false) (DD x.hi y.lo false)=(jv (DD x.lo y.lo false)<|DD x.lo y.hi false)from bw m1,show jq (jq (DD x.lo y.lo true)<|DD x.lo y.hi true) (DD x.hi y.lo true)=(DD x.hi y.lo true)from bA m2]:Bx.le (.cells 38<|ju<|Iv.mk (jv (DD x.lo y.lo false)<|DD x.lo y.hi false) (DD x.hi y.lo true) false)<|.cells 38<|ju<|Iv.mk (jv (jv (DD x.lo y.lo false)<|DD x.lo y.hi false)<|DD x.hi y.lo false) (jq (jq (DD x.lo y.lo true)<|DD x.lo y.hi true)<|DD x.hi y.lo true) false)])
     (λm2=>ae [tB 90<|bE m2]<|.e<|af [.b 12 (.jm<|by rw[show jv (jv (DD x.lo y.lo false)<|DD x.lo y.hi false) (DD x.hi y.lo false)=(jv (DD x.lo y.lo false)<|DD x.lo y.hi false)from bw m1,show jq (jq (DD x.lo y.lo true)<|DD x.lo y.hi true) (DD x.hi y.lo true)=(jq (DD x.lo y.lo true)<|DD x.lo y.hi true)from bw m2]:Bx.le (.cells 38<|ju<|Iv.mk (jv (DD x.lo y.lo false)<|DD x.lo y.hi false) (jq (DD x.lo y.lo true)<|DD x.lo y.hi true) false)<|.cells 38<|ju<|Iv.mk (jv (jv (DD x.lo y.lo false)<|DD x.lo y.hi false)<|DD x.hi y.lo false) (jq (jq (DD x.lo y.lo true)<|DD x.lo y.hi true)<|DD x.hi y.lo true) false)]))),
        iL (((0+1)+1)+1),ah 42 (decide (((((0+1)+1)+1):Int)<4)) aK]<|.w ((EE x.hi y.hi false)=0)
        (λk7=>.w ((EE x.hi y.hi true)=0)
         (λk8=>ae [.j 3 (al1 x y p gd gu DD EE)
   (ae [iX (((0+1)+1)+1) 4,iX 0 2,iX 1 2,.c (hd _ _ (.inr rfl)<|.inr rfl:iA gd ((iF x.hi)::(iF y.hi)::(iP p)::[]) _),iX 0 2,iX 1 2,.c (hu _ _ (.inr rfl)<|.inr rfl:iA gu ((iF x.hi)::(iF y.hi)::(iP p)::[]) _),tB 66<|bt k7,tB 69<|bt k8,ai 73 (((((0+1)+1)+1):Int)==0) aK,.c<|ss (DD x.hi y.hi false) (jv (jv (DD x.lo y.lo false)<|DD x.lo y.hi false)<|DD x.hi y.lo false) (hv _ _ _)<|rX (rX (hv _ _ _)<|hv _ _ _)<|hv _ _ _]<|.w ((jI (DD x.hi y.hi false)<|jv (jv (DD x.lo y.lo false)<|DD x.lo y.hi false)<|DD x.hi y.lo false)<0)
    (λm1=>ae [tB 79<|bC m1,ai 84 (((((0+1)+1)+1):Int)==0) aK,.c<|ss (DD x.hi y.hi true) (jq (jq (DD x.lo y.lo true)<|DD x.lo y.hi true)<|DD x.hi y.lo true) (hv _ _ _)<|qM (qM (hv _ _ _)<|hv _ _ _)<|hv _ _ _]<|.w (0<(jI (DD x.hi y.hi true)<|jq (jq (DD x.lo y.lo true)<|DD x.lo y.hi true)<|DD x.hi y.lo true))
     (λm2=>ae [tB 90<|bC m2]<|.e<|af [.b 12 (.jm<|by rw[show jv (jv (jv (DD x.lo y.lo false)<|DD x.lo y.hi false)<|DD x.hi y.lo false) (DD x.hi y.hi false)=(DD x.hi y.hi false)from bA m1,show jq (jq (jq (DD x.lo y.lo true)<|DD x.lo y.hi true)<|DD x.hi y.lo true) (DD x.hi y.hi true)=(DD x.hi y.hi true)from bA m2]:Bx.le (.cells 38<|ju<|Iv.mk (DD x.hi y.hi false) (DD x.hi y.hi true) false)<|.cells 38<|ju<|Iv.mk (jv (jv (jv (DD x.lo y.lo false)<|DD x.lo y.hi false)<|DD x.hi y.lo false)<|DD x.hi y.hi false) (jq (jq (jq (DD x.lo y.lo true)<|DD x.lo y.hi true)<|DD x.hi y.lo true)<|DD x.hi y.hi true) false)])
     (λm2=>ae [tB 90<|bE m2]<|.e<|af [.b 12 (.jm<|by rw[show jv (jv (jv (DD x.lo y.lo false)<|DD x.lo y.hi false)<|DD x.hi y.lo false) (DD x.hi y.hi false)=(DD x.hi y.hi false)from bA m1,show jq (jq (jq (DD x.lo y.lo true)<|DD x.lo y.hi true)<|DD x.hi y.lo true) (DD x.hi y.hi true)=(jq (jq (DD x.lo y.lo true)<|DD x.lo y.hi true)<|DD x.hi y.lo true)from bw m2]:Bx.le (.cells 38<|ju<|Iv.mk (DD x.hi y.hi false) (jq (jq (DD x.lo y.lo true)<|DD x.lo y.hi true)<|DD x.hi y.lo true) false)<|.cells 38<|ju<|Iv.mk (jv (jv (jv (DD x.lo y.lo false)<|DD x.lo y.hi false)<|DD x.hi y.lo false)<|DD x.hi y.hi false) (jq (jq (jq (DD x.lo y.lo true)<|DD x.lo y.hi true)<|DD x.hi y.lo true)<|DD x.hi y.hi true) false)]))
    (λm1=>ae [tB 79<|bE m1,ai 84 (((((0+1)+1)+1):Int)==0) aK,.c<|ss (DD x.hi y.hi true) (jq (jq (DD x.lo y.lo true)<|DD x.lo y.hi true)<|DD x.hi y.lo true) (hv _ _ _)<|qM (qM (hv _ _ _)<|hv _ _ _)<|hv _ _ _]<|.w (0<(jI (DD x.hi y.hi true)<|jq (jq (DD x.lo y.lo true)<|DD x.lo y.hi true)<|DD x.hi y.lo true))
     (λm2=>ae [tB 90<|bC m2]<|.e<|af [.b 12 (.jm<|by rw[show jv (jv (jv (DD x.lo y.lo false)<|DD x.lo y.hi false)<|DD x.hi y.lo false) (DD x.hi y.hi false)=(jv (jv (DD x.lo y.lo false)<|DD x.lo y.hi false)<|DD x.hi y.lo false)from bw m1,show jq (jq (jq (DD x.lo y.lo true)<|DD x.lo y.hi true)<|DD x.hi y.lo true) (DD x.hi y.hi true)=(DD x.hi y.hi true)from bA m2]:Bx.le (.cells 38<|ju<|Iv.mk (jv (jv (DD x.lo y.lo false)<|DD x.lo y.hi false)<|DD x.hi y.lo false) (DD x.hi y.hi true) false)<|.cells 38<|ju<|Iv.mk (jv (jv (jv (DD x.lo y.lo false)<|DD x.lo y.hi false)<|DD x.hi y.lo false)<|DD x.hi y.hi false) (jq (jq (jq (DD x.lo y.lo true)<|DD x.lo y.hi true)<|DD x.hi y.lo true)<|DD x.hi y.hi true) false)])
     (λm2=>ae [tB 90<|bE m2]<|.e<|af [.b 12 (.jm<|by rw[show jv (jv (jv (DD x.lo y.lo false)<|DD x.lo y.hi false)<|DD x.hi y.lo false) (DD x.hi y.hi false)=(jv (jv (DD x.lo y.lo false)<|DD x.lo y.hi false)<|DD x.hi y.lo false)from bw m1,show jq (jq (jq (DD x.lo y.lo true)<|DD x.lo y.hi true)<|DD x.hi y.lo true) (DD x.hi y.hi true)=(jq (jq (DD x.lo y.lo true)<|DD x.lo y.hi true)<|DD x.hi y.lo true)from bw m2]:Bx.le (.cells 38<|ju<|Iv.mk (jv (jv (DD x.lo y.lo false)<|DD x.lo y.hi false)<|DD x.hi y.lo false) (jq (jq (DD x.lo y.lo true)<|DD x.lo y.hi true)<|DD x.hi y.lo true) false)<|.cells 38<|ju<|Iv.mk (jv (jv (jv (DD x.lo y.lo false)<|DD x.lo y.hi false)<|DD x.hi y.lo false)<|DD x.hi y.hi false) (jq (jq (jq (DD x.lo y.lo true)<|DD x.lo y.hi true)<|DD x.hi y.lo true)<|DD x.hi y.hi true) false)]))),
          iL ((((0+1)+1)+1)+1),ai 42 (decide ((((((0+1)+1)+1)+1):Int)<4)) aK]<|rQ (iC<|Iv.mk (jv (jv (jv (DD x.lo y.lo false)<|DD x.lo y.hi false)<|DD x.hi y.lo false)<|DD x.hi y.hi false) (jq (jq (jq (DD x.lo y.lo true)<|DD x.lo y.hi true)<|DD x.hi y.lo true)<|DD x.hi y.hi true) false) (iC<|ng DD EE x y)<|by rw[show ng DD EE x y=⟨jv (jv (jv (DD x.lo y.lo false)<|DD x.lo y.hi false)<|DD x.hi y.lo false)<|DD x.hi y.hi false,jq (jq (jq (DD x.lo y.lo true)<|DD x.lo y.hi true)<|DD x.hi y.lo true)<|DD x.hi y.hi true,false⟩from bA ⟨⟨k1,k2⟩,⟨k3,k4⟩,⟨k5,k6⟩,⟨k7,k8⟩⟩];try rfl)
         (λk8=>ae [iX (((0+1)+1)+1) 4,iX 0 2,iX 1 2,.c (hd _ _ (.inr rfl)<|.inr rfl:iA gd ((iF x.hi)::(iF y.hi)::(iP p)::[]) _),iX 0 2,iX 1 2,.c (hu _ _ (.inr rfl)<|.inr rfl:iA gu ((iF x.hi)::(iF y.hi)::(iP p)::[]) _),tB 66<|bt k7,tB 69<|bu k8,.c tO]<|rQ (iC iH) (iC<|ng DD EE x y)<|by rw[show ng DD EE x y=iH from bw<|by rintro⟨⟨q0,r0⟩,⟨q1,r1⟩,⟨q2,r2⟩,⟨q3,r3⟩⟩;exact k8 r3]))
        (λk7=>ae [iX (((0+1)+1)+1) 4,iX 0 2,iX 1 2,.c (hd _ _ (.inr rfl)<|.inr rfl:iA gd ((iF x.hi)::(iF y.hi)::(iP p)::[]) _),iX 0 2,iX 1 2,.c (hu _ _ (.inr rfl)<|.inr rfl:iA gu ((iF x.hi)::(iF y.hi)::(iP p)::[]) _),tB 66<|bu k7,.c tO]<|rQ (iC iH) (iC<|ng DD EE x y)<|by rw[show ng DD EE x y=iH from bw<|by rintro⟨⟨q0,r0⟩,⟨q1,r1⟩,⟨q2,r2⟩,⟨q3,r3⟩⟩;exact k7 q3]))
       (λk6=>ae [iX ((0+1)+1) 4,iX 0 2,iX 1 2,.c (hd _ _ (.inr rfl)<|.inl rfl:iA gd ((iF x.hi)::(iF y.lo)::(iP p)::[]) _),iX 0 2,iX 1 2,.c (hu _ _ (.inr rfl)<|.inl rfl:iA gu ((iF x.hi)::(iF y.lo)::(iP p)::[]) _),tB 66<|bt k5,tB 69<|bu k6,.c tO]<|rQ (iC iH) (iC<|ng DD EE x y)<|by rw[show ng DD EE x y=iH from bw<|by rintro⟨⟨q0,r0⟩,⟨q1,r1⟩,⟨q2,r2⟩,⟨q3,r3⟩⟩;exact k6 r2]))
      (λk5=>ae [iX ((0+1)+1) 4,iX 0 2,iX 1 2,.c (hd _ _ (.inr rfl)<|.inl rfl:iA gd ((iF x.hi)::(iF y.lo)::(iP p)::[]) _),iX 0 2,iX 1 2,.c (hu _ _ (.inr rfl)<|.inl rfl:iA gu ((iF x.hi)::(iF y.lo)::(iP p)::[]) _),tB 66<|bu k5,.c tO]<|rQ (iC iH) (iC<|ng DD EE x y)<|by rw[show ng DD EE x y=iH from bw<|by rintro⟨⟨q0,r0⟩,⟨q1,r1⟩,⟨q2,r2⟩,⟨q3,r3⟩⟩;exact k5 q2]))
     (λk4=>ae [iX (0+1) 4,iX 0 2,iX 1 2,.c (hd _ _ (.inl rfl)<|.inr rfl:iA gd ((iF x.lo)::(iF y.hi)::(iP p)::[]) _),iX 0 2,iX 1 2,.c (hu _ _ (.inl rfl)<|.inr rfl:iA gu ((iF x.lo)::(iF y.hi)::(iP p)::[]) _),tB 66<|bt k3,tB 69<|bu k4,.c tO]<|rQ (iC iH) (iC<|ng DD EE x y)<|by rw[show ng DD EE x y=iH from bw<|by rintro⟨⟨q0,r0⟩,⟨q1,r1⟩,⟨q2,r2⟩,⟨q3,r3⟩⟩;exact k4 r1]))
    (λk3=>ae [iX (0+1) 4,iX 0 2,iX 1 2,.c (hd _ _ (.inl rfl)<|.inr rfl:iA gd ((iF x.lo)::(iF y.hi)::(iP p)::[]) _),iX 0 2,iX 1 2,.c (hu _ _ (.inl rfl)<|.inr rfl:iA gu ((iF x.lo)::(iF y.hi)::(iP p)::[]) _),tB 66<|bu k3,.c tO]<|rQ (iC iH) (iC<|ng DD EE x y)<|by rw[show ng DD EE x y=iH from bw<|by rintro⟨⟨q0,r0⟩,⟨q1,r1⟩,⟨q2,r2⟩,⟨q3,r3⟩⟩;exact k3 q1]))
   (λk2=>ae [iX 0 4,iX 0 2,iX 1 2,.c (hd _ _ (.inl rfl)<|.inl rfl:iA gd ((iF x.lo)::(iF y.lo)::(iP p)::[]) _),iX 0 2,iX 1 2,.c (hu _ _ (.inl rfl)<|.inl rfl:iA gu ((iF x.lo)::(iF y.lo)::(iP p)::[]) _),tB 66<|bt k1,tB 69<|bu k2,.c tO]<|rQ (iC iH) (iC<|ng DD EE x y)<|by rw[show ng DD EE x y=iH from bw<|by rintro⟨⟨q0,r0⟩,⟨q1,r1⟩,⟨q2,r2⟩,⟨q3,r3⟩⟩;exact k2 r0]))
  (λk1=>ae [iX 0 4,iX 0 2,iX 1 2,.c (hd _ _ (.inl rfl)<|.inl rfl:iA gd ((iF x.lo)::(iF y.lo)::(iP p)::[]) _),iX 0 2,iX 1 2,.c (hu _ _ (.inl rfl)<|.inl rfl:iA gu ((iF x.lo)::(iF y.lo)::(iP p)::[]) _),tB 66<|bu k1,.c tO]<|rQ (iC iH) (iC<|ng DD EE x y)<|by rw[show ng DD EE x y=iH from bw<|by rintro⟨⟨q0,r0⟩,⟨q1,r1⟩,⟨q2,r2⟩,⟨q3,r3⟩⟩;exact k1 q0]))
end
def ac0{y:Iv}(hy:y.iD)(hs:lL y≠0):y.lo.m≠0/\y.hi.m≠0:=by
 unfold lL at hs;have ha:y.all=false:=by
  cases h:y.all with
  |false=>rfl
  |true=>rw[h]at hs;exact absurd rfl hs
 obtain⟨v1,v2,v3⟩:=qs hy ha;rw[ha]at hs;simp only[cz,bN]at hs;have z:∀ d:Dy,d.m=0->d.jB=0:=λd h=>by unfold Dy.jB;rw[bA h]
 have hc:=ES y.lo y.hi;rw[hc]at v3;constructor
 .intro h0;have:=z _ h0;rw[this]at hs v3;split at hs
  .omega
  .split at hs
   .split at v3<;>omega
   .exact hs rfl
 .intro h0;have:=z _ h0;rw[this]at hs v3;split at hs
  .split at v3<;>omega
  .split at hs
   .omega
   .exact hs rfl
def ah4(a b:Dy){p:Nat}(up:Bool)(hp:1<=p)(iJ:p<=4096):(lj a b p up).iD:=by
 unfold lj;split
 .exact ri
 .exact nj _ _ _ _ _ _ hp iJ
section
variable(x y:Iv)(p:Nat)(hx:x.iD)(hy:y.iD)
def Mf(iU:8<=p:=by omega)(iJ:p<=512:=by omega):iA 107 [iC x,iC y,iP p]<|iC<|iO x y p:=by
 by_cases hk:(x.all||y.all)=true
 .exact iM<|ae [.o 9<|.e<|xq x y,.c<|Ce x y aJ aJ,ai 10 (!(x.all||y.all))<|by rw[hk];rfl,.c tO]<|rQ (iC iH) (iC<|iO x y p)<|by rw[show iO x y p=iH by unfold iO;rw[bA hk]]
 .replace hk:(x.all||y.all)=false:=by simpa using hk
  have lp:x.all=false:=by cases h:x.all;rfl;rw[h]at hk;simp at hk
  have Ca:y.all=false:=by cases h:y.all;rfl;rw[h]at hk;simp at hk
  obtain⟨v1,v2,v3⟩:=qs hx lp;obtain⟨v4,v5,v6⟩:=qs hy Ca;exact iM<|ae [.o 9<|.e<|xq x y,.c<|Ce x y aJ aJ,ah 10 (!(x.all||y.all))<|by rw[hk];rfl,.c<|Cf (p:Int),ah 14 (mH (p:Int))<|sC.2 ⟨aI,aI⟩,.c<|ZE x y p 171 172 (λa b up=>kt (oi a b) p up) (λa b up=>kS (oi a b) p up) (λa b ha hb=>Sy a b p (by rcases ha with rfl|rfl;exact v1;exact v2) (by rcases hb with rfl|rfl;exact v4;exact v5) iU iJ) (λa b ha hb=>Sz a b p (by rcases ha with rfl|rfl;exact v1;exact v2) (by rcases hb with rfl|rfl;exact v4;exact v5) iU iJ) λa b up=>nj _ _ _ _ _ _]<|rQ (iC<|ng (λa b up=>kt (oi a b) p up) (λa b up=>kS (oi a b) p up) x y) (iC<|iO x y p)<|by rw[show iO x y p=_ by unfold iO;rw[bw<|by rw[hk];decide]];rfl
def alX(iU:8<=p)(iJ:p<=512):iA 267 [iC x,iC y,iP p]<|iC<|jo x y p:=by
 by_cases hk:(x.all||y.all)=true
 .exact iM<|ae [.o 9<|.e<|xq x y,.c<|Ce x y aJ aJ,ai 10 (!(x.all||y.all))<|by rw[hk];rfl,.c tO]<|rQ (iC iH) (iC<|jo x y p)<|by rw[show jo x y p=iH by unfold jo;rw[bA<|by rw[hk];rfl]]
 .replace hk:(x.all||y.all)=false:=by simpa using hk
  have lp:x.all=false:=by cases h:x.all;rfl;rw[h]at hk;simp at hk
  have Ca:y.all=false:=by cases h:y.all;rfl;rw[h]at hk;simp at hk
  obtain⟨v1,v2,v3⟩:=qs hx lp;obtain⟨v4,v5,v6⟩:=qs hy Ca;by_cases hs:lL y=0
  .exact iM<|ae [.o 9<|.e<|xq x y,.c<|Ce x y aJ aJ,ah 10 (!(x.all||y.all))<|by rw[hk];rfl,.c<|Cf (p:Int),ah 14 (mH (p:Int))<|sC.2 ⟨aI,aI⟩,.c<|Mg y aJ,ah 20 ((lL y)==0)<|by rw[hs];rfl,.c tO]<|rQ (iC iH) (iC<|jo x y p)<|by rw[show jo x y p=iH by unfold jo;rw[bA<|by rw[hk,bC hs];rfl]]
  .obtain ⟨n1,n2⟩:=ac0 hy hs;exact iM<|ae [.o 9<|.e<|xq x y,.c<|Ce x y aJ aJ,ah 10 (!(x.all||y.all))<|by rw[hk];rfl,.c<|Cf (p:Int),ah 14 (mH (p:Int))<|sC.2 ⟨aI,aI⟩,.c<|Mg y aJ,ai 20 ((lL y)==0)<|by simpa using hs,.c<|ZE x y p 264 265 (λa b up=>lj a b p up) (λa b up=>nZ a b p up) (λa b ha hb=>ab7 a b p (by rcases ha with rfl|rfl;exact v1;exact v2) (by rcases hb with rfl|rfl;exact v4;exact v5) (by rcases hb with rfl|rfl;exact n1;exact n2) iU iJ) (λa b ha hb=>ab8 a b p (by rcases ha with rfl|rfl;exact v1;exact v2) (by rcases hb with rfl|rfl;exact v4;exact v5) (by rcases hb with rfl|rfl;exact n1;exact n2) iU iJ) λa b up=>ah4 a b up aI aI]<|rQ (iC<|ng (λa b up=>lj a b p up) (λa b up=>nZ a b p up) x y) (iC<|jo x y p)<|by rw[show jo x y p=_ by unfold jo;rw[bw<|by rw[hk,bE hs];decide]]
end
end Go.Proofs.YtbbefgegdllpmaaGreatDoor
namespace Go.Proofs.YtbbefgegdllpmaaGreatDoor.Fp
def jL(d:Dy)(p:Nat)(up:Bool):Nat->Dy×Int
 | 0=>(kt d p up,kS d p up)
 |k+1=>if(jL d p up k).2≠0 then jL d p up k else(kt (mJ (jL d p up k).1 d) p up,kS (mJ (jL d p up k).1 d) p up)
def mD(d:Dy)(n p:Nat)(up:Bool):Dy×Int:=if d.jB<0 then(jl (jL (jl d) p (!up)<|n-1).1,(jL (jl d) p (!up)<|n-1).2)else jL d p up (n-1)
def wN(x:Iv)(n:Nat):Iv:=if n%2=0 then iW x else x
def r6(x:Iv)(n p:Nat):Iv:=
 if x.all then iH else if n=0 then mT ⟨false,1,0⟩
 else ns (mD (wN x n).lo n p false).1 (mD (wN x n).lo n p false).2 (mD (wN x n).hi n p true).1 (mD (wN x n).hi n p true).2
def r9(r:Rat):Nat->Rat
 | 0=>1
 |n+1=>r9 r n*r
def M5{r:Rat}(h:0<=r):∀ n,0<=r9 r n
 | 0=>by show(0:Rat)<=1;decide
 |n+1=>bD (M5 h n) h
def JL{a b:Rat}(h0:0<=a)(h:a<=b):∀ n,r9 a n<=r9 b n
 | 0=>bH
 |n+1=>by
  have ih:=JL h0 h n;have m1:=bK ih h0;have m2:=bY h<|M5 (bI h0 h) n;exact bI m1 m2
def Ga(r:Rat):∀ n,r9 (-r) n=if n%2=0 then r9 r n else -r9 r n
 | 0=>rfl
 |n+1=>by
  have ih:=Ga r n;simp only[r9,ih];have:n%2=0\/n%2=1:= aI ;rcases this with h|h
  .have h':(n+1)%2=1:= aI ;rw[h,h'];simp;grind
  .have h':(n+1)%2=0:= aI ;rw[h,h'];simp;grind
def acv{a b:Rat}{n:Nat}(hn:n%2=1)(h:a<=b):r9 a n<=r9 b n:=by
 by_cases h0:0<=a
 .exact JL h0 h n
 .have ea:=Ga (-a) n;rw[gr,hn]at ea;simp only[atx,bN]at ea;by_cases hb:0<=b
  .have h1:=M5 (show 0 <= -a by grind) n;have h2:=M5 hb n
   grind
  .have eb:=Ga (-b) n;rw[gr,hn]at eb;simp only[atx,bN]at eb;have:=JL (show 0 <= -b by grind) (show -b <= -a by grind) n
   grind
def Sh{d:Dy}(hd:d.mX)(h0:0<=d.q){p:Nat}(hp:1<=p)(iJ:p<=4096):∀ k,(jL d p false k).2=0->0<=(jL d p false k).1.q/\(jL d p false k).1.q<=r9 d.q (k+1)
 | 0,he=>by
  have A:=M1 hd hp iJ;refine⟨(A.2 0 (.inl<|yu p) h0).2,?_⟩;have:=(A.1 he).2;simp only[r9,eI];exact this
 |k+1,he=>by
  by_cases hk:(jL d p false k).2≠0
  .exfalso;simp only[jL,bA hk]at he;exact hk he
  .have oM:(jL d p false k).2=0:= aI ;obtain⟨i1,i2⟩:=Sh hd h0 hp iJ k oM;have A:=M1 (KM (jL d p false k).1 d) hp iJ;rw[MJ]at A;simp only[jL,bw hk]at he ⊢;refine⟨(A.2 0 (.inl<|yu p)<|bD i1 h0).2,?_⟩;have h1:=(A.1 he).2;have h2:=bK i2 h0;exact bI h1 h2
def Sj{d:Dy}(hd:d.mX)(h0:0<=d.q){p:Nat}(hp:1<=p)(iJ:p<=4096):∀ k,(jL d p true k).2=0->r9 d.q (k+1)<=(jL d p true k).1.q
 | 0,he=>by
  have A:=M4 hd hp iJ;have:=(A.1 he).2;simp only[r9,eI];exact this
 |k+1,he=>by
  by_cases hk:(jL d p true k).2≠0
  .exfalso;simp only[jL,bA hk]at he;exact hk he
  .have oM:(jL d p true k).2=0:= aI ;have i2:=Sj hd h0 hp iJ k oM;have A:=M4 (KM (jL d p true k).1 d) hp iJ;rw[MJ]at A;simp only[jL,bw hk]at he ⊢;have h1:=(A.1 he).2;have h2:=bK i2 h0;exact bI h2 h1
section
variable{d:Dy}(hd:d.mX){n p:Nat}(hn:1<=n)(hs:0<=d.q\/n%2=1)(hp:1<=p)(iJ:p<=4096)
def aiP(he:(mD d n p false).2=0):(mD d n p false).1.q<=r9 d.q n:=by
 unfold mD at he ⊢;by_cases h:d.jB<0
 .rw [bA h]at he ⊢;have hq:=(rA d).2.1 h;have B4:=hs.resolve_left aS;have:=Sj (FN hd) (by rw[oX];grind) hp iJ (n-1) he;rw[(aI:n-1+1=n),oX,Ga,B4]at this;simp only[atx,bN]at this;show(jl _).q<=_;rw[oX];simp only[fe]
  grind
 .rw [bw h]at he ⊢;have h0:0<=d.q:=by
   apply dt.1;intro je;exact h<|(rA d).2.2 je
  have:=(Sh hd h0 hp iJ (n-1) he).2;rwa[(aI:n-1+1=n)]at this
def aiQ(he:(mD d n p true).2=0):r9 d.q n<=(mD d n p true).1.q:=by
 unfold mD at he ⊢;by_cases h:d.jB<0
 .rw [bA h]at he ⊢;have hq:=(rA d).2.1 h;have B4:=hs.resolve_left aS;have:=(Sh (FN hd) (by rw[oX];grind) hp iJ (n-1) he).2;rw[(aI:n-1+1=n),oX,Ga,B4]at this;simp only[atx,bN]at this;show _<=(jl _).q;rw[oX];simp only[fX]
  grind
 .rw [bw h]at he ⊢;have h0:0<=d.q:=by
   apply dt.1;intro je;exact h<|(rA d).2.2 je
  have:=Sj hd h0 hp iJ (n-1) he;rwa[(aI:n-1+1=n)]at this
end
def abm{x:Iv}(hx:x.iD){n p:Nat}(hp:1<=p)(iJ:p<=4096){r:Rat}(h:x.ja r):(r6 x n p).ja<|r9 r n:=by
 unfold r6;cases xa:x.all
 .simp only[cz,bN];by_cases hn:n=0
  .rw [bA hn];subst hn;have e:(⟨false,1,0⟩:Dy).q=1:= aT ;refine .inr ⟨?_,?_⟩
   .show (⟨false,1,0⟩:Dy).q<=1;rw[e];exact bH
   .show 1<=(⟨false,1,0⟩:Dy).q;rw[e];exact bH
  .rw [bw hn];obtain⟨s,hs,vg,L3⟩:∃ s,(wN x n).ja s/\(n%2=0->0<=(wN x n).lo.q/\0<=s)/\r9 r n=r9 s n:=by
    unfold wN;by_cases qS:n%2=0
    .rw [bA qS];have hl:0<=(iW x).lo.q:=by
      unfold iW;rw[xa];show 0<=(nV x).q;unfold nV;split
      .rw [r7];exact bH
      .obtain ⟨_,_,m⟩:=Ei (mG x.lo)<|mG x.hi;rcases m with m|m<;>rw[m]
       .exact (FY x.lo).1
       .exact (FY x.hi).1
     by_cases hr:0<=r
     .exact ⟨r,Om hx h<|.inl ⟨rfl,hr⟩,λ_=>⟨hl,hr⟩,rfl⟩
     .refine ⟨-r,Om hx h<|.inr ⟨rfl,aS⟩,λ_=>⟨hl,aS⟩,?_⟩;rw[Ga,bA qS]
    .rw [bw qS];exact⟨r,h,λq=>absurd q qS,rfl⟩
   have DT:(wN x n).iD:=by unfold wN;split;exact uK hx;exact hx
   have ya:(wN x n).all=false:=by
    unfold wN;split
    .unfold iW;rw[xa];rfl
    .exact xa
   rw[L3];generalize wN x n=y at *
   obtain⟨s1,s2⟩:=hs.kA ya;obtain⟨c1,c2⟩:=DT.EO;unfold ns;split
   .exact .inl rfl
   .rename_i he;have B4:¬n%2=0->n%2=1:=λq=> aI 
    refine .inr ⟨?_,?_⟩
    .refine bI (aiP c1 aI ?_ hp iJ aI) ?_
     .by_cases qS:n%2=0
      .exact .inl (vg qS).1
      .exact .inr<|B4 qS
     .by_cases qS:n%2=0
      .exact JL (vg qS).1 s1 n
      .exact acv (B4 qS) s1
    .refine bI ?_ (aiQ c2 aI ?_ hp iJ aI)
     .by_cases qS:n%2=0
      .exact JL (vg qS).2 s2 n
      .exact acv (B4 qS) s2
     .by_cases qS:n%2=0
      .exact .inl<|bI (vg qS).2 s2
      .exact .inr<|B4 qS
 .rw [bA rfl];exact .inl rfl
end Go.Proofs.YtbbefgegdllpmaaGreatDoor.Fp
namespace Go.Proofs.YtbbefgegdllpmaaGreatDoor
open Go.RowKit Fp Pu
structure oG where
 kind:Nat
 a:Nat
 b:Nat
 n:Nat
 cn:Int
 cd:Int
structure sE where
 kU:Nat
 iN:List oG
 jU:List Nat
structure lr where
 tape:sE
 kO:Nat
 params:List Iv
def kJ:oG:=⟨0,0,0,0,0,0⟩
def Jp(o:oG):List E:=[iP (o.kind:Int),iP (o.a:Int),iP (o.b:Int),iP (o.n:Int),iP o.cn,iP o.cd]
def yk(o:oG):E:=.agg<|Jp o
def kT(l:List oG):E:=.sl true l.length 6 λi j=>(Jp<|l.getD i kJ).getD j .any
def kB(l:List Nat):E:=.sl true l.length 1 λi _=>iP (l.getD i 0:Int)
def ar8(t:sE):List E:=[iP (t.kU:Int),kT t.iN,kB t.jU]
def CN(t:sE):E:=.agg<|ar8 t
def arT(s:lr):List E:=[iP (s.tape.kU:Int),kT s.tape.iN,kB s.tape.jU,iP (s.kO:Int),iQ s.params]
def lk(s:lr):E:=.agg<|arT s
def jG(n d:Int):Bool:=decide (1<=d)&&(decide (d<=1073741824)&&(decide (-1073741824<=n)&&(decide (n<=1073741824)&&decide (Nat.gcd n.natAbs d.natAbs=1))))
def sW{n d:Int}(h:jG n d=true):1<=d/\d<=1073741824 /\ -1073741824<=n/\n<=1073741824:=by
 unfold jG at h;simp only[cr,dn]at h;exact⟨h.1,h.2.1,h.2.2.1,h.2.2.2.1⟩
def Hu(f:FuncId)(x:Iv)(p:Nat):Prop:=∃ y:Iv,y.iD/\iA f [iC x,iP (p:Int)] (iC y)
def CT:Prop:=∀ (x:Iv) (p:Nat),x.iD->8<=p->p<=512->Hu 270 x p/\Hu 271 x p/\Hu 272 x p/\Hu 273 x p/\Hu 274 x p
structure rk(o:oG)(m:Nat):Prop where
 k3:o.kind=1\/3<=o.kind
 Rv:o.kind<=13
 a:if o.kind=1 then o.a=0 else o.a<m
 b:if 3<=o.kind/\o.kind<=6 then o.b<m else o.b=0
 n:if o.kind=8 then o.n<=16 else o.n=0
 c:if o.kind=1 then jG o.cn o.cd=true else o.cn=0/\o.cd=0
 f:o.kind<=8\/CT
structure EH(t:sE):Prop where
 kU:t.kU<=8
 iN:t.iN.length<=200
 jU:t.jU.length<=200
 op:∀ i,i<t.iN.length->rk (t.iN.getD i kJ) (t.kU+i)
 out:∀ i,i<t.jU.length->t.jU.getD i 0<t.kU+t.iN.length
def rj(l:List Iv):Prop:=∀ i,i<l.length->(l.getD i iH).iD/\(l.getD i iH).all=false
structure nQ(s:lr):Prop where
 tape:EH s.tape
 s1:1<=s.kO
 s4:s.kO<=4
 jU:s.tape.jU.length=s.kO
 kU:s.tape.kU=s.kO+s.params.length
 p4:s.params.length<=4
 params:rj s.params
structure lR(n:Nat)(b:List Iv):Prop where
 len:b.length=n
 ok:rj b
def rN(l:List Iv):Bool:=(List.range l.length).any λi=>(l.getD i iH).all
def nt(h:Dy):Iv:=⟨jK,h,false⟩
def Ma(x f:List Iv)(h:Dy)(p i:Nat):Iv:=iZ (x.getD i iH) (iO (nt h) (f.getD i iH) p) p
def xZ(x f:List Iv)(h:Dy)(p:Nat):List Iv:=(List.range x.length).map<|Ma x f h p
def S6{h:Dy}(hv:h.iD)(h0:0<=h.q):(nt h).iD:=.inr ⟨rfl,ri,hv,by show jI jK h<=0;rw[qf,r7];exact h0⟩
def SJ(d:Dy){p:Nat}(hp:1<=p)(iJ:p<=4096)(up:Bool):(kt d p up).iD:=nj _ _ _ _ _ _ hp iJ
def Bo(d:Dy){p:Nat}(hp:1<=p)(iJ:p<=4096)(up:Bool):∀ k,(jL d p up k).1.iD
 | 0=>SJ _ hp iJ _
 |k+1=>by
  unfold jL;split
  .exact Bo d hp iJ up k
  .exact SJ _ hp iJ _
def Xn(d:Dy)(n:Nat){p:Nat}(hp:1<=p)(iJ:p<=4096)(up:Bool):(mD d n p up).1.iD:=by
 unfold mD;split
 .exact ru<|Bo _ hp iJ _ _
 .exact Bo _ hp iJ _ _
def aa5:canon false 1 0=⟨false,1,0⟩:=by
 have h1:(canon false 1 0).neg=false:= aT ;have h2:(canon false 1 0).m=1:= aT ;have h3:(canon false 1 0).e=0:= aT ;generalize canon false 1 0=d at *
 cases d;simp_all
def R4:(⟨false,1,0⟩:Dy).iD:=by
 have h2:oC<|canon false 1 0:= aT ;rw[<-aa5];exact⟨sG _ _ _,h2⟩
def abn{x:Iv}(hx:x.iD)(n:Nat){p:Nat}(hp:1<=p)(iJ:p<=4096):(r6 x n p).iD:=by
 have hh:=abm hx (n:=n) hp iJ hx.tK;revert hh;unfold r6;split
 .intro _;exact nP
 .split
  .intro _;exact tS R4
  .unfold ns;split
   .intro _;exact nP
   .intro hh;obtain⟨h1,h2⟩:=hh.kA rfl;exact .inr ⟨rfl,Xn _ _ hp iJ _,Xn _ _ hp iJ _,(qf _ _).2<|bI h1 h2⟩
def pO(l:List Iv):Prop:=∀ i,(l.getD i iH).iD
def pO.push{l:List Iv}(h:pO l){y:Iv}(hy:y.iD):pO<|l++[y]:=λi=>by
 rw[bJ,gz];split
 .have:=h i;rwa[bJ]at this
 .rcases i-l.length with _|j
  .exact hy
  .exact nP
def rj.Tq{l:List Iv}(h:rj l):pO l:=λi=>by
 by_cases hi:i<l.length
 .exact (h i hi).1
 .rw [bJ,dp aI];exact nP
def pO.append{l r:List Iv}(h:pO l)(k:pO r):pO<|l++r:=λi=>by
 rw[bJ,gz];split
 .have:=h i;rwa[bJ]at this
 .have:=k<|i-l.length;rwa[bJ]at this
def akP{l:List Iv}(h:rN l=false)(v:pO l):rj l:=λi hi=>⟨v i,by simpa using List.any_eq_false.1 h i (dr.2 hi)⟩
def alK{x f:List Iv}{h:Dy}(hx:pO x){p:Nat}(hp:1<=p)(iJ:p<=4096)(i:Nat):(Ma x f h p i).iD:=mn (hx i) (ku _ _ hp iJ) hp iJ
def IP(x f:List Iv)(h:Dy)(p:Nat):(xZ x f h p).length=x.length:=by simp[xZ]
def Mb{x f:List Iv}{h:Dy}{p i:Nat}(hi:i<x.length):(xZ x f h p).getD i iH=Ma x f h p i:=by
 simp[xZ,bJ,hi]
def alL{x f:List Iv}{h:Dy}(hx:pO x){p:Nat}(hp:1<=p)(iJ:p<=4096):pO<|xZ x f h p:=λi=>by
 by_cases hi:i<x.length
 .rw [Mb hi];exact alK hx hp iJ i
 .rw [bJ,dp<|by rw[IP];omega];exact nP
def xp(a b:List Iv):Bool:=(List.range a.length).all λi=>zZ (a.getD i iH)<|b.getD i iH
def xR(x:Iv)(d:Dy):Bool:=decide (oh (jh x.lo<|jl d)=0)&&decide (oh (jh x.hi d)=0)
def rK(x:Iv)(d:Dy):Iv:=⟨mA<|jh x.lo<|jl d,mA<|jh x.hi d,false⟩
def sK(x:List Iv)(d:Dy):Bool:=(List.range x.length).all λi=>xR (x.getD i iH) d
def rL(x:List Iv)(d:Dy):List Iv:=if sK x d then(List.range x.length).map λi=>rK (x.getD i iH) d else[]
def rT(x y:Iv):Iv:=if x.all||y.all then iH else⟨jv x.lo y.lo,jq x.hi y.hi,false⟩
def oc(x y:List Iv):List Iv:=(List.range x.length).map λi=>rT (x.getD i iH)<|y.getD i iH
def tv(x:Iv)(p:Nat):Dy:=kt (jh x.hi<|jl x.lo) p true
def Ey(x:Iv)(p:Nat):Int:=kS (jh x.hi<|jl x.lo) p true
def oE(x:List Iv)(p:Nat):Nat->Dy
 | 0=>jK
 |k+1=>if 0<jI (tv (x.getD k iH) p) (oE x p k)then tv (x.getD k iH) p else oE x p k
def J1(x:List Iv)(p:Nat):Bool:=(List.range x.length).all λi=>decide (Ey (x.getD i iH) p=0)
def alF{x y:Iv}(hx:x.iD)(hy:y.iD):(rT x y).iD:=by
 unfold rT;cases xa:x.all
 .cases ya:y.all
  .obtain ⟨x1,x2⟩:x.lo.iD/\x.hi.iD:=hx.kA;obtain⟨y1,y2⟩:y.lo.iD/\y.hi.iD:=hy.kA;refine .inr ⟨rfl,rX x1 y1,qM x2 y2,?_⟩;rw[qf];have hq:=hx.q;obtain⟨a1,a2,_⟩:=Ei x.lo y.lo;obtain⟨b1,b2,_⟩:=FZ x.hi y.hi
   grind
  .exact nP
 .exact nP
def Y7{x y:List Iv}{n:Nat}(hx:lR n x)(hy:lR n y):lR n<|oc x y:=by
 refine⟨by simp[oc,hx.len],λi hi=>?_⟩;have kG:i<x.length:=by simpa[oc]using hi
 have e:(oc x y).getD i iH=rT (x.getD i iH) (y.getD i iH):=by simp[oc,bJ,kG]
 obtain⟨v1,a1⟩:=hx.ok i kG;obtain⟨v2,a2⟩:=hy.ok i (by rw[hy.len,<-hx.len];exact kG);rw[e];refine⟨alF v1 v2,?_⟩;unfold rT;rw[a1,a2];rfl
def akF{x:Iv}(hx:x.iD){d:Dy}(hd:d.iD)(h0:0<=d.q)(h:xR x d=true):(rK x d).iD:=by
 unfold xR at h;rw[cr,dn,dn]at h;obtain⟨h1,h2⟩:=h;have r1:oC<|jh x.lo<|jl d:=cF λq=>by rw[KQ q]at h1;cases h1
 have r2:oC<|jh x.hi d:=cF λq=>by rw[KQ q]at h2;cases h2
 obtain⟨c1,c2⟩:=hx.EO;unfold rK;refine .inr ⟨rfl,O3<|Db c1 (ru hd).canon,O3<|Db c2 hd.canon,?_⟩;show jI (mA _) (mA _)<=0;rw[BL r1,BL r2,qf,Sn,Sn,oX];have:=hx.q
 grind
def PW{x:List Iv}{n:Nat}(hx:lR n x){d:Dy}(hd:d.iD)(h0:0<=d.q)(h:sK x d=true):lR n<|rL x d:=by
 unfold rL;rw[bA h];refine⟨by simp[hx.len],λi hi=>?_⟩;have kG:i<x.length:=by simpa using hi
 have e:((List.range x.length).map λi=>rK (x.getD i iH) d).getD i iH=rK (x.getD i iH) d:=by simp[bJ,kG]
 rw[e];exact⟨akF (hx.ok i kG).1 hd h0<|cL.1 h i<|dr.2 kG,rfl⟩
def Vi(d:Dy)(n p:Nat)(x:Nat):PS:=⟨41,true,[(14,.e<|iP ((x+1:Nat):Int)),(13,.e<|iP<|(jL d p false x).2),(12,.box 12 0),(10,.box 10 0),(5,.box 5 0),(1,.e<|iP n),(2,.e<|iP p),(4,.e<|.fn 171 [])],[(12,.cells 31<|ke<|(jL d p false x).1),(10,.cells 31 av),(5,.cells 31<|ke d)]⟩
def Vj(d:Dy)(n N p:Nat)(x:Nat):PS:=⟨41,true,[(14,.e<|iP ((x+1:Nat):Int)),(13,.e<|iP<|(jL d p false x).2),(12,.box 12 0),(10,.box 10 0),(5,.box 5 0),(1,.e<|iP n),(2,.e<|iP p),(4,.e<|.fn 171 [])],[(12,.cells 31<|ke<|(jL d p false x).1),(10,.cells 31 av),(5,.cells 31<|ke d)]⟩
def Vk(d:Dy)(n p:Nat)(x:Nat):PS:=⟨41,true,[(14,.e<|iP ((x+1:Nat):Int)),(13,.e<|iP<|(jL d p true x).2),(12,.box 12 0),(10,.box 10 0),(5,.box 5 0),(1,.e<|iP n),(2,.e<|iP p),(4,.e<|.fn 172 [])],[(12,.cells 31<|ke<|(jL d p true x).1),(10,.cells 31 av),(5,.cells 31<|ke d)]⟩
def Vl(d:Dy)(n N p:Nat)(x:Nat):PS:=⟨41,true,[(14,.e<|iP ((x+1:Nat):Int)),(13,.e<|iP<|(jL d p true x).2),(12,.box 12 0),(10,.box 10 0),(5,.box 5 0),(1,.e<|iP n),(2,.e<|iP p),(4,.e<|.fn 172 [])],[(12,.cells 31<|ke<|(jL d p true x).1),(10,.cells 31 av),(5,.cells 31<|ke d)]⟩
def EK(s:Bool)(m:Nat)(e:Int)(hl:(iB m).length<=256)(lG:-1000000<=e:=by omega)(kW:e<=1000000:=by omega):iA 121 [bP s,iG<|iB m,iP e]<|iF<|canon s m e:=by
 refine⟨call121,λw B vs hK hB hr=>?_⟩;obtain⟨v1,vs,rfl,h1,hr⟩:=hr.nc;obtain⟨v2,vs,rfl,h2,hr⟩:=hr.nc;obtain⟨v3,vs,rfl,h3,hr⟩:=hr.nc;obtain rfl:=hr.rz;obtain rfl:=jd.lh h1;obtain rfl:=jd.lh h3;obtain⟨A,c,rfl,s1⟩:=xy (lO m) h2;exact(VV s m e A c w s1 hl lG kW hK).mono λe w' h=>rd B w e w' hB h
def Kz(d:Dy)(hl:(iB d.m).length<=100000000)(lG:-10000000<=d.e)(kW:d.e<=10000000):iA 120 [iF d]<|.iK [iF<|mA d,iP<|oh d]:=
 Af call120 (λA c w h _=>ahq d A c w h aI aI aI) SB
def Vp(m n:Nat)(hl:(iB m).length<=256)(hn:n<=65536)(hf:(iB<|m*2^n).length<=256):iA 158 [iG<|iB m,iP n]<|iG<|iB<|m*2^n:=
 iM (af [.c<|aaH m n hl hn hf])
def U6{m n:Nat}:kP m n<0↔m<n:=by unfold kP;split<;>(try split)<;>omega
def U5{m n:Nat}:¬kP m n<0↔n<=m:=by unfold kP;split<;>(try split)<;>omega
section
variable(a b:Dy)
noncomputable def adq(ha:a.iD)(hb:b.iD)(a0:a.m≠0)(b0:b.m≠0)(k:Int)(hk:min a.e b.e=k)(la:(iB a.m).length<=256)(lb:(iB b.m).length<=256)(e1:-16384<=k)(e2:a.e<=16384)(e3:b.e<=16384)(fa:(iB<|a.m*2^(a.e-k).toNat).length<=256)(fb:(iB<|b.m*2^(b.e-k).toNat).length<=256)(fab:(iB<|(a.m*2^(a.e-k).toNat)+(b.m*2^(b.e-k).toNat)).length<=256)(fx:(iB<|(a.m*2^(a.e-k).toNat)-(b.m*2^(b.e-k).toNat)).length<=256)(fy:(iB<|(b.m*2^(b.e-k).toNat)-(a.m*2^(a.e-k).toNat)).length<=256)(Lt:a.neg=b.neg->jh a b=canon a.neg ((a.m*2^(a.e-k).toNat)+(b.m*2^(b.e-k).toNat)) k)(Lu:a.neg≠b.neg->(b.m*2^(b.e-k).toNat)<=(a.m*2^(a.e-k).toNat)->jh a b=canon a.neg ((a.m*2^(a.e-k).toNat)-(b.m*2^(b.e-k).toNat)) k)(Lv:a.neg≠b.neg->(a.m*2^(a.e-k).toNat)<(b.m*2^(b.e-k).toNat)->jh a b=canon b.neg ((b.m*2^(b.e-k).toNat)-(a.m*2^(a.e-k).toNat)) k):Tr prog Tb:=
  ae [iL<|a.e-k,.o 70<|ar (a.e-k) ((a.e-k).toNat:Int),ag [iG<|iB a.m,iP ((a.e-k).toNat:Int)]<|Vp a.m (a.e-k).toNat la aI fa,iL<|b.e-k,.o 77<|ar (b.e-k) ((b.e-k).toNat:Int),ag [iG<|iB b.m,iP ((b.e-k).toNat:Int)]<|Vp b.m (b.e-k).toNat lb aI fb]<|.w (a.neg=b.neg)
  (λk1=>ae [tB 83<|bl k1,.c<|Mq (a.m*2^(a.e-k).toNat) (b.m*2^(b.e-k).toNat) fa fb fab,ag [bP a.neg,iG<|iB<|(a.m*2^(a.e-k).toNat)+(b.m*2^(b.e-k).toNat),iP k]<|EK _ _ _ fab,ag [iF<|canon a.neg ((a.m*2^(a.e-k).toNat)+(b.m*2^(b.e-k).toNat)) k]<|Kz _ (by have h:=AM a.neg ((a.m*2^(a.e-k).toNat)+(b.m*2^(b.e-k).toNat)) k fab;omega) (by have h:=AM a.neg ((a.m*2^(a.e-k).toNat)+(b.m*2^(b.e-k).toNat)) k fab;omega)<|by have h:=AM a.neg ((a.m*2^(a.e-k).toNat)+(b.m*2^(b.e-k).toNat)) k fab;omega]<|rQ (.iK [iF<|mA<|canon a.neg ((a.m*2^(a.e-k).toNat)+(b.m*2^(b.e-k).toNat)) k,iP<|oh<|canon a.neg ((a.m*2^(a.e-k).toNat)+(b.m*2^(b.e-k).toNat)) k]) (.iK [iF<|mA<|jh a b,iP<|oh<|jh a b])<|by rw[Lt k1])
  (λk1=>ae [tB 83<|bk k1,.c<|Mr (a.m*2^(a.e-k).toNat)<|b.m*2^(b.e-k).toNat]<|.w ((kP (a.m*2^(a.e-k).toNat)<|b.m*2^(b.e-k).toNat)<0)
   (λk2=>ae [tB 101<|bC k2,.c<|Jj (b.m*2^(b.e-k).toNat) (a.m*2^(a.e-k).toNat) fb fa<|dU<|U6.1 k2,ag [bP b.neg,iG<|iB<|(b.m*2^(b.e-k).toNat)-(a.m*2^(a.e-k).toNat),iP k]<|EK _ _ _ fy,ag [iF<|canon b.neg ((b.m*2^(b.e-k).toNat)-(a.m*2^(a.e-k).toNat)) k]<|Kz _ (by have h:=AM b.neg ((b.m*2^(b.e-k).toNat)-(a.m*2^(a.e-k).toNat)) k fy;omega) (by have h:=AM b.neg ((b.m*2^(b.e-k).toNat)-(a.m*2^(a.e-k).toNat)) k fy;omega)<|by have h:=AM b.neg ((b.m*2^(b.e-k).toNat)-(a.m*2^(a.e-k).toNat)) k fy;omega]<|rQ (.iK [iF<|mA<|canon b.neg ((b.m*2^(b.e-k).toNat)-(a.m*2^(a.e-k).toNat)) k,iP<|oh<|canon b.neg ((b.m*2^(b.e-k).toNat)-(a.m*2^(a.e-k).toNat)) k]) (.iK [iF<|mA<|jh a b,iP<|oh<|jh a b])<|by rw[Lv k1<|U6.1 k2])
   (λk2=>ae [tB 101<|bE k2,.c<|Jj (a.m*2^(a.e-k).toNat) (b.m*2^(b.e-k).toNat) fa fb<|U5.1 k2,ag [bP a.neg,iG<|iB<|(a.m*2^(a.e-k).toNat)-(b.m*2^(b.e-k).toNat),iP k]<|EK _ _ _ fx,ag [iF<|canon a.neg ((a.m*2^(a.e-k).toNat)-(b.m*2^(b.e-k).toNat)) k]<|Kz _ (by have h:=AM a.neg ((a.m*2^(a.e-k).toNat)-(b.m*2^(b.e-k).toNat)) k fx;omega) (by have h:=AM a.neg ((a.m*2^(a.e-k).toNat)-(b.m*2^(b.e-k).toNat)) k fx;omega)<|by have h:=AM a.neg ((a.m*2^(a.e-k).toNat)-(b.m*2^(b.e-k).toNat)) k fx;omega]<|rQ (.iK [iF<|mA<|canon a.neg ((a.m*2^(a.e-k).toNat)-(b.m*2^(b.e-k).toNat)) k,iP<|oh<|canon a.neg ((a.m*2^(a.e-k).toNat)-(b.m*2^(b.e-k).toNat)) k]) (.iK [iF<|mA<|jh a b,iP<|oh<|jh a b])<|by rw[Lu k1<|U5.1 k2]))
section
variable(ha:a.iD)(hb:b.iD)(a0:a.m≠0)(b0:b.m≠0)(k:Int)(hk:min a.e b.e=k)
def afi(la:(iB a.m).length<=256)(lb:(iB b.m).length<=256)(e1:-16384<=k)(e2:a.e<=16384)(e3:b.e<=16384)(fa:(iB<|a.m*2^(a.e-k).toNat).length<=256)(fb:(iB<|b.m*2^(b.e-k).toNat).length<=256)(fab:(iB<|(a.m*2^(a.e-k).toNat)+(b.m*2^(b.e-k).toNat)).length<=256)(fx:(iB<|(a.m*2^(a.e-k).toNat)-(b.m*2^(b.e-k).toNat)).length<=256)(fy:(iB<|(b.m*2^(b.e-k).toNat)-(a.m*2^(a.e-k).toNat)).length<=256)(Lt:a.neg=b.neg->jh a b=canon a.neg ((a.m*2^(a.e-k).toNat)+(b.m*2^(b.e-k).toNat)) k)(Lu:a.neg≠b.neg->(b.m*2^(b.e-k).toNat)<=(a.m*2^(a.e-k).toNat)->jh a b=canon a.neg ((a.m*2^(a.e-k).toNat)-(b.m*2^(b.e-k).toNat)) k)(Lv:a.neg≠b.neg->(a.m*2^(a.e-k).toNat)<(b.m*2^(b.e-k).toNat)->jh a b=canon b.neg ((b.m*2^(b.e-k).toNat)-(a.m*2^(a.e-k).toNat)) k)(hn:¬(4097<max a.jb b.jb-k/\(1<a.jb-b.jb\/1<b.jb-a.jb))):iA 183 [iF a,iF b]<|.iK [iF<|mA<|jh a b,iP<|oh<|jh a b]:=by
 have ta:-16384<=a.jb/\a.jb<=16384:=by
  unfold Dy.jb;rw[bw a0];have:=ha.range.resolve_left a0;have:=ha.exp;omega
 have tb:-16384<=b.jb/\b.jb<=16384:=by
  unfold Dy.jb;rw[bw b0];have:=hb.range.resolve_left b0;have:=hb.exp;omega
 exact iM (ae [ai 18 (((iB a.m).length:Int)==0)<|nK<|pF a0,ai 23 (((iB b.m).length:Int)==0)<|nK<|pF b0,.o 41<|ar (if b.e<a.e then b.e else a.e) k<|by rw[<-hk];split<;>omega,.c<|uP a aJ,.c<|uP b aJ,.o 48<|ar (if(Dy.jb b)>(Dy.jb a)then(Dy.jb b)else(Dy.jb a)) (max a.jb b.jb) aU,iL<|(max a.jb b.jb)-k]<|.w (4097<((max a.jb b.jb)-k))
  (λk1=>ae [tB 51<|bC k1,iL<|(Dy.jb a)-(Dy.jb b)]<|.w (1<((Dy.jb a)-(Dy.jb b)))
   (λk2=>.x<|by exact absurd ⟨k1,.inl k2⟩ hn)
   (λk2=>ae [tB 56<|bE k2,iL<|(Dy.jb b)-(Dy.jb a)]<|.w (1<((Dy.jb b)-(Dy.jb a)))
    (λk3=>.x<|by exact absurd ⟨k1,.inr k3⟩ hn)
    (λk3=>ae [tB 61<|bE k3]<|adq a b ha hb a0 b0 k hk la lb e1 e2 e3 fa fb fab fx fy Lt Lu Lv)))
  (λk1=>ae [tB 51<|bE k1]<|adq a b ha hb a0 b0 k hk la lb e1 e2 e3 fa fb fab fx fy Lt Lu Lv))
def afh(e1:-16384<=k)(h1:4097<max a.jb b.jb-k)(h2:1<a.jb-b.jb\/1<b.jb-a.jb):iA 183 [iF a,iF b]<|.iK [iF jK,iP 9]:=by
 have ta:-16384<=a.jb/\a.jb<=16384:=by
  unfold Dy.jb;rw[bw a0];have:=ha.range.resolve_left a0;have:=ha.exp;omega
 have tb:-16384<=b.jb/\b.jb<=16384:=by
  unfold Dy.jb;rw[bw b0];have:=hb.range.resolve_left b0;have:=hb.exp;omega
 exact iM (ae [ai 18 (((iB a.m).length:Int)==0)<|nK<|pF a0,ai 23 (((iB b.m).length:Int)==0)<|nK<|pF b0,.o 41<|ar (if b.e<a.e then b.e else a.e) k<|by rw[<-hk];split<;>omega,.c<|uP a aJ,.c<|uP b aJ,.o 48<|ar (if(Dy.jb b)>(Dy.jb a)then(Dy.jb b)else(Dy.jb a)) (max a.jb b.jb) aU,iL<|(max a.jb b.jb)-k,tB 51<|bC h1,
  iL ((Dy.jb a)-(Dy.jb b))]<|.w (1<((Dy.jb a)-(Dy.jb b)))
  (λk1=>af [tB 56<|bC k1,.o 64 (.e tz:aj (.agg av)<|iF jK)])
  (λk1=>ae [tB 56<|bE k1,iL<|(Dy.jb b)-(Dy.jb a)]<|.w (1<((Dy.jb b)-(Dy.jb a)))
   (λk2=>af [tB 61<|bC k2,.o 64 (.e tz:aj (.agg av)<|iF jK)])
   (λk2=>.x aI)))
end
def aff(hb:b.iD)(a0:a.m=0):iA 183 [iF a,iF b]<|.iK [iF b,iP 0]:=
 iM (af [ah 18 (((iB a.m).length:Int)==0)<|sA<|oO.2 a0,ah 28 (((iB a.m).length:Int)==0)<|sA<|oO.2 a0,.c (by have h:=EK b.neg b.m b.e hb.iB (by have:=hb.exp;omega) (by have:=hb.exp;omega);rwa[hb.canon.BK]at h:iA 121 [bP b.neg,iG<|iB b.m,iP b.e]<|iF b)])
def afg(ha:a.iD)(a0:a.m≠0)(b0:b.m=0):iA 183 [iF a,iF b]<|.iK [iF a,iP 0]:=
 iM (af [ai 18 (((iB a.m).length:Int)==0)<|nK<|pF a0,ah 23 (((iB b.m).length:Int)==0)<|sA<|oO.2 b0,ai 28 (((iB a.m).length:Int)==0)<|nK<|pF a0,.c (by have h:=EK a.neg a.m a.e ha.iB (by have:=ha.exp;omega) (by have:=ha.exp;omega);rwa[ha.canon.BK]at h:iA 121 [bP a.neg,iG<|iB a.m,iP a.e]<|iF a)])
section
variable(ha:a.iD)(hb:b.iD)
def Vq:iA 183 [iF a,iF b]<|.iK [iF<|mA<|jh a b,iP<|oh<|jh a b]:=by
 by_cases a0:a.m=0
 .rw [show jh a b=b by unfold jh;rw[bA a0],BL hb.range,GZ hb.range];exact aff a b hb a0
 by_cases b0:b.m=0
 .rw [show jh a b=a by unfold jh;rw[bw a0,bA b0],BL ha.range,GZ ha.range];exact afg a b ha a0 b0
 obtain⟨k,hk⟩:∃ k,min a.e b.e=k:=⟨_,rfl⟩
 have xa:=ha.exp;have xb:=hb.exp;by_cases hn:4097<max a.jb b.jb-k/\(1<a.jb-b.jb\/1<b.jb-a.jb)
 .have kY:=arO ha hb a0 b0 hk hn.1 hn.2;rw[OZ kY,KQ kY];exact afh a b ha hb a0 b0 k hk aI hn.1 hn.2
 .obtain ⟨f1,f2⟩:=arQ ha hb a0 b0 hk hn;have len:∀ {m:Nat},iE m<=4098->(iB m).length<=256:=λh=>b9 (RF (k:=129)<|b9 h aK) aK 
  refine afi a b ha hb a0 b0 k hk ha.iB hb.iB aI aI aI (len aI) (len aI) (len<|VF f1 f2) (len<|b9 (ub<|en _ _) aI) (len<|b9 (ub<|en _ _) aI) (λh=>?_) (λh h'=>adm a0 b0 hk h h') (λh h'=>adn a0 b0 hk h h') hn;have:=adp (s:=a.neg) a0 b0 hk;rw[<-this,show(⟨a.neg,b.m,b.e⟩:Dy)=b by rw[h]]
def GV:iA 123 [iF a,iF b]<|.iK [iF<|mA<|jh a<|jl b,iP<|oh<|jh a<|jl b]:=by
 have hn:=ru hb;exact iM<|af [.c<|tI a aJ,.c<|tI b aJ,.c<|AQ b aJ,ag [iF a,iF<|jl b]<|Vq _ _ aJ aJ]
def GS:iA 124 [iF a,iF b]<|.iK [iF<|mA<|jh a b,iP<|oh<|jh a b]:=
 iM (af [.c<|tI a aJ,.c<|tI b aJ,ag [iF a,iF b]<|Vq _ _ aJ aJ])
end
end
def aeZ(k:Int)(h1:-32768<=k)(h2:k<=32768):iA 119 [iP k]<|bP true:=
 iM (af [tT 4 ((-32768)<=k) aI,tT 7 (k<=32768) aI])
def Vo(d:Dy)(k:Int)(hv:d.iD)(h1:-32768<=k)(h2:k<=32768):iA 74 [iF d,iP k]<|.iK [iF<|mA<|canon d.neg d.m<|d.e+k,iP<|oh<|canon d.neg d.m<|d.e+k]:=by
 have hl:=hv.iB;have he:=hv.exp;have lu:=VT (lO d.m) hl d.neg<|d.e+k;obtain⟨mq,ph⟩:=OP (lO d.m) hl d.neg (d.e+k) aI aI;rw[kE]at lu mq ph;exact iM<|af [.c<|tI d aJ,ag [iP k]<|aeZ _ aI aI,iL<|d.e+k,ag [bP d.neg,iG<|iB d.m,iP<|d.e+k]<|EK _ _ _ aI,ag [iF<|canon d.neg d.m<|d.e+k]<|Kz _ aI aI aI]
def Vh(n:Nat)(h:n<4294967296):iA 75 [iP n]<|iF<|kV (n:Int):=by
 have ok2:jc [n%4294967296,n/4294967296%4294967296]:=jc.cons (bQ _ aK)<|jc.cons (bQ _ aK) jc.nil;exact iM<|ae [.o 5 (.int<|px _:aj (.v<|.int .u64<|IntKind.u64.wrap (n:Int))<|.v<|.int .u64 (n:Int)),tF 7 ((n:Int)<0) aI,tF 11 ((n:Int)<0) aI,.o 13 (.int<|tX _:aj (.v<|.int .u32<|IntKind.u32.wrap (n:Int))<|.v<|.int .u32 ((n%4294967296:Nat):Int)),.a (aI:0<=(32:Int)/\(32:Int)<=((64:Nat):Int)),.o 15 (.int<|Al _:aj (.v<|.int .u64<|(n:Int)/2^32)<|.v<|.int .u64 ((n/4294967296:Nat):Int)),.o 16 (.int<|tX _:aj (.v<|.int .u32<|IntKind.u32.wrap ((n/4294967296:Nat):Int))<|.v<|.int .u32 (((n/4294967296)%4294967296:Nat):Int)),.o 17 (.e<|asn _ _:aj (.sl false 2 1 λi_ j_=>[.v<|.int .u32 ((n%4294967296:Nat):Int),.v<|.int .u32 (((n/4294967296)%4294967296:Nat):Int)].getD (i_*1+j_)<|.v<|.bool false)<|iG [n%4294967296,(n/4294967296)%4294967296]),.c<|aij false [n%4294967296,(n/4294967296)%4294967296] 0 ok2 aP aK aK]<|rQ (iF<|canon false (val [n%4294967296,(n/4294967296)%4294967296]) 0) (iF<|kV (n:Int))<|by rw[asJ,(aI:n%4294967296+4294967296*(n/4294967296%4294967296)=n),Md]
def alU:kV 1=⟨false,1,0⟩:=by rw[show(1:Int)=((1:Nat):Int)from rfl,Md];exact aa5
def ae2:iA 75 [iP 1]<|iF ⟨false,1,0⟩:=by
 have:=Vh 1 aK;rwa[show((1:Nat):Int)=1 from rfl,alU]at this
section
variable(d:Dy)(p:Nat)(hd:d.iD)(iU:8<=p)(iJ:p<=512)
def Vm:iA 308 [iF d,iP p]<|.iK [iF<|kt d p false,iP<|kS d p false]:=
 iM (af [.c<|MT d p false aJ])
def Vn:iA 307 [iF d,iP p]<|.iK [iF<|kt d p true,iP<|kS d p true]:=
 iM (af [.c<|MT d p true aJ])
end
def Si(d:Dy)(p:Nat)(up:Bool)(N:Nat)(h:(jL d p up N).2≠0):∀ k,jL d p up (N+k)=jL d p up N
 | 0=>rfl
 |k+1=>by
  have ih:=Si d p up N h k;show(if(jL d p up<|N+k).2≠0 then jL d p up (N+k)else _)=_;rw[ih,bA h]
def Cx{d:Dy}{p:Nat}{up:Bool}{k:Nat}(h:(jL d p up k).2=0):jL d p up (k+1)=(kt (oi (jL d p up k).1 d) p up,kS (oi (jL d p up k).1 d) p up):=by
 show(if(jL d p up k).2≠0 then _ else _)=_;rw[bw<|not_not_intro h];rfl
section
variable(d:Dy)
def ae3(n p:Nat)(hd:d.iD)(hn:1<=n)(kX:n<=16)(iU:8<=p)(iJ:p<=512)(jA:∀ x,x<n-1->(jL d p false x).2=0):iA 306 [iF d,iP n,iP p,.fn 308 [],.fn 171 []]<|.iK [iF (jL d p false<|n-1).1,iP (jL d p false<|n-1).2]:=
 iM (af [ag [iF d,iP p]<|Vm _ _ aJ aI aI,.s (Sp.kj (Vi d n p) 0 (n-1) aI (λx hx mr=>by
    have pU:=jA x aI;have hv:=Bo d (aI:1<=p) (aI:p<=4096) false x;exact jg (ae [tT 24 (((x+1:Nat):Int)<n) aI,ah 27 (((jL d p false x).2)==0)<|by rw[pU];rfl,.c<|Sy ((jL d p false x).1) d p aJ aJ aI aI,
     iL (((x+1:Nat):Int)+1)]<|.e<|af [.o 13<|ar (kS (oi ((jL d p false x).1) d) p false) ((jL d p false<|x+1).2)<|by rw[Cx pU],.b 12 (.jm<|by rw[Cx pU]:Bx.le (.cells 31<|ke<|kt (oi ((jL d p false x).1) d) p false)<|.cells 31<|ke<|(jL d p false<|x+1).1)]) aM)
  (λhx=>by
    exact jg (af [tF 24 ((((n-1)+1:Nat):Int)<n) aI]) aM) aQ:ki 3 f306 (Vi d n p 0) (.exit 0) ⟨41,true,[(13,.e<|iP<|(jL d p false<|n-1).2),(12,.box 12 0),(10,.box 10 0)],[(12,.cells 31<|ke<|(jL d p false<|n-1).1),(10,.cells 31 av)]⟩)<|af [.o 14<|ar 1 ((0+1:Nat):Int) rfl,.o 13<|ar (kS d p false) ((jL d p false 0).2) rfl,.b 12<|.refl<|.cells 31<|ke<|(jL d p false 0).1]])
def ae4(n N p:Nat)(hd:d.iD)(hn:1<=n)(kX:n<=16)(iU:8<=p)(iJ:p<=512)(qD:N<n-1)(jA:∀ x,x<N->(jL d p false x).2=0)(hN:(jL d p false N).2≠0):iA 306 [iF d,iP n,iP p,.fn 308 [],.fn 171 []]<|.iK [iF (jL d p false N).1,iP (jL d p false N).2]:=
 iM (af [ag [iF d,iP p]<|Vm _ _ aJ aI aI,.s (Sp.kj (Vj d n N p) 0 N aI (λx hx mr=>by
    have pU:=jA x aI;have hv:=Bo d (aI:1<=p) (aI:p<=4096) false x;exact jg (ae [tT 24 (((x+1:Nat):Int)<n) aI,ah 27 (((jL d p false x).2)==0)<|by rw[pU];rfl,.c<|Sy ((jL d p false x).1) d p aJ aJ aI aI,
     iL (((x+1:Nat):Int)+1)]<|.e<|af [.o 13<|ar (kS (oi ((jL d p false x).1) d) p false) ((jL d p false<|x+1).2)<|by rw[Cx pU],.b 12 (.jm<|by rw[Cx pU]:Bx.le (.cells 31<|ke<|kt (oi ((jL d p false x).1) d) p false)<|.cells 31<|ke<|(jL d p false<|x+1).1)]) aM)
  (λhx=>by
    exact jg (af [tT 24 (((N+1:Nat):Int)<n) aI,ai 27 (((jL d p false N).2)==0)<|by simpa using hN]) aM) aQ:ki 3 f306 (Vj d n N p 0) (.exit 0) ⟨41,true,[(13,.e<|iP<|(jL d p false N).2),(12,.box 12 0),(10,.box 10 0)],[(12,.cells 31<|ke<|(jL d p false N).1),(10,.cells 31 av)]⟩)<|af [.o 14<|ar 1 ((0+1:Nat):Int) rfl,.o 13<|ar (kS d p false) ((jL d p false 0).2) rfl,.b 12<|.refl<|.cells 31<|ke<|(jL d p false 0).1]])
section
variable(n p:Nat)(hd:d.iD)(hn:1<=n)(kX:n<=16)(iU:8<=p)(iJ:p<=512)
def ae5:iA 306 [iF d,iP n,iP p,.fn 308 [],.fn 171 []]<|.iK [iF (jL d p false<|n-1).1,iP (jL d p false<|n-1).2]:=by
 by_cases h:∃ x,x<n-1/\decide ((jL d p false x).2≠0)=true
 .obtain ⟨N,h1,h2,h3⟩:=ur h;have hN:(jL d p false N).2≠0:=dK h2;have:=ae4 d n N p hd hn kX iU iJ h1 (λx hx=>by simpa using h3 x hx) hN;have e:=Si d p false N hN<|n-1-N;rw[(aI:N+(n-1-N)=n-1)]at e;rw[e];exact this
 .exact ae3 d n p hd hn kX iU iJ λx hx=>cF λq=>h ⟨x,hx,bC q⟩
def ae6(jA:∀ x,x<n-1->(jL d p true x).2=0):iA 306 [iF d,iP n,iP p,.fn 307 [],.fn 172 []]<|.iK [iF (jL d p true<|n-1).1,iP (jL d p true<|n-1).2]:=
 iM (af [ag [iF d,iP p]<|Vn _ _ aJ aI aI,.s (Sp.kj (Vk d n p) 0 (n-1) aI (λx hx mr=>by
    have pU:=jA x aI;have hv:=Bo d (aI:1<=p) (aI:p<=4096) true x;exact jg (ae [tT 24 (((x+1:Nat):Int)<n) aI,ah 27 (((jL d p true x).2)==0)<|by rw[pU];rfl,.c<|Sz ((jL d p true x).1) d p aJ aJ aI aI,
     iL (((x+1:Nat):Int)+1)]<|.e<|af [.o 13<|ar (kS (oi ((jL d p true x).1) d) p true) ((jL d p true<|x+1).2)<|by rw[Cx pU],.b 12 (.jm<|by rw[Cx pU]:Bx.le (.cells 31<|ke<|kt (oi ((jL d p true x).1) d) p true)<|.cells 31<|ke<|(jL d p true<|x+1).1)]) aM)
  (λhx=>by
    exact jg (af [tF 24 ((((n-1)+1:Nat):Int)<n) aI]) aM) aQ:ki 3 f306 (Vk d n p 0) (.exit 0) ⟨41,true,[(13,.e<|iP<|(jL d p true<|n-1).2),(12,.box 12 0),(10,.box 10 0)],[(12,.cells 31<|ke<|(jL d p true<|n-1).1),(10,.cells 31 av)]⟩)<|af [.o 14<|ar 1 ((0+1:Nat):Int) rfl,.o 13<|ar (kS d p true) ((jL d p true 0).2) rfl,.b 12<|.refl<|.cells 31<|ke<|(jL d p true 0).1]])
end
def ae7(n N p:Nat)(hd:d.iD)(hn:1<=n)(kX:n<=16)(iU:8<=p)(iJ:p<=512)(qD:N<n-1)(jA:∀ x,x<N->(jL d p true x).2=0)(hN:(jL d p true N).2≠0):iA 306 [iF d,iP n,iP p,.fn 307 [],.fn 172 []]<|.iK [iF (jL d p true N).1,iP (jL d p true N).2]:=
 iM (af [ag [iF d,iP p]<|Vn _ _ aJ aI aI,.s (Sp.kj (Vl d n N p) 0 N aI (λx hx mr=>by
    have pU:=jA x aI;have hv:=Bo d (aI:1<=p) (aI:p<=4096) true x;exact jg (ae [tT 24 (((x+1:Nat):Int)<n) aI,ah 27 (((jL d p true x).2)==0)<|by rw[pU];rfl,.c<|Sz ((jL d p true x).1) d p aJ aJ aI aI,
     iL (((x+1:Nat):Int)+1)]<|.e<|af [.o 13<|ar (kS (oi ((jL d p true x).1) d) p true) ((jL d p true<|x+1).2)<|by rw[Cx pU],.b 12 (.jm<|by rw[Cx pU]:Bx.le (.cells 31<|ke<|kt (oi ((jL d p true x).1) d) p true)<|.cells 31<|ke<|(jL d p true<|x+1).1)]) aM)
  (λhx=>by
    exact jg (af [tT 24 (((N+1:Nat):Int)<n) aI,ai 27 (((jL d p true N).2)==0)<|by simpa using hN]) aM) aQ:ki 3 f306 (Vl d n N p 0) (.exit 0) ⟨41,true,[(13,.e<|iP<|(jL d p true N).2),(12,.box 12 0),(10,.box 10 0)],[(12,.cells 31<|ke<|(jL d p true N).1),(10,.cells 31 av)]⟩)<|af [.o 14<|ar 1 ((0+1:Nat):Int) rfl,.o 13<|ar (kS d p true) ((jL d p true 0).2) rfl,.b 12<|.refl<|.cells 31<|ke<|(jL d p true 0).1]])
def ae8(n p:Nat)(hd:d.iD)(hn:1<=n)(kX:n<=16)(iU:8<=p)(iJ:p<=512):iA 306 [iF d,iP n,iP p,.fn 307 [],.fn 172 []]<|.iK [iF (jL d p true<|n-1).1,iP (jL d p true<|n-1).2]:=by
 by_cases h:∃ x,x<n-1/\decide ((jL d p true x).2≠0)=true
 .obtain ⟨N,h1,h2,h3⟩:=ur h;have hN:(jL d p true N).2≠0:=dK h2;have:=ae7 d n N p hd hn kX iU iJ h1 (λx hx=>by simpa using h3 x hx) hN;have e:=Si d p true N hN<|n-1-N;rw[(aI:N+(n-1-N)=n-1)]at e;rw[e];exact this
 .exact ae6 d n p hd hn kX iU iJ λx hx=>cF λq=>h ⟨x,hx,bC q⟩
section
variable(n p:Nat)(hd:d.iD)(h0:¬d.jB<0)(hn:1<=n)(kX:n<=16)(iU:8<=p)(iJ:p<=512)
def U7:iA 293 [iF d,iP n,iP p,bP false]<|.iK [iF (mD d n p false).1,iP (mD d n p false).2]:=
 iM (ae [.c<|vO d aJ,tB 14<|bE h0,ag [iF d,iP n,iP p,.fn 308 [],.fn 171 []]<|ae5 _ _ _ aJ aI aI aI aI]<|rQ (.iK [iF<|(jL d p false<|n-1).1,iP<|(jL d p false<|n-1).2]) (.iK [iF (mD d n p false).1,iP (mD d n p false).2])<|by unfold mD;rw[bw h0])
def U8:iA 293 [iF d,iP n,iP p,bP true]<|.iK [iF (mD d n p true).1,iP (mD d n p true).2]:=
 iM (ae [.c<|vO d aJ,tB 14<|bE h0,ag [iF d,iP n,iP p,.fn 307 [],.fn 172 []]<|ae8 _ _ _ aJ aI aI aI aI]<|rQ (.iK [iF<|(jL d p true<|n-1).1,iP<|(jL d p true<|n-1).2]) (.iK [iF (mD d n p true).1,iP (mD d n p true).2])<|by unfold mD;rw[bw h0])
end
end
def ac1{d:Dy}(h:d.jB<0):¬(jl d).jB<0:=by
 rw[(rA _).2,oX];have:=(rA d).2.1 h
 grind
section
variable(d:Dy)(n p:Nat)(hd:d.iD)
section
variable(h0:¬d.jB<0)(hn:1<=n)(kX:n<=16)(iU:8<=p)(iJ:p<=512)
def aeT:iA 293 [iF d,iP (n:Int),iP (p:Int),bP false]<|.iK [iF (jL d p false<|n-1).1,iP (jL d p false<|n-1).2]:=by
 have:=U7 d n p hd h0 hn kX iU iJ;unfold mD at this;rwa[bw h0]at this
def aeU:iA 293 [iF d,iP (n:Int),iP (p:Int),bP true]<|.iK [iF (jL d p true<|n-1).1,iP (jL d p true<|n-1).2]:=by
 have:=U8 d n p hd h0 hn kX iU iJ;unfold mD at this;rwa[bw h0]at this
end
def aeR(h0:d.jB<0)(hn:1<=n)(kX:n<=16)(iU:8<=p)(iJ:p<=512):iA 293 [iF d,iP n,iP p,bP false]<|.iK [iF (mD d n p false).1,iP (mD d n p false).2]:=by
 have DC:=ru hd;have h1:=ac1 h0;have hv:=Bo (jl d) (aI:1<=p) (aI:p<=4096) true<|n-1;exact iM<|ae [.c<|vO d aJ,tB 14<|bC h0,.c<|AQ d aJ,ag [iF<|jl d,iP n,iP p,bP true]<|aeU _ _ _ DC h1 hn kX iU iJ,.c<|AQ ((jL (jl d) p true<|n-1).1) aJ]<|rQ (.iK [iF<|jl<|(jL (jl d) p true<|n-1).1,iP<|(jL (jl d) p true<|n-1).2]) (.iK [iF (mD d n p false).1,iP (mD d n p false).2])<|by unfold mD;rw[bA h0];rfl
def U9(hn:1<=n)(kX:n<=16)(iU:8<=p)(iJ:p<=512):iA 293 [iF d,iP (n:Int),iP (p:Int),bP false]<|.iK [iF (mD d n p false).1,iP (mD d n p false).2]:=by
 by_cases h0:d.jB<0
 .exact aeR d n p hd h0 hn kX iU iJ
 .exact U7 d n p hd h0 hn kX iU iJ
def aeS(h0:d.jB<0)(hn:1<=n)(kX:n<=16)(iU:8<=p)(iJ:p<=512):iA 293 [iF d,iP n,iP p,bP true]<|.iK [iF (mD d n p true).1,iP (mD d n p true).2]:=by
 have DC:=ru hd;have h1:=ac1 h0;have hv:=Bo (jl d) (aI:1<=p) (aI:p<=4096) false<|n-1;exact iM<|ae [.c<|vO d aJ,tB 14<|bC h0,.c<|AQ d aJ,ag [iF<|jl d,iP n,iP p,bP false]<|aeT _ _ _ DC h1 hn kX iU iJ,.c<|AQ ((jL (jl d) p false<|n-1).1) aJ]<|rQ (.iK [iF<|jl<|(jL (jl d) p false<|n-1).1,iP<|(jL (jl d) p false<|n-1).2]) (.iK [iF (mD d n p true).1,iP (mD d n p true).2])<|by unfold mD;rw[bA h0];rfl
def Va(hn:1<=n)(kX:n<=16)(iU:8<=p)(iJ:p<=512):iA 293 [iF d,iP (n:Int),iP (p:Int),bP true]<|.iK [iF (mD d n p true).1,iP (mD d n p true).2]:=by
 by_cases h0:d.jB<0
 .exact aeS d n p hd h0 hn kX iU iJ
 .exact U8 d n p hd h0 hn kX iU iJ
end
section
variable(x:Iv)(n p:Nat)(hx:x.iD)
def ae9(ha:x.all=true)(hn:n<=16)(iU:8<=p)(iJ:p<=512):iA 269 [iC x,iP n,iP p]<|iC<|r6 x n p:=
 iM (ae [.o 12<|.e<|nT x,.c<|uq x aJ,ai 13 (!x.all)<|by rw[ha];rfl,.c tO]<|rQ (iC iH) (iC<|r6 x n p)<|by unfold r6;rw[bA ha])
def afd(ha:x.all=false)(h0:n=0)(iU:8<=p)(iJ:p<=512):iA 269 [iC x,iP n,iP p]<|iC<|r6 x n p:=by
 have v1:=R4;exact iM<|ae [.o 12<|.e<|nT x,.c<|uq x aJ,ah 13 (!x.all)<|by rw[ha];rfl,.c<|Cf (p:Int),ah 17 (mH (p:Int))<|sC.2 ⟨aI,aI⟩,tF 22 ((n:Int)<0) aI,tF 26 (16<(n:Int)) aI,ah 30 ((n:Int)==0)<|sA h0,ag [iP 1] ae2,.c<|al5 (Dy.mk false 1 0) aJ]<|rQ (iC<|mT<|Dy.mk false 1 0) (iC<|r6 x n p)<|by unfold r6;rw[bw<|by rw[ha];decide,bA h0]
section
variable(ha:x.all=false)(h0:n≠0)(hn:n<=16)
def afa(he:n%2=0)(iU:8<=p)(iJ:p<=512):iA 269 [iC x,iP n,iP p]<|iC<|r6 x n p:=by
 have va:=uK hx;obtain⟨w1,w2⟩:=va.kA;exact iM<|ae [.o 12<|.e<|nT x,.c<|uq x aJ,ah 13 (!x.all)<|by rw[ha];rfl,.c<|Cf (p:Int),ah 17 (mH (p:Int))<|sC.2 ⟨aI,aI⟩,tF 22 ((n:Int)<0) aI,tF 26 (16<(n:Int)) aI,ai 30 ((n:Int)==0)<|nK h0,.a (aI:0<(2:Int)),.o 34<|ar (Int.tmod (n:Int) 2) ((n%2:Nat):Int)<|by rw[fP aI];omega,ah 35 (((n%2:Nat):Int)==0)<|sA he,.c<|alW x aJ,ag [iF<|(iW x).lo,iP n,iP p,bP false]<|U9 _ _ _ aJ aI aI aI aI,ag [iF<|(iW x).hi,iP n,iP p,bP true]<|Va _ _ _ aJ aI aI aI aI,.c<|Rr ((mD ((iW x).lo) n p false).1) ((mD ((iW x).hi) n p true).1) ((mD ((iW x).lo) n p false).2)<|(mD ((iW x).hi) n p true).2]<|rQ (iC<|ns ((mD ((iW x).lo) n p false).1) ((mD ((iW x).lo) n p false).2) ((mD ((iW x).hi) n p true).1)<|(mD ((iW x).hi) n p true).2) (iC<|r6 x n p)<|by unfold r6 wN;rw[bw<|by rw[ha];decide,bw h0,bA he]
def afb(he:¬n%2=0)(iU:8<=p)(iJ:p<=512):iA 269 [iC x,iP n,iP p]<|iC<|r6 x n p:=by
 have va:=hx;obtain⟨w1,w2⟩:=va.kA;exact iM<|ae [.o 12<|.e<|nT x,.c<|uq x aJ,ah 13 (!x.all)<|by rw[ha];rfl,.c<|Cf (p:Int),ah 17 (mH (p:Int))<|sC.2 ⟨aI,aI⟩,tF 22 ((n:Int)<0) aI,tF 26 (16<(n:Int)) aI,ai 30 ((n:Int)==0)<|nK h0,.a (aI:0<(2:Int)),.o 34<|ar (Int.tmod (n:Int) 2) ((n%2:Nat):Int)<|by rw[fP aI];omega,ai 35 (((n%2:Nat):Int)==0)<|nK he,ag [iF x.lo,iP n,iP p,bP false]<|U9 _ _ _ aJ aI aI aI aI,ag [iF x.hi,iP n,iP p,bP true]<|Va _ _ _ aJ aI aI aI aI,.c<|Rr ((mD x.lo n p false).1) ((mD x.hi n p true).1) ((mD x.lo n p false).2)<|(mD x.hi n p true).2]<|rQ (iC<|ns ((mD x.lo n p false).1) ((mD x.lo n p false).2) ((mD x.hi n p true).1)<|(mD x.hi n p true).2) (iC<|r6 x n p)<|by unfold r6 wN;rw[bw<|by rw[ha];decide,bw h0,bw he]
end
def afc(hn:n<=16)(iU:8<=p)(iJ:p<=512):iA 269 [iC x,iP (n:Int),iP (p:Int)]<|iC<|r6 x n p:=by
 cases ha:x.all with
 |true=>exact ae9 x n p hx ha hn iU iJ
 |false=>
  by_cases h0:n=0
  .exact afd x n p hx ha h0 iU iJ
  .by_cases he:n%2=0
   .exact afa x n p hx ha h0 hn he iU iJ
   .exact afb x n p hx ha h0 hn he iU iJ
end
def ae0(x y:Iv)(hx:x.iD)(hy:y.iD)(xa:x.all=false)(ya:y.all=false):iA 125 [iC x,iC y]<|iC<|rT x y:=by
 obtain⟨v1,v2⟩:=hx.kA;obtain⟨v3,v4⟩:=hy.kA;exact iM<|ae [.o 7<|.e<|xq x y,.c<|Ce x y aJ aJ,ah 8 (!(x.all||y.all))<|by rw[xa,ya];rfl,.c<|Rq x.lo y.lo aJ aJ,.c<|Rs x.hi y.hi aJ aJ]<|rQ (iC<|Iv.mk (jv x.lo y.lo) (jq x.hi y.hi) false) (iC<|rT x y)<|by unfold rT;rw[xa,ya];rfl
def afo(z:Int):(z==0)=decide (z=0):=by by_cases h:z=0<;>simp[h]
def OB(x:Iv)(p:Nat)(hx:x.iD)(xa:x.all=false)(iU:8<=p)(iJ:p<=512):iA 127 [iC x,iP p]<|.iK [iF<|tv x p,bP<|decide (Ey x p=0)]:=by
 obtain⟨v1,v2⟩:=hx.kA;have v3:=ru v1;exact iM<|ae [.o 9<|.e<|nT x,.c<|uq x aJ,ah 10 (!x.all)<|by rw[xa];rfl,.c<|Cf (p:Int),ah 14 (mH (p:Int))<|sC.2 ⟨aI,aI⟩,.c<|AQ x.lo aJ,.c<|ab5 x.hi (jl x.lo) p aJ aJ aI aI]<|rQ (.iK [iF<|kt (jh x.hi<|jl x.lo) p true,bP<|(kS (jh x.hi<|jl x.lo) p true)==0]) (.iK [iF<|tv x p,bP<|decide (Ey x p=0)])<|by rw[afo];rfl
def KA(x y:Iv):zZ x y=(y.all||(!x.all&&(decide (jI y.lo x.lo<=0)&&decide (jI x.hi y.hi<=0)))):=rfl
def ae1(x y:Iv)(hx:x.iD)(hy:y.iD):iA 110 [iC x,iC y]<|bP<|zZ x y:=by
 obtain⟨v1,v2⟩:=hx.kA;obtain⟨v3,v4⟩:=hy.kA;exact iM (ae [.c<|z8 x aJ,.c<|z8 y aJ]<|.w (y.all=true)
  (λk1=>ae [tB 14 k1]<|rQ (bP true) (bP<|zZ x y)<|by rw[KA];simp[k1])
  (λk1=>ae [tB 14<|bn k1]<|.w (x.all=true)
   (λk2=>ae [tB 17 k2]<|rQ (bP false) (bP<|zZ x y)<|by rw[KA];simp[k1,k2])
   (λk2=>ae [tB 17<|bn k2,.c<|ss y.lo x.lo aJ aJ]<|.w ((jI y.lo x.lo)<=0)
    (λk3=>ae [tB 25<|bC k3,.c<|ss x.hi y.hi aJ aJ]<|rQ (bP<|decide ((jI x.hi y.hi)<=0)) (bP<|zZ x y)<|by rw[KA];simp[k1,k2,k3])
    (λk3=>ae [tB 25<|bE k3]<|rQ (bP false) (bP<|zZ x y)<|by rw[KA];simp[k1,k2,k3]))))
def ain(k:Nat)(w:World)(h0:0<k)(hn:k<4294967296)(s7:Tb w):
 Calls prog 75 #[.int .i64 (-(k:Int))] w (vv w<|canon true k 0):=by
 have hd:(k:Int)/4294967296=0:= aI ;have je:(-(k:Int))<0:= aI ;have Qw:decide ((-(k:Int))<0)=true:=bC je;have hu:IntKind.u64.wrap (-(k:Int))=18446744073709551616-k:=by rw[IntKind.wrap_u64];omega
 have hs:IntKind.u64.wrap (-(18446744073709551616-(k:Int)))=k:=by rw[IntKind.wrap_u64];omega
 have Ll:IntKind.u32.wrap (k:Int)=k:=by rw[IntKind.wrap_u32];omega
 have ht:(iI [k,0]).length<=256:=by have:=pV [k,0];unfold mV at this;simp at this;omega
 have HC:=aum λ(A:Option Addr) c w (h:Sl w A c [k,0]) (hT:Tb w)=>K2 true A c [k,0] 0 w h aP ht aK aK hT;have hv:val [k,0]=k:= aP ;rw[hv]at HC;clear hv ht;generalize canon true k 0=d at *
 generalize hN:(-(k:Int))=N at *
 go_enter func75,ntmps75;go_wp2_with fail;refine(HC.out _ _ _ (Sl.Aw _ _ aP _ _ k 0 rfl rfl hn aK)<|s7.below<|by first|exact(iY.alloc _ _).trans (iY.alloc _ _)|exact iY.alloc _ _).mono ?_;rintro r w1 ⟨A1,c1,rfl,sO,lu⟩;have qi:iY (w.alloc<|.cells #[.bool false,.slice none 0 0,.int .i64 0] 31) w1:=(iY.alloc _ _).trans lu;have bx:=(jO.new w false none 0 0 0).ext qi;have b0:=bx.c0;have b1:=bx.c1;have b2:=bx.c2;have f0:=bx.fr 0;have f1:=bx.fr 1;have f2:=bx.fr 2;go_wp2;exact uc rfl rfl rfl (bx.set _ _ _ _ _) rfl (bx.uE sO _ _ _ _ _) (jO.tV ((iY.alloc _ _).trans qi) (bB _) _ _ _ _ _)
def GU(n:Int)(h:n.natAbs<4294967296:=by omega):iA 75 [iP n]<|iF<|kV n:=by
 by_cases h0:0<=n
 .obtain ⟨k,rfl⟩:=eh h0;exact Vh k aI 
 .obtain ⟨k,rfl⟩:∃ k:Nat,n = -(k:Int):=⟨n.natAbs,aI⟩
  rw[Zw k aI];refine⟨call75,λw B vs hK hB hr=>?_⟩;obtain⟨v1,vs,rfl,h1,hr⟩:=hr.nc;obtain rfl:=hr.rz;obtain rfl:=jd.lh h1;exact(ain k w aI aI hK).mono λe w' h=>rd B w e w' hB h
def mY(a b:Nat):Nat->Nat×Nat
 | 0=>(a,b)
 |k+1=>((mY a b k).2,(mY a b k).1%(mY a b k).2)
def Pt(a b:Nat):∀ k,mY a b (k+1)=mY b (a%b) k
 | 0=>rfl
 |k+1=>by
  show((mY a b<|k+1).2,(mY a b<|k+1).1%(mY a b<|k+1).2)=_;rw[Pt a b k];rfl
def Ps(a b:Nat):∀ k,Nat.gcd (mY a b k).1 (mY a b k).2=Nat.gcd a b
 | 0=>rfl
 |k+1=>by
  show Nat.gcd (mY a b k).2 ((mY a b k).1%(mY a b k).2)=_;rw[<-Ps a b k];exact(Nat.gcd_comm _ _).trans<|(Nat.gcd_rec _ _).symm.trans<|Nat.gcd_comm _ _
def Xs:∀ (b a:Nat),∃ N,(∀ k,k<N->(mY a b k).2≠0)/\(mY a b N).2=0:=by
 intro b
 induction b using Nat.strongRecOn with
 |ind b ih=>
  intro a;by_cases h:b=0
  .exact ⟨0,λk hk=>absurd hk<|bM k,h⟩
  .obtain ⟨N,h1,h2⟩:=ih (a%b) (bQ a<|ep h) b;refine⟨N+1,λk hk=>?_,by rw[Pt];exact h2⟩;rcases k with _|k
   .exact h
   .rw [Pt];exact h1 k aI 
def kH(n d:Int)(p:Nat):Iv:=if jG n d then ns (lj (kV n) (kV d) p false) (nZ (kV n) (kV d) p false) (lj (kV n) (kV d) p true) (nZ (kV n) (kV d) p true)else iH
def IS{d:Int}(h:d≠0):(kV d).m≠0:=by
 intro q;have hq:=uA d;rw[qt,q]at hq;have e:(d:Rat)=0:=by
  rw[<-hq];split<;>simp
 rw[show(0:Rat)=((0:Int):Rat)from rfl,Rat.intCast_inj]at e;exact h e
def KZ{a b:Dy}(b0:b.m≠0){p:Nat}(hp:1<=p)(iJ:p<=4096)(up:Bool):(lj a b p up).iD:=by
 unfold lj;split
 .exact ri
 .exact nj _ _ _ _ _ _ hp iJ
def Ak(n d:Int){p:Nat}(hp:1<=p)(iJ:p<=4096):(kH n d p).iD:=by
 unfold kH;split
 .rename_i h;obtain⟨r1,_⟩:=sW h;have d0:(kV d).m≠0:=IS aI;unfold ns;split
  .exact nP
  .rename_i he;obtain⟨A,B⟩:=Hl (a:=kV n) d0 hp iJ;refine .inr ⟨rfl,KZ d0 hp iJ _,KZ d0 hp iJ _,?_⟩;rw[qf];exact bI (A.1 aI).2 (B.1 aI).2
 .exact nP
def Z6{n k:Nat}(h1:4294967296^k<=n)(h2:n<4294967296^(k+1)):(iB n).length=k+1:=by
 have a:=sR h2;have b:¬(iB n).length<=k:=λq=>absurd (wF q) aI 
 omega
def DZ(v:Nat):v<4294967296^(iB v).length:=wF<|bB _
def I6{v l:Nat}(h:(iB v).length=l):jj v l=iB v:=h▸Pe v
def Bg(v k:Nat):(iB v).getD k 0=iV v k:=by rw[qg<|lO v,kE]
def ahW{v:Nat}(h:mR v 0 (iB v).length=0):jj (2*v) (iB v).length=iB (2*v):=by
 have h1:=DZ v;unfold mR at h;rw[cw h1,ch]at h;have h2:2*v<4294967296^(iB v).length:=by
  rcases eP (2*v) (4294967296^(iB v).length)with q|q
  .exact q
  .have:=gT q<|pw _;omega
 have a:=sR h2;have b:=wC (aI:v<=2*v);exact I6 aI 
def ahX{v:Nat}(h:mR v 0 (iB v).length≠0):jj (2*v) ((iB v).length+1)=iB (2*v)/\iV (2*v) (iB v).length=mR v 0 (iB v).length:=by
 have h1:=DZ v;have e:=(KV (r:=v) (b:=0) aK (iB v).length)
 have h0:iV v (iB v).length=0:=xO h1<|bB _;refine⟨I6<|Z6 ?_ ?_,by have:=e.1;rw[ch,h0]at this;simpa using this⟩
 .unfold mR at h;rw[cw h1,ch]at h;exact fz λq=>h<|cI q
 .rw [bV];omega
def ara{v:Nat}(h0:v≠0)(he:v%2=0):(iB v).set 0 (iV v 0+1)=iB (v+1):=by
 rw[Bh h0,Bh (aI:v+1≠0),atJ];unfold iV;rw[cH,ew,show(v+1)%4294967296=v%4294967296+1 by omega,show(v+1)/4294967296=v/4294967296 by omega]
def an0(a:Nat)(h:a<4294967296)(he:a%2=0):bits .or .u32 (a:Int) 1=((a+1:Nat):Int):=by
 have:=MC (a/2) 1 aK;rwa[(aI:2*(a/2)%4294967296=a)]at this
def Mc{v N:Nat}(jA:∀ k,k<N->iV v k=4294967295):∀ k,k<=N->iV 1 k+jR v 1 k=1
 | 0,_=>by rw[KN];decide
 |k+1,h=>by
  have a:=AI v 1 k;have b:=Mc jA k aI;have c:=jA k aI;have d:=qB (v+1) k;have e:=vI v 1<|k+1;have f:iV 1 (k+1)=0:=xO (k:=1) aK aI;omega
section
variable{v N:Nat}(jA:∀ k,k<N->iV v k=4294967295)
def Zt{k:Nat}(h:k<N):iV (v+1) k=0:=by
 have a:=AI v 1 k;have b:=Mc jA k aI;have c:=jA k h;have d:=qB (v+1) k;have e:=vI v 1<|k+1;omega
def alN(hd:iV v N≠4294967295):iV (v+1) N=iV v N+1/\jR v 1 (N+1)=0:=by
 have a:=AI v 1 N;have b:=Mc jA N<|bB _;have c:=qB v N;have d:=qB (v+1) N;have e:=vI v 1<|N+1;omega
end
def Zs{v N:Nat}(hc:jR v 1 (N+1)=0):∀ j,jR v 1 (N+1+j)=0/\iV (v+1) (N+1+j)=iV v (N+1+j)
 | 0=>by
  have a:=AI v 1<|N+1;have f:iV 1 (N+1)=0:=xO (k:=1) aK aI;have c:=qB v<|N+1;have e:=vI v 1<|N+1+1;have d:=qB (v+1)<|N+1;rw[ch];omega
 |j+1=>by
  obtain⟨h1,h2⟩:=Zs hc j;have a:=AI v 1<|N+1+j;have f:iV 1 (N+1+j)=0:=xO (k:=1) aK aI;have h3:jR v 1 (N+1+(j+1))=0:=by
   rw[(aI:N+1+(j+1)=N+1+j+1)];have d:=qB (v+1)<|N+1+j;omega
  have a:=AI v 1<|N+1+(j+1);have f:iV 1 (N+1+(j+1))=0:=xO (k:=1) aK aI;have c:=qB v<|N+1+(j+1);have d:=qB (v+1)<|N+1+(j+1);have e:=vI v 1<|N+1+(j+1)+1;omega
def anI{v N:Nat}(hN:N<(iB v).length)(jA:∀ k,k<N->iV v k=4294967295)(hd:iV v N≠4294967295):(lK 0 v N (iB v).length).set N (iV v N+1)=iB (v+1):=by
 obtain⟨h1,h2⟩:=alN jA hd;have ht:=DZ v;have je:v+1<4294967296^(iB v).length:=by
  rcases eP (v+1) (4294967296^(iB v).length)with q|q
  .exact q
  .exfalso;have e:v+1=4294967296^(iB v).length:= aI ;have h3:iV (v+1) N=0:=by
    rw[e];unfold iV;obtain⟨j,hj⟩:∃ j,(iB v).length=N+(j+1):=⟨(iB v).length-N-1,aI⟩
    rw[hj,bG,Nat.mul_div_cancel_left _<|pw N,bV,fV]
   omega
 have hl:(iB<|v+1).length=(iB v).length:=at0 (sR je)<|wC<|Nat.le_succ v;rw[<-I6 hl];unfold lK jj;apply atq aP;intro i i1 i2;have i3:i<(iB v).length:=by simpa using i2
 rw[atY,atr,atr,atZ];by_cases hi:N=i
 .subst hi;rw[bA rfl,h1]
 .rw [bw hi];by_cases yR:i<N
  .rw [bA yR,Dh,Zt jA yR]
  .rw [bw yR];have:=(Zs h2<|i-(N+1)).2;rw[(aI:N+1+(i-(N+1))=i)]at this;exact this.symm
def anG{v:Nat}(jA:∀ k,k<(iB v).length->iV v k=4294967295):jj (v+1) (iB v).length=jj 0 (iB v).length/\iV (v+1) (iB v).length=1/\jj (v+1) ((iB v).length+1)=iB (v+1):=by
 have e:jj (v+1) (iB v).length=jj 0 (iB v).length:=by
  unfold jj;apply gn;intro k hk;rw[Zt jA<|dr.1 hk,Dh]
 have ht:=DZ v;have hv:=zt (v+1) (iB v).length;rw[e,zt,Nat.zero_mod]at hv;have uV:4294967296^(iB v).length<=v+1:=fz λq=>by rw[cw q]at hv;omega
 refine⟨e,?_,I6<|Z6 uV<|by rw[bV];have:=pw (iB v).length;omega⟩;have a:=AI v 1 (iB v).length;have b:=Mc jA _<|bB _;have c:iV v (iB v).length=0:=xO ht<|bB _;have d:=qB (v+1) (iB v).length;have f:=vI v 1<|(iB v).length+1;omega
def adC{v l:Nat}(hl:(iB v).length=l+1):iV v l≠0/\iE v=32*l+iE (iV v l):=by
 have h1:=DZ v;rw[hl]at h1;have h2:4294967296^l<=v:=fz λq=>by have:=sR q;omega
 have h3:iV v l≠0:=by
  unfold iV;have a:=gT h2<|pw l;have b:v/4294967296^l<4294967296:=by rw[cK<|pw l,bR,<-bV];exact h1
  rw[cw b];omega
 exact⟨h3,VG h1 h3⟩
def afG{v l:Nat}(_:(iB v).length=l+1):iE (iV v l)<=32:=lE.2<|qB v l
def Vw{t x:Nat}(h:x<32-iE t):t/2^(31-x)%2=0:=by
 have h1:=qL t;have h2:=bZ (show 0<2 by decide) (aI:iE t<=31-x);rw[cI aI]
def Vy{t x:Nat}(h0:t≠0)(h:x=32-iE t)(hb:iE t<=32):t/2^(31-x)%2=1:=by
 have h1:=qL t;have h2:=tu h0;have h3:=og h0;have e:31-x=iE t-1:= aI ;rw[e];have h4:2^iE t=2*2^(iE t-1):=by
  obtain⟨k,hk⟩:∃ k,iE t=k+1:=⟨iE t-1,aI⟩
  rw[hk,eK,bV,bR]
 have h5:t/2^(iE t-1)<2:=by rw[cK<|bL aK];omega
 have h6:=gT h2 (bL (n:=iE t-1)<|show 0<2 by decide);omega
def OI{v i:Nat}:iV v (i/32)/2^(i%32)%2=v/2^i%2:=by
 by_cases h:i/32<(iB v).length
 .have:=OJ (lO v) i h;rw[kE]at this;rw[this,<-Bg,bJ,bS h];rfl
 .have h1:=DZ v;have h2:=bZ (show 0<4294967296 by decide)<|fz h;have h3:v<4294967296^(i/32):= aI ;rw[xO h3<|bB _,fL];have h4:4294967296^(i/32)<=2^i:=by rw[oz];exact bZ aK aI 
  rw[cI aI]
def afu{v i:Nat}(h:32*(iB v).length<=i):v/2^i%2=0:=by
 have h1:=DZ v;rw[oz]at h1;have h2:=bZ (show 0<2 by decide) h;rw[cI aI]
def Mj(w k:Nat):w%2^(k+1)=w%2^k+w/2^k%2*2^k:=by
 rw[bV,gP,bR<|2^k]
def MD{w k:Nat}(hk:k<32)(hw:w<4294967296):bits .or .u32 ((w%2^k:Nat):Int) ((w/2^k%2*2^k:Nat):Int)=((w%2^(k+1):Nat):Int):=by
 have a:=bQ w (bL (n:=k)<|show 0<2 by decide);have b:=bQ (w/2^k) (show 0<2 by decide);have c:=Mj w k;have d:=gS w<|2^(k+1);have e:=gS w<|2^k;rw[JX _ _ aI aI,Cu _ _ _ a,c]
def Nc{b k:Nat}(hk:k<32)(hb:b<=1):IntKind.u32.wrap ((b:Int)*2^k)=((b*2^k:Nat):Int):=by
 have h1:b*2^k<=1*2^31:=dE hb<|bZ aK aI;rw[IntKind.wrap_u32];have e:((b:Int)*2^k)=((b*2^k:Nat):Int):=by
  rw[eF,Int.natCast_pow];rfl
 rw[e];omega
def Pd{w y k:Nat}(hk:k<32):iV w y/2^k%2=w/2^(32*y+k)%2:=by
 have:=OI (v:=w) (i:=32*y+k);rwa[show(32*y+k)/32=y by omega,show(32*y+k)%32=k by omega]at this
def FK{w y:Nat}:y<(iB w).length↔32*y<iE w:=by
 constructor
 .intro h;obtain⟨l,hl⟩:∃ l,(iB w).length=l+1:=⟨(iB w).length-1,aI⟩
  obtain⟨a,b⟩:=adC hl;have:=og a;omega
 .intro h;apply att;intro q;have h1:=wF q;rw[oz]at h1;have:=lE.2 h1;omega
def OK{v s:Nat}(h:s<=iE v):iE (v/2^s)=iE v-s:=by
 by_cases h0:v/2^s=0
 .rw [h0,tE];have h1:v<2^s:=by
   rcases eP v (2^s)with q|q
   .exact q
   .have:=gT q<|bL aK;omega
  have:=lE.2 h1;omega
 .have h2:v≠0:=λq=>h0 (by rw[q,fL])
  have a:=qL v;have b:=tu h2;have hs:s<iE v:=by
   rcases eP s (iE v)with q|q
   .exact q
   .exfalso;apply h0;apply cI;exact cg a<|bZ aK q
  obtain⟨k,hk⟩:∃ k,iE v=s+(k+1):=⟨iE v-s-1,aI⟩
  rw[hk]at a b;rw[hk,Nat.add_sub_cancel_left];refine xM ?_ ?_
  .rw [dO<|bL aK,<-bG];rw[(aI:s+(k+1)-1=k+s)]at b;exact b
  .rw [cK<|bL aK,<-bG,eZ<|k+1];exact a
def Wq{v:Nat}(h:v≠0):kq v<iE v:=by
 have:=Jv h;exact xr.2 this
end Go.Proofs.YtbbefgegdllpmaaGreatDoor
