/- Lemmas that the last file uses. -/
import Derived.Test.YtgdahmmlddfimaaGreatDoorM02
import Derived.Scope
import Derived.DeepKeys
set_option linter.unusedSimpArgs false
set_option linter.unusedVariables false
set_option linter.defProp false
set_option maxHeartbeats 4000000
open Go.Proofs.Tryz
namespace Go.Proofs.YtgdahmmlddfimaaGreatDoor.Pu
open Go.RowKit
inductive R where
 |nil
 |jl
 |a (p:Prop) (r:R)
 |w (p:Prop) (r1:p->R) (r2:¬p->R)
def R.ok:R->Prop
 | .nil=>True
 | .jl=>False
 | .a p r=>p/\r.ok
 | .w p r1 r2=>(∀ h:p,(r1 h).ok)/\(∀ h:¬p,(r2 h).ok)
inductive Tr(P:Program)(K:World->Prop) where
 |nil
 |c {f:FuncId} {args:List E} {kf:E} (h:PC P K f args kf) (t:Tr P K)
 |cf {f:FuncId} {args:List E} {kf:E} (h:I6 P K f args kf) (t:Tr P K)
 |cn {f:FuncId} {args:List E} {nl:Bool} {T:TypeId} {n sz:Nat} {el:Nat->Nat->E} (h:wL P K f args nl T n sz el) (t:Tr P K)
 |g {op:BinOp} {ty:TypeId} {x y:E} {v:Value} (h:pH P op ty x y v) (t:Tr P K)
 |gi {op:BinOp} {ty:TypeId} {x y:E} {v:Value} (h:pH P op ty x y v) (t:Tr P K)
 |m {l:List (Int×FuncId×List FuncId)} {z:Int} {e:E} (h:Dv l z=some e) (t:Tr P K)
 |o (d:Nat) {p q:PV} (h:PV.le p q) (t:Tr P K)
 |bo (t:Tr P K)
 |a {p:Prop} (h:p) (t:Tr P K)
 |w (p:Prop) (t1:p->Tr P K) (t2:¬p->Tr P K)
 |s {c:Code} {σ τ:PS} {e:Ex} (h:Sp P K c σ (λe' τ'=>e'=e/\τ'=τ)) (l t:Tr P K)
 |j (c:Nat) (τ:PS) (tj t:Tr P K)
 |v (d:Nat) {p q:PV} (h:PV.le p q) (t:Tr P K)
 |b (d:Nat) {p q:Bx} (h:Bx.le p q) (t:Tr P K)
 |z (id:Nat) (t:Tr P K)
 |y (s id:Nat) (nl:Bool) (T:TypeId) (sz:Nat) (el:Nat->Nat->E) (t:Tr P K)
 |e (t:Tr P K)
 |k (ts bs:List Nat) (t:Tr P K)
 |u (n:Nat) (t:Tr P K)
 |x (h:False)
 |r {p q:E} (h:E.le p q)
 |rb {p q:Bx} (h:Bx.le p q)
section
variable {P:Program} {K:World->Prop}
def FG:List (Nat×PV)->Tr P K->(Tr P K->R)->R
 | [],t,k=>k t
 | (d,q)::l,t,k=>match t with
  | .o d' (p:=p) (q:=q') _ t'=>if Nat.beq d' d then .a (PV.le p q') (FG l t' k)else .a (PV.le q q) (FG l t k)
  |t=>.a (PV.le q q) (FG l t k)
def Ea:List (Nat×Bx)->Tr P K->R->R
 | [],_,r=>r
 | (d,q)::l,t,r=>match t with
  | .b d' (p:=p) (q:=q') _ t'=>if Nat.beq d' d then .a (Bx.le p q') (Ea l t' r)else .a (Bx.le q q) (Ea l t r)
  |t=>.a (Bx.le q q) (Ea l t r)
def FC(σ:PS)(t:Tr P K)(r:R):R:=FG σ.t t λt=>Ea σ.b t r
def Tr.ex:Tr P K->(Tr P K->R)->R
 | .nil,fin=>fin .nil
 | .e t,fin=>fin t
 | @Tr.c _ _ f args kf _ t,fin=>.a (PC P K f args kf) (t.ex fin)
 | @Tr.cf _ _ f args kf _ t,fin=>.a (I6 P K f args kf) (t.ex fin)
 | @Tr.cn _ _ f args nl T n sz el _ t,fin=>.a (wL P K f args nl T n sz el) (t.ex fin)
 | @Tr.g _ _ op₁ ty₁ xe₁ ye₁ ve₁ _ t,fin=>.a (pH P op₁ ty₁ xe₁ ye₁ ve₁) (t.ex fin)
 | @Tr.gi _ _ op₁ ty₁ xe₁ ye₁ ve₁ _ t,fin=>.a (pH P op₁ ty₁ xe₁ ye₁ ve₁) (t.ex fin)
 | @Tr.m _ _ l₁ z₁ e₁ _ t,fin=>.a (Dv l₁ z₁=some e₁) (t.ex fin)
 | .o _ (p:=p) (q:=q) _ t,fin=>.a (PV.le p q) (t.ex fin)
 | .bo t,fin=>.a True (t.ex fin)
 | .a (p:=p) _ t,fin=>.a p (t.ex fin)
 | .w p t1 t2,fin=>.w p (λh=>(t1 h).ex fin) (λh=>(t2 h).ex fin)
 | @Tr.s _ _ c₁ σ τ e₁ _ l t,fin=>FC σ l (.a (Sp P K c₁ σ (λe' τ'=>e'=e₁/\τ'=τ)) (t.ex fin))
 | .j _ τ tj t,fin=>.a (tj.ex λt=>FC τ t .nil).ok (t.ex fin)
 | .v _ (p:=p) (q:=q) _ t,fin=>.a (PV.le p q) (t.ex fin)
 | .b _ _ t,fin=>t.ex fin
 | .z _ t,fin=>t.ex fin
 | .y _ _ _ _ _ _ t,fin=>t.ex fin
 | .k _ _ t,fin=>t.ex fin
 | .u _ t,fin=>t.ex fin
 | .x _,fin=>.a False .nil
 | .r (p:=p) (q:=q) _,fin=>.a (E.le p q) .nil
 | .rb (p:=p) (q:=q) _,fin=>.a (Bx.le p q) .nil
def aoA{l:List (Nat×PV)}{t:Tr P K}{k:Tr P K->R}(hk:∀ t,(k t).ok):(FG l t k).ok:=by
 induction l generalizing t with
 |nil=>exact hk t
 |cons x l ih=>
  obtain⟨d,q⟩:=x;cases t with
  |o d' h t'=>
   simp only[FG];split
   .exact ⟨h,ih⟩
   .exact ⟨PV.le.refl q,ih⟩
  |_=>exact⟨PV.le.refl q,ih⟩
def acv{l:List (Nat×Bx)}{t:Tr P K}{r:R}(hr:r.ok):(Ea l t r).ok:=by
 induction l generalizing t with
 |nil=>exact hr
 |cons x l ih=>
  obtain⟨d,q⟩:=x;cases t with
  |b d' h t'=>
   simp only[Ea];split
   .exact ⟨h,ih⟩
   .exact ⟨Bx.le.refl q,ih⟩
  |_=>exact⟨Bx.le.refl q,ih⟩
def Q3{σ:PS}{t:Tr P K}{r:R}(hr:r.ok):(FC σ t r).ok:=aoA λ_=>acv hr
def Tr.Nr{fin:Tr P K->R}(hf:∀ t,(fin t).ok)(t:Tr P K):(t.ex fin).ok:=by
 induction t generalizing fin with
 |nil=>exact hf _
 |e t=>exact hf _
 |c h t ih=>exact⟨h,ih hf⟩
 |cf h t ih=>exact⟨h,ih hf⟩
 |cn h t ih=>exact⟨h,ih hf⟩
 |g h t ih=>exact⟨h,ih hf⟩
 |gi h t ih=>exact⟨h,ih hf⟩
 |m h t ih=>exact⟨h,ih hf⟩
 |o d h t ih=>exact⟨h,ih hf⟩
 |bo t ih=>exact⟨trivial,ih hf⟩
 |a h t ih=>exact⟨h,ih hf⟩
 |w p t1 t2 Hc Hd=>exact⟨λh=>Hc h hf,λh=>Hd h hf⟩
 |s h l t ihl O3=>exact Q3 ⟨h,O3 hf⟩
 |j c τ tj t ihj O3=>exact⟨ihj λ_=>Q3 trivial,O3 hf⟩
 |v d h t ih=>exact⟨h,ih hf⟩
 |b d h t ih=>exact ih hf
 |z id t ih=>exact ih hf
 |y s id nl T sz el t ih=>exact ih hf
 |k ts bs t ih=>exact ih hf
 |u n t ih=>exact ih hf
 |x h=>exact h.elim
 |r h=>exact⟨h,trivial⟩
 |rb h=>exact⟨h,trivial⟩
def Rc(υ:PS):List (Nat×PV)->R->R
 | [],r=>r
 | (d,q)::l,r=>.a (PV.le (υ.get d) q) (Rc υ l r)
def Jq(υ:PS):List (Nat×Bx)->R->R
 | [],r=>r
 | (d,q)::l,r=>match υ.bo d with
  |some b=>.a (Bx.le b q) (Jq υ l r)
  |none=>.jl
def LX(υ σ:PS)(r:R):R:=if Nat.beq υ.n σ.n&&(σ.b.all (λx=>x.2.nl)||(σ.nl==υ.nl))&&Iu σ then Rc υ σ.t (Jq υ σ.b r)else .jl
def Tr.tail:Tr P K->Tr P K
 | .c _ t=>t
 | .cf _ t=>t
 | .cn _ t=>t
 | .g _ t=>t
 | .gi _ t=>t
 | .m _ t=>t
 | .bo t=>t
 | .a _ t=>t
 |_=>.nil
def P0:List Prop->Tr P K->(Tr P K->R)->R
 | [],t,k=>k t
 |p::l,t,k=>.a p (P0 l t.tail k)
def Tj(d:Option Tmp)(t:Tr P K):qB:=match d with
 |some d=>match t with
  | @Tr.c _ _ _ _ kf _ _=>{ cl:=[(d,kf)] }
  | @Tr.cf _ _ _ _ kf _ _=>{ cl:=[(d,kf)] }
  | @Tr.g _ _ _ _ _ _ ve₁ _ _=>{ cl:=[(d,.v ve₁)] }
  | @Tr.gi _ _ _ _ _ _ ve₁ _ _=>{ gi:=[(d,ve₁)] }
  | @Tr.m _ _ _ _ e₁ _ _=>{ cl:=[(d,e₁)] }
  | @Tr.cn _ _ _ _ nl T n sz el _ _=>{ nw:=[(d,.row nl T n sz el)] }
  | .bo _=>{ nw:=[(d,.cells 0 [])] }
  |_=>{}
 |none=>{}
def Il:Tr P K->(Tr P K->R)->R
 | .w p t1 t2,k=>.w p (λh=>Il (t1 h) k) (λh=>Il (t2 h) k)
 | .x _,_=>.a False .nil
 |t,k=>k t
def Qe(o:Oper)(u:kO)(t:Tr P K)(k:kO->Tr P K->R):R:=match o.dst,t with
 |some d,.o d' (q:=q) _ t'=>if Nat.beq d' d then .a (PV.le u.r q) (k { u with r:=q,jE:=PV.le u.r q::u.jE } t')else k u t
 |_,t=>k u t
def P9(T:List TI)(gX:Array Oper)(σ:PS)(o:Oper)(t:Tr P K)(k:kO->Tr P K->R):R:=
 if w9 σ o.dst then match AS gX σ o with
  |some false=>k { r:=.e (.v (.tuple #[])),rd:=(looks gX o).map σ.get } t
  |some true=>Il t λt=>match jA P K T (Tj o.dst t) σ o with
   |some u=>P0 u.jE t λt=>Il t λt=>Qe o u t λu t=>k { u with rd:=(looks gX o).map σ.get } t
   |none=>.jl
  |none=>.jl
 else .jl
def Qc(T:List TI)(gX:Array Oper)(k:List (Oper×kO)->PS->Tr P K->R):List Oper->List (Oper×kO)->PS->Tr P K->R
 | [],us,σ,t=>k us σ t
 |o::l,us,σ,t=>P9 T gX σ o t λu t'=>Qc T gX k l ((o,u)::us) (σ.app o.dst u) t'
def sS(c:Bool):Tr P K->PS->(Tr P K->PS->R)->R
 | .w p t1 t2,σ,k=>.w p (λh=>sS c (t1 h) σ k) (λh=>sS c (t2 h) σ k)
 | .x _,_,_=>.a False .nil
 | .v d (q:=q) _ t,σ,k=>match q with
  | .e x=>if w9 σ (some d)then .a (PV.le (σ.get d) (.e x)) (sS c t (σ.put (some d) (.e x)) k)else .jl
  |_=>.jl
 | .k ts bs t,σ,k=>if c then k (.k ts bs t) σ else if Iu (σ.cut ts bs)then sS c t (σ.cut ts bs) k else .jl
 | .z id t,σ,k=>if c then k (.z id t) σ else match σ.bo id with
  |some b=>match b.as with
   |some e=>sS c t (σ.yO id e) k
   |none=>.jl
  |none=>.jl
 | .y s id nl T sz el t,σ,k=>if c then k (.y s id nl T sz el t) σ else match σ.bo id,σ.get s with
  |none,.e (.v (.slice none 0 0))=>if !σ.nl||nl then sS c t (σ.D7 s id (.row nl T 0 sz el)) k else .jl
  |_,_=>.jl
 |t,σ,k=>k t σ
def LU(c:Code)(σ:PS)(t:Tr P K)(k:Ex->PS->Tr P K->R):R:=match t with
 | @Tr.s _ _ _ σ' τ e _ _ t=>LX σ σ' (.a (Sp P K c σ' (λe' τ'=>e'=e/\τ'=τ)) (k e τ t))
 |_=>.jl
def Ex.qL:Ex->Ex->Bool
 | .normal,.normal=>true
 | .ret,.ret=>true
 | .exit a,.exit b=>Nat.beq a b
 |_,_=>false
def Gi(e:Ex)(τ:PS)(e':Ex)(υ:PS)(_:Tr P K):R:=if Ex.qL e' e then LX υ τ .nil else .jl
def ae9:Operand->Nat
 | .tmp t=>2*t
 |_=>1
def jn(c:Nat)(g:PS->Tr P K->(Ex->PS->Tr P K->R)->R)(σ:PS)(t:Tr P K)(k:Ex->PS->Tr P K->R):R:=match t with
 | .j c' τ tj t'=>if Nat.beq c' c then .a (g σ tj (Gi .normal τ)).ok (k .normal τ t')else g σ t k
 |t=>g σ t k
def Tr.isS:Tr P K->Bool
 | .s ..=>true
 |_=>false
def abr(g f:PS->Tr P K->(Ex->PS->Tr P K->R)->R):Nat->PS->Tr P K->(Ex->PS->Tr P K->R)->R
 | 0,_,_,_=>.jl
 |n+1,σ,t,k=>sS false t σ λt σ=>if t.isS then g σ t k else f σ t λe τ t=>match e with
  | .normal=>abr g f n τ t k
  |e=>k e τ t
def wR(T:List TI):Code->PS->Tr P K->(Ex->PS->Tr P K->R)->R
 | .skip,σ,t,k=>k .normal σ t
 | .region _ gX d,σ,t,k=>Qc T gX (λus τ t=>if !d||Fj gX 0 us.reverse then k .normal τ t else .jl) gX.toList [] σ t
 | .seq a b,σ,t,k=>wR T a σ t λe τ t=>match e with
  | .normal=>wR T b τ t k
  |e=>k e τ t
 | .cond c a b,σ,t,k=>sS true t σ λt σ=>jn (ae9 c) (λσ t k=>sS true t σ λt σ=>match σ.op c with
  | .e (.v (.bool true))=>wR T a σ t k
  | .e (.v (.bool false))=>wR T b σ t k
  |_=>.jl) σ t k
 | .block id b,σ,t,k=>sS true t σ λt σ=>jn (2*id+1) (λσ t k=>wR T b σ t λe τ t=>match e with
  | .exit i=>if Nat.beq i id then k .normal τ t else k (.exit i) τ t
  |e=>k e τ t) σ t k
 | .exit id,σ,t,k=>sS false t σ λt σ=>k (.exit id) σ t
 | .ret,σ,t,k=>sS false t σ λt σ=>k .ret σ t
 | .loop b,σ,t,k=>sS false t σ λt σ=>match t with
  | .u n t=>abr (LU (.loop b)) (wR T b) n σ t k
  |t=>LU (.loop b) σ t k
 | .label _,σ,t,k=>k .normal σ t
 | .scope b,σ,t,k=>wR T b σ t k
 |_,_,_,_=>.jl
def Y2{t:Tr P K}{k:Tr P K->R}(h:(Il t k).ok):∃ t',(k t').ok:=by
 induction t with
 |w p t1 t2 Hc Hd=>
  by_cases hp:p
  .exact Hc hp (h.1 hp)
  .exact Hd hp (h.2 hp)
 |x hf=>exact hf.elim
 |_=>exact⟨_,h⟩
def ak4{l:List Prop}{t:Tr P K}{k:Tr P K->R}(h:(P0 l t k).ok):(∀ q,q ∈ l->q)/\∃ t',(k t').ok:=by
 induction l generalizing t with
 |nil=>exact⟨λq hq=>by simp at hq,t,h⟩
 |cons p l ih=>
  obtain⟨h1,h2⟩:=ih h.2;refine⟨λq hq=>?_,h2⟩;rcases di.1 hq with hq|hq
  .subst hq;exact h.1
  .exact h1 q hq
variable {T:List TI} {gX:Array Oper} {σ:PS} {o:Oper}
def alq{O:qB}{u:kO}{t:Tr P K}{k:kO->Tr P K->R}(hO:O.ov=[])(hu:jA P K T O σ o=some u)(ho:∀ q,q ∈ u.jE->q)(h:(Qe o u t k).ok):
 ∃ O' u' t',vE P K T O' σ o=some u'/\(∀ q,q ∈ u'.jE->q)/\(k u' t').ok:=by
 have plain:(k u t).ok->∃ O' u' t',vE P K T O' σ o=some u'/\(∀ q,q ∈ u'.jE->q)/\(k u' t').ok:=by
  intro h;refine⟨O,u,t,?_,ho,h⟩;unfold vE;rw[hu,hO];cases o.dst<;>rfl
 unfold Qe at h;split at h
 .rename_i d d' p q hpq t' hd;split at h
  .obtain ⟨h1,h2⟩:=h;refine⟨⟨O.cl,[(d,q)],O.nw,O.gi⟩,_,t',?_,λx hx=>?_,h2⟩
   .unfold vE;have he:jA P K T ⟨O.cl,[(d,q)],O.nw,O.gi⟩ σ o=jA P K T O σ o:=by cases O;rfl
    rw[he,hu,hd];simp[look]
   .rcases di.1 hx with hx|hx
    .subst hx;exact h1
    .exact ho x hx
  .exact plain h
 .exact plain h
def alc{t:Tr P K}{k:kO->Tr P K->R}(h:(P9 T gX σ o t k).ok):∃ u t',(∃ O,sy P K T O gX σ o=some u)/\(∀ q,q ∈ u.jE->q)/\(k u t').ok:=by
 unfold P9 at h;split at h
 .rename_i hi;split at h
  .rename_i hw;refine⟨_,t,⟨{},?_⟩,λq hq=>by simp at hq,h⟩;unfold sy;rw[bk hi,hw]
  .rename_i hw;obtain⟨t1,h1⟩:=Y2 h;split at h1
   .rename_i u hu;obtain⟨ho,t2,h2⟩:=ak4 h1;obtain⟨t2,h2⟩:=Y2 h2;obtain⟨O',u',t3,xW,ho',h3⟩:=alq (by
     unfold Tj;cases o.dst with
     |none=>rfl
     |some d=>cases t1<;>rfl) hu ho h2
    refine⟨{ u' with rd:=(looks gX o).map σ.get },t3,⟨O',?_⟩,ho',h3⟩;unfold sy;rw[bk hi,hw,xW]
   .exact h1.elim
  .exact h.elim
 .exact h.elim
def alp{k:List (Oper×kO)->PS->Tr P K->R}{l:List Oper}{us:List (Oper×kO)}{t:Tr P K}(h:(Qc T gX k l us σ t).ok):
 ∃ vs τ t',xA P K T gX vs σ τ/\vs.map (·.1)=l/\(∀ x,x ∈ vs->∀ q,q ∈ x.2.jE->q)/\(k (vs.reverse++us) τ t').ok:=by
 induction l generalizing us σ t with
 |nil=>exact⟨[],σ,t,sX.refl σ,rfl,λx hx=>by simp at hx,h⟩
 |cons o l ih=>
  obtain⟨u,t1,h1,h2,h3⟩:=alc h;obtain⟨vs,τ,t',k1,k2,k3,k4⟩:=ih h3;refine⟨(o,u)::vs,τ,t',⟨h1,k1⟩,by simp[k2],λx hx=>?_,by simpa using k4⟩;rcases di.1 hx with hx|hx
  .subst hx;exact h2
  .exact k3 x hx
def PS.le.set{σ:PS}{d:Nat}{x:E}(hd:w9 σ (some d)=true)(h:PV.le (σ.get d) (.e x)):PS.le σ (σ.put (some d) (.e x)):=λw0 B a w L _ r=>by
 have CO:d<σ.n:=by simpa[w9,fY]using hd
 refine⟨L,r.hd,by rw[PS.PN];exact r.hs,λt=>?_,λid b hb=>r.hb id b hb,r.hv,r.hn,r.hw,r.hi,r.he,r.hl⟩;rw[PS.NH];by_cases e:d=t
 .subst e;rw[bk rfl];exact h _ _ _ _ _ (r.ht d)
 .rw [bj e];exact r.ht t
def DG{c:Bool}{t:Tr P K}{σ:PS}{k:Tr P K->PS->R}(h:(sS c t σ k).ok):∃ t' τ,PS.le σ τ/\(k t' τ).ok:=by
 induction t generalizing σ with
 |w p t1 t2 Hc Hd=>
  by_cases hp:p
  .exact Hc hp (h.1 hp)
  .exact Hd hp (h.2 hp)
 |k ts bs t ih=>
  simp only[sS]at h;split at h
  .exact ⟨_,σ,PS.le.refl σ,h⟩
  split at h
  .rename_i hr;obtain⟨t',τ,h1,h2⟩:=ih h;exact⟨t',τ,(PS.le.cut ts bs hr).trans h1,h2⟩
  .exact h.elim
 |v d h0 t ih=>
  simp only[sS]at h;split at h
  .rename_i x;split at h
   .rename_i hd;obtain⟨t',τ,h1,h2⟩:=ih h.2;exact⟨t',τ,(PS.le.set hd h.1).trans h1,h2⟩
   .exact h.elim
  .exact h.elim
 |z id t ih=>
  simp only[sS]at h;split at h
  .exact ⟨_,σ,PS.le.refl σ,h⟩
  split at h
  .rename_i b hb;split at h
   .rename_i e he;obtain⟨t',τ,h1,h2⟩:=ih h;exact⟨t',τ,(PS.le.freeze id hb he).trans h1,h2⟩
   .exact h.elim
  .exact h.elim
 |y s id nl T sz el t ih=>
  simp only[sS]at h;split at h
  .exact ⟨_,σ,PS.le.refl σ,h⟩
  split at h
  .rename_i hb hg;split at h
   .rename_i hn;obtain⟨t',τ,h1,h2⟩:=ih h;exact⟨t',τ,(PS.le.ab9 s id hb hg (λe=>by rw[e]at hn;simpa using hn)).trans h1,h2⟩
   .exact h.elim
  .exact h.elim
 |x hf=>exact hf.elim
 |_=>exact⟨_,σ,PS.le.refl σ,h⟩
def aoB{υ:PS}{l:List (Nat×PV)}{r:R}(h:(Rc υ l r).ok):yA υ l/\r.ok:=by
 induction l with
 |nil=>exact⟨trivial,h⟩
 |cons x l ih=>obtain⟨d,q⟩:=x;exact⟨⟨h.1,(ih h.2).1⟩,(ih h.2).2⟩
def acY{υ:PS}{l:List (Nat×Bx)}{r:R}(h:(Jq υ l r).ok):xx υ l/\r.ok:=by
 induction l with
 |nil=>exact⟨trivial,h⟩
 |cons x l ih=>
  obtain⟨d,q⟩:=x;simp only[Jq]at h;split at h
  .rename_i b hb;exact⟨⟨⟨b,hb,h.1⟩,(ih h.2).1⟩,(ih h.2).2⟩
  .exact h.elim
def aaW{υ σ:PS}{r:R}(h:(LX υ σ r).ok):PS.le υ σ/\r.ok:=by
 unfold LX at h;split at h
 .rename_i hc;simp only[bO,dI,gq]at hc;obtain⟨⟨h1,h2⟩,h3⟩:=hc;obtain⟨h4,h5⟩:=aoB h;obtain⟨h6,h7⟩:=acY h5;refine⟨?_,h7⟩;rcases h2 with h2|h2
  .exact PS.le.ajB (lg.1 h1) h2 h3 h4 h6
  .exact PS.le.pr (lg.1 h1) h2 h3 h4 h6
 .exact h.elim
def ang(hT:mL P T){w0:World}{B:Nat->Prop}{a:Act}{w:World}{L:Lk}(g:Gd P K w0 B){us:List (Oper×kO)}{τ:PS}{Q:Exit->Act->World->Prop}(h:xA P K T gX us σ τ)(ho:∀ x,x ∈ us->∀ q,q ∈ x.2.jE->q)
 (r:jd w0 B σ a w L) (hq:∀ a' w' L',jd w0 B τ a' w' L'->Q .normal a' w'):wpList P gX Q (us.map (·.1)) a w:=by
 induction us generalizing σ a w L with
 |nil=>exact hq a w L (r.qL h)
 |cons x us ih=>
  obtain⟨⟨O,h1⟩,h2⟩:=h;rw[ey];unfold wpList;rcases Un hT g r h1 (ho x aK) (wpList P gX Q (us.map (·.1))) Q (λa' w' L' hr=>ih h2 (λy hy=>ho y (by simp[hy])) hr)with⟨p1,p2⟩|⟨p1,p2⟩
  .rw [bk p1];exact .inl p2
  .rw [bj (by rw[p1];simp)];exact p2
def amG(hT:mL P T)(hm:P.follows .mixedOrders=true){w0:World}{B:Nat->Prop}{a:Act}{w:World}{L:Lk}(g:Gd P K w0 B){id:Nat}{draw:Bool}{us:List (Oper×kO)}{τ:PS}{Q:Exit->Act->World->Prop}
 (h:xA P K T gX us σ τ) (hl:us.map (·.1)=gX.toList) (ho:∀ x,x ∈ us->∀ q,q ∈ x.2.jE->q) (hp:(!draw||Fj gX 0 us)=true) (r:jd w0 B σ a w L)
 (hq:∀ a' w' L',jd w0 B τ a' w' L'->Q .normal a' w'):(Code.region id gX draw).wp P Q a w:=by
 cases draw with
 |false=>exact wp_region_list (by rw[<-hl];exact ang hT g h ho r hq)
 |true=>
  obtain⟨R,r1,r2,r3⟩:=ajH hl (by simpa using hp);refine wp_region_any hm (acd hT g hq gX.size (Array.replicate gX.size false) R σ a w.drew L r2 aK r3 (λx hx=>ho x.2 ?_) (by rw[r1];exact h) r.drew);rw[<-r1];exact dv.2 ⟨x,hx,rfl⟩
def aaM{c:Code}{t:Tr P K}{k:Ex->PS->Tr P K->R}(h:(LU c σ t k).ok):Sp P K c σ (λe τ=>∃ t',(k e τ t').ok):=by
 unfold LU at h;split at h
 .obtain ⟨h1,h2,h3⟩:=aaW h;exact Sp.pre h1 (h2.mono λe τ ⟨q1,q2⟩=>by subst q1 q2;exact⟨_,h3⟩)
 .exact h.elim
def Ex.ani{a b:Ex}(h:Ex.qL a b=true):a=b:=by
 cases a<;>cases b<;>first|rfl|(cases h;done)|exact congrArg Ex.exit (lg.1 h)
def Uh{e e':Ex}{τ υ:PS}{t:Tr P K}(h:(Gi e τ e' υ t).ok):e'=e/\PS.le υ τ:=by
 unfold Gi at h;split at h
 .rename_i he;exact⟨Ex.ani he,(aaW h).1⟩
 .exact h.elim
def Xd{c:Code}{cb:Nat}{g:PS->Tr P K->(Ex->PS->Tr P K->R)->R}(hg:∀ σ t k,(g σ t k).ok->Sp P K c σ (λe τ=>∃ t',(k e τ t').ok)){σ:PS}{t:Tr P K}{k:Ex->PS->Tr P K->R}(h:(jn cb g σ t k).ok):
 Sp P K c σ (λe τ=>∃ t',(k e τ t').ok):=by
 unfold jn at h;split at h
 .rename_i c' τ tj t;split at h
  .refine (hg _ _ _ h.1).post λe υ ⟨t',ht⟩=>?_
   obtain⟨he,hl⟩:=Uh ht;exact⟨τ,hl,t,by rw[he];exact h.2⟩
  .exact hg _ _ _ h
 .exact hg _ _ _ h
def tX(P:Program)(K:World->Prop)(b:Code)(σ:PS)(Q:Ex->PS->Prop):Prop:=
 ∀ (w0:World) (B:Nat->Prop) (a:Act) (w:World) (L:Lk),Gd P K w0 B->jd w0 B σ a w L->∀ bf k cs,
  ∃ e a' w',(∃ ex τ L',e=Ex.to ex/\Q ex τ/\jd w0 B τ a' w' L')/\Arrives P (lone (bf.at a (.code b :: .inLoop b::k)) cs w) bf k cs e a' w'
def tX.loop{b:Code}{σ:PS}{Q:Ex->PS->Prop}(h:tX P K b σ Q):Sp P K (.loop b) σ Q:=by
 intro w0 B a w L g r bf k cs;obtain⟨e,a',w',hq,uf⟩:=h w0 B a w L g r bf k cs;exact⟨e,a',w',hq,.of_steps (.one step_loop) uf⟩
def tX.pre{b:Code}{σ τ:PS}{Q:Ex->PS->Prop}(h:PS.le σ τ)(k:tX P K b τ Q):tX P K b σ Q:=λw0 B a w L g r=>
 let⟨L',r'⟩:=h w0 B a w L (λb hb=>(g.hB b hb).1) r;k w0 B a w L' g r'
def tX.step{b:Code}{σ:PS}{Q:Ex->PS->Prop}(h:Sp P K b σ (λe τ=>(e = .normal/\tX P K b τ Q)\/(e ≠ .normal/\Q e τ))):tX P K b σ Q:=by
 intro w0 B a w L g r bf k cs;obtain⟨e,a₁,w₁,⟨ex,υ,L2,rfl,hq,nY⟩,uf⟩:=h w0 B a w L g r bf (.inLoop b::k) cs;rcases hq with⟨rfl,hs⟩|⟨ju,hq⟩
 .obtain ⟨e₂,a₂,w₂,OJ,Ob⟩:=hs w0 B a₁ w₁ L2 g nY bf k cs;exact⟨e₂,a₂,w₂,OJ,.of_steps (Steps.trans uf (.one step_inLoop)) Ob⟩
 .cases ex with
  |normal=>exact absurd rfl ju
  |exit i=>exact⟨_,a₁,w₁,⟨.exit i,υ,L2,rfl,hq,nY⟩,.pass (x:=.inLoop b) rfl (λ_ _=>.inl (by simp[Ex.to])) uf⟩
  |ret=>exact⟨_,a₁,w₁,⟨.ret,υ,L2,rfl,hq,nY⟩,.pass (x:=.inLoop b) rfl (λ_ _=>.inl (by simp[Ex.to])) uf⟩
def Ns{id : Nat} : ∀ {k k' : List Item},exitTo id k=some k'->k'.length<=k.length
  | [],_,h => by simp[exitTo]at h
  |x::k,k',h => by
    cases x
    all_goals
      simp only[exitTo]at h
      first
        | (have := Ns h;simp only[cY];omega)
        | (split at h
           . cases h;simp
           . have := Ns h;simp only[cY];omega)
def Steps.ML{m m1 m':Machine}(hs:step P m = .next m1)(ju:m≠m')(h:Steps P m m'):Steps P m1 m':=by
 obtain⟨n,hn⟩:=h;cases n with
 |zero=>simp only[runN,Stepped.next.injEq]at hn;exact absurd hn ju
 |succ n=>exact⟨n,by simpa only[runN,hs]using hn⟩
def tX.ak5{b:Code}{σ:PS}{Q:Ex->PS->Prop}(h:Sp P K (.loop b) σ Q):tX P K b σ Q:=by
 intro w0 B a w L g r bf k cs;obtain⟨e,a',w',⟨ex,τ,L',rfl,hq,hr⟩,uf⟩:=h w0 B a w L g r bf k cs;have todo:∀ (f g:Frame) (w w':World),lone f cs w=lone g cs w'->f.todo=g.todo:=λf g w w' e=>by
  have e1:=congrArg Machine.gs e;simp only[lone,Array.mk.injEq,List.cons.injEq,fB]at e1;injection e1 with e2;rw[e2]
 have ne:∀ (a₁:Act) (k₁:List Item) (w₁:World),k₁.length<=k.length->lone (bf.at a (.code (.loop b)::k)) cs w≠lone (bf.at a₁ k₁) cs w₁:=λa₁ k₁ w₁ hk e=>by
  have:=congrArg List.length (todo _ _ _ _ e);simp[Frame.at]at this;omega
 refine⟨_,a',w',⟨ex,τ,L',rfl,hq,hr⟩,?_⟩;cases ex with
 |normal=>exact Steps.ML step_loop (ne _ _ _ (bu _)) uf
 |exit i=>exact λk' hk=>Steps.ML step_loop (ne _ _ _ (Ns hk)) (uf k' hk)
 |ret=>
  obtain⟨td,hs⟩:=uf;refine⟨td,Steps.ML step_loop (λe=>?_) hs⟩;have e1:=congrArg Machine.gs e;simp only[lone,Array.mk.injEq,List.cons.injEq,fB]at e1;injection e1 with e2;have e3:=congrArg Frame.mode e2;simp[Frame.at]at e3
def Nl(hT:mL P T)(hm:P.follows .mixedOrders=true){c:Code}{σ:PS}{t:Tr P K}{k:Ex->PS->Tr P K->R}(h:(wR T c σ t k).ok):Sp P K c σ (λe τ=>∃ t',(k e τ t').ok):=by
 induction c generalizing σ t k with
 |skip=>exact λw0 B a w L g r=>wp_skip ⟨.normal,_,L,rfl,⟨t,h⟩,r⟩
 |region id gX d=>
  obtain⟨vs,τ,t',h1,h2,h3,h4⟩:=alp h;split at h4
  .rename_i hp;simp only[fW,List.reverse_reverse]at hp;exact λw0 B a w L g r=>amG hT hm g h1 h2 h3 hp r λa' w' L' hr=>⟨.normal,τ,L',rfl,⟨t',h4⟩,hr⟩
  .exact h4.elim
 |seq x y O4 O5=>
  intro w0 B a w L g r;refine wp_seq (Code.wp_mono ?_ (O4 h w0 B a w L g r));rintro ex a' w' ⟨e1,τ1,L',rfl,⟨t',ht⟩,hr⟩;cases e1 with
  |normal=>exact O5 ht w0 B a' w' L' g hr
  |exit i=>exact⟨.exit i,τ1,L',rfl,⟨t',ht⟩,hr⟩
  |ret=>exact⟨.ret,τ1,L',rfl,⟨t',ht⟩,hr⟩
 |cond c x y O4 O5=>
  obtain⟨t1,τ,hle,h1⟩:=DG h;refine Sp.pre hle (Xd (λσ t k h=>?_) h1);obtain⟨t1,τ,hle,h1⟩:=DG h;refine Sp.pre hle ?_;split at h1
  .rename_i hc;intro w0 B a w L g r;have hv:=r.op c;rw[hc]at hv;exact wp_cond_true (iD.kJ hv) (O4 h1 w0 B a w L g r)
  .rename_i hc;intro w0 B a w L g r;have hv:=r.op c;rw[hc]at hv;exact wp_cond_false (iD.kJ hv) (O5 h1 w0 B a w L g r)
  .exact h1.elim
 |block id b ih=>
  obtain⟨t1,τ,hle,h1⟩:=DG h;refine Sp.pre hle (Xd (λσ t k h=>?_) h1);intro w0 B a w L g r;refine wp_block (Code.wp_mono ?_ (ih h w0 B a w L g r));rintro ex a' w' ⟨e1,τ1,L',rfl,⟨t',ht⟩,hr⟩;cases e1 with
  |normal=>exact⟨.normal,_,L',rfl,⟨t',ht⟩,hr⟩
  |ret=>exact⟨.ret,_,L',rfl,⟨t',ht⟩,hr⟩
  |exit i=>
   simp only at ht;show Exit.inBlock id _ (.exit i) a' w';split at ht
   .rename_i hi;have hi:=lg.1 hi;subst hi;simp only[Exit.inBlock,bJ];exact⟨.normal,_,L',rfl,⟨t',ht⟩,hr⟩
   .rename_i hi;have hi:i≠id:=λe=>hi (lg.2 e)
    simp only[Exit.inBlock,hi,bC];exact⟨.exit i,_,L',rfl,⟨t',ht⟩,hr⟩
 |label l=>exact λw0 B a w L g r=>wp_label ⟨.normal,_,L,rfl,⟨t,h⟩,r⟩
 |scope b ih=>
  intro w0 B a w L g r;refine wp_scope_straight (Code.wp_mono ?_ (ih h w0 B a w L g r));rintro ex a' w' ⟨e1,τ1,L',rfl,⟨t',ht⟩,hr⟩;cases e1 with
  |normal=>exact⟨.normal,τ1,L',rfl,⟨t',ht⟩,hr⟩
  |ret=>exact⟨.ret,τ1,L',rfl,⟨t',ht⟩,hr⟩
  |exit i=>exact⟨.exit i,τ1,L',rfl,⟨t',ht⟩,hr⟩
 |exit id=>
  obtain⟨t1,τ,hle,h1⟩:=DG h;exact Sp.pre hle λw0 B a w L g r=>wp_exit ⟨.exit id,_,L,rfl,⟨t1,h1⟩,r⟩
 |ret=>
  obtain⟨t1,τ,hle,h1⟩:=DG h;exact Sp.pre hle λw0 B a w L g r=>wp_ret ⟨.ret,_,L,rfl,⟨t1,h1⟩,r⟩
 |loop b ih=>
  obtain⟨t1,τ,hle,h1⟩:=DG h;refine Sp.pre hle ?_;split at h1
  .rename_i n t;clear hle h;refine tX.loop ?_
   induction n generalizing τ t with
   |zero=>exact h1.elim
   |succ n ihn=>
    obtain⟨t2,τ2,hle,h1⟩:=DG h1;split at h1
    .exact tX.pre hle (tX.ak5 (aaM h1))
    refine tX.pre hle (tX.step ((ih h1).mono λe υ ⟨t',ht⟩=>?_));cases e with
    |normal=>exact .inl ⟨rfl,ihn _ _ ht⟩
    |exit i=>exact .inr ⟨aK,t',ht⟩
    |ret=>exact .inr ⟨aK,t',ht⟩
  .exact aaM h1
 |_=>exact h.elim
def Sp.tr(hT:mL P T)(hm:P.follows .mixedOrders=true){c:Code}{σ τ:PS}{e:Ex}(t:Tr P K)(h:wR T c σ t (Gi e τ)=t.ex λt=>FC τ t .nil):
 Sp P K c σ (λe' τ'=>e'=e/\τ'=τ):=by
 have hk:=Tr.Nr (fin:=λt=>FC τ t .nil) (λt=>Q3 trivial) t;rw[<-h]at hk;refine(Nl hT hm hk).post λe' υ ⟨t',ht⟩=>?_
 obtain⟨he,hl⟩:=Uh ht;exact⟨τ,hl,he,rfl⟩
def UG(T:List TI)(fn:Func)(kf:E)(e:Ex)(τ:PS)(_:Tr P K):R:=match e with
 | .exit _=>.jl
 |_=>match LC T fn τ with
  |some r=>.a (E.le r kf) .nil
  |none=>.jl
def Qy(T:List TI)(fn:Func)(nl:Bool)(args:List E)(kf:E)(t:Tr P K):R:=match fn.body with
 |some c=>if Nat.ble args.length fn.ntmps then wR T c (BH fn nl args) t (UG T fn kf)else .jl
 |none=>.jl
def PC.Rj(hT:mL P T)(hm:P.follows .mixedOrders=true)(hp:∀ w w',K w->Below w.heap.size w w'->K w'){f:FuncId}{fn:Func}{args:List E}{kf:E}(xK:∀ (vs:Array Value) (w:World),(callFunc f vs).run P w = .ok (.enter f vs) w)
 (hf:P.funcs[f]? = some fn) (nl:Bool) (t:Tr P K) (h:Qy T fn nl args kf t=t.ex λ_=>.a (E.le kf kf) .nil):PC P K f args kf:=by
 have hk:=Tr.Nr (fin:=λ_=>.a (E.le kf kf) .nil) (λt=>⟨E.le.refl kf,trivial⟩) t;rw[<-h]at hk;unfold Qy at hk;split at hk
 .rename_i c hb;split at hk
  .rename_i hn;refine PC.PE hT hm hp xK hf hb (cP hn) nl ((Nl hT hm hk).mono λe τ ⟨t',ht⟩=>?_);unfold UG at ht;split at ht
   .exact ht.elim
   .rename_i ju;split at ht
    .rename_i r hr;refine⟨?_,r,hr,ht.1⟩;cases e with
     |normal=>exact .inr rfl
     |ret=>exact .inl rfl
     |exit i=>exact absurd rfl (ju i)
    .exact ht.elim
  .exact hk.elim
 .exact hk.elim
def UF(fn:Func)(b:Bx)(e:Ex)(τ:PS)(_:Tr P K):R:=match e with
 | .exit _=>.jl
 |_=>match fn.results.toList with
  | [.tmp t]=>match τ.get t with
   | .own id=>match τ.bo id with
    |some c=>.a (Bx.le c b) .nil
    |none=>.jl
   |_=>.jl
  |_=>.jl
def Qx(T:List TI)(fn:Func)(args:List E)(b:Bx)(t:Tr P K):R:=match fn.body with
 |some c=>if Nat.ble args.length fn.ntmps then wR T c (BH fn true args) t (UF fn b)else .jl
 |none=>.jl
def wL.Rj(hT:mL P T)(hm:P.follows .mixedOrders=true)(hp:∀ w w',K w->Below w.heap.size w w'->K w'){f:FuncId}{fn:Func}{args:List E}{nl:Bool}{T0:TypeId}{n sz:Nat}{el:Nat->Nat->E}(xK:∀ (vs:Array Value) (w:World),(callFunc f vs).run P w = .ok (.enter f vs) w)
 (hf:P.funcs[f]? = some fn) (t:Tr P K) (h:Qx T fn args (.row nl T0 n sz el) t=t.ex λ_=>.a (Bx.le (.row nl T0 n sz el) (.row nl T0 n sz el)) .nil):wL P K f args nl T0 n sz el:=by
 have hk:=Tr.Nr (fin:=λ_=>.a (Bx.le (.row nl T0 n sz el) (.row nl T0 n sz el)) .nil) (λt=>⟨Bx.le.refl _,trivial⟩) t;rw[<-h]at hk;unfold Qx at hk;split at hk
 .rename_i c hb;split at hk
  .rename_i hn;refine wL.PE hT hm hp xK hf hb (cP hn) true ((Nl hT hm hk).mono λe τ ⟨t',ht⟩=>?_);unfold UF at ht;split at ht
   .exact ht.elim
   .rename_i ju;split at ht
    .rename_i t0 hr;split at ht
     .rename_i id hg;split at ht
      .rename_i c' hc;refine⟨?_,t0,id,c',hr,hg,hc,λbs br L w hk=>ht.1.2 _ _ _ _ _ hk⟩;cases e with
       |normal=>exact .inr rfl
       |ret=>exact .inl rfl
       |exit i=>exact absurd rfl (ju i)
      .exact ht.elim
     .exact ht.elim
    .exact ht.elim
  .exact hk.elim
 .exact hk.elim
def Sp.jc{b:Code}{e:Ex}{τ:PS}(f:Nat->PS)(lo hi:Nat)(h0:lo<=hi)(go:∀ x,(lo<=x/\x<=hi)->x<hi->Sp P K b (f x) (λe' υ=>e' = .normal/\υ=f (x+1)))
 (out:(lo<=hi/\hi<=hi)->Sp P K b (f hi) (λe' υ=>e'=e/\υ=τ)) (he:e ≠ .normal):Sp P K (.loop b) (f lo) (λe' υ=>e'=e/\υ=τ):=by
 refine Sp.fam f (λx=>lo<=x/\x<=hi) (λx=>hi-x) (λx hx=>?_) lo ⟨bu _,h0⟩ (PS.le.refl _);rcases Nat.lt_or_eq_of_le hx.2 with iC|heq
 .exact Sp.agt (x+1) (go x hx iC) ⟨aE,aE⟩ aE (PS.le.refl _)
 .subst heq;exact Sp.agu (out hx) he (PS.le.refl _)
def iq(z:Int)(h:-9223372036854775808<=z/\z<=9223372036854775807):Tr P K->Tr P K:=.a (p:=ku .i64 z) h
def B8(z:Int)(h:0<=z/\z<=18446744073709551615):Tr P K->Tr P K:=.a (p:=ku .u64 z) h
def iX(z:Int)(n:Nat)(h:0<=z/\z<n):Tr P K->Tr P K:=.a h
def tB(d:Nat){a b:Bool}(h:a=b):Tr P K->Tr P K:=.o d (PV.le.bool h)
def ah(d:Nat)(a:Bool)(h:a=true):Tr P K->Tr P K:=tB d h
def ai(d:Nat)(a:Bool)(h:a=false):Tr P K->Tr P K:=tB d h
def tT(d:Nat)(p:Prop)[Decidable p](h:p):Tr P K->Tr P K:=.o d (PV.le.bool (bn h))
def tF(d:Nat)(p:Prop)[Decidable p](h:¬p):Tr P K->Tr P K:=.o d (PV.le.bool (bt h))
def rQ(p q:E)(h:p=q):Tr P K:=.r (E.le.iT h)
def rR(q:E){p:E}(h:E.le p q):Tr P K:=.r h
def ae(l:List (Tr P K->Tr P K))(t:Tr P K):Tr P K:=l.foldr (λf t=>f t) t
def af(l:List (Tr P K->Tr P K)):Tr P K:=ae l .nil
end
end Go.Proofs.YtgdahmmlddfimaaGreatDoor.Pu
namespace Go.Proofs.YtgdahmmlddfimaaGreatDoor
open Go.RowKit Fp Pu
def tr(nl:Bool){f:FuncId}{fn:Func}{args:List E}{kf:E}(xK:∀ (vs:Array Value) (w:World),(callFunc f vs).run prog w = .ok (.enter f vs) w)
 (hf:prog.funcs[f]? = some fn) (t:Tr prog Tb) (h:Qy TT fn nl args kf t=t.ex λ_=>.a (E.le kf kf) .nil):gV f args kf:=
 PC.Rj MB mixed RP xK hf nl t h
def ag(args:List E){f:FuncId}{ko:E}(h:gV f args ko):Tr prog Tb->Tr prog Tb:=.c h
def ak{f:FuncId}{fn:Func}{args:List E}{kf:E}(xK:∀ (vs:Array Value) (w:World),(callFunc f vs).run prog w = .ok (.enter f vs) w)
 (hf:prog.funcs[f]? = some fn) (t:Tr prog Tb) (h:Qy TT fn true args kf t=t.ex λ_=>.a (E.le kf kf) .nil:=by kernel_rfl):gV f args kf:=tr true xK hf t h
def an{f:FuncId}{fn:Func}{args:List E}{kf:E}(xK:∀ (vs:Array Value) (w:World),(callFunc f vs).run prog w = .ok (.enter f vs) w)
 (hf:prog.funcs[f]? = some fn) (t:Tr prog Tb) (h:Qy TT fn false args kf t=t.ex λ_=>.a (E.le kf kf) .nil:=by kernel_rfl):gV f args kf:=tr false xK hf t h
def iy{c:Code}{σ τ:PS}{e:Ex}(t:Tr prog Tb)(h:wR TT c σ t (Gi e τ)=t.ex λt=>FC τ t .nil):
 Sp prog Tb c σ (λe' τ'=>e'=e/\τ'=τ):=Sp.tr MB mixed t h
abbrev jb(k:Nat)(fn:Func)(σ:PS)(e:Ex)(τ:PS):Prop:=Sp prog Tb (.loop (adl k fn)) σ (λe' τ'=>e'=e/\τ'=τ)
end Go.Proofs.YtgdahmmlddfimaaGreatDoor
namespace Go.Proofs.YtgdahmmlddfimaaGreatDoor.Fp
section
variable {a b:Dy} {k:Int}
end
def aht{m gm p:Nat}{e ge K:Int}(hp:1<=p)(hg:ie gm<=p)(s5:-16384<=ge)(k1:K<=e)(k2:K<=ge)
 (h:gm*2^(ge-K).toNat<=m*2^(e-K).toNat):gm*2^(ge-K).toNat<=lF m e false p false*2^(e+jW m e p-K).toNat:=by
 have hq:lF m e false p false=m/2^jW m e p:=by unfold lF;simp
 rw[hq];have hm:=cN m (2^jW m e p);have hr:=bM m (bD (n:=jW m e p) (aG:0<2));obtain⟨k,hk⟩:∃ k,k=jW m e p:=⟨_,rfl⟩
 rw[<-hk]at hm hr ⊢;have e1:(e+(k:Int)-K).toNat=k+(e-K).toNat:= aE ;rw[e1,bB];generalize hE:2^(e-K).toNat=E at *
 have NO:0<E:=by rw[<-hE];exact bD aG 
 have hmE:m*E<(m/2^k+1)*(2^k*E):=by
  rw[<-bH];refine du ?_ NO;rw[b8,b9,bL];omega
 by_cases hc:e+k<=ge
 .
  have e2:(ge-K).toNat=(ge-(e+k)).toNat+(k+(e-K).toNat):= aE ;rw[e2,bB,bB 2 k,hE]at h ⊢;rw[<-bH]at h ⊢;generalize gm*2^(ge-(e+k)).toNat=g at *
  have:g<m/2^k+1:=by
   apply bT;intro h';have:=bW (2^k*E) (aE:m/2^k+1<=g);omega
  exact bW _ aE 
 .by_cases ot:k=0
  .subst ot;rw[cI,fe,b9];exact h
  .
   have hb:(ie m:Int)-p=k:=by unfold jW at hk;omega
   have yX:m≠0:=by intro h0;rw[h0]at hb;simp[ie]at hb;omega
   have h1:=rP yX;have h2:2^(ie m-1-k)<=m/2^k:=by
    rw[cW (bD aG),<-bB];exact bA (bR aG (by have:=ny yX;omega)) h1
   have h3:gm<2^p:=lY.1 hg;refine bA (bW _ (dt h3)) (bA ?_ (bW _ h2));rw[<-hE,<-bB,<-bB,<-bB];exact bR aG aE 
def Vl{m gm p:Nat}{e ge K:Int}(hp:1<=p)(hg:ie gm<=p)(s5:-16384<=ge)(k1:K<=e)(k2:K<=ge)
 (h:m*2^(e-K).toNat<=gm*2^(ge-K).toNat):lF m e false p true*2^(e+jW m e p-K).toNat<=gm*2^(ge-K).toNat:=by
 have Wf:lF m e false p false=m/2^jW m e p:=by unfold lF;simp
 have BC:lF m e false p true=m/2^jW m e p+if m%2^jW m e p≠0 then 1 else 0:=by unfold lF;simp
 have hm:=cN m (2^jW m e p);obtain⟨k,hk⟩:∃ k,k=jW m e p:=⟨_,rfl⟩
 rw[BC];rw[<-hk]at hm ⊢;have e1:(e+(k:Int)-K).toNat=k+(e-K).toNat:= aE ;rw[e1,bB];generalize hE:2^(e-K).toNat=E at *
 have NO:0<E:=by rw[<-hE];exact bD aG 
 by_cases hr:m%2^k=0
 .rw [bj aE,bY,<-bH];refine bA (gS ?_) h;congr 1;rw[bL];omega
 .rw [bk hr];have ot:k≠0:=by intro h0;rw[h0,cI,dQ]at hr;exact hr rfl
  have iC:m/2^k*(2^k*E)<gm*2^(ge-K).toNat:=by
   refine bV ?_ h;rw[<-bH];refine du ?_ NO;rw[bL];omega
  by_cases hc:e+k<=ge
  .have e2:(ge-K).toNat=(ge-(e+k)).toNat+(k+(e-K).toNat):= aE ;have e3:gm*2^(ge-K).toNat=gm*2^(ge-(e+k)).toNat*(2^k*E):=by rw[e2,bB,bB 2 k,hE,bH]
   rw[e3]at iC ⊢;generalize gm*2^(ge-(e+k)).toNat=g at *
   have:m/2^k<g:=aq2 iC;exact bW _ this
  .
   exfalso;have hb:(ie m:Int)-p=k:=by unfold jW at hk;omega
   have yX:m≠0:=by intro h0;rw[h0]at hr;simp at hr
   have h1:=rP yX;have pO:=ny yX;have h3:gm<2^p:=lY.1 hg;have h4:gm*2^(ge-K).toNat<=2^(ie m-1)*E:=by
    refine bA (bW _ (dt h3)) ?_;rw[<-hE,<-bB,<-bB];exact bR aG aE 
   have h5:2^(ie m-1-k)<=m/2^k:=by
    rw[cW (bD aG),<-bB];exact bA (bR aG aE) h1
   have h6:2^(ie m-1)*E<=m/2^k*(2^k*E):=by
    rw[<-bH];refine bW _ ?_;have:=bW (2^k) h5;rw[<-bB]at this;exact bA (bR aG aE) this
   omega
def P2(k:Int):Rat:=(2:Rat)^k
def mF(k:Int):0<P2 k:=Rat.zpow_pos aG 
def oP(a b:Int):P2 (a+b)=P2 a*P2 b:=Rat.zpow_add aG a b
def uK(n:Nat):P2 (n:Int)=((2^n:Nat):Rat):=by unfold P2;rw[Rat.zpow_natCast];simp
def Mx:P2 0=1:=by have:=uK 0;simpa using this
def FO{e k:Int}(h:k<=e):P2 e=((2^(e-k).toNat:Nat):Rat)*P2 k:=by
 rw[<-uK,<-oP];congr 1;omega
def tc{x y:Rat}(k:Int):x*P2 k<=y*P2 k↔x<=y:=
 ⟨λh=>fK h (mF k),λh=>ct h (bN (mF k))⟩
def wj{m n:Nat}{e f K:Int}(h1:K<=e)(h2:K<=f):(m:Rat)*P2 e<=(n:Rat)*P2 f↔m*2^(e-K).toNat<=n*2^(f-K).toNat:=by
 rw[FO h1,FO h2,<-eF,<-eF,tc,<-dg,<-dg,dF]
def Dy.q(d:Dy):Rat:=((d.num d.e:Int):Rat)*P2 d.e
def zj{d:Dy}{k:Int}(h:oO d k):d.q=((d.num k:Int):Rat)*P2 k:=by
 unfold Dy.q;rcases h with h|h
 .rw [xk h,xk h];simp
 .rw [Lc h (cE _),FO h,<-eF,Rat.intCast_mul,eh]
def oY(a b:Dy):iL a b<=0↔a.q<=b.q:=by
 obtain⟨k,ka,kb⟩:∃ k:Int,k<=a.e/\k<=b.e:=⟨min a.e b.e,aE,aE⟩
 rw[qJ (.inr ka) (.inr kb),zj (.inr ka),zj (.inr kb),tc,gr]
def alO(a b:Dy):iL a b<0↔a.q<b.q:=by
 have h:=oY b a;rw[Ba b a]at h;constructor
 .intro h1;apply ff.1;intro h2;have:=h.2 h2;omega
 .intro h1;apply bT;intro h2;exact ff.2 h1 (h.1 aE)
def Qn(a b:Dy):(iJ a b).q=a.q+b.q:=by
 obtain⟨k,ka,kb⟩:∃ k:Int,k<=a.e/\k<=b.e:=⟨min a.e b.e,aE,aE⟩
 rw[zj (I9 (.inr ka) (.inr kb)),zj (.inr ka),zj (.inr kb),LY (.inr ka) (.inr kb),Rat.intCast_add,Rat.add_mul]
def rM(a:Dy):(jf a).q = -a.q:=by
 rw[zj (I8 (.inr (cE a.e))),La,ado,apI];rfl
def qy(s:Bool)(m:Nat)(e:Int):(canon s m e).q=if s then -((m:Rat)*P2 e)else(m:Rat)*P2 e:=by
 rw[zj (AY (cE e)),DC (cE e)];have:(e-e).toNat=0:= aE ;rw[this];cases s<;>simp[ado,apI,eh]
def pv(a:Dy):a.q=if a.neg then -((a.m:Rat)*P2 a.e)else(a.m:Rat)*P2 a.e:=by
 unfold Dy.q Dy.num Dy.jO;have:(a.e-a.e).toNat=0:= aE ;rw[this];cases a.neg<;>simp[ado,apI,eh]
def Fm(a b:Dy):(yj a b).q=a.q*b.q:=by
 unfold yj;rw[qy,pv a,pv b,oP,dg];cases a.neg<;>cases b.neg<;>simp<;>grind
def uD:iA.q=0:=by rw[pv];simp[iA]
def alN{a b:Dy}(ha:a.nx)(hb:b.nx)(h:a.q=b.q):a=b:=by
 obtain⟨k,ka,kb⟩:∃ k:Int,k<=a.e/\k<=b.e:=⟨min a.e b.e,aE,aE⟩
 refine Ng ha hb (.inr ka) (.inr kb) ?_;rw[zj (.inr ka),zj (.inr kb)]at h;have h1:=(tc (x:=((a.num k:Int):Rat)) (y:=((b.num k:Int):Rat)) k).1 (by rw[h];exact cg);have h2:=(tc (x:=((b.num k:Int):Rat)) (y:=((a.num k:Int):Rat)) k).1 (by rw[h];exact cg);rw[gr]at h1 h2;omega
def BZ(n:Int):(ja n).q=(n:Rat):=by
 unfold ja;rw[zj (k:=0) (MC (cE 0)),PZ (cE 0),Mx];simp
def AD(d:Dy):0<=(kU d).q/\d.q<=(kU d).q /\ -d.q<=(kU d).q/\((kU d).q=d.q\/(kU d).q = -d.q):=by
 have h:(kU d).q=(d.m:Rat)*P2 d.e:=by rw[pv];rfl
 have h0:0<=(d.m:Rat)*P2 d.e:=b6 cV (bN (mF _));rw[h,pv d];cases d.neg<;>simp<;>grind
def sI(d:Dy):(0<d.iI↔0<d.q)/\(d.iI<0↔d.q<0):=by
 have h:=mF d.e;have hm:d.m≠0->0<(d.m:Rat)*P2 d.e:=λh0=>ej (gv.2 aE) h
 rw[pv];unfold Dy.iI;by_cases h0:d.m=0
 .simp [h0]
 .have:=hm h0;rw[bj h0];cases d.neg<;>simp<;>grind
def Iq(a b:Dy):a.q<=(iW a b).q/\b.q<=(iW a b).q/\((iW a b).q=a.q\/(iW a b).q=b.q):=
 ⟨(oY _ _).1 (E6 a b),(oY _ _).1 (XW a b),by unfold iW;split;exact .inr rfl;exact .inl rfl⟩
def DH(a b:Dy):(jj a b).q<=a.q/\(jj a b).q<=b.q/\((jj a b).q=a.q\/(jj a b).q=b.q):=
 ⟨(oY _ _).1 (Ht a b),(oY _ _).1 (XX a b),by unfold jj;split;exact .inr rfl;exact .inl rfl⟩
def GM(p:Nat)(g:Rat):Prop:=∃ (m:Nat) (e:Int),ie m<=p /\ -16384<=e/\(ie m:Int)+e<=16384/\g=(m:Rat)*P2 e
def G(p:Nat)(g:Rat):Prop:=GM p g\/GM p (-g)
def GM.Ic{p:Nat}{g:Rat}(h:GM p g):0<=g:=by
 obtain⟨m,e,_,_,_,rfl⟩:=h;exact b6 cV (bN (mF _))
def AU(p:Nat):GM p 0:=⟨0,0,by simp[rX],aE,by simp[rX],aK⟩
def G.neg{p:Nat}{g:Rat}(h:G p g):G p (-g):=by
 rcases h with h|h
 .exact .inr (by rw[fL];exact h)
 .exact .inl h
def G.pos{p:Nat}{g:Rat}(h:G p g)(h0:0<=g):GM p g:=by
 rcases h with h|h
 .exact h
 .have:=h.Ic;have:g=0:= aP ;rw[this];exact AU p
def SC(k:Nat):ie (2^k)=k+1:=yH (bu _) (gP aG aE)
def yI:ie 1=1:=SC 0
section
variable {m p:Nat} {e:Int}
def abl(hp:1<=p)(ic:p<=4096)(ho:mN m e false p false=true):
 GM p (((2^p-1:Nat):Rat)*P2 (16384-p))/\((2^p-1:Nat):Rat)*P2 (16384-p)<=(m:Rat)*P2 e/\∀ g,GM p g->g<=((2^p-1:Nat):Rat)*P2 (16384-p):=by
 have xS:2<=2^p:=by
  have:=bR (n:=2) aG hp;omega
 have hb:ie (2^p-1)=p:=by
  obtain⟨j,rfl⟩:∃ j,p=j+1:=⟨p-1,aE⟩
  have h2:2^(j+1)=2^j*2:=bI _ _;have h3:=bD (n:=j) (aG:0<2);exact yH aE aE 
 refine⟨⟨_,_,gS hb,aE,aE,rfl⟩,?_,?_⟩
 .obtain ⟨c1,c2⟩:=JJ m e p;unfold mN at ho;simp only[bO,cv]at ho;obtain⟨o1,o2⟩:=ho;have hq:=rP o1;have pO:=ny o1;obtain⟨K,k1,k2⟩:∃ K:Int,K<=e/\K<=16384-p:=⟨min e (16384-p),aE,aE⟩
  rw[wj k2 k1];have h1:2^(ie (lF m e false p false)-1)*2^jW m e p<=m:=bA (bW _ hq) c1;have h2:=bW (2^(e-K).toNat) h1;rw[<-bB,<-bB]at h2;refine bA (bW _ (dz _ _)) (bA ?_ h2);rw[<-bB];exact bR aG aE 
 .rintro g ⟨gm,ge,b1,b2,b3,rfl⟩;by_cases hc:ge<=16384-p
  .have:gm<2^p:=lY.1 b1;rw[wj (K:=ge) (cE _) hc];have e0:(ge-ge).toNat=0:= aE ;rw[e0,cI,ck];exact bA (aE:gm<=2^p-1) (gH _ (bD aG))
  .rw [wj (K:=16384-p) aE (cE _)];have e0:((16384:Int)-p-(16384-p)).toNat=0:= aE ;rw[e0,cI,ck];have h1:gm<2^(16384-ge).toNat:=by
    by_cases h0:gm=0
    .rw [h0];exact bD aG 
    .exact lY.1 aE 
   have h2:=du h1 (bD (n:=(ge-(16384-p)).toNat) (aG:0<2));by_cases hg:ge<=16384
   .rw [<-bB,show(16384-ge).toNat+(ge-(16384-(p:Int))).toNat=p by omega]at h2;omega
   .have:gm=0:=by
     rw[show(16384-ge).toNat=0 by omega]at h1;simpa using h1
    rw[this,cM];omega
def abk(hp:1<=p)(ho:¬mN m e false p false=true):
 GM p (((lF m e false p false:Nat):Rat)*P2 (e+jW m e p))/\((lF m e false p false:Nat):Rat)*P2 (e+jW m e p)<=(m:Rat)*P2 e /\
 ∀ g,GM p g->g<=(m:Rat)*P2 e->g<=((lF m e false p false:Nat):Rat)*P2 (e+jW m e p):=by
 obtain⟨c1,c2⟩:=JJ m e p;have hk:-16384<=e+(jW m e p:Int):=by unfold jW;omega
 refine⟨?_,?_,?_⟩
 .by_cases h0:lF m e false p false=0
  .rw [h0];simpa using AU p
  .have hq:lF m e false p false<2^p:=by
    have:=TN m e p;unfold lF;simpa using this
   unfold mN at ho;simp only[df,h0,eB,fI,dX,cv]at ho;exact⟨_,_,lY.2 hq,hk,aE,rfl⟩
 .rw [wj (K:=e) aE (cE _)];rw[show(e-e).toNat=0 by omega,show(e+(jW m e p:Int)-e).toNat=jW m e p by omega,cI,ck];exact c1
 .rintro g ⟨gm,ge,b1,b2,b3,rfl⟩ h;obtain⟨K,k1,k2⟩:∃ K:Int,K<=e/\K<=ge:=⟨min e ge,aE,aE⟩
  rw[wj k2 k1]at h;rw[wj (K:=K) k2 aE];exact aht hp b1 b2 k1 k2 h
def SZ(hp:1<=p)(ho:mN m e false p true=true)(g:Rat)(hg:GM p g):¬(m:Rat)*P2 e<=g:=by
 obtain⟨gm,ge,b1,b2,b3,rfl⟩:=hg;intro h;obtain⟨K,k1,k2⟩:∃ K:Int,K<=e/\K<=ge:=⟨min e ge,aE,aE⟩
 rw[wj k1 k2]at h;have h:=Vl hp b1 b2 k1 k2 h;unfold mN at ho;simp only[bO,cv]at ho;obtain⟨o1,o2⟩:=ho;have hq:=rP o1;have pO:=ny o1;have h3:gm<2^ie gm:=qw gm;have h4:=du h3 (bD (n:=(ge-K).toNat) (aG:0<2));have h5:=bW (2^(e+(jW m e p:Int)-K).toNat) hq;rw[<-bB]at h4 h5;have h6:2^(ie gm+(ge-K).toNat)<=2^(ie (lF m e false p true)-1+(e+(jW m e p:Int)-K).toNat):=bR aG aE;omega
def SY(hp:1<=p)(ho:¬mN m e false p true=true):
 GM p (((lF m e false p true:Nat):Rat)*P2 (e+jW m e p))/\(m:Rat)*P2 e<=((lF m e false p true:Nat):Rat)*P2 (e+jW m e p) /\
 ∀ g,GM p g->(m:Rat)*P2 e<=g->((lF m e false p true:Nat):Rat)*P2 (e+jW m e p)<=g:=by
 obtain⟨c1,c2⟩:=JJ m e p;have hk:-16384<=e+(jW m e p:Int):=by unfold jW;omega
 refine⟨?_,?_,?_⟩
 .by_cases h0:lF m e false p true=0
  .rw [h0];simpa using AU p
  .unfold mN at ho;simp only[df,h0,eB,fI,dX,cv]at ho;rcases Nat.lt_or_eq_of_le (M9 m e false p true)with hq|hq
   .exact ⟨_,_,lY.2 hq,hk,aE,rfl⟩
   .rw [hq]at ho ⊢;rw[SC]at ho;refine⟨1,p+(e+jW m e p),by rw[yI];exact hp,aE,by rw[yI];omega,?_⟩;rw[oP (p:Int),uK p,show((1:Nat):Rat)=1 from rfl,fM]
 .rw [wj (K:=e) (cE _) aE];rw[show(e-e).toNat=0 by omega,show(e+(jW m e p:Int)-e).toNat=jW m e p by omega,cI,ck];exact c2
 .rintro g ⟨gm,ge,b1,b2,b3,rfl⟩ h;obtain⟨K,k1,k2⟩:∃ K:Int,K<=e/\K<=ge:=⟨min e ge,aE,aE⟩
  rw[wj k1 k2]at h;rw[wj (K:=K) aE k2];exact Vl hp b1 b2 k1 k2 h
end
def Dn(p:Nat)(v:Rat)(D:Dy)(E:Int):Prop:=(E=0->G p D.q/\D.q<=v)/\∀ g,G p g->g<=v->E=0/\g<=D.q
def Up(p:Nat)(v:Rat)(D:Dy)(E:Int):Prop:=(E=0->G p D.q/\v<=D.q)/\∀ g,G p g->v<=g->E=0/\D.q<=g
def Dn.of{p:Nat}{v w:Rat}{D:Dy}{E:Int}(h:Dn p v D E)(k:∀ g,G p g->(g<=v↔g<=w)):Dn p w D E:=
 ⟨λe=>⟨(h.1 e).1,(k _ (h.1 e).1).1 (h.1 e).2⟩,λg hg hw=>h.2 g hg ((k g hg).2 hw)⟩
def Up.of{p:Nat}{v w:Rat}{D:Dy}{E:Int}(h:Up p v D E)(k:∀ g,G p g->(v<=g↔w<=g)):Up p w D E:=
 ⟨λe=>⟨(h.1 e).1,(k _ (h.1 e).1).1 (h.1 e).2⟩,λg hg hw=>h.2 g hg ((k g hg).2 hw)⟩
def F7(neg:Bool)(m:Nat)(e:Int){p:Nat}(hp:1<=p)(ic:p<=4096):Dn p (canon neg m e).q (kn neg m e false p false) (jY neg m e false p false):=by
 have hv:0<=(m:Rat)*P2 e:=b6 cV (bN (mF _));rw[qy];cases neg
 .
  have hE:jY false m e false p false=0:=by unfold jY;simp
  rw[hE];unfold kn;simp only[bne_self_eq_false,bK,bC];by_cases ho:mN m e false p false=true
  .obtain ⟨t1,t2,t3⟩:=abl hp ic ho;rw[bk ho];(first|unfold Dn|unfold Up);rw[qy];simp only[bK,bC];refine⟨λ_=>⟨.inl t1,t2⟩,λg hg hle=>⟨trivial,?_⟩⟩;by_cases h0:0<=g
   .exact t3 g (hg.pos h0)
   .have:=t1.Ic;grind
  .obtain ⟨t1,t2,t3⟩:=abk hp ho;rw[bj ho];(first|unfold Dn|unfold Up);rw[qy];simp only[bK,bC];refine⟨λ_=>⟨.inl t1,t2⟩,λg hg hle=>⟨trivial,?_⟩⟩;by_cases h0:0<=g
   .exact t3 g (hg.pos h0) hle
   .have:=t1.Ic;grind
 .unfold kn jY;simp only[Bool.bne_false,Bool.and_true,bJ];by_cases ho:mN m e false p true=true
  .rw [bk ho,bk ho];refine⟨λh=>by simp at h,λg hg hle=>?_⟩;exact absurd (show(m:Rat)*P2 e <= -g by grind) (SZ hp ho _ (hg.neg.pos aP))
  .obtain ⟨t1,t2,t3⟩:=SY hp ho;rw[bj ho,bj ho];(first|unfold Dn|unfold Up);rw[qy];simp only[bJ];refine⟨λ_=>⟨.inr (by rw[fL];exact t1),aP⟩,λg hg hle=>⟨trivial,?_⟩⟩;have:=t3 (-g) (hg.neg.pos aP) aP 
   grind
def F8(neg:Bool)(m:Nat)(e:Int){p:Nat}(hp:1<=p)(ic:p<=4096):Up p (canon neg m e).q (kn neg m e false p true) (jY neg m e false p true):=by
 have hv:0<=(m:Rat)*P2 e:=b6 cV (bN (mF _));rw[qy];cases neg
 .unfold kn jY;simp only[Bool.bne_true,ew,Bool.and_true,bJ,bK,bC];by_cases ho:mN m e false p true=true
  .rw [bk ho,bk ho];refine⟨λh=>by simp at h,λg hg hle=>?_⟩;exact absurd hle (SZ hp ho _ (hg.pos aP))
  .obtain ⟨t1,t2,t3⟩:=SY hp ho;rw[bj ho,bj ho];(first|unfold Dn|unfold Up);rw[qy];simp only[bK,bC];exact⟨λ_=>⟨.inl t1,t2⟩,λg hg hle=>⟨trivial,t3 g (hg.pos aP) hle⟩⟩
 .have hE:jY true m e false p true=0:=by unfold jY;simp
  rw[hE];unfold kn;simp only[bne_self_eq_false,bK,bC,bJ];by_cases ho:mN m e false p false=true
  .obtain ⟨t1,t2,t3⟩:=abl hp ic ho;rw[bk ho];(first|unfold Dn|unfold Up);rw[qy];simp only[bJ];refine⟨λ_=>⟨.inr (by rw[fL];exact t1),aP⟩,λg hg hle=>⟨trivial,?_⟩⟩;by_cases h0:0 <= -g
   .have:=t3 (-g) (hg.neg.pos h0);grind
   .have:=t1.Ic;grind
  .obtain ⟨t1,t2,t3⟩:=abk hp ho;rw[bj ho];(first|unfold Dn|unfold Up);rw[qy];simp only[bJ];refine⟨λ_=>⟨.inr (by rw[fL];exact t1),aP⟩,λg hg hle=>⟨trivial,?_⟩⟩;by_cases h0:0 <= -g
   .have:=t3 (-g) (hg.neg.pos h0) aP;grind
   .have:=t1.Ic;grind
def yp{d:Dy}(hd:d.nx){p:Nat}(hp:1<=p)(ic:p<=4096):Dn p d.q (kp d p false) (j8 d p false):=by
 have:=F7 d.neg d.m d.e hp ic;rwa[hd.Cv]at this
def yr{d:Dy}(hd:d.nx){p:Nat}(hp:1<=p)(ic:p<=4096):Up p d.q (kp d p true) (j8 d p true):=by
 have:=F8 d.neg d.m d.e hp ic;rwa[hd.Cv]at this
def NF{N p:Nat}{e:Int}(hb:p<ie N){g:Rat}(hg:GM p g):g<=(N:Rat)*P2 e\/((N+1:Nat):Rat)*P2 e<=g:=by
 obtain⟨gm,ge,b1,b2,b3,rfl⟩:=hg;by_cases hc:e<=ge
 .rw [wj (K:=e) hc (cE _),wj (K:=e) (cE _) hc,show(e-e).toNat=0 by omega];omega
 .left;rw[wj (K:=ge) (cE _) aE,show(ge-ge).toNat=0 by omega,cI,ck];have h1:gm<2^p:=lY.1 b1;have h2:2^p<=N:=xg.1 hb;exact bA (dt (bV h1 h2)) (gH _ (bD aG))
def SB{N p:Nat}{e:Int}(hb:p<ie N){x y:Rat}(x1:(N:Rat)*P2 e<x)(x2:x<((N+1:Nat):Rat)*P2 e)(y1:(N:Rat)*P2 e<y)(y2:y<((N+1:Nat):Rat)*P2 e){g:Rat}(hg:G p g):
 (g<=x↔g<=y)/\(x<=g↔y<=g)/\(g <= -x↔g <= -y)/\(-x<=g ↔ -y<=g):=by
 have hv:0<=(N:Rat)*P2 e:=b6 cV (bN (mF _));have hG:∀ g,G p g->g<=(N:Rat)*P2 e\/((N+1:Nat):Rat)*P2 e<=g:=by
  intro g hg;by_cases h0:0<=g
  .exact NF hb (hg.pos h0)
  .left;grind
 have h1:=hG g hg;have h2:=hG (-g) hg.neg;generalize (N:Rat)*P2 e=A at *
 generalize ((N+1:Nat):Rat)*P2 e=B at *
 refine⟨?_,?_,?_,?_⟩<;>constructor<;>intro h<;>grind
def Ek{N p:Nat}(E:Int)(hb:p<ie N)(neg up:Bool):kn neg N E true p up=kn neg (2*N+1) (E-1) false p up/\jY neg N E true p up=jY neg (2*N+1) (E-1) false p up:=by
 have h1:(2*N+1)/2^1=N:= aE ;have h:=JI (N:=2*N+1) (E:=E-1) (more:=false) (d:=1) (p:=p) neg up (by rw[h1];exact hb);have h2:decide ((2*N+1)%2^1≠0)=true:= aK ;rw[h1,h2,(aE:E-1+((1:Nat):Int)=E)]at h;exact h
def TM{a b:Dy}(b0:b.m≠0){p:Nat}(hp:1<=p)(ic:p<=4096):Dn p (a.q/b.q) (pA a b p false) (rz a b p false)/\Up p (a.q/b.q) (pA a b p true) (rz a b p true):=by
 by_cases a0:a.m=0
 .have hq:a.q=0:=by rw[pv,a0];simp
  have h0:(0:Rat)/b.q=0:=by rw[cX,Rat.zero_mul]
  unfold pA rz;rw[hq,h0,bk a0,bk a0,bk a0,bk a0];have hz:G p 0:=.inl (AU p);exact⟨⟨λ_=>⟨by rw[uD];exact hz,by rw[uD];exact cg⟩,λg _ h=>⟨rfl,by rw[uD];exact h⟩⟩,⟨λ_=>⟨by rw[uD];exact hz,by rw[uD];exact cg⟩,λg _ h=>⟨rfl,by rw[uD];exact h⟩⟩⟩
 .have hb:=Nb a0 b0 p 2 aG ;unfold pA rz;rw[bj a0,bj a0,bj a0,bj a0];generalize hk:lI a b p 2=k at *
  generalize hs:(a.neg != b.neg)=s;generalize hE:a.e-b.e-(k:Int)=E0;have hB:(0:Rat)<(b.m:Rat):=gv.2 aE;have Vw:=mF b.e;have hP:=mF E0;obtain⟨w,hw⟩:∃ w:Rat,w=(a.m:Rat)*P2 a.e/((b.m:Rat)*P2 b.e):=⟨_,rfl⟩
  have Ww:w*((b.m:Rat)*P2 b.e)=(a.m:Rat)*P2 a.e:=by
   have:(b.m:Rat)*P2 b.e≠0:=by have:=ej hB Vw;grind
   rw[hw];exact dM this
  have jQ:a.q/b.q=if s then -w else w:=by
   have vQ:b.q≠0:=by
    have:=ej hB Vw;rw[pv b];cases b.neg<;>simp<;>grind
   have hq:(if s then -w else w)*b.q=a.q:=by
    rw[pv a,pv b,<-hs,<-Ww];cases a.neg<;>cases b.neg<;>simp<;>grind
   rw[<-hq,aqO vQ]
  have Og:=cN (a.m*2^k) b.m;have hr:=bM (a.m*2^k) (aE:0<b.m);generalize hN:a.m*2^k/b.m=N at *
  generalize hR:a.m*2^k%b.m=R at *
  have ahV:(b.m:Rat)*(N:Rat)+(R:Rat)=(a.m:Rat)*((2^k:Nat):Rat):=by rw[<-dg,<-dg,<-ek,Og]
  have hae:P2 a.e=((2^k:Nat):Rat)*P2 b.e*P2 E0:=by rw[<-uK,<-oP,<-oP];congr 1;omega
  have KJ:w*(b.m:Rat)=((b.m:Rat)*(N:Rat)+(R:Rat))*P2 E0:=by
   have:w*(b.m:Rat)*P2 b.e=((b.m:Rat)*(N:Rat)+(R:Rat))*P2 E0*P2 b.e:=by
    rw[ahV,eF,Ww,hae];grind
   have ju:P2 b.e≠0:= aP ;have h2:=congrArg (· / P2 b.e) this;simp only[aqO ju]at h2;exact h2
  by_cases h0:R=0
  .have OV:w=(N:Rat)*P2 E0:=by
    rw[h0]at KJ;have ju:(b.m:Rat)≠0:= aP ;have h2:w*(b.m:Rat)=((N:Rat)*P2 E0)*(b.m:Rat):=by rw[KJ];simp;grind
    have h3:=congrArg (· / (b.m:Rat)) h2;simp only[aqO ju]at h3;exact h3
   have hc:a.q/b.q=(canon s N E0).q:=by rw[jQ,qy,OV]
   rw[hc,bt (by simpa using h0)];exact⟨F7 _ _ _ hp ic,F8 _ _ _ hp ic⟩
  .have wX:(0:Rat)<(R:Rat):=gv.2 aE ;have hRb:(R:Rat)<(b.m:Rat):=Rat.natCast_lt_natCast.2 hr;have w1:(N:Rat)*P2 E0<w:=by
    apply aq3 (c:=(b.m:Rat)) _ (bN hB);rw[KJ];have:=ej wX hP
    grind
   have w2:w<((N+1:Nat):Rat)*P2 E0:=by
    apply aq3 (c:=(b.m:Rat)) _ (bN hB);rw[KJ,ek];have:=ej (show(0:Rat)<(b.m:Rat)-(R:Rat)by grind) hP;simp
    grind
   have hh:P2 E0=2*P2 (E0-1):=by
    rw[FO (aE:E0-1<=E0),show(E0-(E0-1)).toNat=1 by omega];simp
   have v1:(N:Rat)*P2 E0<((2*N+1:Nat):Rat)*P2 (E0-1):=by
    have:=mF (E0-1);rw[hh,ek,dg];simp;grind
   have v2:((2*N+1:Nat):Rat)*P2 (E0-1)<((N+1:Nat):Rat)*P2 E0:=by
    have:=mF (E0-1);rw[hh,ek,dg,ek];simp;grind
   rw[bn (by simpa using h0),(Ek E0 hb s false).1,(Ek E0 hb s false).2,(Ek E0 hb s true).1,(Ek E0 hb s true).2,jQ];have A:=F7 s (2*N+1) (E0-1) hp ic;have B:=F8 s (2*N+1) (E0-1) hp ic;rw[qy]at A B;refine⟨A.of λg hg=>?_,B.of λg hg=>?_⟩
   .obtain ⟨k1,k2,k3,k4⟩:=SB hb v1 v2 w1 w2 hg;cases s
    .exact k1
    .exact k3
   .obtain ⟨k1,k2,k3,k4⟩:=SB hb v1 v2 w1 w2 hg;cases s
    .exact k2
    .exact k4
def Iv.jZ(x:Iv)(r:Rat):Prop:=x.all=true\/(x.lo.q<=r/\r<=x.hi.q)
def Sub(x y:Iv):Prop:=y.all=true\/(x.all=false/\y.lo.q<=x.lo.q/\x.hi.q<=y.hi.q)
def Sub.jZ{x y:Iv}(h:Sub x y){r:Rat}(k:x.jZ r):y.jZ r:=by
 rcases h with h|⟨h1,h2,h3⟩
 .exact .inl h
 .rcases k with k|⟨k1,k2⟩
  .rw [h1]at k;cases k
  .exact .inr ⟨aP,aP⟩
def Sub.xZ{x y:Iv}(h:Sub x y)(k:y.all=false):x.all=false/\y.lo.q<=x.lo.q/\x.hi.q<=y.hi.q:=by
 rcases h with h|h
 .rw [h]at k;cases k
 .exact h
def Iv.ib.q{x:Iv}(h:x.ib):x.lo.q<=x.hi.q:=by
 rcases h with⟨_,h2,h3⟩|⟨_,_,_,h⟩
 .rw [h2,h3];exact cg
 .exact (oY _ _).1 h
def Iv.ib.zT{x:Iv}(h:x.ib):x.lo.nx/\x.hi.nx:=by
 rcases h with⟨_,h2,h3⟩|⟨_,h2,h3,_⟩
 .rw [h2,h3];exact⟨su.canon,su.canon⟩
 .exact ⟨h2.canon,h3.canon⟩
def Iv.ib.Bq{x:Iv}(h:x.ib):x.jZ x.lo.q:=.inr ⟨cg,h.q⟩
def Iv.ib.Ey{x:Iv}(h:x.ib):x.jZ x.hi.q:=.inr ⟨h.q,cg⟩
structure FM(p:Nat)(S:Rat->Prop)(X:Iv):Prop where
 jZ:∀ r,S r->X.jZ r
 on:X.all=false->G p X.lo.q/\G p X.hi.q
 y5:∀ L U,G p L->G p U->(∀ r,S r->L<=r/\r<=U)->X.all=false/\L<=X.lo.q/\X.hi.q<=U
def ME{x y:Iv}(hx:x.ib)(hy:y.ib)(xa:x.all=false)(ya:y.all=false){p:Nat}(hp:1<=p)(ic:p<=4096):
 FM p (λr=>∃ a b,x.jZ a/\y.jZ b/\r=a+b) (jS x y p):=by
 have A:=yp (Cw hx.zT.1 hy.zT.1) hp ic;have B:=yr (Cw hx.zT.2 hy.zT.2) hp ic;rw[Qn]at A B;unfold jS mj;rw[xa,ya];simp only[gU,bK,bC];have jZ:∀ r,(∃ a b,x.jZ a/\y.jZ b/\r=a+b)->x.lo.q+y.lo.q<=r/\r<=x.hi.q+y.hi.q:=by
  rintro r ⟨a,b,ha,hb,rfl⟩;rcases ha with ha|ha
  .rw [xa]at ha;cases ha
  .rcases hb with hb|hb
   .rw [ya]at hb;cases hb
   .grind
 have y5:∀ L U,G p L->G p U->(∀ r,(∃ a b,x.jZ a/\y.jZ b/\r=a+b)->L<=r/\r<=U) ->
  (j8 (iJ x.lo y.lo) p false=0/\L<=(kp (iJ x.lo y.lo) p false).q)/\j8 (iJ x.hi y.hi) p true=0/\(kp (iJ x.hi y.hi) p true).q<=U:=λL U hL hU h=>
  ⟨A.2 L hL (h _ ⟨_,_,hx.Bq,hy.Bq,rfl⟩).1,B.2 U hU (h _ ⟨_,_,hx.Ey,hy.Ey,rfl⟩).2⟩
 split
 .rename_i he;refine⟨λ_ _=>.inl rfl,λh=>absurd h aG,λL U hL hU h=>?_⟩;obtain⟨⟨e1,_⟩,e2,_⟩:=y5 L U hL hU h;rcases he with he|he
  .exact absurd e1 he
  .exact absurd e2 he
 .rename_i he;obtain⟨a1,a2⟩:=A.1 aE;obtain⟨b1,b2⟩:=B.1 aE;refine⟨λr hr=>.inr ?_,λ_=>⟨a1,b1⟩,λL U hL hU h=>?_⟩
  .obtain ⟨h1,h2⟩:=jZ r hr;exact⟨bQ a2 h1,bQ h2 b2⟩
  .obtain ⟨⟨_,e1⟩,_,e2⟩:=y5 L U hL hU h;exact⟨rfl,e1,e2⟩
def Jd{x y:Iv}(p:Nat)(h:x.all=true\/y.all=true):jS x y p=gY:=by
 unfold jS;rw[bk (by rcases h with h|h<;>rw[h]<;>simp)]
def Ck{x y:Iv}(hx:x.ib)(hy:y.ib){p:Nat}(hp:1<=p)(ic:p<=4096){a b:Rat}(ha:x.jZ a)(hb:y.jZ b):(jS x y p).jZ (a+b):=by
 cases xa:x.all
 .cases ya:y.all
  .exact (ME hx hy xa ya hp ic).jZ _ ⟨a,b,ha,hb,rfl⟩
  .rw [Jd p (.inr ya)];exact .inl rfl
 .rw [Jd p (.inl xa)];exact .inl rfl
def U8{p:Nat}{D:Dy->Dy->Bool->Dy}{E:Dy->Dy->Bool->Int}{f:Rat->Rat->Rat}{x y:Iv}{S:Rat->Prop}
 (hD:∀ a b,(a=x.lo\/a=x.hi)->(b=y.lo\/b=y.hi)->Dn p (f a.q b.q) (D a b false) (E a b false)/\Up p (f a.q b.q) (D a b true) (E a b true)/\S (f a.q b.q))
 (hS:∀ r,S r->(f x.lo.q y.lo.q<=r\/f x.lo.q y.hi.q<=r\/f x.hi.q y.lo.q<=r\/f x.hi.q y.hi.q<=r)/\(r<=f x.lo.q y.lo.q\/r<=f x.lo.q y.hi.q\/r<=f x.hi.q y.lo.q\/r<=f x.hi.q y.hi.q)):
 FM p S (pB D E x y):=by
 obtain⟨a1,a2,a3⟩:=hD x.lo y.lo (.inl rfl) (.inl rfl);obtain⟨b1,b2,b3⟩:=hD x.lo y.hi (.inl rfl) (.inr rfl);obtain⟨c1,c2,c3⟩:=hD x.hi y.lo (.inr rfl) (.inl rfl);obtain⟨d1,d2,d3⟩:=hD x.hi y.hi (.inr rfl) (.inr rfl);have y5:∀ L U,G p L->G p U->(∀ r,S r->L<=r/\r<=U) ->
  ((E x.lo y.lo false=0/\L<=(D x.lo y.lo false).q)/\E x.lo y.lo true=0/\(D x.lo y.lo true).q<=U)/\((E x.lo y.hi false=0/\L<=(D x.lo y.hi false).q)/\E x.lo y.hi true=0/\(D x.lo y.hi true).q<=U) /\
  ((E x.hi y.lo false=0/\L<=(D x.hi y.lo false).q)/\E x.hi y.lo true=0/\(D x.hi y.lo true).q<=U)/\((E x.hi y.hi false=0/\L<=(D x.hi y.hi false).q)/\E x.hi y.hi true=0/\(D x.hi y.hi true).q<=U):=λL U hL hU h=>
  ⟨⟨a1.2 L hL (h _ a3).1,a2.2 U hU (h _ a3).2⟩,⟨b1.2 L hL (h _ b3).1,b2.2 U hU (h _ b3).2⟩,⟨c1.2 L hL (h _ c3).1,c2.2 U hU (h _ c3).2⟩,⟨d1.2 L hL (h _ d3).1,d2.2 U hU (h _ d3).2⟩⟩
 unfold pB;split
 .rename_i he;obtain⟨⟨e1,e2⟩,⟨e3,e4⟩,⟨e5,e6⟩,⟨e7,e8⟩⟩:=he;obtain⟨ga,la⟩:=a1.1 e1;obtain⟨gA,lA⟩:=a2.1 e2;obtain⟨gb,lb⟩:=b1.1 e3;obtain⟨gB,lB⟩:=b2.1 e4;obtain⟨gc,lc⟩:=c1.1 e5;obtain⟨gC,lC⟩:=c2.1 e6;obtain⟨gd,ld⟩:=d1.1 e7;obtain⟨gD,lD⟩:=d2.1 e8;obtain⟨m1,m2,m3⟩:=DH (D x.lo y.lo false) (D x.lo y.hi false);obtain⟨m4,m5,m6⟩:=DH (jj (D x.lo y.lo false) (D x.lo y.hi false)) (D x.hi y.lo false);obtain⟨m7,m8,m9⟩:=DH (jj (jj (D x.lo y.lo false) (D x.lo y.hi false)) (D x.hi y.lo false)) (D x.hi y.hi false);obtain⟨n1,n2,n3⟩:=Iq (D x.lo y.lo true) (D x.lo y.hi true);obtain⟨n4,n5,n6⟩:=Iq (iW (D x.lo y.lo true) (D x.lo y.hi true)) (D x.hi y.lo true);obtain⟨n7,n8,n9⟩:=Iq (iW (iW (D x.lo y.lo true) (D x.lo y.hi true)) (D x.hi y.lo true)) (D x.hi y.hi true);generalize (jj (D x.lo y.lo false) (D x.lo y.hi false))=u1 at *
  generalize (jj u1 (D x.hi y.lo false))=u2 at *
  generalize (jj u2 (D x.hi y.hi false))=u3 at *
  generalize (iW (D x.lo y.lo true) (D x.lo y.hi true))=v1 at *
  generalize (iW v1 (D x.hi y.lo true))=v2 at *
  generalize (iW v2 (D x.hi y.hi true))=v3 at *
  refine⟨λr hr=>.inr ?_,λ_=>⟨?_,?_⟩,λL U hL hU h=>⟨rfl,?_,?_⟩⟩
  .obtain ⟨h1,h2⟩:=hS r hr;constructor
   .show u3.q<=r;rcases h1 with h1|h1|h1|h1<;>grind
   .show r<=v3.q;rcases h2 with h1|h1|h1|h1<;>grind
  .show G p u3.q;rcases m9 with h|h
   .rw [h];rcases m6 with h|h
    .rw [h];rcases m3 with h|h<;>rw[h]<;>assumption
    .rw [h];assumption
   .rw [h];assumption
  .show G p v3.q;rcases n9 with h|h
   .rw [h];rcases n6 with h|h
    .rw [h];rcases n3 with h|h<;>rw[h]<;>assumption
    .rw [h];assumption
   .rw [h];assumption
  .obtain ⟨⟨⟨_,k1⟩,_,k2⟩,⟨⟨_,k3⟩,_,k4⟩,⟨⟨_,k5⟩,_,k6⟩,⟨⟨_,k7⟩,_,k8⟩⟩:=y5 L U hL hU h;show L<=u3.q;rcases m9 with h|h
   .rw [h];rcases m6 with h|h
    .rw [h];rcases m3 with h|h<;>rw[h]<;>assumption
    .rw [h];assumption
   .rw [h];assumption
  .obtain ⟨⟨⟨_,k1⟩,_,k2⟩,⟨⟨_,k3⟩,_,k4⟩,⟨⟨_,k5⟩,_,k6⟩,⟨⟨_,k7⟩,_,k8⟩⟩:=y5 L U hL hU h;show v3.q<=U;rcases n9 with h|h
   .rw [h];rcases n6 with h|h
    .rw [h];rcases n3 with h|h<;>rw[h]<;>assumption
    .rw [h];assumption
   .rw [h];assumption
 .rename_i he;refine⟨λ_ _=>.inl rfl,λh=>absurd h aG,λL U hL hU h=>?_⟩;obtain⟨⟨⟨k1,_⟩,k2,_⟩,⟨⟨k3,_⟩,k4,_⟩,⟨⟨k5,_⟩,k6,_⟩,⟨⟨k7,_⟩,k8,_⟩⟩:=y5 L U hL hU h;exact absurd ⟨⟨k1,k2⟩,⟨k3,k4⟩,⟨k5,k6⟩,k7,k8⟩ he
def Ty{a b c d x y:Rat}(h1:a<=x)(h2:x<=b)(h3:c<=y)(h4:y<=d):
 (a*c<=x*y\/a*d<=x*y\/b*c<=x*y\/b*d<=x*y)/\(x*y<=a*c\/x*y<=a*d\/x*y<=b*c\/x*y<=b*d):=by
 have mono:∀ {u v w:Rat},u<=v->0<=w->u*w<=v*w:=λh k=>ct h k
 have anti:∀ {u v w:Rat},u<=v->w<=0->v*w<=u*w:=by
  intro u v w h k;have:=mono h (show 0 <= -w by grind)
  grind
 have side:∀ t:Rat,(t*c<=t*y\/t*d<=t*y)/\(t*y<=t*c\/t*y<=t*d):=by
  intro t;rw[fN t c,fN t d,fN t y];rcases Rat.le_total (a:=0) (b:=t)with h|h
  .exact ⟨.inl (mono h3 h),.inr (mono h4 h)⟩
  .exact ⟨.inr (anti h4 h),.inl (anti h3 h)⟩
 have sa:=side a;have sb:=side b;rcases Rat.le_total (a:=0) (b:=y)with h|h
 .have m1:=mono h1 h;have m2:=mono h2 h;clear mono anti side;constructor
  .rcases sa.1 with k|k<;>grind
  .rcases sb.2 with k|k<;>grind
 .have m1:=anti h1 h;have m2:=anti h2 h;clear mono anti side;constructor
  .rcases sb.1 with k|k<;>grind
  .rcases sa.2 with k|k<;>grind
def Iv.jZ.ko{x:Iv}{r:Rat}(h:x.jZ r)(k:x.all=false):x.lo.q<=r/\r<=x.hi.q:=by
 rcases h with h|h
 .rw [k]at h;cases h
 .exact h
def A8(a b:Dy):(yj a b).nx:=rY _ _ _
def PF{x y:Iv}(hx:x.ib)(hy:y.ib)(xa:x.all=false)(ya:y.all=false){p:Nat}(hp:1<=p)(ic:p<=4096):
 FM p (λr=>∃ a b,x.jZ a/\y.jZ b/\r=a*b) (iH x y p):=by
 unfold iH;rw[xa,ya];simp only[gU,bK,bC];refine U8 (f:=λa b=>a*b) (λa b ha hb=>⟨?_,?_,a.q,b.q,?_,?_,rfl⟩) (λr ⟨a,b,ha,hb,e⟩=>?_)
 .have:=yp (A8 a b) hp ic;rwa[Fm]at this
 .have:=yr (A8 a b) hp ic;rwa[Fm]at this
 .rcases ha with rfl|rfl;exact hx.Bq;exact hx.Ey
 .rcases hb with rfl|rfl;exact hy.Bq;exact hy.Ey
 .obtain ⟨h1,h2⟩:=ha.ko xa;obtain⟨h3,h4⟩:=hb.ko ya;rw[e];exact Ty h1 h2 h3 h4
def K3{x y:Iv}(p:Nat)(h:x.all=true\/y.all=true):iH x y p=gY:=by
 unfold iH;rw[bk (by rcases h with h|h<;>rw[h]<;>simp)]
def PG{x y:Iv}(hx:x.ib)(hy:y.ib){p:Nat}(hp:1<=p)(ic:p<=4096){a b:Rat}(ha:x.jZ a)(hb:y.jZ b):(iH x y p).jZ (a*b):=by
 cases xa:x.all
 .cases ya:y.all
  .exact (PF hx hy xa ya hp ic).jZ _ ⟨a,b,ha,hb,rfl⟩
  .rw [K3 p (.inr ya)];exact .inl rfl
 .rw [K3 p (.inl xa)];exact .inl rfl
def Pb{b c:Rat}(h0:0<c)(h:c<=b):b⁻¹<=c⁻¹:=by
 have hb:0<b:= aP ;apply fK (c:=b*c) _ (ej hb h0);have e1:b⁻¹*(b*c)=c:=by rw[<-eF,apS _ aP,fM]
 have e2:c⁻¹*(b*c)=b:=by rw[fN b c,<-eF,apS _ aP,fM]
 rw[e1,e2];exact h
def Yy(b:Rat):(-b)⁻¹ = -b⁻¹:=by
 by_cases h:b=0
 .rw [h];simp
 .have h1:(-b)⁻¹*(-b)=1:=apS _ aP ;have h2:b⁻¹*b=1:=apS _ h;have h3:(-b)⁻¹*(-b)*b⁻¹=b⁻¹:=by rw[h1,fM]
  grind
def WT{b c:Rat}(h0:b<0)(h:c<=b):b⁻¹<=c⁻¹:=by
 have:=Pb (b:=-c) (c:=-b) aP aP;rw[Yy,Yy]at this
 grind
def aaH{y:Iv}(_hy:y.ib)(h:nV y≠0):y.all=false/\(0<y.lo.q\/y.hi.q<0):=by
 unfold nV at h;cases ya:y.all
 .rw [ya]at h;simp only[bK,bC]at h;refine⟨rfl,?_⟩;split at h
  .rename_i h1;exact .inl ((sI _).1.1 h1)
  .split at h
   .rename_i h1;exact .inr ((sI _).2.1 h1)
   .exact absurd rfl h
 .rw [ya]at h;simp at h
def Q1{y:Iv}(ya:y.all=false)(h:0<y.lo.q\/y.hi.q<0):nV y≠0:=by
 unfold nV;rw[ya];simp only[bK,bC];rcases h with h|h
 .rw [bk ((sI _).1.2 h)];decide
 .split
  .decide
  .rw [bk ((sI _).2.2 h)];decide
def akb{d:Dy}(h:d.q≠0):d.m≠0:=by
 intro h0;apply h;rw[pv,h0];simp
def JL{x y:Iv}(hx:x.ib)(hy:y.ib)(xa:x.all=false)(hs:nV y≠0){p:Nat}(hp:1<=p)(ic:p<=4096):
 FM p (λr=>∃ a b,x.jZ a/\y.jZ b/\r=a/b) (jt x y p):=by
 obtain⟨ya,h0⟩:=aaH hy hs;have hle:=hy.q;unfold jt;rw[xa,ya,bt hs];simp only[gU,bK,bC];refine U8 (f:=λa b=>a/b) (λa b ha hb=>?_) (λr ⟨a,b,ha,hb,e⟩=>?_)
 .have b0:b.m≠0:=akb (by rcases hb with rfl|rfl<;>grind);obtain⟨h1,h2⟩:=TM (a:=a) b0 hp ic;refine⟨h1,h2,a.q,b.q,?_,?_,rfl⟩
  .rcases ha with rfl|rfl;exact hx.Bq;exact hx.Ey
  .rcases hb with rfl|rfl;exact hy.Bq;exact hy.Ey
 .obtain ⟨h1,h2⟩:=ha.ko xa;obtain⟨h3,h4⟩:=hb.ko ya;have i1:y.hi.q⁻¹<=b⁻¹:=by
   rcases h0 with h0|h0
   .exact Pb aP h4
   .exact WT aP h4
  have i2:b⁻¹<=y.lo.q⁻¹:=by
   rcases h0 with h0|h0
   .exact Pb h0 h3
   .exact WT aP h3
  obtain⟨k1,k2⟩:=Ty h1 h2 i1 i2;rw[e];simp only[cX];exact⟨aP,aP⟩
def Gb{x y:Iv}(p:Nat)(h:x.all=true\/nV y=0):jt x y p=gY:=by
 unfold jt;rw[bk (by rcases h with h|h<;>rw[h]<;>simp)]
def JM{x y:Iv}(hx:x.ib)(hy:y.ib){p:Nat}(hp:1<=p)(ic:p<=4096){a b:Rat}(ha:x.jZ a)(hb:y.jZ b):(jt x y p).jZ (a/b):=by
 cases xa:x.all
 .by_cases hs:nV y=0
  .rw [Gb p (.inr hs)];exact .inl rfl
  .exact (JL hx hy xa hs hp ic).jZ _ ⟨a,b,ha,hb,rfl⟩
 .rw [Gb p (.inl xa)];exact .inl rfl
def Ds{x:Iv}(h:x.lo.q<=x.hi.q):x.hi.q<=(iR x).q /\ -x.lo.q<=(iR x).q/\((iR x).q=x.hi.q\/(iR x).q = -x.lo.q):=by
 obtain⟨a1,a2,a3,a4⟩:=AD x.lo;obtain⟨b1,b2,b3,b4⟩:=AD x.hi;obtain⟨c1,c2,c3⟩:=Iq (kU x.lo) (kU x.hi);unfold iR;generalize (iW (kU x.lo) (kU x.hi)).q=M at *
 refine⟨aP,aP,?_⟩;rcases c3 with c3|c3
 .rcases a4 with a4|a4
  .grind
  .grind
 .rcases b4 with b4|b4
  .grind
  .grind
def ake{x x':Iv}(hx:x.ib)(BE:x'.ib)(h:Sub x x')(xa:x'.all=false):(iR x).q<=(iR x').q:=by
 obtain⟨h1,h2,h3⟩:=h.xZ xa;obtain⟨a1,a2,a3⟩:=Ds hx.q;obtain⟨b1,b2,b3⟩:=Ds BE.q
 grind
def PA{x:Iv}(hx:x.ib)(xa:x.all=false):0<=(pt x).q/\(x.lo.q<=0->0<=x.hi.q->(pt x).q=0)/\(0<x.lo.q->(pt x).q=x.lo.q)/\(x.hi.q<0->(pt x).q = -x.hi.q):=by
 have hle:=hx.q;obtain⟨a1,a2,a3,a4⟩:=AD x.lo;obtain⟨b1,b2,b3,b4⟩:=AD x.hi;obtain⟨c1,c2,c3⟩:=DH (kU x.lo) (kU x.hi);by_cases hs:nV x=0
 .have hn:¬(0<x.lo.q\/x.hi.q<0):=λh=>Q1 xa h hs
  have:pt x=iA:=by unfold pt;rw[bk hs]
  rw[this,uD];refine⟨cg,λ_ _=>rfl,λh=>absurd (.inl h) hn,λh=>absurd (.inr h) hn⟩
 .obtain ⟨_,h0⟩:=aaH hx hs;have:pt x=jj (kU x.lo) (kU x.hi):=by unfold pt;rw[bj hs]
  rw[this];generalize (jj (kU x.lo) (kU x.hi)).q=M at *
  generalize (kU x.lo).q=u at *
  generalize (kU x.hi).q=v at *
  refine⟨aP,aP,aP,aP⟩
def apP{x x':Iv}(hx:x.ib)(BE:x'.ib)(h:Sub x x'):Sub (ke x) (ke x'):=by
 cases xa:x'.all
 .obtain ⟨h1,h2,h3⟩:=h.xZ xa;unfold ke;rw[h1,xa];refine .inr ⟨rfl,?_,ake hx BE h xa⟩;show(pt x').q<=(pt x).q;obtain⟨a1,a2,a3,a4⟩:=PA hx h1;obtain⟨b1,b2,b3,b4⟩:=PA BE xa;have:=hx.q;by_cases c1:0<x'.lo.q
  .rw [b3 c1,a3 aP];exact h2
  .by_cases c2:x'.hi.q<0
   .rw [b4 c2,a4 aP];grind
   .rw [b2 aP aP];exact a1
 .refine .inl ?_;unfold ke;rw[bk xa];rfl
def Ja{x:Iv}(hx:x.ib){r s:Rat}(h:x.jZ r)(hs:s=r/\0<=r\/s = -r/\r<=0):(ke x).jZ s:=by
 unfold ke;cases xa:x.all
 .obtain ⟨h1,h2⟩:=h.ko xa;obtain⟨a1,a2,a3⟩:=Ds hx.q;obtain⟨b1,b2,b3,b4⟩:=PA hx xa;refine .inr ⟨?_,?_⟩
  .show (pt x).q<=s;by_cases c1:0<x.lo.q
   .rw [b3 c1];grind
   .by_cases c2:x.hi.q<0
    .rw [b4 c2];grind
    .rw [b2 aP aP];grind
  .show s<=(iR x).q
   grind
 .exact .inl rfl
def Qi(d:Dy):(mJ d).jZ d.q:=.inr ⟨cg,cg⟩
def Az(n:Int):(jv n).jZ (n:Rat):=by have:=Qi (ja n);rwa[BZ]at this
end Go.Proofs.YtgdahmmlddfimaaGreatDoor.Fp
namespace Go.Proofs.YtgdahmmlddfimaaGreatDoor
open Go.RowKit Fp Pu
abbrev iM(xs:List Iv):Nat->Nat->E:=λi j=>(iO (xs.getD i gY)).getD j .any
abbrev mI(M:List (List Iv)):Nat->Nat->E:=λi _=>ig (M.getD i [])
abbrev nu(M:List (List Iv)):Nat->Nat:=λq=>(M.getD q []).length
abbrev oM(M:List (List Iv)):Nat->Nat->Nat->E:=λq i j=>(iO ((M.getD q []).getD i gY)).getD j .any
def uk(x:Iv)(j:Nat)(hj:j<7):((iO x).getD j .any).nr 2=true:=by
 rcases j with _|_|_|_|_|_|_|j
 all_goals first|rfl|omega
def W3(xs:List Iv):(ig xs).nr 2=true:=rfl
def KW{T n:Nat}{xs:List Iv}{y:Iv}(hn:n=xs.length):
 Bx.le (.row true T (n+[y].length) 7 λi j=>if i<n then iM xs i j else(E.kR (ig [y])) (i-n) j) (.row true T (xs++[y]).length 7 (iM (xs++[y]))):=by
 subst hn;refine .row aK λi j hi hj=>⟨.iT ?_,uk _ _ hj⟩
 by_cases h:i<xs.length
 .rw [bk h];show(iO (xs.getD i gY)).getD j .any=(iO ((xs++[y]).getD i gY)).getD j .any;congr 2;simp[bw,dH h]
 .have mS:i=xs.length:=by simp at hi;omega
  subst mS;rw[bj h,dq];show(iO y).getD j .any=(iO ((xs++[y]).getD xs.length gY)).getD j .any;congr 2;simp[bw]
def ako{T n:Nat}{M:List (List Iv)}{r:List Iv}{p:E}{m:Nat}(hn:n=M.length)(hm:m=1)(hp:∀ j,j<1->p.kR 0 j=ig r):
 Bx.le (.row true T (n+m) 1 λi j=>if i<n then mI M i j else(E.kR p) (i-n) j) (.row true T (M++[r]).length 1 (mI (M++[r]))):=by
 subst hn hm;refine .row aK λi j hi hj=>⟨.iT ?_,W3 _⟩
 by_cases h:i<M.length
 .rw [bk h];show ig (M.getD i [])=ig ((M++[r]).getD i []);congr 1;simp[bw,dH h]
 .have mS:i=M.length:= aE ;subst mS;rw[bj h,dq,hp j hj];show ig r=ig ((M++[r]).getD M.length []);congr 1;simp[bw]
def qj{α:Type}(y:α):[y].length=1:=rfl
def Qp{n i:Nat}{F:Nat->Iv}(h:i<n):((List.range n).map F).getD i gY=F i:=by
 simp[bw,h]
def akn{n:Nat}{M:List (List Iv)}(hn:n=M.length):E.le (.sl true n 1 λk _=>.sl true (nu M k) 7 (oM M k)) (kX M):=by subst hn;exact .refl _
def apR{α:Type}{l:List α}{i:Nat}{d:α}(h:i<l.length):l.getD i d=l[i]:=by
 rw[bw,bF h];rfl
def Dj{T n n' k:Nat}{F:Nat->Iv}{y:Iv}(hn:n=k)(vW:n'=k+1)(hy:y=F k):
 Bx.le (.row true T (n+[y].length) 7 λi j=>if i<n then iM ((List.range k).map F) i j else(E.kR (ig [y])) (i-n) j) (.row true T n' 7 (iM ((List.range (k+1)).map F))):=by
 subst hn vW hy;refine .row rfl λi j hi hj=>⟨.iT ?_,uk _ _ hj⟩
 have hi:i<n+1:=hi;by_cases h:i<n
 .rw [bk h];simp only[iM];rw[Qp h,Qp hi]
 .have mS:i=n:= aE ;subst mS;rw[bj h,dq];simp only[iM];rw[Qp hi];rfl
def XU{n:Nat}{M:List (List Iv)}(hn:n=M.length):E.le (.sl true n 1 (mI M)) (kX M):=by subst hn;exact .refl _
def EV{n:Nat}{M:List Iv}(hn:n=M.length):E.le (.sl true n 7 (iM M)) (ig M):=by subst hn;exact .refl _
def afH(s:Bool)(L:List Nat)(e:Int)(hk:iK L)(hl:L.length<=256)(mv:-1000000<=e)(lr:e<=1000000):gV 219 [bP s,ia L,iP e] (gZ (canon s (val L) e)):=by
 refine⟨call219,λw B vs hK hB hr=>?_⟩;obtain⟨v1,vs,rfl,h1,hr⟩:=hr.mG;obtain⟨v2,vs,rfl,h2,hr⟩:=hr.mG;obtain⟨v3,vs,rfl,h3,hr⟩:=hr.mG;obtain rfl:=hr.rj;obtain rfl:=iD.kJ h1;obtain rfl:=iD.kJ h3;obtain⟨A,c,rfl,s1⟩:=xv hk h2;exact(JN s A c L e w s1 aE (by have:=pY L;unfold mX at this;omega) mv lr hK).mono λe w' h=>rd B w e w' hB h
def aoS(x y:Nat):E.le (.sl false 2 1 λi j=>[E.v (.int .u32 (x:Int)),.v (.int .u32 (y:Int))].getD (i*1+j) (.v (.bool false))) (ia [x,y]):=.sl λi j hi hj=>by
 obtain rfl:j=0:= aE ;obtain rfl|rfl:i=0\/i=1:= aE 
 .exact ⟨.refl _,rfl⟩
 .exact ⟨.refl _,rfl⟩
def BJ(n:Nat):ja (n:Int)=canon false n 0:=by
 unfold ja ki;rw[bt aE,dL]
def EU(n:Nat)(h:n<4294967296):(ja (n:Int)).ib:=by
 rw[BJ];refine⟨rY _ _ _,?_⟩;by_cases h0:n=0
 .subst h0;exact .inl rfl
 .have:=zQ (s:=false) (e:=0) h0;have hb:ie n<=32:=lY.2 h;refine .inr ⟨aE,aE,?_,aE⟩;obtain⟨h1,h2,h3,h4⟩:=this;have:=ny h3;omega
def ape(x y:Nat):val [x,y]=x+4294967296*y:=by simp[val]
def DB(n:Nat)(h:n<4294967296):(jv (n:Int)).ib:=wA (EU n h)
structure Fp.Iv.NN(x:Iv):Prop where
 lo:x.lo.neg=false
 hi:x.hi.neg=false
def SU(m:Nat)(e:Int):(canon false m e).neg=false:=by unfold canon;split<;>rfl
def alA{d:Dy}(h:d.neg=false):(mJ d).NN:=⟨h,h⟩
def YJ(n:Nat):(jv (n:Int)).NN:=by
 refine alA ?_;rw[BJ];exact SU _ _
def aiw{c:Nat}(hc:0<c):(ja (c:Int)).m≠0:=by
 rw[BJ];exact(zQ (s:=false) (e:=0) aE).2.2.1
def ak3{c:Nat}(hc:0<c):nV (jv (c:Int))=1:=by
 unfold nV jv mJ;simp only[bK,bC];rw[bk];unfold Dy.iI;rw[bj (aiw hc),show(ja (c:Int)).neg=false by rw[BJ];exact SU _ _];simp
section
variable {m m':List (List Iv)} {h h':Iv} {n p:Nat}
def Ie(j:Nat)(hj:j<4294967296):(jv (j:Int)).ib:=wA (EU j hj)
end
def alP{d:Dy}(h:d.neg=false):0<=d.q:=by
 rw[pv,h];exact b6 cV (bN (mF _))
structure Lq(x y:Iv):Prop where
 v:x.ib
 v':y.ib
 nn:x.NN
 nn':y.NN
 le:y.all=true\/(x.all=false/\x.hi.q<=y.hi.q)
def Fp.Iv.jZ.nn{x:Iv}{r:Rat}(h:x.jZ r)(k:x.all=false)(hx:x.NN):0<=r/\r<=x.hi.q:=by
 obtain⟨h1,h2⟩:=h.ko k;have:=alP hx.lo;exact⟨aP,h2⟩
def YK(c:Nat):(jv (c:Int)).lo.q=(c:Rat)/\(jv (c:Int)).hi.q=(c:Rat)/\(jv (c:Int)).all=false:=by
 refine⟨?_,?_,rfl⟩
 .show (ja _).q=_;rw[BZ];exact eh c
 .show (ja _).q=_;rw[BZ];exact eh c
def Lq.num(c:Nat)(hc:c<4294967296):Lq (jv (c:Int)) (jv (c:Int)):=⟨Ie c hc,Ie c hc,YJ c,YJ c,.inr ⟨rfl,cg⟩⟩
def Fs(s:Bool)(m:Nat)(e:Int)(hl:(gW m).length<=3000)(mv:-1000000<=e)(lr:e<=1000000):gV 169 [bP s,ia (gW m),iP e] (gZ (canon s m e)):=by
 refine⟨call169,λw B vs hK hB hr=>?_⟩;obtain⟨v1,vs,rfl,h1,hr⟩:=hr.mG;obtain⟨v2,vs,rfl,h2,hr⟩:=hr.mG;obtain⟨v3,vs,rfl,h3,hr⟩:=hr.mG;obtain rfl:=hr.rj;obtain rfl:=iD.kJ h1;obtain rfl:=iD.kJ h3;obtain⟨A,c,rfl,s1⟩:=xv (ml m) h2;have:=Fq s A c (gW m) e w s1 hl mv lr;rw[kq]at this;exact this.mono λe w' h=>rd B w e w' hB h
def DM(a:Dy)(ha:a.ib):gV 74 [gZ a] (bP true):=xn call74 (λA c w h _=>amE a A c w h ha) rv
def B5(a:Dy):gV 157 [gZ a] (iP a.iI):=xn call157 (λA c w h _=>amz a A c w h) rv
def QD(a:Dy):gV 159 [gZ a] (gZ (jf a)):=
 xn call159 (λA c w h _=>by
  have:=ams a.neg A c (gW a.m) a.e w h (uI _);rw[kq]at this;exact this) rd
def Ft(a:Dy)(ha:AW a):gV 158 [gZ a] (iP a.im):=xn call158 (λA c w h _=>amD a A c w h ha) rv
def amp(n:Nat)(hn:n<4294967296):gV 126 [iP (n:Int)] (gZ (canon false n 0)):=by
 refine⟨call126,λw B vs hK hB hr=>?_⟩;obtain⟨v1,vs,rfl,h1,hr⟩:=hr.mG;obtain rfl:=hr.rj;obtain rfl:=iD.kJ h1;exact(amo n w hn).mono λe w' h=>rd B w e w' hB h
def DJ(a b:Dy)(r:Bool)(hr:r=true↔a=b)(ha:(gW a.m).length<=100000)(hb:(gW b.m).length<=100000):gV 34 [gZ a,gZ b] (bP r):=
 Qh call34 (λA c A' c' w h k _=>amk a b A A' c c' w _ h k ha hb hr) rv
end Go.Proofs.YtgdahmmlddfimaaGreatDoor
namespace Go.Proofs.YtgdahmmlddfimaaGreatDoor.Fp
end Go.Proofs.YtgdahmmlddfimaaGreatDoor.Fp
namespace Go.Proofs.YtgdahmmlddfimaaGreatDoor
open Go.RowKit Fp Pu
def amw(d:Dy)(k:Int)(hd:d.ib)(oJ:-32768<=k)(xM:k<=32768)(hr:mT (canon d.neg d.m (d.e+k))):gV 125 [gZ d,iP k] (.iw [gZ (canon d.neg d.m (d.e+k)),iP 0]):=by
 refine⟨call125,λw B vs hK hB G3=>?_⟩;obtain⟨v1,vs,rfl,h1,G3⟩:=G3.mG;obtain⟨v2,vs,rfl,h2,G3⟩:=G3.mG;obtain rfl:=G3.rj;obtain⟨A,c,rfl,s1⟩:=JO h1;obtain rfl:=iD.kJ h2;have:=amx d.neg A c (gW d.m) d.e k w s1 hd.wP oJ xM (by rw[kq];exact hr);rw[kq]at this;exact this.mono λe w' h=>Qw B w e w' hB h
def SR{n:Int}{e:Int}:canon (ja n).neg (ja n).m ((ja n).e+e)=ki n e:=by
 unfold ja ki;by_cases h:n.natAbs=0
 .rw [h,Ee,Ee];show canon false 0 _=_;rw[Ee]
 .have h1:=Gc h;rw[show canon (decide (n<0)) n.natAbs 0=⟨decide (n<0),n.natAbs/2^jz n.natAbs,0+(jz n.natAbs:Int)⟩by unfold canon;rw[bj h]];show canon (decide (n<0)) (n.natAbs/2^jz n.natAbs) (0+(jz n.natAbs:Int)+e)=_;rw[<-MW _ _ _ (jz n.natAbs),h1];congr 1;omega
def Cu{n e:Int}(h1:n.natAbs<4294967296)(h2:-1000<=e)(h3:e<=1000):(ki n e).ib:=by
 refine⟨rY _ _ _,?_⟩;unfold ki;by_cases h0:n.natAbs=0
 .rw [h0,Ee];exact .inl rfl
 .have:=zQ (s:=decide (n<0)) (e:=e) h0;have hb:ie n.natAbs<=32:=lY.2 h1;obtain⟨h4,h5,h6,_⟩:=this;have:=ny h6;exact .inr ⟨aE,aE,aE,aE⟩
def tH{n:Int}(h1:n.natAbs<4294967296):(ja n).ib:=Cu h1 aG aG 
def amm(k:Nat)(w:World)(h0:0<k)(hn:k<4294967296):
 Calls prog 126 #[.int .i64 (-(k:Int))] w (xz w (canon true k 0)):=by
 have hm:=xB k aE;have sE:(k:Int)%4294967296=k:= aE ;rw[sE]at hm;have hd:(k:Int)/4294967296=0:= aE ;have iC:(-(k:Int))<0:= aE ;have Of:decide ((-(k:Int))<0)=true:=bn iC;have hu:IntKind.u64.wrap (-(k:Int))=18446744073709551616-k:=by rw[IntKind.wrap_u64];omega
 have hs:IntKind.u64.wrap (-(18446744073709551616-(k:Int)))=k:=by rw[IntKind.wrap_u64];omega
 have HC:=aq9 (λ(A:Option Addr) c w (h:Sl w A c [k,0])=>Fq true A c [k,0] 0 w h aK aG aG);have hv:val [k,0]=k:= aK ;rw[hv]at HC;clear hv;generalize canon true k 0=d at *
 generalize hN:(-(k:Int))=N at *
 go_enter func126,ntmps126;go_wp2_with fail;refine(HC.out _ _ _ (Sl.L7 _ _ aK _ _ k 0 rfl rfl hn aG)).mono ?_;rintro r w1 ⟨A1,c1,rfl,vZ,kD⟩;have qn:iF (w.alloc (.cells #[.bool false,.slice none 0 0,.int .i64 0] 31)) w1:=(iF.alloc _ _).trans kD;have bx:=(jG.new w false none 0 0 0).ext qn;have b0:=bx.c0;have b1:=bx.c1;have b2:=bx.c2;have f0:=bx.fr 0;have f1:=bx.fr 1;have f2:=bx.fr 2;go_wp2;exact uO rfl rfl rfl (bx.set _ _ _ _ _) rfl (bx.vq vZ _ _ _ _ _) (jG.uH ((iF.alloc _ _).trans qn) (bu _) _ _ _ _ _)
def WN(k:Nat)(h0:0<k):ja (-(k:Int))=canon true k 0:=by
 unfold ja ki;rw[bn (show(-(k:Int))<0 by omega),fH,dL]
def amn(n:Int)(h:n.natAbs<4294967296):gV 126 [iP n] (gZ (ja n)):=by
 by_cases h0:0<=n
 .obtain ⟨k,rfl⟩:=eE h0;rw[BJ];exact amp k aE 
 .obtain ⟨k,rfl⟩:∃ k:Nat,n = -(k:Int):=⟨n.natAbs,aE⟩
  rw[WN k aE];refine⟨call126,λw B vs hK hB hr=>?_⟩;obtain⟨v1,vs,rfl,h1,hr⟩:=hr.mG;obtain rfl:=hr.rj;obtain rfl:=iD.kJ h1;exact(amm k w aE aE).mono λe w' h=>rd B w e w' hB h
open Classical in
noncomputable def Fp.uF(d:Dy)(k:Int):Dy:=if mT (canon d.neg d.m (d.e+k))then canon d.neg d.m (d.e+k)else iA
open Classical in
noncomputable def Fp.DT(d:Dy)(k:Int):Int:=if mT (canon d.neg d.m (d.e+k))then 0 else 9
def Z5(d:Dy)(k:Int):(uF d k).ib:=by
 unfold uF;split
 .rename_i h;exact⟨rY _ _ _,h⟩
 .exact su
noncomputable def Fp.mr(x:Iv)(k:Int):Iv:=if x.all then gY else mj (uF x.lo k) (DT x.lo k) (uF x.hi k) (DT x.hi k)
def Fp.rV(x:Iv):Iv:=if x.all then x else⟨jf (iR x),iR x,false⟩
def Fp.qx(n:Int):Dy:=canon false 1 n
def xj{n:Int}(h:n.natAbs<4294967296):(jv n).ib:=wA (tH h)
def D9{x:Iv}(hx:x.ib):(rV x).ib:=by
 unfold rV;cases lh:x.all
 .have he:=hx.ko;have hm:=Dt he.1 he.2;simp only[bK,bC];refine .inr ⟨rfl,yg hm,hm,?_⟩;show iL (jf (iR x)) (iR x)<=0;rw[oY,rM];obtain⟨a1,a2,_⟩:=Ds hx.q;have:=hx.q
  grind
 .exact hx
def anl{d:Dy}{k:Int}(h:DT d k=0):uF d k=canon d.neg d.m (d.e+k):=by
 unfold DT at h;unfold uF;split at h
 .rename_i h1;rw[bk h1]
 .cases h
def B9{d:Dy}{k:Int}(h:DT d k=0):(uF d k).q=d.q*P2 k:=by
 rw[anl h,qy,pv d,oP];cases d.neg<;>simp<;>grind
def IC{x:Iv}(hx:x.ib)(k:Int):(mr x k).ib:=by
 unfold mr;split
 .exact mg
 .unfold mj;split
  .exact mg
  .rename_i h;refine .inr ⟨rfl,Z5 _ _,Z5 _ _,?_⟩;rw[oY,B9 aE,B9 aE,tc];exact hx.q
def QT{x:Iv}{r:Rat}(h:x.jZ r)(k:Int):(mr x k).jZ (r*P2 k):=by
 unfold mr;split
 .exact .inl rfl
 .rename_i ha;unfold mj;split
  .exact .inl rfl
  .obtain ⟨h1,h2⟩:=h.ko (by simpa using ha);refine .inr ⟨?_,?_⟩
   .show (uF x.lo k).q<=_;rw[B9 aE,tc];exact h1
   .show _<=(uF x.hi k).q;rw[B9 aE,tc];exact h2
def WQ(nl:Bool)(n N:Nat)(el:Nat->Nat->E)(g:FuncId)(cap:List E)(i:Nat):PS:=⟨19,false,[(8,.e (iP i)),(7,.e (iP n)),(0,.e (.sl nl n 1 el)),(1,.e (.fn g cap))],[]⟩
def WO(nl:Bool)(n:Nat)(el:Nat->Nat->E)(g:FuncId)(cap:List E)(i:Nat):PS:=⟨19,false,[(8,.e (iP i)),(7,.e (iP n)),(0,.e (.sl nl n 1 el)),(1,.e (.fn g cap))],[]⟩
def Xw(nl:Bool)(n:Nat)(el:Nat->Nat->E)(g:FuncId)(cap:List E)(i:Nat):PS:=⟨19,false,[(8,.e (iP i)),(7,.e (iP n)),(0,.e (.sl nl n 1 el)),(1,.e (.fn g cap))],[]⟩
def W2(nl:Bool)(n N:Nat)(el:Nat->Nat->E)(g:FuncId)(cap:List E)(i:Nat):PS:=⟨19,false,[(8,.e (iP i)),(7,.e (iP n)),(0,.e (.sl nl n 7 el)),(1,.e (.fn g cap))],[]⟩
def W1(nl:Bool)(n:Nat)(el:Nat->Nat->E)(g:FuncId)(cap:List E)(i:Nat):PS:=⟨19,false,[(8,.e (iP i)),(7,.e (iP n)),(0,.e (.sl nl n 7 el)),(1,.e (.fn g cap))],[]⟩
def ZR(nl:Bool)(n:Nat)(el:Nat->Nat->E)(g:FuncId)(cap:List E)(i:Nat):PS:=⟨19,false,[(8,.e (iP i)),(7,.e (iP n)),(0,.e (.sl nl n 1 el)),(1,.e (.fn g cap))],[]⟩
def tI{p:Nat->Bool}{n:Nat}(h:∃ i,i<n/\p i=true):∃ N,N<n/\p N=true/\∀ i,i<N->p i=false:=by
 induction n with
 |zero=>obtain⟨i,h1,_⟩:=h;omega
 |succ n ih=>
  by_cases hn:∃ i,i<n/\p i=true
  .obtain ⟨N,h1,h2,h3⟩:=ih hn;exact⟨N,aE,h2,h3⟩
  .obtain ⟨i,h1,h2⟩:=h;have:i=n:=by
    by_cases q:i=n
    .exact q
    .exact absurd ⟨i,aE,h2⟩ hn
   subst this;exact⟨i,h1,h2,λj hj=>by simpa using λq=>hn ⟨j,hj,q⟩⟩
def aiz(nl:Bool)(n:Nat)(el:Nat->Nat->E)(g:FuncId)(cap:List E)(p:Nat->Bool)(hp:∀ i,i<n->gV g ((el i 0)::cap) (bP (p i)))(N:Nat)(hl:n<=1000000)(oR:N<n)(jm:∀ i,i<N->p i=false)(hN:p N=true):gV 154 [.sl nl n 1 el,.fn g cap] (iP N):=
 an call154 func154 (af [.s (Sp.jc (WQ nl n N el g cap) 0 N aE (λi hi oK=>by
    exact iy (af [tT 9 ((i:Int)<n) aE,iX (i:Int) n aE,.c (hp i aE:gV g ((el i 0)::cap) _),ai 16 (p i) (jm i aE),iq ((i:Int)+1) aE]) aI)
  (λhi=>by
    exact iy (af [tT 9 ((N:Int)<n) aE,iX (N:Int) n aE,.c (hp N aE:gV g ((el N 0)::cap) _),ah 16 (p N) hN]) aI) aM:jb 2 f154 (WQ nl n N el g cap 0) .ret ⟨19,false,[(4,.e (iP N))],[]⟩) .nil]) 
def aiB(nl:Bool)(n:Nat)(el:Nat->Nat->E)(g:FuncId)(cap:List E)(p:Nat->Bool)(hp:∀ i,i<n->gV g ((el i 0)::cap) (bP (p i)))(hl:n<=1000000)(jm:∀ i,i<n->p i=false):gV 154 [.sl nl n 1 el,.fn g cap] (iP (-1)):=
 an call154 func154 (af [.s (Sp.jc (WO nl n el g cap) 0 n aE (λi hi oK=>by
    exact iy (af [tT 9 ((i:Int)<n) aE,iX (i:Int) n aE,.c (hp i aE:gV g ((el i 0)::cap) _),ai 16 (p i) (jm i aE),iq ((i:Int)+1) aE]) aI)
  (λhi=>by
    exact iy (af [tF 9 ((n:Int)<n) aE]) aI) aM:jb 2 f154 (WO nl n el g cap 0) (.exit 0) ⟨19,false,[],[]⟩) .nil]) 
def aiA(nl:Bool)(n:Nat)(el:Nat->Nat->E)(g:FuncId)(cap:List E)(p:Nat->Bool)(hp:∀ i,i<n->gV g ((el i 0)::cap) (bP (p i)))(N:Nat)(hl:n<=1000000)(oR:N<n)(jm:∀ i,i<N->p i=false)(hN:p N=true):gV 67 [.sl nl n 1 el,.fn g cap] (bP true):=
 an call67 func67 (af [ag [.sl nl n 1 el,.fn g cap] (aiz nl n el g cap p hp N hl oR jm hN),tT 8 (0<=(N:Int)) aE]) 
def Pa(nl:Bool)(n:Nat)(el:Nat->Nat->E)(g:FuncId)(cap:List E)(p:Nat->Bool)(hp:∀ i,i<n->gV g ((el i 0)::cap) (bP (p i)))(hl:n<=1000000)(jm:∀ i,i<n->p i=false):gV 67 [.sl nl n 1 el,.fn g cap] (bP false):=
 an call67 func67 (af [ag [.sl nl n 1 el,.fn g cap] (aiB nl n el g cap p hp hl jm),ai 8 (decide ((0:Int)<=(-1))) aG]) 
def aiy(nl:Bool)(n:Nat)(el:Nat->Nat->E)(g:FuncId)(cap:List E)(p:Nat->Bool)(hp:∀ i,i<n->gV g ((el i 0)::cap) (bP (p i)))(hl:n<=1000000):gV 67 [.sl nl n 1 el,.fn g cap] (bP ((List.range n).any p)):=by
 by_cases h:∃ i,i<n/\p i=true
 .obtain ⟨N,h1,h2,h3⟩:∃ N,N<n/\p N=true/\∀ i,i<N->p i=false:=tI h;refine(aiA nl n el g cap p hp N hl h1 h3 h2).kf (.iT ?_);rw[dY.2 ⟨N,b5.2 h1,h2⟩]
 .refine (Pa nl n el g cap p hp hl λi hi=>by simpa using λq=>h ⟨i,hi,q⟩).kf (.iT ?_);rw[dp.2 λi hi q=>h ⟨i,b5.1 hi,q⟩]
def ajU(nl:Bool)(n:Nat)(el:Nat->Nat->E)(g:FuncId)(cap:List E)(p:Nat->Bool)(hp:∀ i,i<n->gV g ((el i 0)::cap) (bP (p i)))(hl:n<=1000000)(jm:∀ i,i<n->p i=false):gV 302 [.sl nl n 1 el,.fn g cap] (iP (-1)):=
 an call302 func302 (af [.s (Sp.jc (Xw nl n el g cap) 0 n aE (λi hi oK=>by
    exact iy (af [tT 9 ((i:Int)<n) aE,iX (i:Int) n aE,.c (hp i aE:gV g ((el i 0)::cap) _),ai 16 (p i) (jm i aE),iq ((i:Int)+1) aE]) aI)
  (λhi=>by
    exact iy (af [tF 9 ((n:Int)<n) aE]) aI) aM:jb 2 f302 (Xw nl n el g cap 0) (.exit 0) ⟨19,false,[],[]⟩) .nil]) 
def XA(nl:Bool)(n:Nat)(el:Nat->Nat->E)(g:FuncId)(cap:List E)(p:Nat->Bool)(hp:∀ i,i<n->gV g ((el i 0)::cap) (bP (p i)))(hl:n<=1000000)(jm:∀ i,i<n->p i=false):gV 267 [.sl nl n 1 el,.fn g cap] (bP false):=
 an call267 func267 (af [ag [.sl nl n 1 el,.fn g cap] (ajU nl n el g cap p hp hl jm),ai 8 (decide ((0:Int)<=(-1))) aG]) 
def aiT(nl:Bool)(n:Nat)(el:Nat->Nat->E)(g:FuncId)(cap:List E)(p:Nat->Bool)(hp:∀ i,i<n->gV g ((.agg [el i 0,el i 1,el i 2,el i 3,el i 4,el i 5,el i 6])::cap) (bP (p i)))(N:Nat)(hl:n<=1000000)(oR:N<n)(jm:∀ i,i<N->p i=false)(hN:p N=true):gV 130 [.sl nl n 7 el,.fn g cap] (iP N):=
 an call130 func130 (af [.s (Sp.jc (W2 nl n N el g cap) 0 N aE (λi hi oK=>by
    exact iy (af [tT 9 ((i:Int)<n) aE,iX (i:Int) n aE,.c (hp i aE:gV g ((.agg [el i 0,el i 1,el i 2,el i 3,el i 4,el i 5,el i 6])::cap) _),ai 16 (p i) (jm i aE),iq ((i:Int)+1) aE]) aI)
  (λhi=>by
    exact iy (af [tT 9 ((N:Int)<n) aE,iX (N:Int) n aE,.c (hp N aE:gV g ((.agg [el N 0,el N 1,el N 2,el N 3,el N 4,el N 5,el N 6])::cap) _),ah 16 (p N) hN]) aI) aM:jb 2 f130 (W2 nl n N el g cap 0) .ret ⟨19,false,[(4,.e (iP N))],[]⟩) .nil]) 
def aiV(nl:Bool)(n:Nat)(el:Nat->Nat->E)(g:FuncId)(cap:List E)(p:Nat->Bool)(hp:∀ i,i<n->gV g ((.agg [el i 0,el i 1,el i 2,el i 3,el i 4,el i 5,el i 6])::cap) (bP (p i)))(hl:n<=1000000)(jm:∀ i,i<n->p i=false):gV 130 [.sl nl n 7 el,.fn g cap] (iP (-1)):=
 an call130 func130 (af [.s (Sp.jc (W1 nl n el g cap) 0 n aE (λi hi oK=>by
    exact iy (af [tT 9 ((i:Int)<n) aE,iX (i:Int) n aE,.c (hp i aE:gV g ((.agg [el i 0,el i 1,el i 2,el i 3,el i 4,el i 5,el i 6])::cap) _),ai 16 (p i) (jm i aE),iq ((i:Int)+1) aE]) aI)
  (λhi=>by
    exact iy (af [tF 9 ((n:Int)<n) aE]) aI) aM:jb 2 f130 (W1 nl n el g cap 0) (.exit 0) ⟨19,false,[],[]⟩) .nil]) 
def aiU(nl:Bool)(n:Nat)(el:Nat->Nat->E)(g:FuncId)(cap:List E)(p:Nat->Bool)(hp:∀ i,i<n->gV g ((.agg [el i 0,el i 1,el i 2,el i 3,el i 4,el i 5,el i 6])::cap) (bP (p i)))(N:Nat)(hl:n<=1000000)(oR:N<n)(jm:∀ i,i<N->p i=false)(hN:p N=true):gV 53 [.sl nl n 7 el,.fn g cap] (bP true):=
 an call53 func53 (af [ag [.sl nl n 7 el,.fn g cap] (aiT nl n el g cap p hp N hl oR jm hN),tT 8 (0<=(N:Int)) aE]) 
def Di(nl:Bool)(n:Nat)(el:Nat->Nat->E)(g:FuncId)(cap:List E)(p:Nat->Bool)(hp:∀ i,i<n->gV g ((.agg [el i 0,el i 1,el i 2,el i 3,el i 4,el i 5,el i 6])::cap) (bP (p i)))(hl:n<=1000000)(jm:∀ i,i<n->p i=false):gV 53 [.sl nl n 7 el,.fn g cap] (bP false):=
 an call53 func53 (af [ag [.sl nl n 7 el,.fn g cap] (aiV nl n el g cap p hp hl jm),ai 8 (decide ((0:Int)<=(-1))) aG]) 
def Pf(nl:Bool)(n:Nat)(el:Nat->Nat->E)(g:FuncId)(cap:List E)(p:Nat->Bool)(hp:∀ i,i<n->gV g ((.agg [el i 0,el i 1,el i 2,el i 3,el i 4,el i 5,el i 6])::cap) (bP (p i)))(hl:n<=1000000):gV 53 [.sl nl n 7 el,.fn g cap] (bP ((List.range n).any p)):=by
 by_cases h:∃ i,i<n/\p i=true
 .obtain ⟨N,h1,h2,h3⟩:∃ N,N<n/\p N=true/\∀ i,i<N->p i=false:=tI h;refine(aiU nl n el g cap p hp N hl h1 h3 h2).kf (.iT ?_);rw[dY.2 ⟨N,b5.2 h1,h2⟩]
 .refine (Di nl n el g cap p hp hl λi hi=>by simpa using λq=>h ⟨i,hi,q⟩).kf (.iT ?_);rw[dp.2 λi hi q=>h ⟨i,b5.1 hi,q⟩]
def am4(nl:Bool)(n:Nat)(el:Nat->Nat->E)(g:FuncId)(cap:List E)(p:Nat->Bool)(hp:∀ i,i<n->gV g ((el i 0)::cap) (bP (p i)))(hl:n<=1000000)(jm:∀ i,i<n->p i=false):gV 128 [.sl nl n 1 el,.fn g cap] (iP (-1)):=
 an call128 func128 (af [.s (Sp.jc (ZR nl n el g cap) 0 n aE (λi hi oK=>by
    exact iy (af [tT 9 ((i:Int)<n) aE,iX (i:Int) n aE,.c (hp i aE:gV g ((el i 0)::cap) _),ai 16 (p i) (jm i aE),iq ((i:Int)+1) aE]) aI)
  (λhi=>by
    exact iy (af [tF 9 ((n:Int)<n) aE]) aI) aM:jb 2 f128 (ZR nl n el g cap 0) (.exit 0) ⟨19,false,[],[]⟩) .nil]) 
def am2(nl:Bool)(n:Nat)(el:Nat->Nat->E)(g:FuncId)(cap:List E)(p:Nat->Bool)(hp:∀ i,i<n->gV g ((el i 0)::cap) (bP (p i)))(hl:n<=1000000)(jm:∀ i,i<n->p i=false):gV 50 [.sl nl n 1 el,.fn g cap] (bP false):=
 an call50 func50 (af [ag [.sl nl n 1 el,.fn g cap] (am4 nl n el g cap p hp hl jm),ai 8 (decide ((0:Int)<=(-1))) aG]) 
def X5(a b:List Nat)(x:Nat):PS:=⟨67,false,[(20,.e (iP x)),(19,.e (iP a.length)),(18,.e (ia a)),(5,.own 17),(1,.e (ia b))],[(17,.row false 171 (a.length+b.length) 1 (qv (lP a b x)))]⟩
def X6(a b:List Nat)(x:Nat)(k:Nat):PS:=⟨67,false,[(27,.e (iP k)),(26,.e (iP b.length)),(25,.e (ia b)),(8,.e (.v (.int .u64 (((nL (a.getD x 0) x b (lP a b x) k).2:Nat):Int)))),(7,.e (.v (.int .u32 (a.getD x 0:Int)))),(6,.e (iP x)),(20,.e (iP x)),(19,.e (iP a.length)),(18,.e (ia a)),(5,.own 17),(1,.e (ia b))],[(17,.row false 171 (a.length+b.length) 1 (qv ((nL (a.getD x 0) x b (lP a b x) k).1)))]⟩
def akJ(a b:List Nat)(ha:iK a)(hb:iK b)(h1:a.length<=3000)(h2:b.length<=3000):gV 269 [ia a,ia b] (ia (lP a b a.length)):=
 an call269 func269 (ae [iq ((a.length:Int)+b.length) aE,.a (aE:0<=(((a.length:Int)+b.length):Int)/\(((a.length:Int)+b.length):Int)<=(((a.length:Int)+b.length):Int)),.a (aE:((4:Nat):Int)*((a.length:Int)+b.length)<=281474976710656/\(((a.length:Int)+b.length):Int)<=9223372036854775807),.s (Sp.jc (X5 a b) 0 a.length aE (λx hx kW=>by
    have f1:=ha.getD x;have so:=Hy ha hb x aE;have g1:=so.len;have g2:=(Hv f1 hb so.ok (i:=x) aE b.length aE).len;have g3:=(Hv f1 hb so.ok (i:=x) aE b.length aE).lt;exact iy (ae [tT 21 ((x:Int)<a.length) aE,iX (x:Int) (a.length) aE,.s (Sp.jc (X6 a b x) 0 b.length aE (λk hk Kw=>by
    have f2:=hb.getD k;have q:=Hv f1 hb so.ok (i:=x) aE k aE;have f3:=q.ok.getD (x+k);have f4:=q.lt;have f5:=q.len;have f6:=X9 f1 f2;exact iy (ae [tT 28 ((k:Int)<b.length) aE,iX (k:Int) (b.length) aE,.o 33 (.int (sK _ aE):aj (.v (.int .u64 (IntKind.u64.wrap (a.getD x 0:Int)))) (.v (.int .u64 (a.getD x 0:Int)))),.o 35 (.int (sK _ aE):aj (.v (.int .u64 (IntKind.u64.wrap (b.getD k 0:Int)))) (.v (.int .u64 (b.getD k 0:Int)))),
     B8 ((a.getD x 0:Int)*(b.getD k 0:Int)) aE,iq ((x:Int)+k) aE,iX ((x+k:Nat):Int) (a.length+b.length) aE,.a (aE:(x+k)<(a.length+b.length)),.o 43 (.int (sK _ aE):aj (.v (.int .u64 (IntKind.u64.wrap ((((nL (a.getD x 0) x b (lP a b x) k).1).getD (x+k) 0:Nat):Int)))) (.v (.int .u64 ((((nL (a.getD x 0) x b (lP a b x) k).1).getD (x+k) 0:Nat):Int)))),
     B8 ((((a.getD x 0)*(b.getD k 0):Nat):Int)+((((nL (a.getD x 0) x b (lP a b x) k).1).getD (x+k) 0:Nat):Int)) aE,
     B8 (((((a.getD x 0)*(b.getD k 0))+(((nL (a.getD x 0) x b (lP a b x) k).1).getD (x+k) 0):Nat):Int)+(((nL (a.getD x 0) x b (lP a b x) k).2:Nat):Int)) aE,
     iq ((x:Int)+k) aE,.o 52 (.int (FI _):aj (.v (.int .u32 (IntKind.u32.wrap (((((a.getD x 0)*(b.getD k 0))+(((nL (a.getD x 0) x b (lP a b x) k).1).getD (x+k) 0))+(nL (a.getD x 0) x b (lP a b x) k).2:Nat):Int)))) (.v (.int .u32 ((((((a.getD x 0)*(b.getD k 0))+(((nL (a.getD x 0) x b (lP a b x) k).1).getD (x+k) 0))+(nL (a.getD x 0) x b (lP a b x) k).2)%4294967296:Nat):Int)))),.a (aE:0<=(32:Int)/\(32:Int)<=((64:Nat):Int)),.o 54 (.int (aaD _):aj (.v (.int .u64 ((((((a.getD x 0)*(b.getD k 0))+(((nL (a.getD x 0) x b (lP a b x) k).1).getD (x+k) 0))+(nL (a.getD x 0) x b (lP a b x) k).2:Nat):Int)/2^32))) (.v (.int .u64 ((((((a.getD x 0)*(b.getD k 0))+(((nL (a.getD x 0) x b (lP a b x) k).1).getD (x+k) 0))+(nL (a.getD x 0) x b (lP a b x) k).2)/4294967296:Nat):Int)))),
     iX ((x+k:Nat):Int) (a.length+b.length) aE,.a (aE:(x+k)<(a.length+b.length)),iq ((k:Int)+1) aE]<|.e (af [.o 8 (.int aT:aj (.v (.int .u64 ((((((a.getD x 0)*(b.getD k 0))+(((nL (a.getD x 0) x b (lP a b x) k).1).getD (x+k) 0))+(nL (a.getD x 0) x b (lP a b x) k).2)/4294967296:Nat):Int))) (.v (.int .u64 (((nL (a.getD x 0) x b (lP a b x) (k+1)).2:Nat):Int)))),.b 17 (QK rfl aE:Bx.le (.row false 171 (a.length+b.length) 1 (λi' j'=>if i'=(x+k)/\0<=j'/\j'<0+1 then[.v (.int .u32 ((((((a.getD x 0)*(b.getD k 0))+(((nL (a.getD x 0) x b (lP a b x) k).1).getD (x+k) 0))+(nL (a.getD x 0) x b (lP a b x) k).2)%4294967296:Nat):Int))].getD (j'-0) .any else(qv ((nL (a.getD x 0) x b (lP a b x) k).1)) i' j')) (.row false 171 (a.length+b.length) 1 (qv ((nL (a.getD x 0) x b (lP a b x) (k+1)).1))))])) aI)
  (λhk=>by
    exact iy (af [tF 28 ((b.length:Int)<b.length) aE]) aI) aM:jb 7 f269 (X6 a b x 0) (.exit 2) ⟨67,false,[(8,.e (.v (.int .u64 (((nL (a.getD x 0) x b (lP a b x) b.length).2:Nat):Int)))),(6,.e (iP x)),(20,.e (iP x)),(19,.e (iP a.length)),(18,.e (ia a)),(5,.own 17),(1,.e (ia b))],[(17,.row false 171 (a.length+b.length) 1 (qv ((nL (a.getD x 0) x b (lP a b x) b.length).1)))]⟩) (af [.o 8 (.int aT:aj (.v (.int .u64 0)) (.v (.int .u64 (((nL (a.getD x 0) x b (lP a b x) 0).2:Nat):Int)))),.b 17 (.iT rfl:Bx.le (.row false 171 (a.length+b.length) 1 (qv (lP a b x))) (.row false 171 (a.length+b.length) 1 (qv ((nL (a.getD x 0) x b (lP a b x) 0).1))))]),
     iq ((x:Int)+b.length) aE,.o 63 (.int (FI _):aj (.v (.int .u32 (IntKind.u32.wrap (((nL (a.getD x 0) x b (lP a b x) b.length).2:Nat):Int)))) (.v (.int .u32 (((nL (a.getD x 0) x b (lP a b x) b.length).2%4294967296:Nat):Int)))),
     iX ((x+b.length:Nat):Int) (a.length+b.length) aE,.a (aE:(x+b.length)<(a.length+b.length)),iq ((x:Int)+1) aE]<|.e (af [.b 17 (QK rfl aE:Bx.le (.row false 171 (a.length+b.length) 1 (λi' j'=>if i'=(x+b.length)/\0<=j'/\j'<0+1 then[.v (.int .u32 (((nL (a.getD x 0) x b (lP a b x) b.length).2%4294967296:Nat):Int))].getD (j'-0) .any else(qv ((nL (a.getD x 0) x b (lP a b x) b.length).1)) i' j')) (.row false 171 (a.length+b.length) 1 (qv (lP a b (x+1)))))])) aI)
  (λhx=>by
    exact iy (af [tF 21 ((a.length:Int)<a.length) aE]) aI) aM:jb 3 f269 (X5 a b 0) (.exit 0) ⟨67,false,[(5,.own 17)],[(17,.row false 171 (a.length+b.length) 1 (qv (lP a b a.length)))]⟩) (af [.b 17 (ZS rfl (λi=>by simp[lP,bw,eZ];split<;>rfl):Bx.le (.row false 171 (a.length+b.length) 1 (λ_ j_=>[.v (.int .u32 0)].getD j_ .any)) (.row false 171 (a.length+b.length) 1 (qv (lP a b 0))))])]<|rR (ia (lP a b a.length)) (aaK (by rw[(Hy ha hb a.length aE).len]):E.le (.sl false (a.length+b.length) 1 (qv (lP a b a.length))) (ia (lP a b a.length)))) 
def PT(L:List Nat)(h:L.length<=256):gV 268 [ia L] (bP false):=
 ak call268 func268 (af [tF 5 (256<(L.length:Int)) aE]) 
def akI(L:List Nat)(h1:L.length<=256):gV 230 [(.sl true 1 1 λi_ j_=>[ia L].getD (i_*1+j_) (.v (.bool false)))] (bP false):=
 ak call230 func230 (af [.c (XA true 1 _ 268 [] (λ_=>false) (λi hi=>(match i,hi with|0,_=>PT _ h1|n+1,hi=>absurd hi aE)) aE (λ_ _=>rfl):gV 267 [(.sl true 1 1 λi_ j_=>[ia L].getD (i_*1+j_) (.v (.bool false))),.fn 268 []] _)]) 
def Yn(L:List Nat)(M:List Nat)(h1:L.length<=256)(h2:M.length<=256):gV 230 [(.sl true 2 1 λi_ j_=>[ia L,ia M].getD (i_*1+j_) (.v (.bool false)))] (bP false):=
 ak call230 func230 (af [.c (XA true 2 _ 268 [] (λ_=>false) (λi hi=>(match i,hi with|0,_=>PT _ h1|1,_=>PT _ h2|n+2,hi=>absurd hi aE)) aE (λ_ _=>rfl):gV 267 [(.sl true 2 1 λi_ j_=>[ia L,ia M].getD (i_*1+j_) (.v (.bool false))),.fn 268 []] _)]) 
def akK(L M:List Nat)(hL:iK L)(hM:iK M)(h1:L.length<=256)(h2:M.length<=256)(hf:(gW (val L*val M)).length<=256):gV 234 [ia L,ia M] (.iw [ia (gW (val L*val M)),iP 0]):=by
 have ka:=hL.iG;have kb:=hM.iG;have ta:=pY L;have tb:=pY M;unfold mX at ta tb;have km:=(Hy ka kb _ (bu _)).ok;have he:iG (lP (iG L) (iG M) (iG L).length)=gW (val L*val M):=by rw[rO km,apa ka kb,qA,qA]
 have hd:(iG (lP (iG L) (iG M) (iG L).length)).length<=256:=by rw[he];exact hf
 exact ak call234 func234 (ae [.c (Yn L M aF aF),ag [ia L] (vh _ hL),ag [ia M] (vh _ hM),ag [ia (iG L),ia (iG M)] (akJ _ _ ka kb aE aE),ag [ia (lP (iG L) (iG M) (iG L).length)] (Yl _ km hd)]<|rQ (.iw [ia (iG (lP (iG L) (iG M) (iG L).length)),iP 0]) (.iw [ia (gW (val L*val M)),iP 0]) (by rw[he])) 
def ze(m n:Nat)(h1:(gW m).length<=256)(h2:(gW n).length<=256)(hf:(gW (m*n)).length<=256):gV 234 [ia (gW m),ia (gW n)] (.iw [ia (gW (m*n)),iP 0]):=by
 have:=akK (gW m) (gW n) (ml m) (ml n) h1 h2 (by rw[kq,kq];exact hf);rwa[kq,kq]at this
def xp(m n:Nat)(h1:(gW m).length<=256)(h2:n<=65536)(h3:(gW (m*2^n)).length<=256):gV 283 [ia (gW m),iP n] (ia (gW (m*2^n))):=
 ak call283 func283 (af [ag [ia (gW m),iP n] (PU _ _ aE aE aE)]) 
def Qv(m n:Nat)(h1:(gW m).length<=256)(h2:n<=65536):gV 284 [ia (gW m),iP n] (.iw [ia (gW (m/2^n)),bP (decide (m%2^n≠0))]):=by
 have hb:=zL h1;have hq:(gW (m/2^n)).length<=256:=oX (by have:=vz (b7 m (2^n));omega);have ui:(gW (m/2^n*2^n)).length<=256:=oX (by have:=vz (dh m (2^n));omega);have hr:(gW (m/2^ie m)).length<=256:=oX (by have:=vz (b7 m (2^ie m));omega);have nY:(gW (m/2^ie m*2^ie m)).length<=256:=oX (by have:=vz (dh m (2^ie m));omega);by_cases hn:ie m<n
 .have q1:=TP (dt hn);have q2:=TP (bu (ie m));exact ak call284 func284 (ae [ag [ia (gW m)] (tf _ aE),tT 11 ((ie m:Int)<n) aE,ag [ia (gW m)] (tf _ aE),ag [ia (gW m),iP (ie m:Int)] (K7 _ _ aE aE),.c (xp (m/2^(ie m)) (ie m) aE aE aE),ag [ia (gW ((m/2^(ie m))*2^(ie m))),ia (gW m)] (y9 _ _ aE aE)]<|rQ (.iw [ia (gW (m/2^(ie m))),bP ((kI ((m/2^(ie m))*2^(ie m)) m) != 0)]) (.iw [ia (gW (m/2^n)),bP (decide (m%2^n≠0))]) (by rw[XK,q1.1,q1.2,q2.1,q2.2])) 
 .exact ak call284 func284 (ae [ag [ia (gW m)] (tf _ aE),tF 11 ((ie m:Int)<n) aE,ag [ia (gW m),iP n] (K7 _ _ aE aE),.c (xp (m/2^n) n aE aE aE),ag [ia (gW ((m/2^n)*2^n)),ia (gW m)] (y9 _ _ aE aE)]<|rQ (.iw [ia (gW (m/2^n)),bP ((kI ((m/2^n)*2^n) m) != 0)]) (.iw [ia (gW (m/2^n)),bP (decide (m%2^n≠0))]) (by rw[XK])) 
abbrev Ro:E:=.sl false 1 1 λi_ j_=>[.v (.int .u32 1)].getD (i_*1+j_) (.v (.bool false))
abbrev Mc(p):=ia (gW (0*2^((0-(jk 0 0 p)).toNat)))
def oI(m:Nat)(e:Int)(p:Nat):Nat:=if jk m e p<=e then m*2^(e-jk m e p).toNat else m/2^(jk m e p-e).toNat
def sY(m:Nat)(e:Int)(more:Bool)(p:Nat):Bool:=if jk m e p<=e then more else(more||decide (m%2^(jk m e p-e).toNat≠0))
def afi(m:Nat)(e:Int)(more:Bool)(p:Nat):om m e more p false=oI m e p:=by unfold om oI;simp
def M8{m:Nat}{e:Int}{more:Bool}{p:Nat}(hm:more=true->p<ie m):om m e more p true=oI m e p+if sY m e more p=true then 1 else 0:=by
 unfold om oI sY;by_cases hU:jk m e p<=e
 .have hmo:more=false:=by
   cases OE:more with
   |false=>rfl
   |true=>have:=hm OE;unfold jk at hU;omega
  simp[hU,hmo]
 .simp [hU]
def al2(m:Nat)(e:Int)(more up:Bool)(p:Nat)(h1:(gW m).length<=256)(h0:m≠0)(il:8<=p)(ic:p<=512)(mv:-45000<=e)(lr:e<=45000)(hm:more=true->p<ie m):gV 285 [.agg [ia (gW m),iP e,bP more],iP (p:Int),bP up] (.iw [gZ (kn false m e more p up),iP (jY false m e more p up)]):=by
 have Wj:=TC (e:=e) true h0 hm (aE:1<=p);have w8:=TC (e:=e) false h0 hm (aE:1<=p);have hb:=zL h1;have pO:=ny h0;have hqb:=TB (e:=e) (more:=more) (p:=p) (up:=true) h0;have hqa:=TB (e:=e) (more:=more) (p:=p) (up:=false) h0;rw[afi]at w8 hqa;have hu1:-16384<=(jk m e p):=by unfold jk;omega
 have hu2:(jk m e p)<=60000:=by unfold jk;omega
 have hu3:(jk m e p)<=max (e+8192) (-16384):=by unfold jk;omega
 have fa:(gW (oI m e p)).length<=256:=oX aE;have fb:(gW (om m e more p true)).length<=256:=oX aE;have f1:(gW 1).length<=256:=oX aG;cases up with
 |true=>
  exact ak call285 func285 (ae [ag [ia (gW m)] (tf _ aE),iq (e+(ie m:Int)) aE,iq ((e+(ie m:Int))-(p:Int)) aE,.o 21 (aq (if(-16384)>((e+(ie m:Int))-(p:Int))then(-16384)else((e+(ie m:Int))-(p:Int))) (jk m e p) (by unfold jk;split<;>omega)),.j 58 ⟨84,true,[(9,.e (ia (gW (oI m e p)))),(10,.e (bP (sY m e more p))),(8,.e (iP (jk m e p))),(6,.box 6 0),(1,.e (iP p)),(2,.e (bP true))],[(6,.cells 31 ar)]⟩
   (.w ((jk m e p)<=e)
    (λm1=>by
     have fx:(gW (m*2^(e-(jk m e p)).toNat)).length<=256:=by have:=fa;rwa[show oI m e p=_ from bk m1]at this
     exact ae [.v 29 (.bool (bn m1)),iq (e-(jk m e p)) aE,.o 35 (aq (e-(jk m e p)) ((e-(jk m e p)).toNat:Int) aE),.c (xp m ((e-(jk m e p)).toNat:Nat) aE aE aE)]<|.e (af [.o 9 (.e (.iT (by rw[show oI m e p=_ from bk m1])):aj (ia (gW (m*2^((e-(jk m e p)).toNat)))) (ia (gW (oI m e p)))),tB 10 (by simp[sY,m1]:more=(sY m e more p))]))
    (λm1=>ae [.v 29 (.bool (bt m1)),iq ((jk m e p)-e) aE,.o 43 (aq ((jk m e p)-e) (((jk m e p)-e).toNat:Int) aE),.c (Qv m (((jk m e p)-e).toNat:Nat) aE aE)]<|.w (more=true)
     (λm2=>ae [tB 48 m2]<|.e (af [.o 9 (.e (.iT (by rw[show oI m e p=_ from bj m1])):aj (ia (gW (m/2^(((jk m e p)-e).toNat)))) (ia (gW (oI m e p)))),tB 10 (by simp[sY,m1,m2]:true=(sY m e more p))]))
     (λm2=>ae [tB 48 (bd m2)]<|.e (af [.o 9 (.e (.iT (by rw[show oI m e p=_ from bj m1])):aj (ia (gW (m/2^(((jk m e p)-e).toNat)))) (ia (gW (oI m e p)))),tB 10 (by simp[sY,m1,m2]:(decide (m%2^(((jk m e p)-e).toNat)≠0))=(sY m e more p))])))),.j 110 ⟨84,true,[(9,.e (ia (gW (om m e more p true)))),(8,.e (iP (jk m e p))),(6,.box 6 0),(1,.e (iP p)),(2,.e (bP true))],[(6,.cells 31 ar)]⟩
   (.w (sY m e more p=true)
    (λm1=>by
     have fx:(gW (oI m e p+1)).length<=256:=by have:=fb;rwa[M8 hm,bk m1]at this
     exact ae [.v 55 (.bool m1),.o 58 (.e yi:aj Ro (ia (gW 1))),ag [ia (gW (oI m e p)),ia (gW 1)] (H9 _ _ aE aE aE)]<|.e (af [.o 9 (.e (.iT (by rw[M8 hm,bk m1])):aj (ia (gW ((oI m e p)+1))) (ia (gW (om m e more p true))))]))
    (λm1=>ae [.v 55 (.bool (bd m1))]<|.e (af [.o 9 (.e (.iT (by rw[M8 hm,bj m1,bY])):aj (ia (gW (oI m e p))) (ia (gW (om m e more p true))))]))),ag [ia (gW (om m e more p true))] (tf _ aE),iq ((ie (om m e more p true):Int)+(jk m e p)) aE]<|.w (16384<((ie (om m e more p true):Int)+(jk m e p)))
   (λk1=>by
    have w1:=(Wj.resolve_left (λh=>absurd k1 aE)).2.resolve_right (λh=>absurd h.1 aG);exact ae [tB 66 (bn k1),.o 68 (.e qO:aj (.agg ar) (gZ iA))]<|rQ (.iw [gZ iA,iP 9]) (.iw [gZ (kn false m e more p true),iP (jY false m e more p true)]) (by rw[w1.2.1,w1.2.2]))
   (λk1=>by
    have w1:=Wj.resolve_right (λh=>k1 h.1);have hd:mT (canon false (om m e more p true) (jk m e p)):=by rw[<-w1.2.1];exact(ua false m e more p true aE aE).range
    exact ae [tB 66 (bt k1),ag [bP false,ia (gW (om m e more p true)),iP (jk m e p)] (yL _ _ _ aE aE aE aF)]<|rQ (.iw [gZ (canon false (om m e more p true) (jk m e p)),iP 0]) (.iw [gZ (kn false m e more p true),iP (jY false m e more p true)]) (by rw[w1.2.1,w1.2.2]))) 
 |false=>
  exact ak call285 func285 (ae [ag [ia (gW m)] (tf _ aE),iq (e+(ie m:Int)) aE,iq ((e+(ie m:Int))-(p:Int)) aE,.o 21 (aq (if(-16384)>((e+(ie m:Int))-(p:Int))then(-16384)else((e+(ie m:Int))-(p:Int))) (jk m e p) (by unfold jk;split<;>omega)),.j 58 ⟨84,true,[(9,.e (ia (gW (oI m e p)))),(10,.e (bP (sY m e more p))),(8,.e (iP (jk m e p))),(6,.box 6 0),(1,.e (iP p)),(2,.e (bP false))],[(6,.cells 31 ar)]⟩
   (.w ((jk m e p)<=e)
    (λm1=>by
     have fx:(gW (m*2^(e-(jk m e p)).toNat)).length<=256:=by have:=fa;rwa[show oI m e p=_ from bk m1]at this
     exact ae [.v 29 (.bool (bn m1)),iq (e-(jk m e p)) aE,.o 35 (aq (e-(jk m e p)) ((e-(jk m e p)).toNat:Int) aE),.c (xp m ((e-(jk m e p)).toNat:Nat) aE aE aE)]<|.e (af [.o 9 (.e (.iT (by rw[show oI m e p=_ from bk m1])):aj (ia (gW (m*2^((e-(jk m e p)).toNat)))) (ia (gW (oI m e p)))),tB 10 (by simp[sY,m1]:more=(sY m e more p))]))
    (λm1=>ae [.v 29 (.bool (bt m1)),iq ((jk m e p)-e) aE,.o 43 (aq ((jk m e p)-e) (((jk m e p)-e).toNat:Int) aE),.c (Qv m (((jk m e p)-e).toNat:Nat) aE aE)]<|.w (more=true)
     (λm2=>ae [tB 48 m2]<|.e (af [.o 9 (.e (.iT (by rw[show oI m e p=_ from bj m1])):aj (ia (gW (m/2^(((jk m e p)-e).toNat)))) (ia (gW (oI m e p)))),tB 10 (by simp[sY,m1,m2]:true=(sY m e more p))]))
     (λm2=>ae [tB 48 (bd m2)]<|.e (af [.o 9 (.e (.iT (by rw[show oI m e p=_ from bj m1])):aj (ia (gW (m/2^(((jk m e p)-e).toNat)))) (ia (gW (oI m e p)))),tB 10 (by simp[sY,m1,m2]:(decide (m%2^(((jk m e p)-e).toNat)≠0))=(sY m e more p))])))),ag [ia (gW (oI m e p))] (tf _ aE),iq ((ie (oI m e p):Int)+(jk m e p)) aE]<|.w (16384<((ie (oI m e p):Int)+(jk m e p)))
   (λk1=>by
    have w1:=(w8.resolve_left (λh=>absurd k1 aE)).2.resolve_left (λh=>absurd h.1 aG);have hd:mT (canon false ((1*2^p)-1) (16384-(p:Int))):=by rw[b9,<-w1.2.1];exact(ua false m e more p false aE aE).range
    have g0:ie (1*2^p)=p+1:=by rw[b9];exact yH (bu _) (gP aG aE)
    have g1:(gW 1).length<=256:=oX aG;have g2:(gW (1*2^p)).length<=256:=oX aE;have g4:1<=1*2^p:=by rw[b9];exact bD aG 
    have g3:(gW ((1*2^p)-1)).length<=256:=oX (by have:=vz (dz (1*2^p) 1);omega);exact ae [tB 66 (bn k1),.o 70 (.e yi:aj Ro (ia (gW 1))),.c (xp 1 p aE aE aE),.o 73 (.e yi:aj Ro (ia (gW 1))),ag [ia (gW (1*2^p)),ia (gW 1)] (Dx _ _ aE aE aE),iq (16384-(p:Int)) aE,ag [bP false,ia (gW ((1*2^p)-1)),iP (16384-(p:Int))] (yL _ _ _ aE aE aE aF)]<|rQ (.iw [gZ (canon false ((1*2^p)-1) (16384-(p:Int))),iP 0]) (.iw [gZ (kn false m e more p false),iP (jY false m e more p false)]) (by rw[w1.2.1,w1.2.2,b9]))
   (λk1=>by
    have w1:=w8.resolve_right (λh=>k1 h.1);have hd:mT (canon false (oI m e p) (jk m e p)):=by rw[<-w1.2.1];exact(ua false m e more p false aE aE).range
    exact ae [tB 66 (bt k1),ag [bP false,ia (gW (oI m e p)),iP (jk m e p)] (yL _ _ _ aE aE aE aF)]<|rQ (.iw [gZ (canon false (oI m e p) (jk m e p)),iP 0]) (.iw [gZ (kn false m e more p false),iP (jY false m e more p false)]) (by rw[w1.2.1,w1.2.2]))) 
def al3(up:Bool)(p:Nat)(il:8<=p)(ic:p<=512):gV 285 [.agg [ia (gW 0),iP 0,bP false],iP (p:Int),bP up] (.iw [gZ (kn false 0 0 false p up),iP (jY false 0 0 false p up)]):=by
 have hU:jk 0 0 p = -(p:Int):=by unfold jk;rw[rX];omega
 have hK:jW 0 0 p=0:=by unfold jW;rw[rX];omega
 have hQ:lF 0 0 false p up=0:=by unfold lF;rw[hK];simp
 have hO:mN 0 0 false p up=false:=by unfold mN;rw[hQ];simp
 have qd:(false != up)=up:=by cases up<;>rfl
 have k2:kn false 0 0 false p up=iA:=by unfold kn;rw[qd,hO,bj aG,hQ];rfl
 have k3:jY false 0 0 false p up=0:=by unfold jY;rw[qd,hO];rfl
 have lz:ie 0=0:=rfl;have l0:(gW 0).length<=256:=by rw[oz];decide
 have l1:(gW (0*2^(0-jk 0 0 p).toNat)).length<=256:=by rw[cM];exact l0
 have lb:ie (0*2^(0-jk 0 0 p).toNat)=0:=by rw[cM];rfl
 have hd:mT (canon false (0*2^(0-jk 0 0 p).toNat) (jk 0 0 p)):=by rw[cM];exact .inl rfl
 by_cases Wq:up=true
 .exact ak call285 func285 (ae [ag [ia (gW 0)] (tf _ aE),iq (0+(ie 0:Int)) aE,iq ((0+(ie 0:Int))-(p:Int)) aE,.o 21 (aq (if(-16384)>((0+(ie 0:Int))-(p:Int))then(-16384)else((0+(ie 0:Int))-(p:Int))) (jk 0 0 p) (by unfold jk;rw[rX];split<;>omega)),tT 29 ((jk 0 0 p)<=0) aE,iq (0-(jk 0 0 p)) aE,.o 35 (aq (0-(jk 0 0 p)) ((0-(jk 0 0 p)).toNat:Int) aE),.c (xp 0 ((0-(jk 0 0 p)).toNat:Nat) aE aE aE),ah 52 up Wq,ag [Mc p] (tf _ aE),
   iq ((ie (0*2^((0-(jk 0 0 p)).toNat)):Int)+(jk 0 0 p)) aE,tF 66 (16384<((ie (0*2^((0-(jk 0 0 p)).toNat)):Int)+(jk 0 0 p))) aE,ag [bP false,Mc p,iP (jk 0 0 p)] (yL _ _ _ aE aE aE aF)]<|rQ (.iw [gZ (canon false (0*2^((0-(jk 0 0 p)).toNat)) (jk 0 0 p)),iP 0]) (.iw [gZ (kn false 0 0 false p up),iP (jY false 0 0 false p up)]) (by rw[k2,k3,cM];rfl)) 
 .exact ak call285 func285 (ae [ag [ia (gW 0)] (tf _ aE),iq (0+(ie 0:Int)) aE,iq ((0+(ie 0:Int))-(p:Int)) aE,.o 21 (aq (if(-16384)>((0+(ie 0:Int))-(p:Int))then(-16384)else((0+(ie 0:Int))-(p:Int))) (jk 0 0 p) (by unfold jk;rw[rX];split<;>omega)),tT 29 ((jk 0 0 p)<=0) aE,iq (0-(jk 0 0 p)) aE,.o 35 (aq (0-(jk 0 0 p)) ((0-(jk 0 0 p)).toNat:Int) aE),.c (xp 0 ((0-(jk 0 0 p)).toNat:Nat) aE aE aE),ai 52 up (by simpa using Wq),ag [Mc p] (tf _ aE),
   iq ((ie (0*2^((0-(jk 0 0 p)).toNat)):Int)+(jk 0 0 p)) aE,tF 66 (16384<((ie (0*2^((0-(jk 0 0 p)).toNat)):Int)+(jk 0 0 p))) aE,ag [bP false,Mc p,iP (jk 0 0 p)] (yL _ _ _ aE aE aE aF)]<|rQ (.iw [gZ (canon false (0*2^((0-(jk 0 0 p)).toNat)) (jk 0 0 p)),iP 0]) (.iw [gZ (kn false 0 0 false p up),iP (jY false 0 0 false p up)]) (by rw[k2,k3,cM];rfl)) 
def Fo(m:Nat)(e:Int)(more up:Bool)(p:Nat)(h1:(gW m).length<=256)(h0:m≠0\/m=0/\e=0/\more=false)(il:8<=p)(ic:p<=512)(mv:-45000<=e)(lr:e<=45000)(hm:more=true->p<ie m):gV 285 [.agg [ia (gW m),iP e,bP more],iP (p:Int),bP up] (.iw [gZ (kn false m e more p up),iP (jY false m e more p up)]):=by
 rcases h0 with h0|⟨rfl,rfl,rfl⟩
 .exact al2 m e more up p h1 h0 il ic mv lr hm
 .exact al3 up p il ic
def nj(p:Int):Bool:=decide (8<=p)&&decide (p<=512)
def sT{p:Int}:nj p=true↔8<=p/\p<=512:=by simp[nj]
def xf(p:Int):gV 144 [iP p] (bP (nj p)):=by
 by_cases h:8<=p
 .exact ak call144 func144 (ae [tB 4 (bn h)]<|rQ (bP (decide (p<=512))) (bP (nj p)) (by simp[nj,h])) 
 .exact ak call144 func144 (ae [tB 4 (bt h)]<|rQ (bP false) (bP (nj p)) (by simp[nj,h])) 
def al5(p:Int):gV 281 [iP p] (bP (nj p)):=by
 by_cases h:8<=p
 .exact ak call281 func281 (ae [tB 4 (bn h)]<|rQ (bP (decide (p<=512))) (bP (nj p)) (by simp[nj,h])) 
 .exact ak call281 func281 (ae [tB 4 (bt h)]<|rQ (bP false) (bP (nj p)) (by simp[nj,h])) 
def Zl(l:List Dy)(p:Nat)(i:Nat):PS:=⟨20,true,[(9,.e (iP i)),(8,.e (iP l.length)),(7,.e (jN l)),(0,.e (iP p))],[]⟩
def It(neg:Bool)(m:Nat)(e:Int)(more up:Bool)(p:Nat)(h1:(gW m).length<=256)(h0:m≠0\/m=0/\e=0/\more=false)(il:8<=p)(ic:p<=512)(mv:-45000<=e)(lr:e<=45000)(hm:more=true->p<ie m):gV 250 [bP neg,.agg [ia (gW m),iP e,bP more],iP p,bP up] (.iw [gZ (kn neg m e more p up),iP (jY neg m e more p up)]):=by
 cases neg with
 |true=>
  have hs:=TF true m e more p up;change _/\(jY false m e more p (!(up==true))=0->_->jf (kn false m e more p (!(up==true)))=_)/\((jY false m e more p (!(up==true))≠0\/_)->kn false m e more p (!(up==true))=_)at hs;have hE:jY true m e more p up=jY false m e more p (!(up==true)):=hs.1;have hv:=ua false m e more p (!(up==true)) (aE:1<=p) aE;by_cases hz:jY false m e more p (!(up==true))=0
  .exact ak call250 func250 (ae [ag [.agg [ia (gW m),iP e,bP more],iP p,bP (!(up==true))] (Fo _ _ _ _ _ aE aF aE aE aE aE aF),ah 22 ((jY false m e more p (!(up==true)))==0) (by rw[hz];rfl),ag [gZ (kn false m e more p (!(up==true)))] (yM _ aF)]<|rQ (.iw [gZ (jf (kn false m e more p (!(up==true)))),iP (jY false m e more p (!(up==true)))]) (.iw [gZ (kn true m e more p up),iP (jY true m e more p up)]) (by rw[hs.2.1 hz rfl,hE])) 
  .exact ak call250 func250 (ae [ag [.agg [ia (gW m),iP e,bP more],iP p,bP (!(up==true))] (Fo _ _ _ _ _ aE aF aE aE aE aE aF),ai 22 ((jY false m e more p (!(up==true)))==0) (by simpa using hz)]<|rQ (.iw [gZ (kn false m e more p (!(up==true))),iP (jY false m e more p (!(up==true)))]) (.iw [gZ (kn true m e more p up),iP (jY true m e more p up)]) (by rw[hs.2.2 (.inl hz),hE])) 
 |false=>
  have hs:=TF false m e more p up;change _/\(jY false m e more p (!(up==false))=0->_->jf (kn false m e more p (!(up==false)))=_)/\((jY false m e more p (!(up==false))≠0\/_)->kn false m e more p (!(up==false))=_)at hs;have hE:jY false m e more p up=jY false m e more p (!(up==false)):=hs.1;have hv:=ua false m e more p (!(up==false)) (aE:1<=p) aE;by_cases hz:jY false m e more p (!(up==false))=0
  .exact ak call250 func250 (ae [ag [.agg [ia (gW m),iP e,bP more],iP p,bP (!(up==false))] (Fo _ _ _ _ _ aE aF aE aE aE aE aF),ah 22 ((jY false m e more p (!(up==false)))==0) (by rw[hz];rfl)]<|rQ (.iw [gZ (kn false m e more p (!(up==false))),iP (jY false m e more p (!(up==false)))]) (.iw [gZ (kn false m e more p up),iP (jY false m e more p up)]) (by rw[hs.2.2 (.inr rfl),hE])) 
  .exact ak call250 func250 (ae [ag [.agg [ia (gW m),iP e,bP more],iP p,bP (!(up==false))] (Fo _ _ _ _ _ aE aF aE aE aE aE aF),ai 22 ((jY false m e more p (!(up==false)))==0) (by simpa using hz)]<|rQ (.iw [gZ (kn false m e more p (!(up==false))),iP (jY false m e more p (!(up==false)))]) (.iw [gZ (kn false m e more p up),iP (jY false m e more p up)]) (by rw[hs.2.2 (.inl hz),hE])) 
def al4(d:Dy):gV 282 [gZ d] (.agg [ia (gW d.m),iP d.e,bP false]):=
 ak call282 func282 (.nil) 
def Zm(p:Nat)(l:List Dy)(hl:l.length<=1000)(hv:∀ i,i<l.length->(l.getD i iA).ib)(il:8<=p)(ic:p<=512):gV 247 [iP p,jN l] (iP 0):=
 ak call247 func247 (af [.s (Sp.jc (Zl l p) 0 l.length aE (λi hi oK=>by
    have Wt:=hv i oK;exact iy (af [tT 10 ((i:Int)<l.length) aE,iX (i:Int) (l.length) aE,ag [gZ (l.getD i iA)] (nB _ aF),iq ((i:Int)+1) aE]) aI)
  (λhi=>by
    exact iy (af [tF 10 ((l.length:Int)<l.length) aE]) aI) aM:jb 2 f247 (Zl l p 0) (.exit 0) ⟨20,true,[(0,.e (iP p))],[]⟩) .nil,ag [iP p] (al5 _),ah 18 (nj (p:Int)) (sT.2 ⟨aE,aE⟩)]) 
def Qu(p:Nat)(a:Dy)(ha:a.ib)(il:8<=p)(ic:p<=512):gV 247 [iP (p:Int),jN [a]] (iP 0):=
 Zm p [a] aK (λi hi=>(match i,hi with
  | 0,_=>ha
  |n+1,hi=>absurd hi aK)) il ic
def yo(p:Nat)(a b:Dy)(ha:a.ib)(hb:b.ib)(il:8<=p)(ic:p<=512):gV 247 [iP (p:Int),jN [a,b]] (iP 0):=
 Zm p [a,b] aK (λi hi=>(match i,hi with
  | 0,_=>ha
  | 1,_=>hb
  |n+2,hi=>absurd hi aK)) il ic
def Lw(d:Dy)(p:Nat)(up:Bool)(hd:d.ib)(il:8<=p)(ic:p<=512):gV 248 [gZ d,iP p,bP up] (.iw [gZ (kp d p up),iP (j8 d p up)]):=by
 have hl:=hd.gW;have hz:d.m≠0\/d.m=0/\d.e=0/\false=false:=by
  by_cases h:d.m=0
  .rcases hd.canon with q|q
   .exact .inr ⟨h,q.2.2,rfl⟩
   .omega
  .exact .inl h
 have KK:-45000<=d.e:=by have:=hd.exp;omega
 have wa:d.e<=45000:=by have:=hd.exp;omega
 have hm:false=true->p<ie d.m:=λh=>by cases h
 exact ak call248 func248 (af [.o 11 (.e (Bg _):aj (.sl true 1 3 λi_ j_=>(ix d).getD (i_*3+j_) (.v (.bool false))) (jN [d])),ag [iP p,jN [d]] (Qu _ _ aF aE aE),ai 14 ((0:Int) != 0) aG,.c (al4 d),.c (It d.neg d.m d.e false up p aE aF aE aE aE aE aF)]) 
def Ej{a b:Nat}:kI a b<0↔a<b:=by
 unfold kI;split
 .simp_all
 .split<;>simp_all
def Lx(a b:Dy)(p:Nat)(ha:a.ib)(hb:b.ib)(a0:a.m≠0)(b0:b.m≠0)(ht:b.im<=a.im)(il:8<=p)(ic:p<=512):gV 249 [gZ a,gZ b,iP p] (.iw [.agg [ia (gW (mw a b p)),iP (jo a b p),bP (nS a b p)],bP (pW a b p)]):=by
 have sz:=L3 ha hb a0 b0 ht ic;have sp:=Rb ha hb a0 b0 ht ic;obtain⟨l1,l2,l3,l4,l5,l6,l7,l8,l9⟩:=sz;obtain⟨l10,l11,l12⟩:=sp;obtain⟨r1,r2,r3⟩:=QH a b p;have va:=ha.gW;have vb:=hb.gW;have xa:=ha.exp;have xb:=hb.exp;have ta:=IP a0;have tb:=IP b0;have ba:=zL va;have bb:=zL vb;have z1:(gW (a.m*2^((a.e-(jo a b p)).toNat))).length<=256:=oX (aE:ie (oB a b p)<=_);have zy:(gW (nm b (jo a b p))).length<=256:=oX aE;have z3:(gW (nk a b p)).length<=256:=oX aE;have zm:(gW (mw a b p)).length<=256:=oX aE;have z5:(gW 1).length<=256:=oX aG;exact ak call249 func249 (ae [ag [gZ a] (mW _ aF),iq ((Dy.im a)-(p:Int)) aE,iq (((Dy.im a)-(p:Int))-8) aE,ag [gZ a] (mW _ aF),ag [gZ b] (mW _ aF),iq ((Dy.im a)-(Dy.im b)) aE,.j 62 ⟨109,true,[(8,.e (iP (jo a b p))),(6,.box 6 0),(4,.box 4 0),(3,.box 3 0)],[(6,.cells 215 [.v (.slice none 0 0),iP 0,bP false]),(4,.cells 31 (ix b)),(3,.cells 31 (ix a))]⟩
   (.w (((Dy.im a)-(Dy.im b))<=2)
    (λm1=>ae [.v 31 (.bool (bn m1))]<|.e (af [.o 8 (aq (if b.e<(if(((Dy.im a)-(p:Int))-8)<a.e then(((Dy.im a)-(p:Int))-8)else a.e)then b.e else(if(((Dy.im a)-(p:Int))-8)<a.e then(((Dy.im a)-(p:Int))-8)else a.e)) (jo a b p) (by unfold jo;rw[bk m1];split<;>split<;>omega))]))
    (λm1=>ae [.v 31 (.bool (bt m1))]<|.e (af [.o 8 (aq (if(((Dy.im a)-(p:Int))-8)<a.e then(((Dy.im a)-(p:Int))-8)else a.e) (jo a b p) (by unfold jo;rw[bj m1];split<;>omega))]))),
  iq (a.e-(jo a b p)) aE,.o 41 (aq (a.e-(jo a b p)) ((a.e-(jo a b p)).toNat:Int) aE),.c (xp a.m ((a.e-(jo a b p)).toNat) aE aE aE),.j 92 ⟨109,true,[(10,.e (ia (gW (nm b (jo a b p))))),(11,.e (bP (od b (jo a b p)))),(9,.e (ia (gW (a.m*2^((a.e-(jo a b p)).toNat))))),(8,.e (iP (jo a b p))),(6,.box 6 0),(4,.box 4 0),(3,.box 3 0)],[(6,.cells 215 [.v (.slice none 0 0),iP 0,bP false]),(4,.cells 31 (ix b)),(3,.cells 31 (ix a))]⟩
   (.w ((jo a b p)<=b.e)
    (λm1=>by
     have z2:(gW (b.m*2^((b.e-(jo a b p)).toNat))).length<=256:=by have:=zy;rwa[show nm b (jo a b p)=_ from bk m1]at this
     exact ae [.v 46 (.bool (bn m1)),iq (b.e-(jo a b p)) aE,.o 52 (aq (b.e-(jo a b p)) ((b.e-(jo a b p)).toNat:Int) aE),.c (xp b.m ((b.e-(jo a b p)).toNat) aE aE aE)]<|.e (af [.o 10 (.e (.iT (by rw[show nm b (jo a b p)=_ from bk m1])):aj (ia (gW (b.m*2^((b.e-(jo a b p)).toNat)))) (ia (gW (nm b (jo a b p))))),tB 11 (by simp[od,m1]:false=(od b (jo a b p)))]))
    (λm1=>ae [.v 46 (.bool (bt m1)),iq ((jo a b p)-b.e) aE,.o 60 (aq ((jo a b p)-b.e) (((jo a b p)-b.e).toNat:Int) aE),.c (Qv b.m (((jo a b p)-b.e).toNat) aE aE)]<|.e (af [.o 10 (.e (.iT (by rw[show nm b (jo a b p)=_ from bj m1])):aj (ia (gW (b.m/2^(((jo a b p)-b.e).toNat)))) (ia (gW (nm b (jo a b p))))),tB 11 (by simp[od,m1]:(decide (b.m%2^(((jo a b p)-b.e).toNat)≠0))=(od b (jo a b p)))])))]<|.w (a.neg=b.neg)
  (λk1=>by
   have eT:pW a b p=false:=by unfold pW;simp[k1]
   have eY:nk a b p=nm b (jo a b p):=by unfold nk;simp[k1]
   have eM:mw a b p=oB a b p+nm b (jo a b p):=by unfold mw;rw[bk k1,eY]
   have eS:nS a b p=od b (jo a b p):=by unfold nS;rw[eT];simp
   have z4:(gW ((a.m*2^((a.e-(jo a b p)).toNat))+nm b (jo a b p))).length<=256:=by have:=zm;rwa[eM]at this
   exact ae [tB 68 (bc k1),ag [ia (gW (a.m*2^((a.e-(jo a b p)).toNat))),ia (gW (nm b (jo a b p)))] (H9 _ _ aE aE aE)]<|rQ (.iw [.agg [ia (gW ((a.m*2^((a.e-(jo a b p)).toNat))+(nm b (jo a b p)))),iP (jo a b p),bP (od b (jo a b p))],bP false]) (.iw [.agg [ia (gW (mw a b p)),iP (jo a b p),bP (nS a b p)],bP (pW a b p)]) (by rw[eM,eS,eT];rfl))
  (λk1=>ae [tB 68 (a7 k1),.j 158 ⟨109,true,[(10,.e (ia (gW (nk a b p)))),(11,.e (bP (od b (jo a b p)))),(9,.e (ia (gW (a.m*2^((a.e-(jo a b p)).toNat))))),(8,.e (iP (jo a b p))),(6,.box 6 0)],[(6,.cells 215 [.v (.slice none 0 0),iP 0,bP false])]⟩
   (.w (od b (jo a b p)=true)
    (λm1=>by
     have z6:(gW ((nm b (jo a b p))+1)).length<=256:=oX (by rw[show(nm b (jo a b p))+1=nk a b p by(unfold nk;simp[k1,m1])];omega);exact ae [.v 79 (.bool m1),.o 82 (.e yi:aj (.sl false 1 1 λi_ j_=>[.v (.int .u32 1)].getD (i_*1+j_) (.v (.bool false))) (ia (gW 1))),ag [ia (gW (nm b (jo a b p))),ia (gW 1)] (H9 _ _ aE aE aE)]<|.e (af [.o 10 (.e (.iT (by unfold nk;simp[k1,m1])):aj (ia (gW ((nm b (jo a b p))+1))) (ia (gW (nk a b p))))]))
    (λm1=>ae [.v 79 (.bool (bd m1))]<|.e (af [.o 10 (.e (.iT (by unfold nk;simp[k1,m1])):aj (ia (gW (nm b (jo a b p)))) (ia (gW (nk a b p))))]))),ag [ia (gW (a.m*2^((a.e-(jo a b p)).toNat))),ia (gW (nk a b p))] (y9 _ _ aE aE)]<|.w ((kI (a.m*2^((a.e-(jo a b p)).toNat)) (nk a b p))<0)
   (λk2=>by
    have hc:oB a b p<nk a b p:=Ej.1 k2;have eT:pW a b p=true:=by unfold pW;simp[k1,hc]
    have eM:mw a b p=nk a b p-oB a b p:=by unfold mw;rw[bj k1,bk hc]
    have eS:nS a b p=false:=by unfold nS;rw[eT];simp
    have z4:(gW (nk a b p-(a.m*2^((a.e-(jo a b p)).toNat)))).length<=256:=by have:=zm;rwa[eM]at this
    have z7:(a.m*2^((a.e-(jo a b p)).toNat))<=nk a b p:=dt hc;exact ae [tB 89 (bn k2),ag [ia (gW (nk a b p)),ia (gW (a.m*2^((a.e-(jo a b p)).toNat)))] (Dx _ _ aE aE aE)]<|rQ (.iw [.agg [ia (gW ((nk a b p)-(a.m*2^((a.e-(jo a b p)).toNat)))),iP (jo a b p),bP false],bP true]) (.iw [.agg [ia (gW (mw a b p)),iP (jo a b p),bP (nS a b p)],bP (pW a b p)]) (by rw[eM,eS,eT];rfl))
   (λk2=>by
    have hc:¬oB a b p<nk a b p:=λh=>k2 (Ej.2 h)
    have eT:pW a b p=false:=by unfold pW;simp[hc]
    have eM:mw a b p=oB a b p-nk a b p:=by unfold mw;rw[bj k1,bj hc]
    have eS:nS a b p=od b (jo a b p):=by unfold nS;rw[eT];simp
    have z4:(gW ((a.m*2^((a.e-(jo a b p)).toNat))-nk a b p)).length<=256:=by have:=zm;rwa[eM]at this
    have z7:nk a b p<=(a.m*2^((a.e-(jo a b p)).toNat)):=aqP hc;exact ae [tB 89 (bt k2),ag [ia (gW (a.m*2^((a.e-(jo a b p)).toNat))),ia (gW (nk a b p))] (Dx _ _ aE aE aE)]<|rQ (.iw [.agg [ia (gW ((a.m*2^((a.e-(jo a b p)).toNat))-(nk a b p))),iP (jo a b p),bP (od b (jo a b p))],bP false]) (.iw [.agg [ia (gW (mw a b p)),iP (jo a b p),bP (nS a b p)],bP (pW a b p)]) (by rw[eM,eS,eT];rfl)))) 
def B7(p:Nat)(up:Bool):kp iA p up=iA/\j8 iA p up=0:=by
 have hK:jW 0 0 p=0:=by unfold jW;rw[rX];omega
 have hQ:∀ o,lF 0 0 false p o=0:=by intro o;unfold lF;rw[hK];simp
 have hO:∀ o,mN 0 0 false p o=false:=by intro o;unfold mN;rw[hQ];simp
 unfold kp j8 kn jY;simp only[iA,hO,hQ];exact⟨rfl,rfl⟩
def Zh(a b:Dy)(p:Nat)(up:Bool)(ha:a.ib)(hb:b.ib)(il:8<=p)(ic:p<=512):gV 203 [gZ a,gZ b,iP p,bP up] (.iw [gZ (kp (iJ a b) p up),iP (j8 (iJ a b) p up)]):=by
 by_cases a0:a.m=0
 .have e1:iJ a b=b:=by unfold iJ;rw[bk a0]
  exact ak call203 func203 (ae [.o 16 (.e (xH _ _):aj (.sl true 2 3 λi_ j_=>(ix a++ix b).getD (i_*3+j_) (.v (.bool false))) (jN [a,b])),ag [iP p,jN [a,b]] (yo _ _ _ aF aF aE aE),ai 19 ((0:Int) != 0) aG,ah 26 (((gW a.m).length:Int)==0) (sk (pE.2 a0)),.c (Lw b p up aF aE aE)]<|rQ (.iw [gZ (kp b p up),iP (j8 b p up)]) (.iw [gZ (kp (iJ a b) p up),iP (j8 (iJ a b) p up)]) (by rw[e1])) 
 .by_cases b0:b.m=0
  .have e1:iJ a b=a:=by unfold iJ;rw[bj a0,bk b0]
   exact ak call203 func203 (ae [.o 16 (.e (xH _ _):aj (.sl true 2 3 λi_ j_=>(ix a++ix b).getD (i_*3+j_) (.v (.bool false))) (jN [a,b])),ag [iP p,jN [a,b]] (yo _ _ _ aF aF aE aE),ai 19 ((0:Int) != 0) aG,ai 26 (((gW a.m).length:Int)==0) (ni (nR a0)),ah 37 (((gW b.m).length:Int)==0) (sk (pE.2 b0)),.c (Lw a p up aF aE aE)]<|rQ (.iw [gZ (kp a p up),iP (j8 a p up)]) (.iw [gZ (kp (iJ a b) p up),iP (j8 (iJ a b) p up)]) (by rw[e1])) 
  .by_cases ht:a.im<b.im
   .have tE:a.im<=b.im:= aE ;have law:=aa5 (p:=p) hb ha b0 a0 up;have siz:=L3 hb ha b0 a0 tE ic;have prt:=Rb hb ha b0 a0 tE ic;obtain⟨l1,l2,_,_,_,_,_,_,_⟩:=siz;have z1:(gW (mw b a p)).length<=256:=oX aE;have tw:=prt.2.2;have y1:-45000<=jo b a p:= aE ;have y2:jo b a p<=45000:= aE ;by_cases hz:mw b a p=0
    .by_cases hl:nS b a p=true
     .have h0:mw b a p≠0:=by intro q;have:=tw hl;rw[q,rX]at this;omega
      exact absurd hz h0
     .replace hz:mw b a p=0/\nS b a p=false:=⟨hz,by simpa using hl⟩
      have EO:iJ a b=iA:=by rw[Q7 a0 b0];exact law.1 hz
      exact ak call203 func203 (ae [.o 16 (.e (xH _ _):aj (.sl true 2 3 λi_ j_=>(ix a++ix b).getD (i_*3+j_) (.v (.bool false))) (jN [a,b])),ag [iP p,jN [a,b]] (yo _ _ _ aF aF aE aE),ai 19 ((0:Int) != 0) aG,ai 26 (((gW a.m).length:Int)==0) (ni (nR a0)),ai 37 (((gW b.m).length:Int)==0) (ni (nR b0)),ag [gZ a] (mW _ aF),ag [gZ b] (mW _ aF),tB 48 (bn ht),.c (Lx b a p aF aF aF aF aF aE aE),ah 61 (((gW (mw b a p)).length:Int)==0) (sk (pE.2 hz.1)),ai 64 (nS b a p) hz.2,.o 67 (.e qO:aj (.agg ar) (gZ iA))]<|rQ (.iw [gZ iA,iP 0]) (.iw [gZ (kp (iJ a b) p up),iP (j8 (iJ a b) p up)]) (by rw[EO,(B7 p up).1,(B7 p up).2])) 
    .have h0:mw b a p≠0\/mw b a p=0/\jo b a p=0/\nS b a p=false:=.inl hz;obtain⟨q1,q2⟩:=law.2 (λq=>hz q.1);rw[<-Q7 a0 b0]at q1 q2;exact ak call203 func203 (ae [.o 16 (.e (xH _ _):aj (.sl true 2 3 λi_ j_=>(ix a++ix b).getD (i_*3+j_) (.v (.bool false))) (jN [a,b])),ag [iP p,jN [a,b]] (yo _ _ _ aF aF aE aE),ai 19 ((0:Int) != 0) aG,ai 26 (((gW a.m).length:Int)==0) (ni (nR a0)),ai 37 (((gW b.m).length:Int)==0) (ni (nR b0)),ag [gZ a] (mW _ aF),ag [gZ b] (mW _ aF),tB 48 (bn ht),.c (Lx b a p aF aF aF aF aF aE aE),ai 61 (((gW (mw b a p)).length:Int)==0) (ni (nR hz)),.c (It (! (b.neg==(pW b a p))) (mw b a p) (jo b a p) (nS b a p) up p aE aF aE aE aE aE aF)]<|rQ (.iw [gZ (kn (!(b.neg==(pW b a p))) (mw b a p) (jo b a p) (nS b a p) p up),iP (jY (!(b.neg==(pW b a p))) (mw b a p) (jo b a p) (nS b a p) p up)]) (.iw [gZ (kp (iJ a b) p up),iP (j8 (iJ a b) p up)]) (by rw[<-q1,<-q2];rfl)) 
   .have tE:b.im<=a.im:= aE ;have law:=aa5 (p:=p) ha hb a0 b0 up;have siz:=L3 ha hb a0 b0 tE ic;have prt:=Rb ha hb a0 b0 tE ic;obtain⟨l1,l2,_,_,_,_,_,_,_⟩:=siz;have z1:(gW (mw a b p)).length<=256:=oX aE;have tw:=prt.2.2;have y1:-45000<=jo a b p:= aE ;have y2:jo a b p<=45000:= aE ;by_cases hz:mw a b p=0
    .by_cases hl:nS a b p=true
     .have h0:mw a b p≠0:=by intro q;have:=tw hl;rw[q,rX]at this;omega
      exact absurd hz h0
     .replace hz:mw a b p=0/\nS a b p=false:=⟨hz,by simpa using hl⟩
      have EO:iJ a b=iA:=by exact law.1 hz
      exact ak call203 func203 (ae [.o 16 (.e (xH _ _):aj (.sl true 2 3 λi_ j_=>(ix a++ix b).getD (i_*3+j_) (.v (.bool false))) (jN [a,b])),ag [iP p,jN [a,b]] (yo _ _ _ aF aF aE aE),ai 19 ((0:Int) != 0) aG,ai 26 (((gW a.m).length:Int)==0) (ni (nR a0)),ai 37 (((gW b.m).length:Int)==0) (ni (nR b0)),ag [gZ a] (mW _ aF),ag [gZ b] (mW _ aF),tB 48 (bt ht),.c (Lx a b p aF aF aF aF aF aE aE),ah 61 (((gW (mw a b p)).length:Int)==0) (sk (pE.2 hz.1)),ai 64 (nS a b p) hz.2,.o 67 (.e qO:aj (.agg ar) (gZ iA))]<|rQ (.iw [gZ iA,iP 0]) (.iw [gZ (kp (iJ a b) p up),iP (j8 (iJ a b) p up)]) (by rw[EO,(B7 p up).1,(B7 p up).2])) 
    .have h0:mw a b p≠0\/mw a b p=0/\jo a b p=0/\nS a b p=false:=.inl hz;obtain⟨q1,q2⟩:=law.2 (λq=>hz q.1);exact ak call203 func203 (ae [.o 16 (.e (xH _ _):aj (.sl true 2 3 λi_ j_=>(ix a++ix b).getD (i_*3+j_) (.v (.bool false))) (jN [a,b])),ag [iP p,jN [a,b]] (yo _ _ _ aF aF aE aE),ai 19 ((0:Int) != 0) aG,ai 26 (((gW a.m).length:Int)==0) (ni (nR a0)),ai 37 (((gW b.m).length:Int)==0) (ni (nR b0)),ag [gZ a] (mW _ aF),ag [gZ b] (mW _ aF),tB 48 (bt ht),.c (Lx a b p aF aF aF aF aF aE aE),ai 61 (((gW (mw a b p)).length:Int)==0) (ni (nR hz)),.c (It (! (a.neg==(pW a b p))) (mw a b p) (jo a b p) (nS a b p) up p aE aF aE aE aE aE aF)]<|rQ (.iw [gZ (kn (!(a.neg==(pW a b p))) (mw a b p) (jo a b p) (nS a b p) p up),iP (jY (!(a.neg==(pW a b p))) (mw a b p) (jo a b p) (nS a b p) p up)]) (.iw [gZ (kp (iJ a b) p up),iP (j8 (iJ a b) p up)]) (by rw[<-q1,<-q2];rfl)) 
def Zo(a b:Dy)(p:Nat)(up:Bool)(ha:a.ib)(hb:b.ib)(il:8<=p)(ic:p<=512):gV 291 [gZ a,gZ b,iP p,bP up] (.iw [gZ (kp (iY a b) p up),iP (j8 (iY a b) p up)]):=by
 by_cases a0:a.m=0
 .have e1:iY a b=iA:=by unfold iY;rw[a0,cM];rfl
  exact ak call291 func291 (ae [.o 16 (.e (xH _ _):aj (.sl true 2 3 λi_ j_=>(ix a++ix b).getD (i_*3+j_) (.v (.bool false))) (jN [a,b])),ag [iP p,jN [a,b]] (yo _ _ _ aF aF aE aE),ai 19 ((0:Int) != 0) aG,ah 25 (((gW a.m).length:Int)==0) (sk (pE.2 a0)),.o 32 (.e qO:aj (.agg ar) (gZ iA))]<|rQ (.iw [gZ iA,iP 0]) (.iw [gZ (kp (iY a b) p up),iP (j8 (iY a b) p up)]) (by rw[e1,(B7 p up).1,(B7 p up).2])) 
 .by_cases b0:b.m=0
  .have e1:iY a b=iA:=by unfold iY;rw[b0,cL];rfl
   exact ak call291 func291 (ae [.o 16 (.e (xH _ _):aj (.sl true 2 3 λi_ j_=>(ix a++ix b).getD (i_*3+j_) (.v (.bool false))) (jN [a,b])),ag [iP p,jN [a,b]] (yo _ _ _ aF aF aE aE),ai 19 ((0:Int) != 0) aG,ai 25 (((gW a.m).length:Int)==0) (ni (nR a0)),ah 30 (((gW b.m).length:Int)==0) (sk (pE.2 b0)),.o 32 (.e qO:aj (.agg ar) (gZ iA))]<|rQ (.iw [gZ iA,iP 0]) (.iw [gZ (kp (iY a b) p up),iP (j8 (iY a b) p up)]) (by rw[e1,(B7 p up).1,(B7 p up).2])) 
  .have va:=ha.gW;have vb:=hb.gW;have xa:=ha.exp;have xb:=hb.exp;have ra:=ha.range.resolve_left a0;have rb:=hb.range.resolve_left b0;have bm:=Jv a.m b.m;have z1:(gW (a.m*b.m)).length<=256:=oX aE;have m0:a.m*b.m≠0:=dm a0 b0;have h0:a.m*b.m≠0\/a.m*b.m=0/\a.e+b.e=0/\false=false:=.inl m0;have hm:false=true->p<ie (a.m*b.m):=λh=>by cases h
   obtain⟨q1,q2⟩:=ZM (a.neg != b.neg) up (a.m*b.m) (a.e+b.e) p m0;change kp (iY a b) p up=_ at q1;change j8 (iY a b) p up=_ at q2;exact ak call291 func291 (ae [.o 16 (.e (xH _ _):aj (.sl true 2 3 λi_ j_=>(ix a++ix b).getD (i_*3+j_) (.v (.bool false))) (jN [a,b])),ag [iP p,jN [a,b]] (yo _ _ _ aF aF aE aE),ai 19 ((0:Int) != 0) aG,ai 25 (((gW a.m).length:Int)==0) (ni (nR a0)),ai 30 (((gW b.m).length:Int)==0) (ni (nR b0)),ag [ia (gW a.m),ia (gW b.m)] (ze _ _ aE aE aE),iq (a.e+b.e) aE,.c (It (! (a.neg==b.neg)) (a.m*b.m) (a.e+b.e) false up p aE aF aE aE aE aE aF)]<|rQ (.iw [gZ (kn (!(a.neg==b.neg)) (a.m*b.m) (a.e+b.e) false p up),iP (jY (!(a.neg==b.neg)) (a.m*b.m) (a.e+b.e) false p up)]) (.iw [gZ (kp (iY a b) p up),iP (j8 (iY a b) p up)]) (by rw[q1,q2];rfl)) 
def al1(a b:Dy)(p:Nat)(ha:a.ib)(hb:b.ib)(il:8<=p)(ic:p<=512):gV 145 [gZ a,gZ b,iP p] (.iw [gZ (kp (iJ a b) p false),iP (j8 (iJ a b) p false)]):=
 ak call145 func145 (af [.c (Zh a b p false aF aF aE aE)]) 
def Zg(a b:Dy)(p:Nat)(ha:a.ib)(hb:b.ib)(il:8<=p)(ic:p<=512):gV 136 [gZ a,gZ b,iP p] (.iw [gZ (kp (iJ a b) p true),iP (j8 (iJ a b) p true)]):=
 ak call136 func136 (af [.c (Zh a b p true aF aF aE aE)]) 
def Lu(a b:Dy)(p:Nat)(ha:a.ib)(hb:b.ib)(il:8<=p)(ic:p<=512):gV 254 [gZ a,gZ b,iP p] (.iw [gZ (kp (iY a b) p false),iP (j8 (iY a b) p false)]):=
 ak call254 func254 (af [.c (Zo a b p false aF aF aE aE)]) 
def Lv(a b:Dy)(p:Nat)(ha:a.ib)(hb:b.ib)(il:8<=p)(ic:p<=512):gV 255 [gZ a,gZ b,iP p] (.iw [gZ (kp (iY a b) p true),iP (j8 (iY a b) p true)]):=
 ak call255 func255 (af [.c (Zo a b p true aF aF aE aE)]) 
end Go.Proofs.YtgdahmmlddfimaaGreatDoor
namespace Go.Proofs.YtgdahmmlddfimaaGreatDoor.Fp
def ajD{U V P q:Nat}(hP:0<P)(hV:9223372036854775808<=V/P)(hUV:U<4294967296*V)(h1:q<=4294967295)(h2:q<=U/P/(V/P))(h3:q=4294967295\/U/P/(V/P)<=q):
 U/V<=q/\q<=U/V+1:=by
 have N5:0<V/P:= aE ;have xJ:0<V:=by
  apply bT;intro h;have:V=0:= aE ;rw[this,Nat.zero_div]at N5;omega
 have hVm:=cN V P;have hVr:=bM V hP;have hUm:=cN U P;have hUr:=bM U hP;constructor
 .
  rcases h3 with h3|h3
  .have:U/V<4294967296:=by rw[cA xJ];exact hUV
   omega
  .refine bA ?_ h3;rw[cW N5,cW hP,bH];have h4:V/P*P<=V:=dh V P;exact bA (cO _ h4) (dh U V)
 .
  have h4:q*(V/P)<=U/P:=(cW N5).1 h2;have h5:q*V<=q*(V/P)*P+q*P:=by
   have:V<=V/P*P+P:=by rw[bL];omega
   have:=cO q this;rw[bU,<-bH]at this;exact this
  have h6:q*(V/P)*P<=U:=bA (bW P h4) (dh U P);have h7:(q+1)*P<=V/P*P:=bW P aE;have h8:V/P*P<=V:=dh V P;have h9:q*V<U+V:=by
   rw[b8,b9]at h7;omega
  apply bT;intro h;have qF:(U/V+2)*V<=q*V:=bW V aE;have sP:=cN U V;have h12:=bM U xJ;rw[b8,bL (U/V)]at qF;omega
def afn{x v w third q rest:Nat}(hx:q*v+rest=x)(hq:q<=4294967295)(hw:w<4294967296)(hv:0<v)
 (h:4294967296<=rest\/q*w<=rest*4294967296+third):q<=(x*4294967296+third)/(v*4294967296+w):=by
 rw[cW aE,bU,<-hx];have e:q*(v*4294967296)=q*v*4294967296:=by rw[bH]
 rw[e,b8];rcases h with h|h
 .have h1:q*w<=4294967295*4294967295:=dr hq aE ;omega
 .omega
def TK{x v w third q rest:Nat}(hx:q*v+rest=x)(hv:0<v)(h:rest*4294967296+third<q*w):
 (x*4294967296+third)/(v*4294967296+w)<=q-1/\0<q/\(q-1)*v+(rest+v)=x:=by
 have hq:0<q:=by
  apply bT;intro h';have:q=0:= aE ;subst this;rw[cM]at h;omega
 obtain⟨r,rfl⟩:∃ r,q=r+1:=⟨q-1,aE⟩
 refine⟨?_,hq,?_⟩
 .have e1:(r+1)*(v*4294967296+w)=(r+1)*v*4294967296+(r+1)*w:=by rw[bU,<-bH]
  have e2:((r+1)*v+rest)*4294967296=(r+1)*v*4294967296+rest*4294967296:=b8 _ _ _;have:(x*4294967296+third)/(v*4294967296+w)<r+1:=by
   have hd:0<v*4294967296+w:= aE ;have e4:x*4294967296=(r+1)*v*4294967296+rest*4294967296:=hx▸e2;refine(cA hd).2 ?_;rw[e1,e4];clear e1 e2 e4 hd hx hq;generalize (r+1)*v=a at *
   generalize (r+1)*w=z at *
   exact Nat.add_lt_add_left h _|>λh=>by rw[<-cR]at h;exact h
  omega
 .have e3:(r+1)*v=r*v+v:=apV r v;rw[er];rw[e3]at hx;clear e3 h hq;generalize r*v=a at *
  omega
def afp{x v w third:Nat}(hv:0<v)(ht:third<4294967296):(x*4294967296+third)/(v*4294967296+w)<=x/v:=by
 have h1:(x*4294967296+third)/(v*4294967296+w)<=(x*4294967296+third)/(v*4294967296):=aqn aE aE;refine bA h1 ?_;rw[bL v,<-dk];have:(x*4294967296+third)/4294967296=x:= aE ;rw[this];exact bu _
structure yD(O0:List Nat)(j q:Nat)(V:List Nat)(k:Nat)(O:List Nat)(c b:Nat):Prop where
 len:O.length=O0.length
 ok:iK O
 vl:val O+q*(4294967296^j*val (V.take k))=val O0+4294967296^(j+k)*(c+b)
 qL:∀ i,j+k<=i->O.getD i 0=O0.getD i 0
 SP:c<4294967296
 Sz:b<=1
def yD.start{O0:List Nat}(h:iK O0)(j q:Nat)(V:List Nat):yD O0 j q V 0 O0 0 0:=
 ⟨rfl,h,by simp[val],λ_ _=>rfl,aG,aG⟩
def aoE{q y c b u:Nat}(hq:q<=4294967295)(hy:y<4294967296)(hc:c<4294967296)(hb:b<=1)(hu:u<4294967296):
 q*y+c<18446744073709551616/\(q*y+c)/4294967296<4294967296 /\
 ((u+18446744073709551616-(q*y+c)%4294967296-b)%18446744073709551616)/9223372036854775808<=1 /\
 ((u+18446744073709551616-(q*y+c)%4294967296-b)%18446744073709551616)%4294967296+(q*y+c)%4294967296+b =
  u+4294967296*(((u+18446744073709551616-(q*y+c)%4294967296-b)%18446744073709551616)/9223372036854775808):=by
 have h1:q*y<=4294967295*4294967295:=dr hq aE;generalize q*y=z at *
 omega
def yD.step{O0 V O:List Nat}{j q k c b:Nat}(h:yD O0 j q V k O c b){u' b':Nat}(hk:k<V.length)(hj:j+V.length<O0.length)(hu:u'<4294967296)(hc:(q*V.getD k 0+c)/4294967296<4294967296)(hb:b'<=1)
 (hd:u'+(q*V.getD k 0+c)%4294967296+b=O.getD (j+k) 0+4294967296*b'):
 yD O0 j q V (k+1) (O.set (j+k) u') ((q*V.getD k 0+c)/4294967296) b':=by
 have qG:j+k<O.length:=by rw[h.len];omega
 refine⟨by rw[dc];exact h.len,h.ok.set _ hu,?_,λi hi=>?_,hc,hb⟩
 .have e:=et (q*V.getD k 0+c) 4294967296;have h1:=DY (x:=u') qG;have h2:=h.vl;have h3:u'+(q*V.getD k 0+c)+b=O.getD (j+k) 0+4294967296*((q*V.getD k 0+c)/4294967296+b'):= aE ;have h4:=congrArg (4294967296^(j+k) * ·) h3;simp only[bU]at h4;rw[xw,bU (4294967296^j),bU q,<-bH (4294967296^j),<-bB,show q*(4294967296^(j+k)*V.getD k 0)=4294967296^(j+k)*(q*V.getD k 0)from dK _ _ _,
   show j+(k+1)=j+k+1 from rfl,bI,bH,bU 4294967296,bU (4294967296^(j+k))]
  rw[bU]at h2;omega
 .rw [Bm aE];exact h.qL i aE 
def yD.Pn{O0 V O:List Nat}{j q c b:Nat}(h:yD O0 j q V V.length O c b)(hj:j+V.length<O0.length){t:Nat}
 (ht:t=(O.getD (j+V.length) 0+18446744073709551616-c-b)%18446744073709551616):
 (O.set (j+V.length) (t%4294967296)).length=O0.length/\iK (O.set (j+V.length) (t%4294967296))/\t/9223372036854775808<=1 /\
 val (O.set (j+V.length) (t%4294967296))+q*(4294967296^j*val V)=val O0+4294967296^(j+V.length+1)*(t/9223372036854775808) /\
 ∀ i,j+V.length<i->(O.set (j+V.length) (t%4294967296)).getD i 0=O0.getD i 0:=by
 have qG:j+V.length<O.length:=by rw[h.len];omega
 have hc:=h.SP;have hb:=h.Sz;have hu:=h.ok.getD (j+V.length);have hd:t%4294967296+c+b=O.getD (j+V.length) 0+4294967296*(t/9223372036854775808):= aE ;refine⟨by rw[dc];exact h.len,h.ok.set _ (bM _ aG),aE,?_,λi hi=>by rw[Bm aE];exact h.qL i aE⟩;have h1:=DY (x:=t%4294967296) qG;have h2:=h.vl;rw[e9]at h2;have h4:=congrArg (4294967296^(j+V.length) * ·) hd;simp only[bU]at h4;rw[bI,bH];rw[bU]at h2;omega
structure yC(O0:List Nat)(j:Nat)(V:List Nat)(k:Nat)(O:List Nat)(c:Nat):Prop where
 len:O.length=O0.length
 ok:iK O
 vl:val O+4294967296^(j+k)*c=val O0+4294967296^j*val (V.take k)
 qL:∀ i,j+k<=i->O.getD i 0=O0.getD i 0
 MS:c<=1
def yC.start{O0:List Nat}(h:iK O0)(j:Nat)(V:List Nat):yC O0 j V 0 O0 0:=
 ⟨rfl,h,by simp[val],λ_ _=>rfl,aG⟩
def yC.step{O0 V O:List Nat}{j k c:Nat}(h:yC O0 j V k O c)(hV:iK V)(hk:k<V.length)(hj:j+V.length<O0.length):
 yC O0 j V (k+1) (O.set (j+k) ((O.getD (j+k) 0+V.getD k 0+c)%4294967296)) ((O.getD (j+k) 0+V.getD k 0+c)/4294967296):=by
 have qG:j+k<O.length:=by rw[h.len];omega
 have hu:=h.ok.getD (j+k);have hy:=hV.getD k;have hc:=h.MS;refine⟨by rw[dc];exact h.len,h.ok.set _ (bM _ aG),?_,λi hi=>by rw[Bm aE];exact h.qL i aE,aE⟩;have h1:=DY (x:=(O.getD (j+k) 0+V.getD k 0+c)%4294967296) qG;have h2:=h.vl;have h4:=congrArg (4294967296^(j+k) * ·) (et (O.getD (j+k) 0+V.getD k 0+c) 4294967296);simp only[bU]at h4;rw[xw,bU (4294967296^j),<-bH (4294967296^j),<-bB,show j+(k+1)=j+k+1 from rfl,bI,bH];omega
def yC.Pn{O0 V O:List Nat}{j c:Nat}(h:yC O0 j V V.length O c)(hj:j+V.length<O0.length):
 (O.set (j+V.length) ((O.getD (j+V.length) 0+c)%4294967296)).length=O0.length/\iK (O.set (j+V.length) ((O.getD (j+V.length) 0+c)%4294967296)) /\
 (∃ κ,κ<=1/\val (O.set (j+V.length) ((O.getD (j+V.length) 0+c)%4294967296))+4294967296^(j+V.length+1)*κ=val O0+4294967296^j*val V) /\
 ∀ i,j+V.length<i->(O.set (j+V.length) ((O.getD (j+V.length) 0+c)%4294967296)).getD i 0=O0.getD i 0:=by
 have qG:j+V.length<O.length:=by rw[h.len];omega
 have hu:=h.ok.getD (j+V.length);have hc:=h.MS;refine⟨by rw[dc];exact h.len,h.ok.set _ (bM _ aG),⟨(O.getD (j+V.length) 0+c)/4294967296,aE,?_⟩,λi hi=>by rw[Bm aE];exact h.qL i aE⟩;have h1:=DY (x:=(O.getD (j+V.length) 0+c)%4294967296) qG;have h2:=h.vl;rw[e9]at h2;have h4:=congrArg (4294967296^(j+V.length) * ·) (et (O.getD (j+V.length) 0+c) 4294967296);simp only[bU]at h4;rw[bI,bH];omega
def abt{O:List Nat}(h:iK O){k:Nat}(hz:∀ i,k<=i->O.getD i 0=0):val O<4294967296^k:=by
 by_cases hk:O.length<=k
 .exact bV (oE h) (bR aG hk)
 .rw [FJ O k aE];have:val (O.drop k)=0:=by
   rw[IV];intro x hx;obtain⟨i,hi⟩:=dC.1 hx;rw[eR]at hi;have:=hz (k+i) aE;rw[bw,hi]at this;exact this
  rw[this,cL,bY];have h1:=oE (h.take k);rw[cw,dj aE]at h1;exact h1
def aoO{O:List Nat}(h:iK O){k:Nat}(hv:val O<4294967296^k){i:Nat}(hi:k<=i):O.getD i 0=0:=by
 have h1:val (O.drop k)=0:=by rw[IU h,c9 hv]
 rw[IV]at h1;rw[bw];cases hg:O[i]? with
 |none=>rfl
 |some x=>exact h1 x (dC.2 ⟨i-k,by rw[eR,(aE:k+(i-k)=i)];exact hg⟩)
def TL{u u' V P x:Nat}(hP:0<P)(hV:0<V)(h:u'+x*(P*V)=u)(hx:u/P/V<=x):x=u/P/V/\u'<V*P:=by
 have h1:x*V<=u/P:=by
  rw[cW hP,bH,bL V P];omega
 have h2:x<=u/P/V:=(cW hV).2 h1;have h3:x=u/P/V:= aE ;refine⟨h3,?_⟩;have e1:=cN u P;have e2:=bM u hP;have e3:=cN (u/P) V;have e4:=bM (u/P) hV;rw[<-h3]at e3;have e5:P*(u/P)=x*(P*V)+P*(u/P%V):=by
  rw[<-e3,bU,e3,bL V x,dK]
 have e6:P*(u/P%V)+P<=V*P:=by
  rw[bL V P,<-Nat.mul_succ];exact cO P e4
 omega
def afo{u u' u'' V P R x κ:Nat}(hP:0<P)(hV:0<V)(h:u'+x*(P*V)=u+R)(h':u'<R)(hx:x<=u/P/V+1)
 (hk:κ<=1) (h2:u''+R*κ=u'+P*V) (h3:u''<R):0<x/\x-1=u/P/V/\u''+(x-1)*(P*V)=u/\u''<V*P:=by
 have oF:u/P<x*V:=by
  rw[cA hP,bH,bL V P];omega
 have KK:u/P/V<x:=by rw[cA hV];exact oF
 have wa:x=u/P/V+1:=Nat.le_antisymm hx KK;obtain⟨y,hy⟩:∃ y,y=u/P/V:=⟨_,rfl⟩
 rw[<-hy]at wa;subst wa;rw[er];have e0:(y+1)*(P*V)=y*(P*V)+P*V:=apV _ _;have e1:y*(P*V)<=u:=by
  have:y*V<=u/P:=by rw[hy];exact dh _ _
  have:=(cW hP).1 this;rw[bH,bL V P]at this;exact this
 have hκ:κ=1:=by
  apply bT;intro q;obtain rfl:κ=0:= aE ;omega
 subst hκ;have e2:u''+y*(P*V)=u:= aE ;exact⟨aE,hy,e2,(TL hP hV e2 aE).2⟩
def ub(q rest third v w x:Nat):Prop:=rest+x*v<4294967296/\(rest+x*v)*4294967296+third<(q-x)*w
def TH{X q rest third v w:Nat}(hx:q*v+rest=X)(hq:q<=4294967295)(hv:2147483648<=v)(hw:w<4294967296):
 ∃ N,N<=2/\N<=q/\(∀ x,x<N->ub q rest third v w x)/\¬ub q rest third v w N/\q-N<=(X*4294967296+third)/(v*4294967296+w)/\(N=0\/(X*4294967296+third)/(v*4294967296+w)<=q-N):=by
 have stop:∀ {q' r':Nat},q'*v+r'=X->q'<=4294967295->¬(r'<4294967296/\r'*4294967296+third<q'*w)->q'<=(X*4294967296+third)/(v*4294967296+w):=fun {q' r'} h1 h2 h3=>
  afn h1 h2 hw aE (by
   by_cases hr:4294967296<=r'
   .exact .inl hr
   .refine .inr (aqP λhn=>h3 ⟨aqo hr,hn⟩))
 by_cases h0:ub q rest third v w 0
 .have g0:=h0;unfold ub at g0;rw[cM,bY,dE]at g0;obtain⟨k1,k2,k3⟩:=TK hx aE g0.2;by_cases h1:ub q rest third v w 1
  .have g1:=h1;unfold ub at g1;rw[b9]at g1;obtain⟨l1,l2,l3⟩:=TK k3 aE g1.2;have h2:¬ub q rest third v w 2:=λh=>by unfold ub at h;omega
   refine⟨2,bu _,aE,λx hx=>?_,h2,?_,.inr l1⟩
   .obtain rfl|rfl:x=0\/x=1:= aE 
    .exact h0
    .exact h1
   .refine stop (r':=rest+v+v) l3 aE λh=> aE 
  .refine ⟨1,aG,k2,λx hx=>?_,h1,?_,.inr k1⟩
   .obtain rfl:x=0:= aE ;exact h0
   .unfold ub at h1;rw[b9]at h1;exact stop k3 aE h1
 .refine ⟨0,aG,bS _,λx hx=>absurd hx (bE x),h0,?_,.inl rfl⟩;unfold ub at h0;rw[cM,bY,dE]at h0;exact stop hx hq h0
def afA{a b s q r:Nat}(hb:0<b)(h:r+b*2^s*q=a*2^s)(hr:r<b*2^s):q=a/b/\r=a%b*2^s:=by
 have hp:0<2^s:=bD aG;have h1:r%2^s=0:=by
  have:=congrArg (· % 2^s) h;simp only[fU]at this;rw[bH,dK,en]at this;exact this
 obtain⟨t,ht⟩:∃ t,r=t*2^s:=⟨r/2^s,by rw[Nat.div_mul_cancel (Nat.dvd_of_mod_eq_zero h1)]⟩
 subst ht;have h2:(t+b*q)*2^s=a*2^s:=by rw[b8,<-h,gF]
 have h3:=aq1 hp h2;have h4:t<b:=aq2 hr;constructor
 .rw [<-h3,eI _ _ hb,c9 h4,cj]
 .rw [<-h3,en,ca h4]
def abe{O:List Nat}(h:iK O){j n:Nat}(hn:2<=n)(hz:∀ i,j+n<i->O.getD i 0=0):
 val O/4294967296^j/4294967296^(n-2)=(O.getD (j+n) 0*4294967296+O.getD (j+n-1) 0)*4294967296+O.getD (j+n-2) 0:=by
 rw[dk,<-bB,<-IU h];have e:∀ (l:List Nat),iK l->(∀ i,2<i->l.getD i 0=0)->val l=(l.getD 2 0*4294967296+l.getD 1 0)*4294967296+l.getD 0 0:=by
  intro l hl hz;rcases l with _|⟨a,_|⟨b,_|⟨c,l⟩⟩⟩
  .rfl
  .simp [val]
  .simp [val];omega
  .have:val l=0:=by
    rw[IV];intro x hx;obtain⟨i,hi⟩:=dC.1 hx;have:=hz (i+3) aE;rw[bw]at this;simp only[aqu,hi]at this;exact this
   simp[val,this];omega
 have g:∀ i,(O.drop (j+(n-2))).getD i 0=O.getD (j+(n-2)+i) 0:=λi=>by
  rw[bw,eR,bw]
 rw[e _ (h.drop _) (λi hi=>by rw[g];exact hz _ aE),g,g,g];rw[(aE:j+(n-2)+2=j+n),(aE:j+(n-2)+1=j+n-1),(aE:j+(n-2)+0=j+n-2)]
def aoL{V:List Nat}(h:iK V){n:Nat}(hn:2<=n)(hl:V.length=n):val V/4294967296^(n-2)=V.getD (n-1) 0*4294967296+V.getD (n-2) 0:=by
 have:=abe (O:=V) h (j:=0) (n:=n) hn (λi hi=>by rw[bw,ch aE];rfl);rw[cI,fe,cj]at this;rw[this,show V.getD n 0=0 by rw[bw,ch aE];rfl];omega
end Go.Proofs.YtgdahmmlddfimaaGreatDoor.Fp
namespace Go.Proofs.YtgdahmmlddfimaaGreatDoor
open Go.RowKit Fp
def Rx(w:World)(b:Nat)(L:List Nat)(R:List Value):Prop:=w.heap[b]? = some (.cells (oN L++R).toArray 171 (0,0))
section
variable {w w':World} {b:Nat} {L:List Nat} {R:List Value}
def Rx.lt(h:Rx w b L R):b<w.heap.size:=(de.1 h).1
def Rx.cell(h:Rx w b L R){i:Nat}(hi:i<L.length):w.cell? ⟨b,i,none⟩=some (.int .u32 (L.getD i 0:Int)):=by
 unfold Rx at h;simp only[World.cell?,h];simp[oN,hi,eU]
def Rx.frozen(h:Rx w b L R)(i:Nat):w.frozen? ⟨b,i,none⟩=false:=by
 unfold Rx at h;simp[World.frozen?,h]
def Rx.set(h:Rx w b L R){i:Nat}(hi:i<L.length)(x:Nat):Rx (w.setCell ⟨b,i,none⟩ (.int .u32 (x:Int))) b (L.set i x) R:=by
 unfold Rx at h ⊢;simp only[World.setCell,fm,h];simp[oN,List.map_set,List.set_append,hi]
def Rx.qL(h:Rx w b L R)(hb:w'.heap[b]? = w.heap[b]?):Rx w' b L R:=by unfold Rx at h ⊢;rw[hb];exact h
end
structure tW(b:Nat)(w w':World):Prop where
 below:Below b w w'
 size:w'.heap.size=w.heap.size
 pr:∀ x,x≠b->w'.heap[x]? = w.heap[x]?
def tW.refl(b:Nat)(w:World):tW b w w:=⟨Below.refl _ _,rfl,λ_ _=>rfl⟩
def tW.IE{b:Nat}{w w':World}(h:tW b w w')(i:Nat)(v:Value):tW b w (w'.setCell ⟨b,i,none⟩ v):=
 ⟨h.below.setCell (p:=⟨b,i,none⟩) (bu _) v,by
  have:(w'.setCell ⟨b,i,none⟩ v).heap.size=w'.heap.size:=by simp[World.setCell]
  rw[this,h.size],λx hx=>by
  rw[<-h.pr x hx];simp only[World.setCell,fm];rw[bj (λe=>hx e.symm)]⟩
def RA(b:Nat)(A:Option Addr):Prop:=∀ b' o s,A=some ⟨b',o,s⟩->b'≠b
def Sl.pr{w w':World}{A:Option Addr}{c b:Nat}{L:List Nat}(h:Sl w A c L)(ha:RA b A)(ho:tW b w w'):Sl w' A c L:=
 ⟨h.cap,h.rH,h.ok,h.zf,λi x hx=>by
  obtain⟨b',o,e,h1,h2⟩:=h.cell i x hx;refine⟨b',o,e,by rw[ho.size];exact h1,?_⟩;rw[<-h2];exact(World.cell?_of_block (w:=w) (w':=w') (ho.pr b' (ha _ _ _ e)))⟩
def abE{u m b:Nat}(hm:m<4294967296)(hb:b<=4294967296):
 IntKind.u64.wrap (IntKind.u64.wrap ((u:Int)-m)-(b:Int))=(((u+18446744073709551616-m-b)%18446744073709551616:Nat):Int):=by
 rw[IntKind.wrap_u64,IntKind.wrap_u64];omega
def aoC(b j cu c q:Nat)(O V:List Nat)(R:List Value)(A:Option Addr)(w:World)(hu:Rx w b O R)(hv:Sl w A c V)(hA:RA b A)(lj:iK O)(hj:j+V.length<O.length)(hq:q<=4294967295)(hl:O.length<=1000000):
 Calls prog 338 #[.slice (some ⟨b,j,none⟩) (V.length+1) cu,.slice A V.length c,.int .u64 q] w λe w'=>∃ (O':List Nat) (δ:Nat),e = .returned (.bool (decide (δ=1)))/\Rx w' b O' R/\O'.length=O.length/\iK O'/\δ<=1 /\
  val O'+q*(4294967296^j*val V)=val O+4294967296^(j+V.length+1)*δ/\(∀ i,j+V.length<i->O'.getD i 0=O.getD i 0)/\tW b w w':=by
 obtain⟨n,hn⟩:∃ n,n=V.length:=⟨_,rfl⟩
 rw[<-hn]at hj ⊢;have HN:=aq9 hn;have HJ:=aq9 hj;clear hn;have jL:n<=1000000:= aE ;have GO:j<=1000000:= aE ;clear hj;have HT0:=aq9 (yD.start lj j q V);clear lj;have HO:=aq9 (tW.refl b w);have HU:=aq9 hu;clear hu;go_enter func338,ntmps338;go_wp2;go_loopw [7,8,9,10,11,12,16] (λcy bo _ _ _ _ i wr=>∃ (k c' b':Nat) (O':List Nat),k<=n/\i = .int .i64 k/\cy = .int .u64 c'/\bo = .int .u64 b'/\yD O j q V k O' c' b'/\Rx wr b O' R/\tW b w wr) (λ_ _ _ _ _ _ i _=>n-(intOf i).toNat)
 case atStart=>
  exact⟨0,0,0,O,bS _,rfl,rfl,rfl,HT0.out,HU.out,HO.out⟩
 case round=>
  obtain⟨k,c',b',O',hk,rfl,rfl,rfl,ht,hR,ho⟩:=hrel;clear HT0 HO HU;have HTk:=aq9 ht;have kD:=ht.Sz;have Bt:=ht.SP;have HOl:=aq9 ht.len;clear ht;have OU:=hv.pr hA ho;by_cases iC:k<n
  .have Ad:k<V.length:=by rw[<-HN.out];exact iC
   obtain⟨ab,ao,e1,_,c1⟩:=OU.mi Ad;have qg:V.getD k 0<4294967296:=hv.ok.getD k;have WB:V[k]=V.getD k 0:=by simp[bw,Ad]
   rw[WB]at c1;have qG:j+k<O'.length:=by rw[HOl.out];have:=HJ.out;omega
   have c2:=hR.cell qG;have c3:=hR.frozen (j+k);have G9:O'.getD (j+k) 0<4294967296:=HTk.out.ok.getD _;obtain⟨vZ,kP,G4,Wh⟩:=aoE hq qg Bt kD G9;have HST:=aq9 (HTk.out.step (b':=((O'.getD (j+k) 0+18446744073709551616-(q*V.getD k 0+c')%4294967296-b')%18446744073709551616)/9223372036854775808) Ad (by rw[<-HN.out];exact HJ.out) (bM _ aG) kP G4 Wh);have HRS:=aq9 (λx:Nat=>hR.set qG x);have HOS:=aq9 (λ(v:Value)=>ho.IE (j+k) v);clear hR ho HTk qG WB Ad Wh HOl OU;subst e1;have V9:q*V.getD k 0<=4294967295*4294967295:=dr hq aE;have C9:IntKind.u64.wrap ((q:Int)*(V.getD k 0:Int))=((q*V.getD k 0:Nat):Int):=by rw[<-dZ];exact sK _ aE 
   generalize V.getD k 0=y at *
   generalize q*y=z at *
   have OV:IntKind.u64.wrap ((z:Int)+c')=((z+c':Nat):Int):=by rw[<-dJ];exact sK _ aE 
   generalize O'.getD (j+k) 0=u at *
   generalize z+c'=s at *
   have vV:bits .and .u64 (s:Int) 4294967295=((s%4294967296:Nat):Int):=by rw[xB s aE];omega
   have ap4:s%4294967296<4294967296:=bM _ aG;have hd:(s:Int)/4294967296=((s/4294967296:Nat):Int):= aE ;generalize s%4294967296=m at *
   generalize s/4294967296=s2 at *
   have hsb:=abE (u:=u) (m:=m) (b:=b') aE aE;generalize (u+18446744073709551616-m-b')%18446744073709551616=t at *
   have yV:(j:Int)+k=((j+k:Nat):Int):= aE ;go_wp2;go_roundw
   case rel=>
    have e1:((t:Int)%4294967296)=((t%4294967296:Nat):Int):= aE ;exact⟨k+1,s2,t/9223372036854775808,O'.set (j+k) (t%4294967296),aE,by go_num,by go_num,by go_num,HST.out,by rw[e1];exact HRS.out _,HOS.out _⟩
   case measure=>simp[intOf];omega
  .obtain rfl:k=n:= aE ;have Oq:j+k<O.length:=HJ.out;have HTk':=aq9 (show yD O j q V V.length O' c' b' by rw[<-HN.out];exact HTk.out);have HL:=HTk'.out.Pn (t:=(O'.getD (j+k) 0+18446744073709551616-c'-b')%18446744073709551616) (by rw[<-HN.out];exact Oq) (by rw[<-HN.out]);rw[<-HN.out]at HL;have HT:=aq9 HL;clear HL;have qG:j+k<O'.length:=by rw[HOl.out];exact Oq
   have c2:=hR.cell qG;have c3:=hR.frozen (j+k);have G9:O'.getD (j+k) 0<4294967296:=HTk.out.ok.getD _;have HRS:=aq9 (λx:Nat=>hR.set qG x);have HOS:=aq9 (λ(v:Value)=>ho.IE (j+k) v);clear hR ho HTk HTk' qG Oq HOl OU;generalize O'.getD (j+k) 0=u at *
   have hsb:=abE (u:=u) (m:=c') (b:=b') Bt aE;have htl:(u+18446744073709551616-c'-b')%18446744073709551616<18446744073709551616:=bM _ aG;generalize (u+18446744073709551616-c'-b')%18446744073709551616=t at *
   have yV:(j:Int)+k=((j+k:Nat):Int):= aE ;go_wp2;go_ret;have e1:((t:Int)%4294967296)=((t%4294967296:Nat):Int):= aE ;obtain⟨t1,t2,t3,t4,t5⟩:=HT.out;exact⟨O'.set (j+k) (t%4294967296),t/9223372036854775808,LD (a:=(((t:Int)/9223372036854775808)==1)) (by rw[dA,gq,gp];omega),by rw[e1];exact HRS.out _,t1,t2,t3,t4,t5,HOS.out _⟩
def Yx(A:Option Addr)(c:Nat)(L:List Nat)(n:Nat)(w:World)(hs:Sl w A c L)(hlen:L.length<=100000000)(hn:n<=65536):
 Calls prog 293 #[.slice A L.length c,.int .i64 n] w (λe w'=>∃ T v,e = .returned v/\val T=val L*2^n/\T.length=n/32+(iG L).length+1/\Ow w' w.heap.size v T/\iF w w'):=by
 have hT:=aq9 (wm A c L w hs);have kP:=hs.vt;have nX:=pY L;have hC:=kP.cap;have hL:=hs.rH;unfold mX at nX;have hv:=aq9 (qA L);generalize iG L=M at *
 obtain⟨m,hm⟩:∃ m,m=M.length:=⟨_,rfl⟩
 rw[<-hm]at hT nX hC;have HM:=aq9 hm;clear hm;have pT:=Px (n/32) (n/32+m+1) aE aE;rw[show((n/32:Nat):Int)=n/32 by omega,show((n/32+m+1:Nat):Int)=n/32+m+1 by omega]at pT;have GC:=aq9 (Ow.y8 w w.heap.size (n/32) (n/32+m+1) (bu _) aE aE);go_enter func293,ntmps293;go_wp2_with fail;refine hT.out.mono ?_;rintro e w' ⟨rfl,rfl⟩;go_wp2;go_loopw [5,6,23] (λv cy i wr=>∃ (k q:Nat) (O:List Nat),k<=m/\i = .int .i64 k/\cy = .int .u64 q/\q<2^(n%32)/\O.length=n/32+k/\val O+4294967296^(n/32+k)*q=val (M.take k)*2^(n%32)*4294967296^(n/32)/\Ow wr w.heap.size v O/\iF w wr) (λ_ _ i _=>m-(intOf i).toNat)
 case atStart=>
  exact⟨0,0,List.replicate (n/32) 0,bS _,rfl,rfl,bD aG,aK,by simp[AR],GC.out,iF.alloc _ _⟩
 case round=>
  obtain⟨k,q,O,hk,rfl,rfl,hq,hO,jQ,lv,hb⟩:=hrel;have HV:=aq9 jQ;have HO:=aq9 hO;have GB:O.length<=200000000:= aE ;have ui:=aq9 hq;clear jQ hO hq;obtain⟨OA,Oc,rfl,xR⟩:=lv.sl;by_cases iC:k<m
  .have pR:k<M.length:=by have:=HM.out;omega
   obtain⟨ab,ao,rfl,_,c1⟩:=(kP.below hb).mi pR;have mZ:M[k]<4294967296:=kP.ok.get pR;have HX:=aq9 (QZ (c:=q) (s:=n%32) (n0:=n/32) pR HO.out HV.out);generalize M[k]=x at *
   obtain⟨hw,xX,wb⟩:=Q0 x q (n%32) mZ (bM _ aG) ui.out;generalize x*2^(n%32)+q=z at *
   have Dd:=aq9 wb;clear wb;have lk:O.length+[z%4294967296].length<=10000000000:= aS ;go_wp2_with (at_builtin;go_must (refine tg aJ _ _ aJ w.heap.size _ O aJ (lv.alloc _) _ _ _ [z%4294967296] aJ aJ (Sl.vj _ _ (z%4294967296) aE aE) lk (sH hb.size _) ?_);intro v' w1 pk hg pC)
   go_roundw
   case rel=>
    exact⟨k+1,z/4294967296,O++[z%4294967296],aE,by go_num,by go_num,Dd.out,by rw[cz,HO.out];rfl,HX.out,pk,(hb.trans (iF.alloc _ _)).own _ _ (lv.alloc _) hg⟩
   case measure=>simp[intOf];omega
  .obtain rfl:k=m:= aE ;have lk:O.length+[q].length<=10000000000:= aS ;have KF:q<4294967296:=by
    have:=ui.out;have hp:2^(n%32)<=2^31:=bR aG aE;have e31:(2:Nat)^31=2147483648:= aG ;omega
   have Wg:(q:Int)%4294967296=q:= aE ;go_wp2_with (at_builtin;go_must (refine tg aJ _ _ aJ w.heap.size _ O aJ (lv.alloc _) _ _ _ [q] aJ aJ (Sl.vj _ _ q aE aE) lk (sH hb.size _) ?_);intro v' w1 pk hg pC)
   go_ret;refine⟨O++[q],v',rfl,?_,by rw[cz,HO.out,<-HM.out];rfl,pk,(hb.trans (iF.alloc _ _)).own _ _ (lv.alloc _) hg⟩;have h:=HV.out;rw[cK (by rw[HM.out];exact bu _)]at h;rw[wI,HO.out,rm,AO,cL,bY,h,<-hv.out,ss,bH,<-bB];congr 2;omega
end Go.Proofs.YtgdahmmlddfimaaGreatDoor
namespace Go.Proofs.YtgdahmmlddfimaaGreatDoor.Fp
def mY(n k:Nat):Nat:=n/4294967296^k%4294967296
def JK(n k:Nat):mY n k<4294967296:=bM _ aG 
def afm(k:Nat):mY 0 k=0:=by unfold mY;rw[Nat.zero_div]
def pw(k:Nat):0<4294967296^k:=bD aG 
def Gw{L:List Nat}(h:iK L)(k:Nat):L.getD k 0=mY (val L) k:=by
 unfold mY;rw[<-IU h];by_cases hk:k<L.length
 .rw [fj hk,show val (L[k]::L.drop (k+1))=L[k]+4294967296*val (L.drop (k+1))from rfl,en,ca (h.get hk)];simp[bw,hk]
 .rw [eo aE,bw,ch aE];rfl
def mod_succ(n k:Nat):n%4294967296^(k+1)=n%4294967296^k+4294967296^k*mY n k:=by
 rw[bI,Nat.mod_mul];rfl
def pz(n m:Nat):List Nat:=(List.range m).map (mY n)
def Bc(n m:Nat):(pz n m).length=m:=by simp[pz]
def Ga(n m:Nat):iK (pz n m):=λx hx=>by
 obtain⟨k,_,rfl⟩:=dv.1 hx;exact JK n k
def afr{n m k:Nat}(h:k<m):(pz n m).getD k 0=mY n k:=by
 simp[pz,bw,h]
def afq(m i:Nat):(pz 0 m).getD i 0=0:=by
 by_cases h:i<m
 .rw [afr h,afm]
 .rw [bw,ch (by rw[Bc];omega)];rfl
def afs(n m:Nat):pz n (m+1)=pz n m++[mY n m]:=by simp[pz,aqQ]
def IT(n m:Nat):val (pz n m)=n%4294967296^m:=by
 induction m with
 |zero=>simp[pz,val];omega
 |succ m ih=>
  rw[afs,wI,ih,Bc,mod_succ];rfl
def ao8{L M:List Nat}(hL:iK L)(hM:iK M)(hl:L.length=M.length)(hv:val L=val M):L=M:=by
 apply gw hl;intro i h1 h2;have e1:=Gw hL i;have e2:=Gw hM i;rw[hv,<-e2]at e1;simpa[bw,h1,h2]using e1
def aft{L:List Nat}(h:iK L):pz (val L) L.length=L:=
 ao8 (Ga _ _) h (Bc _ _) (by rw[IT,ca (oE h)])
def Na{L:List Nat}{n m:Nat}(h:iK L)(hl:L.length=m)(hv:val L=n):pz n m=L:=by subst hl hv;exact aft h
def pU(a b k m:Nat):List Nat:=(List.range m).map λj=>if j<k then mY a j else mY b j
def aks(a b k m:Nat):(pU a b k m).length=m:=by simp[pU]
def aku(a b m:Nat):pU a b 0 m=pz b m:=by simp[pU,pz]
def akr{a b k m:Nat}(h:m<=k):pU a b k m=pz a m:=by
 unfold pU pz;exact eX λj hj=>bk (bV (b5.1 hj) h)
def aqd{a b k m:Nat}:(pU a b k m).set k (mY a k)=pU a b (k+1) m:=by
 apply gw
 .simp [pU]
 .intro j h1 h2;have hj:j<m:=by simpa[pU]using h2
  rw[List.getElem_set];by_cases h:k=j
  .subst h;simp[pU]
  .rw [bj h];simp only[pU,List.getElem_map,List.getElem_range];by_cases q:j<k
   .rw [bk q,bk aE]
   .rw [bj q,bj aE]
def akt{a b k m:Nat}:(pU a b (k+1) m).set k (mY b k)=pU a b k m:=by
 apply gw
 .simp [pU]
 .intro j h1 h2;have hj:j<m:=by simpa[pU]using h2
  rw[List.getElem_set];by_cases h:k=j
  .subst h;simp[pU]
  .rw [bj h];simp only[pU,List.getElem_map,List.getElem_range];by_cases q:j<k
   .rw [bk q,bk aE]
   .rw [bj q,bj aE]
def afC(a k:Nat):a/4294967296^k=4294967296*(a/4294967296^(k+1))+mY a k:=by
 rw[bI,<-dk];unfold mY;omega
def anL{a d k:Nat}(hd:0<d)(Bv:d<4294967296):(a/4294967296^(k+1)%d*4294967296+mY a k)/d=mY (a/d) k/\(a/4294967296^(k+1)%d*4294967296+mY a k)%d=a/4294967296^k%d:=by
 have e1:=afC a k;have e2:=cN (a/4294967296^(k+1)) d;have e3:=bM (a/4294967296^(k+1)) hd;have e4:=JK a k;have e5:a/4294967296^k=d*(4294967296*(a/4294967296^(k+1)/d))+(a/4294967296^(k+1)%d*4294967296+mY a k):=by
  rw[e1,dK];omega
 have e6:(a/4294967296^(k+1)%d*4294967296+mY a k)/d<4294967296:=by
  rw[cA hd];have:=bW 4294967296 (show a/4294967296^(k+1)%d+1<=d from e3);omega
 constructor
 .conv=>rhs;unfold mY
  rw[dk,bL d,<-dk,e5,aqw hd,fp,ca e6]
 .rw [e5,fp]
def adb{n k:Nat}(h:n<4294967296^(k+1))(hd:mY n k≠0):ie n=32*k+ie (mY n k):=by
 have e1:mY n k=n/4294967296^k:=by
  unfold mY;rw[ca];rw[cA (pw k),bL 4294967296,<-bI];exact h
 have h1:=rP hd;have h2:=qw (mY n k);have h3:=ny hd;obtain⟨m,hm⟩:∃ m,ie (mY n k)=m+1:=⟨ie (mY n k)-1,aE⟩
 rw[hm]at h1 h2 ⊢;rw[er]at h1;rw[<-cR];have hp:(4294967296:Nat)^k=2^(32*k):=ss k;refine yH ?_ ?_
 .rw [e1,cW (pw k),hp,<-bB,fk]at h1;exact h1
 .rw [e1,cA (pw k),hp,<-bB,(aE:m+1+32*k=32*k+m+1)]at h2;exact h2
structure th(U0:Nat)(V:List Nat)(k m:Nat)(O Q:List Nat):Prop where
 Xp:O.length=m
 Hm:Q.length=m-V.length
 AA:iK O
 DE:iK Q
 eq:val O+val V*val Q=U0
 lt:val O<val V*4294967296^k
 qz:∀ i,i<k->Q.getD i 0=0
def th.step{U0 k m x:Nat}{V O Q O2:List Nat}(h:th U0 V (k+1) m O Q)(hk:k<m-V.length)(hl:O2.length=m)(lj:iK O2)(hx:x<4294967296)
 (he:val O2+x*(4294967296^k*val V)=val O) (iC:val O2<val V*4294967296^k):th U0 V k m O2 (Q.set k x):=by
 have Ac:k<Q.length:=by rw[h.Hm];exact hk
 have hv:=DY (x:=x) Ac;rw[h.qz k (eC k),cL,bY]at hv;refine⟨hl,by rw[dc];exact h.Hm,lj,h.DE.set _ hx,?_,iC,λi hi=>by rw[Bm aE];exact h.qz i aE⟩;rw[hv,bU,show val V*(4294967296^k*x)=x*(4294967296^k*val V)by simp only[bL,dK,bH]];have:=h.eq;omega
def th.zero{U0 k m:Nat}{V O Q:List Nat}(h:th U0 V (k+1) m O Q)(hV:iK V){i:Nat}(hi:k+V.length<i):O.getD i 0=0:=by
 refine aoO h.AA (k:=k+V.length+1) ?_ hi;refine fE h.lt ?_;have:=du (oE hV) (pw (k+1));rw[<-bB,(aE:V.length+(k+1)=k+V.length+1)]at this;exact this
def th.ahz{U0 k m:Nat}{V O Q:List Nat}(h:th U0 V (k+1) m O Q)(hV:iK V)(hn:2<=V.length)(hN:2147483648<=V.getD (V.length-1) 0):
 O.getD (k+V.length) 0<=V.getD (V.length-1) 0/\∀ g,g<=4294967295 ->
  g<=((O.getD (k+V.length) 0*4294967296+O.getD (k+V.length-1) 0)*4294967296+O.getD (k+V.length-2) 0)/(V.getD (V.length-1) 0*4294967296+V.getD (V.length-2) 0) ->
  (g=4294967295\/((O.getD (k+V.length) 0*4294967296+O.getD (k+V.length-1) 0)*4294967296+O.getD (k+V.length-2) 0)/(V.getD (V.length-1) 0*4294967296+V.getD (V.length-2) 0)<=g) ->
  val O/4294967296^k/val V<=g/\g<=val O/4294967296^k/val V+1:=by
 have t3:=abe h.AA (j:=k) hn (λi hi=>h.zero hV hi);have t2:=aoL hV hn rfl;have hU:val O/4294967296^k<4294967296*val V:=by
  rw[cA (pw k)];have:=h.lt;rw[bI]at this;rw[show 4294967296*val V*4294967296^k=val V*(4294967296^k*4294967296)by simp only[bL,dK,bH]];exact this
 have w1:=h.AA.getD (k+V.length-1);have w2:=h.AA.getD (k+V.length-2);have w3:=hV.getD (V.length-2);refine⟨?_,λg g1 g2 g3=>?_⟩
 .have hP:=pw (V.length-2);have h1:val V<(V.getD (V.length-1) 0*4294967296+V.getD (V.length-2) 0+1)*4294967296^(V.length-2):=by
   rw[<-t2,<-cA hP];omega
  have h2:val O/4294967296^k/4294967296^(V.length-2)<4294967296*(V.getD (V.length-1) 0*4294967296+V.getD (V.length-2) 0+1):=by
   rw[cA hP];refine bV hU ?_;rw[bH];exact cO _ (dt h1)
  rw[t3]at h2;omega
 .rw [<-t3,<-t2]at g2 g3;exact ajD (pw _) (by rw[t2];omega) hU g1 g2 g3
def th.YZ{U0 k m x:Nat}{V O Q O':List Nat}(h:th U0 V (k+1) m O Q)(hV:iK V)(lj:iK O')(hv:val O'+x*(4294967296^k*val V)=val O+4294967296^(k+V.length+1)*1)
 (hs:∀ i,k+V.length<i->O'.getD i 0=O.getD i 0):val O'<4294967296^(k+V.length+1)/\0<x:=by
 have h1:val O'<4294967296^(k+V.length+1):=abt lj λi hi=>by rw[hs i aE];exact h.zero hV aE 
 refine⟨h1,?_⟩;rcases ez x with h0|h0
 .subst h0;rw[cM]at hv;omega
 .exact h0
def th.ac3{U0 k m x κ:Nat}{V O Q O' O2:List Nat}(h:th U0 V (k+1) m O Q)(hV:iK V)(hk:k<m-V.length)(lj:iK O')(hv:val O'+x*(4294967296^k*val V)=val O+4294967296^(k+V.length+1)*1)
 (hs:∀ i,k+V.length<i->O'.getD i 0=O.getD i 0) (hx:x<=4294967295) (wa:x<=val O/4294967296^k/val V+1) (xJ:0<val V) (nX:O2.length=m) (KD:iK O2) (hκ:κ<=1)
 (h2:val O2+4294967296^(k+V.length+1)*κ=val O'+4294967296^k*val V) (kP:∀ i,k+V.length<i->O2.getD i 0=O'.getD i 0):th U0 V k m O2 (Q.set k (x-1)):=by
 obtain⟨h1,h0⟩:=h.YZ hV lj hv hs;have h3:val O2<4294967296^(k+V.length+1):=abt KD λi hi=>by rw[kP i aE,hs i aE];exact h.zero hV aE 
 rw[ck]at hv;obtain⟨_,_,e,l⟩:=afo (pw k) xJ hv h1 wa hκ h2 h3;exact h.step (x:=x-1) hk nX KD aE e l
def ak2{L:List Nat}{x s l:Nat}(hk:iK L)(hl:L.length=l+1)(hx:L.getD l 0=x)(oF:x≠0)(hs:s=32-ie x):
 s<32/\(gW (val L*2^s)).length=l+1/\2147483648<=(gW (val L*2^s)).getD l 0/\4294967296^l*2147483648<=val L*2^s/\val L*2^s<4294967296^(l+1):=by
 have mZ:x<4294967296:=by rw[<-hx];exact hk.getD l
 have kD:=ny oF;have lZ:ie x<=32:=lY.2 mZ;have h1:=rP oF;have h2:=qw x;have e1:2^(ie x-1)*2^s=2147483648:=by rw[<-bB,(aE:ie x-1+s=31)]
 have e2:2^ie x*2^s=4294967296:=by rw[<-bB,(aE:ie x+s=32)]
 have hp:0<2^s:=bD aG;have hv:val L=val (L.take l)+4294967296^l*x:=by
  have:=xw L l;rw[cK aE,hx]at this;exact this
 have CW:val (L.take l)<4294967296^l:=by
  have:=oE (hk.take l);rw[cw,dj aE]at this;exact this
 have g1:4294967296^l*2147483648<=val L*2^s:=by
  rw[<-e1,<-bH];refine bW _ ?_;rw[hv];exact bA (cO _ h1) (Nat.le_add_left _ _)
 have g2:val L*2^s<4294967296^(l+1):=by
  have e3:4294967296^(l+1)=4294967296^l*(2^ie x*2^s):=by rw[bI,e2]
  rw[e3,<-bH];refine du ?_ hp;rw[hv];have:=cO (4294967296^l) (show x+1<=2^ie x from h2);rw[bU,ck]at this;omega
 have hlen:(gW (val L*2^s)).length=l+1:=by
  have u1:=s9 g2;have u2:¬(gW (val L*2^s)).length<=l:=λh=>by
   have:=y7 h;have:=pw l;omega
  omega
 refine⟨aE,hlen,?_,g1,g2⟩;rw[Gw (ml _),kq];unfold mY;rw[ca (by rw[cA (pw l),bL 4294967296,<-bI];exact g2),cW (pw l),bL];exact g1
def th.start{A s:Nat}{V O:List Nat}(hO:iK O)(hv:val O=A*2^s){la:Nat}(hA:A<4294967296^la)(hl:O.length=la+1)(hs:s<32)(hn:1<=V.length)(jL:V.length<=la)(hV:4294967296^(V.length-1)*2147483648<=val V):
 th (A*2^s) V (la+1-V.length) (la+1) O (List.replicate (la+1-V.length) 0):=by
 refine⟨hl,aK,hO,iK.DN _,by rw[AR,cL,bY,hv],?_,λi _=>?_⟩
 .rw [hv];have Gy:2^s<=2^31:=bR aG aE;have ahD:(2:Nat)^31=2147483648:= aG ;rw[ahD]at Gy;have h1:A*2^s<4294967296^la*2^s:=du hA (bD aG);have h2:=cO (4294967296^la) Gy;have h3:=bW (4294967296^(la+1-V.length)) hV;rw[gF,<-bB,(aE:V.length-1+(la+1-V.length)=la)]at h3;omega
 .rw [bw,eZ];split<;>rfl
end Go.Proofs.YtgdahmmlddfimaaGreatDoor.Fp
namespace Go.Proofs.YtgdahmmlddfimaaGreatDoor
open Go.RowKit Fp Pu
def aoY(n:Nat)(h:n<4294967296):bits .and .u32 (n:Int) 1=((n%2:Nat):Int):=by
 have:=bits_and_u32_nat n 1 h aG;rw[show((1:Int))=((1:Nat):Int)from rfl,this];exact congrArg _ (aqI n)
def IF(n:Nat)(h:n<4294967296):IntKind.u64.wrap ((n:Int)*2^32)=((n*4294967296:Nat):Int):=by rw[IntKind.wrap_u64];omega
def Ii(a b:Nat)(ha:a<4294967296)(hb:b<4294967296):bits .or .u64 ((a*4294967296:Nat):Int) (b:Int)=((a*4294967296+b:Nat):Int):=by
 rw[L9 _ _ aE aE,Nat.or_comm,show a*4294967296=a*2^32 by rfl,Ll b a 32 (by simpa using hb),fk]
def am5{T n n' p:Nat}{L L':List Nat}{z:Nat}(hn:n=n')(hp:p<L.length)(hs:L.set p z=L'):Bx.le (.row false T n 1 λi' j'=>if i'=p/\0<=j'/\j'<0+1 then[.v (.int .u32 (z:Int))].getD (j'-0) .any else(qv L) i' j') (.row false T n' 1 (qv L')):=hs▸QK hn hp
def TG(q rest third v w:Nat)(x:Nat):PS:=⟨32,true,[(0,.e (.v (.int .u64 ((q-x:Nat):Int)))),(1,.e (.v (.int .u64 ((rest+(x*v):Nat):Int)))),(2,.e (.v (.int .u32 (third:Int)))),(3,.e (.v (.int .u32 (v:Int)))),(4,.e (.v (.int .u32 (w:Int))))],[]⟩
def aaB(L:List Nat)(d:Nat)(x:Nat):PS:=⟨34,false,[(8,.e (iP ((L.length:Int)-1-(x:Int)))),(7,.e (.v (.int .u32 ((val L/4294967296^(L.length-x)%d:Nat):Int)))),(6,.own 11),(0,.e (ia L)),(1,.e (.v (.int .u32 (d:Int))))],[(11,.row false 171 L.length 1 (qv (pU 0 (val L/d) (L.length-x) L.length)))]⟩
def afu(h l d:Nat)(h1:h<d)(h2:l<4294967296)(h3:d<4294967296):gV 356 [.v (.int .u32 (h:Int)),.v (.int .u32 (l:Int)),.v (.int .u32 (d:Int))] (.iw [.v (.int .u32 (((h*4294967296+l)/d:Nat):Int)),.v (.int .u32 (((h*4294967296+l)%d:Nat):Int))]):=by
 have e1:(h*4294967296+l)/d<4294967296:=by rw[cA aE];omega
 have e2:(h*4294967296+l)%d<4294967296:=fE (bM _ aE) h3;exact ak call356 func356 (ae [ah 10 ((d:Int) != 0) aS,tF 14 ((d:Int)<=h) aE,.o 18 (.int (sK _ aE):aj (.v (.int .u64 (IntKind.u64.wrap (h:Int)))) (.v (.int .u64 (h:Int)))),.a (aE:0<=(32:Int)/\(32:Int)<=((64:Nat):Int)),.o 19 (.int (IF _ aE):aj (.v (.int .u64 (IntKind.u64.wrap ((h:Int)*2^32)))) (.v (.int .u64 ((h*4294967296:Nat):Int)))),.o 21 (.int (sK _ aE):aj (.v (.int .u64 (IntKind.u64.wrap (l:Int)))) (.v (.int .u64 (l:Int)))),.o 22 (.int (Ii _ _ aE aE):aj (.v (.int .u64 (bits .or .u64 ((h*4294967296:Nat):Int) (l:Int)))) (.v (.int .u64 ((h*4294967296+l:Nat):Int)))),.o 25 (.int (sK _ aE):aj (.v (.int .u64 (IntKind.u64.wrap (d:Int)))) (.v (.int .u64 (d:Int)))),.a (aE:0<((d:Int):Int)),
  B8 ((h*4294967296+l:Nat):Int) aE,.o 27 (.int (FI _):aj (.v (.int .u32 (IntKind.u32.wrap (((h*4294967296+l)/d:Nat):Int)))) (.v (.int .u32 ((((h*4294967296+l)/d)%4294967296:Nat):Int)))),.o 30 (.int (sK _ aE):aj (.v (.int .u64 (IntKind.u64.wrap (d:Int)))) (.v (.int .u64 (d:Int)))),.a (aE:0<((d:Int):Int)),.o 32 (.int (FI _):aj (.v (.int .u32 (IntKind.u32.wrap (((h*4294967296+l)%d:Nat):Int)))) (.v (.int .u32 ((((h*4294967296+l)%d)%4294967296:Nat):Int))))]<|rQ (.iw [.v (.int .u32 ((((h*4294967296+l)/d)%4294967296:Nat):Int)),.v (.int .u32 ((((h*4294967296+l)%d)%4294967296:Nat):Int))]) (.iw [.v (.int .u32 (((h*4294967296+l)/d:Nat):Int)),.v (.int .u32 (((h*4294967296+l)%d:Nat):Int))]) (by rw[ca e1,ca e2])) 
def aqe(q rest third v w N:Nat)(hq:q<=4294967295)(hr:rest<9223372036854775808)(ht:third<4294967296)(hv:v<4294967296)(hw:w<4294967296)(hNq:N<=q)(jm:∀ x,x<N->ub q rest third v w x)(g1:¬rest+N*v<4294967296):gV 357 [.v (.int .u64 (q:Int)),.v (.int .u64 (rest:Int)),.v (.int .u32 (third:Int)),.v (.int .u32 (v:Int)),.v (.int .u32 (w:Int))] (.v (.int .u64 ((q-N:Nat):Int))):=
 ak call357 func357 (af [.s (Sp.jc (TG q rest third v w) 0 N aE (λx hx kW=>by
    obtain⟨g1,g2⟩:=jm x aE;have m1:(q-x)*w<=4294967295*4294967295:=dr aE aE;have g3:0<q-x:=by
     rcases ez (q-x)with h|h
     .rw [h,cM]at g2;omega
     .exact h
    exact iy (ae [tT 12 (((rest+(x*v):Nat):Int)<4294967296) aE,.o 16 (.int (sK _ aE):aj (.v (.int .u64 (IntKind.u64.wrap (w:Int)))) (.v (.int .u64 (w:Int)))),
     B8 (((q-x:Nat):Int)*(w:Int)) aE,.a (aE:0<=(32:Int)/\(32:Int)<=((64:Nat):Int)),.o 19 (.int (IF _ aE):aj (.v (.int .u64 (IntKind.u64.wrap (((rest+(x*v):Nat):Int)*2^32)))) (.v (.int .u64 (((rest+(x*v))*4294967296:Nat):Int)))),.o 21 (.int (sK _ aE):aj (.v (.int .u64 (IntKind.u64.wrap (third:Int)))) (.v (.int .u64 (third:Int)))),.o 22 (.int (Ii _ _ aE aE):aj (.v (.int .u64 (bits .or .u64 (((rest+(x*v))*4294967296:Nat):Int) (third:Int)))) (.v (.int .u64 ((((rest+(x*v))*4294967296)+third:Nat):Int)))),tT 23 (((((rest+(x*v))*4294967296)+third:Nat):Int)<(((q-x)*w:Nat):Int)) (Int.ofNat_lt.2 g2),B8 (((q-x:Nat):Int)-1) aE,.o 29 (.int (sK _ aE):aj (.v (.int .u64 (IntKind.u64.wrap (v:Int)))) (.v (.int .u64 (v:Int)))),B8 (((rest+(x*v):Nat):Int)+v) aE]<|.e (af [.o 0 (.int aT:aj (.v (.int .u64 (((q-x:Nat):Int)-1))) (.v (.int .u64 ((q-(x+1):Nat):Int)))),.o 1 (.int aT:aj (.v (.int .u64 (((rest+(x*v))+v:Nat):Int))) (.v (.int .u64 ((rest+((x+1)*v):Nat):Int))))])) aI)
  (λhx=>by
    have m1:(q-N)*w<=4294967295*4294967295:=dr aE aE;exact iy (af [tF 12 (((rest+(N*v):Nat):Int)<4294967296) aE]) aI) aM:jb 1 f357 (TG q rest third v w 0) (.exit 0) ⟨32,true,[(0,.e (.v (.int .u64 ((q-N:Nat):Int))))],[]⟩) (af [.o 0 (.int aT:aj (.v (.int .u64 (q:Int))) (.v (.int .u64 ((q-0:Nat):Int)))),.o 1 (.int aT:aj (.v (.int .u64 (rest:Int))) (.v (.int .u64 ((rest+(0*v):Nat):Int))))])]) 
def akM(L:List Nat)(d:Nat)(hk:iK L)(hl:L.length<=1000000)(Bu:0<d)(Bv:d<4294967296):gV 335 [ia L,.v (.int .u32 (d:Int))] (.iw [ia (pz (val L/d) L.length),.v (.int .u32 ((val L%d:Nat):Int))]):=
 an call335 func335 (ae [.a (aE:0<=((L.length:Int):Int)/\((L.length:Int):Int)<=((L.length:Int):Int)),.a (aE:((4:Nat):Int)*(L.length:Int)<=281474976710656/\((L.length:Int):Int)<=9223372036854775807),iq ((L.length:Int)-1) aE,.s (Sp.jc (aaB L d) 0 L.length aE (λx hx kW=>by
    have V0:((L.length:Int)-1-(x:Int)).toNat=L.length-1-x:= aE ;have hld:((L.getD ((L.length:Int)-1-(x:Int)).toNat 0:Nat):Int)=(mY (val L) (L.length-1-x):Int):=by rw[V0,Gw hk]
    have w8:=anL (a:=val L) (k:=L.length-1-x) Bu Bv;have ug:L.length-1-x+1=L.length-x:= aE ;have lR:L.length-(x+1)=L.length-1-x:= aE ;rw[ug]at w8;have EJ:=bM (val L/4294967296^(L.length-x)) Bu;have Of:=JK (val L) (L.length-1-x);have C6:(pU 0 (val L/d) (L.length-x) L.length).set ((L.length:Int)-1-(x:Int)).toNat ((val L/4294967296^(L.length-x)%d*4294967296+mY (val L) (L.length-1-x))/d)=pU 0 (val L/d) (L.length-(x+1)) L.length:=by
     rw[V0,w8.1,<-ug,akt,lR]
    exact iy (ae [tT 16 (0<=((L.length:Int)-1-(x:Int))) aE,iX ((L.length:Int)-1-(x:Int)) (L.length) aE,.o 26 (.int hld:aj (.v (.int .u32 ((L.getD ((L.length:Int)-1-(x:Int)).toNat 0:Nat):Int))) (.v (.int .u32 (mY (val L) (L.length-1-x):Int)))),.c (afu (val L/4294967296^(L.length-x)%d) (mY (val L) (L.length-1-x)) d aE aE aE),iX ((L.length:Int)-1-(x:Int)) (L.length) aE,.a (aE:(((L.length:Int)-1-(x:Int))).toNat<L.length),iq (((L.length:Int)-1-(x:Int))-1) aE]<|.e (af [.o 8 (aq (((L.length:Int)-1-(x:Int))-1) ((L.length:Int)-1-((x+1:Nat):Int)) aT),.o 7 (.int (by rw[w8.2,lR]):aj (.v (.int .u32 ((((val L/4294967296^(L.length-x)%d)*4294967296+(mY (val L) (L.length-1-x)))%d:Nat):Int))) (.v (.int .u32 ((val L/4294967296^(L.length-(x+1))%d:Nat):Int)))),.b 11 (am5 rfl (by rw[aks];omega) C6:Bx.le (.row false 171 L.length 1 (λi' j'=>if i'=(((L.length:Int)-1-(x:Int))).toNat/\0<=j'/\j'<0+1 then[.v (.int .u32 ((((val L/4294967296^(L.length-x)%d)*4294967296+(mY (val L) (L.length-1-x)))/d:Nat):Int))].getD (j'-0) .any else(qv (pU 0 (val L/d) (L.length-x) L.length)) i' j')) (.row false 171 L.length 1 (qv (pU 0 (val L/d) (L.length-(x+1)) L.length))))])) aI)
  (λhx=>by
    exact iy (af [tF 16 (0<=((L.length:Int)-1-(L.length:Int))) aE]) aI) aM:jb 4 f335 (aaB L d 0) (.exit 0) ⟨34,false,[(7,.e (.v (.int .u32 ((val L/4294967296^(L.length-L.length)%d:Nat):Int)))),(6,.own 11)],[(11,.row false 171 L.length 1 (qv (pU 0 (val L/d) (L.length-L.length) L.length)))]⟩) (af [.o 8 (aq ((L.length:Int)-1) ((L.length:Int)-1-((0:Nat):Int)) aT),.o 7 (.int (by rw[dE,c9 (oE hk),Nat.zero_mod];rfl):aj (.v (.int .u32 0)) (.v (.int .u32 ((val L/4294967296^(L.length-0)%d:Nat):Int)))),.b 11 (ZS rfl (λi=>by rw[dE,akr (bu _),afq]):Bx.le (.row false 171 L.length 1 (λ_ j_=>[.v (.int .u32 0)].getD j_ .any)) (.row false 171 L.length 1 (qv (pU 0 (val L/d) (L.length-0) L.length))))])]<|rR (.iw [ia (pz (val L/d) L.length),.v (.int .u32 ((val L%d:Nat):Int))]) (.iw (.cons (by rw[dq,aku];exact aaK (Bc _ _).symm) (.cons (.iT (by rw[dq,cI,fe])) .nil)):E.le (.iw [.sl false L.length 1 (qv (pU 0 (val L/d) (L.length-L.length) L.length)),.v (.int .u32 ((val L/4294967296^(L.length-L.length)%d:Nat):Int))]) (.iw [ia (pz (val L/d) L.length),.v (.int .u32 ((val L%d:Nat):Int))]))) 
def abY(w:World)(T S:List Nat)(e:Ending)(w':World):Prop:=∃ A c B d,e = .returned (.tuple #[.slice A T.length c,.slice B S.length d])/\Sl w' A c T/\Sl w' B d S/\iF w w'
def Ow.rx{w:World}{base:Nat}{v:Value}{L:List Nat}(h:Ow w base v L)(hl:L≠[]):∃ g cap R,v = .slice (some ⟨g,0,none⟩) L.length cap/\base<=g/\g<w.heap.size/\Rx w g L R/\L.length<=cap/\cap<=maxLen:=by
 rcases h.row.2 with⟨_,h0⟩|⟨g,cap,cur,rfl,hb,hg,pj,oq,nC,G8⟩
 .exact absurd (dw h0) hl
 .refine ⟨g,cap,cur.toList.drop L.length,rfl,hb,(de.1 hg).1,?_,pj,oq⟩;unfold Rx;rw[hg];rw[ck]at G8;rw[<-G8,aqr]
def Rx.sl{w:World}{b cap:Nat}{L:List Nat}{R:List Value}(h:Rx w b L R)(hk:iK L)(hc:L.length<=cap)(hm:cap<=maxLen)(n:Nat):Sl w (some ⟨b,0,none⟩) cap (L.take n):=
 ⟨by rw[cw];omega,by unfold maxLen at hm;omega,hk.take n,(λh=>by cases h),λi x hx=>by
  rw[ev]at hx;split at hx
  .obtain ⟨hi,BE⟩:=cr.1 hx;refine⟨_,_,rfl,h.lt,?_⟩;rw[cj,h.cell hi];simp[bw,hx]
  .cases hx⟩
def aka(x:Nat)(hx:x<4294967296)(w:World):
 Calls prog 336 #[.int .u32 x] w λe w'=>e = .returned (.int .i64 ((32-ie x:Nat):Int))/\w=w':=by
 have lZ:ie x<=32:=lY.2 hx;have H:=aq9 (λw=>Xo x hx w);go_enter func336,ntmps336;go_wp2_with fail;refine(H.out _).mono ?_;rintro e w' ⟨rfl,rfl⟩;go_wp2;go_ret;exact⟨oZ aE,rfl⟩
def TJ(q rest third v w0 N:Nat)(w:World)(hq:q<=4294967295)(hr:rest<9223372036854775808)(ht:third<4294967296)(hv:v<4294967296)(hw:w0<4294967296)(hNq:N<=q)(jm:∀ x,x<N->ub q rest third v w0 x)(hN:¬ub q rest third v w0 N):
 Calls prog 357 #[.int .u64 q,.int .u64 rest,.int .u32 third,.int .u32 v,.int .u32 w0] w λe w'=>e = .returned (.int .u64 ((q-N:Nat):Int))/\w=w':=by
 have HLO:=aq9 jm;have HNN:=aq9 hN;clear jm hN;go_enter func357,ntmps357;go_wp2;go_loop [0,1] (λa b=>∃ k:Nat,k<=N/\a = .int .u64 ((q-k:Nat):Int)/\b = .int .u64 ((rest+k*v:Nat):Int)) (λa _=>(intOf a).toNat+0*N)
 case atStart=>exact⟨0,bS _,by go_num,by go_num⟩
 case round=>
  obtain⟨k,hk,rfl,rfl⟩:=hrel;have m1:(q-k)*w0<=4294967295*4294967295:=dr aE aE;have m2:(q-k)*w0=(q-k)*w0:=rfl;by_cases iC:k<N
  .have hc:=HLO.out k iC;have uY:0<q-k:= aE ;have Wb:rest+(k+1)*v=rest+k*v+v:=by rw[b8,b9];omega
   have HX:=aq9 Wb;clear Wb;unfold ub at hc;have C9:IntKind.u64.wrap (((q-k:Nat):Int)*(w0:Int))=(((q-k)*w0:Nat):Int):=by rw[<-dZ];exact sK _ aE 
   generalize rest+k*v=y at *
   generalize hz:(q-k)*w0=z at *
   have BC:q-k=q-(k+1)+1:= aE ;have HQ:=aq9 BC;obtain⟨p,hp⟩:∃ p,p=q-k:=⟨_,rfl⟩
   rw[<-hp]at C9 uY BC HQ ⊢;have HP:=aq9 hp;have C3:p<=4294967295:= aE ;clear hp hz BC;have G5:=IF y hc.1;have w7:=Ii y third hc.1 ht;have g2:=hc.2;have g1:=hc.1;clear hc;rw[show((y*4294967296:Nat):Int)=y*4294967296 by omega]at w7 G5;have d1:decide ((y:Int)<4294967296)=true:=bn aE;have d2:decide ((y:Int)*4294967296+(third:Int)<z)=true:=bn aE;have V9:IntKind.u64.wrap ((p:Int)-1)=((p-1:Nat):Int):=by rw[IntKind.wrap_u64];omega
   go_wp2;go_round
   case rel=>
    have e1:=HP.out;exact⟨k+1,aE,by go_num,by rw[HX.out];go_num⟩
   case measure=>simp[intOf];omega
  .obtain rfl:k=N:= aE ;have hn:=HNN.out;clear HNN HLO;unfold ub at hn;have C9:IntKind.u64.wrap (((q-k:Nat):Int)*(w0:Int))=(((q-k)*w0:Nat):Int):=by rw[<-dZ];exact sK _ aE 
   generalize rest+k*v=y at *
   generalize (q-k)*w0=z at *
   obtain⟨p,hp⟩:∃ p,p=q-k:=⟨_,rfl⟩
   rw[<-hp]at C9 ⊢;have HP:=aq9 hp;clear hp;by_cases g1:y<4294967296
   .have G5:=IF y g1;have w7:=Ii y third g1 ht;rw[show((y*4294967296:Nat):Int)=y*4294967296 by omega]at w7 G5;have d1:decide ((y:Int)<4294967296)=true:=bn aE;have d2:decide ((y:Int)*4294967296+(third:Int)<z)=false:=bt aE;clear hn;go_wp2;go_ret;exact⟨oZ (by rw[<-HP.out]),rfl⟩
   .have d1:decide ((y:Int)<4294967296)=false:=bt aE ;clear hn C9;go_wp2;go_ret;exact⟨oZ (by rw[<-HP.out]),rfl⟩
def ahA(im next third v w0:Nat)(hv:2147483648<=v)(sd:v<4294967296)(hn:next<4294967296)(ht:third<4294967296)(hw:w0<4294967296)(htv:im<=v):
 ∃ g,g<=4294967295/\g<=((im*4294967296+next)*4294967296+third)/(v*4294967296+w0)/\(g=4294967295\/((im*4294967296+next)*4294967296+third)/(v*4294967296+w0)<=g) /\
  ∀ w,Calls prog 337 #[.int .u32 im,.int .u32 next,.int .u32 third,.int .u32 v,.int .u32 w0] w λe w'=>e = .returned (.int .u64 (g:Int))/\∃ m,w'=w.drewN m:=by
 by_cases k1:v<=im
 .obtain ⟨N,hN3,oR,yQ,tp,g1,g2⟩:=TH (X:=im*4294967296+next) (q:=4294967295) (rest:=(im-v)*4294967296+next+v) (third:=third) (v:=v) (w:=w0) aE (bu _) hv hw;refine⟨4294967295-N,aE,g1,g2.elim (λh=>.inl (by rw[h])) .inr,λw=>?_⟩;clear g1 g2;have H:=λw=>TJ 4294967295 ((im-v)*4294967296+next+v) third v w0 N w aE aE ht sd hw oR yQ tp
  clear yQ tp;obtain rfl:v=im:= aE ;have uZ:(v-v)*4294967296+next+v=next+v:= aE 
  rw[uZ,dJ]at H;have HD:=aq9 H;clear H;have d1:decide ((v:Int)<=v)=true:=bn aE;go_enter func337,ntmps337;go_wp2_with fail;refine(HD.out _).mono ?_;rintro e w' ⟨rfl,rfl⟩;go_wp2;go_ret;exact⟨rfl,0,rfl⟩
 .have d1:=cN (im*4294967296+next) v;have d2:=bM (im*4294967296+next) (aE:0<v);have d3:(im*4294967296+next)/v<4294967296:=by rw[cA aE];omega
  obtain⟨N,hN3,oR,yQ,tp,g1,g2⟩:=TH (X:=im*4294967296+next) (q:=(im*4294967296+next)/v) (rest:=(im*4294967296+next)%v) (third:=third) (v:=v) (w:=w0) (by rw[bL];exact d1) aE hv hw;have g3:=afp (x:=im*4294967296+next) (v:=v) (w:=w0) (third:=third) aE ht;refine⟨(im*4294967296+next)/v-N,aE,g1,.inr ?_,λw=>?_⟩
  .rcases g2 with rfl|g2
   .exact g3
   .exact g2
  have H:=λw=>TJ ((im*4294967296+next)/v) ((im*4294967296+next)%v) third v w0 N w (Nat.le_of_lt_succ d3) (fE d2 aE) ht sd hw oR yQ tp
  rw[Int.natCast_ediv,Int.natCast_emod]at H;have HD:=aq9 H;clear H g1 g2 g3 oR yQ tp d1 d2 d3;have d1:decide ((v:Int)<=im)=false:=bt aE;have G5:=IF im aE;have w7:=Ii im next aE hn
  rw[show((im*4294967296:Nat):Int)=im*4294967296 by omega]at w7 G5;have oF:((im*4294967296+next:Nat):Int)<18446744073709551616:= aE ;rw[show((im*4294967296+next:Nat):Int)=im*4294967296+(next:Int)by omega]at w7 oF;have sQ:((v:Int)==0)=false:= aS ;go_enter func337,ntmps337;go_wp2;go_quiet (exact Calls.quiet_of_same ((HD.out _).mono λ_ _ ⟨h1,h2⟩=>⟨h1,h2.symm⟩));go_wp2;go_ret;exact⟨rfl,_,rfl⟩
def Fp.iF.aoQ{w0 w w':World}{g n:Nat}(h:iF w0 w)(k:tW g (w.drewN n) w')(hg:w0.heap.size<=g):iF w0 w':=
 (below_drewN h n).trans (k.below.mono hg)
def Fp.iF.only{w0 w w':World}{g:Nat}(h:iF w0 w)(k:tW g w w')(hg:w0.heap.size<=g):iF w0 w':=
 Below.trans h (k.below.mono hg)
def Sl.UB{w:World}{g cap:Nat}{L:List Nat}(h:Sl w (some ⟨g,0,none⟩) cap L){b:Nat}(hb:g≠b)(i:Nat)(v:Value):Sl (w.setCell ⟨b,i,none⟩ v) (some ⟨g,0,none⟩) cap L:=
 h.pr (λb' o _ e=>by cases e;exact hb) (tW.IE (tW.refl b w) i v)
def Sl.drewN{w:World}{A:Option Addr}{c:Nat}{L:List Nat}(h:Sl w A c L)(n:Nat):Sl (w.drewN n) A c L:=h.below (below_drewN (Below.refl _ _) n)
def alR{P:Program}{f:FuncId}{args:Array Value}{w:World}{n:Nat}{v:Value}
 (h:Calls P f args (w.drewN n) λe w'=>e = .returned v/\∃ m,w'=(w.drewN n).drewN m):Calls P f args (w.drewN n) λe w''=>e = .returned v/\∃ m,w''=w.drewN m:=
 h.mono λ_ _ ⟨he,m,hm⟩=>⟨he,n+m,by rw[hm,World.drewN_drewN]⟩
set_option maxRecDepth 100000 in
set_option maxHeartbeats 8000000 in
def afD(A B:Option Addr)(c d:Nat)(L M:List Nat)(w:World)(lx ly s:Nat)(Af:lx=(iG L).length)(Kx:ly=(iG M).length)(w8:s=32-ie ((iG M).getD (ly-1) 0))(hs:Sl w A c L)(hr:Sl w B d M)(uR:Tb w)(h1:L.length<=100000)(h2:M.length<=100000)(s5:val M<=val L)(hlen:2<=ly):
 Calls prog 322 #[.slice A L.length c,.slice B M.length d] w (abY w (pz (val L/val M) (lx+1-ly)) (rk (s%32) ((gW (val L%val M*2^s)).drop (s/32)))):=by
 have H1:=wm A c L w hs;have H2:=wm B d M w hr;have Vs:=pY L;unfold mX at Vs;have wW:=pY M;unfold mX at wW;have eL:=qA L;have eM:=qA M;rw[<-eL,<-eM]at s5 ⊢;have kP:=hs.vt;have nY:=hr.vt;have NR:=AM M;have VH:iG (iG L)=iG L:=AM L;have VK:iG (iG M)=iG M:=AM M;have H3:=K6 A B c d (iG L) (iG M) w kP nY aE aE;generalize iG L=X at *
 generalize iG M=Y at *
 have pQ:0<=kI (val X) (val Y):=by unfold kI;split<;>(try split)<;>omega
 generalize kI (val X) (val Y)=cm at *
 have VJ:Y.length<=X.length:=by
  apply bT;intro h;have:=Md kP.ok NR (aE:X.length<Y.length);omega
 clear eL eM hs hr s5;rw[<-Af]at VJ H1 H3 Vs;rw[<-Kx]at VJ H2 H3 wW;have oF:Y.getD (ly-1) 0≠0:=by
  have:=(Cg Y).1 NR aE;have e:Y.getD (ly-1) 0=Y[Y.length-1]'(aE):=by
   rw[bw,(aE:ly-1=Y.length-1)];simp[(aE:Y.length-1<Y.length)]
  rw[e];exact this
 have HN:=ak2 nY.ok (l:=ly-1) aE rfl oF w8;rw[(aE:ly-1+1=ly)]at HN;obtain⟨x,hx⟩:∃ x,x=Y.getD (ly-1) 0:=⟨_,rfl⟩
 have mZ:x<4294967296:=by rw[hx];exact nY.ok.getD _
 have H4:=aq9 (λw=>aka x mZ w);rw[<-hx]at w8;rw[<-w8]at H4;obtain⟨ab,ao,rfl,hab,c1⟩:=nY.mi (i:=ly-1) aE;have ES:Y[ly-1]'(aE)=x:=by rw[hx];simp[bw,(aE:ly-1<Y.length)]
 rw[ES]at c1;have aif:s<32:=HN.1;have HNh:=aq9 HN;have H5:=λw (h:Sl w A c X)=>Yx A c X s w h aE aE 
 have H6:=λw (h:Sl w (some ⟨ab,ao,none⟩) d Y)=>Yx (some ⟨ab,ao,none⟩) d Y s w h aE aE 
 rw[VH,<-Af,(aE:s/32+lx+1=lx+1)]at H5;rw[VK,<-Kx,(aE:s/32+ly+1=ly+1)]at H6;have H5h:=aq9 H5;have H6h:=aq9 H6;have HX:=aq9 Af;have HY:=aq9 Kx;have HS2:=aq9 kP;have HR2:=aq9 nY;have H1h:=aq9 H1;have H2h:=aq9 H2;have H3h:=aq9 H3;clear H1 H2 H3 H5 H6 VH VK HN Af Kx hx ES w8 oF kP nY NR;have C9:(ly:Int)-1=((ly-1:Nat):Int):= aE ;have d0:decide (cm<0)=false:=bt aE;have d2:decide ((lx:Int)+1<=(lx:Int))=false:=bt aE;have pT:=E4 (lx+1-ly) aE;rw[show((lx+1-ly:Nat):Int)=lx+1-(ly:Int)by omega]at pT;have d1:((ly:Int)==1)=false:= aS ;go_enter func322,ntmps322;go_wp2_with fail;refine H1h.out.mono ?_;rintro e w' ⟨rfl,rfl⟩;go_wp2_with fail;refine H2h.out.mono ?_;rintro e w' ⟨rfl,rfl⟩;go_wp2_with fail;refine H3h.out.mono ?_;rintro e w1 ⟨rfl,kD⟩;have c2:=c1;rw[<-(kD.cell (p:=⟨ab,ao+(ly-1),none⟩) hab)]at c2;go_wp2_with fail;refine(H4.out _).mono ?_;rintro e w2 ⟨rfl,rfl⟩;go_wp2_with fail;refine(H5h.out _ (HS2.out.below kD)).mono ?_;rintro e w2 ⟨T,v1,he,Ev,GD,lv,lZ⟩;obtain⟨g,cap,R,Ha,VU,VV,Vz,Ez,ahS⟩:=lv.rx (by intro h;rw[h]at GD;simp at GD);have VD:=aq9 lv.ok;rw[GD]at Ha Ez;subst Ha;subst he;clear lv;have HTv:=aq9 Ev;have HTl:=aq9 GD;clear Ev GD;go_wp2_with fail;refine(H6h.out _ ((HR2.out.below kD).below lZ)).mono ?_;rintro e w3 ⟨S,v2,he,VC,CK,lv,qU⟩;have Ka:=Vz.qL (qU.block g VV);obtain⟨g',cap',R',sd,ahY,apZ,_,apW,_⟩:=lv.rx (by intro h;rw[h]at CK;simp at CK);obtain⟨_,_,e2,NV⟩:=lv.sl;rw[sd]at e2;cases e2;have Km:g'≠g:= aE 
 have H7:=wm (some ⟨g',0,none⟩) cap' S w3 NV;have hV:iG S=gW (val Y*2^s):=by rw[rO lv.ok,VC]
 have zY:=NV.vt;rw[hV]at H7 zY;rw[HNh.out.2.1,CK]at H7;rw[CK]at sd;have ahN:iF w w3:=(kD.trans lZ).trans qU;subst sd;subst he;have H7h:=aq9 H7;clear lv NV hV VC CK H7 Vz lZ qU;go_wp2_with fail;refine H7h.out.mono ?_;rintro e w4 ⟨rfl,rfl⟩;go_wp2;go_loop [9] (λu=>u = .slice (some ⟨g,0,none⟩) (lx+1) cap) (λ_=>0)
 case atStart=>rfl
 case round=>
  subst hrel;go_wp2;have wX:=Rw.y8 w3 (lx+1-ly);have Kz:=HNh.out.2.1;have yQ:=HNh.out.2.2.1;have tp:=HNh.out.2.2.2.1;have VF:=ml (val Y*2^s);have N6:=kq (val Y*2^s);rw[<-N6]at tp;generalize gW (val Y*2^s)=V at *
  have yP:=th.start (A:=val X) (s:=s) (V:=V) (O:=T) VD.out HTv.out (la:=lx) (by rw[HX.out];exact oE HS2.out.ok) HTl.out aif aE aE (by rw[Kz];exact tp);have VB:=zY.alloc (.cells (oN (List.replicate (lx+1-ly) 0)).toArray 171);have VA:Rx (w3.alloc (.cells (oN (List.replicate (lx+1-ly) 0)).toArray 171)) g T R:=Ka.qL ((iF.alloc w3 _).block g (by have:=Ka.lt;omega));rw[Kz]at yP;have HD0:=aq9 yP;have HR0:=aq9 wX;have HRx:=aq9 VA;have HSV:=aq9 VB;have HE0:=aq9 (ahN.trans (iF.alloc w3 (.cells (oN (List.replicate (lx+1-ly) 0)).toArray 171)));have HnV:=aq9 Kz;have HVok:=aq9 VF;have HVv:=aq9 N6;have HN1:=aq9 yQ;have hgq:g<w3.heap.size:=Ka.lt;have VW:w.heap.size<=g:=bA kD.size VU;clear yP wX VA VB zY Ka Kz VF N6 yQ tp HTv HTl VD H1h H2h H3h H4 H5h H6h H7h c1 c2 d2 pT kD VU ahY VV HNh HS2 HR2;go_loopw [13] (λj wr=>∃ (k:Nat) (O Q:List Nat),k<=lx+1-ly/\j = .int .i64 ((k:Int)-1)/\th (val X*2^s) V k (lx+1) O Q/\Rx wr g O R/\Rw wr w3.heap.size Q/\Sl wr (some ⟨g',0,none⟩) cap' V/\iF w wr) (λj _=>(intOf j+1).toNat)
  case atStart=>
   exact⟨lx+1-ly,T,_,bu _,by go_num,HD0.out,HRx.out,HR0.out,HSV.out,HE0.out⟩
  case round=>
   clear HD0 HRx HR0 HSV HE0;obtain⟨k,O,Q,hk,rfl,hD,Eu,NU,zY,VO⟩:=hrel;have HE:=aq9 VO;have HSV:=aq9 zY;have HRQ:=aq9 NU;have HRO:=aq9 Eu;have HD:=aq9 hD;clear hD VO;rcases k with _|t
   .have hO:=HD.out.Xp;have Wi:=HRO.out.sl HD.out.AA (cap:=cap) aE ahS ly;have HZ:=PW (some ⟨g,0,none⟩) cap (O.take ly) s wr Wi aX aE;have e1:(O.take ly).length=ly:=by rw[cw];omega
    rw[e1]at HZ;have HZh:=aq9 HZ;have HQs:=aq9 (HRQ.out.sl HD.out.DE (by rw[HD.out.Hm];omega));have xJ:0<val V:=by
     have:=HD.out.lt;rcases ez (val V)with h|h
     .rw [h,cM]at this;omega
     .exact h
    have VI:0<val Y:=by
     rw[HVv.out]at xJ;exact Nat.pos_of_mul_pos_right xJ
    have Oi:=afA (a:=val X) (b:=val Y) (s:=s) (q:=val Q) (r:=val O) VI (by rw[<-HVv.out];exact HD.out.eq) (by rw[<-HVv.out];have:=HD.out.lt;rw[cI,ck]at this;exact this);have CW:val (O.take ly)=val O:=by
     rw[apd HD.out.AA,ca];have:=HD.out.lt;rw[cI,ck]at this;refine fE this ?_;have h:=oE HVok.out;rw[HnV.out]at h;exact h
    have Vv:iG (O.take ly)=gW (val X%val Y*2^s):=by rw[rO (HD.out.AA.take ly),CW,Oi.2]
    rw[Vv]at HZh;have J8:=HD.out.Hm;rw[HnV.out]at J8;have Vx:pz (val X/val Y) (lx+1-ly)=Q:=Na HD.out.DE J8 Oi.1;have HQd:=aq9 Vx;generalize rk (s%32) ((gW (val X%val Y*2^s)).drop (s/32))=Z at *
    have HQl:=aq9 J8;clear Oi CW Vv Vx Wi HZ e1 J8 hO xJ VI zY Eu NU;go_wp2_with fail;refine HZh.out.mono ?_;rintro e w5 ⟨AZ,cZ,rfl,hZs,VL⟩;go_wp2;go_ret2;have hq:=HQs.out.below VL;rw[HQl.out]at hq;exact⟨_,_,_,_,by rw[Bc];rfl,by rw[HQd.out];exact hq,hZs,HE.out.trans VL⟩
   .have hO:=HD.out.Xp;have c4:=Eu.cell (i:=t+ly) aE;have c5:=Eu.cell (i:=t+ly-1) aE;have c6:=Eu.cell (i:=t+ly-2) aE;obtain⟨_,_,e1,_,c7⟩:=zY.mi (i:=ly-1) (by rw[HnV.out];omega);obtain⟨_,_,e2,_,c8⟩:=zY.mi (i:=ly-2) (by rw[HnV.out];omega);cases e1;cases e2;rw[cj]at c7 c8;have v7:V[ly-1]'(by rw[HnV.out];omega)=V.getD (ly-1) 0:=by simp[bw,HnV.out,(aE:ly-1<ly)]
    have v8:V[ly-2]'(by rw[HnV.out];omega)=V.getD (ly-2) 0:=by simp[bw,HnV.out,(aE:ly-2<ly)]
    rw[v7]at c7;rw[v8]at c8;clear v7 v8;have lj:=HD.out.AA;have o4:=lj.getD (t+ly);have o5:=lj.getD (t+ly-1);have o6:=lj.getD (t+ly-2);have o7:=HVok.out.getD (ly-1);have o8:=HVok.out.getD (ly-2);have hG:=HD.out.ahz HVok.out (by rw[HnV.out];omega) (by rw[HnV.out];exact HN1.out);rw[HnV.out]at hG;obtain⟨gd,g1,g2,g3,g4⟩:=ahA (O.getD (t+ly) 0) (O.getD (t+ly-1) 0) (O.getD (t+ly-2) 0) (V.getD (ly-1) 0) (V.getD (ly-2) 0) HN1.out o7 o5 o6 o8 hG.1;have HGq:=aq9 (hG.2 gd g1 g2 g3);have HG:=aq9 g4;clear hG g2 g3 g4 lj zY Eu NU;generalize O.getD (t+ly) 0=x4 at *
    generalize O.getD (t+ly-1) 0=x5 at *
    generalize O.getD (t+ly-2) 0=x6 at *
    have HV1:=aq9 (rfl:V.getD (ly-1) 0=V.getD (ly-1) 0);generalize hx7:V.getD (ly-1) 0=x7 at *
    generalize V.getD (ly-2) 0=x8 at *
    clear hx7 HV1;have i1:(((t+1:Nat):Int)-1)=(t:Int):= aE ;have i2:((t:Int)+ly).toNat=t+ly:= aE ;have i3:((t:Int)+ly-1).toNat=t+ly-1:= aE ;have i4:((t:Int)+ly-2).toNat=t+ly-2:= aE ;have i6:((ly:Int)-2)=((ly-2:Nat):Int):= aE ;have p1:IntKind.i64.wrap ((t:Int)+ly)=(t:Int)+ly:=i64_in _ aE aE;have p2:IntKind.i64.wrap ((t:Int)+ly-1)=(t:Int)+ly-1:=i64_in _ aE aE;have p3:IntKind.i64.wrap ((t:Int)+ly-2)=(t:Int)+ly-2:=i64_in _ aE aE;have p4:IntKind.i64.wrap ((ly-1:Nat):Int)=((ly-1:Nat):Int):=i64_in _ aE aE;have p5:IntKind.i64.wrap ((ly-2:Nat):Int)=((ly-2:Nat):Int):=i64_in _ aE aE;have j6:((ly-1:Nat):Int)<ly:= aE ;have j7:((ly-2:Nat):Int)<ly:= aE ;have j0:0<=(t:Int)+ly:= aE ;have j1:0<=(t:Int)+ly-1:= aE ;have j2:0<=(t:Int)+ly-2:= aE ;have j3:(t:Int)+ly<lx+1:= aE ;have j4:(t:Int)+ly-1<(lx:Int)+1:= aE ;have j5:(t:Int)+ly-2<(lx:Int)+1:= aE ;rw[i1];clear i1;go_wp2;go_quiet (exact alR (HG.out _));go_wp2_with fail;have HTk:=aoC g t (cap-t) cap' gd O V R (some ⟨g',0,none⟩) (wr.drewN nq) (HRO.out.qL rfl) (HSV.out.drewN nq) (λb' o _ e=>by cases e;exact Km) HD.out.AA (by rw[HnV.out];omega) g1 aE;rw[HnV.out,(aE:ly+1=t+ly+1-t)]at HTk;refine HTk.mono ?_;rintro e w5 ⟨O',δ,rfl,Vy,qW,EL,hδ,jQ,KI,EM⟩;have HRO':=aq9 Vy;have HON:=aq9 EM;have HSV5:=aq9 ((HSV.out.drewN nq).pr (λb' o _ e=>by cases e;exact Km) EM);have HRQ5:=aq9 (show Rw w5 w3.heap.size Q from(EM.pr _ aE).trans HRQ.out);have HE5:=aq9 (show iF w w5 from Fp.iF.aoQ HE.out EM VW);have hPt:=pw t;have VG:0<val V:=by
     have:=HD.out.lt;rcases ez (val V)with h|h
     .rw [h,cM]at this;omega
     .exact h
    have wg:IntKind.u32.wrap (gd:Int)=gd:=by rw[IntKind.wrap_u32];omega
    have htm:(t:Int)<lx+1-(ly:Int):= aE ;have Wn:t<Q.length:=by rw[HD.out.Hm,HnV.out];omega
    have NT:=bF Wn;have cq:=HRQ5.out.cell NT;have fq:=HRQ5.out.frozen t;generalize Q[t]=q0 at *
    have HQG:=aq9 NT;clear NT Wn c4 c5 c6 c7 c8 HRO HRQ HSV HE HTk Vy EM;rcases fT δ 1 with WI|hδ1
    .obtain rfl:δ=0:= aE ;have Vq:=TL hPt VG (by rw[jQ,cL,bY]) HGq.out.1;have HDS:=aq9 (HD.out.step (x:=gd) (by rw[HnV.out];omega) (by rw[qW,hO]) EL aE (by rw[jQ,cL,bY]) Vq.2);clear Vq jQ KI EL qW HD HGq;have HRQ6:=aq9 (λx:Nat=>HRQ5.out.set t x);have HRO6:=aq9 (λv:Value=>HRO'.out.qL (w':=w5.setCell ⟨w3.heap.size,t,none⟩ v) (by simp only[World.setCell,fm];rw[bj aE]));have HSV6:=aq9 (λv:Value=>HSV5.out.UB (b:=w3.heap.size) aE t v);have HE6:=aq9 (λv:Value=>HE5.out.setCell (p:=⟨w3.heap.size,t,none⟩) (by show w.heap.size<=w3.heap.size;omega) v);go_wp2;go_roundw
     case rel=>exact⟨t,O',Q.set t gd,aE,by go_num,HDS.out,HRO6.out _,HRQ6.out _,HSV6.out _,HE6.out _⟩
     case measure=>simp[intOf]
    .obtain rfl:δ=1:= aE ;have uW:=HD.out.YZ (x:=gd) HVok.out EL (by rw[HnV.out];exact jQ) (by rw[HnV.out];exact KI);have CR:=uW.2;have HB:=aq9 (λ(κ:Nat) (O2:List Nat)=>HD.out.ac3 (x:=gd) (κ:=κ) (O2:=O2) HVok.out (by rw[HnV.out];omega) EL (by rw[HnV.out];exact jQ) (by rw[HnV.out];exact KI) g1 HGq.out.2 VG);have HP0:=aq9 (yC.start EL t V);have V3:O'.length=lx+1:=by rw[qW,hO]
     have HL':=aq9 V3;have hxm:IntKind.u64.wrap ((gd:Int)-1)=((gd-1:Nat):Int):=by rw[IntKind.wrap_u64];omega
     have wg1:IntKind.u32.wrap ((gd-1:Nat):Int)=((gd-1:Nat):Int):=by rw[IntKind.wrap_u32];omega
     clear uW jQ KI EL qW V3 HD HGq wg cq fq;go_wp2;go_loopw [15,125] (λcy i wr2=>∃ (k c':Nat) (O2:List Nat),k<=ly/\i = .int .i64 k/\cy = .int .u32 c'/\yC O' t V k O2 c'/\Rx wr2 g O2 R/\tW g w5 wr2) (λ_ i _=>ly-(intOf i).toNat)
     case atStart=>exact⟨0,0,O',bS _,rfl,rfl,HP0.out,HRO'.out,tW.refl _ _⟩
     case round=>
      clear HP0 HRO';obtain⟨k,c',O2,xM,rfl,rfl,hP,Bo,GW⟩:=hrel;have HP:=aq9 hP;have Bt:=hP.MS;have nX:O2.length=lx+1:=by rw[hP.len];exact HL'.out
      have HL2:=aq9 nX;clear hP;by_cases iC:k<ly
      .have Ad:k<V.length:=by rw[HnV.out];exact iC
       obtain⟨_,_,e1,_,c1⟩:=(HSV5.out.pr (λb' o _ e=>by cases e;exact Km) GW).mi Ad;cases e1;rw[cj]at c1;have v7:V[k]=V.getD k 0:=by simp[bw,Ad]
       rw[v7]at c1;have qG:t+k<O2.length:= aE ;have c2:=Bo.cell qG;have c3:=Bo.frozen (t+k);have qg:V.getD k 0<4294967296:=HVok.out.getD k;have G9:O2.getD (t+k) 0<4294967296:=HP.out.ok.getD _;have HST:=aq9 (HP.out.step HVok.out Ad (by rw[HL'.out,HnV.out];omega));have HRS:=aq9 (λx:Nat=>Bo.set qG x);have HOS:=aq9 (λ(v:Value)=>GW.IE (t+k) v);have HA:=aq9 (λw=>FQ (O2.getD (t+k) 0) (V.getD k 0) c' w G9 qg Bt);clear Bo GW HP v7 Ad qG nX HL2;generalize O2.getD (t+k) 0=u at *
       generalize V.getD k 0=y at *
       have yV:((t:Int)+k).toNat=t+k:= aE ;have CT:0<=(t:Int)+k:= aE ;have VZ:(t:Int)+k<lx+1:= aE ;go_wp2_with fail;refine(HA.out _).mono ?_;rintro e w6 ⟨rfl,rfl⟩;go_wp2;go_roundw
       case rel=>
        exact⟨k+1,(u+y+c')/4294967296,O2.set (t+k) ((u+y+c')%4294967296),aE,by go_num,rfl,HST.out,HRS.out _,HOS.out _⟩
       case measure=>simp[intOf];omega
      .obtain rfl:k=ly:= aE ;have J7:=(show yC O' t V V.length O2 c' by rw[HnV.out];exact HP.out).Pn (by rw[HL'.out,HnV.out];omega);rw[HnV.out]at J7;obtain⟨q1,q2,⟨κ,q3,q4⟩,q5⟩:=J7;have qG:t+k<O2.length:= aE ;have c2:=Bo.cell qG;have c3:=Bo.frozen (t+k);have G9:O2.getD (t+k) 0<4294967296:=HP.out.ok.getD _;have HDS:=aq9 (HB.out κ _ (by rw[q1];exact HL'.out) q2 q3 (by rw[HnV.out];exact q4) (by rw[HnV.out];exact q5));have HRS:=aq9 (λx:Nat=>Bo.set qG x);have HOS:=aq9 (λ(v:Value)=>GW.IE (t+k) v);have J9:∀ v:Value,Rw (wr.setCell ⟨g,t+k,none⟩ v) w3.heap.size Q:=λv=>((HOS.out v).pr _ aE).trans HRQ5.out
       have hcq:∀ v:Value,(wr.setCell ⟨g,t+k,none⟩ v).cell? ⟨w3.heap.size,t,none⟩=some (.int .u32 (q0:Int)):=λv=>(J9 v).cell HQG.out
       have hfq:∀ v:Value,(wr.setCell ⟨g,t+k,none⟩ v).frozen? ⟨w3.heap.size,t,none⟩=false:=λv=>(J9 v).frozen t
       have HRQ8:=aq9 (λ(v:Value) (x:Nat)=>(J9 v).set t x);have HRO8:=aq9 (λ(x:Nat) (v:Value)=>(HRS.out x).qL (w':=(wr.setCell ⟨g,t+k,none⟩ (.int .u32 (x:Int))).setCell ⟨w3.heap.size,t,none⟩ v) (by simp only[World.setCell,fm];rw[bj aE]));have HSV8:=aq9 (λ(v v2:Value)=>(HSV5.out.pr (λb' o _ e=>by cases e;exact Km) (HOS.out v)).UB (b:=w3.heap.size) aE t v2);have HE8:=aq9 (λ(v v2:Value)=>(Fp.iF.only HE5.out (HOS.out v) VW).setCell (p:=⟨w3.heap.size,t,none⟩) (by show w.heap.size<=w3.heap.size;omega) v2);clear J9 HRS HOS Bo GW HP q1 q2 q3 q4 q5 qG nX HL2;generalize O2.getD (t+k) 0=u at *
       have yV:((t:Int)+k).toNat=t+k:= aE ;have CT:0<=(t:Int)+k:= aE ;have VZ:(t:Int)+k<lx+1:= aE ;have hi4:IntKind.u32.wrap ((u:Int)+c')=(((u+c')%4294967296:Nat):Int):=by rw[IntKind.wrap_u32];omega
       generalize (u+c')%4294967296=uu at *
       go_wp2;go_roundw
       case rel=>exact⟨t,O2.set (t+k) uu,Q.set t (gd-1),aE,by go_num,HDS.out,HRO8.out _ _,HRQ8.out _ _,HSV8.out _ _,HE8.out _ _⟩
       case measure=>simp[intOf]
def an0:E.le (.v (.slice none 0 0)) (ia []):=λbs br w v h=>by
 obtain rfl:=iD.kJ h;exact .sl false 0 1 _ none 0 (λ_ _=>undef) (bu _) aG (λ_=>rfl) (λi j hi=>absurd hi (bE i)) (λi j hi=>absurd hi (bE i)) (λi j hi=>absurd hi (bE i)) (λi j hi=>absurd hi (bE i))
def an1{x:Nat}:E.le (.sl false 1 1 λi_ j_=>[.v (.int .u32 (x:Int))].getD (i_*1+j_) (.v (.bool false))) (ia [x]):=.sl λi j hi hj=>by
 obtain rfl:i=0:= aE ;obtain rfl:j=0:= aE ;exact⟨.refl _,rfl⟩
def Tl(L:List Nat)(hk:iK L):gV 260 [ia L] (ia L):=Ij hk call260 (λA c w h _=>M3 A c L w h) λA c B w e w' h hB ⟨h1,h2⟩=>by
 subst h2;exact⟨_,h1,Below.refl _ _,Cd hB (Below.refl _ _) ⟨bu _,h.len,h.ok,λhn=>by have:=h.zf hn;have:=h.cap;omega,h.cell⟩⟩
def Tm(L:List Nat)(hk:iK L)(hl:L.length<=1000000):gV 204 [ia L] (ia L):=Ij hk call204 (λA c w h _=>M4 A c L w h aE) λA c B w e w' h hB r=>rl B w e w' hB r
def akF(L M:List Nat)(hL:iK L)(hM:iK M)(h1:L.length<=100000)(h2:M.length<=100000)(hc:kI (val (iG L)) (val (iG M))<0):gV 322 [ia L,ia M] (.iw [ia [],ia (iG L)]):=by
 have ta:=pY L;have tb:=pY M;unfold mX at ta tb;exact ak call322 func322 (ae [ag [ia L] (vh _ aF),ag [ia M] (vh _ aF),ag [ia (iG L),ia (iG M)] (PO _ _ (iK.iG aF) (iK.iG aF) aE aE),tB 25 (bn hc),ag [ia (iG L)] (Tm _ (iK.iG aF) aE)]<|rR (.iw [ia [],ia (iG L)]) (.iw (.cons an0 (.cons (.refl _) .nil)):E.le (.iw [.v (.slice none 0 0),ia (iG L)]) (.iw [ia [],ia (iG L)]))) 
def akG(L M:List Nat)(hL:iK L)(hM:iK M)(h1:L.length<=100000)(h2:M.length<=100000)(hc:¬kI (val (iG L)) (val (iG M))<0)(hl:(iG M).length=1)(Bu:0<(iG M).getD 0 0)(Bv:(iG M).getD 0 0<4294967296):gV 322 [ia L,ia M] (.iw [ia (pz (val (iG L)/(iG M).getD 0 0) (iG L).length),ia [val (iG L)%(iG M).getD 0 0]]):=by
 have ta:=pY L;have tb:=pY M;unfold mX at ta tb;exact ak call322 func322 (ae [ag [ia L] (vh _ aF),ag [ia M] (vh _ aF),ag [ia (iG L),ia (iG M)] (PO _ _ (iK.iG aF) (iK.iG aF) aE aE),tB 25 (bt hc),ah 30 (((iG M).length:Int)==1) (by rw[hl];rfl),iX 0 ((iG M).length) aE,.c (akM (iG L) ((iG M).getD 0 0) (iK.iG aF) aE Bu Bv)]<|rR (.iw [ia (pz (val (iG L)/(iG M).getD 0 0) (iG L).length),ia [val (iG L)%(iG M).getD 0 0]]) (.iw (.cons (.refl _) (.cons an1 .nil)):E.le (.iw [ia (pz (val (iG L)/((iG M).getD 0 0)) (iG L).length),(.sl false 1 1 λi_ j_=>[.v (.int .u32 ((val (iG L)%((iG M).getD 0 0):Nat):Int))].getD (i_*1+j_) (.v (.bool false)))]) (.iw [ia (pz (val (iG L)/(iG M).getD 0 0) (iG L).length),ia [val (iG L)%(iG M).getD 0 0]]))) 
def PQ(L M:List Nat)(hL:iK L)(hM:iK M)(h1:L.length<=100000)(h2:M.length<=100000)(h0:val M≠0):∃ T S:List Nat,gV 322 [ia L,ia M] (.iw [ia T,ia S])/\val T=val L/val M/\val S=val L%val M/\iK T/\iK S/\T.length<=L.length/\S.length<=L.length+1:=by
 have ta:=pY L;have tb:=pY M;unfold mX at ta tb;have e1:=qA L;have e2:=qA M;by_cases hc:kI (val (iG L)) (val (iG M))<0
 .refine ⟨[],iG L,akF L M hL hM h1 h2 hc,?_,?_,iK.nil,hL.iG,bS _,aE⟩
  .rw [e1,e2]at hc;have:val L<val M:=by unfold kI at hc;split at hc<;>(try split at hc)<;>omega
   rw[c9 this];rfl
  .rw [e1,e2]at hc;have:val L<val M:=by unfold kI at hc;split at hc<;>(try split at hc)<;>omega
   rw[ca this,e1]
 .have s5:val M<=val L:=by rw[e1,e2]at hc;unfold kI at hc;split at hc<;>(try split at hc)<;>omega
  have ju:iG M≠[]:=by intro h;rw[h]at e2;exact h0 e2.symm
  have hlen:(iG M).length≠0:=by simpa using ju
  by_cases hl:(iG M).length=1
  .obtain ⟨x,hx⟩:=List.length_eq_one_iff.1 hl;have lj:=hM.iG;rw[hx]at lj;have WA:x=val M:=by rw[<-e2,hx];simp[val]
   have hg:(iG M).getD 0 0=x:=by rw[hx];rfl
   have:=akG L M hL hM h1 h2 hc hl (by rw[hg];omega) (by rw[hg];exact lj.head);rw[hg]at this;refine⟨_,_,this,?_,?_,Ga _ _,iK.cons (fE (bM _ aE) lj.head) iK.nil,by rw[Bc];exact ta,aK⟩
   .rw [IT,ca,e1,WA];exact cC (b7 _ _) (oE hL.iG)
   .simp [val,e1,WA]
  .refine ⟨_,_,BW hL hM call322 (λA c B d w h k hT=>afD A B c d L M w _ _ _ rfl rfl rfl h k hT h1 h2 s5 aE) (λB w e w' hB ⟨A1,c1,B1,d1,q1,q2,q3,q4⟩=>⟨_,q1,q4,kr.iw (.cons (Cd hB q4 q2) (.cons (Cd hB q4 q3) (.nil _ _ _)))⟩),?_,?_,Ga _ _,BU _ _,?_,?_⟩
   .rw [IT,ca];rw[cA aE];have g1:=oE hL.iG;rw[e1]at g1;refine bV g1 ?_;obtain⟨l,qW⟩:∃ l,(iG M).length=l+1:=⟨(iG M).length-1,aE⟩
    have g2:4294967296^l<=val M:=by
     apply bT;intro q;have q2:(gW (val M)).length<=l:=s9 aE;rw[<-rO hM]at q2;omega
    have g3:=cO (4294967296^((iG L).length+1-(iG M).length)) g2;rw[<-bB]at g3;refine bA ?_ g3;exact bR aG aE 
   .rw [Me (ml _),kq,dP _ (bD aG)]
   .rw [Bc];omega
   .rw [LS,eV];have hb:32-ie ((iG M).getD ((iG M).length-1) 0)<33:= aE ;have:=ajT (ml (val L%val M)) (32-ie ((iG M).getD ((iG M).length-1) 0));rw[kq]at this;have h3:(gW (val L%val M)).length<=(gW (val L)).length:=mO (eG _ _);rw[<-rO hL]at h3;omega
def Av(m n:Nat)(h1:(gW m).length<=256)(h2:(gW n).length<=256)(h0:n≠0):gV 286 [ia (gW m),ia (gW n)] (.iw [ia (gW (m/n)),ia (gW (m%n)),iP 0]):=by
 obtain⟨T,S,GG,hT,hS,oT,oS,_,_⟩:=PQ (gW m) (gW n) (ml m) (ml n) aE aE (by rw[kq];exact h0);rw[kq,kq]at hT hS;have hz:iG (gW n)=gW n:=uI n;have hl:=nR h0;have nX:(((iG (gW n)).length:Int)==0)=false:=by rw[hz];exact ni hl
 exact ak call286 func286 (ae [.c (Yn (gW m) (gW n) aF aF),ag [ia (gW n)] (vh _ (ml _)),ai 18 (((iG (gW n)).length:Int)==0) nX,ag [ia (gW m),ia (gW n)] GG,ag [ia T] (vh _ aF),ag [ia (iG T)] (Tl _ (iK.iG aF)),ag [ia S] (vh _ aF),ag [ia (iG S)] (Tl _ (iK.iG aF))]<|rQ (.iw [ia (iG T),ia (iG S),iP 0]) (.iw [ia (gW (m/n)),ia (gW (m%n)),iP 0]) (by rw[rO oT,rO oS,hT,hS])) 
def Zk(a b:Dy)(p:Nat)(up:Bool)(ha:a.ib)(hb:b.ib)(b0:b.m≠0)(il:8<=p)(ic:p<=512):gV 251 [gZ a,gZ b,iP p,bP up] (.iw [gZ (pA a b p up),iP (rz a b p up)]):=by
 by_cases a0:a.m=0
 .have e1:pA a b p up=iA/\rz a b p up=0:=by unfold pA rz;rw[bk a0,bk a0];exact⟨rfl,rfl⟩
  exact ak call251 func251 (ae [.o 18 (.e (xH _ _):aj (.sl true 2 3 λi_ j_=>(ix a++ix b).getD (i_*3+j_) (.v (.bool false))) (jN [a,b])),ag [iP p,jN [a,b]] (yo _ _ _ aF aF aE aE),ai 21 ((0:Int) != 0) aG,ai 28 (((gW b.m).length:Int)==0) (ni (nR b0)),ah 34 (((gW a.m).length:Int)==0) (sk (pE.2 a0)),.o 35 (.e qO:aj (.agg ar) (gZ iA))]<|rQ (.iw [gZ iA,iP 0]) (.iw [gZ (pA a b p up),iP (rz a b p up)]) (by rw[e1.1,e1.2])) 
 .have va:=ha.gW;have vb:=hb.gW;have xa:=ha.exp;have xb:=hb.exp;have ra:=ha.range.resolve_left a0;have rb:=hb.range.resolve_left b0;have pa:=ny a0;have pb:=ny b0;have hK:lI a b p 3=p+3+ie b.m-ie a.m:=rfl;have bs:=qC a0 (lI a b p 3);have z1:(gW (a.m*2^lI a b p 3)).length<=256:=oX aE;have hq:=Nb a0 b0 p 3 aG;have q0:a.m*2^lI a b p 3/b.m≠0:=by intro q;rw[q,rX]at hq;omega
  have z2:(gW (a.m*2^lI a b p 3/b.m)).length<=256:=oX (by have:=vz (b7 (a.m*2^lI a b p 3) b.m);omega);have z3:(gW (a.m*2^lI a b p 3%b.m)).length<=256:=oX (by have:=vz (dt (bM (a.m*2^lI a b p 3) (ef b0)));omega);have qn:decide (0<(ie (a.m*2^lI a b p 3%b.m):Int))=decide (a.m*2^lI a b p 3%b.m≠0):=by
   by_cases h:a.m*2^lI a b p 3%b.m=0
   .rw [h,rX];rfl
   .have:=ny h;rw[bn h,bn aE]
  obtain⟨d1,d2⟩:=afB a0 b0 p up;have h0:a.m*2^lI a b p 3/b.m≠0\/a.m*2^lI a b p 3/b.m=0/\a.e-(lI a b p 3:Int)-b.e=0/\decide (0<(ie (a.m*2^lI a b p 3%b.m):Int))=false:=.inl q0;have hm:decide (0<(ie (a.m*2^lI a b p 3%b.m):Int))=true->p<ie (a.m*2^lI a b p 3/b.m):=λ_=>hq
  exact ak call251 func251 (ae [.o 18 (.e (xH _ _):aj (.sl true 2 3 λi_ j_=>(ix a++ix b).getD (i_*3+j_) (.v (.bool false))) (jN [a,b])),ag [iP p,jN [a,b]] (yo _ _ _ aF aF aE aE),ai 21 ((0:Int) != 0) aG,ai 28 (((gW b.m).length:Int)==0) (ni (nR b0)),ai 34 (((gW a.m).length:Int)==0) (ni (nR a0)),iq ((p:Int)+3) aE,ag [gZ b] (Em _ aF),iq (((p:Int)+3)+(ie (Dy.m b):Int)) aE,ag [gZ a] (Em _ aF),
   iq ((((p:Int)+3)+(ie (Dy.m b):Int))-(ie (Dy.m a):Int)) aE,.o 44 (aq (if((((p:Int)+3)+(ie (Dy.m b):Int))-(ie (Dy.m a):Int))>0 then((((p:Int)+3)+(ie (Dy.m b):Int))-(ie (Dy.m a):Int))else 0) (lI a b p 3:Int) aR),.c (xp a.m (lI a b p 3) aE aE aE),ag [ia (gW (a.m*2^(lI a b p 3))),ia (gW b.m)] (Av _ _ aE aE aF),
   iq (a.e-(lI a b p 3:Int)) aE,iq ((a.e-(lI a b p 3:Int))-b.e) aE,ag [ia (gW ((a.m*2^(lI a b p 3))%b.m))] (tf _ aE),.c (It (! (a.neg==b.neg)) ((a.m*2^(lI a b p 3))/b.m) ((a.e-(lI a b p 3:Int))-b.e) (decide (0<(ie ((a.m*2^(lI a b p 3))%b.m):Int))) up p aE aF aE aE aE aE aF)]<|rQ (.iw [gZ (kn (!(a.neg==b.neg)) ((a.m*2^(lI a b p 3))/b.m) ((a.e-(lI a b p 3:Int))-b.e) (decide (0<(ie ((a.m*2^(lI a b p 3))%b.m):Int))) p up),iP (jY (!(a.neg==b.neg)) ((a.m*2^(lI a b p 3))/b.m) ((a.e-(lI a b p 3:Int))-b.e) (decide (0<(ie ((a.m*2^(lI a b p 3))%b.m):Int))) p up)]) (.iw [gZ (pA a b p up),iP (rz a b p up)]) (by rw[<-d1,<-d2,<-qn];rfl)) 
def Zi(a b:Dy)(p:Nat)(ha:a.ib)(hb:b.ib)(b0:b.m≠0)(il:8<=p)(ic:p<=512):gV 207 [gZ a,gZ b,iP p] (.iw [gZ (pA a b p false),iP (rz a b p false)]):=
 ak call207 func207 (af [.c (Zk a b p false aF aF aF aE aE)]) 
def Zj(a b:Dy)(p:Nat)(ha:a.ib)(hb:b.ib)(b0:b.m≠0)(il:8<=p)(ic:p<=512):gV 208 [gZ a,gZ b,iP p] (.iw [gZ (pA a b p true),iP (rz a b p true)]):=
 ak call208 func208 (af [.c (Zk a b p true aF aF aF aE aE)]) 
def WW(l:List Iv)(i:Nat):PS:=⟨19,true,[(7,.e (iP i)),(6,.e (iP l.length)),(5,.e (ig l))],[]⟩
def WV(l:List Iv)(N:Nat)(i:Nat):PS:=⟨19,true,[(7,.e (iP i)),(6,.e (iP l.length)),(5,.e (ig l))],[]⟩
def lV(a:Iv):E.le (.sl true 1 7 λi j=>(iO a).getD (i*7+j) (.v (.bool false))) (ig [a]):=.sl λi j hi hj=>by
 obtain rfl:i=0:= aE ;rcases j with _|_|_|_|_|_|_|j
 all_goals first|exact⟨.refl _,rfl⟩|omega
def Ar(a b:Iv):E.le (.sl true 2 7 λi j=>(iO a++iO b).getD (i*7+j) (.v (.bool false))) (ig [a,b]):=.sl λi j hi hj=>by
 obtain rfl|rfl:i=0\/i=1:= aE 
 all_goals
  rcases j with _|_|_|_|_|_|_|j
  all_goals first|exact⟨.refl _,rfl⟩|omega
def uq{x:Iv}(h:x.ib)(ha:x.all=false):x.lo.ib/\x.hi.ib/\iL x.lo x.hi<=0:=by
 rcases h with⟨h1,_⟩|⟨_,h⟩
 .rw [ha]at h1;cases h1
 .exact h
def WY{x:Iv}(h:x.ib)(ha:x.all=true):x.lo=iA/\x.hi=iA:=by
 rcases h with⟨_,h⟩|⟨h1,_⟩
 .exact h
 .rw [ha]at h1;cases h1
def nZ : gV 138 [] (ij gY):=
 ak call138 func138 (af [.o 1 (.e Mj:aj (.agg [bP false,.v (.slice none 0 0),iP 0,bP false,.v (.slice none 0 0),iP 0,bP true]) (ij gY))]) 
def Dh(lo hi:Dy)(e f:Int):gV 146 [gZ lo,iP e,gZ hi,iP f] (ij (mj lo e hi f)):=by
 by_cases he:e=0
 .by_cases hf:f=0
  .exact ak call146 func146 (ae [ai 10 (e != 0) (by rw[he];rfl),ai 13 (f != 0) (by rw[hf];rfl)]<|rQ (ij (Iv.mk lo hi false)) (ij (mj lo e hi f)) (by rw[show mj lo e hi f=⟨lo,hi,false⟩by unfold mj;rw[bj (by simp[he,hf])]];try rfl)) 
  .exact ak call146 func146 (ae [ai 10 (e != 0) (by rw[he];rfl),ah 13 (f != 0) (by simpa using hf),.c nZ]<|rQ (ij gY) (ij (mj lo e hi f)) (by rw[show mj lo e hi f=gY by unfold mj;rw[bk (.inr hf)]])) 
 .exact ak call146 func146 (ae [ah 10 (e != 0) (by simpa using he),.c nZ]<|rQ (ij gY) (ij (mj lo e hi f)) (by rw[show mj lo e hi f=gY by unfold mj;rw[bk (.inl he)]])) 
def W0 : gV 200 [gZ iA] (bP true):=
 ak call200 func200 (af [ai 4 iA.neg rfl,ah 10 (((gW iA.m).length:Int)==0) (sk (pE.2 rfl)),ah 15 (iA.e==0) rfl]) 
def se(x:Iv)(hx:x.ib):gV 127 [ij x] (bP true):=by
 by_cases lh:x.all=true
 .obtain ⟨h1,h2⟩:=WY hx lh;exact ak call127 func127 (af [ah 5 x.all lh,.c (by rw[h1];exact W0:gV 200 [gZ x.lo] (bP true)),.c (by rw[h2];exact W0:gV 200 [gZ x.hi] (bP true))]) 
 .replace lh:x.all=false:=by simpa using lh
  obtain⟨h1,h2,h3⟩:=uq hx lh;exact ak call127 func127 (af [ai 5 x.all lh,ag [gZ x.lo] (nB _ aF),ag [gZ x.hi] (nB _ aF),ag [gZ x.lo,gZ x.hi] (lp _ _ aF aF),tB 30 (bn h3)]) 
def WX(l:List Iv)(hl:l.length<=1000)(hv:∀ i,i<l.length->(l.getD i gY).ib)(ha:∀ i,i<l.length->(l.getD i gY).all=false):gV 143 [ig l] (bP true):=
 ak call143 func143 (af [.s (Sp.jc (WW l) 0 l.length aE (λi hi oK=>by
    have Wt:=hv i aE;have N8:=ha i aE;exact iy (af [tT 8 ((i:Int)<l.length) aE,iX (i:Int) (l.length) aE,ai 12 ((l.getD i gY).all) N8,.c (se (l.getD i gY) aF),
     iq ((i:Int)+1) aE]) aI)
  (λhi=>by
    exact iy (af [tF 8 ((l.length:Int)<l.length) aE]) aI) aM:jb 2 f143 (WW l 0) (.exit 0) ⟨19,true,[],[]⟩) .nil]) 
def Pe(l:List Iv)(hl:l.length<=1000)(hv:∀ i,i<l.length->(l.getD i gY).ib)(N:Nat)(hN:N<l.length)(ha:∀ i,i<N->(l.getD i gY).all=false)(tp:(l.getD N gY).all=true):gV 143 [ig l] (bP false):=
 ak call143 func143 (af [.s (Sp.jc (WV l N) 0 N aE (λi hi oK=>by
    have Wt:=hv i aE;have N8:=ha i aE;exact iy (af [tT 8 ((i:Int)<l.length) aE,iX (i:Int) (l.length) aE,ai 12 ((l.getD i gY).all) N8,.c (se (l.getD i gY) aF),
     iq ((i:Int)+1) aE]) aI)
  (λhi=>by
    exact iy (af [tT 8 ((N:Int)<l.length) aE,iX (N:Int) (l.length) aE,ah 12 ((l.getD N gY).all) tp]) aI) aM:jb 2 f143 (WV l N 0) .ret ⟨19,true,[(2,.e (bP false))],[]⟩) .nil]) 
def qu(x:Iv)(hx:x.ib):gV 143 [ig [x]] (bP (!x.all)):=by
 have hv:∀ i,i<[x].length->([x].getD i gY).ib:=λi hi=>(match i,hi with
  | 0,_=>hx
  |n+1,hi=>absurd hi aK)
 cases lh:x.all with
 |true=>exact Pe [x] aK hv 0 aK (λi hi=>absurd hi (bE i)) lh
 |false=>exact WX [x] aK hv (λi hi=>(match i,hi with
  | 0,_=>lh
  |n+1,hi=>absurd hi aK))
def Aq(x y:Iv)(hx:x.ib)(hy:y.ib):gV 143 [ig [x,y]] (bP (!(x.all||y.all))):=by
 have hv:∀ i,i<[x,y].length->([x,y].getD i gY).ib:=λi hi=>(match i,hi with
  | 0,_=>hx
  | 1,_=>hy
  |n+2,hi=>absurd hi aK)
 cases lh:x.all with
 |true=>exact Pe [x,y] aK hv 0 aK (λi hi=>absurd hi (bE i)) lh
 |false=>cases BF:y.all with
  |true=>exact Pe [x,y] aK hv 1 aK (λi hi=>(match i,hi with
   | 0,_=>lh
   |n+1,hi=>absurd hi aE)) BF
  |false=>exact WX [x,y] aK hv (λi hi=>(match i,hi with
   | 0,_=>lh
   | 1,_=>BF
   |n+2,hi=>absurd hi aK))
def Am(x y:Iv)(p:Nat)(hx:x.ib)(hy:y.ib)(il:8<=p)(ic:p<=512):gV 61 [ij x,ij y,iP p] (ij (jS x y p)):=by
 by_cases hk:(x.all||y.all)=true
 .exact ak call61 func61 (ae [.o 13 (.e (Ar _ _):aj (.sl true 2 7 λi_ j_=>(iO x++iO y).getD (i_*7+j_) (.v (.bool false))) (ig [x,y])),ag [ig [x,y]] (Aq _ _ aF aF),ai 14 (!(x.all||y.all)) (by rw[hk];rfl),.c nZ]<|rQ (ij gY) (ij (jS x y p)) (by rw[show jS x y p=gY by unfold jS;rw[bk hk]])) 
 .replace hk:(x.all||y.all)=false:=by simpa using hk
  have lh:x.all=false:=by cases h:x.all;rfl;rw[h]at hk;simp at hk
  have BF:y.all=false:=by cases h:y.all;rfl;rw[h]at hk;simp at hk
  obtain⟨v1,v2,v3⟩:=uq hx lh;obtain⟨v4,v5,v6⟩:=uq hy BF;exact ak call61 func61 (ae [.o 13 (.e (Ar _ _):aj (.sl true 2 7 λi_ j_=>(iO x++iO y).getD (i_*7+j_) (.v (.bool false))) (ig [x,y])),ag [ig [x,y]] (Aq _ _ aF aF),ah 14 (!(x.all||y.all)) (by rw[hk];rfl),ag [iP p] (xf _),ah 18 (nj (p:Int)) (sT.2 ⟨aE,aE⟩),.c (al1 x.lo y.lo p aF aF aE aE),.c (Zg x.hi y.hi p aF aF aE aE),.c (Dh (kp (iJ x.lo y.lo) p false) (kp (iJ x.hi y.hi) p true) (j8 (iJ x.lo y.lo) p false) (j8 (iJ x.hi y.hi) p true))]<|rQ (ij (mj (kp (iJ x.lo y.lo) p false) (j8 (iJ x.lo y.lo) p false) (kp (iJ x.hi y.hi) p true) (j8 (iJ x.hi y.hi) p true))) (ij (jS x y p)) (by rw[show jS x y p=_ by unfold jS;rw[bj (by rw[hk];decide)]])) 
def KS(x:Iv)(hx:x.ib):gV 205 [ij x] (ij (qh x)):=by
 by_cases lh:x.all=true
 .exact ak call205 func205 (ae [.o 4 (.e (lV _):aj (.sl true 1 7 λi_ j_=>(iO x).getD (i_*7+j_) (.v (.bool false))) (ig [x])),ag [ig [x]] (qu _ aF),ai 5 (!x.all) (by rw[lh];rfl),.c nZ]<|rQ (ij gY) (ij (qh x)) (by rw[show qh x=gY by unfold qh;rw[bk lh]])) 
 .replace lh:x.all=false:=by simpa using lh
  obtain⟨v1,v2,v3⟩:=uq hx lh;exact ak call205 func205 (ae [.o 4 (.e (lV _):aj (.sl true 1 7 λi_ j_=>(iO x).getD (i_*7+j_) (.v (.bool false))) (ig [x])),ag [ig [x]] (qu _ aF),ah 5 (!x.all) (by rw[lh];rfl),ag [gZ x.hi] (yM _ aF),ag [gZ x.lo] (yM _ aF)]<|rQ (ij (Iv.mk (jf x.hi) (jf x.lo) false)) (ij (qh x)) (by rw[show qh x=⟨jf x.hi,jf x.lo,false⟩by unfold qh;rw[bj (by rw[lh];decide)]];try rfl)) 
def KV(x y:Iv)(p:Nat)(hx:x.ib)(hy:y.ib)(il:8<=p)(ic:p<=512):gV 140 [ij x,ij y,iP p] (ij (sJ x y p)):=by
 have hn:=Dz hy;exact ak call140 func140 (af [.c (KS y aF),.c (Am x (qh y) p aF aF aE aE)]) 
def BL(d:Dy)(hd:d.ib):gV 62 [gZ d] (ij (mJ d)):=
 ak call62 func62 (af [ag [gZ d] (nB _ aF)]) 
def El(d:Dy)(hd:d.ib):gV 174 [gZ d] (gZ (kU d)):=by
 have hl:=hd.gW;by_cases h0:d.m=0
 .have e1:kU d=iA:=by
   rcases hd.canon with q|q
   .unfold kU iA;rw[q.1,q.2.2]
   .omega
  exact ak call174 func174 (ae [ag [gZ d] (nB _ aF),ah 10 (((gW d.m).length:Int)==0) (sk (pE.2 h0)),.o 12 (.e qO:aj (.agg ar) (gZ iA))]<|rQ (gZ iA) (gZ (kU d)) (by rw[e1])) 
 .exact ak call174 func174 (af [ag [gZ d] (nB _ aF),ai 10 (((gW d.m).length:Int)==0) (ni (nR h0)),ag [ia (gW d.m)] (Tm _ (ml _) aE)]) 
def KQ(a b:Dy)(ha:a.ib)(hb:b.ib):gV 210 [gZ a,gZ b] (gZ (jj a b)):=by
 have hc:=Ba a b;by_cases h:(iL a b<=0)
 .exact ak call210 func210 (ae [ag [gZ a,gZ b] (lp _ _ aF aF),tB 8 (bn h)]<|rQ (gZ a) (gZ (jj a b)) (by unfold jj;rw[bj aE])) 
 .exact ak call210 func210 (ae [ag [gZ a,gZ b] (lp _ _ aF aF),tB 8 (bt h)]<|rQ (gZ b) (gZ (jj a b)) (by unfold jj;rw[bk aE])) 
def KR(a b:Dy)(ha:a.ib)(hb:b.ib):gV 209 [gZ a,gZ b] (gZ (iW a b)):=by
 have hc:=Ba a b;by_cases h:(0<=iL a b)
 .exact ak call209 func209 (ae [ag [gZ a,gZ b] (lp _ _ aF aF),tB 8 (bn h)]<|rQ (gZ a) (gZ (iW a b)) (by unfold iW;rw[bj aE])) 
 .exact ak call209 func209 (ae [ag [gZ a,gZ b] (lp _ _ aF aF),tB 8 (bt h)]<|rQ (gZ b) (gZ (iW a b)) (by unfold iW;rw[bk aE])) 
def KU(x:Iv)(hx:x.ib):gV 132 [ij x] (iP (nV x)):=by
 by_cases lh:x.all=true
 .exact ak call132 func132 (ae [.o 5 (.e (lV _):aj (.sl true 1 7 λi_ j_=>(iO x).getD (i_*7+j_) (.v (.bool false))) (ig [x])),ag [ig [x]] (qu _ aF),ai 6 (!x.all) (by rw[lh];rfl)]<|rQ (iP 0) (iP (nV x)) (by rw[show nV x=0 by unfold nV;rw[bk lh]])) 
 .replace lh:x.all=false:=by simpa using lh
  obtain⟨v1,v2,v3⟩:=uq hx lh;by_cases h1:0<x.lo.iI
  .exact ak call132 func132 (ae [.o 5 (.e (lV _):aj (.sl true 1 7 λi_ j_=>(iO x).getD (i_*7+j_) (.v (.bool false))) (ig [x])),ag [ig [x]] (qu _ aF),ah 6 (!x.all) (by rw[lh];rfl),ag [gZ x.lo] (nA _ aF),tB 12 (bn h1)]<|rQ (iP 1) (iP (nV x)) (by rw[show nV x=1 by unfold nV;rw[bj (by rw[lh];decide)];simp[h1]])) 
  .by_cases h2:x.hi.iI<0
   .exact ak call132 func132 (ae [.o 5 (.e (lV _):aj (.sl true 1 7 λi_ j_=>(iO x).getD (i_*7+j_) (.v (.bool false))) (ig [x])),ag [ig [x]] (qu _ aF),ah 6 (!x.all) (by rw[lh];rfl),ag [gZ x.lo] (nA _ aF),tB 12 (bt h1),ag [gZ x.hi] (nA _ aF),tB 17 (bn h2)]<|rQ (iP (-1)) (iP (nV x)) (by rw[show nV x = -1 by unfold nV;rw[bj (by rw[lh];decide)];simp[h1,h2]])) 
   .exact ak call132 func132 (ae [.o 5 (.e (lV _):aj (.sl true 1 7 λi_ j_=>(iO x).getD (i_*7+j_) (.v (.bool false))) (ig [x])),ag [ig [x]] (qu _ aF),ah 6 (!x.all) (by rw[lh];rfl),ag [gZ x.lo] (nA _ aF),tB 12 (bt h1),ag [gZ x.hi] (nA _ aF),tB 17 (bt h2)]<|rQ (iP 0) (iP (nV x)) (by rw[show nV x=0 by unfold nV;rw[bj (by rw[lh];decide)];simp[h1,h2]])) 
def Hh(x:Iv)(hx:x.ib)(lh:x.all=false):gV 182 [ij x] (.iw [gZ (iR x),bP true]):=by
 obtain⟨v1,v2,v3⟩:=uq hx lh;have w1:=vy v1;have w2:=vy v2;exact ak call182 func182 (af [.o 5 (.e (lV _):aj (.sl true 1 7 λi_ j_=>(iO x).getD (i_*7+j_) (.v (.bool false))) (ig [x])),ag [ig [x]] (qu _ aF),ah 6 (!x.all) (by rw[lh];rfl),.c (El x.lo aF),.c (El x.hi aF),.c (KR (kU x.lo) (kU x.hi) aF aF)]) 
def aiK(x:Iv)(hx:x.ib)(lh:x.all=false):gV 287 [ij x] (.iw [gZ (pt x),bP true]):=by
 obtain⟨v1,v2,v3⟩:=uq hx lh;have w1:=vy v1;have w2:=vy v2;by_cases hs:nV x=0
 .exact ak call287 func287 (ae [.o 5 (.e (lV _):aj (.sl true 1 7 λi_ j_=>(iO x).getD (i_*7+j_) (.v (.bool false))) (ig [x])),ag [ig [x]] (qu _ aF),ah 6 (!x.all) (by rw[lh];rfl),.c (KU x aF),ah 11 ((nV x)==0) (by rw[hs];rfl),.o 12 (.e qO:aj (.agg ar) (gZ iA))]<|rQ (.iw [gZ iA,bP true]) (.iw [gZ (pt x),bP true]) (by rw[show pt x=iA by unfold pt;rw[bk hs]])) 
 .exact ak call287 func287 (ae [.o 5 (.e (lV _):aj (.sl true 1 7 λi_ j_=>(iO x).getD (i_*7+j_) (.v (.bool false))) (ig [x])),ag [ig [x]] (qu _ aF),ah 6 (!x.all) (by rw[lh];rfl),.c (KU x aF),ai 11 ((nV x)==0) (by simpa using hs),.c (El x.lo aF),.c (El x.hi aF),.c (KQ (kU x.lo) (kU x.hi) aF aF)]<|rQ (.iw [gZ (jj (kU x.lo) (kU x.hi)),bP true]) (.iw [gZ (pt x),bP true]) (by rw[show pt x=jj (kU x.lo) (kU x.hi)by unfold pt;rw[bj hs]])) 
def Pd(x:Iv)(hx:x.ib):gV 252 [ij x] (ij (ke x)):=by
 by_cases lh:x.all=true
 .exact ak call252 func252 (ae [.o 8 (.e (lV _):aj (.sl true 1 7 λi_ j_=>(iO x).getD (i_*7+j_) (.v (.bool false))) (ig [x])),ag [ig [x]] (qu _ aF),ai 9 (!x.all) (by rw[lh];rfl),.c nZ]<|rQ (ij gY) (ij (ke x)) (by rw[show ke x=gY by unfold ke;rw[bk lh]])) 
 .replace lh:x.all=false:=by simpa using lh
  obtain⟨v1,v2,v3⟩:=uq hx lh;exact ak call252 func252 (ae [.o 8 (.e (lV _):aj (.sl true 1 7 λi_ j_=>(iO x).getD (i_*7+j_) (.v (.bool false))) (ig [x])),ag [ig [x]] (qu _ aF),ah 9 (!x.all) (by rw[lh];rfl),.c (aiK x aF lh),.c (Hh x aF lh)]<|rQ (ij (Iv.mk (pt x) (iR x) false)) (ij (ke x)) (by rw[show ke x=⟨pt x,iR x,false⟩by unfold ke;rw[bj (by rw[lh];decide)]];try rfl)) 
def aiF(x y:Iv)(p:Nat)(gd gu:FuncId)(DD:Dy->Dy->Bool->Dy)(EE:Dy->Dy->Bool->Int):PS:=⟨96,true,[(41,.e (iP 0)),(40,.e (.agg (iO (Iv.mk x.lo y.lo x.lo.neg)++[ia (gW x.lo.m),iP x.lo.e]++iO (Iv.mk y.hi x.hi y.lo.neg)++[ia (gW y.lo.m),iP y.lo.e]++ix x.hi++ix y.hi))),(12,.box 12 0),(10,.box 10 0),(2,.e (iP p)),(3,.e (.fn gd [])),(4,.e (.fn gu []))],[(12,.cells 39 (iO (Iv.mk (DD x.lo y.lo false) (DD x.lo y.lo true) false))),(10,.cells 39 au)]⟩
def aiG(x y:Iv)(p:Nat)(gd gu:FuncId)(DD:Dy->Dy->Bool->Dy)(EE:Dy->Dy->Bool->Int):PS:=⟨96,true,[(41,.e (iP (0+1))),(40,.e (.agg (iO (Iv.mk x.lo y.lo x.lo.neg)++[ia (gW x.lo.m),iP x.lo.e]++iO (Iv.mk y.hi x.hi y.lo.neg)++[ia (gW y.lo.m),iP y.lo.e]++ix x.hi++ix y.hi))),(12,.box 12 0),(10,.box 10 0),(2,.e (iP p)),(3,.e (.fn gd [])),(4,.e (.fn gu []))],[(12,.cells 39 (iO (Iv.mk (jj (DD x.lo y.lo false) (DD x.lo y.hi false)) (iW (DD x.lo y.lo true) (DD x.lo y.hi true)) false))),(10,.cells 39 au)]⟩
def aiH(x y:Iv)(p:Nat)(gd gu:FuncId)(DD:Dy->Dy->Bool->Dy)(EE:Dy->Dy->Bool->Int):PS:=⟨96,true,[(41,.e (iP ((0+1)+1))),(40,.e (.agg (iO (Iv.mk x.lo y.lo x.lo.neg)++[ia (gW x.lo.m),iP x.lo.e]++iO (Iv.mk y.hi x.hi y.lo.neg)++[ia (gW y.lo.m),iP y.lo.e]++ix x.hi++ix y.hi))),(12,.box 12 0),(10,.box 10 0),(2,.e (iP p)),(3,.e (.fn gd [])),(4,.e (.fn gu []))],[(12,.cells 39 (iO (Iv.mk (jj (jj (DD x.lo y.lo false) (DD x.lo y.hi false)) (DD x.hi y.lo false)) (iW (iW (DD x.lo y.lo true) (DD x.lo y.hi true)) (DD x.hi y.lo true)) false))),(10,.cells 39 au)]⟩
def aiI(x y:Iv)(p:Nat)(gd gu:FuncId)(DD:Dy->Dy->Bool->Dy)(EE:Dy->Dy->Bool->Int):PS:=⟨96,true,[(41,.e (iP (((0+1)+1)+1))),(40,.e (.agg (iO (Iv.mk x.lo y.lo x.lo.neg)++[ia (gW x.lo.m),iP x.lo.e]++iO (Iv.mk y.hi x.hi y.lo.neg)++[ia (gW y.lo.m),iP y.lo.e]++ix x.hi++ix y.hi))),(12,.box 12 0),(10,.box 10 0),(2,.e (iP p)),(3,.e (.fn gd [])),(4,.e (.fn gu []))],[(12,.cells 39 (iO (Iv.mk (jj (jj (jj (DD x.lo y.lo false) (DD x.lo y.hi false)) (DD x.hi y.lo false)) (DD x.hi y.hi false)) (iW (iW (iW (DD x.lo y.lo true) (DD x.lo y.hi true)) (DD x.hi y.lo true)) (DD x.hi y.hi true)) false))),(10,.cells 39 au)]⟩
def WU(x y:Iv)(p:Nat)(gd gu:FuncId)(DD:Dy->Dy->Bool->Dy)(EE:Dy->Dy->Bool->Int)(hd:∀ a b,(a=x.lo\/a=x.hi)->(b=y.lo\/b=y.hi)->gV gd [gZ a,gZ b,iP (p:Int)] (.iw [gZ (DD a b false),iP (EE a b false)]))
  (hu:∀ a b,(a=x.lo\/a=x.hi)->(b=y.lo\/b=y.hi)->gV gu [gZ a,gZ b,iP (p:Int)] (.iw [gZ (DD a b true),iP (EE a b true)])) (hv:∀ a b up,(DD a b up).ib):gV 206 [ij x,ij y,iP p,.fn gd [],.fn gu []] (ij (pB DD EE x y)):=by
 exact ak call206 func206 (ae [.u 5,ah 42 (decide ((0:Int)<4)) aG]<|.w ((EE x.lo y.lo false)=0)
  (λk1=>.w ((EE x.lo y.lo true)=0)
   (λk2=>ae [.j 3 (aiF x y p gd gu DD EE)
   (af [iX 0 4 aE,iX 0 2 aE,iX 1 2 aE,.c (hd _ _ (.inl rfl) (.inl rfl):gV gd ((gZ x.lo)::(gZ y.lo)::(iP p)::[]) _),iX 0 2 aE,iX 1 2 aE,.c (hu _ _ (.inl rfl) (.inl rfl):gV gu ((gZ x.lo)::(gZ y.lo)::(iP p)::[]) _),tB 66 (bg k1),tB 69 (bg k2),ah 73 ((0:Int)==0) aG,ah 84 ((0:Int)==0) aG]),
    iq (0+1) aE,ah 42 (decide (((0+1):Int)<4)) aG]<|.w ((EE x.lo y.hi false)=0)
    (λk3=>.w ((EE x.lo y.hi true)=0)
     (λk4=>ae [.j 3 (aiG x y p gd gu DD EE)
   (ae [iX (0+1) 4 aE,iX 0 2 aE,iX 1 2 aE,.c (hd _ _ (.inl rfl) (.inr rfl):gV gd ((gZ x.lo)::(gZ y.hi)::(iP p)::[]) _),iX 0 2 aE,iX 1 2 aE,.c (hu _ _ (.inl rfl) (.inr rfl):gV gu ((gZ x.lo)::(gZ y.hi)::(iP p)::[]) _),tB 66 (bg k3),tB 69 (bg k4),ai 73 (((0+1):Int)==0) aG,ag [gZ (DD x.lo y.hi false),gZ (DD x.lo y.lo false)] (lp _ _ (hv _ _ _) (hv _ _ _))]<|.w ((iL (DD x.lo y.hi false) (DD x.lo y.lo false))<0)
    (λm1=>ae [tB 79 (bn m1),ai 84 (((0+1):Int)==0) aG,ag [gZ (DD x.lo y.hi true),gZ (DD x.lo y.lo true)] (lp _ _ (hv _ _ _) (hv _ _ _))]<|.w (0<(iL (DD x.lo y.hi true) (DD x.lo y.lo true)))
     (λm2=>ae [tB 90 (bn m2)]<|.e (af [.b 12 (.iT (by rw[show jj (DD x.lo y.lo false) (DD x.lo y.hi false)=(DD x.lo y.hi false)from bk m1,show iW (DD x.lo y.lo true) (DD x.lo y.hi true)=(DD x.lo y.hi true)from bk m2]):Bx.le (.cells 39 (iO (Iv.mk (DD x.lo y.hi false) (DD x.lo y.hi true) false))) (.cells 39 (iO (Iv.mk (jj (DD x.lo y.lo false) (DD x.lo y.hi false)) (iW (DD x.lo y.lo true) (DD x.lo y.hi true)) false))))]))
     (λm2=>ae [tB 90 (bt m2)]<|.e (af [.b 12 (.iT (by rw[show jj (DD x.lo y.lo false) (DD x.lo y.hi false)=(DD x.lo y.hi false)from bk m1,show iW (DD x.lo y.lo true) (DD x.lo y.hi true)=(DD x.lo y.lo true)from bj m2]):Bx.le (.cells 39 (iO (Iv.mk (DD x.lo y.hi false) (DD x.lo y.lo true) false))) (.cells 39 (iO (Iv.mk (jj (DD x.lo y.lo false) (DD x.lo y.hi false)) (iW (DD x.lo y.lo true) (DD x.lo y.hi true)) false))))])))
    (λm1=>ae [tB 79 (bt m1),ai 84 (((0+1):Int)==0) aG,ag [gZ (DD x.lo y.hi true),gZ (DD x.lo y.lo true)] (lp _ _ (hv _ _ _) (hv _ _ _))]<|.w (0<(iL (DD x.lo y.hi true) (DD x.lo y.lo true)))
     (λm2=>ae [tB 90 (bn m2)]<|.e (af [.b 12 (.iT (by rw[show jj (DD x.lo y.lo false) (DD x.lo y.hi false)=(DD x.lo y.lo false)from bj m1,show iW (DD x.lo y.lo true) (DD x.lo y.hi true)=(DD x.lo y.hi true)from bk m2]):Bx.le (.cells 39 (iO (Iv.mk (DD x.lo y.lo false) (DD x.lo y.hi true) false))) (.cells 39 (iO (Iv.mk (jj (DD x.lo y.lo false) (DD x.lo y.hi false)) (iW (DD x.lo y.lo true) (DD x.lo y.hi true)) false))))]))
     (λm2=>ae [tB 90 (bt m2)]<|.e (af [.b 12 (.iT (by rw[show jj (DD x.lo y.lo false) (DD x.lo y.hi false)=(DD x.lo y.lo false)from bj m1,show iW (DD x.lo y.lo true) (DD x.lo y.hi true)=(DD x.lo y.lo true)from bj m2]):Bx.le (.cells 39 (iO (Iv.mk (DD x.lo y.lo false) (DD x.lo y.lo true) false))) (.cells 39 (iO (Iv.mk (jj (DD x.lo y.lo false) (DD x.lo y.hi false)) (iW (DD x.lo y.lo true) (DD x.lo y.hi true)) false))))])))),
      iq ((0+1)+1) aE,ah 42 (decide ((((0+1)+1):Int)<4)) aG]<|.w ((EE x.hi y.lo false)=0)
      (λk5=>.w ((EE x.hi y.lo true)=0)
       (λk6=>ae [.j 3 (aiH x y p gd gu DD EE)
   (ae [iX ((0+1)+1) 4 aE,iX 0 2 aE,iX 1 2 aE,.c (hd _ _ (.inr rfl) (.inl rfl):gV gd ((gZ x.hi)::(gZ y.lo)::(iP p)::[]) _),iX 0 2 aE,iX 1 2 aE,.c (hu _ _ (.inr rfl) (.inl rfl):gV gu ((gZ x.hi)::(gZ y.lo)::(iP p)::[]) _),tB 66 (bg k5),tB 69 (bg k6),ai 73 ((((0+1)+1):Int)==0) aG,ag [gZ (DD x.hi y.lo false),gZ (jj (DD x.lo y.lo false) (DD x.lo y.hi false))] (lp _ _ (hv _ _ _) (yb (hv _ _ _) (hv _ _ _)))]<|.w ((iL (DD x.hi y.lo false) (jj (DD x.lo y.lo false) (DD x.lo y.hi false)))<0)
    (λm1=>ae [tB 79 (bn m1),ai 84 ((((0+1)+1):Int)==0) aG,ag [gZ (DD x.hi y.lo true),gZ (iW (DD x.lo y.lo true) (DD x.lo y.hi true))] (lp _ _ (hv _ _ _) (vf (hv _ _ _) (hv _ _ _)))]<|.w (0<(iL (DD x.hi y.lo true) (iW (DD x.lo y.lo true) (DD x.lo y.hi true))))
     (λm2=>ae [tB 90 (bn m2)]<|.e (af [.b 12 (.iT (by rw[show jj (jj (DD x.lo y.lo false) (DD x.lo y.hi false)) (DD x.hi y.lo false)=(DD x.hi y.lo false)from bk m1,show iW (iW (DD x.lo y.lo true) (DD x.lo y.hi true)) (DD x.hi y.lo true)=(DD x.hi y.lo true)from bk m2]):Bx.le (.cells 39 (iO (Iv.mk (DD x.hi y.lo false) (DD x.hi y.lo true) false))) (.cells 39 (iO (Iv.mk (jj (jj (DD x.lo y.lo false) (DD x.lo y.hi false)) (DD x.hi y.lo false)) (iW (iW (DD x.lo y.lo true) (DD x.lo y.hi true)) (DD x.hi y.lo true)) false))))]))
     (λm2=>ae [tB 90 (bt m2)]<|.e (af [.b 12 (.iT (by rw[show jj (jj (DD x.lo y.lo false) (DD x.lo y.hi false)) (DD x.hi y.lo false)=(DD x.hi y.lo false)from bk m1,show iW (iW (DD x.lo y.lo true) (DD x.lo y.hi true)) (DD x.hi y.lo true)=(iW (DD x.lo y.lo true) (DD x.lo y.hi true))from bj m2]):Bx.le (.cells 39 (iO (Iv.mk (DD x.hi y.lo false) (iW (DD x.lo y.lo true) (DD x.lo y.hi true)) false))) (.cells 39 (iO (Iv.mk (jj (jj (DD x.lo y.lo false) (DD x.lo y.hi false)) (DD x.hi y.lo false)) (iW (iW (DD x.lo y.lo true) (DD x.lo y.hi true)) (DD x.hi y.lo true)) false))))])))
    (λm1=>ae [tB 79 (bt m1),ai 84 ((((0+1)+1):Int)==0) aG,ag [gZ (DD x.hi y.lo true),gZ (iW (DD x.lo y.lo true) (DD x.lo y.hi true))] (lp _ _ (hv _ _ _) (vf (hv _ _ _) (hv _ _ _)))]<|.w (0<(iL (DD x.hi y.lo true) (iW (DD x.lo y.lo true) (DD x.lo y.hi true))))
     (λm2=>ae [tB 90 (bn m2)]<|.e (af [.b 12 (.iT (by rw[show jj (jj (DD x.lo y.lo false) (DD x.lo y.hi false)) (DD x.hi y.lo false)=(jj (DD x.lo y.lo false) (DD x.lo y.hi false))from bj m1,show iW (iW (DD x.lo y.lo true) (DD x.lo y.hi true)) (DD x.hi y.lo true)=(DD x.hi y.lo true)from bk m2]):Bx.le (.cells 39 (iO (Iv.mk (jj (DD x.lo y.lo false) (DD x.lo y.hi false)) (DD x.hi y.lo true) false))) (.cells 39 (iO (Iv.mk (jj (jj (DD x.lo y.lo false) (DD x.lo y.hi false)) (DD x.hi y.lo false)) (iW (iW (DD x.lo y.lo true) (DD x.lo y.hi true)) (DD x.hi y.lo true)) false))))]))
     (λm2=>ae [tB 90 (bt m2)]<|.e (af [.b 12 (.iT (by rw[show jj (jj (DD x.lo y.lo false) (DD x.lo y.hi false)) (DD x.hi y.lo false)=(jj (DD x.lo y.lo false) (DD x.lo y.hi false))from bj m1,show iW (iW (DD x.lo y.lo true) (DD x.lo y.hi true)) (DD x.hi y.lo true)=(iW (DD x.lo y.lo true) (DD x.lo y.hi true))from bj m2]):Bx.le (.cells 39 (iO (Iv.mk (jj (DD x.lo y.lo false) (DD x.lo y.hi false)) (iW (DD x.lo y.lo true) (DD x.lo y.hi true)) false))) (.cells 39 (iO (Iv.mk (jj (jj (DD x.lo y.lo false) (DD x.lo y.hi false)) (DD x.hi y.lo false)) (iW (iW (DD x.lo y.lo true) (DD x.lo y.hi true)) (DD x.hi y.lo true)) false))))])))),
        iq (((0+1)+1)+1) aE,ah 42 (decide (((((0+1)+1)+1):Int)<4)) aG]<|.w ((EE x.hi y.hi false)=0)
        (λk7=>.w ((EE x.hi y.hi true)=0)
         (λk8=>ae [.j 3 (aiI x y p gd gu DD EE)
   (ae [iX (((0+1)+1)+1) 4 aE,iX 0 2 aE,iX 1 2 aE,.c (hd _ _ (.inr rfl) (.inr rfl):gV gd ((gZ x.hi)::(gZ y.hi)::(iP p)::[]) _),iX 0 2 aE,iX 1 2 aE,.c (hu _ _ (.inr rfl) (.inr rfl):gV gu ((gZ x.hi)::(gZ y.hi)::(iP p)::[]) _),tB 66 (bg k7),tB 69 (bg k8),ai 73 (((((0+1)+1)+1):Int)==0) aG,ag [gZ (DD x.hi y.hi false),gZ (jj (jj (DD x.lo y.lo false) (DD x.lo y.hi false)) (DD x.hi y.lo false))] (lp _ _ (hv _ _ _) (yb (yb (hv _ _ _) (hv _ _ _)) (hv _ _ _)))]<|.w ((iL (DD x.hi y.hi false) (jj (jj (DD x.lo y.lo false) (DD x.lo y.hi false)) (DD x.hi y.lo false)))<0)
    (λm1=>ae [tB 79 (bn m1),ai 84 (((((0+1)+1)+1):Int)==0) aG,ag [gZ (DD x.hi y.hi true),gZ (iW (iW (DD x.lo y.lo true) (DD x.lo y.hi true)) (DD x.hi y.lo true))] (lp _ _ (hv _ _ _) (vf (vf (hv _ _ _) (hv _ _ _)) (hv _ _ _)))]<|.w (0<(iL (DD x.hi y.hi true) (iW (iW (DD x.lo y.lo true) (DD x.lo y.hi true)) (DD x.hi y.lo true))))
     (λm2=>ae [tB 90 (bn m2)]<|.e (af [.b 12 (.iT (by rw[show jj (jj (jj (DD x.lo y.lo false) (DD x.lo y.hi false)) (DD x.hi y.lo false)) (DD x.hi y.hi false)=(DD x.hi y.hi false)from bk m1,show iW (iW (iW (DD x.lo y.lo true) (DD x.lo y.hi true)) (DD x.hi y.lo true)) (DD x.hi y.hi true)=(DD x.hi y.hi true)from bk m2]):Bx.le (.cells 39 (iO (Iv.mk (DD x.hi y.hi false) (DD x.hi y.hi true) false))) (.cells 39 (iO (Iv.mk (jj (jj (jj (DD x.lo y.lo false) (DD x.lo y.hi false)) (DD x.hi y.lo false)) (DD x.hi y.hi false)) (iW (iW (iW (DD x.lo y.lo true) (DD x.lo y.hi true)) (DD x.hi y.lo true)) (DD x.hi y.hi true)) false))))]))
     (λm2=>ae [tB 90 (bt m2)]<|.e (af [.b 12 (.iT (by rw[show jj (jj (jj (DD x.lo y.lo false) (DD x.lo y.hi false)) (DD x.hi y.lo false)) (DD x.hi y.hi false)=(DD x.hi y.hi false)from bk m1,show iW (iW (iW (DD x.lo y.lo true) (DD x.lo y.hi true)) (DD x.hi y.lo true)) (DD x.hi y.hi true)=(iW (iW (DD x.lo y.lo true) (DD x.lo y.hi true)) (DD x.hi y.lo true))from bj m2]):Bx.le (.cells 39 (iO (Iv.mk (DD x.hi y.hi false) (iW (iW (DD x.lo y.lo true) (DD x.lo y.hi true)) (DD x.hi y.lo true)) false))) (.cells 39 (iO (Iv.mk (jj (jj (jj (DD x.lo y.lo false) (DD x.lo y.hi false)) (DD x.hi y.lo false)) (DD x.hi y.hi false)) (iW (iW (iW (DD x.lo y.lo true) (DD x.lo y.hi true)) (DD x.hi y.lo true)) (DD x.hi y.hi true)) false))))])))
    (λm1=>ae [tB 79 (bt m1),ai 84 (((((0+1)+1)+1):Int)==0) aG,ag [gZ (DD x.hi y.hi true),gZ (iW (iW (DD x.lo y.lo true) (DD x.lo y.hi true)) (DD x.hi y.lo true))] (lp _ _ (hv _ _ _) (vf (vf (hv _ _ _) (hv _ _ _)) (hv _ _ _)))]<|.w (0<(iL (DD x.hi y.hi true) (iW (iW (DD x.lo y.lo true) (DD x.lo y.hi true)) (DD x.hi y.lo true))))
     (λm2=>ae [tB 90 (bn m2)]<|.e (af [.b 12 (.iT (by rw[show jj (jj (jj (DD x.lo y.lo false) (DD x.lo y.hi false)) (DD x.hi y.lo false)) (DD x.hi y.hi false)=(jj (jj (DD x.lo y.lo false) (DD x.lo y.hi false)) (DD x.hi y.lo false))from bj m1,show iW (iW (iW (DD x.lo y.lo true) (DD x.lo y.hi true)) (DD x.hi y.lo true)) (DD x.hi y.hi true)=(DD x.hi y.hi true)from bk m2]):Bx.le (.cells 39 (iO (Iv.mk (jj (jj (DD x.lo y.lo false) (DD x.lo y.hi false)) (DD x.hi y.lo false)) (DD x.hi y.hi true) false))) (.cells 39 (iO (Iv.mk (jj (jj (jj (DD x.lo y.lo false) (DD x.lo y.hi false)) (DD x.hi y.lo false)) (DD x.hi y.hi false)) (iW (iW (iW (DD x.lo y.lo true) (DD x.lo y.hi true)) (DD x.hi y.lo true)) (DD x.hi y.hi true)) false))))]))
     (λm2=>ae [tB 90 (bt m2)]<|.e (af [.b 12 (.iT (by rw[show jj (jj (jj (DD x.lo y.lo false) (DD x.lo y.hi false)) (DD x.hi y.lo false)) (DD x.hi y.hi false)=(jj (jj (DD x.lo y.lo false) (DD x.lo y.hi false)) (DD x.hi y.lo false))from bj m1,show iW (iW (iW (DD x.lo y.lo true) (DD x.lo y.hi true)) (DD x.hi y.lo true)) (DD x.hi y.hi true)=(iW (iW (DD x.lo y.lo true) (DD x.lo y.hi true)) (DD x.hi y.lo true))from bj m2]):Bx.le (.cells 39 (iO (Iv.mk (jj (jj (DD x.lo y.lo false) (DD x.lo y.hi false)) (DD x.hi y.lo false)) (iW (iW (DD x.lo y.lo true) (DD x.lo y.hi true)) (DD x.hi y.lo true)) false))) (.cells 39 (iO (Iv.mk (jj (jj (jj (DD x.lo y.lo false) (DD x.lo y.hi false)) (DD x.hi y.lo false)) (DD x.hi y.hi false)) (iW (iW (iW (DD x.lo y.lo true) (DD x.lo y.hi true)) (DD x.hi y.lo true)) (DD x.hi y.hi true)) false))))])))),
          iq ((((0+1)+1)+1)+1) aE,ai 42 (decide ((((((0+1)+1)+1)+1):Int)<4)) aG]<|rQ (ij (Iv.mk (jj (jj (jj (DD x.lo y.lo false) (DD x.lo y.hi false)) (DD x.hi y.lo false)) (DD x.hi y.hi false)) (iW (iW (iW (DD x.lo y.lo true) (DD x.lo y.hi true)) (DD x.hi y.lo true)) (DD x.hi y.hi true)) false)) (ij (pB DD EE x y)) (by rw[show pB DD EE x y=⟨jj (jj (jj (DD x.lo y.lo false) (DD x.lo y.hi false)) (DD x.hi y.lo false)) (DD x.hi y.hi false),iW (iW (iW (DD x.lo y.lo true) (DD x.lo y.hi true)) (DD x.hi y.lo true)) (DD x.hi y.hi true),false⟩from bk ⟨⟨k1,k2⟩,⟨k3,k4⟩,⟨k5,k6⟩,⟨k7,k8⟩⟩];try rfl))
         (λk8=>ae [iX (((0+1)+1)+1) 4 aE,iX 0 2 aE,iX 1 2 aE,.c (hd _ _ (.inr rfl) (.inr rfl):gV gd ((gZ x.hi)::(gZ y.hi)::(iP p)::[]) _),iX 0 2 aE,iX 1 2 aE,.c (hu _ _ (.inr rfl) (.inr rfl):gV gu ((gZ x.hi)::(gZ y.hi)::(iP p)::[]) _),tB 66 (bg k7),tB 69 (bh k8),.c nZ]<|rQ (ij gY) (ij (pB DD EE x y)) (by rw[show pB DD EE x y=gY from bj (by rintro⟨⟨q0,r0⟩,⟨q1,r1⟩,⟨q2,r2⟩,⟨q3,r3⟩⟩;exact k8 r3)])))
        (λk7=>ae [iX (((0+1)+1)+1) 4 aE,iX 0 2 aE,iX 1 2 aE,.c (hd _ _ (.inr rfl) (.inr rfl):gV gd ((gZ x.hi)::(gZ y.hi)::(iP p)::[]) _),iX 0 2 aE,iX 1 2 aE,.c (hu _ _ (.inr rfl) (.inr rfl):gV gu ((gZ x.hi)::(gZ y.hi)::(iP p)::[]) _),tB 66 (bh k7),.c nZ]<|rQ (ij gY) (ij (pB DD EE x y)) (by rw[show pB DD EE x y=gY from bj (by rintro⟨⟨q0,r0⟩,⟨q1,r1⟩,⟨q2,r2⟩,⟨q3,r3⟩⟩;exact k7 q3)])))
       (λk6=>ae [iX ((0+1)+1) 4 aE,iX 0 2 aE,iX 1 2 aE,.c (hd _ _ (.inr rfl) (.inl rfl):gV gd ((gZ x.hi)::(gZ y.lo)::(iP p)::[]) _),iX 0 2 aE,iX 1 2 aE,.c (hu _ _ (.inr rfl) (.inl rfl):gV gu ((gZ x.hi)::(gZ y.lo)::(iP p)::[]) _),tB 66 (bg k5),tB 69 (bh k6),.c nZ]<|rQ (ij gY) (ij (pB DD EE x y)) (by rw[show pB DD EE x y=gY from bj (by rintro⟨⟨q0,r0⟩,⟨q1,r1⟩,⟨q2,r2⟩,⟨q3,r3⟩⟩;exact k6 r2)])))
      (λk5=>ae [iX ((0+1)+1) 4 aE,iX 0 2 aE,iX 1 2 aE,.c (hd _ _ (.inr rfl) (.inl rfl):gV gd ((gZ x.hi)::(gZ y.lo)::(iP p)::[]) _),iX 0 2 aE,iX 1 2 aE,.c (hu _ _ (.inr rfl) (.inl rfl):gV gu ((gZ x.hi)::(gZ y.lo)::(iP p)::[]) _),tB 66 (bh k5),.c nZ]<|rQ (ij gY) (ij (pB DD EE x y)) (by rw[show pB DD EE x y=gY from bj (by rintro⟨⟨q0,r0⟩,⟨q1,r1⟩,⟨q2,r2⟩,⟨q3,r3⟩⟩;exact k5 q2)])))
     (λk4=>ae [iX (0+1) 4 aE,iX 0 2 aE,iX 1 2 aE,.c (hd _ _ (.inl rfl) (.inr rfl):gV gd ((gZ x.lo)::(gZ y.hi)::(iP p)::[]) _),iX 0 2 aE,iX 1 2 aE,.c (hu _ _ (.inl rfl) (.inr rfl):gV gu ((gZ x.lo)::(gZ y.hi)::(iP p)::[]) _),tB 66 (bg k3),tB 69 (bh k4),.c nZ]<|rQ (ij gY) (ij (pB DD EE x y)) (by rw[show pB DD EE x y=gY from bj (by rintro⟨⟨q0,r0⟩,⟨q1,r1⟩,⟨q2,r2⟩,⟨q3,r3⟩⟩;exact k4 r1)])))
    (λk3=>ae [iX (0+1) 4 aE,iX 0 2 aE,iX 1 2 aE,.c (hd _ _ (.inl rfl) (.inr rfl):gV gd ((gZ x.lo)::(gZ y.hi)::(iP p)::[]) _),iX 0 2 aE,iX 1 2 aE,.c (hu _ _ (.inl rfl) (.inr rfl):gV gu ((gZ x.lo)::(gZ y.hi)::(iP p)::[]) _),tB 66 (bh k3),.c nZ]<|rQ (ij gY) (ij (pB DD EE x y)) (by rw[show pB DD EE x y=gY from bj (by rintro⟨⟨q0,r0⟩,⟨q1,r1⟩,⟨q2,r2⟩,⟨q3,r3⟩⟩;exact k3 q1)])))
   (λk2=>ae [iX 0 4 aE,iX 0 2 aE,iX 1 2 aE,.c (hd _ _ (.inl rfl) (.inl rfl):gV gd ((gZ x.lo)::(gZ y.lo)::(iP p)::[]) _),iX 0 2 aE,iX 1 2 aE,.c (hu _ _ (.inl rfl) (.inl rfl):gV gu ((gZ x.lo)::(gZ y.lo)::(iP p)::[]) _),tB 66 (bg k1),tB 69 (bh k2),.c nZ]<|rQ (ij gY) (ij (pB DD EE x y)) (by rw[show pB DD EE x y=gY from bj (by rintro⟨⟨q0,r0⟩,⟨q1,r1⟩,⟨q2,r2⟩,⟨q3,r3⟩⟩;exact k2 r0)])))
  (λk1=>ae [iX 0 4 aE,iX 0 2 aE,iX 1 2 aE,.c (hd _ _ (.inl rfl) (.inl rfl):gV gd ((gZ x.lo)::(gZ y.lo)::(iP p)::[]) _),iX 0 2 aE,iX 1 2 aE,.c (hu _ _ (.inl rfl) (.inl rfl):gV gu ((gZ x.lo)::(gZ y.lo)::(iP p)::[]) _),tB 66 (bh k1),.c nZ]<|rQ (ij gY) (ij (pB DD EE x y)) (by rw[show pB DD EE x y=gY from bj (by rintro⟨⟨q0,r0⟩,⟨q1,r1⟩,⟨q2,r2⟩,⟨q3,r3⟩⟩;exact k1 q0)]))) 
def anT{y:Iv}(hy:y.ib)(hs:nV y≠0):y.lo.m≠0/\y.hi.m≠0:=by
 unfold nV at hs;have ha:y.all=false:=by
  cases h:y.all with
  |false=>rfl
  |true=>rw[h]at hs;exact absurd rfl hs
 obtain⟨v1,v2,v3⟩:=uq hy ha;rw[ha]at hs;simp only[bK,bC]at hs;have z:∀ d:Dy,d.m=0->d.iI=0:=λd h=>by unfold Dy.iI;rw[bk h]
 have hc:=Ei y.lo y.hi;rw[hc]at v3;constructor
 .intro h0;have:=z _ h0;rw[this]at hs v3;split at hs
  .omega
  .split at hs
   .split at v3<;>omega
   .exact hs rfl
 .intro h0;have:=z _ h0;rw[this]at hs v3;split at hs
  .split at v3<;>omega
  .split at hs
   .omega
   .exact hs rfl
def afv(a b:Dy){p:Nat}(up:Bool)(hp:1<=p)(ic:p<=4096):(pA a b p up).ib:=by
 unfold pA;split
 .exact su
 .exact ua _ _ _ _ _ _ hp ic
def um(x y:Iv)(p:Nat)(hx:x.ib)(hy:y.ib)(il:8<=p)(ic:p<=512):gV 212 [ij x,ij y,iP p] (ij (iH x y p)):=by
 by_cases hk:(x.all||y.all)=true
 .exact ak call212 func212 (ae [.o 9 (.e (Ar _ _):aj (.sl true 2 7 λi_ j_=>(iO x++iO y).getD (i_*7+j_) (.v (.bool false))) (ig [x,y])),ag [ig [x,y]] (Aq _ _ aF aF),ai 10 (!(x.all||y.all)) (by rw[hk];rfl),.c nZ]<|rQ (ij gY) (ij (iH x y p)) (by rw[show iH x y p=gY by unfold iH;rw[bk hk]])) 
 .replace hk:(x.all||y.all)=false:=by simpa using hk
  have lh:x.all=false:=by cases h:x.all;rfl;rw[h]at hk;simp at hk
  have BF:y.all=false:=by cases h:y.all;rfl;rw[h]at hk;simp at hk
  obtain⟨v1,v2,v3⟩:=uq hx lh;obtain⟨v4,v5,v6⟩:=uq hy BF;exact ak call212 func212 (ae [.o 9 (.e (Ar _ _):aj (.sl true 2 7 λi_ j_=>(iO x++iO y).getD (i_*7+j_) (.v (.bool false))) (ig [x,y])),ag [ig [x,y]] (Aq _ _ aF aF),ah 10 (!(x.all||y.all)) (by rw[hk];rfl),ag [iP p] (xf _),ah 14 (nj (p:Int)) (sT.2 ⟨aE,aE⟩),.c (WU x y p 254 255 (λa b up=>kp (iY a b) p up) (λa b up=>j8 (iY a b) p up) (λa b ha hb=>Lu a b p (by rcases ha with rfl|rfl;exact v1;exact v2) (by rcases hb with rfl|rfl;exact v4;exact v5) il ic) (λa b ha hb=>Lv a b p (by rcases ha with rfl|rfl;exact v1;exact v2) (by rcases hb with rfl|rfl;exact v4;exact v5) il ic) (λa b up=>ua _ _ _ _ _ _ aE aE))]<|rQ (ij (pB (λa b up=>kp (iY a b) p up) (λa b up=>j8 (iY a b) p up) x y)) (ij (iH x y p)) (by rw[show iH x y p=_ by unfold iH;rw[bj (by rw[hk];decide)]];rfl)) 
def An(x y:Iv)(p:Nat)(hx:x.ib)(hy:y.ib)(il:8<=p)(ic:p<=512):gV 141 [ij x,ij y,iP p] (ij (jt x y p)):=by
 by_cases hk:(x.all||y.all)=true
 .exact ak call141 func141 (ae [.o 9 (.e (Ar _ _):aj (.sl true 2 7 λi_ j_=>(iO x++iO y).getD (i_*7+j_) (.v (.bool false))) (ig [x,y])),ag [ig [x,y]] (Aq _ _ aF aF),ai 10 (!(x.all||y.all)) (by rw[hk];rfl),.c nZ]<|rQ (ij gY) (ij (jt x y p)) (by rw[show jt x y p=gY by unfold jt;rw[bk (by rw[hk];rfl)]])) 
 .replace hk:(x.all||y.all)=false:=by simpa using hk
  have lh:x.all=false:=by cases h:x.all;rfl;rw[h]at hk;simp at hk
  have BF:y.all=false:=by cases h:y.all;rfl;rw[h]at hk;simp at hk
  obtain⟨v1,v2,v3⟩:=uq hx lh;obtain⟨v4,v5,v6⟩:=uq hy BF;by_cases hs:nV y=0
  .exact ak call141 func141 (ae [.o 9 (.e (Ar _ _):aj (.sl true 2 7 λi_ j_=>(iO x++iO y).getD (i_*7+j_) (.v (.bool false))) (ig [x,y])),ag [ig [x,y]] (Aq _ _ aF aF),ah 10 (!(x.all||y.all)) (by rw[hk];rfl),ag [iP p] (xf _),ah 14 (nj (p:Int)) (sT.2 ⟨aE,aE⟩),.c (KU y aF),ah 20 ((nV y)==0) (by rw[hs];rfl),.c nZ]<|rQ (ij gY) (ij (jt x y p)) (by rw[show jt x y p=gY by unfold jt;rw[bk (by rw[hk,bn hs];rfl)]])) 
  .obtain ⟨n1,n2⟩:=anT hy hs;exact ak call141 func141 (ae [.o 9 (.e (Ar _ _):aj (.sl true 2 7 λi_ j_=>(iO x++iO y).getD (i_*7+j_) (.v (.bool false))) (ig [x,y])),ag [ig [x,y]] (Aq _ _ aF aF),ah 10 (!(x.all||y.all)) (by rw[hk];rfl),ag [iP p] (xf _),ah 14 (nj (p:Int)) (sT.2 ⟨aE,aE⟩),.c (KU y aF),ai 20 ((nV y)==0) (by simpa using hs),.c (WU x y p 207 208 (λa b up=>pA a b p up) (λa b up=>rz a b p up) (λa b ha hb=>Zi a b p (by rcases ha with rfl|rfl;exact v1;exact v2) (by rcases hb with rfl|rfl;exact v4;exact v5) (by rcases hb with rfl|rfl;exact n1;exact n2) il ic) (λa b ha hb=>Zj a b p (by rcases ha with rfl|rfl;exact v1;exact v2) (by rcases hb with rfl|rfl;exact v4;exact v5) (by rcases hb with rfl|rfl;exact n1;exact n2) il ic) (λa b up=>afv a b up aE aE))]<|rQ (ij (pB (λa b up=>pA a b p up) (λa b up=>rz a b p up) x y)) (ij (jt x y p)) (by rw[show jt x y p=_ by unfold jt;rw[bj (by rw[hk,bt hs];decide)]])) 
def aiS(d:RD)(h:d.Zero):gV 200 [qk d] (bP true):=by
 obtain⟨h1,h2,h3⟩:=h;exact ak call200 func200 (af [ai 4 d.neg h1,ah 10 ((d.L.length:Int)==0) (sk (by rw[h2];rfl)),ah 15 (d.e==0) (by rw[h3];rfl)]) 
def WZ(d:RD)(h:¬d.Zero):gV 200 [qk d] (bP false):=by
 by_cases h1:d.neg=true
 .exact ak call200 func200 (af [ah 4 d.neg h1]) 
 .replace h1:d.neg=false:=by simpa using h1
  by_cases h2:d.L=[]
  .have h3:¬d.e=0:=λq=>h ⟨h1,h2,q⟩
   exact ak call200 func200 (af [ai 4 d.neg h1,ah 10 ((d.L.length:Int)==0) (sk (by rw[h2];rfl)),ai 15 (d.e==0) (by simpa using h3)]) 
  .exact ak call200 func200 (af [ai 4 d.neg h1,ai 10 ((d.L.length:Int)==0) (ni (λq=>h2 (gT.1 q)))]) 
def aiR(x:RI)(g:x.jV)(h:x.Ok):gV 127 [wC x] (bP true):=by
 have:=se x.iv h.valid;rwa[<-KT,h.eq g]at this
def aiP(x:RI)(g:x.jV)(h:¬x.Ok):gV 127 [wC x] (bP false):=by
 have ga:=g.lo;have gb:=g.hi;by_cases ha:x.all=true
 .by_cases h1:x.lo.Zero
  .have h2:¬x.hi.Zero:=λq=>h (.inl ⟨ha,h1,q⟩)
   exact ak call127 func127 (af [ah 5 x.all ha,.c (aiS x.lo h1),.c (WZ x.hi h2)]) 
  .exact ak call127 func127 (af [ah 5 x.all ha,.c (WZ x.lo h1)]) 
 .replace ha:x.all=false:=by simpa using ha
  by_cases h1:x.lo.Ok
  .by_cases h2:x.hi.Ok
   .have h3:¬iL x.lo.dy x.hi.dy<=0:=λq=>h (.inr ⟨ha,h1,h2,q⟩)
    have v1:=h1.valid;have v2:=h2.valid;have e1:wC x=ij x.iv:=by rw[<-KT,show x.iv.raw=x by show RI.mk x.lo.dy.raw x.hi.dy.raw x.all=x;rw[h1.eq ga,h2.eq gb]]
    rw[e1];exact ak call127 func127 (af [ai 5 x.iv.all ha,ag [gZ x.iv.lo] (nB _ aF),ag [gZ x.iv.hi] (nB _ aF),ag [gZ x.iv.lo,gZ x.iv.hi] (lp _ _ aF aF),tB 30 (bt h3)]) 
   .exact ak call127 func127 (af [ai 5 x.all ha,ag [qk x.lo] (zV _ aF true (by simp[h1])),ag [qk x.hi] (zV _ aF false (by simp[h2]))]) 
  .exact ak call127 func127 (af [ai 5 x.all ha,ag [qk x.lo] (zV _ aF false (by simp[h1]))]) 
def aiQ(x:RI)(g:x.jV):gV 127 [wC x] (bP (nU x)):=by
 by_cases h:x.Ok
 .rw [uC.2 h];exact aiR x g h
 .rw [show nU x=false by simpa using λq=>h (uC.1 q)];exact aiP x g h
end Go.Proofs.YtgdahmmlddfimaaGreatDoor
namespace Go.Proofs.YtgdahmmlddfimaaGreatDoor.Fp
def jq(d:Dy)(p:Nat)(up:Bool):Nat->Dy×Int
 | 0=>(kp d p up,j8 d p up)
 |k+1=>if(jq d p up k).2≠0 then jq d p up k else(kp (yj (jq d p up k).1 d) p up,j8 (yj (jq d p up k).1 d) p up)
def lJ(d:Dy)(n p:Nat)(up:Bool):Dy×Int:=if d.iI<0 then(jf (jq (jf d) p (!up) (n-1)).1,(jq (jf d) p (!up) (n-1)).2)else jq d p up (n-1)
def vk(x:Iv)(n:Nat):Iv:=if n%2=0 then ke x else x
def na(x:Iv)(n p:Nat):Iv:=
 if x.all then gY else if n=0 then mJ ⟨false,1,0⟩
 else mj (lJ (vk x n).lo n p false).1 (lJ (vk x n).lo n p false).2 (lJ (vk x n).hi n p true).1 (lJ (vk x n).hi n p true).2
def oe(r:Rat):Nat->Rat
 | 0=>1
 |n+1=>oe r n*r
def DS{r:Rat}(h:0<=r):∀ n,0<=oe r n
 | 0=>by show(0:Rat)<=1;decide
 |n+1=>b6 (DS h n) h
def Iz{a b:Rat}(h0:0<=a)(h:a<=b):∀ n,oe a n<=oe b n
 | 0=>cg
 |n+1=>by
  have ih:=Iz h0 h n;have m1:=ct ih h0;have m2:=cJ h (DS (bQ h0 h) n);exact bQ m1 m2
def DR(r:Rat):∀ n,oe (-r) n=if n%2=0 then oe r n else -oe r n
 | 0=>rfl
 |n+1=>by
  have ih:=DR r n;simp only[oe,ih];have:n%2=0\/n%2=1:= aE ;rcases this with h|h
  .have h':(n+1)%2=1:= aE ;rw[h,h'];simp;grind
  .have h':(n+1)%2=0:= aE ;rw[h,h'];simp;grind
def QL{a b:Rat}{n:Nat}(hn:n%2=1)(h:a<=b):oe a n<=oe b n:=by
 by_cases h0:0<=a
 .exact Iz h0 h n
 .have ea:=DR (-a) n;rw[fL,hn]at ea;simp only[aqp,bC]at ea;by_cases hb:0<=b
  .have h1:=DS (show 0 <= -a by grind) n;have h2:=DS hb n
   grind
  .have eb:=DR (-b) n;rw[fL,hn]at eb;simp only[aqp,bC]at eb;have:=Iz (show 0 <= -b by grind) (show -b <= -a by grind) n
   grind
def Qk{d:Dy}(hd:d.nx)(h0:0<=d.q){p:Nat}(hp:1<=p)(ic:p<=4096):∀ k,(jq d p false k).2=0->0<=(jq d p false k).1.q/\(jq d p false k).1.q<=oe d.q (k+1)
 | 0,he=>by
  have A:=yp hd hp ic;refine⟨(A.2 0 (.inl (AU p)) h0).2,?_⟩;have:=(A.1 he).2;simp only[oe,fM];exact this
 |k+1,he=>by
  by_cases hk:(jq d p false k).2≠0
  .exfalso;simp only[jq,bk hk]at he;exact hk he
  .have ot:(jq d p false k).2=0:= aE ;obtain⟨i1,i2⟩:=Qk hd h0 hp ic k ot;have A:=yp (A8 (jq d p false k).1 d) hp ic;rw[Fm]at A;simp only[jq,bj hk]at he ⊢;refine⟨(A.2 0 (.inl (AU p)) (b6 i1 h0)).2,?_⟩;have h1:=(A.1 he).2;have h2:=ct i2 h0;exact bQ h1 h2
def Qm{d:Dy}(hd:d.nx)(h0:0<=d.q){p:Nat}(hp:1<=p)(ic:p<=4096):∀ k,(jq d p true k).2=0->oe d.q (k+1)<=(jq d p true k).1.q
 | 0,he=>by
  have A:=yr hd hp ic;have:=(A.1 he).2;simp only[oe,fM];exact this
 |k+1,he=>by
  by_cases hk:(jq d p true k).2≠0
  .exfalso;simp only[jq,bk hk]at he;exact hk he
  .have ot:(jq d p true k).2=0:= aE ;have i2:=Qm hd h0 hp ic k ot;have A:=yr (A8 (jq d p true k).1 d) hp ic;rw[Fm]at A;simp only[jq,bj hk]at he ⊢;have h1:=(A.1 he).2;have h2:=ct i2 h0;exact bQ h2 h1
def afZ{d:Dy}(hd:d.nx){n p:Nat}(hn:1<=n)(hs:0<=d.q\/n%2=1)(hp:1<=p)(ic:p<=4096)(he:(lJ d n p false).2=0):(lJ d n p false).1.q<=oe d.q n:=by
 unfold lJ at he ⊢;by_cases h:d.iI<0
 .rw [bk h]at he ⊢;have hq:=(sI d).2.1 h;have BB:=hs.resolve_left aP;have:=Qm (PX hd) (by rw[rM];grind) hp ic (n-1) he;rw[(aE:n-1+1=n),rM,DR,BB]at this;simp only[aqp,bC]at this;show(jf _).q<=_;rw[rM];simp only[ew]
  grind
 .rw [bj h]at he ⊢;have h0:0<=d.q:=by
   apply dB.1;intro iC;exact h ((sI d).2.2 iC)
  have:=(Qk hd h0 hp ic (n-1) he).2;rwa[(aE:n-1+1=n)]at this
def af0{d:Dy}(hd:d.nx){n p:Nat}(hn:1<=n)(hs:0<=d.q\/n%2=1)(hp:1<=p)(ic:p<=4096)(he:(lJ d n p true).2=0):oe d.q n<=(lJ d n p true).1.q:=by
 unfold lJ at he ⊢;by_cases h:d.iI<0
 .rw [bk h]at he ⊢;have hq:=(sI d).2.1 h;have BB:=hs.resolve_left aP;have:=(Qk (PX hd) (by rw[rM];grind) hp ic (n-1) he).2;rw[(aE:n-1+1=n),rM,DR,BB]at this;simp only[aqp,bC]at this;show _<=(jf _).q;rw[rM];simp only[fo]
  grind
 .rw [bj h]at he ⊢;have h0:0<=d.q:=by
   apply dB.1;intro iC;exact h ((sI d).2.2 iC)
  have:=Qm hd h0 hp ic (n-1) he;rwa[(aE:n-1+1=n)]at this
def alM{x:Iv}(hx:x.ib){n p:Nat}(hp:1<=p)(ic:p<=4096){r:Rat}(h:x.jZ r):(na x n p).jZ (oe r n):=by
 unfold na;cases xa:x.all
 .simp only[bK,bC];by_cases hn:n=0
  .rw [bk hn];subst hn;have e:(⟨false,1,0⟩:Dy).q=1:= aQ ;refine .inr ⟨?_,?_⟩
   .show (⟨false,1,0⟩:Dy).q<=1;rw[e];exact cg
   .show 1<=(⟨false,1,0⟩:Dy).q;rw[e];exact cg
  .rw [bj hn];obtain⟨s,hs,uZ,hsn⟩:∃ s,(vk x n).jZ s/\(n%2=0->0<=(vk x n).lo.q/\0<=s)/\oe r n=oe s n:=by
    unfold vk;by_cases qV:n%2=0
    .rw [bk qV];have hl:0<=(ke x).lo.q:=by
      unfold ke;rw[xa];show 0<=(pt x).q;unfold pt;split
      .rw [uD];exact cg
      .obtain ⟨_,_,m⟩:=DH (kU x.lo) (kU x.hi);rcases m with m|m<;>rw[m]
       .exact (AD x.lo).1
       .exact (AD x.hi).1
     by_cases hr:0<=r
     .exact ⟨r,Ja hx h (.inl ⟨rfl,hr⟩),λ_=>⟨hl,hr⟩,rfl⟩
     .refine ⟨-r,Ja hx h (.inr ⟨rfl,aP⟩),λ_=>⟨hl,aP⟩,?_⟩;rw[DR,bk qV]
    .rw [bj qV];exact⟨r,h,λq=>absurd q qV,rfl⟩
   have Db:(vk x n).ib:=by unfold vk;split;exact Jb hx;exact hx
   have ya:(vk x n).all=false:=by
    unfold vk;split
    .unfold ke;rw[xa];rfl
    .exact xa
   rw[hsn];generalize vk x n=y at *
   obtain⟨s1,s2⟩:=hs.ko ya;obtain⟨c1,c2⟩:=Db.zT;unfold mj;split
   .exact .inl rfl
   .rename_i he;have BB:¬n%2=0->n%2=1:=λq=> aE 
    refine .inr ⟨?_,?_⟩
    .refine bQ (afZ c1 aE ?_ hp ic aE) ?_
     .by_cases qV:n%2=0
      .exact .inl (uZ qV).1
      .exact .inr (BB qV)
     .by_cases qV:n%2=0
      .exact Iz (uZ qV).1 s1 n
      .exact QL (BB qV) s1
    .refine bQ ?_ (af0 c2 aE ?_ hp ic aE)
     .by_cases qV:n%2=0
      .exact Iz (uZ qV).2 s2 n
      .exact QL (BB qV) s2
     .by_cases qV:n%2=0
      .exact .inl (bQ (uZ qV).2 s2)
      .exact .inr (BB qV)
 .rw [bk rfl];exact .inl rfl
end Go.Proofs.YtgdahmmlddfimaaGreatDoor.Fp
namespace Go.Proofs.YtgdahmmlddfimaaGreatDoor
open Go.RowKit Fp Pu
structure np where
 kind:Nat
 a:Nat
 b:Nat
 n:Nat
 cn:Int
 cd:Int
structure qa where
 ik:Nat
 gX:List np
 iu:List Nat
structure jM where
 tape:qa
 iz:Nat
 params:List Iv
def iE:np:=⟨0,0,0,0,0,0⟩
def Lj(o:np):List E:=[iP (o.kind:Int),iP (o.a:Int),iP (o.b:Int),iP (o.n:Int),iP o.cn,iP o.cd]
def xm(o:np):E:=.agg (Lj o)
def kZ(l:List np):E:=.sl true l.length 6 λi j=>(Lj (l.getD i iE)).getD j .any
def kY(l:List Nat):E:=.sl true l.length 1 λi _=>iP (l.getD i 0:Int)
def aoG(t:qa):List E:=[iP (t.ik:Int),kZ t.gX,kY t.iu]
def IL(t:qa):E:=.agg (aoG t)
def aoj(s:jM):List E:=[iP (s.tape.ik:Int),kZ s.tape.gX,kY s.tape.iu,iP (s.iz:Int),ig s.params]
def lE(s:jM):E:=.agg (aoj s)
def nM(n d:Int):Bool:=decide (1<=d)&&(decide (d<=1073741824)&&(decide (-1073741824<=n)&&(decide (n<=1073741824)&&decide (Nat.gcd n.natAbs d.natAbs=1))))
def Qq{n d:Int}(h:nM n d=true):1<=d/\d<=1073741824 /\ -1073741824<=n/\n<=1073741824:=by
 unfold nM at h;simp only[bO,cv]at h;exact⟨h.1,h.2.1,h.2.2.1,h.2.2.2.1⟩
def Gq(f:FuncId)(x:Iv)(p:Nat):Prop:=∃ y:Iv,y.ib/\gV f [ij x,iP (p:Int)] (ij y)
def vu:Prop:=∀ (x:Iv) (p:Nat),x.ib->8<=p->p<=512->Gq 312 x p/\Gq 314 x p/\Gq 315 x p/\Gq 316 x p/\Gq 319 x p
structure oh(o:np)(m:Nat):Prop where
 k3:o.kind=1\/3<=o.kind
 xY:o.kind<=13
 a:if o.kind=1 then o.a=0 else o.a<m
 b:if 3<=o.kind/\o.kind<=6 then o.b<m else o.b=0
 n:if o.kind=8 then o.n<=16 else o.n=0
 c:if o.kind=1 then nM o.cn o.cd=true else o.cn=0/\o.cd=0
 f:o.kind<=8\/vu
structure zJ(t:qa):Prop where
 ik:t.ik<=8
 gX:t.gX.length<=200
 iu:t.iu.length<=200
 op:∀ i,i<t.gX.length->oh (t.gX.getD i iE) (t.ik+i)
 out:∀ i,i<t.iu.length->t.iu.getD i 0<t.ik+t.gX.length
def qP(l:List Iv):Prop:=∀ i,i<l.length->(l.getD i gY).ib/\(l.getD i gY).all=false
structure mh(s:jM):Prop where
 tape:zJ s.tape
 s1:1<=s.iz
 s4:s.iz<=4
 iu:s.tape.iu.length=s.iz
 ik:s.tape.ik=s.iz+s.params.length
 p4:s.params.length<=4
 params:qP s.params
structure kG(n:Nat)(b:List Iv):Prop where
 len:b.length=n
 ok:qP b
def rC(l:List Iv):Bool:=(List.range l.length).any λi=>(l.getD i gY).all
def mK(h:Dy):Iv:=⟨iA,h,false⟩
def O7(x f:List Iv)(h:Dy)(p i:Nat):Iv:=jS (x.getD i gY) (iH (mK h) (f.getD i gY) p) p
def Ak(x f:List Iv)(h:Dy)(p:Nat):List Iv:=(List.range x.length).map (O7 x f h p)
def aaX{h:Dy}(hv:h.ib)(h0:0<=h.q):(mK h).ib:=.inr ⟨rfl,su,hv,by show iL iA h<=0;rw[oY,uD];exact h0⟩
def xq(d:Dy){p:Nat}(hp:1<=p)(ic:p<=4096)(up:Bool):(kp d p up).ib:=ua _ _ _ _ _ _ hp ic
def AB(d:Dy){p:Nat}(hp:1<=p)(ic:p<=4096)(up:Bool):∀ k,(jq d p up k).1.ib
 | 0=>xq _ hp ic _
 |k+1=>by
  unfold jq;split
  .exact AB d hp ic up k
  .exact xq _ hp ic _
def Ui(d:Dy)(n:Nat){p:Nat}(hp:1<=p)(ic:p<=4096)(up:Bool):(lJ d n p up).1.ib:=by
 unfold lJ;split
 .exact yg (AB _ hp ic _ _)
 .exact AB _ hp ic _ _
def YR:canon false 1 0=⟨false,1,0⟩:=by
 have h1:(canon false 1 0).neg=false:= aQ ;have h2:(canon false 1 0).m=1:= aQ ;have h3:(canon false 1 0).e=0:= aQ ;generalize canon false 1 0=d at *
 cases d;simp_all
def Fg:(⟨false,1,0⟩:Dy).ib:=by
 have h2:mT (canon false 1 0):= aQ ;rw[<-YR];exact⟨rY _ _ _,h2⟩
def Zb{x:Iv}(hx:x.ib)(n:Nat){p:Nat}(hp:1<=p)(ic:p<=4096):(na x n p).ib:=by
 have hh:=alM hx (n:=n) hp ic hx.Bq;revert hh;unfold na;split
 .intro _;exact mg
 .split
  .intro _;exact wA Fg
  .unfold mj;split
   .intro _;exact mg
   .intro hh;obtain⟨h1,h2⟩:=hh.ko rfl;exact .inr ⟨rfl,Ui _ _ hp ic _,Ui _ _ hp ic _,(oY _ _).2 (bQ h1 h2)⟩
def mH(l:List Iv):Prop:=∀ i,(l.getD i gY).ib
def mH.push{l:List Iv}(h:mH l){y:Iv}(hy:y.ib):mH (l++[y]):=λi=>by
 rw[bw,eU];split
 .have:=h i;rwa[bw]at this
 .rcases i-l.length with _|j
  .exact hy
  .exact mg
def qP.Rq{l:List Iv}(h:qP l):mH l:=λi=>by
 by_cases hi:i<l.length
 .exact (h i hi).1
 .rw [bw,ch aE];exact mg
def mH.append{l r:List Iv}(h:mH l)(k:mH r):mH (l++r):=λi=>by
 rw[bw,eU];split
 .have:=h i;rwa[bw]at this
 .have:=k (i-l.length);rwa[bw]at this
def ahL{l:List Iv}(h:rC l=false)(v:mH l):qP l:=λi hi=>⟨v i,by simpa using List.any_eq_false.1 h i (b5.2 hi)⟩
def aio{x f:List Iv}{h:Dy}(hx:mH x){p:Nat}(hp:1<=p)(ic:p<=4096)(i:Nat):(O7 x f h p i).ib:=rU (hx i) (oL _ _ hp ic) hp ic
def KP(x f:List Iv)(h:Dy)(p:Nat):(Ak x f h p).length=x.length:=by simp[Ak]
def KO{x f:List Iv}{h:Dy}{p i:Nat}(hi:i<x.length):(Ak x f h p).getD i gY=O7 x f h p i:=by
 simp[Ak,bw,hi]
def aip{x f:List Iv}{h:Dy}(hx:mH x){p:Nat}(hp:1<=p)(ic:p<=4096):mH (Ak x f h p):=λi=>by
 by_cases hi:i<x.length
 .rw [KO hi];exact aio hx hp ic i
 .rw [bw,ch (by rw[KP];omega)];exact mg
def we(a b:List Iv):Bool:=(List.range a.length).all λi=>BI (a.getD i gY) (b.getD i gY)
def wU(x:Iv)(d:Dy):Bool:=decide (kC (iJ x.lo (jf d))=0)&&decide (kC (iJ x.hi d)=0)
def rB(x:Iv)(d:Dy):Iv:=⟨jC (iJ x.lo (jf d)),jC (iJ x.hi d),false⟩
def sB(x:List Iv)(d:Dy):Bool:=(List.range x.length).all λi=>wU (x.getD i gY) d
def sO(x:List Iv)(d:Dy):List Iv:=if sB x d then(List.range x.length).map λi=>rB (x.getD i gY) d else[]
def qI(x y:Iv):Iv:=if x.all||y.all then gY else⟨jj x.lo y.lo,iW x.hi y.hi,false⟩
def nK(x y:List Iv):List Iv:=(List.range x.length).map λi=>qI (x.getD i gY) (y.getD i gY)
def pd(x:Iv)(p:Nat):Dy:=kp (iJ x.hi (jf x.lo)) p true
def wJ(x:Iv)(p:Nat):Int:=j8 (iJ x.hi (jf x.lo)) p true
def og(x:List Iv)(p:Nat):Nat->Dy
 | 0=>iA
 |k+1=>if 0<iL (pd (x.getD k gY) p) (og x p k)then pd (x.getD k gY) p else og x p k
def IX(x:List Iv)(p:Nat):Bool:=(List.range x.length).all λi=>decide (wJ (x.getD i gY) p=0)
def Wp{x y:Iv}(hx:x.ib)(hy:y.ib):(qI x y).ib:=by
 unfold qI;cases xa:x.all
 .cases ya:y.all
  .obtain ⟨x1,x2⟩:x.lo.ib/\x.hi.ib:=hx.ko;obtain⟨y1,y2⟩:y.lo.ib/\y.hi.ib:=hy.ko;refine .inr ⟨rfl,yb x1 y1,vf x2 y2,?_⟩;rw[oY];have hq:=hx.q;obtain⟨a1,a2,_⟩:=DH x.lo y.lo;obtain⟨b1,b2,_⟩:=Iq x.hi y.hi
   grind
  .exact mg
 .exact mg
def Wo{x y:List Iv}{n:Nat}(hx:kG n x)(hy:kG n y):kG n (nK x y):=by
 refine⟨by simp[nK,hx.len],λi hi=>?_⟩;have mS:i<x.length:=by simpa[nK]using hi
 have e:(nK x y).getD i gY=qI (x.getD i gY) (y.getD i gY):=by simp[nK,bw,mS]
 obtain⟨v1,a1⟩:=hx.ok i mS;obtain⟨v2,a2⟩:=hy.ok i (by rw[hy.len,<-hx.len];exact mS);rw[e];refine⟨Wp v1 v2,?_⟩;unfold qI;rw[a1,a2];rfl
def ahy{x:Iv}(hx:x.ib){d:Dy}(hd:d.ib)(h0:0<=d.q)(h:wU x d=true):(rB x d).ib:=by
 unfold wU at h;rw[bO,cv,cv]at h;obtain⟨h1,h2⟩:=h;have r1:mT (iJ x.lo (jf d)):=bT λq=>by rw[Eg q]at h1;cases h1
 have r2:mT (iJ x.hi d):=bT λq=>by rw[Eg q]at h2;cases h2
 obtain⟨c1,c2⟩:=hx.zT;unfold rB;refine .inr ⟨rfl,F2 (Cw c1 (yg hd).canon),F2 (Cw c2 hd.canon),?_⟩;show iL (jC _) (jC _)<=0;rw[yJ r1,yJ r2,oY,Qn,Qn,rM];have:=hx.q
 grind
def NI{x:List Iv}{n:Nat}(hx:kG n x){d:Dy}(hd:d.ib)(h0:0<=d.q)(h:sB x d=true):kG n (sO x d):=by
 unfold sO;rw[bk h];refine⟨by simp[hx.len],λi hi=>?_⟩;have mS:i<x.length:=by simpa using hi
 have e:((List.range x.length).map λi=>rB (x.getD i gY) d).getD i gY=rB (x.getD i gY) d:=by simp[bw,mS]
 rw[e];exact⟨ahy (hx.ok i mS).1 hd h0 (bX.1 h i (b5.2 mS)),rfl⟩
def So(d:Dy)(n p:Nat)(x:Nat):PS:=⟨41,true,[(14,.e (iP ((x+1:Nat):Int))),(13,.e (iP ((jq d p false x).2))),(12,.box 12 0),(10,.box 10 0),(5,.box 5 0),(1,.e (iP n)),(2,.e (iP p)),(4,.e (.fn 254 []))],[(12,.cells 31 (ix ((jq d p false x).1))),(10,.cells 31 ar),(5,.cells 31 (ix d))]⟩
def Sr(d:Dy)(n N p:Nat)(x:Nat):PS:=⟨41,true,[(14,.e (iP ((x+1:Nat):Int))),(13,.e (iP ((jq d p false x).2))),(12,.box 12 0),(10,.box 10 0),(5,.box 5 0),(1,.e (iP n)),(2,.e (iP p)),(4,.e (.fn 254 []))],[(12,.cells 31 (ix ((jq d p false x).1))),(10,.cells 31 ar),(5,.cells 31 (ix d))]⟩
def Ss(d:Dy)(n p:Nat)(x:Nat):PS:=⟨41,true,[(14,.e (iP ((x+1:Nat):Int))),(13,.e (iP ((jq d p true x).2))),(12,.box 12 0),(10,.box 10 0),(5,.box 5 0),(1,.e (iP n)),(2,.e (iP p)),(4,.e (.fn 255 []))],[(12,.cells 31 (ix ((jq d p true x).1))),(10,.cells 31 ar),(5,.cells 31 (ix d))]⟩
def St(d:Dy)(n N p:Nat)(x:Nat):PS:=⟨41,true,[(14,.e (iP ((x+1:Nat):Int))),(13,.e (iP ((jq d p true x).2))),(12,.box 12 0),(10,.box 10 0),(5,.box 5 0),(1,.e (iP n)),(2,.e (iP p)),(4,.e (.fn 255 []))],[(12,.cells 31 (ix ((jq d p true x).1))),(10,.cells 31 ar),(5,.cells 31 (ix d))]⟩
def Co(s:Bool)(m:Nat)(e:Int)(hl:(gW m).length<=256)(mv:-1000000<=e)(lr:e<=1000000):gV 219 [bP s,ia (gW m),iP e] (gZ (canon s m e)):=by
 refine⟨call219,λw B vs hK hB hr=>?_⟩;obtain⟨v1,vs,rfl,h1,hr⟩:=hr.mG;obtain⟨v2,vs,rfl,h2,hr⟩:=hr.mG;obtain⟨v3,vs,rfl,h3,hr⟩:=hr.mG;obtain rfl:=hr.rj;obtain rfl:=iD.kJ h1;obtain rfl:=iD.kJ h3;obtain⟨A,c,rfl,s1⟩:=xv (ml m) h2;exact(SV s m e A c w s1 hl mv lr hK).mono λe w' h=>rd B w e w' hB h
def FV(d:Dy)(hl:(gW d.m).length<=100000000)(mv:-10000000<=d.e)(lr:d.e<=10000000):gV 222 [gZ d] (.iw [gZ (jC d),iP (kC d)]):=
 xn call222 (λA c w h _=>aeY d A c w h aE aE aE) Qw
def Su(m n:Nat)(hl:(gW m).length<=256)(hn:n<=65536)(hf:(gW (m*2^n)).length<=256):gV 220 [ia (gW m),iP n] (ia (gW (m*2^n))):=
 ak call220 func220 (af [ag [ia (gW m),iP n] (PU _ _ hl hn hf)]) 
def Sa{m n:Nat}:kI m n<0↔m<n:=by unfold kI;split<;>(try split)<;>omega
def R9{m n:Nat}:¬kI m n<0↔n<=m:=by unfold kI;split<;>(try split)<;>omega
noncomputable def aa3(a b:Dy)(ha:a.ib)(hb:b.ib)(a0:a.m≠0)(b0:b.m≠0)(k:Int)(hk:min a.e b.e=k)(la:(gW a.m).length<=256)(lb:(gW b.m).length<=256)(e1:-16384<=k)(e2:a.e<=16384)(e3:b.e<=16384)(fa:(gW (a.m*2^(a.e-k).toNat)).length<=256)(fb:(gW (b.m*2^(b.e-k).toNat)).length<=256)(fab:(gW ((a.m*2^(a.e-k).toNat)+(b.m*2^(b.e-k).toNat))).length<=256)(fx:(gW ((a.m*2^(a.e-k).toNat)-(b.m*2^(b.e-k).toNat))).length<=256)(fy:(gW ((b.m*2^(b.e-k).toNat)-(a.m*2^(a.e-k).toNat))).length<=256)(Kb:a.neg=b.neg->iJ a b=canon a.neg ((a.m*2^(a.e-k).toNat)+(b.m*2^(b.e-k).toNat)) k)(Bp:a.neg≠b.neg->(b.m*2^(b.e-k).toNat)<=(a.m*2^(a.e-k).toNat)->iJ a b=canon a.neg ((a.m*2^(a.e-k).toNat)-(b.m*2^(b.e-k).toNat)) k)(Kd:a.neg≠b.neg->(a.m*2^(a.e-k).toNat)<(b.m*2^(b.e-k).toNat)->iJ a b=canon b.neg ((b.m*2^(b.e-k).toNat)-(a.m*2^(a.e-k).toNat)) k):Tr prog Tb:=
  ae [iq (a.e-k) aE,.o 70 (aq (a.e-k) ((a.e-k).toNat:Int) aE),ag [ia (gW a.m),iP ((a.e-k).toNat:Int)] (Su a.m (a.e-k).toNat la aE fa),iq (b.e-k) aE,.o 77 (aq (b.e-k) ((b.e-k).toNat:Int) aE),ag [ia (gW b.m),iP ((b.e-k).toNat:Int)] (Su b.m (b.e-k).toNat lb aE fb)]<|.w (a.neg=b.neg)
  (λk1=>ae [tB 83 (bc k1),ag [ia (gW (a.m*2^(a.e-k).toNat)),ia (gW (b.m*2^(b.e-k).toNat))] (H9 (a.m*2^(a.e-k).toNat) (b.m*2^(b.e-k).toNat) fa fb fab),ag [bP a.neg,ia (gW ((a.m*2^(a.e-k).toNat)+(b.m*2^(b.e-k).toNat))),iP k] (Co _ _ _ fab aE aE),ag [gZ (canon a.neg ((a.m*2^(a.e-k).toNat)+(b.m*2^(b.e-k).toNat)) k)] (FV _ (by have h:=zS a.neg ((a.m*2^(a.e-k).toNat)+(b.m*2^(b.e-k).toNat)) k fab;omega) (by have h:=zS a.neg ((a.m*2^(a.e-k).toNat)+(b.m*2^(b.e-k).toNat)) k fab;omega) (by have h:=zS a.neg ((a.m*2^(a.e-k).toNat)+(b.m*2^(b.e-k).toNat)) k fab;omega))]<|rQ (.iw [gZ (jC (canon a.neg ((a.m*2^(a.e-k).toNat)+(b.m*2^(b.e-k).toNat)) k)),iP (kC (canon a.neg ((a.m*2^(a.e-k).toNat)+(b.m*2^(b.e-k).toNat)) k))]) (.iw [gZ (jC (iJ a b)),iP (kC (iJ a b))]) (by rw[Kb k1]))
  (λk1=>ae [tB 83 (a7 k1),ag [ia (gW (a.m*2^(a.e-k).toNat)),ia (gW (b.m*2^(b.e-k).toNat))] (y9 (a.m*2^(a.e-k).toNat) (b.m*2^(b.e-k).toNat) aE aE)]<|.w ((kI (a.m*2^(a.e-k).toNat) (b.m*2^(b.e-k).toNat))<0)
   (λk2=>ae [tB 101 (bn k2),ag [ia (gW (b.m*2^(b.e-k).toNat)),ia (gW (a.m*2^(a.e-k).toNat))] (Dx (b.m*2^(b.e-k).toNat) (a.m*2^(a.e-k).toNat) fb fa (dt (Sa.1 k2))),ag [bP b.neg,ia (gW ((b.m*2^(b.e-k).toNat)-(a.m*2^(a.e-k).toNat))),iP k] (Co _ _ _ fy aE aE),ag [gZ (canon b.neg ((b.m*2^(b.e-k).toNat)-(a.m*2^(a.e-k).toNat)) k)] (FV _ (by have h:=zS b.neg ((b.m*2^(b.e-k).toNat)-(a.m*2^(a.e-k).toNat)) k fy;omega) (by have h:=zS b.neg ((b.m*2^(b.e-k).toNat)-(a.m*2^(a.e-k).toNat)) k fy;omega) (by have h:=zS b.neg ((b.m*2^(b.e-k).toNat)-(a.m*2^(a.e-k).toNat)) k fy;omega))]<|rQ (.iw [gZ (jC (canon b.neg ((b.m*2^(b.e-k).toNat)-(a.m*2^(a.e-k).toNat)) k)),iP (kC (canon b.neg ((b.m*2^(b.e-k).toNat)-(a.m*2^(a.e-k).toNat)) k))]) (.iw [gZ (jC (iJ a b)),iP (kC (iJ a b))]) (by rw[Kd k1 (Sa.1 k2)]))
   (λk2=>ae [tB 101 (bt k2),ag [ia (gW (a.m*2^(a.e-k).toNat)),ia (gW (b.m*2^(b.e-k).toNat))] (Dx (a.m*2^(a.e-k).toNat) (b.m*2^(b.e-k).toNat) fa fb (R9.1 k2)),ag [bP a.neg,ia (gW ((a.m*2^(a.e-k).toNat)-(b.m*2^(b.e-k).toNat))),iP k] (Co _ _ _ fx aE aE),ag [gZ (canon a.neg ((a.m*2^(a.e-k).toNat)-(b.m*2^(b.e-k).toNat)) k)] (FV _ (by have h:=zS a.neg ((a.m*2^(a.e-k).toNat)-(b.m*2^(b.e-k).toNat)) k fx;omega) (by have h:=zS a.neg ((a.m*2^(a.e-k).toNat)-(b.m*2^(b.e-k).toNat)) k fx;omega) (by have h:=zS a.neg ((a.m*2^(a.e-k).toNat)-(b.m*2^(b.e-k).toNat)) k fx;omega))]<|rQ (.iw [gZ (jC (canon a.neg ((a.m*2^(a.e-k).toNat)-(b.m*2^(b.e-k).toNat)) k)),iP (kC (canon a.neg ((a.m*2^(a.e-k).toNat)-(b.m*2^(b.e-k).toNat)) k))]) (.iw [gZ (jC (iJ a b)),iP (kC (iJ a b))]) (by rw[Bp k1 (R9.1 k2)])))
def ac2(a b:Dy)(ha:a.ib)(hb:b.ib)(a0:a.m≠0)(b0:b.m≠0)(k:Int)(hk:min a.e b.e=k)(la:(gW a.m).length<=256)(lb:(gW b.m).length<=256)(e1:-16384<=k)(e2:a.e<=16384)(e3:b.e<=16384)(fa:(gW (a.m*2^(a.e-k).toNat)).length<=256)(fb:(gW (b.m*2^(b.e-k).toNat)).length<=256)(fab:(gW ((a.m*2^(a.e-k).toNat)+(b.m*2^(b.e-k).toNat))).length<=256)(fx:(gW ((a.m*2^(a.e-k).toNat)-(b.m*2^(b.e-k).toNat))).length<=256)(fy:(gW ((b.m*2^(b.e-k).toNat)-(a.m*2^(a.e-k).toNat))).length<=256)(Kb:a.neg=b.neg->iJ a b=canon a.neg ((a.m*2^(a.e-k).toNat)+(b.m*2^(b.e-k).toNat)) k)(Bp:a.neg≠b.neg->(b.m*2^(b.e-k).toNat)<=(a.m*2^(a.e-k).toNat)->iJ a b=canon a.neg ((a.m*2^(a.e-k).toNat)-(b.m*2^(b.e-k).toNat)) k)(Kd:a.neg≠b.neg->(a.m*2^(a.e-k).toNat)<(b.m*2^(b.e-k).toNat)->iJ a b=canon b.neg ((b.m*2^(b.e-k).toNat)-(a.m*2^(a.e-k).toNat)) k)(hn:¬(4097<max a.im b.im-k/\(1<a.im-b.im\/1<b.im-a.im))):gV 164 [gZ a,gZ b] (.iw [gZ (jC (iJ a b)),iP (kC (iJ a b))]):=by
 have ta:-16384<=a.im/\a.im<=16384:=by
  unfold Dy.im;rw[bj a0];have:=ha.range.resolve_left a0;have:=ha.exp;omega
 have tb:-16384<=b.im/\b.im<=16384:=by
  unfold Dy.im;rw[bj b0];have:=hb.range.resolve_left b0;have:=hb.exp;omega
 exact ak call164 func164 (ae [ai 18 (((gW a.m).length:Int)==0) (ni (nR a0)),ai 23 (((gW b.m).length:Int)==0) (ni (nR b0)),.o 41 (aq (if b.e<a.e then b.e else a.e) k (by rw[<-hk];split<;>omega)),ag [gZ a] (mW _ aF),ag [gZ b] (mW _ aF),.o 48 (aq (if(Dy.im b)>(Dy.im a)then(Dy.im b)else(Dy.im a)) (max a.im b.im) aR),iq ((max a.im b.im)-k) aE]<|.w (4097<((max a.im b.im)-k))
  (λk1=>ae [tB 51 (bn k1),iq ((Dy.im a)-(Dy.im b)) aE]<|.w (1<((Dy.im a)-(Dy.im b)))
   (λk2=>.x (by exact absurd ⟨k1,.inl k2⟩ hn))
   (λk2=>ae [tB 56 (bt k2),iq ((Dy.im b)-(Dy.im a)) aE]<|.w (1<((Dy.im b)-(Dy.im a)))
    (λk3=>.x (by exact absurd ⟨k1,.inr k3⟩ hn))
    (λk3=>ae [tB 61 (bt k3)]<|aa3 a b ha hb a0 b0 k hk la lb e1 e2 e3 fa fb fab fx fy Kb Bp Kd)))
  (λk1=>ae [tB 51 (bt k1)]<|aa3 a b ha hb a0 b0 k hk la lb e1 e2 e3 fa fb fab fx fy Kb Bp Kd)) 
def ac1(a b:Dy)(ha:a.ib)(hb:b.ib)(a0:a.m≠0)(b0:b.m≠0)(k:Int)(hk:min a.e b.e=k)(e1:-16384<=k)(h1:4097<max a.im b.im-k)(h2:1<a.im-b.im\/1<b.im-a.im):gV 164 [gZ a,gZ b] (.iw [gZ iA,iP 9]):=by
 have ta:-16384<=a.im/\a.im<=16384:=by
  unfold Dy.im;rw[bj a0];have:=ha.range.resolve_left a0;have:=ha.exp;omega
 have tb:-16384<=b.im/\b.im<=16384:=by
  unfold Dy.im;rw[bj b0];have:=hb.range.resolve_left b0;have:=hb.exp;omega
 exact ak call164 func164 (ae [ai 18 (((gW a.m).length:Int)==0) (ni (nR a0)),ai 23 (((gW b.m).length:Int)==0) (ni (nR b0)),.o 41 (aq (if b.e<a.e then b.e else a.e) k (by rw[<-hk];split<;>omega)),ag [gZ a] (mW _ aF),ag [gZ b] (mW _ aF),.o 48 (aq (if(Dy.im b)>(Dy.im a)then(Dy.im b)else(Dy.im a)) (max a.im b.im) aR),iq ((max a.im b.im)-k) aE,tB 51 (bn h1),
  iq ((Dy.im a)-(Dy.im b)) aE]<|.w (1<((Dy.im a)-(Dy.im b)))
  (λk1=>af [tB 56 (bn k1),.o 64 (.e qO:aj (.agg ar) (gZ iA))])
  (λk1=>ae [tB 56 (bt k1),iq ((Dy.im b)-(Dy.im a)) aE]<|.w (1<((Dy.im b)-(Dy.im a)))
   (λk2=>af [tB 61 (bn k2),.o 64 (.e qO:aj (.agg ar) (gZ iA))])
   (λk2=>.x aE))) 
def acZ(a b:Dy)(hb:b.ib)(a0:a.m=0):gV 164 [gZ a,gZ b] (.iw [gZ b,iP 0]):=
 ak call164 func164 (af [ah 18 (((gW a.m).length:Int)==0) (sk (pE.2 a0)),ah 28 (((gW a.m).length:Int)==0) (sk (pE.2 a0)),.c (by have h:=Co b.neg b.m b.e hb.gW (by have:=hb.exp;omega) (by have:=hb.exp;omega);rwa[hb.canon.Cv]at h:gV 219 [bP b.neg,ia (gW b.m),iP b.e] (gZ b))]) 
def ac0(a b:Dy)(ha:a.ib)(a0:a.m≠0)(b0:b.m=0):gV 164 [gZ a,gZ b] (.iw [gZ a,iP 0]):=
 ak call164 func164 (af [ai 18 (((gW a.m).length:Int)==0) (ni (nR a0)),ah 23 (((gW b.m).length:Int)==0) (sk (pE.2 b0)),ai 28 (((gW a.m).length:Int)==0) (ni (nR a0)),.c (by have h:=Co a.neg a.m a.e ha.gW (by have:=ha.exp;omega) (by have:=ha.exp;omega);rwa[ha.canon.Cv]at h:gV 219 [bP a.neg,ia (gW a.m),iP a.e] (gZ a))]) 
def Sv(a b:Dy)(ha:a.ib)(hb:b.ib):gV 164 [gZ a,gZ b] (.iw [gZ (jC (iJ a b)),iP (kC (iJ a b))]):=by
 by_cases a0:a.m=0
 .rw [show iJ a b=b by unfold iJ;rw[bk a0],yJ hb.range,Cy hb.range];exact acZ a b hb a0
 by_cases b0:b.m=0
 .rw [show iJ a b=a by unfold iJ;rw[bj a0,bk b0],yJ ha.range,Cy ha.range];exact ac0 a b ha a0 b0
 obtain⟨k,hk⟩:∃ k,min a.e b.e=k:=⟨_,rfl⟩
 have xa:=ha.exp;have xb:=hb.exp;by_cases hn:4097<max a.im b.im-k/\(1<a.im-b.im\/1<b.im-a.im)
 .have kE:=aof ha hb a0 b0 hk hn.1 hn.2;rw[JC kE,Eg kE];exact ac1 a b ha hb a0 b0 k hk aE hn.1 hn.2
 .obtain ⟨f1,f2⟩:=aog ha hb a0 b0 hk hn;have len:∀ {m:Nat},ie m<=4098->(gW m).length<=256:=λh=>bA (Pr (k:=129) (bA h aG)) aG 
  refine ac2 a b ha hb a0 b0 k hk ha.gW hb.gW aE aE aE (len aE) (len aE) (len (ada f1 f2)) (len (bA (vz (dz _ _)) aE)) (len (bA (vz (dz _ _)) aE)) (λh=>?_) (λh h'=>Q8 a0 b0 hk h h') (λh h'=>Q9 a0 b0 hk h h') hn;have:=Ra (s:=a.neg) a0 b0 hk;rw[<-this,show(⟨a.neg,b.m,b.e⟩:Dy)=b by rw[h]]
def FY(a b:Dy)(ha:a.ib)(hb:b.ib):gV 241 [gZ a,gZ b] (.iw [gZ (jC (iJ a (jf b))),iP (kC (iJ a (jf b)))]):=by
 have hn:=yg hb;exact ak call241 func241 (af [ag [gZ a] (nB _ aF),ag [gZ b] (nB _ aF),ag [gZ b] (yM _ aF),ag [gZ a,gZ (jf b)] (Sv _ _ aF aF)]) 
def FU(a b:Dy)(ha:a.ib)(hb:b.ib):gV 88 [gZ a,gZ b] (.iw [gZ (jC (iJ a b)),iP (kC (iJ a b))]):=
 ak call88 func88 (af [ag [gZ a] (nB _ aF),ag [gZ b] (nB _ aF),ag [gZ a,gZ b] (Sv _ _ aF aF)]) 
def acw(k:Int)(h1:-32768<=k)(h2:k<=32768):gV 233 [iP k] (bP true):=
 ak call233 func233 (af [tT 4 ((-32768)<=k) aE,tT 7 (k<=32768) aE]) 
def Eb(d:Dy)(k:Int)(hv:d.ib)(h1:-32768<=k)(h2:k<=32768):gV 177 [gZ d,iP k] (.iw [gZ (jC (canon d.neg d.m (d.e+k))),iP (kC (canon d.neg d.m (d.e+k)))]):=by
 have hl:=hv.gW;have he:=hv.exp;have kD:=MV (ml d.m) hl d.neg (d.e+k);obtain⟨lZ,qU⟩:=MT (ml d.m) hl d.neg (d.e+k) aE aE;rw[kq]at kD lZ qU;exact ak call177 func177 (af [ag [gZ d] (nB _ aF),.c (acw k aE aE),iq (d.e+k) aE,ag [bP d.neg,ia (gW d.m),iP (d.e+k)] (Co _ _ _ aE aE aE),ag [gZ (canon d.neg d.m (d.e+k))] (FV _ aE aE aE)]) 
def FW(n:Nat)(h:n<4294967296):gV 189 [iP n] (gZ (ja (n:Int))):=by
 have ok2:iK [n%4294967296,n/4294967296%4294967296]:=iK.cons (bM _ aG) (iK.cons (bM _ aG) iK.nil);exact ak call189 func189 (ae [.o 5 (.int (sK _ aE):aj (.v (.int .u64 (IntKind.u64.wrap (n:Int)))) (.v (.int .u64 (n:Int)))),tF 7 ((n:Int)<0) aE,tF 11 ((n:Int)<0) aE,.o 13 (.int (FI _):aj (.v (.int .u32 (IntKind.u32.wrap (n:Int)))) (.v (.int .u32 ((n%4294967296:Nat):Int)))),.a (aE:0<=(32:Int)/\(32:Int)<=((64:Nat):Int)),.o 15 (.int (aaD _):aj (.v (.int .u64 ((n:Int)/2^32))) (.v (.int .u64 ((n/4294967296:Nat):Int)))),.o 16 (.int (FI _):aj (.v (.int .u32 (IntKind.u32.wrap ((n/4294967296:Nat):Int)))) (.v (.int .u32 (((n/4294967296)%4294967296:Nat):Int)))),.o 17 (.e (aoS _ _):aj (.sl false 2 1 λi_ j_=>[.v (.int .u32 ((n%4294967296:Nat):Int)),.v (.int .u32 (((n/4294967296)%4294967296:Nat):Int))].getD (i_*1+j_) (.v (.bool false))) (ia [n%4294967296,(n/4294967296)%4294967296])),ag [bP false,ia [n%4294967296,(n/4294967296)%4294967296],iP 0] (afH _ _ _ ok2 aK aG aG)]<|rQ (gZ (canon false (val [n%4294967296,(n/4294967296)%4294967296]) 0)) (gZ (ja (n:Int))) (by rw[ape,(aE:n%4294967296+4294967296*(n/4294967296%4294967296)=n),BJ])) 
def aiC:ja 1=⟨false,1,0⟩:=by rw[show(1:Int)=((1:Nat):Int)from rfl,BJ];exact YR
def MI:gV 189 [iP 1] (gZ ⟨false,1,0⟩):=by
 have:=FW 1 aG;rwa[show((1:Nat):Int)=1 from rfl,aiC]at this
def Jo(d:Dy)(p:Nat)(hd:d.ib)(il:8<=p)(ic:p<=512):gV 290 [gZ d,iP p] (.iw [gZ (kp d p false),iP (j8 d p false)]):=
 ak call290 func290 (af [.c (Lw d p false aF aE aE)]) 
def Jp(d:Dy)(p:Nat)(hd:d.ib)(il:8<=p)(ic:p<=512):gV 289 [gZ d,iP p] (.iw [gZ (kp d p true),iP (j8 d p true)]):=
 ak call289 func289 (af [.c (Lw d p true aF aE aE)]) 
def Ql(d:Dy)(p:Nat)(up:Bool)(N:Nat)(h:(jq d p up N).2≠0):∀ k,jq d p up (N+k)=jq d p up N
 | 0=>rfl
 |k+1=>by
  have ih:=Ql d p up N h k;show(if(jq d p up (N+k)).2≠0 then jq d p up (N+k)else _)=_;rw[ih,bk h]
def BY{d:Dy}{p:Nat}{up:Bool}{k:Nat}(h:(jq d p up k).2=0):jq d p up (k+1)=(kp (iY (jq d p up k).1 d) p up,j8 (iY (jq d p up k).1 d) p up):=by
 show(if(jq d p up k).2≠0 then _ else _)=_;rw[bj (not_not_intro h)];rfl
def acO(d:Dy)(n p:Nat)(hd:d.ib)(hn:1<=n)(lR:n<=16)(il:8<=p)(ic:p<=512)(jm:∀ x,x<n-1->(jq d p false x).2=0):gV 288 [gZ d,iP n,iP p,.fn 290 [],.fn 254 []] (.iw [gZ (jq d p false (n-1)).1,iP (jq d p false (n-1)).2]):=
 ak call288 func288 (af [.c (Jo d p aF aE aE),.s (Sp.jc (So d n p) 0 (n-1) aE (λx hx kW=>by
    have oF:=jm x aE;have hv:=AB d (aE:1<=p) (aE:p<=4096) false x;exact iy (ae [tT 24 (((x+1:Nat):Int)<n) aE,ah 27 (((jq d p false x).2)==0) (by rw[oF];rfl),.c (Lu ((jq d p false x).1) d p aF aF aE aE),
     iq (((x+1:Nat):Int)+1) aE]<|.e (af [.o 13 (aq (j8 (iY ((jq d p false x).1) d) p false) ((jq d p false (x+1)).2) (by rw[BY oF])),.b 12 (.iT (by rw[BY oF]):Bx.le (.cells 31 (ix (kp (iY ((jq d p false x).1) d) p false))) (.cells 31 (ix ((jq d p false (x+1)).1))))])) aI)
  (λhx=>by
    exact iy (af [tF 24 ((((n-1)+1:Nat):Int)<n) aE]) aI) aM:jb 3 f288 (So d n p 0) (.exit 0) ⟨41,true,[(13,.e (iP ((jq d p false (n-1)).2))),(12,.box 12 0),(10,.box 10 0)],[(12,.cells 31 (ix ((jq d p false (n-1)).1))),(10,.cells 31 ar)]⟩) (af [.o 14 (aq 1 ((0+1:Nat):Int) rfl),.o 13 (aq (j8 d p false) ((jq d p false 0).2) rfl),.b 12 (.iT rfl:Bx.le (.cells 31 (ix (kp d p false))) (.cells 31 (ix ((jq d p false 0).1))))])]) 
def acP(d:Dy)(n N p:Nat)(hd:d.ib)(hn:1<=n)(lR:n<=16)(il:8<=p)(ic:p<=512)(oR:N<n-1)(jm:∀ x,x<N->(jq d p false x).2=0)(hN:(jq d p false N).2≠0):gV 288 [gZ d,iP n,iP p,.fn 290 [],.fn 254 []] (.iw [gZ (jq d p false N).1,iP (jq d p false N).2]):=
 ak call288 func288 (af [.c (Jo d p aF aE aE),.s (Sp.jc (Sr d n N p) 0 N aE (λx hx kW=>by
    have oF:=jm x aE;have hv:=AB d (aE:1<=p) (aE:p<=4096) false x;exact iy (ae [tT 24 (((x+1:Nat):Int)<n) aE,ah 27 (((jq d p false x).2)==0) (by rw[oF];rfl),.c (Lu ((jq d p false x).1) d p aF aF aE aE),
     iq (((x+1:Nat):Int)+1) aE]<|.e (af [.o 13 (aq (j8 (iY ((jq d p false x).1) d) p false) ((jq d p false (x+1)).2) (by rw[BY oF])),.b 12 (.iT (by rw[BY oF]):Bx.le (.cells 31 (ix (kp (iY ((jq d p false x).1) d) p false))) (.cells 31 (ix ((jq d p false (x+1)).1))))])) aI)
  (λhx=>by
    exact iy (af [tT 24 (((N+1:Nat):Int)<n) aE,ai 27 (((jq d p false N).2)==0) (by simpa using hN)]) aI) aM:jb 3 f288 (Sr d n N p 0) (.exit 0) ⟨41,true,[(13,.e (iP ((jq d p false N).2))),(12,.box 12 0),(10,.box 10 0)],[(12,.cells 31 (ix ((jq d p false N).1))),(10,.cells 31 ar)]⟩) (af [.o 14 (aq 1 ((0+1:Nat):Int) rfl),.o 13 (aq (j8 d p false) ((jq d p false 0).2) rfl),.b 12 (.iT rfl:Bx.le (.cells 31 (ix (kp d p false))) (.cells 31 (ix ((jq d p false 0).1))))])]) 
def acQ(d:Dy)(n p:Nat)(hd:d.ib)(hn:1<=n)(lR:n<=16)(il:8<=p)(ic:p<=512):gV 288 [gZ d,iP n,iP p,.fn 290 [],.fn 254 []] (.iw [gZ (jq d p false (n-1)).1,iP (jq d p false (n-1)).2]):=by
 by_cases h:∃ x,x<n-1/\decide ((jq d p false x).2≠0)=true
 .obtain ⟨N,h1,h2,h3⟩:=tI h;have hN:(jq d p false N).2≠0:=cT h2;have:=acP d n N p hd hn lR il ic h1 (λx hx=>by simpa using h3 x hx) hN;have e:=Ql d p false N hN (n-1-N);rw[(aE:N+(n-1-N)=n-1)]at e;rw[e];exact this
 .exact acO d n p hd hn lR il ic λx hx=>bT λq=>h ⟨x,hx,bn q⟩
def acR(d:Dy)(n p:Nat)(hd:d.ib)(hn:1<=n)(lR:n<=16)(il:8<=p)(ic:p<=512)(jm:∀ x,x<n-1->(jq d p true x).2=0):gV 288 [gZ d,iP n,iP p,.fn 289 [],.fn 255 []] (.iw [gZ (jq d p true (n-1)).1,iP (jq d p true (n-1)).2]):=
 ak call288 func288 (af [.c (Jp d p aF aE aE),.s (Sp.jc (Ss d n p) 0 (n-1) aE (λx hx kW=>by
    have oF:=jm x aE;have hv:=AB d (aE:1<=p) (aE:p<=4096) true x;exact iy (ae [tT 24 (((x+1:Nat):Int)<n) aE,ah 27 (((jq d p true x).2)==0) (by rw[oF];rfl),.c (Lv ((jq d p true x).1) d p aF aF aE aE),
     iq (((x+1:Nat):Int)+1) aE]<|.e (af [.o 13 (aq (j8 (iY ((jq d p true x).1) d) p true) ((jq d p true (x+1)).2) (by rw[BY oF])),.b 12 (.iT (by rw[BY oF]):Bx.le (.cells 31 (ix (kp (iY ((jq d p true x).1) d) p true))) (.cells 31 (ix ((jq d p true (x+1)).1))))])) aI)
  (λhx=>by
    exact iy (af [tF 24 ((((n-1)+1:Nat):Int)<n) aE]) aI) aM:jb 3 f288 (Ss d n p 0) (.exit 0) ⟨41,true,[(13,.e (iP ((jq d p true (n-1)).2))),(12,.box 12 0),(10,.box 10 0)],[(12,.cells 31 (ix ((jq d p true (n-1)).1))),(10,.cells 31 ar)]⟩) (af [.o 14 (aq 1 ((0+1:Nat):Int) rfl),.o 13 (aq (j8 d p true) ((jq d p true 0).2) rfl),.b 12 (.iT rfl:Bx.le (.cells 31 (ix (kp d p true))) (.cells 31 (ix ((jq d p true 0).1))))])]) 
def acS(d:Dy)(n N p:Nat)(hd:d.ib)(hn:1<=n)(lR:n<=16)(il:8<=p)(ic:p<=512)(oR:N<n-1)(jm:∀ x,x<N->(jq d p true x).2=0)(hN:(jq d p true N).2≠0):gV 288 [gZ d,iP n,iP p,.fn 289 [],.fn 255 []] (.iw [gZ (jq d p true N).1,iP (jq d p true N).2]):=
 ak call288 func288 (af [.c (Jp d p aF aE aE),.s (Sp.jc (St d n N p) 0 N aE (λx hx kW=>by
    have oF:=jm x aE;have hv:=AB d (aE:1<=p) (aE:p<=4096) true x;exact iy (ae [tT 24 (((x+1:Nat):Int)<n) aE,ah 27 (((jq d p true x).2)==0) (by rw[oF];rfl),.c (Lv ((jq d p true x).1) d p aF aF aE aE),
     iq (((x+1:Nat):Int)+1) aE]<|.e (af [.o 13 (aq (j8 (iY ((jq d p true x).1) d) p true) ((jq d p true (x+1)).2) (by rw[BY oF])),.b 12 (.iT (by rw[BY oF]):Bx.le (.cells 31 (ix (kp (iY ((jq d p true x).1) d) p true))) (.cells 31 (ix ((jq d p true (x+1)).1))))])) aI)
  (λhx=>by
    exact iy (af [tT 24 (((N+1:Nat):Int)<n) aE,ai 27 (((jq d p true N).2)==0) (by simpa using hN)]) aI) aM:jb 3 f288 (St d n N p 0) (.exit 0) ⟨41,true,[(13,.e (iP ((jq d p true N).2))),(12,.box 12 0),(10,.box 10 0)],[(12,.cells 31 (ix ((jq d p true N).1))),(10,.cells 31 ar)]⟩) (af [.o 14 (aq 1 ((0+1:Nat):Int) rfl),.o 13 (aq (j8 d p true) ((jq d p true 0).2) rfl),.b 12 (.iT rfl:Bx.le (.cells 31 (ix (kp d p true))) (.cells 31 (ix ((jq d p true 0).1))))])]) 
def acT(d:Dy)(n p:Nat)(hd:d.ib)(hn:1<=n)(lR:n<=16)(il:8<=p)(ic:p<=512):gV 288 [gZ d,iP n,iP p,.fn 289 [],.fn 255 []] (.iw [gZ (jq d p true (n-1)).1,iP (jq d p true (n-1)).2]):=by
 by_cases h:∃ x,x<n-1/\decide ((jq d p true x).2≠0)=true
 .obtain ⟨N,h1,h2,h3⟩:=tI h;have hN:(jq d p true N).2≠0:=cT h2;have:=acS d n N p hd hn lR il ic h1 (λx hx=>by simpa using h3 x hx) hN;have e:=Ql d p true N hN (n-1-N);rw[(aE:N+(n-1-N)=n-1)]at e;rw[e];exact this
 .exact acR d n p hd hn lR il ic λx hx=>bT λq=>h ⟨x,hx,bn q⟩
def Sb(d:Dy)(n p:Nat)(hd:d.ib)(h0:¬d.iI<0)(hn:1<=n)(lR:n<=16)(il:8<=p)(ic:p<=512):gV 253 [gZ d,iP n,iP p,bP false] (.iw [gZ (lJ d n p false).1,iP (lJ d n p false).2]):=
 ak call253 func253 (ae [ag [gZ d] (nA _ aF),tB 14 (bt h0),.c (acQ d n p aF aE aE aE aE)]<|rQ (.iw [gZ ((jq d p false (n-1)).1),iP ((jq d p false (n-1)).2)]) (.iw [gZ (lJ d n p false).1,iP (lJ d n p false).2]) (by unfold lJ;rw[bj h0])) 
def Sc(d:Dy)(n p:Nat)(hd:d.ib)(h0:¬d.iI<0)(hn:1<=n)(lR:n<=16)(il:8<=p)(ic:p<=512):gV 253 [gZ d,iP n,iP p,bP true] (.iw [gZ (lJ d n p true).1,iP (lJ d n p true).2]):=
 ak call253 func253 (ae [ag [gZ d] (nA _ aF),tB 14 (bt h0),.c (acT d n p aF aE aE aE aE)]<|rQ (.iw [gZ ((jq d p true (n-1)).1),iP ((jq d p true (n-1)).2)]) (.iw [gZ (lJ d n p true).1,iP (lJ d n p true).2]) (by unfold lJ;rw[bj h0])) 
def aaF{d:Dy}(h:d.iI<0):¬(jf d).iI<0:=by
 rw[(sI _).2,rM];have:=(sI d).2.1 h
 grind
def acp(d:Dy)(n p:Nat)(hd:d.ib)(h0:¬d.iI<0)(hn:1<=n)(lR:n<=16)(il:8<=p)(ic:p<=512):gV 253 [gZ d,iP (n:Int),iP (p:Int),bP false] (.iw [gZ (jq d p false (n-1)).1,iP (jq d p false (n-1)).2]):=by
 have:=Sb d n p hd h0 hn lR il ic;unfold lJ at this;rwa[bj h0]at this
def acq(d:Dy)(n p:Nat)(hd:d.ib)(h0:¬d.iI<0)(hn:1<=n)(lR:n<=16)(il:8<=p)(ic:p<=512):gV 253 [gZ d,iP (n:Int),iP (p:Int),bP true] (.iw [gZ (jq d p true (n-1)).1,iP (jq d p true (n-1)).2]):=by
 have:=Sc d n p hd h0 hn lR il ic;unfold lJ at this;rwa[bj h0]at this
def acn(d:Dy)(n p:Nat)(hd:d.ib)(h0:d.iI<0)(hn:1<=n)(lR:n<=16)(il:8<=p)(ic:p<=512):gV 253 [gZ d,iP n,iP p,bP false] (.iw [gZ (lJ d n p false).1,iP (lJ d n p false).2]):=by
 have GU:=yg hd;have h1:=aaF h0;have hv:=AB (jf d) (aE:1<=p) (aE:p<=4096) true (n-1);exact ak call253 func253 (ae [ag [gZ d] (nA _ aF),tB 14 (bn h0),ag [gZ d] (yM _ aF),ag [gZ (jf d),iP n,iP p,bP true] (acq _ _ _ GU h1 hn lR il ic),ag [gZ ((jq (jf d) p true (n-1)).1)] (yM _ aF)]<|rQ (.iw [gZ (jf ((jq (jf d) p true (n-1)).1)),iP ((jq (jf d) p true (n-1)).2)]) (.iw [gZ (lJ d n p false).1,iP (lJ d n p false).2]) (by unfold lJ;rw[bk h0];rfl)) 
def Sd(d:Dy)(n p:Nat)(hd:d.ib)(hn:1<=n)(lR:n<=16)(il:8<=p)(ic:p<=512):gV 253 [gZ d,iP (n:Int),iP (p:Int),bP false] (.iw [gZ (lJ d n p false).1,iP (lJ d n p false).2]):=by
 by_cases h0:d.iI<0
 .exact acn d n p hd h0 hn lR il ic
 .exact Sb d n p hd h0 hn lR il ic
def aco(d:Dy)(n p:Nat)(hd:d.ib)(h0:d.iI<0)(hn:1<=n)(lR:n<=16)(il:8<=p)(ic:p<=512):gV 253 [gZ d,iP n,iP p,bP true] (.iw [gZ (lJ d n p true).1,iP (lJ d n p true).2]):=by
 have GU:=yg hd;have h1:=aaF h0;have hv:=AB (jf d) (aE:1<=p) (aE:p<=4096) false (n-1);exact ak call253 func253 (ae [ag [gZ d] (nA _ aF),tB 14 (bn h0),ag [gZ d] (yM _ aF),ag [gZ (jf d),iP n,iP p,bP false] (acp _ _ _ GU h1 hn lR il ic),ag [gZ ((jq (jf d) p false (n-1)).1)] (yM _ aF)]<|rQ (.iw [gZ (jf ((jq (jf d) p false (n-1)).1)),iP ((jq (jf d) p false (n-1)).2)]) (.iw [gZ (lJ d n p true).1,iP (lJ d n p true).2]) (by unfold lJ;rw[bk h0];rfl)) 
def Se(d:Dy)(n p:Nat)(hd:d.ib)(hn:1<=n)(lR:n<=16)(il:8<=p)(ic:p<=512):gV 253 [gZ d,iP (n:Int),iP (p:Int),bP true] (.iw [gZ (lJ d n p true).1,iP (lJ d n p true).2]):=by
 by_cases h0:d.iI<0
 .exact aco d n p hd h0 hn lR il ic
 .exact Sc d n p hd h0 hn lR il ic
def acU(x:Iv)(n p:Nat)(hx:x.ib)(ha:x.all=true)(hn:n<=16)(il:8<=p)(ic:p<=512):gV 211 [ij x,iP n,iP p] (ij (na x n p)):=
 ak call211 func211 (ae [.o 12 (.e (lV _):aj (.sl true 1 7 λi_ j_=>(iO x).getD (i_*7+j_) (.v (.bool false))) (ig [x])),ag [ig [x]] (qu _ aF),ai 13 (!x.all) (by rw[ha];rfl),.c nZ]<|rQ (ij gY) (ij (na x n p)) (by unfold na;rw[bk ha])) 
def acX(x:Iv)(n p:Nat)(hx:x.ib)(ha:x.all=false)(h0:n=0)(il:8<=p)(ic:p<=512):gV 211 [ij x,iP n,iP p] (ij (na x n p)):=by
 have v1:=Fg;exact ak call211 func211 (ae [.o 12 (.e (lV _):aj (.sl true 1 7 λi_ j_=>(iO x).getD (i_*7+j_) (.v (.bool false))) (ig [x])),ag [ig [x]] (qu _ aF),ah 13 (!x.all) (by rw[ha];rfl),ag [iP p] (xf _),ah 17 (nj (p:Int)) (sT.2 ⟨aE,aE⟩),tF 22 ((n:Int)<0) aE,tF 26 (16<(n:Int)) aE,ah 30 ((n:Int)==0) (sk h0),ag [iP 1] MI,.c (BL (Dy.mk false 1 0) aF)]<|rQ (ij (mJ (Dy.mk false 1 0))) (ij (na x n p)) (by unfold na;rw[bj (by rw[ha];decide),bk h0])) 
def acV(x:Iv)(n p:Nat)(hx:x.ib)(ha:x.all=false)(h0:n≠0)(hn:n<=16)(he:n%2=0)(il:8<=p)(ic:p<=512):gV 211 [ij x,iP n,iP p] (ij (na x n p)):=by
 have va:=Jb hx;obtain⟨w1,w2⟩:=va.ko;exact ak call211 func211 (ae [.o 12 (.e (lV _):aj (.sl true 1 7 λi_ j_=>(iO x).getD (i_*7+j_) (.v (.bool false))) (ig [x])),ag [ig [x]] (qu _ aF),ah 13 (!x.all) (by rw[ha];rfl),ag [iP p] (xf _),ah 17 (nj (p:Int)) (sT.2 ⟨aE,aE⟩),tF 22 ((n:Int)<0) aE,tF 26 (16<(n:Int)) aE,ai 30 ((n:Int)==0) (ni h0),.a (aE:0<(2:Int)),.o 34 (aq (Int.tmod (n:Int) 2) ((n%2:Nat):Int) (by rw[aqR aE];omega)),ah 35 (((n%2:Nat):Int)==0) (sk he),.c (Pd x aF),ag [gZ ((ke x).lo),iP n,iP p,bP false] (Sd _ _ _ aF aE aE aE aE),ag [gZ ((ke x).hi),iP n,iP p,bP true] (Se _ _ _ aF aE aE aE aE),.c (Dh ((lJ ((ke x).lo) n p false).1) ((lJ ((ke x).hi) n p true).1) ((lJ ((ke x).lo) n p false).2) ((lJ ((ke x).hi) n p true).2))]<|rQ (ij (mj ((lJ ((ke x).lo) n p false).1) ((lJ ((ke x).lo) n p false).2) ((lJ ((ke x).hi) n p true).1) ((lJ ((ke x).hi) n p true).2))) (ij (na x n p)) (by unfold na vk;rw[bj (by rw[ha];decide),bj h0,bk he])) 
def acW(x:Iv)(n p:Nat)(hx:x.ib)(ha:x.all=false)(h0:n≠0)(hn:n<=16)(he:¬n%2=0)(il:8<=p)(ic:p<=512):gV 211 [ij x,iP n,iP p] (ij (na x n p)):=by
 have va:=hx;obtain⟨w1,w2⟩:=va.ko;exact ak call211 func211 (ae [.o 12 (.e (lV _):aj (.sl true 1 7 λi_ j_=>(iO x).getD (i_*7+j_) (.v (.bool false))) (ig [x])),ag [ig [x]] (qu _ aF),ah 13 (!x.all) (by rw[ha];rfl),ag [iP p] (xf _),ah 17 (nj (p:Int)) (sT.2 ⟨aE,aE⟩),tF 22 ((n:Int)<0) aE,tF 26 (16<(n:Int)) aE,ai 30 ((n:Int)==0) (ni h0),.a (aE:0<(2:Int)),.o 34 (aq (Int.tmod (n:Int) 2) ((n%2:Nat):Int) (by rw[aqR aE];omega)),ai 35 (((n%2:Nat):Int)==0) (ni he),ag [gZ x.lo,iP n,iP p,bP false] (Sd _ _ _ aF aE aE aE aE),ag [gZ x.hi,iP n,iP p,bP true] (Se _ _ _ aF aE aE aE aE),.c (Dh ((lJ x.lo n p false).1) ((lJ x.hi n p true).1) ((lJ x.lo n p false).2) ((lJ x.hi n p true).2))]<|rQ (ij (mj ((lJ x.lo n p false).1) ((lJ x.lo n p false).2) ((lJ x.hi n p true).1) ((lJ x.hi n p true).2))) (ij (na x n p)) (by unfold na vk;rw[bj (by rw[ha];decide),bj h0,bj he])) 
def Jn(x:Iv)(n p:Nat)(hx:x.ib)(hn:n<=16)(il:8<=p)(ic:p<=512):gV 211 [ij x,iP (n:Int),iP (p:Int)] (ij (na x n p)):=by
 cases ha:x.all with
 |true=>exact acU x n p hx ha hn il ic
 |false=>
  by_cases h0:n=0
  .exact acX x n p hx ha h0 il ic
  .by_cases he:n%2=0
   .exact acV x n p hx ha h0 hn he il ic
   .exact acW x n p hx ha h0 hn he il ic
def Sm(x y:Iv)(hx:x.ib)(hy:y.ib)(xa:x.all=false)(ya:y.all=false):gV 242 [ij x,ij y] (ij (qI x y)):=by
 obtain⟨v1,v2⟩:=hx.ko;obtain⟨v3,v4⟩:=hy.ko;exact ak call242 func242 (ae [.o 7 (.e (Ar _ _):aj (.sl true 2 7 λi_ j_=>(iO x++iO y).getD (i_*7+j_) (.v (.bool false))) (ig [x,y])),ag [ig [x,y]] (Aq _ _ aF aF),ah 8 (!(x.all||y.all)) (by rw[xa,ya];rfl),.c (KQ x.lo y.lo aF aF),.c (KR x.hi y.hi aF aF)]<|rQ (ij (Iv.mk (jj x.lo y.lo) (iW x.hi y.hi) false)) (ij (qI x y)) (by unfold qI;rw[xa,ya];rfl)) 
def SA(z:Int):(z==0)=decide (z=0):=by by_cases h:z=0<;>simp[h]
def Ec(x:Iv)(p:Nat)(hx:x.ib)(xa:x.all=false)(il:8<=p)(ic:p<=512):gV 244 [ij x,iP p] (.iw [gZ (pd x p),bP (decide (wJ x p=0))]):=by
 obtain⟨v1,v2⟩:=hx.ko;have v3:=yg v1;exact ak call244 func244 (ae [.o 9 (.e (lV _):aj (.sl true 1 7 λi_ j_=>(iO x).getD (i_*7+j_) (.v (.bool false))) (ig [x])),ag [ig [x]] (qu _ aF),ah 10 (!x.all) (by rw[xa];rfl),ag [iP p] (xf _),ah 14 (nj (p:Int)) (sT.2 ⟨aE,aE⟩),ag [gZ x.lo] (yM _ aF),.c (Zg x.hi (jf x.lo) p aF aF aE aE)]<|rQ (.iw [gZ (kp (iJ x.hi (jf x.lo)) p true),bP ((j8 (iJ x.hi (jf x.lo)) p true)==0)]) (.iw [gZ (pd x p),bP (decide (wJ x p=0))]) (by rw[SA];rfl)) 
def Jl(x y:Iv):BI x y=(y.all||(!x.all&&(decide (iL y.lo x.lo<=0)&&decide (iL x.hi y.hi<=0)))):=rfl
def acz(x y:Iv)(hx:x.ib)(hy:y.ib):gV 82 [ij x,ij y] (bP (BI x y)):=by
 obtain⟨v1,v2⟩:=hx.ko;obtain⟨v3,v4⟩:=hy.ko;exact ak call82 func82 (ae [.c (se x aF),.c (se y aF)]<|.w (y.all=true)
  (λk1=>ae [tB 14 k1]<|rQ (bP true) (bP (BI x y)) (by rw[Jl];simp[k1]))
  (λk1=>ae [tB 14 (bd k1)]<|.w (x.all=true)
   (λk2=>ae [tB 17 k2]<|rQ (bP false) (bP (BI x y)) (by rw[Jl];simp[k1,k2]))
   (λk2=>ae [tB 17 (bd k2),ag [gZ y.lo,gZ x.lo] (lp _ _ aF aF)]<|.w ((iL y.lo x.lo)<=0)
    (λk3=>ae [tB 25 (bn k3),ag [gZ x.hi,gZ y.hi] (lp _ _ aF aF)]<|rQ (bP (decide ((iL x.hi y.hi)<=0))) (bP (BI x y)) (by rw[Jl];simp[k1,k2,k3]))
    (λk3=>ae [tB 25 (bt k3)]<|rQ (bP false) (bP (BI x y)) (by rw[Jl];simp[k1,k2,k3]))))) 
def afL(k:Nat)(w:World)(h0:0<k)(hn:k<4294967296)(uR:Tb w):
 Calls prog 189 #[.int .i64 (-(k:Int))] w (xz w (canon true k 0)):=by
 have hd:(k:Int)/4294967296=0:= aE ;have iC:(-(k:Int))<0:= aE ;have Of:decide ((-(k:Int))<0)=true:=bn iC;have hu:IntKind.u64.wrap (-(k:Int))=18446744073709551616-k:=by rw[IntKind.wrap_u64];omega
 have hs:IntKind.u64.wrap (-(18446744073709551616-(k:Int)))=k:=by rw[IntKind.wrap_u64];omega
 have J5:IntKind.u32.wrap (k:Int)=k:=by rw[IntKind.wrap_u32];omega
 have ht:(iG [k,0]).length<=256:=by have:=pY [k,0];unfold mX at this;simp at this;omega
 have HC:=aq9 (λ(A:Option Addr) c w (h:Sl w A c [k,0]) (hT:Tb w)=>JN true A c [k,0] 0 w h aK ht aG aG hT);have hv:val [k,0]=k:= aK ;rw[hv]at HC;clear hv ht;generalize canon true k 0=d at *
 generalize hN:(-(k:Int))=N at *
 go_enter func189,ntmps189;go_wp2_with fail;refine(HC.out _ _ _ (Sl.L7 _ _ aK _ _ k 0 rfl rfl hn aG) (uR.below (by first|exact(iF.alloc _ _).trans (iF.alloc _ _)|exact iF.alloc _ _))).mono ?_;rintro r w1 ⟨A1,c1,rfl,vZ,kD⟩;have qn:iF (w.alloc (.cells #[.bool false,.slice none 0 0,.int .i64 0] 31)) w1:=(iF.alloc _ _).trans kD;have bx:=(jG.new w false none 0 0 0).ext qn;have b0:=bx.c0;have b1:=bx.c1;have b2:=bx.c2;have f0:=bx.fr 0;have f1:=bx.fr 1;have f2:=bx.fr 2;go_wp2;exact uO rfl rfl rfl (bx.set _ _ _ _ _) rfl (bx.vq vZ _ _ _ _ _) (jG.uH ((iF.alloc _ _).trans qn) (bu _) _ _ _ _ _)
def rW(n:Int)(h:n.natAbs<4294967296):gV 189 [iP n] (gZ (ja n)):=by
 by_cases h0:0<=n
 .obtain ⟨k,rfl⟩:=eE h0;exact FW k aE 
 .obtain ⟨k,rfl⟩:∃ k:Nat,n = -(k:Int):=⟨n.natAbs,aE⟩
  rw[WN k aE];refine⟨call189,λw B vs hK hB hr=>?_⟩;obtain⟨v1,vs,rfl,h1,hr⟩:=hr.mG;obtain rfl:=hr.rj;obtain rfl:=iD.kJ h1;exact(afL k w aE aE hK).mono λe w' h=>rd B w e w' hB h
def anj(d:Dy)(k:Int):jC (canon d.neg d.m (d.e+k))=uF d k:=by unfold jC uF;split<;>simp_all
def ank(d:Dy)(k:Int):kC (canon d.neg d.m (d.e+k))=DT d k:=by unfold kC DT;split<;>simp_all
def mE(a b:Nat):Nat->Nat×Nat
 | 0=>(a,b)
 |k+1=>((mE a b k).2,(mE a b k).1%(mE a b k).2)
def Nj(a b:Nat):∀ k,mE a b (k+1)=mE b (a%b) k
 | 0=>rfl
 |k+1=>by
  show((mE a b (k+1)).2,(mE a b (k+1)).1%(mE a b (k+1)).2)=_;rw[Nj a b k];rfl
def Ni(a b:Nat):∀ k,Nat.gcd (mE a b k).1 (mE a b k).2=Nat.gcd a b
 | 0=>rfl
 |k+1=>by
  show Nat.gcd (mE a b k).2 ((mE a b k).1%(mE a b k).2)=_;rw[<-Ni a b k];exact(Nat.gcd_comm _ _).trans ((Nat.gcd_rec _ _).symm.trans (Nat.gcd_comm _ _))
def Uk:∀ (b a:Nat),∃ N,(∀ k,k<N->(mE a b k).2≠0)/\(mE a b N).2=0:=by
 intro b
 induction b using Nat.strongRecOn with
 |ind b ih=>
  intro a;by_cases h:b=0
  .exact ⟨0,λk hk=>absurd hk (bE k),h⟩
  .obtain ⟨N,h1,h2⟩:=ih (a%b) (bM a (ef h)) b;refine⟨N+1,λk hk=>?_,by rw[Nj];exact h2⟩;rcases k with _|k
   .exact h
   .rw [Nj];exact h1 k aE 
def rN(n d:Int)(p:Nat):Iv:=if nM n d then mj (pA (ja n) (ja d) p false) (rz (ja n) (ja d) p false) (pA (ja n) (ja d) p true) (rz (ja n) (ja d) p true)else gY
def WM{d:Int}(h:d≠0):(ja d).m≠0:=by
 intro q;have hq:=BZ d;rw[pv,q]at hq;have e:(d:Rat)=0:=by
  rw[<-hq];split<;>simp
 rw[show(0:Rat)=((0:Int):Rat)from rfl,Rat.intCast_inj]at e;exact h e
def TR{a b:Dy}(b0:b.m≠0){p:Nat}(hp:1<=p)(ic:p<=4096)(up:Bool):(pA a b p up).ib:=by
 unfold pA;split
 .exact su
 .exact ua _ _ _ _ _ _ hp ic
def QQ(n d:Int){p:Nat}(hp:1<=p)(ic:p<=4096):(rN n d p).ib:=by
 unfold rN;split
 .rename_i h;obtain⟨r1,_⟩:=Qq h;have d0:(ja d).m≠0:=WM aE;unfold mj;split
  .exact mg
  .rename_i he;obtain⟨A,B⟩:=TM (a:=ja n) d0 hp ic;refine .inr ⟨rfl,TR d0 hp ic _,TR d0 hp ic _,?_⟩;rw[oY];exact bQ (A.1 aE).2 (B.1 aE).2
 .exact mg
def Vj(a b:Nat)(x:Nat):PS:=⟨12,true,[(0,.e (.v (.int .u64 (((mE a b x).1:Nat):Int)))),(1,.e (.v (.int .u64 (((mE a b x).2:Nat):Int))))],[]⟩
def agP(a b N:Nat)(ha:a<18446744073709551616)(hb:b<18446744073709551616)(jm:∀ k,k<N->(mE a b k).2≠0)(hN:(mE a b N).2=0):gV 215 [.v (.int .u64 (a:Int)),.v (.int .u64 (b:Int))] (.v (.int .u64 (((mE a b N).1:Nat):Int))):=
 ak call215 func215 (af [.s (Sp.jc (Vj a b) 0 N aE (λx hx kW=>by
    have qn:=jm x aE;exact iy (ae [ah 6 ((((mE a b x).2:Nat):Int) != 0) (Yp (jm x aE)),.a (aE:0<((((mE a b x).2:Nat):Int):Int))]<|.e (af [.o 0 (.int aT:aj (.v (.int .u64 (((mE a b x).2:Nat):Int))) (.v (.int .u64 (((mE a b (x+1)).1:Nat):Int)))),.o 1 (.int aT:aj (.v (.int .u64 ((((mE a b x).1)%((mE a b x).2):Nat):Int))) (.v (.int .u64 (((mE a b (x+1)).2:Nat):Int))))])) aI)
  (λhx=>by
    exact iy (af [ai 6 ((((mE a b N).2:Nat):Int) != 0) (Yo hN)]) aI) aM:jb 1 f215 (Vj a b 0) (.exit 0) ⟨12,true,[(0,.e (.v (.int .u64 (((mE a b N).1:Nat):Int))))],[]⟩) (af [.o 0 (.int aT:aj (.v (.int .u64 (a:Int))) (.v (.int .u64 (((mE a b 0).1:Nat):Int)))),.o 1 (.int aT:aj (.v (.int .u64 (b:Int))) (.v (.int .u64 (((mE a b 0).2:Nat):Int))))])]) 
def agQ(a b:Nat)(ha:a<18446744073709551616)(hb:b<18446744073709551616):gV 215 [.v (.int .u64 (a:Int)),.v (.int .u64 (b:Int))] (.v (.int .u64 (Nat.gcd a b:Int))):=by
 obtain⟨N,h1,h2⟩:=Uk b a;have hg:=Ni a b N;rw[h2,Nat.gcd_zero_right]at hg;rw[<-hg];exact agP a b N ha hb h1 h2
def anZ(m:Nat)(h:m<=1073741824):gV 216 [iP m] (.v (.int .u64 (m:Int))):=
 ak call216 func216 (af [tF 4 ((m:Int)<0) aE,.o 9 (.int (sK _ aE):aj (.v (.int .u64 (IntKind.u64.wrap (m:Int)))) (.v (.int .u64 (m:Int))))]) 
def anY(m:Nat)(h0:0<m)(h:m<=1073741824):gV 216 [iP (-(m:Int))] (.v (.int .u64 (m:Int))):=
 ak call216 func216 (af [tT 4 ((-(m:Int))<0) aE,iq (0-(-(m:Int))) aE,.o 6 (aq (0-(-(m:Int))) m aE),.o 7 (.int (sK _ aE):aj (.v (.int .u64 (IntKind.u64.wrap (m:Int)))) (.v (.int .u64 (m:Int))))]) 
def aaJ(n:Int)(h1:-1073741824<=n)(h2:n<=1073741824):gV 216 [iP n] (.v (.int .u64 (n.natAbs:Int))):=by
 by_cases h:0<=n
 .obtain ⟨m,rfl⟩:=eE h;exact anZ m aE 
 .obtain ⟨m,rfl⟩:∃ m:Nat,n = -(m:Int):=⟨n.natAbs,aE⟩
  rw[fH,dL];exact anY m aE aE 
def zh(g:Nat):((g:Int)==1)=decide (g=1):=by
 by_cases h:g=1
 .subst h;rfl
 .rw [bt h];exact a7 aE 
def Lt(n d:Int):gV 153 [.agg [iP n,iP d]] (bP (nM n d)):=
 ak call153 func153 (.w (1<=d)
  (λk1=>ae [tB 5 (bn k1)]<|.w (d<=1073741824)
   (λk2=>ae [tB 9 (bn k2)]<|.w ((-1073741824)<=n)
    (λk3=>ae [tB 14 (bn k3)]<|.w (n<=1073741824)
     (λk4=>ae [tB 19 (bn k4),ag [iP n] (aaJ _ aE aE),ag [iP d] (aaJ _ aE aE),.c (agQ (Int.natAbs n) (Int.natAbs d) aE aE)]<|rQ (bP ((Nat.gcd (Int.natAbs n) (Int.natAbs d):Int)==1)) (bP (nM n d)) (by unfold nM;simp[zh,k1,k2,k3,k4]))
     (λk4=>ae [tB 19 (bt k4)]<|rQ (bP false) (bP (nM n d)) (by unfold nM;simp[zh,k1,k2,k3,k4])))
    (λk3=>ae [tB 14 (bt k3)]<|rQ (bP false) (bP (nM n d)) (by unfold nM;simp[zh,k1,k2,k3])))
   (λk2=>ae [tB 9 (bt k2)]<|rQ (bP false) (bP (nM n d)) (by unfold nM;simp[zh,k1,k2])))
  (λk1=>ae [tB 5 (bt k1)]<|rQ (bP false) (bP (nM n d)) (by unfold nM;simp[zh,k1]))) 
def XO{lo hi:Dy}{e f:Int}(h:e≠0\/f≠0):mj lo e hi f=gY:=bk h
def akd{lo hi:Dy}{e f:Int}(h:e=0)(k:f=0):mj lo e hi f=⟨lo,hi,false⟩:=bj (by rw[h,k];decide)
def Ze(n d:Int)(p:Nat)(h:nM n d=true)(il:8<=p)(ic:p<=512):gV 236 [.agg [iP n,iP d],iP p] (ij (rN n d p)):=by
 obtain⟨r1,r2,r3,r4⟩:=Qq h;have v1:=tH (n:=n) aE;have v2:=tH (n:=d) aE;have d0:(ja d).m≠0:=WM aE;exact ak call236 func236 (ae [.c (Lt n d),ai 11 (!(nM n d)) (by rw[h];rfl),ag [iP n] (rW _ aE),ag [iP d] (rW _ aE),.c (Zi (ja n) (ja d) p aF aF aF aE aE),ag [iP n] (rW _ aE),ag [iP d] (rW _ aE),.c (Zj (ja n) (ja d) p aF aF aF aE aE)]<|.w ((rz (ja n) (ja d) p false)=0)
  (λk1=>ae [tB 36 (bg k1)]<|.w ((rz (ja n) (ja d) p true)=0)
   (λk2=>ae [tB 39 (bg k2)]<|rQ (ij (Iv.mk (pA (ja n) (ja d) p false) (pA (ja n) (ja d) p true) false)) (ij (rN n d p)) (by unfold rN;rw[bk h,akd k1 k2]))
   (λk2=>ae [tB 39 (bh k2),.o 41 (.e Mj:aj (.agg [bP false,.v (.slice none 0 0),iP 0,bP false,.v (.slice none 0 0),iP 0,bP true]) (ij gY))]<|rQ (ij gY) (ij (rN n d p)) (by unfold rN;rw[bk h,XO (.inr k2)])))
  (λk1=>ae [tB 36 (bh k1),.o 41 (.e Mj:aj (.agg [bP false,.v (.slice none 0 0),iP 0,bP false,.v (.slice none 0 0),iP 0,bP true]) (ij gY))]<|rQ (ij gY) (ij (rN n d p)) (by unfold rN;rw[bk h,XO (.inl k1)]))) 
noncomputable def vH(x:Iv)(p:Nat):Iv:=@dite Iv (∃ y:Iv,y.ib/\gV 312 [ij x,iP (p:Int)] (ij y)) (Classical.propDecidable _) Classical.choose (λ_=>gY)
def Nu(x:Iv)(p:Nat):(vH x p).ib:=by
 unfold vH;split
 .rename_i h;exact(cU h).1
 .exact mg
def Uw(x:Iv)(hx:x.ib)(p:Nat)(il:8<=p)(ic:p<=512)(hF:vu):gV 312 [ij x,iP (p:Int)] (ij (vH x p)):=by
 have h:∃ y:Iv,y.ib/\gV 312 [ij x,iP (p:Int)] (ij y):=(hF x p hx il ic).1;unfold vH;rw[fO h];exact(cU h).2
noncomputable def vI(x:Iv)(p:Nat):Iv:=@dite Iv (∃ y:Iv,y.ib/\gV 314 [ij x,iP (p:Int)] (ij y)) (Classical.propDecidable _) Classical.choose (λ_=>gY)
def Nv(x:Iv)(p:Nat):(vI x p).ib:=by
 unfold vI;split
 .rename_i h;exact(cU h).1
 .exact mg
def Ux(x:Iv)(hx:x.ib)(p:Nat)(il:8<=p)(ic:p<=512)(hF:vu):gV 314 [ij x,iP (p:Int)] (ij (vI x p)):=by
 have h:∃ y:Iv,y.ib/\gV 314 [ij x,iP (p:Int)] (ij y):=(hF x p hx il ic).2.1;unfold vI;rw[fO h];exact(cU h).2
noncomputable def vJ(x:Iv)(p:Nat):Iv:=@dite Iv (∃ y:Iv,y.ib/\gV 315 [ij x,iP (p:Int)] (ij y)) (Classical.propDecidable _) Classical.choose (λ_=>gY)
def Uz(x:Iv)(p:Nat):(vJ x p).ib:=by
 unfold vJ;split
 .rename_i h;exact(cU h).1
 .exact mg
def Uy(x:Iv)(hx:x.ib)(p:Nat)(il:8<=p)(ic:p<=512)(hF:vu):gV 315 [ij x,iP (p:Int)] (ij (vJ x p)):=by
 have h:∃ y:Iv,y.ib/\gV 315 [ij x,iP (p:Int)] (ij y):=(hF x p hx il ic).2.2.1;unfold vJ;rw[fO h];exact(cU h).2
noncomputable def vG(x:Iv)(p:Nat):Iv:=@dite Iv (∃ y:Iv,y.ib/\gV 316 [ij x,iP (p:Int)] (ij y)) (Classical.propDecidable _) Classical.choose (λ_=>gY)
def Uv(x:Iv)(p:Nat):(vG x p).ib:=by
 unfold vG;split
 .rename_i h;exact(cU h).1
 .exact mg
def Uu(x:Iv)(hx:x.ib)(p:Nat)(il:8<=p)(ic:p<=512)(hF:vu):gV 316 [ij x,iP (p:Int)] (ij (vG x p)):=by
 have h:∃ y:Iv,y.ib/\gV 316 [ij x,iP (p:Int)] (ij y):=(hF x p hx il ic).2.2.2.1;unfold vG;rw[fO h];exact(cU h).2
noncomputable def pM(x:Iv)(p:Nat):Iv:=@dite Iv (∃ y:Iv,y.ib/\gV 319 [ij x,iP (p:Int)] (ij y)) (Classical.propDecidable _) Classical.choose (λ_=>gY)
def Gn(x:Iv)(p:Nat):(pM x p).ib:=by
 unfold pM;split
 .rename_i h;exact(cU h).1
 .exact mg
def UA(x:Iv)(hx:x.ib)(p:Nat)(il:8<=p)(ic:p<=512)(hF:vu):gV 319 [ij x,iP (p:Int)] (ij (pM x p)):=by
 have h:∃ y:Iv,y.ib/\gV 319 [ij x,iP (p:Int)] (ij y):=(hF x p hx il ic).2.2.2.2;unfold pM;rw[fO h];exact(cU h).2
def yG(o:np):Bool:=decide (o.kind<=6)
noncomputable def nf(o:np)(x y:Iv)(p:Nat):Iv:=
 if o.kind=3 then jS x y p else if o.kind=4 then sJ x y p else if o.kind=5 then iH x y p else if o.kind=6 then jt x y p
 else if o.kind=7 then qh x else if o.kind=8 then na x o.n p else if o.kind=9 then vH x p else if o.kind=10 then vI x p
 else if o.kind=11 then vJ x p else if o.kind=12 then vG x p else if o.kind=13 then pM x p else gY
noncomputable def yF(o:np)(l:List Iv)(p:Nat):Iv:=if o.kind=1 then rN o.cn o.cd p else nf o (l.getD o.a gY) (if yG o then l.getD o.b gY else gY) p
noncomputable def jU(gX:List np)(xs:List Iv)(p:Nat):Nat->List Iv
 | 0=>xs
 |k+1=>jU gX xs p k++[yF (gX.getD k iE) (jU gX xs p k) p]
noncomputable def kH(t:qa)(xs:List Iv)(p:Nat):List Iv:=t.iu.map λk=>(jU t.gX xs p t.gX.length).getD k gY
noncomputable def lG(s:jM)(x:List Iv)(h:Dy)(b:List Iv)(p:Nat):List Iv:=
 if rC (kH s.tape (b++s.params) p)then[]else if rC (Ak x (kH s.tape (b++s.params) p) h p)then[]else Ak x (kH s.tape (b++s.params) p) h p
noncomputable def s7(s:jM)(x:List Iv)(h:Dy)(b:List Iv)(p:Nat):Bool:=!(lG s x h b p).isEmpty&&(we x b&&we (lG s x h b p) b)
def Rr(gX:List np)(xs:List Iv)(p:Nat):∀ k,(jU gX xs p k).length=xs.length+k
 | 0=>rfl
 |k+1=>by simp only[jU,cz,Rr gX xs p k,cY,aqA];omega
def ace(o:np){x y:Iv}(hx:x.ib)(hy:y.ib){p:Nat}(hp:1<=p)(ic:p<=4096):(nf o x y p).ib:=by
 unfold nf;split
 .exact rU hx hy hp ic
 split
 .exact rU hx (Dz hy) hp ic
 split
 .exact oL _ _ hp ic
 split
 .exact qS _ _ hp ic
 split
 .exact Dz hx
 split
 .exact Zb hx _ hp ic
 split
 .exact Nu _ _
 split
 .exact Nv _ _
 split
 .exact Uz _ _
 split
 .exact Uv _ _
 split
 .exact Gn _ _
 .exact mg
def acg(o:np){l:List Iv}(hl:mH l){p:Nat}(hp:1<=p)(ic:p<=4096):(yF o l p).ib:=by
 unfold yF;split
 .exact QQ _ _ hp ic
 .exact ace o (hl _) (by split;exact hl _;exact mg) hp ic
def Mf(gX:List np){xs:List Iv}(h:mH xs){p:Nat}(hp:1<=p)(ic:p<=4096):∀ k,mH (jU gX xs p k)
 | 0=>h
 |k+1=>(Mf gX h hp ic k).push (acg _ (Mf gX h hp ic k) hp ic)
def UC(t:qa){xs:List Iv}(h:mH xs){p:Nat}(hp:1<=p)(ic:p<=4096):mH (kH t xs p):=λi=>by
 unfold kH;rw[bw,cF];cases t.iu[i]? with
 |none=>exact mg
 |some k=>exact Mf t.gX h hp ic _ _
def JY(t:qa)(xs:List Iv)(p:Nat):(kH t xs p).length=t.iu.length:=by simp[kH]
def O6{s:jM}{x b:List Iv}{h:Dy}{p n:Nat}(hx:kG n x)(hp:1<=p)(ic:p<=4096)(ju:lG s x h b p≠[]):kG n (lG s x h b p):=by
 unfold lG at ju ⊢;split at ju
 .exact absurd rfl ju
 .rename_i h1;rw[bj h1];split at ju
  .exact absurd rfl ju
  .rename_i h2;rw[bj h2];exact⟨by rw[KP,hx.len],ahL (by simpa using h2) (aip hx.ok.Rq hp ic)⟩
end Go.Proofs.YtgdahmmlddfimaaGreatDoor
namespace Go.Proofs.YtgdahmmlddfimaaGreatDoor.Pu
open Go.RowKit
def ZK{bs br:Nat->Prop}{w:World}{xs:List Value}{a:Value}(h:iD bs br w (.agg (xs.map E.v)) a):a = .agg xs.toArray:=by
 generalize he:E.agg (xs.map E.v)=e at h;cases h with
 |agg l vs hl k=>
  cases he;rw[cB]at hl;have:vs=xs:=fZ λi=>by
   cases hx:xs[i]? with
   |none=>rw[List.getElem?_eq_none_iff]at hx ⊢;omega
   |some x=>
    obtain⟨v,hv⟩:∃ v,vs[i]? = some v:=by
     have hi:i<xs.length:=(cr.1 hx).1;exact⟨vs[i]'(aE),bF aE⟩
    rw[hv,iD.kJ (k i (.v x) v (by rw[cF,hx];rfl) hv)]
  rw[this]
 |_=>cases he
def P8{P:Program}{t:TypeId}{m D D':Nat}(hm:m<=10000)(hk:P.keyTypeAt m t=true)(hg:P.eqGuardType P.depth t=false){xs ys:List Value}{la lb:List Lit}
 (hx:P.keyLits D t xs=some la) (hy:P.keyLits D' t ys=some lb) (fx:(Value.agg xs.toArray).formed P t=true) (fy:(Value.agg ys.toArray).formed P t=true) {c:Bool} (hc:c=true↔la=lb):
 pH P .eql t (.agg (xs.map E.v)) (.agg (ys.map E.v)) (.bool c):=by
 intro bs br w a b ox oy ha hb;obtain rfl:=ZK ha;obtain rfl:=ZK hb;constructor
 .simp only[eqGuard,fo,bK,bC,Sem.run_bind,run_program,Result.andThen_ok,hg,ew,bJ,Sem.run_pure]
 .obtain ⟨r,hr,ahZ⟩:=run_equalIn_deep (10000-m) m t hk w _ _ _ _ la lb fx fy (by simpa[Value.cells]using hx) (by simpa[Value.cells]using hy);rw[(aE:10000-m+m=10000)]at hr;have e:r=c:=by rw[dA,ahZ,hc]
  subst e;have:(Op.equal t (.agg xs.toArray) (.agg ys.toArray)).run P w = .ok r w:=hr;simp only[binOp,Sem.run_bind,this,Result.andThen_ok,Sem.run_pure]
end Go.Proofs.YtgdahmmlddfimaaGreatDoor.Pu
