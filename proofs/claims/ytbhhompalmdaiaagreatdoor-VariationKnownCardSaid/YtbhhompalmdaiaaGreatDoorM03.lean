/- Lemmas that the last file uses. -/
import Derived.Test.YtbhhompalmdaiaaGreatDoorM02
set_option linter.unusedSimpArgs false
set_option linter.unusedVariables false
set_option linter.defProp false
set_option maxHeartbeats 4000000
open Go.Proofs.Tryz
namespace Go.Proofs.YtbhhompalmdaiaaGreatDoor.Fp
def aeD{m gm p:Nat}{e ge K:Int}(hp:1<=p)(hg:iA gm<=p)(qW:-16384<=ge)(k1:K<=e)(k2:K<=ge)
 (h:gm*2^(ge-K).toNat<=m*2^(e-K).toNat):gm*2^(ge-K).toNat<=kH m e false p false*2^(e+jg m e p-K).toNat:=by
 have hq:kH m e false p false=m/2^jg m e p:=by unfold kH;simp
 rw[hq];have hm:=cB m (2^jg m e p);have hr:=bC m (bA (n:=jg m e p) (aF:0<2));obtain⟨k,hk⟩:∃ k,k=jg m e p:=⟨_,rfl⟩
 rw[<-hk]at hm hr ⊢;have e1:(e+(k:Int)-K).toNat=k+(e-K).toNat:= aD ;rw[e1,bw];generalize hE:2^(e-K).toNat=E at *
 have H9:0<E:=by rw[<-hE];exact bA aF 
 have hmE:m*E<(m/2^k+1)*(2^k*E):=by
  rw[<-bB];refine dg ?_ H9;rw[b8,ck,bE];omega
 by_cases hc:e+k<=ge
 .
  have e2:(ge-K).toNat=(ge-(e+k)).toNat+(k+(e-K).toNat):= aD ;rw[e2,bw,bw 2 k,hE]at h ⊢;rw[<-bB]at h ⊢;generalize gm*2^(ge-(e+k)).toNat=g at *
  have:g<m/2^k+1:=by
   apply b9;intro h';have:=bR (2^k*E) (aD:m/2^k+1<=g);omega
  exact bR _ aD 
 .by_cases py:k=0
  .subst py;rw[ca,dL,ck];exact h
  .
   have hb:(iA m:Int)-p=k:=by unfold jg at hk;omega
   have vt:m≠0:=by intro h0;rw[h0]at hb;simp[iA]at hb;omega
   have h1:=rk vt;have h2:2^(iA m-1-k)<=m/2^k:=by
    rw[dB (bA aF),<-bw];exact bJ (bI aF (by have:=nj vt;omega)) h1
   have h3:gm<2^p:=kV.1 hg;refine bJ (bR _ (dG h3)) (bJ ?_ (bR _ h2));rw[<-hE,<-bw,<-bw,<-bw];exact bI aF aD 
def TB{m gm p:Nat}{e ge K:Int}(hp:1<=p)(hg:iA gm<=p)(qW:-16384<=ge)(k1:K<=e)(k2:K<=ge)
 (h:m*2^(e-K).toNat<=gm*2^(ge-K).toNat):kH m e false p true*2^(e+jg m e p-K).toNat<=gm*2^(ge-K).toNat:=by
 have hq0:kH m e false p false=m/2^jg m e p:=by unfold kH;simp
 have CP:kH m e false p true=m/2^jg m e p+if m%2^jg m e p≠0 then 1 else 0:=by unfold kH;simp
 have hm:=cB m (2^jg m e p);obtain⟨k,hk⟩:∃ k,k=jg m e p:=⟨_,rfl⟩
 rw[CP];rw[<-hk]at hm ⊢;have e1:(e+(k:Int)-K).toNat=k+(e-K).toNat:= aD ;rw[e1,bw];generalize hE:2^(e-K).toNat=E at *
 have H9:0<E:=by rw[<-hE];exact bA aF 
 by_cases hr:m%2^k=0
 .rw [bl aD,bK,<-bB];refine bJ (ib ?_) h;congr 1;rw[bE];omega
 .rw [bn hr];have py:k≠0:=by intro h0;rw[h0,ca,dn]at hr;exact hr rfl
  have iO:m/2^k*(2^k*E)<gm*2^(ge-K).toNat:=by
   refine bT ?_ h;rw[<-bB];refine dg ?_ H9;rw[bE];omega
  by_cases hc:e+k<=ge
  .have e2:(ge-K).toNat=(ge-(e+k)).toNat+(k+(e-K).toNat):= aD ;have e3:gm*2^(ge-K).toNat=gm*2^(ge-(e+k)).toNat*(2^k*E):=by rw[e2,bw,bw 2 k,hE,bB]
   rw[e3]at iO ⊢;generalize gm*2^(ge-(e+k)).toNat=g at *
   have:m/2^k<g:=anP iO;exact bR _ this
  .
   exfalso;have hb:(iA m:Int)-p=k:=by unfold jg at hk;omega
   have vt:m≠0:=by intro h0;rw[h0]at hr;simp at hr
   have h1:=rk vt;have oP:=nj vt;have h3:gm<2^p:=kV.1 hg;have h4:gm*2^(ge-K).toNat<=2^(iA m-1)*E:=by
    refine bJ (bR _ (dG h3)) ?_;rw[<-hE,<-bw,<-bw];exact bI aF aD 
   have h5:2^(iA m-1-k)<=m/2^k:=by
    rw[dB (bA aF),<-bw];exact bJ (bI aF aD) h1
   have h6:2^(iA m-1)*E<=m/2^k*(2^k*E):=by
    rw[<-bB];refine bR _ ?_;have:=bR (2^k) h5;rw[<-bw]at this;exact bJ (bI aF aD) this
   omega
def P2(k:Int):Rat:=(2:Rat)^k
def pr(k:Int):0<P2 k:=Rat.zpow_pos aF 
def tO(a b:Int):P2 (a+b)=P2 a*P2 b:=Rat.zpow_add aF a b
def uN(n:Nat):P2 (n:Int)=((2^n:Nat):Rat):=by unfold P2;rw[Rat.zpow_natCast];simp
def DM:P2 0=1:=by have:=uN 0;simpa using this
def DL{e k:Int}(h:k<=e):P2 e=((2^(e-k).toNat:Nat):Rat)*P2 k:=by
 rw[<-uN,<-tO];congr 1;omega
def BI{x y:Rat}(k:Int):x*P2 k<=y*P2 k↔x<=y:=
 ⟨λh=>cW h (pr k),λh=>cI h (bH (pr k))⟩
def sC{m n:Nat}{e f K:Int}(h1:K<=e)(h2:K<=f):(m:Rat)*P2 e<=(n:Rat)*P2 f↔m*2^(e-K).toNat<=n*2^(f-K).toNat:=by
 rw[DL h1,DL h2,<-dW,<-dW,BI,<-cX,<-cX,dX]
def Dy.q(d:Dy):Rat:=((d.num d.e:Int):Rat)*P2 d.e
def yb{d:Dy}{k:Int}(h:oH d k):d.q=((d.num k:Int):Rat)*P2 k:=by
 unfold Dy.q;rcases h with h|h
 .rw [vR h,vR h];simp
 .rw [Jo h (cv _),DL h,<-dW,gE,dw]
def qx(a b:Dy):jA a b<=0↔a.q<=b.q:=by
 obtain⟨k,ka,kb⟩:∃ k:Int,k<=a.e/\k<=b.e:=⟨min a.e b.e,aD,aD⟩
 rw[pD (.inr ka) (.inr kb),yb (.inr ka),yb (.inr kb),BI,ans]
def OC(a b:Dy):jA a b<0↔a.q<b.q:=by
 have h:=qx b a;rw[zL b a]at h;constructor
 .intro h1;apply gF.1;intro h2;have:=h.2 h2;omega
 .intro h1;apply b9;intro h2;exact gF.2 h1 (h.1 aD)
def FV(a b:Dy):(iJ a b).q=a.q+b.q:=by
 obtain⟨k,ka,kb⟩:∃ k:Int,k<=a.e/\k<=b.e:=⟨min a.e b.e,aD,aD⟩
 rw[yb (GB (.inr ka) (.inr kb)),yb (.inr ka),yb (.inr kb),J4 (.inr ka) (.inr kb),Rat.intCast_add,Rat.add_mul]
def pk(a:Dy):(jf a).q = -a.q:=by
 rw[yb (GA (.inr (cv a.e))),Jm,fm,gG];rfl
def sF(s:Bool)(m:Nat)(e:Int):(canon s m e).q=if s then -((m:Rat)*P2 e)else(m:Rat)*P2 e:=by
 rw[yb (zE (cv e)),BL (cv e)];have:(e-e).toNat=0:= aD ;rw[this];cases s<;>simp[fm,gG,dw]
def pU(a:Dy):a.q=if a.neg then -((a.m:Rat)*P2 a.e)else(a.m:Rat)*P2 a.e:=by
 unfold Dy.q Dy.num Dy.j8;have:(a.e-a.e).toNat=0:= aD ;rw[this];cases a.neg<;>simp[fm,gG,dw]
def JB(a b:Dy):(lM a b).q=a.q*b.q:=by
 unfold lM;rw[sF,pU a,pU b,tO,cX];cases a.neg<;>cases b.neg<;>simp<;>grind
def qy:iQ.q=0:=by rw[pU];simp[iQ]
def OB{a b:Dy}(ha:a.lh)(hb:b.lh)(h:a.q=b.q):a=b:=by
 obtain⟨k,ka,kb⟩:∃ k:Int,k<=a.e/\k<=b.e:=⟨min a.e b.e,aD,aD⟩
 refine Ln ha hb (.inr ka) (.inr kb) ?_;rw[yb (.inr ka),yb (.inr kb)]at h;have h1:=(BI (x:=((a.num k:Int):Rat)) (y:=((b.num k:Int):Rat)) k).1 (by rw[h];exact bS);have h2:=(BI (x:=((b.num k:Int):Rat)) (y:=((a.num k:Int):Rat)) k).1 (by rw[h];exact bS);rw[ans]at h1 h2;omega
def yc(n:Int):(jY n).q=(n:Rat):=by
 unfold jY;rw[yb (k:=0) (KC (cv 0)),N6 (cv 0),DM];simp
def Dh(d:Dy):0<=(lR d).q/\d.q<=(lR d).q /\ -d.q<=(lR d).q/\((lR d).q=d.q\/(lR d).q = -d.q):=by
 have h:(lR d).q=(d.m:Rat)*P2 d.e:=by rw[pU];rfl
 have h0:0<=(d.m:Rat)*P2 d.e:=bL eA (bH (pr _));rw[h,pU d];cases d.neg<;>simp<;>grind
def ri(d:Dy):(0<d.jh↔0<d.q)/\(d.jh<0↔d.q<0):=by
 have h:=pr d.e;have hm:d.m≠0->0<(d.m:Rat)*P2 d.e:=λh0=>cT (cV.2 aD) h
 rw[pU];unfold Dy.jh;by_cases h0:d.m=0
 .simp [h0]
 .have:=hm h0;rw[bl h0];cases d.neg<;>simp<;>grind
def zg(a b:Dy):a.q<=(je a b).q/\b.q<=(je a b).q/\((je a b).q=a.q\/(je a b).q=b.q):=
 ⟨(qx _ _).1 (C6 a b),(qx _ _).1 (agT a b),by unfold je;split;exact .inr rfl;exact .inl rfl⟩
def BP(a b:Dy):(ji a b).q<=a.q/\(ji a b).q<=b.q/\((ji a b).q=a.q\/(ji a b).q=b.q):=
 ⟨(qx _ _).1 (Fu a b),(qx _ _).1 (Wo a b),by unfold ji;split;exact .inr rfl;exact .inl rfl⟩
def GM(p:Nat)(g:Rat):Prop:=∃ (m:Nat) (e:Int),iA m<=p /\ -16384<=e/\(iA m:Int)+e<=16384/\g=(m:Rat)*P2 e
def G(p:Nat)(g:Rat):Prop:=GM p g\/GM p (-g)
def GM.FK{p:Nat}{g:Rat}(h:GM p g):0<=g:=by
 obtain⟨m,e,_,_,_,rfl⟩:=h;exact bL eA (bH (pr _))
def yl(p:Nat):GM p 0:=⟨0,0,by simp[sx],aD,by simp[sx],aJ⟩
def G.neg{p:Nat}{g:Rat}(h:G p g):G p (-g):=by
 rcases h with h|h
 .exact .inr (by rw[fo];exact h)
 .exact .inl h
def G.pos{p:Nat}{g:Rat}(h:G p g)(h0:0<=g):GM p g:=by
 rcases h with h|h
 .exact h
 .have:=h.FK;have:g=0:= aO ;rw[this];exact yl p
def Q0(k:Nat):iA (2^k)=k+1:=uT (bp _) (fk aF aD)
def zH:iA 1=1:=Q0 0
section
variable {m p:Nat} {e:Int}
def Zt(hp:1<=p)(iq:p<=4096)(ho:lZ m e false p false=true):
 GM p (((2^p-1:Nat):Rat)*P2 (16384-p))/\((2^p-1:Nat):Rat)*P2 (16384-p)<=(m:Rat)*P2 e/\∀ g,GM p g->g<=((2^p-1:Nat):Rat)*P2 (16384-p):=by
 have hpp:2<=2^p:=by
  have:=bI (n:=2) aF hp;omega
 have hb:iA (2^p-1)=p:=by
  obtain⟨j,rfl⟩:∃ j,p=j+1:=⟨p-1,aD⟩
  have h2:2^(j+1)=2^j*2:=bG _ _;have h3:=bA (n:=j) (aF:0<2);exact uT aD aD 
 refine⟨⟨_,_,ib hb,aD,aD,rfl⟩,?_,?_⟩
 .obtain ⟨c1,c2⟩:=G4 m e p;unfold lZ at ho;simp only[bY,cH]at ho;obtain⟨o1,o2⟩:=ho;have hq:=rk o1;have oP:=nj o1;obtain⟨K,k1,k2⟩:∃ K:Int,K<=e/\K<=16384-p:=⟨min e (16384-p),aD,aD⟩
  rw[sC k2 k1];have h1:2^(iA (kH m e false p false)-1)*2^jg m e p<=m:=bJ (bR _ hq) c1;have h2:=bR (2^(e-K).toNat) h1;rw[<-bw,<-bw]at h2;refine bJ (bR _ (dS _ _)) (bJ ?_ h2);rw[<-bw];exact bI aF aD 
 .rintro g ⟨gm,ge,b1,b2,b3,rfl⟩;by_cases hc:ge<=16384-p
  .have:gm<2^p:=kV.1 b1;rw[sC (K:=ge) (cv _) hc];have e0:(ge-ge).toNat=0:= aD ;rw[e0,ca,cg];exact bJ (aD:gm<=2^p-1) (gh _ (bA aF))
  .rw [sC (K:=16384-p) aD (cv _)];have e0:((16384:Int)-p-(16384-p)).toNat=0:= aD ;rw[e0,ca,cg];have h1:gm<2^(16384-ge).toNat:=by
    by_cases h0:gm=0
    .rw [h0];exact bA aF 
    .exact kV.1 aD 
   have h2:=dg h1 (bA (n:=(ge-(16384-p)).toNat) (aF:0<2));by_cases hg:ge<=16384
   .rw [<-bw,show(16384-ge).toNat+(ge-(16384-(p:Int))).toNat=p by omega]at h2;omega
   .have:gm=0:=by
     rw[show(16384-ge).toNat=0 by omega]at h1;simpa using h1
    rw[this,cN];omega
def Zs(hp:1<=p)(ho:¬lZ m e false p false=true):
 GM p (((kH m e false p false:Nat):Rat)*P2 (e+jg m e p))/\((kH m e false p false:Nat):Rat)*P2 (e+jg m e p)<=(m:Rat)*P2 e /\
 ∀ g,GM p g->g<=(m:Rat)*P2 e->g<=((kH m e false p false:Nat):Rat)*P2 (e+jg m e p):=by
 obtain⟨c1,c2⟩:=G4 m e p;have hk:-16384<=e+(jg m e p:Int):=by unfold jg;omega
 refine⟨?_,?_,?_⟩
 .by_cases h0:kH m e false p false=0
  .rw [h0];simpa using yl p
  .have hq:kH m e false p false<2^p:=by
    have:=RV m e p;unfold kH;simpa using this
   unfold lZ at ho;simp only[dp,h0,fi,gw,gz,cH]at ho;exact⟨_,_,kV.2 hq,hk,aD,rfl⟩
 .rw [sC (K:=e) aD (cv _)];rw[show(e-e).toNat=0 by omega,show(e+(jg m e p:Int)-e).toNat=jg m e p by omega,ca,cg];exact c1
 .rintro g ⟨gm,ge,b1,b2,b3,rfl⟩ h;obtain⟨K,k1,k2⟩:∃ K:Int,K<=e/\K<=ge:=⟨min e ge,aD,aD⟩
  rw[sC k2 k1]at h;rw[sC (K:=K) k2 aD];exact aeD hp b1 b2 k1 k2 h
def Rl(hp:1<=p)(ho:lZ m e false p true=true)(g:Rat)(hg:GM p g):¬(m:Rat)*P2 e<=g:=by
 obtain⟨gm,ge,b1,b2,b3,rfl⟩:=hg;intro h;obtain⟨K,k1,k2⟩:∃ K:Int,K<=e/\K<=ge:=⟨min e ge,aD,aD⟩
 rw[sC k1 k2]at h;have h:=TB hp b1 b2 k1 k2 h;unfold lZ at ho;simp only[bY,cH]at ho;obtain⟨o1,o2⟩:=ho;have hq:=rk o1;have oP:=nj o1;have h3:gm<2^iA gm:=pE gm;have h4:=dg h3 (bA (n:=(ge-K).toNat) (aF:0<2));have h5:=bR (2^(e+(jg m e p:Int)-K).toNat) hq;rw[<-bw]at h4 h5;have h6:2^(iA gm+(ge-K).toNat)<=2^(iA (kH m e false p true)-1+(e+(jg m e p:Int)-K).toNat):=bI aF aD;omega
def Rk(hp:1<=p)(ho:¬lZ m e false p true=true):
 GM p (((kH m e false p true:Nat):Rat)*P2 (e+jg m e p))/\(m:Rat)*P2 e<=((kH m e false p true:Nat):Rat)*P2 (e+jg m e p) /\
 ∀ g,GM p g->(m:Rat)*P2 e<=g->((kH m e false p true:Nat):Rat)*P2 (e+jg m e p)<=g:=by
 obtain⟨c1,c2⟩:=G4 m e p;have hk:-16384<=e+(jg m e p:Int):=by unfold jg;omega
 refine⟨?_,?_,?_⟩
 .by_cases h0:kH m e false p true=0
  .rw [h0];simpa using yl p
  .unfold lZ at ho;simp only[dp,h0,fi,gw,gz,cH]at ho;rcases anq (RH m e false p true)with hq|hq
   .exact ⟨_,_,kV.2 hq,hk,aD,rfl⟩
   .rw [hq]at ho ⊢;rw[Q0]at ho;refine⟨1,p+(e+jg m e p),by rw[zH];exact hp,aD,by rw[zH];omega,?_⟩;rw[tO (p:Int),uN p,show((1:Nat):Rat)=1 from rfl,dY]
 .rw [sC (K:=e) (cv _) aD];rw[show(e-e).toNat=0 by omega,show(e+(jg m e p:Int)-e).toNat=jg m e p by omega,ca,cg];exact c2
 .rintro g ⟨gm,ge,b1,b2,b3,rfl⟩ h;obtain⟨K,k1,k2⟩:∃ K:Int,K<=e/\K<=ge:=⟨min e ge,aD,aD⟩
  rw[sC k1 k2]at h;rw[sC (K:=K) aD k2];exact TB hp b1 b2 k1 k2 h
end
def Dn(p:Nat)(v:Rat)(D:Dy)(E:Int):Prop:=(E=0->G p D.q/\D.q<=v)/\∀ g,G p g->g<=v->E=0/\g<=D.q
def Up(p:Nat)(v:Rat)(D:Dy)(E:Int):Prop:=(E=0->G p D.q/\v<=D.q)/\∀ g,G p g->v<=g->E=0/\D.q<=g
def Dn.of{p:Nat}{v w:Rat}{D:Dy}{E:Int}(h:Dn p v D E)(k:∀ g,G p g->(g<=v↔g<=w)):Dn p w D E:=
 ⟨λe=>⟨(h.1 e).1,(k _ (h.1 e).1).1 (h.1 e).2⟩,λg hg hw=>h.2 g hg ((k g hg).2 hw)⟩
def Up.of{p:Nat}{v w:Rat}{D:Dy}{E:Int}(h:Up p v D E)(k:∀ g,G p g->(v<=g↔w<=g)):Up p w D E:=
 ⟨λe=>⟨(h.1 e).1,(k _ (h.1 e).1).1 (h.1 e).2⟩,λg hg hw=>h.2 g hg ((k g hg).2 hw)⟩
def La(neg:Bool)(m:Nat)(e:Int){p:Nat}(hp:1<=p)(iq:p<=4096):Dn p (canon neg m e).q (kf neg m e false p false) (jV neg m e false p false):=by
 have hv:0<=(m:Rat)*P2 e:=bL eA (bH (pr _));rw[sF];cases neg
 .
  have hE:jV false m e false p false=0:=by unfold jV;simp
  rw[hE];unfold kf;simp only[bne_self_eq_false,bZ,bF];by_cases ho:lZ m e false p false=true
  .obtain ⟨t1,t2,t3⟩:=Zt hp iq ho;rw[bn ho];(first|unfold Dn|unfold Up);rw[sF];simp only[bZ,bF];refine⟨λ_=>⟨.inl t1,t2⟩,λg hg hle=>⟨trivial,?_⟩⟩;by_cases h0:0<=g
   .exact t3 g (hg.pos h0)
   .have:=t1.FK;grind
  .obtain ⟨t1,t2,t3⟩:=Zs hp ho;rw[bl ho];(first|unfold Dn|unfold Up);rw[sF];simp only[bZ,bF];refine⟨λ_=>⟨.inl t1,t2⟩,λg hg hle=>⟨trivial,?_⟩⟩;by_cases h0:0<=g
   .exact t3 g (hg.pos h0) hle
   .have:=t1.FK;grind
 .unfold kf jV;simp only[Bool.bne_false,Bool.and_true,bN];by_cases ho:lZ m e false p true=true
  .rw [bn ho,bn ho];refine⟨λh=>by simp at h,λg hg hle=>?_⟩;exact absurd (show(m:Rat)*P2 e <= -g by grind) (Rl hp ho _ (hg.neg.pos aO))
  .obtain ⟨t1,t2,t3⟩:=Rk hp ho;rw[bl ho,bl ho];(first|unfold Dn|unfold Up);rw[sF];simp only[bN];refine⟨λ_=>⟨.inr (by rw[fo];exact t1),aO⟩,λg hg hle=>⟨trivial,?_⟩⟩;have:=t3 (-g) (hg.neg.pos aO) aO 
   grind
def Lb(neg:Bool)(m:Nat)(e:Int){p:Nat}(hp:1<=p)(iq:p<=4096):Up p (canon neg m e).q (kf neg m e false p true) (jV neg m e false p true):=by
 have hv:0<=(m:Rat)*P2 e:=bL eA (bH (pr _));rw[sF];cases neg
 .unfold kf jV;simp only[Bool.bne_true,eU,Bool.and_true,bN,bZ,bF];by_cases ho:lZ m e false p true=true
  .rw [bn ho,bn ho];refine⟨λh=>by simp at h,λg hg hle=>?_⟩;exact absurd hle (Rl hp ho _ (hg.pos aO))
  .obtain ⟨t1,t2,t3⟩:=Rk hp ho;rw[bl ho,bl ho];(first|unfold Dn|unfold Up);rw[sF];simp only[bZ,bF];exact⟨λ_=>⟨.inl t1,t2⟩,λg hg hle=>⟨trivial,t3 g (hg.pos aO) hle⟩⟩
 .have hE:jV true m e false p true=0:=by unfold jV;simp
  rw[hE];unfold kf;simp only[bne_self_eq_false,bZ,bF,bN];by_cases ho:lZ m e false p false=true
  .obtain ⟨t1,t2,t3⟩:=Zt hp iq ho;rw[bn ho];(first|unfold Dn|unfold Up);rw[sF];simp only[bN];refine⟨λ_=>⟨.inr (by rw[fo];exact t1),aO⟩,λg hg hle=>⟨trivial,?_⟩⟩;by_cases h0:0 <= -g
   .have:=t3 (-g) (hg.neg.pos h0);grind
   .have:=t1.FK;grind
  .obtain ⟨t1,t2,t3⟩:=Zs hp ho;rw[bl ho];(first|unfold Dn|unfold Up);rw[sF];simp only[bN];refine⟨λ_=>⟨.inr (by rw[fo];exact t1),aO⟩,λg hg hle=>⟨trivial,?_⟩⟩;by_cases h0:0 <= -g
   .have:=t3 (-g) (hg.neg.pos h0) aO;grind
   .have:=t1.FK;grind
def JQ{d:Dy}(hd:d.lh){p:Nat}(hp:1<=p)(iq:p<=4096):Dn p d.q (jG d p false) (jZ d p false):=by
 have:=La d.neg d.m d.e hp iq;rwa[hd.Co]at this
def BW{d:Dy}(hd:d.lh){p:Nat}(hp:1<=p)(iq:p<=4096):Up p d.q (jG d p true) (jZ d p true):=by
 have:=Lb d.neg d.m d.e hp iq;rwa[hd.Co]at this
def gap{N p:Nat}{e:Int}(hb:p<iA N){g:Rat}(hg:GM p g):g<=(N:Rat)*P2 e\/((N+1:Nat):Rat)*P2 e<=g:=by
 obtain⟨gm,ge,b1,b2,b3,rfl⟩:=hg;by_cases hc:e<=ge
 .rw [sC (K:=e) hc (cv _),sC (K:=e) (cv _) hc,show(e-e).toNat=0 by omega];omega
 .left;rw[sC (K:=ge) (cv _) aD,show(ge-ge).toNat=0 by omega,ca,cg];have h1:gm<2^p:=kV.1 b1;have h2:2^p<=N:=wX.1 hb;exact bJ (dG (bT h1 h2)) (gh _ (bA aF))
def QS{N p:Nat}{e:Int}(hb:p<iA N){x y:Rat}(x1:(N:Rat)*P2 e<x)(x2:x<((N+1:Nat):Rat)*P2 e)(y1:(N:Rat)*P2 e<y)(y2:y<((N+1:Nat):Rat)*P2 e){g:Rat}(hg:G p g):
 (g<=x↔g<=y)/\(x<=g↔y<=g)/\(g <= -x↔g <= -y)/\(-x<=g ↔ -y<=g):=by
 have hv:0<=(N:Rat)*P2 e:=bL eA (bH (pr _));have hG:∀ g,G p g->g<=(N:Rat)*P2 e\/((N+1:Nat):Rat)*P2 e<=g:=by
  intro g hg;by_cases h0:0<=g
  .exact gap hb (hg.pos h0)
  .left;grind
 have h1:=hG g hg;have h2:=hG (-g) hg.neg;generalize (N:Rat)*P2 e=A at *
 generalize ((N+1:Nat):Rat)*P2 e=B at *
 refine⟨?_,?_,?_,?_⟩<;>constructor<;>intro h<;>grind
def G2{N p:Nat}(E:Int)(hb:p<iA N)(neg up:Bool):kf neg N E true p up=kf neg (2*N+1) (E-1) false p up/\jV neg N E true p up=jV neg (2*N+1) (E-1) false p up:=by
 have h1:(2*N+1)/2^1=N:= aD ;have h:=G3 (N:=2*N+1) (E:=E-1) (more:=false) (d:=1) (p:=p) neg up (by rw[h1];exact hb);have h2:decide ((2*N+1)%2^1≠0)=true:= aJ ;rw[h1,h2,(aD:E-1+((1:Nat):Int)=E)]at h;exact h
def G9{a b:Dy}(b0:b.m≠0){p:Nat}(hp:1<=p)(iq:p<=4096):Dn p (a.q/b.q) (ks a b p false) (mS a b p false)/\Up p (a.q/b.q) (ks a b p true) (mS a b p true):=by
 by_cases a0:a.m=0
 .have hq:a.q=0:=by rw[pU,a0];simp
  have h0:(0:Rat)/b.q=0:=by rw[cF,gH]
  unfold ks mS;rw[hq,h0,bn a0,bn a0,bn a0,bn a0];have hz:G p 0:=.inl (yl p);exact⟨⟨λ_=>⟨by rw[qy];exact hz,by rw[qy];exact bS⟩,λg _ h=>⟨rfl,by rw[qy];exact h⟩⟩,⟨λ_=>⟨by rw[qy];exact hz,by rw[qy];exact bS⟩,λg _ h=>⟨rfl,by rw[qy];exact h⟩⟩⟩
 .have hb:=Le a0 b0 p 2 aF ;unfold ks mS;rw[bl a0,bl a0,bl a0,bl a0];generalize hk:kv a b p 2=k at *
  generalize hs:(a.neg != b.neg)=s;generalize hE:a.e-b.e-(k:Int)=E0;have hB:(0:Rat)<(b.m:Rat):=cV.2 aD;have TP:=pr b.e;have hP:=pr E0;obtain⟨w,hw⟩:∃ w:Rat,w=(a.m:Rat)*P2 a.e/((b.m:Rat)*P2 b.e):=⟨_,rfl⟩
  have Va:w*((b.m:Rat)*P2 b.e)=(a.m:Rat)*P2 a.e:=by
   have:(b.m:Rat)*P2 b.e≠0:=by have:=cT hB TP;grind
   rw[hw];exact cL this
  have lr:a.q/b.q=if s then -w else w:=by
   have hbq:b.q≠0:=by
    have:=cT hB TP;rw[pU b];cases b.neg<;>simp<;>grind
   have hq:(if s then -w else w)*b.q=a.q:=by
    rw[pU a,pU b,<-hs,<-Va];cases a.neg<;>cases b.neg<;>simp<;>grind
   rw[<-hq,fQ hbq]
  have Mx:=cB (a.m*2^k) b.m;have hr:=bC (a.m*2^k) (aD:0<b.m);generalize hN:a.m*2^k/b.m=N at *
  generalize hR:a.m*2^k%b.m=R at *
  have ae6:(b.m:Rat)*(N:Rat)+(R:Rat)=(a.m:Rat)*((2^k:Nat):Rat):=by rw[<-cX,<-cX,<-fR,Mx]
  have hae:P2 a.e=((2^k:Nat):Rat)*P2 b.e*P2 E0:=by rw[<-uN,<-tO,<-tO];congr 1;omega
  have IN:w*(b.m:Rat)=((b.m:Rat)*(N:Rat)+(R:Rat))*P2 E0:=by
   have:w*(b.m:Rat)*P2 b.e=((b.m:Rat)*(N:Rat)+(R:Rat))*P2 E0*P2 b.e:=by
    rw[ae6,dW,Va,hae];grind
   have kq:P2 b.e≠0:= aO ;have h2:=congrArg (· / P2 b.e) this;simp only[fQ kq]at h2;exact h2
  by_cases h0:R=0
  .have EX:w=(N:Rat)*P2 E0:=by
    rw[h0]at IN;have kq:(b.m:Rat)≠0:= aO ;have h2:w*(b.m:Rat)=((N:Rat)*P2 E0)*(b.m:Rat):=by rw[IN];simp;grind
    have h3:=congrArg (· / (b.m:Rat)) h2;simp only[fQ kq]at h3;exact h3
   have hc:a.q/b.q=(canon s N E0).q:=by rw[lr,sF,EX]
   rw[hc,bt (by simpa using h0)];exact⟨La _ _ _ hp iq,Lb _ _ _ hp iq⟩
  .have sW:(0:Rat)<(R:Rat):=cV.2 aD ;have hRb:(R:Rat)<(b.m:Rat):=Rat.natCast_lt_natCast.2 hr;have w1:(N:Rat)*P2 E0<w:=by
    apply ant (c:=(b.m:Rat)) _ (bH hB);rw[IN];have:=cT sW hP
    grind
   have w2:w<((N+1:Nat):Rat)*P2 E0:=by
    apply ant (c:=(b.m:Rat)) _ (bH hB);rw[IN,fR];have:=cT (show(0:Rat)<(b.m:Rat)-(R:Rat)by grind) hP;simp
    grind
   have hh:P2 E0=2*P2 (E0-1):=by
    rw[DL (aD:E0-1<=E0),show(E0-(E0-1)).toNat=1 by omega];simp
   have v1:(N:Rat)*P2 E0<((2*N+1:Nat):Rat)*P2 (E0-1):=by
    have:=pr (E0-1);rw[hh,fR,cX];simp;grind
   have v2:((2*N+1:Nat):Rat)*P2 (E0-1)<((N+1:Nat):Rat)*P2 E0:=by
    have:=pr (E0-1);rw[hh,fR,cX,fR];simp;grind
   rw[bq (by simpa using h0),(G2 E0 hb s false).1,(G2 E0 hb s false).2,(G2 E0 hb s true).1,(G2 E0 hb s true).2,lr];have A:=La s (2*N+1) (E0-1) hp iq;have B:=Lb s (2*N+1) (E0-1) hp iq;rw[sF]at A B;refine⟨A.of λg hg=>?_,B.of λg hg=>?_⟩
   .obtain ⟨k1,k2,k3,k4⟩:=QS hb v1 v2 w1 w2 hg;cases s
    .exact k1
    .exact k3
   .obtain ⟨k1,k2,k3,k4⟩:=QS hb v1 v2 w1 w2 hg;cases s
    .exact k2
    .exact k4
def Iv.jB(x:Iv)(r:Rat):Prop:=x.all=true\/(x.lo.q<=r/\r<=x.hi.q)
def Sub(x y:Iv):Prop:=y.all=true\/(x.all=false/\y.lo.q<=x.lo.q/\x.hi.q<=y.hi.q)
def Sub.refl(x:Iv):Sub x x:=by
 cases h:x.all
 .exact .inr ⟨h,bS,bS⟩
 .exact .inl h
def Sub.jB{x y:Iv}(h:Sub x y){r:Rat}(k:x.jB r):y.jB r:=by
 rcases h with h|⟨h1,h2,h3⟩
 .exact .inl h
 .rcases k with k|⟨k1,k2⟩
  .rw [h1]at k;cases k
  .exact .inr ⟨aO,aO⟩
def Sub.xQ{x y:Iv}(h:Sub x y)(k:y.all=false):x.all=false/\y.lo.q<=x.lo.q/\x.hi.q<=y.hi.q:=by
 rcases h with h|h
 .rw [h]at k;cases k
 .exact h
def Iv.iu.q{x:Iv}(h:x.iu):x.lo.q<=x.hi.q:=by
 rcases h with⟨_,h2,h3⟩|⟨_,_,_,h⟩
 .rw [h2,h3];exact bS
 .exact (qx _ _).1 h
def Iv.iu.xv{x:Iv}(h:x.iu):x.lo.lh/\x.hi.lh:=by
 rcases h with⟨_,h2,h3⟩|⟨_,h2,h3,_⟩
 .rw [h2,h3];exact⟨qn.canon,qn.canon⟩
 .exact ⟨h2.canon,h3.canon⟩
def Iv.iu.wG{x:Iv}(h:x.iu):x.jB x.lo.q:=.inr ⟨bS,h.q⟩
def Iv.iu.vo{x:Iv}(h:x.iu):x.jB x.hi.q:=.inr ⟨h.q,bS⟩
structure AR(p:Nat)(S:Rat->Prop)(X:Iv):Prop where
 jB:∀ r,S r->X.jB r
 on:X.all=false->G p X.lo.q/\G p X.hi.q
 wW:∀ L U,G p L->G p U->(∀ r,S r->L<=r/\r<=U)->X.all=false/\L<=X.lo.q/\X.hi.q<=U
def AR.sub{p:Nat}{S T:Rat->Prop}{X Y:Iv}(h:AR p S X)(k:AR p T Y)(hs:∀ r,S r->T r):Sub X Y:=by
 cases hy:Y.all
 .right;obtain⟨k1,k2⟩:=k.on hy;refine h.wW _ _ k1 k2 λr hr=>?_
  rcases k.jB r (hs r hr)with h1|h1
  .rw [hy]at h1;cases h1
  .exact h1
 .exact .inl hy
def DQ{x y:Iv}(hx:x.iu)(hy:y.iu)(xa:x.all=false)(ya:y.all=false){p:Nat}(hp:1<=p)(iq:p<=4096):
 AR p (λr=>∃ a b,x.jB a/\y.jB b/\r=a+b) (jL x y p):=by
 have A:=JQ (wq hx.xv.1 hy.xv.1) hp iq;have B:=BW (wq hx.xv.2 hy.xv.2) hp iq;rw[FV]at A B;unfold jL mU;rw[xa,ya];simp only[amQ,bZ,bF];have jB:∀ r,(∃ a b,x.jB a/\y.jB b/\r=a+b)->x.lo.q+y.lo.q<=r/\r<=x.hi.q+y.hi.q:=by
  rintro r ⟨a,b,ha,hb,rfl⟩;rcases ha with ha|ha
  .rw [xa]at ha;cases ha
  .rcases hb with hb|hb
   .rw [ya]at hb;cases hb
   .grind
 have wW:∀ L U,G p L->G p U->(∀ r,(∃ a b,x.jB a/\y.jB b/\r=a+b)->L<=r/\r<=U) ->
  (jZ (iJ x.lo y.lo) p false=0/\L<=(jG (iJ x.lo y.lo) p false).q)/\jZ (iJ x.hi y.hi) p true=0/\(jG (iJ x.hi y.hi) p true).q<=U:=λL U hL hU h=>
  ⟨A.2 L hL (h _ ⟨_,_,hx.wG,hy.wG,rfl⟩).1,B.2 U hU (h _ ⟨_,_,hx.vo,hy.vo,rfl⟩).2⟩
 split
 .rename_i he;refine⟨λ_ _=>.inl rfl,λh=>absurd h aF,λL U hL hU h=>?_⟩;obtain⟨⟨e1,_⟩,e2,_⟩:=wW L U hL hU h;rcases he with he|he
  .exact absurd e1 he
  .exact absurd e2 he
 .rename_i he;obtain⟨a1,a2⟩:=A.1 aD;obtain⟨b1,b2⟩:=B.1 aD;refine⟨λr hr=>.inr ?_,λ_=>⟨a1,b1⟩,λL U hL hU h=>?_⟩
  .obtain ⟨h1,h2⟩:=jB r hr;exact⟨bX a2 h1,bX h2 b2⟩
  .obtain ⟨⟨_,e1⟩,_,e2⟩:=wW L U hL hU h;exact⟨rfl,e1,e2⟩
def DR{x y:Iv}(p:Nat)(h:x.all=true\/y.all=true):jL x y p=il:=by
 unfold jL;rw[bn (by rcases h with h|h<;>rw[h]<;>simp)]
def zF{x y:Iv}(hx:x.iu)(hy:y.iu){p:Nat}(hp:1<=p)(iq:p<=4096){a b:Rat}(ha:x.jB a)(hb:y.jB b):(jL x y p).jB (a+b):=by
 cases xa:x.all
 .cases ya:y.all
  .exact (DQ hx hy xa ya hp iq).jB _ ⟨a,b,ha,hb,rfl⟩
  .rw [DR p (.inr ya)];exact .inl rfl
 .rw [DR p (.inl xa)];exact .inl rfl
def Z1{x y x' y':Iv}(hx:x.iu)(hy:y.iu)(sA:x'.iu)(q7:y'.iu){p:Nat}(hp:1<=p)(iq:p<=4096)(h:Sub x x')(k:Sub y y'):Sub (jL x y p) (jL x' y' p):=by
 cases xa:x'.all
 .cases ya:y'.all
  .exact (DQ hx hy (h.xQ xa).1 (k.xQ ya).1 hp iq).sub (DQ sA q7 xa ya hp iq) λr ⟨a,b,ha,hb,e⟩=>⟨a,b,h.jB ha,k.jB hb,e⟩
  .rw [DR p (.inr ya)];exact .inl rfl
 .rw [DR p (.inl xa)];exact .inl rfl
def Je{x:Iv}{a:Rat}(ha:x.jB a):(nL x).jB (-a):=by
 unfold nL;rcases ha with ha|⟨h1,h2⟩
 .rw [bn ha];exact .inl rfl
 .split
  .exact .inl rfl
  .refine .inr ⟨?_,?_⟩
   .show (jf x.hi).q<=_;rw[pk];grind
   .show _<=(jf x.lo).q;rw[pk];grind
def YZ{x y:Iv}(hx:x.iu)(hy:y.iu){p:Nat}(hp:1<=p)(iq:p<=4096){a b:Rat}(ha:x.jB a)(hb:y.jB b):(lk x y p).jB (a-b):=by
 rw[Rat.sub_eq_add_neg];exact zF hx (sE hy) hp iq ha (Je hb)
def Tg{p:Nat}{D:Dy->Dy->Bool->Dy}{E:Dy->Dy->Bool->Int}{f:Rat->Rat->Rat}{x y:Iv}{S:Rat->Prop}
 (hD:∀ a b,(a=x.lo\/a=x.hi)->(b=y.lo\/b=y.hi)->Dn p (f a.q b.q) (D a b false) (E a b false)/\Up p (f a.q b.q) (D a b true) (E a b true)/\S (f a.q b.q))
 (hS:∀ r,S r->(f x.lo.q y.lo.q<=r\/f x.lo.q y.hi.q<=r\/f x.hi.q y.lo.q<=r\/f x.hi.q y.hi.q<=r)/\(r<=f x.lo.q y.lo.q\/r<=f x.lo.q y.hi.q\/r<=f x.hi.q y.lo.q\/r<=f x.hi.q y.hi.q)):
 AR p S (me D E x y):=by
 obtain⟨a1,a2,a3⟩:=hD x.lo y.lo (.inl rfl) (.inl rfl);obtain⟨b1,b2,b3⟩:=hD x.lo y.hi (.inl rfl) (.inr rfl);obtain⟨c1,c2,c3⟩:=hD x.hi y.lo (.inr rfl) (.inl rfl);obtain⟨d1,d2,d3⟩:=hD x.hi y.hi (.inr rfl) (.inr rfl);have wW:∀ L U,G p L->G p U->(∀ r,S r->L<=r/\r<=U) ->
  ((E x.lo y.lo false=0/\L<=(D x.lo y.lo false).q)/\E x.lo y.lo true=0/\(D x.lo y.lo true).q<=U)/\((E x.lo y.hi false=0/\L<=(D x.lo y.hi false).q)/\E x.lo y.hi true=0/\(D x.lo y.hi true).q<=U) /\
  ((E x.hi y.lo false=0/\L<=(D x.hi y.lo false).q)/\E x.hi y.lo true=0/\(D x.hi y.lo true).q<=U)/\((E x.hi y.hi false=0/\L<=(D x.hi y.hi false).q)/\E x.hi y.hi true=0/\(D x.hi y.hi true).q<=U):=λL U hL hU h=>
  ⟨⟨a1.2 L hL (h _ a3).1,a2.2 U hU (h _ a3).2⟩,⟨b1.2 L hL (h _ b3).1,b2.2 U hU (h _ b3).2⟩,⟨c1.2 L hL (h _ c3).1,c2.2 U hU (h _ c3).2⟩,⟨d1.2 L hL (h _ d3).1,d2.2 U hU (h _ d3).2⟩⟩
 unfold me;split
 .rename_i he;obtain⟨⟨e1,e2⟩,⟨e3,e4⟩,⟨e5,e6⟩,⟨e7,e8⟩⟩:=he;obtain⟨ga,la⟩:=a1.1 e1;obtain⟨gA,lA⟩:=a2.1 e2;obtain⟨gb,lb⟩:=b1.1 e3;obtain⟨gB,lB⟩:=b2.1 e4;obtain⟨gc,lc⟩:=c1.1 e5;obtain⟨gC,lC⟩:=c2.1 e6;obtain⟨gd,ld⟩:=d1.1 e7;obtain⟨gD,lD⟩:=d2.1 e8;obtain⟨m1,m2,m3⟩:=BP (D x.lo y.lo false) (D x.lo y.hi false);obtain⟨m4,m5,m6⟩:=BP (ji (D x.lo y.lo false) (D x.lo y.hi false)) (D x.hi y.lo false);obtain⟨m7,m8,m9⟩:=BP (ji (ji (D x.lo y.lo false) (D x.lo y.hi false)) (D x.hi y.lo false)) (D x.hi y.hi false);obtain⟨n1,n2,n3⟩:=zg (D x.lo y.lo true) (D x.lo y.hi true);obtain⟨n4,n5,n6⟩:=zg (je (D x.lo y.lo true) (D x.lo y.hi true)) (D x.hi y.lo true);obtain⟨n7,n8,n9⟩:=zg (je (je (D x.lo y.lo true) (D x.lo y.hi true)) (D x.hi y.lo true)) (D x.hi y.hi true);generalize (ji (D x.lo y.lo false) (D x.lo y.hi false))=u1 at *
  generalize (ji u1 (D x.hi y.lo false))=u2 at *
  generalize (ji u2 (D x.hi y.hi false))=u3 at *
  generalize (je (D x.lo y.lo true) (D x.lo y.hi true))=v1 at *
  generalize (je v1 (D x.hi y.lo true))=v2 at *
  generalize (je v2 (D x.hi y.hi true))=v3 at *
  refine⟨λr hr=>.inr ?_,λ_=>⟨?_,?_⟩,λL U hL hU h=>⟨rfl,?_,?_⟩⟩
  .obtain ⟨h1,h2⟩:=hS r hr;constructor
   .show u3.q<=r;rcases h1 with h1|h1|h1|h1<;>grind
   .show r<=v3.q;rcases h2 with h1|h1|h1|h1<;>grind
  .show G p u3.q;rcases m9 with h|h
   .rw [h];rcases m6 with h|h
    .rw [h];rcases m3 with h|h<;>rw[h]<;>assumption
    .rw [h];assumption
   .rw [h];assumption
  .show G p v3.q;rcases n9 with h|h
   .rw [h];rcases n6 with h|h
    .rw [h];rcases n3 with h|h<;>rw[h]<;>assumption
    .rw [h];assumption
   .rw [h];assumption
  .obtain ⟨⟨⟨_,k1⟩,_,k2⟩,⟨⟨_,k3⟩,_,k4⟩,⟨⟨_,k5⟩,_,k6⟩,⟨⟨_,k7⟩,_,k8⟩⟩:=wW L U hL hU h;show L<=u3.q;rcases m9 with h|h
   .rw [h];rcases m6 with h|h
    .rw [h];rcases m3 with h|h<;>rw[h]<;>assumption
    .rw [h];assumption
   .rw [h];assumption
  .obtain ⟨⟨⟨_,k1⟩,_,k2⟩,⟨⟨_,k3⟩,_,k4⟩,⟨⟨_,k5⟩,_,k6⟩,⟨⟨_,k7⟩,_,k8⟩⟩:=wW L U hL hU h;show v3.q<=U;rcases n9 with h|h
   .rw [h];rcases n6 with h|h
    .rw [h];rcases n3 with h|h<;>rw[h]<;>assumption
    .rw [h];assumption
   .rw [h];assumption
 .rename_i he;refine⟨λ_ _=>.inl rfl,λh=>absurd h aF,λL U hL hU h=>?_⟩;obtain⟨⟨⟨k1,_⟩,k2,_⟩,⟨⟨k3,_⟩,k4,_⟩,⟨⟨k5,_⟩,k6,_⟩,⟨⟨k7,_⟩,k8,_⟩⟩:=wW L U hL hU h;exact absurd ⟨⟨k1,k2⟩,⟨k3,k4⟩,⟨k5,k6⟩,k7,k8⟩ he
def RB{a b c d x y:Rat}(h1:a<=x)(h2:x<=b)(h3:c<=y)(h4:y<=d):
 (a*c<=x*y\/a*d<=x*y\/b*c<=x*y\/b*d<=x*y)/\(x*y<=a*c\/x*y<=a*d\/x*y<=b*c\/x*y<=b*d):=by
 have mono:∀ {u v w:Rat},u<=v->0<=w->u*w<=v*w:=λh k=>cI h k
 have anti:∀ {u v w:Rat},u<=v->w<=0->v*w<=u*w:=by
  intro u v w h k;have:=mono h (show 0 <= -w by grind)
  grind
 have side:∀ t:Rat,(t*c<=t*y\/t*d<=t*y)/\(t*y<=t*c\/t*y<=t*d):=by
  intro t;rw[fp t c,fp t d,fp t y];rcases Rat.le_total (a:=0) (b:=t)with h|h
  .exact ⟨.inl (mono h3 h),.inr (mono h4 h)⟩
  .exact ⟨.inr (anti h4 h),.inl (anti h3 h)⟩
 have sa:=side a;have sb:=side b;rcases Rat.le_total (a:=0) (b:=y)with h|h
 .have m1:=mono h1 h;have m2:=mono h2 h;clear mono anti side;constructor
  .rcases sa.1 with k|k<;>grind
  .rcases sb.2 with k|k<;>grind
 .have m1:=anti h1 h;have m2:=anti h2 h;clear mono anti side;constructor
  .rcases sb.1 with k|k<;>grind
  .rcases sa.2 with k|k<;>grind
def Iv.jB.kn{x:Iv}{r:Rat}(h:x.jB r)(k:x.all=false):x.lo.q<=r/\r<=x.hi.q:=by
 rcases h with h|h
 .rw [k]at h;cases h
 .exact h
def GR(a b:Dy):(lM a b).lh:=qF _ _ _
def Fz{x y:Iv}(hx:x.iu)(hy:y.iu)(xa:x.all=false)(ya:y.all=false){p:Nat}(hp:1<=p)(iq:p<=4096):
 AR p (λr=>∃ a b,x.jB a/\y.jB b/\r=a*b) (iI x y p):=by
 unfold iI;rw[xa,ya];simp only[amQ,bZ,bF];refine Tg (f:=λa b=>a*b) (λa b ha hb=>⟨?_,?_,a.q,b.q,?_,?_,rfl⟩) (λr ⟨a,b,ha,hb,e⟩=>?_)
 .have:=JQ (GR a b) hp iq;rwa[JB]at this
 .have:=BW (GR a b) hp iq;rwa[JB]at this
 .rcases ha with rfl|rfl;exact hx.wG;exact hx.vo
 .rcases hb with rfl|rfl;exact hy.wG;exact hy.vo
 .obtain ⟨h1,h2⟩:=ha.kn xa;obtain⟨h3,h4⟩:=hb.kn ya;rw[e];exact RB h1 h2 h3 h4
def y4{x y:Iv}(p:Nat)(h:x.all=true\/y.all=true):iI x y p=il:=by
 unfold iI;rw[bn (by rcases h with h|h<;>rw[h]<;>simp)]
def sZ{x y:Iv}(hx:x.iu)(hy:y.iu){p:Nat}(hp:1<=p)(iq:p<=4096){a b:Rat}(ha:x.jB a)(hb:y.jB b):(iI x y p).jB (a*b):=by
 cases xa:x.all
 .cases ya:y.all
  .exact (Fz hx hy xa ya hp iq).jB _ ⟨a,b,ha,hb,rfl⟩
  .rw [y4 p (.inr ya)];exact .inl rfl
 .rw [y4 p (.inl xa)];exact .inl rfl
def NJ{x y x' y':Iv}(hx:x.iu)(hy:y.iu)(sA:x'.iu)(q7:y'.iu){p:Nat}(hp:1<=p)(iq:p<=4096)(h:Sub x x')(k:Sub y y'):Sub (iI x y p) (iI x' y' p):=by
 cases xa:x'.all
 .cases ya:y'.all
  .exact (Fz hx hy (h.xQ xa).1 (k.xQ ya).1 hp iq).sub (Fz sA q7 xa ya hp iq) λr ⟨a,b,ha,hb,e⟩=>⟨a,b,h.jB ha,k.jB hb,e⟩
  .rw [y4 p (.inr ya)];exact .inl rfl
 .rw [y4 p (.inl xa)];exact .inl rfl
def E8{b c:Rat}(h0:0<c)(h:c<=b):b⁻¹<=c⁻¹:=by
 have hb:0<b:= aO ;apply cW (c:=b*c) _ (cT hb h0);have e1:b⁻¹*(b*c)=c:=by rw[<-dW,amT _ aO,dY]
 have e2:c⁻¹*(b*c)=b:=by rw[fp b c,<-dW,amT _ aO,dY]
 rw[e1,e2];exact h
def WM(b:Rat):(-b)⁻¹ = -b⁻¹:=by
 by_cases h:b=0
 .rw [h];simp
 .have h1:(-b)⁻¹*(-b)=1:=amT _ aO ;have h2:b⁻¹*b=1:=amT _ h;have h3:(-b)⁻¹*(-b)*b⁻¹=b⁻¹:=by rw[h1,dY]
  grind
def Vz{b c:Rat}(h0:b<0)(h:c<=b):b⁻¹<=c⁻¹:=by
 have:=E8 (b:=-c) (c:=-b) aO aO;rw[WM,WM]at this
 grind
def F9{y:Iv}(_hy:y.iu)(h:mh y≠0):y.all=false/\(0<y.lo.q\/y.hi.q<0):=by
 unfold mh at h;cases ya:y.all
 .rw [ya]at h;simp only[bZ,bF]at h;refine⟨rfl,?_⟩;split at h
  .rename_i h1;exact .inl ((ri _).1.1 h1)
  .split at h
   .rename_i h1;exact .inr ((ri _).2.1 h1)
   .exact absurd rfl h
 .rw [ya]at h;simp at h
def Pm{y:Iv}(ya:y.all=false)(h:0<y.lo.q\/y.hi.q<0):mh y≠0:=by
 unfold mh;rw[ya];simp only[bZ,bF];rcases h with h|h
 .rw [bn ((ri _).1.2 h)];decide
 .split
  .decide
  .rw [bn ((ri _).2.2 h)];decide
def agG{d:Dy}(h:d.q≠0):d.m≠0:=by
 intro h0;apply h;rw[pU,h0];simp
def D8{x y:Iv}(hx:x.iu)(hy:y.iu)(xa:x.all=false)(hs:mh y≠0){p:Nat}(hp:1<=p)(iq:p<=4096):
 AR p (λr=>∃ a b,x.jB a/\y.jB b/\r=a/b) (jj x y p):=by
 obtain⟨ya,h0⟩:=F9 hy hs;have hle:=hy.q;unfold jj;rw[xa,ya,bt hs];simp only[amQ,bZ,bF];refine Tg (f:=λa b=>a/b) (λa b ha hb=>?_) (λr ⟨a,b,ha,hb,e⟩=>?_)
 .have b0:b.m≠0:=agG (by rcases hb with rfl|rfl<;>grind);obtain⟨h1,h2⟩:=G9 (a:=a) b0 hp iq;refine⟨h1,h2,a.q,b.q,?_,?_,rfl⟩
  .rcases ha with rfl|rfl;exact hx.wG;exact hx.vo
  .rcases hb with rfl|rfl;exact hy.wG;exact hy.vo
 .obtain ⟨h1,h2⟩:=ha.kn xa;obtain⟨h3,h4⟩:=hb.kn ya;have i1:y.hi.q⁻¹<=b⁻¹:=by
   rcases h0 with h0|h0
   .exact E8 aO h4
   .exact Vz aO h4
  have i2:b⁻¹<=y.lo.q⁻¹:=by
   rcases h0 with h0|h0
   .exact E8 h0 h3
   .exact Vz aO h3
  obtain⟨k1,k2⟩:=RB h1 h2 i1 i2;rw[e];simp only[cF];exact⟨aO,aO⟩
def zN{x y:Iv}(p:Nat)(h:x.all=true\/mh y=0):jj x y p=il:=by
 unfold jj;rw[bn (by rcases h with h|h<;>rw[h]<;>simp)]
def Ct{x y:Iv}(hx:x.iu)(hy:y.iu){p:Nat}(hp:1<=p)(iq:p<=4096){a b:Rat}(ha:x.jB a)(hb:y.jB b):(jj x y p).jB (a/b):=by
 cases xa:x.all
 .by_cases hs:mh y=0
  .rw [zN p (.inr hs)];exact .inl rfl
  .exact (D8 hx hy xa hs hp iq).jB _ ⟨a,b,ha,hb,rfl⟩
 .rw [zN p (.inl xa)];exact .inl rfl
def ace{x y x' y':Iv}(hx:x.iu)(hy:y.iu)(sA:x'.iu)(q7:y'.iu){p:Nat}(hp:1<=p)(iq:p<=4096)(h:Sub x x')(k:Sub y y'):Sub (jj x y p) (jj x' y' p):=by
 cases xa:x'.all
 .by_cases hs:mh y'=0
  .rw [zN p (.inr hs)];exact .inl rfl
  .obtain ⟨ya,h0⟩:=F9 q7 hs;obtain⟨y1,y2,y3⟩:=k.xQ ya;have qL:mh y≠0:=Pm y1 aO;exact(D8 hx hy (h.xQ xa).1 qL hp iq).sub (D8 sA q7 xa hs hp iq) λr ⟨a,b,ha,hb,e⟩=>⟨a,b,h.jB ha,k.jB hb,e⟩
 .rw [zN p (.inl xa)];exact .inl rfl
def C4{x:Iv}(h:x.lo.q<=x.hi.q):x.hi.q<=(kO x).q /\ -x.lo.q<=(kO x).q/\((kO x).q=x.hi.q\/(kO x).q = -x.lo.q):=by
 obtain⟨a1,a2,a3,a4⟩:=Dh x.lo;obtain⟨b1,b2,b3,b4⟩:=Dh x.hi;obtain⟨c1,c2,c3⟩:=zg (lR x.lo) (lR x.hi);unfold kO;generalize (je (lR x.lo) (lR x.hi)).q=M at *
 refine⟨aO,aO,?_⟩;rcases c3 with c3|c3
 .rcases a4 with a4|a4
  .grind
  .grind
 .rcases b4 with b4|b4
  .grind
  .grind
def NC{x x':Iv}(hx:x.iu)(sA:x'.iu)(h:Sub x x')(xa:x'.all=false):(kO x).q<=(kO x').q:=by
 obtain⟨h1,h2,h3⟩:=h.xQ xa;obtain⟨a1,a2,a3⟩:=C4 hx.q;obtain⟨b1,b2,b3⟩:=C4 sA.q
 grind
def NH{x:Iv}(hx:x.iu)(xa:x.all=false):0<=(ot x).q/\(x.lo.q<=0->0<=x.hi.q->(ot x).q=0)/\(0<x.lo.q->(ot x).q=x.lo.q)/\(x.hi.q<0->(ot x).q = -x.hi.q):=by
 have hle:=hx.q;obtain⟨a1,a2,a3,a4⟩:=Dh x.lo;obtain⟨b1,b2,b3,b4⟩:=Dh x.hi;obtain⟨c1,c2,c3⟩:=BP (lR x.lo) (lR x.hi);by_cases hs:mh x=0
 .have hn:¬(0<x.lo.q\/x.hi.q<0):=λh=>Pm xa h hs
  have:ot x=iQ:=by unfold ot;rw[bn hs]
  rw[this,qy];refine⟨bS,λ_ _=>rfl,λh=>absurd (.inl h) hn,λh=>absurd (.inr h) hn⟩
 .obtain ⟨_,h0⟩:=F9 hx hs;have:ot x=ji (lR x.lo) (lR x.hi):=by unfold ot;rw[bl hs]
  rw[this];generalize (ji (lR x.lo) (lR x.hi)).q=M at *
  generalize (lR x.lo).q=u at *
  generalize (lR x.hi).q=v at *
  refine⟨aO,aO,aO,aO⟩
def amt{x x':Iv}(hx:x.iu)(sA:x'.iu)(h:Sub x x'):Sub (jD x) (jD x'):=by
 cases xa:x'.all
 .obtain ⟨h1,h2,h3⟩:=h.xQ xa;unfold jD;rw[h1,xa];refine .inr ⟨rfl,?_,NC hx sA h xa⟩;show(ot x').q<=(ot x).q;obtain⟨a1,a2,a3,a4⟩:=NH hx h1;obtain⟨b1,b2,b3,b4⟩:=NH sA xa;have:=hx.q;by_cases c1:0<x'.lo.q
  .rw [b3 c1,a3 aO];exact h2
  .by_cases c2:x'.hi.q<0
   .rw [b4 c2,a4 aO];grind
   .rw [b2 aO aO];exact a1
 .refine .inl ?_;unfold jD;rw[bn xa];rfl
def KD{x:Iv}(hx:x.iu){r s:Rat}(h:x.jB r)(hs:s=r/\0<=r\/s = -r/\r<=0):(jD x).jB s:=by
 unfold jD;cases xa:x.all
 .obtain ⟨h1,h2⟩:=h.kn xa;obtain⟨a1,a2,a3⟩:=C4 hx.q;obtain⟨b1,b2,b3,b4⟩:=NH hx xa;refine .inr ⟨?_,?_⟩
  .show (ot x).q<=s;by_cases c1:0<x.lo.q
   .rw [b3 c1];grind
   .by_cases c2:x.hi.q<0
    .rw [b4 c2];grind
    .rw [b2 aO aO];grind
  .show s<=(kO x).q
   grind
 .exact .inl rfl
def Dg(d:Dy):(iV d).jB d.q:=.inr ⟨bS,bS⟩
def tI(n:Int):(iN n).jB (n:Rat):=by have:=Dg (jY n);rwa[yc]at this
def TA{T p:Nat}{E:Int}(hT:iA T=p)(hp:1<=p){g:Rat}(hg:GM p g):g<=(T:Rat)*P2 E\/((T+1:Nat):Rat)*P2 E<=g:=by
 obtain⟨gm,ge,b1,b2,b3,rfl⟩:=hg;by_cases hc:E<=ge
 .rw [sC (K:=E) hc (cv _),sC (K:=E) (cv _) hc,show(E-E).toNat=0 by omega];omega
 .left;rw[sC (K:=ge) (cv _) aD,show(ge-ge).toNat=0 by omega,ca,cg];have h1:gm<2^p:=kV.1 b1;have h2:2^(p-1)<=T:=wX.1 aD;have h3:2^1<=2^(E-ge).toNat:=bI aF aD;have h4:=dA h2 h3;rw[<-bw,(aD:p-1+1=p)]at h4;omega
def ahC{T p:Nat}{E:Int}(hT:iA T=p)(hp:1<=p)(h1:-16384<=E)(h2:(p:Int)+E<=16384){v:Rat}(Bz:(T:Rat)*P2 E<=v)(se:v<((T+1:Nat):Rat)*P2 E):Dn p v (canon false T E) 0:=by
 have e:(canon false T E).q=(T:Rat)*P2 E:=by rw[sF];simp
 have h0:0<=(T:Rat)*P2 E:=bL eA (bH (pr E));refine⟨λ_=>⟨by rw[e];exact .inl ⟨T,E,aD,h1,aD,rfl⟩,by rw[e];exact Bz⟩,λg hg MH=>⟨rfl,?_⟩⟩;rw[e];by_cases Ez:0<=g
 .rcases TA (E:=E) hT hp (hg.pos Ez)with k|k
  .exact k
  .exfalso;grind
 .grind
def ahE{T p:Nat}{E:Int}(hT:iA T=p)(hp:1<=p)(h1:-16384<=E)(h2:(p:Int)+E+1<=16384){v:Rat}(Bz:(T:Rat)*P2 E<v)(se:v<=((T+1:Nat):Rat)*P2 E):Up p v (canon false (T+1) E) 0:=by
 have e:(canon false (T+1) E).q=((T+1:Nat):Rat)*P2 E:=by rw[sF];simp
 have h0:0<=(T:Rat)*P2 E:=bL eA (bH (pr E));refine⟨λ_=>⟨?_,by rw[e];exact se⟩,λg hg MH=>⟨rfl,?_⟩⟩
 .rw [e];have iO:T<2^p:=kV.1 aD;by_cases hb:T+1<2^p
  .exact .inl ⟨T+1,E,kV.2 hb,h1,by have:=kV.2 hb;omega,rfl⟩
  .refine .inl ⟨1,(p:Int)+E,by rw[zH];exact hp,aD,by rw[zH];omega,?_⟩;rw[(aD:T+1=2^p),tO,uN,show((1:Nat):Rat)=1 from rfl,dY]
 .rw [e];have Ez:0<=g:= aO ;rcases TA (E:=E) hT hp (hg.pos Ez)with k|k
  .exfalso;grind
  .exact k
def ads{T p:Nat}{E:Int}(hT:iA T=p)(h1:-16384<=E)(h2:(p:Int)+E<=16384){v:Rat}(hv:v=(T:Rat)*P2 E):Up p v (canon false T E) 0:=by
 have e:(canon false T E).q=(T:Rat)*P2 E:=by rw[sF];simp
 exact⟨λ_=>⟨by rw[e];exact .inl ⟨T,E,aD,h1,aD,rfl⟩,by rw[e,hv];exact bS⟩,λg _ hg=>⟨rfl,by rw[e,<-hv];exact hg⟩⟩
def acp{p:Nat}{v:Rat}{D D':Dy}{E':Int}(h:Dn p v D 0)(k:Dn p v D' E')(hc:D.lh)(Ev:D'.lh):E'=0/\D'=D:=by
 obtain⟨g,hl⟩:=h.1 rfl;obtain⟨he,hle⟩:=k.2 _ g hl;obtain⟨g',pz⟩:=k.1 he;obtain⟨_,CJ⟩:=h.2 _ g' pz;exact⟨he,OB Ev hc (fc CJ hle)⟩
def al3{p:Nat}{v:Rat}{D D':Dy}{E':Int}(h:Up p v D 0)(k:Up p v D' E')(hc:D.lh)(Ev:D'.lh):E'=0/\D'=D:=by
 obtain⟨g,hl⟩:=h.1 rfl;obtain⟨he,hle⟩:=k.2 _ g hl;obtain⟨g',pz⟩:=k.1 he;obtain⟨_,CJ⟩:=h.2 _ g' pz;exact⟨he,OB Ev hc (fc hle CJ)⟩
end Go.Proofs.YtbhhompalmdaiaaGreatDoor.Fp
namespace Go.Proofs.YtbhhompalmdaiaaGreatDoor
open Go.RowKit Fp Pu
abbrev jF(xs:List Iv):Nat->Nat->E:=λi j=>(iZ (xs.getD i il)).getD j .any
abbrev rF(M:List (List Iv)):Nat->Nat->E:=λi _=>iz (M.getD i [])
abbrev jU(M:List (List Iv)):Nat->Nat:=λq=>(M.getD q []).length
abbrev kQ(M:List (List Iv)):Nat->Nat->Nat->E:=λq i j=>(iZ ((M.getD q []).getD i il)).getD j .any
def C0(x:Iv)(j:Nat)(hj:j<7):((iZ x).getD j .any).nr 2=true:=by
 rcases j with _|_|_|_|_|_|_|j
 all_goals first|rfl|omega
def af3(xs:List Iv):(iz xs).nr 2=true:=rfl
def Nn{T n:Nat}{xs:List Iv}{y:Iv}(hn:n=xs.length):
 Bx.le (.row true T (n+[y].length) 7 λi j=>if i<n then jF xs i j else(E.jH (iz [y])) (i-n) j) (.row true T (xs++[y]).length 7 (jF (xs++[y]))):=by
 subst hn;refine .row aJ λi j hi hj=>⟨.jb ?_,C0 _ _ hj⟩
 by_cases h:i<xs.length
 .rw [bn h];show(iZ (xs.getD i il)).getD j .any=(iZ ((xs++[y]).getD i il)).getD j .any;congr 2;simp[bu,eW h]
 .have ml:i=xs.length:=by simp at hi;omega
  subst ml;rw[bl h,di];show(iZ y).getD j .any=(iZ ((xs++[y]).getD xs.length il)).getD j .any;congr 2;simp[bu]
def jE(n:Nat)(c:Nat->Nat)(F:Nat->Nat->Iv)(x k:Nat):List (List Iv):=(List.range n).map λq=>(List.range (if q<x then c q else if q=x then k else 0)).map (F q)
def qm(n:Nat)(c:Nat->Nat)(F:Nat->Nat->Iv):List (List Iv):=(List.range n).map λq=>(List.range (c q)).map (F q)
def KQ(n:Nat)(c:Nat->Nat)(F:Nat->Nat->Iv)(x k:Nat):(jE n c F x k).length=n:=by simp[jE]
def DY{n:Nat}{c:Nat->Nat}{F:Nat->Nat->Iv}{x k q:Nat}(h:q<n):(jE n c F x k).getD q []=(List.range (if q<x then c q else if q=x then k else 0)).map (F q):=by
 simp[jE,bu,h]
def Kq{n:Nat}{c:Nat->Nat}{F:Nat->Nat->Iv}{q:Nat}(h:q<n):(qm n c F).getD q []=(List.range (c q)).map (F q):=by
 simp[qm,bu,h]
def Ny{n x k:Nat}{c:Nat->Nat}{F:Nat->Nat->Iv}(h:x<n):jU (jE n c F x k) x=k:=by simp only[jU,DY h];simp
def oC{α:Type}(y:α):[y].length=1:=rfl
def s7{n i:Nat}{F:Nat->Iv}(h:i<n):((List.range n).map F).getD i il=F i:=by
 simp[bu,h]
def O9{T1 T0 n n':Nat}{c:Nat->Nat}{F:Nat->Nat->Iv}(hn:n=n'):Bx.le (.jm true T1 T0 n 7 (λ_=>0) (λ_ _ _=>.any) .none) (.jm true T1 T0 n' 7 (jU (jE n' c F 0 0)) (kQ (jE n' c F 0 0)) .none):=by
 subst hn;refine .jm rfl (λk hk=>?_) (λk i j hk hi hj=>absurd hi (bO i));show 0=((jE n c F 0 0).getD k []).length;rw[DY hk];simp
def JT{T1 T0 n n' m x k:Nat}{c:Nat->Nat}{F:Nat->Nat->Iv}{y:Iv}(hn:n=n')(hm:m=n)(hx:x<n)(hy:y=F x k):
 Bx.le (.jm true T1 T0 n 7 (λq=>if q=x then jU (jE m c F x k) q+[y].length else jU (jE m c F x k) q)
  (λq i j=>if q=x then(if i<jU (jE m c F x k) q then kQ (jE m c F x k) q i j else(E.jH (iz [y])) (i-jU (jE m c F x k) q) j)else kQ (jE m c F x k) q i j) .none)
  (.jm true T1 T0 n' 7 (jU (jE m c F x (k+1))) (kQ (jE m c F x (k+1))) .none):=by
 subst hn hm hy;have hl:∀ q,q<m->(if q=x then jU (jE m c F x k) q+[F x k].length else jU (jE m c F x k) q)=jU (jE m c F x (k+1)) q:=by
  intro q hq;simp only[jU,DY hq,dI,eG,df,fS];by_cases h1:q=x
  .subst h1;simp
  .simp [h1]
 refine .jm rfl hl (λq i j hq hi hj=>⟨.jb ?_,C0 _ _ hj⟩);by_cases h1:q=x
 .subst h1;rw[bn rfl]at hi ⊢;simp only[jU,kQ,DY hq,dI,eG,df,fS,e9,bF,bN]at hi ⊢;by_cases h2:i<k
  .rw [bn h2,s7 h2,s7 aD]
  .have:i=k:= aD ;subst this;rw[bl h2,di,s7 aD];rfl
 .rw [bl h1]at hi ⊢;simp only[jU,kQ,DY hq,dI,eG,h1,bF]at hi ⊢
def Pa{T1 T0 n n' m x:Nat}{c:Nat->Nat}{F:Nat->Nat->Iv}(hn:n=n'):Bx.le (.jm true T1 T0 n 7 (jU (jE m c F x (c x))) (kQ (jE m c F x (c x))) .none) (.jm true T1 T0 n' 7 (jU (jE m c F (x+1) 0)) (kQ (jE m c F (x+1) 0)) .none):=by
 subst hn;have:jE m c F x (c x)=jE m c F (x+1) 0:=by
  unfold jE;congr 1;funext q;congr 2;by_cases h:q<x
  .rw [bn h,bn aD]
  .by_cases h2:q=x
   .subst h2;rw[bl h,bn rfl,bn aD]
   .rw [bl h,bl h2,bl aD];split<;>rfl
 rw[this];exact .refl _
def KP(n:Nat)(c:Nat->Nat)(F:Nat->Nat->Iv):jE n c F n 0=qm n c F:=by
 unfold jE qm;apply ev;intro q hq;rw[bn (cz.1 hq)]
def I8{n:Nat}{M:List (List Iv)}(hn:n=M.length):E.le (.sl true n 1 λk _=>.sl true (jU M k) 7 (kQ M k)) (iU M):=by subst hn;exact .refl _
def Fp.oB(X Y:Nat->Iv)(p:Nat):Nat->Iv
 | 0=>iI (X 0) (Y 0) p
 |k+1=>jL (oB X Y p k) (iI (X (k+1)) (Y (k+1)) p) p
def Ea(X Y:Nat->Iv){p:Nat}(hp:1<=p)(iq:p<=4096):∀ k,(oB X Y p k).iu
 | 0=>lX _ _ hp iq
 |k+1=>rn (Ea X Y hp iq k) (lX _ _ hp iq) hp iq
def Td(x y:Iv)(p:Nat):∀ (a b:List Iv) (X Y:Nat->Iv) (s:Nat),a.length=b.length->(∀ i,i<a.length->a.getD i il=X (s+1+i))->(∀ i,i<b.length->b.getD i il=Y (s+1+i)) ->
 (a.zip b).foldl (λs q=>jL s (iI q.1 q.2 p) p) (oB X Y p s)=oB X Y p (s+a.length)
 | [],[],X,Y,s,_,_,_=>rfl
 | [],_::_,_,_,_,h,_,_=>by simp at h
 |_::_,[],_,_,_,h,_,_=>by simp at h
 |u::a,v::b,X,Y,s,h,h1,h2=>by
  have e1:u=X (s+1):=h1 0 aJ;have e2:v=Y (s+1):=h2 0 aJ;rw[List.zip_cons_cons,fI];have:jL (oB X Y p s) (iI u v p) p=oB X Y p (s+1):=by rw[e1,e2];rfl
  rw[this,Td x y p a b X Y (s+1) (by simpa using h) (λi hi=>by
   have:=h1 (i+1) aR;rw[(aD:s+1+1+i=s+1+(i+1)),<-this];rfl) (λi hi=>by
   have:=h2 (i+1) aR;rw[(aD:s+1+1+i=s+1+(i+1)),<-this];rfl)]
  congr 1;simp;omega
def acr{xs ys:List Iv}{p n:Nat}(h1:xs.length=n+1)(h2:ys.length=n+1):Hc xs ys p=oB (λq=>xs.getD q il) (λq=>ys.getD q il) p n:=by
 match xs,ys,h1,h2 with
 |x::a,y::b,h1,h2=>
  have ha:a.length=n:=by simpa using h1
  have hb:b.length=n:=by simpa using h2
  have:=Td x y p a b (λq=>(x::a).getD q il) (λq=>(y::b).getD q il) 0 aD (λi hi=>by rw[(aD:0+1+i=i+1)];rfl) (λi hi=>by rw[(aD:0+1+i=i+1)];rfl);rw[b6,ha]at this;exact this
def tY{α:Type}{l:List α}{i:Nat}{d:α}(h:i<l.length):l.getD i d=l[i]:=by
 rw[bu,bD h];rfl
def ZF{a b:List (List Iv)}{n k c p:Nat}(ra:a.length=n)(la:∀ i,i<n->(a.getD i []).length=k+1)(rb:b.length=k+1)(lb:(b.getD 0 []).length=c):
 qm n (λ_=>c) (λi j=>oB (λq=>(a.getD i []).getD q il) (λq=>(b.getD q []).getD j il) p k)=re a b p:=by
 unfold qm re;have hb:(b.headD []).length=c:=by
  rw[<-lb];cases b with
  |nil=>rfl
  |cons r b=>rfl
 rw[hb];apply dU
 .simp [ra]
 .intro i h1 h2;have hi:i<n:=by simp at h1;omega
  have uc:i<a.length:= aD ;simp only[dV,ey];apply ev;intro j _;have e:=la i hi;rw[tY uc]at e ⊢;rw[acr e (show(GY b j).length=k+1 by simp[GY,rb])];congr 1;funext q;unfold GY;by_cases hq:q<b.length
  .rw [tY (l:=b.map _) (by simpa using hq),tY hq];simp
  .rw [bu (l:=b.map _),cw (by simpa using hq),bu (l:=b),cw aD];simp
def ZG{a:List (List Iv)}{x:Iv}{p:Nat}:qm a.length (λq=>(a.getD q []).length) (λi j=>iI x ((a.getD i []).getD j il) p)=s8 a x p:=by
 unfold qm s8;apply dU
 .simp
 .intro i h1 h2;have hi:i<a.length:=by simp at h1;omega
  simp only[dV,ey];rw[tY hi];apply dU
  .simp
  .intro j h3 h4;have hj:j<a[i].length:=by simpa using h3
   simp only[dV,ey];rw[tY hj]
def amk{n k:Nat}{F:Nat->Nat->Iv}(h1:1<=n)(h2:n<=8)(h3:1<=k)(h4:k<=8)(hv:∀ i j,(F i j).iu):ke (qm n (λ_=>k) F) n k:=by
 refine⟨by simp[qm],λr hr=>?_,λr hr x hx=>?_,h1,h2,h3,h4⟩
 .obtain ⟨i,_,rfl⟩:=cR.1 hr;simp
 .obtain ⟨i,_,rfl⟩:=cR.1 hr;obtain⟨j,_,rfl⟩:=cR.1 hx;exact hv i j
def xP{T n n' k:Nat}{F:Nat->Iv}{y:Iv}(hn:n=k)(tz:n'=k+1)(hy:y=F k):
 Bx.le (.row true T (n+[y].length) 7 λi j=>if i<n then jF ((List.range k).map F) i j else(E.jH (iz [y])) (i-n) j) (.row true T n' 7 (jF ((List.range (k+1)).map F))):=by
 subst hn tz hy;refine .row rfl λi j hi hj=>⟨.jb ?_,C0 _ _ hj⟩
 have hi:i<n+1:=hi;by_cases h:i<n
 .rw [bn h];simp only[jF];rw[s7 h,s7 hi]
 .have ml:i=n:= aD ;subst ml;rw[bl h,di];simp only[jF];rw[s7 hi];rfl
def F4{n i:Nat}{R:Nat->List Iv}(h:i<n):((List.range n).map R).getD i []=R i:=by simp[bu,h]
def Wk{T n n' k m:Nat}{R:Nat->List Iv}{p:E}(hn:n=k)(tz:n'=k+1)(hm:m=1)(hp:∀ j,j<1->p.jH 0 j=iz (R k)):
 Bx.le (.row true T (n+m) 1 λi j=>if i<n then rF ((List.range k).map R) i j else(E.jH p) (i-n) j) (.row true T n' 1 (rF ((List.range (k+1)).map R))):=by
 subst hn tz hm;refine .row rfl λi j hi hj=>⟨.jb ?_,af3 _⟩
 by_cases h:i<n
 .rw [bn h];simp only[rF];rw[F4 h,F4 hi]
 .have ml:i=n:= aD ;subst ml;rw[bl h,di,hp j hj];simp only[rF];rw[F4 hi]
def Wi{n:Nat}{M:List (List Iv)}(hn:n=M.length):E.le (.sl true n 1 (rF M)) (iU M):=by subst hn;exact .refl _
def wV{n:Nat}{M:List Iv}(hn:n=M.length):E.le (.sl true n 7 (jF M)) (iz M):=by subst hn;exact .refl _
def Fp.ke.mF{m:List (List Iv)}{n k:Nat}(h:ke m n k){i:Nat}(hi:i<n):(m.getD i []).length=k:=by
 have ml:i<m.length:=by rw[h.jm];exact hi
 rw[bu,bD ml];exact h.row _ (cO ml)
def Fp.ke.qP{m:List (List Iv)}{n k:Nat}(h:ke m n k){i j:Nat}(hi:i<n)(hj:j<k):((m.getD i []).getD j il).iu:=by
 have ml:i<m.length:=by rw[h.jm];exact hi
 have hl:=h.mF hi;rw[bu (l:=m),bD ml]at hl ⊢;change m[i].length=k at hl;show(m[i].getD j il).iu;have qX:j<m[i].length:=by rw[hl];exact hj
 rw[bu,bD qX];exact h.ok _ (cO ml) _ (cO qX)
def Fp.ke.Fh{m:List (List Iv)}{n k:Nat}(h:ke m n k)(i:Nat):(m.getD i []).length<=8:=by
 by_cases hi:i<n
 .rw [h.mF hi];exact h.k8
 .rw [bu,cw (by rw[h.jm];omega)];exact ch _
def St{b:List (List Iv)}{k c:Nat}(gb:ke b k c)(q j:Nat):((b.getD q []).getD j il).iu:=by
 by_cases hq:q<k
 .by_cases hj:j<c
  .exact gb.qP hq hj
  .rw [bu,cw (by rw[gb.mF hq];omega)];exact mA
 .rw [bu (l:=b),cw (by rw[gb.jm];omega)];exact mA
def ZE{a b:List (List Iv)}{n k p:Nat}(ga:ke a n k)(gb:ke b n k):qm a.length (λq=>(a.getD q []).length) (λi j=>jL ((a.getD i []).getD j il) ((b.getD i []).getD j il) p)=yv a b p:=by
 have ra:=ga.jm;have rb:=gb.jm;unfold qm yv;apply dU
 .simp [ra,rb]
 .intro i h1 h2;have hi:i<n:=by simp at h1;omega
  simp only[dV,ey,List.getElem_zipWith];have ea:a.getD i []=a[i]'(aD):=by rw[bu,bD aD];rfl
  have eb:b.getD i []=b[i]'(aD):=by rw[bu,bD aD];rfl
  have la:=ga.mF hi;have lb:=gb.mF hi;rw[ea]at la;rw[eb]at lb;rw[ea,eb];apply dU
  .simp [la,lb]
  .intro j h3 h4;have hj:j<k:=by simp[la]at h3;exact h3
   simp only[dV,ey,List.getElem_zipWith];congr 1
   .rw [bu,bD aD];rfl
   .rw [bu,bD aD];rfl
def Sb(s:Bool)(L:List Nat)(e:Int)(hk:iK L)(hl:L.length<=256)(kZ:-1000000<=e)(kF:e<=1000000):ig 170 [bP s,iw L,iP e] (im (canon s (val L) e)):=by
 refine⟨call170,λw B vs hK hB hr=>?_⟩;obtain⟨v1,vs,rfl,h1,hr⟩:=hr.my;obtain⟨v2,vs,rfl,h2,hr⟩:=hr.my;obtain⟨v3,vs,rfl,h3,hr⟩:=hr.my;obtain rfl:=hr.pH;obtain rfl:=iR.kN h1;obtain rfl:=iR.kN h3;obtain⟨A,c,rfl,s1⟩:=uI hk h2;exact(Hf s A c L e w s1 aD (by have:=oF L;unfold mn at this;omega) kZ kF hK).mono λe w' h=>rd B w e w' hB h
def Zv(x y:Nat):E.le (.sl false 2 1 λi j=>[E.v (.int .u32 (x:Int)),.v (.int .u32 (y:Int))].getD (i*1+j) (.v (.bool false))) (iw [x,y]):=.sl λi j hi hj=>by
 obtain rfl:j=0:= aD ;obtain rfl|rfl:i=0\/i=1:= aD 
 .exact ⟨.refl _,rfl⟩
 .exact ⟨.refl _,rfl⟩
def wT(n:Nat):jY (n:Int)=canon false n 0:=by
 unfold jY lY;rw[bt aD,dj]
def yW(n:Nat)(h:n<4294967296):(jY (n:Int)).iu:=by
 rw[wT];refine⟨qF _ _ _,?_⟩;by_cases h0:n=0
 .subst h0;exact .inl rfl
 .have:=A5 (s:=false) (e:=0) h0;have hb:iA n<=32:=kV.2 h;refine .inr ⟨aD,aD,?_,aD⟩;obtain⟨h1,h2,h3,h4⟩:=this;have:=nj h3;omega
def ZC(x y:Nat):val [x,y]=x+4294967296*y:=by simp[val]
def Fp.kE(r:List Iv)(p:Nat):Nat->Dy
 | 0=>iQ
 |k+1=>jG (iJ (kE r p k) (kO (r.getD k il))) p true
structure Fp.oJ(r:List Iv)(p k:Nat):Prop where
 all:(r.getD k il).all=false
 yB:jZ (iJ (kE r p k) (kO (r.getD k il))) p true=0
def Fp.kJ(m:List (List Iv))(p:Nat):Nat->Dy
 | 0=>iQ
 |x+1=>if 0<jA (kE (m.getD x []) p (m.getD x []).length) (kJ m p x)then kE (m.getD x []) p (m.getD x []).length else kJ m p x
def sm(r:List Iv){p:Nat}(hp:1<=p)(iq:p<=4096):∀ k,(kE r p k).iu
 | 0=>qn
 |k+1=>mD _ _ _ _ _ _ hp iq
def As(m:List (List Iv)){p:Nat}(hp:1<=p)(iq:p<=4096):∀ x,(kJ m p x).iu
 | 0=>qn
 |x+1=>by
  unfold kJ;split
  .exact sm _ hp iq _
  .exact As m hp iq x
def adO(p:Nat)(l:List Iv):l.foldl (λs x=>s.bind λs=>if x.all then none else if jZ (iJ s (kO x)) p true≠0 then none else some (jG (iJ s (kO x)) p true)) none=none:=by
 induction l with
 |nil=>rfl
 |cons x l ih=>rw[fI];exact ih
def O7(p:Nat)(r:List Iv):∀ (l:List Iv) (k:Nat),(∀ i,i<l.length->l.getD i il=r.getD (k+i) il) ->
 ((∀ i,k<=i->i<k+l.length->oJ r p i)->l.foldl (λs x=>s.bind λs=>if x.all then none else if jZ (iJ s (kO x)) p true≠0 then none else some (jG (iJ s (kO x)) p true)) (some (kE r p k))=some (kE r p (k+l.length))) /\
 (∀ i,k<=i->i<k+l.length->¬oJ r p i->l.foldl (λs x=>s.bind λs=>if x.all then none else if jZ (iJ s (kO x)) p true≠0 then none else some (jG (iJ s (kO x)) p true)) (some (kE r p k))=none)
 | [],k,_=>⟨λ_=>rfl,λi h1 h2=>by simp at h2;omega⟩
 |x::l,k,h=>by
  have e:x=r.getD k il:=h 0 aJ;have ih:=O7 p r l (k+1) (λi hi=>by have:=h (i+1) aR;rw[(aD:k+1+i=k+(i+1)),<-this];rfl);rw[fI];have hs:∀ (g:oJ r p k),((some (kE r p k)).bind λs=>if x.all then none else if jZ (iJ s (kO x)) p true≠0 then none else some (jG (iJ s (kO x)) p true))=some (kE r p (k+1)):=by
   intro g;have h1:=g.all;have h2:=g.yB;rw[<-e]at h1 h2;simp only[dF,h1,bZ,bF,h2,dp,gR];rw[e];rfl
  have hf:¬oJ r p k->((some (kE r p k)).bind λs=>if x.all then none else if jZ (iJ s (kO x)) p true≠0 then none else some (jG (iJ s (kO x)) p true))=none:=by
   intro g;simp only[dF];by_cases h1:x.all=true
   .rw [bn h1]
   .rw [bl h1];by_cases h2:jZ (iJ (kE r p k) (kO x)) p true=0
    .exact absurd ⟨by rw[<-e];simpa using h1,by rw[<-e];exact h2⟩ g
    .rw [bn h2]
  refine⟨λhg=>?_,λi h1 h2 hb=>?_⟩
  .rw [hs (hg k aD aJ),ih.1 (λi h1 h2=>hg i aD aR)];congr 2;simp;omega
  .by_cases g:oJ r p k
   .rw [hs g];refine ih.2 i ?_ (by simp at h2;omega) hb;by_cases hik:i=k
    .subst hik;exact absurd g hb
    .omega
   .rw [hf g,adO]
def Yj{r:List Iv}{p:Nat}(h:∀ i,i<r.length->oJ r p i):Dm r p=some (kE r p r.length):=by
 have:=(O7 p r r 0 (λi _=>by rw[b6])).1 (λi _ hi=>h i aD);rwa[b6]at this
def aj9{r:List Iv}{p i:Nat}(hi:i<r.length)(h:¬oJ r p i):Dm r p=none:=
 (O7 p r r 0 (λi _=>by rw[b6])).2 i aD aD h
def NW(p:Nat)(m:List (List Iv)):∀ (l:List (List Iv)) (x:Nat),(∀ i,i<l.length->l.getD i []=m.getD (x+i) []) ->
 ((∀ i,x<=i->i<x+l.length->∀ k,k<(m.getD i []).length->oJ (m.getD i []) p k)->l.foldl (λs r=>s.bind λs=>(Dm r p).map λn=>if 0<jA n s then n else s) (some (kJ m p x))=some (kJ m p (x+l.length))) /\
 (∀ i,x<=i->i<x+l.length->∀ k,k<(m.getD i []).length->¬oJ (m.getD i []) p k->l.foldl (λs r=>s.bind λs=>(Dm r p).map λn=>if 0<jA n s then n else s) (some (kJ m p x))=none)
 | [],x,_=>⟨λ_=>rfl,λi h1 h2=>by simp at h2;omega⟩
 |r::l,x,h=>by
  have e:r=m.getD x []:=h 0 aJ;have ih:=NW p m l (x+1) (λi hi=>by have:=h (i+1) aR;rw[(aD:x+1+i=x+(i+1)),<-this];rfl);have hn:∀ (l:List (List Iv)),l.foldl (λs r=>s.bind λs=>(Dm r p).map λn=>if 0<jA n s then n else s) none=none:=by
   intro l;induction l with
   |nil=>rfl
   |cons y l ih=>rw[fI];exact ih
  rw[fI];refine⟨λhg=>?_,λi h1 h2 k hk hb=>?_⟩
  .rw [e,dF,Yj (hg x aD aJ),c9];have:=ih.1 (λi h1 h2=>hg i aD aR);rw[show x+(m.getD x []::l).length=x+1+l.length by simp only[df];omega];exact this
  .by_cases g:∀ k,k<(m.getD x []).length->oJ (m.getD x []) p k
   .rw [e,dF,Yj g,c9];refine ih.2 i ?_ (by simp at h2;omega) k hk hb;by_cases Is:i=x
    .subst Is;exact absurd (g k hk) hb
    .omega
   .have ⟨k',Iw,ns⟩:∃ k',k'<(m.getD x []).length/\¬oJ (m.getD x []) p k':=by
     apply b9;intro hc;exact g λk hk=>b9 λq=>hc ⟨k,hk,q⟩
    rw[e,dF,aj9 Iw ns,Option.map_none,hn]
def Db{m:List (List Iv)}{p:Nat}(h:∀ i,i<m.length->∀ k,k<(m.getD i []).length->oJ (m.getD i []) p k):s5 m p=some (kJ m p m.length):=by
 have:=(NW p m m 0 (λi _=>by rw[b6])).1 (λi _ hi=>h i aD);rwa[b6]at this
def Jh{m:List (List Iv)}{p i k:Nat}(hi:i<m.length)(hk:k<(m.getD i []).length)(h:¬oJ (m.getD i []) p k):s5 m p=none:=
 (NW p m m 0 (λi _=>by rw[b6])).2 i aD aD k hk h
def xn:sP aq [bP iQ.neg,iw (ij iQ.m),iP iQ.e]:=.cons (.refl _) (.cons y7 (.cons (.refl _) .nil))
def xc(n:Nat)(h:n<4294967296):(iN (n:Int)).iu:=qO (yW n h)
structure Fp.Iv.NN(x:Iv):Prop where
 lo:x.lo.neg=false
 hi:x.hi.neg=false
def A6(m:Nat)(e:Int):(canon false m e).neg=false:=by unfold canon;split<;>rfl
def RE(m:Nat)(e:Int)(more:Bool)(p:Nat)(up:Bool):(kf false m e more p up).neg=false:=by
 unfold kf;split
 .split
  .rfl
  .exact A6 _ _
 .exact A6 _ _
def O5{d:Dy}(h:d.neg=false)(p:Nat)(up:Bool):(jG d p up).neg=false:=by unfold jG;rw[h];exact RE _ _ _ _ _
def aii{a b:Dy}(ha:a.neg=false)(hb:b.neg=false):(lM a b).neg=false:=by unfold lM;rw[ha,hb];exact A6 _ _
def acb{a b:Dy}(ha:a.neg=false)(hb:b.neg=false)(p:Nat)(up:Bool):(ks a b p up).neg=false:=by
 unfold ks;rw[ha,hb];split
 .rfl
 .exact RE _ _ _ _ _
def I9{a b:Dy}(ha:a.neg=false)(hb:b.neg=false):(ji a b).neg=false:=by unfold ji;split<;>assumption
def Fs{a b:Dy}(ha:a.neg=false)(hb:b.neg=false):(je a b).neg=false:=by unfold je;split<;>assumption
def N9{a:Dy}(ha:a.neg=false)(k:Int):0<=a.num k:=by unfold Dy.num;rw[ha];simp
def ale{a b:Dy}(ha:a.neg=false)(hb:b.neg=false):(iJ a b).neg=false:=by
 unfold iJ;split
 .exact hb
 .split
  .exact ha
  .unfold lY;have h1:=N9 ha (min a.e b.e);have h2:=N9 hb (min a.e b.e);rw[bt aD];exact A6 _ _
def Kr:il.NN:=⟨rfl,rfl⟩
def Te{DD:Dy->Dy->Bool->Dy}{EE:Dy->Dy->Bool->Int}{x y:Iv}(hx:x.NN)(hy:y.NN)(h:∀ a b up,a.neg=false->b.neg=false->(DD a b up).neg=false):(me DD EE x y).NN:=by
 unfold me;split
 .exact ⟨I9 (I9 (I9 (h _ _ _ hx.lo hy.lo) (h _ _ _ hx.lo hy.hi)) (h _ _ _ hx.hi hy.lo)) (h _ _ _ hx.hi hy.hi),
   Fs (Fs (Fs (h _ _ _ hx.lo hy.lo) (h _ _ _ hx.lo hy.hi)) (h _ _ _ hx.hi hy.lo)) (h _ _ _ hx.hi hy.hi)⟩
 .exact Kr
def Jd{x y:Iv}(hx:x.NN)(hy:y.NN)(p:Nat):(iI x y p).NN:=by
 unfold iI;split
 .exact Kr
 .exact Te hx hy λa b up ha hb=>O5 (aii ha hb) p up
def D9{x y:Iv}(hx:x.NN)(hy:y.NN)(p:Nat):(jj x y p).NN:=by
 unfold jj;split
 .exact Kr
 .exact Te hx hy λa b up ha hb=>acb ha hb p up
def KE(x:Iv):(jD x).NN:=by
 unfold jD;split
 .exact Kr
 .refine ⟨?_,Fs rfl rfl⟩;show(ot x).neg=false;unfold ot;split
  .rfl
  .exact I9 rfl rfl
def Jx{d:Dy}(h:d.neg=false):(iV d).NN:=⟨h,h⟩
def At(n:Nat):(iN (n:Int)).NN:=by
 refine Jx ?_;rw[wT];exact A6 _ _
def Xi{u:Iv}(hu:u.NN)(p:Nat):∀ j,(nf u p j).NN
 | 0=>At 1
 |j+1=>Jd (Xi hu p j) (D9 hu (At (j+1)) p) p
def WU(r:List Iv)(p:Nat):∀ k,(kE r p k).neg=false
 | 0=>rfl
 |k+1=>O5 (ale (WU r p k) (Fs rfl rfl)) p true
def Da(m:List (List Iv))(p:Nat):∀ x,(kJ m p x).neg=false
 | 0=>rfl
 |x+1=>by
  unfold kJ;split
  .exact WU _ _ _
  .exact Da m p x
def ahS{a b:Dy}(ha:a.neg=false)(hb:b.neg=false)(iO:jA a b<0){k:Int}(h1:k<=a.e)(h2:k<=b.e):a.m*2^(a.e-k).toNat<b.m*2^(b.e-k).toNat:=by
 rw[A8 (k:=k) (.inr h1) (.inr h2)]at iO;have h:a.num k<b.num k:=by
  unfold uV at iO;split at iO
  .assumption
  .split at iO<;>omega
 unfold Dy.num Dy.j8 at h;rw[ha,hb]at h;simp only[bZ,bF]at h;exact Int.ofNat_lt.1 h
def aca{a b:Dy}(ha:a.neg=false)(hb:b.neg=false)(b0:b.m≠0)(iO:jA a b<0)(p:Nat):jA (ks a b p false) (canon false 1 0)<=0:=by
 unfold ks;by_cases a0:a.m=0
 .rw [bn a0];have:iQ=canon false 0 0:=rfl;rw[this];exact(DZ (s:=false) (K:=0) (cv _) (cv _) aJ).1 rfl
 rw[bl a0,ha,hb];generalize hK:kv a b p 2=K;generalize hq:a.m*2^K/b.m=q;generalize hE:a.e-b.e-(K:Int)=E;have UP:q*b.m<=a.m*2^K:=by rw[<-hq];exact dH _ _
 have key:q*2^(E-min E 0).toNat<2^(0-min E 0).toNat:=by
  have lW:min (a.e-K) b.e<=a.e:= aD ;have qY:min (a.e-K) b.e<=b.e:= aD ;have h:=ahS ha hb iO lW qY;have e1:(a.e-min (a.e-K) b.e).toNat=K+(E-min E 0).toNat:= aD ;have e2:(b.e-min (a.e-K) b.e).toNat=(0-min E 0).toNat:= aD ;rw[e1,e2,bw,<-bB]at h;have h3:q*b.m*2^(E-min E 0).toNat<b.m*2^(0-min E 0).toNat:=cK (bR _ UP) h;rw[bE q,bB]at h3;exact Nat.lt_of_mul_lt_mul_left h3
 have hqe:q=0\/(iA q:Int)+E<=0:=by
  by_cases H9:0<=E
  .left;rw[show(0-min E 0).toNat=0 by omega,ca]at key;rcases ie.1 (amU.1 key)with h|h
   .exact h
   .exact absurd h (eO (bA aF))
  .right;rw[show(E-min E 0).toNat=0 by omega,ca,cg]at key;have:=kV.2 key;omega
 generalize decide (a.m*2^K%b.m≠0)=more;have hQ:kH q E more p (false != false)=q/2^jg q E p:=by unfold kH;simp
 have hsm:q/2^jg q E p≠0->(iA (q/2^jg q E p):Int)+E+jg q E p<=0:=by
  intro hn;have lS:=qE hn (jg q E p);have hm:=tg (dH q (2^jg q E p));rcases hqe with h|h
  .rw [h,fO]at hn;exact absurd rfl hn
  .omega
 have hO:lZ q E more p (false != false)=false:=by
  unfold lZ;rw[hQ];by_cases hn:q/2^jg q E p=0
  .simp [hn]
  .have:=hsm hn;rw[bt (aD:¬16384<(iA (q/2^jg q E p):Int)+E+jg q E p)];simp
 unfold kf;rw[show((false != false) != false)=(false != false)from rfl,hO,bl aF,hQ];refine(DZ (s:=(false != false)) (K:=min E 0) aD aD ?_).1 rfl;rw[ck,show(E+(jg q E p:Int)-min E 0).toNat=jg q E p+(E-min E 0).toNat by omega,bw,<-bB];exact dG (cK (bR _ (dH _ _)) key)
def WX:(iN 1).iu:=qO (yW 1 aF)
def Fp.Iv.iu.adb{x:Iv}(h:x.iu):x.lo.lh/\x.hi.lh:=⟨h.kn.1.canon,h.kn.2.canon⟩
def NU{d:Dy}(hd:d.lh)(h:0<=d.jh):d.neg=false:=by
 unfold Dy.jh at h;rcases hd with⟨_,h2,_⟩|h1
 .exact h2
 .rw [bl aD]at h;cases hn:d.neg with
  |false=>rfl
  |true=>rw[hn]at h;simp at h
def YM{d:Dy}(h:d.neg=false):0<=d.jh:=by
 unfold Dy.jh;rw[h];split
 .omega
 .simp
def I0{c:Nat}(hc:0<c):(jY (c:Int)).m≠0:=by
 rw[wT];exact(A5 (s:=false) (e:=0) aD).2.2.1
def ahR{c:Nat}(hc:0<c):mh (iN (c:Int))=1:=by
 unfold mh iN iV;simp only[bZ,bF];rw[bn];unfold Dy.jh;rw[bl (I0 hc),show(jY (c:Int)).neg=false by rw[wT];exact A6 _ _];simp
def Yc{u t:Iv}{c p:Nat}(hu:u.NN)(hc:0<c)(hua:u.all=false)(iO:jA u.hi (jY (c:Int))<0)(ht:t.NN)
 (he:(jj t (lk (iN 1) (jj u (iN (c:Int)) p) p) p).all=false) (iD:1<=p) (iq:p<=4096):(jj t (lk (iN 1) (jj u (iN (c:Int)) p) p) p).NN:=by
 have wQ:(iN 1).NN:=At 1;generalize hq:jj u (iN (c:Int)) p=q at *
 have hqn:q.NN:=hq▸D9 hu (At c) p;have UR:q.iu:=hq▸pd _ _ iD iq;have ae5:∀ d:Iv,d.all=true->(jj t d p).all=true:=λd hd=>by unfold jj;rw[hd];simp[il]
 have Bj:(lk (iN 1) q p).all=false:=by
  cases h:(lk (iN 1) q p).all with
  |false=>rfl
  |true=>rw[ae5 _ h]at he;cases he
 have Bs:q.all=false:=by
  cases h:q.all with
  |false=>rfl
  |true=>
   exfalso;have:(lk (iN 1) q p)=il:=by
    unfold lk nL jL;rw[h];simp[il]
   rw[this]at Bj;cases Bj
 have amF:jA q.lo (canon false 1 0)<=0:=by
  have hf:q=me (λa b up=>ks a b p up) (λa b up=>mS a b p up) u (iN (c:Int)):=by
   rw[<-hq];unfold jj;rw[bl];rw[hua,ahR hc];simp[iN,iV]
  have jk:q.lo=ji (ji (ji (ks u.lo (jY (c:Int)) p false) (ks u.lo (jY (c:Int)) p false)) (ks u.hi (jY (c:Int)) p false)) (ks u.hi (jY (c:Int)) p false):=by
   rw[hf]at Bs ⊢;unfold me at Bs ⊢;split
   .rfl
   .rename_i kq;rw[bl kq]at Bs;cases Bs
  rw[jk];exact le_trans (Wo _ _) (aca hu.hi (by rw[wT];exact A6 _ _) (I0 hc) iO p)
 have UL:jY 1=canon false 1 0:=wT 1;have vC:0<=(iJ (jY 1) (jf q.lo)).jh:=by
  by_cases h0:q.lo.m=0
  .have:(jf q.lo).m=0:=h0;have:iJ (jY 1) (jf q.lo)=jY 1:=by
    unfold iJ;rw[bl (show(jY 1).m≠0 from I0 (c:=1) aF),bn this]
   rw[this];exact YM wQ.lo
  .rw [Rr (show(jY 1).m≠0 from I0 (c:=1) aF) h0,UL,zL];omega
 have Um:(lk (iN 1) q p).iu:=rn WX (sE UR) iD iq;have aeS:lk (iN 1) q p=mU (jG (iJ (jY 1) (jf q.hi)) p false) (jZ (iJ (jY 1) (jf q.hi)) p false) (jG (iJ (jY 1) (jf q.lo)) p true) (jZ (iJ (jY 1) (jf q.lo)) p true):=by
  unfold lk nL jL;rw[Bs];rfl
 have Ip:(lk (iN 1) q p).hi=jG (iJ (jY 1) (jf q.lo)) p true:=by
  rw[aeS]at Bj ⊢;unfold mU at Bj ⊢;split
  .rename_i h;rw[bn h]at Bj;cases Bj
  .rfl
 have hsc:(iJ (jY 1) (jf q.lo)).lh:=wq (by rw[UL];exact qF _ _ _) (BK (UR.adb.1));have UA:(lk (iN 1) q p).hi.neg=false:=by
  rw[Ip];exact O5 (NU hsc vC) p true
 have CR:mh (lk (iN 1) q p)≠0:=by
  intro hz;have:(jj t (lk (iN 1) q p) p).all=true:=by unfold jj;rw[bn (by rw[hz];simp)];rfl
  rw[this]at he;cases he
 have afi:(lk (iN 1) q p).lo.neg=false:=by
  unfold mh at CR;rw[Bj]at CR;simp only[bZ,bF]at CR;have hh:=YM UA;split at CR
  .rename_i h;cases hn:(lk (iN 1) q p).lo.neg with
   |false=>rfl
   |true=>unfold Dy.jh at h;rw[hn]at h;split at h<;>simp at h
  .rw [bl aD]at CR;exact absurd rfl CR
 exact D9 ht ⟨afi,UA⟩ p
def Vo{n:Nat}(h1:1<=n)(h8:n<=8):ke (xJ n) n n:=
 amk (F:=λi j=>iV (if i=j then⟨false,1,0⟩else iQ)) h1 h8 h1 h8 λi j=>by
  split
  .exact WX
  .exact qO qn
def ae7{b:List (List Iv)}{k c:Nat}(gb:ke b k c):(b.headD []).length=c:=by
 cases b with
 |nil=>have:=gb.jm;have:=gb.n1;simp at *;omega
 |cons r b=>exact gb.row r aJ 
def C7{a b:List (List Iv)}{n k c p:Nat}(ga:ke a n k)(gb:ke b k c)(iD:1<=p)(iq:p<=4096):ke (re a b p) n c:=by
 refine⟨by simp[re,ga.jm],λr hr=>?_,λr hr x hx=>?_,ga.n1,ga.n8,gb.k1,gb.k8⟩
 .obtain ⟨q,_,rfl⟩:=cR.1 hr;rw[dI,eG,ae7 gb]
 .obtain ⟨q,_,rfl⟩:=cR.1 hr;obtain⟨j,_,rfl⟩:=cR.1 hx;exact acs iD iq
def Pf{a:List (List Iv)}{x:Iv}{n k p:Nat}(ga:ke a n k)(iD:1<=p)(iq:p<=4096):ke (s8 a x p) n k:=by
 refine⟨by simp[s8,ga.jm],λr hr=>?_,λr hr y hy=>?_,ga.n1,ga.n8,ga.k1,ga.k8⟩
 .obtain ⟨q,hq,rfl⟩:=cR.1 hr;simp[ga.row q hq]
 .obtain ⟨q,_,rfl⟩:=cR.1 hr;obtain⟨z,_,rfl⟩:=cR.1 hy;exact lX _ _ iD iq
def NG{α β γ:Type}{f:α->β->γ}{l:List α}{m:List β}{z:γ}(h:z ∈ List.zipWith f l m):∃ x y,x ∈ l/\y ∈ m/\z=f x y:=by
 induction l generalizing m with
 |nil=>simp at h
 |cons a l ih=>
  cases m with
  |nil=>simp at h
  |cons b m=>
   rw[List.zipWith_cons_cons]at h;rcases de.1 h with h|h
   .exact ⟨a,b,aJ,aJ,h⟩
   .obtain ⟨x,y,h1,h2,h3⟩:=ih h;exact⟨x,y,by simp[h1],by simp[h2],h3⟩
def Z3{a b:List (List Iv)}{n k p:Nat}(ga:ke a n k)(gb:ke b n k)(iD:1<=p)(iq:p<=4096):ke (yv a b p) n k:=by
 refine⟨by simp[yv,ga.jm,gb.jm],λr hr=>?_,λr hr y hy=>?_,ga.n1,ga.n8,ga.k1,ga.k8⟩
 .obtain ⟨u,v,h1,h2,rfl⟩:=NG hr;simp[ga.row u h1,gb.row v h2]
 .obtain ⟨u,v,h1,h2,rfl⟩:=NG hr;obtain⟨x,z,h3,h4,rfl⟩:=NG hy;exact rn (ga.ok u h1 x h3) (gb.ok v h2 z h4) iD iq
def xj{m:List (List Iv)}{h:Iv}{n p:Nat}(ga:ke m n n)(iD:1<=p)(iq:p<=4096):∀ j,ke (rI m h p j) n n
 | 0=>by
  have:=ga.jm;unfold rI;rw[this];exact Vo ga.n1 ga.n8
 |j+1=>Pf (C7 (xj ga iD iq j) ga iD iq) iD iq
def AM{m:List (List Iv)}{h:Iv}{n p:Nat}(ga:ke m n n)(iD:1<=p)(iq:p<=4096):∀ j,ke (j9 m h p j) n n
 | 0=>by
  have:=ga.jm;unfold j9;rw[this];exact Vo ga.n1 ga.n8
 |j+1=>Z3 (AM ga iD iq j) (xj ga iD iq (j+1)) iD iq
def sV{a:List (List Iv)}{n k:Nat}(ga:ke a n k)(i j:Nat):(pe a i j).iu:=St ga i j
def Lt{a b:List (List Iv)}{n k c p:Nat}(ga:ke a n k)(gb:ke b k c){i j:Nat}(hi:i<n)(hj:j<c):pe (re a b p) i j=oB (pe a i) (λq=>pe b q j) p (k-1):=by
 have k1:=ga.k1;rw[<-ZF (n:=n) (k:=k-1) (c:=c) (a:=a) (b:=b) (p:=p) ga.jm (λi hi=>by rw[ga.mF hi];omega) (by rw[gb.jm];omega) (gb.mF aD)];unfold pe;rw[Kq hi,s7 hj]
def Lu{a:List (List Iv)}{x:Iv}{n k p:Nat}(ga:ke a n k){i j:Nat}(hi:i<n)(hj:j<k):pe (s8 a x p) i j=iI x (pe a i j) p:=by
 rw[<-ZG];unfold pe;rw[Kq (by rw[ga.jm];exact hi),s7 (by rw[ga.mF hi];exact hj)]
def acW{a b:List (List Iv)}{n k p:Nat}(ga:ke a n k)(gb:ke b n k){i j:Nat}(hi:i<n)(hj:j<k):pe (yv a b p) i j=jL (pe a i j) (pe b i j) p:=by
 rw[<-ZE ga gb];unfold pe;rw[Kq (by rw[ga.jm];exact hi),s7 (by rw[ga.mF hi];exact hj)]
def acX{n i j:Nat}(hi:i<n)(hj:j<n):pe (xJ n) i j=iV (if i=j then⟨false,1,0⟩else iQ):=by
 unfold pe;have:xJ n=qm n (λ_=>n) (λi j=>iV (if i=j then⟨false,1,0⟩else iQ)):=rfl;rw[this,Kq hi,s7 hj]
def acY{a:List (List Iv)}{n k:Nat}(ga:ke a n k)(f:Iv->Iv){i j:Nat}(hi:i<n)(hj:j<k):pe (a.map λr=>r.map f) i j=f (pe a i j):=by
 have h1:=ga.jm;have h2:=ga.mF hi;have e1:(a.map λr=>r.map f).getD i []=(a.getD i []).map f:=by
  rw[bu,bu,cY,bD aD];rfl
 unfold pe;rw[e1];generalize a.getD i []=r at *
 rw[bu,bu,cY,bD aD];rfl
def yp(n k:Nat)(a b:List (List Iv)):Prop:=∀ i j,i<n->j<k->Sub (pe a i j) (pe b i j)
def R3{X Y X' Y':Nat->Iv}{p:Nat}(hp:1<=p)(iq:p<=4096)(hX:∀ q,(X q).iu)(hY:∀ q,(Y q).iu)(Mi:∀ q,(X' q).iu)(Mj:∀ q,(Y' q).iu):
 ∀ k,(∀ q,q<=k->Sub (X q) (X' q))->(∀ q,q<=k->Sub (Y q) (Y' q))->Sub (oB X Y p k) (oB X' Y' p k)
 | 0,h1,h2=>NJ (hX 0) (hY 0) (Mi 0) (Mj 0) hp iq (h1 0 (bp _)) (h2 0 (bp _))
 |k+1,h1,h2=>Z1 (Ea X Y hp iq k) (lX _ _ hp iq) (Ea X' Y' hp iq k) (lX _ _ hp iq) hp iq
  (R3 hp iq hX hY Mi Mj k (λq hq=>h1 q aD) (λq hq=>h2 q aD)) (NJ (hX _) (hY _) (Mi _) (Mj _) hp iq (h1 _ (bp _)) (h2 _ (bp _)))
def ag3{a b a' b':List (List Iv)}{n k c p:Nat}(ga:ke a n k)(gb:ke b k c)(ga':ke a' n k)(gb':ke b' k c)(hp:1<=p)(iq:p<=4096)(h1:yp n k a a')(h2:yp k c b b'):yp n c (re a b p) (re a' b' p):=by
 intro i j hi hj;have k1:=ga.k1;rw[Lt ga gb hi hj,Lt ga' gb' hi hj];exact R3 hp iq (sV ga i) (λq=>sV gb q j) (sV ga' i) (λq=>sV gb' q j) _ (λq hq=>h1 i q hi aD) (λq hq=>h2 q j aD hj)
def akB{a a':List (List Iv)}{x x':Iv}{n k p:Nat}(ga:ke a n k)(ga':ke a' n k)(hx:x.iu)(sA:x'.iu)(hp:1<=p)(iq:p<=4096)(h1:yp n k a a')(h2:Sub x x'):yp n k (s8 a x p) (s8 a' x' p):=by
 intro i j hi hj;rw[Lu ga hi hj,Lu ga' hi hj];exact NJ hx (sV ga i j) sA (sV ga' i j) hp iq h2 (h1 i j hi hj)
section
variable {m m':List (List Iv)} {h h':Iv} {n p:Nat}
def rf(j:Nat)(hj:j<4294967296):(iN (j:Int)).iu:=qO (yW j hj)
def acm(hh:h.iu)(Bl:h'.iu)(hp:1<=p)(iq:p<=4096)(h2:Sub h h')(j:Nat)(hj:j<4294967296):Sub (jj h (iN (j:Int)) p) (jj h' (iN (j:Int)) p):=
 ace hh (rf j hj) Bl (rf j hj) hp iq h2 (Sub.refl _)
def alF(ga:ke m n n)(ga':ke m' n n)(hh:h.iu)(Bl:h'.iu)(hp:1<=p)(iq:p<=4096)(h1:yp n n m m')(h2:Sub h h'):∀ j,j<4294967296->yp n n (rI m h p j) (rI m' h' p j)
 | 0,_=>by
  intro i j _ _;unfold rI;rw[ga.jm,ga'.jm];exact Sub.refl _
 |j+1,hj=>akB (C7 (xj ga hp iq j) ga hp iq) (C7 (xj ga' hp iq j) ga' hp iq) (pd _ _ hp iq) (pd _ _ hp iq) hp iq
  (ag3 (xj ga hp iq j) ga (xj ga' hp iq j) ga' hp iq (alF ga ga' hh Bl hp iq h1 h2 j aD) h1) (acm hh Bl hp iq h2 (j+1) hj)
end
def WW{r r':List Iv}{p:Nat}(hp:1<=p)(iq:p<=4096)(v:∀ i,(r.getD i il).iu)(v':∀ i,(r'.getD i il).iu):∀ k,(∀ i,i<k->Sub (r.getD i il) (r'.getD i il))->(∀ i,i<k->oJ r' p i) ->
 (∀ i,i<k->oJ r p i)/\(kE r p k).q<=(kE r' p k).q
 | 0,_,_=>⟨λi hi=>absurd hi (bO i),bS⟩
 |k+1,hs,hg=>by
  obtain⟨h1,h2⟩:=WW hp iq v v' k (λi hi=>hs i aD) (λi hi=>hg i aD);obtain⟨g1,g2⟩:=hg k aD;have s:=hs k aD;have hm:=NC (v k) (v' k) s g1;have mv:∀ {x:Iv},x.iu->(kO x).lh:=λh=>Wl (GC h.xv.1) (GC h.xv.2)
  have A:=BW (wq (sm r hp iq k).canon (mv (v k))) hp iq;have B:=BW (wq (sm r' hp iq k).canon (mv (v' k))) hp iq;rw[FV]at A B;obtain⟨b1,b2⟩:=B.1 g2;obtain⟨a1,a2⟩:=A.2 _ b1 aO;refine⟨λi hi=>?_,a2⟩;rcases anq (Nat.le_of_lt_succ hi)with h|h
  .exact h1 i h
  .subst h;exact⟨(s.xQ g1).1,a1⟩
def NT(m:List (List Iv))(p x:Nat):kJ m p (x+1)=je (kJ m p x) (kE (m.getD x []) p (m.getD x []).length):=rfl
def ahJ{m m':List (List Iv)}{n k p:Nat}(ga:ke m n k)(ga':ke m' n k)(hp:1<=p)(iq:p<=4096)(h1:yp n k m m'){N':Dy}(hN:s5 m' p=some N'):
 ∃ N,s5 m p=some N/\N.q<=N'.q/\N=kJ m p n/\N'=kJ m' p n:=by
 have good':∀ i,i<n->∀ j,j<k->oJ (m'.getD i []) p j:=by
  intro i hi j hj;apply b9;intro hc;rw[Jh (i:=i) (by rw[ga'.jm];exact hi) (by rw[ga'.mF hi];exact hj) hc]at hN;cases hN
 have row:=λi (hi:i<n)=>WW (r:=m.getD i []) (r':=m'.getD i []) hp iq (sV ga i) (sV ga' i) k (λj hj=>h1 i j hi hj) (good' i hi)
 have e':s5 m' p=some (kJ m' p n):=by
  rw[<-ga'.jm];exact Db λi hi j hj=>good' i (by rw[<-ga'.jm];exact hi) j (by rw[ga'.mF (by rw[<-ga'.jm];exact hi)]at hj;exact hj)
 have e:s5 m p=some (kJ m p n):=by
  rw[<-ga.jm];exact Db λi hi j hj=>(row i (by rw[<-ga.jm];exact hi)).1 j (by rw[ga.mF (by rw[<-ga.jm];exact hi)]at hj;exact hj)
 rw[e']at hN;cases hN;refine⟨_,e,?_,rfl,rfl⟩;have:∀ x,x<=n->(kJ m p x).q<=(kJ m' p x).q:=by
  intro x
  induction x with
  |zero=>intro _;exact bS
  |succ x ih=>
   intro hx;have i1:=ih aD;have i2:=(row x aD).2;rw[NT,NT,ga.mF aD,ga'.mF aD];obtain⟨a1,a2,a3⟩:=zg (kJ m p x) (kE (m.getD x []) p k);obtain⟨b1,b2,b3⟩:=zg (kJ m' p x) (kE (m'.getD x []) p k)
   grind
 exact this n (bp _)
def FU{d:Dy}(h:d.neg=false):0<=d.q:=by
 rw[pU,h];exact bL eA (bH (pr _))
structure Lq(x y:Iv):Prop where
 v:x.iu
 v':y.iu
 nn:x.NN
 Jf:y.NN
 le:y.all=true\/(x.all=false/\x.hi.q<=y.hi.q)
def Fp.Iv.jB.nn{x:Iv}{r:Rat}(h:x.jB r)(k:x.all=false)(hx:x.NN):0<=r/\r<=x.hi.q:=by
 obtain⟨h1,h2⟩:=h.kn k;have:=FU hx.lo;exact⟨aO,h2⟩
def PZ(p:Nat):G p 0:=.inl (yl p)
def ZM{p:Nat}(hp:1<=p):G p 1:=.inl ⟨1,0,by rw[zH];exact hp,aD,by rw[zH];omega,by rw[DM];simp⟩
def Wt{x y x' y':Iv}{p:Nat}(hp:1<=p)(iq:p<=4096)(h:Lq x x')(k:Lq y y'):Lq (iI x y p) (iI x' y' p):=by
 refine⟨lX _ _ hp iq,lX _ _ hp iq,Jd h.nn k.nn p,Jd h.Jf k.Jf p,?_⟩;rcases h.le with ha|⟨h1,h2⟩
 .rw [y4 p (.inl ha)];exact .inl rfl
 .rcases k.le with ka|⟨k1,k2⟩
  .rw [y4 p (.inr ka)];exact .inl rfl
  .cases xa:x'.all
   .cases ya:y'.all
    .cases za:(iI x' y' p).all
     .right;have B':=Fz h.v' k.v' xa ya hp iq;obtain⟨g1,g2⟩:=B'.on za;have hU:=(B'.jB _ ⟨_,_,h.v'.vo,k.v'.vo,rfl⟩).kn za;obtain⟨b1,b2,b3⟩:=(Fz h.v k.v h1 k1 hp iq).wW 0 _ (PZ p) g2 λr ⟨a,b,ha,hb,e⟩=>by
       obtain⟨a1,a2⟩:=ha.nn h1 h.nn;obtain⟨b1,b2⟩:=hb.nn k1 k.nn;subst e;refine⟨bL a1 b1,bX ?_ hU.2⟩;exact bX (cI (bX a2 h2) b1) (dc (bX b2 k2) (bX a1 (bX a2 h2)))
      exact⟨b1,b3⟩
     .exact .inl rfl
    .rw [y4 p (.inr ya)];exact .inl rfl
   .rw [y4 p (.inl xa)];exact .inl rfl
def RU{x y x' y':Iv}{p:Nat}(hp:1<=p)(iq:p<=4096)(h:Lq x x')(hy:y.iu)(q7:y'.iu)(yn:y.NN)(yn':y'.NN)(y0:y'.all=false->0<y'.lo.q->y.all=false/\y'.lo.q<=y.lo.q):Lq (jj x y p) (jj x' y' p):=by
 refine⟨pd _ _ hp iq,pd _ _ hp iq,D9 h.nn yn p,D9 h.Jf yn' p,?_⟩;rcases h.le with ha|⟨h1,h2⟩
 .rw [zN p (.inl ha)];exact .inl rfl
 .cases xa:x'.all
  .by_cases hs:mh y'=0
   .rw [zN p (.inr hs)];exact .inl rfl
   .obtain ⟨ya',MV⟩:=F9 q7 hs;have l0:0<y'.lo.q:=by
     rcases MV with h|h
     .exact h
     .have:=FU yn'.hi;grind
    obtain⟨ya,hle⟩:=y0 ya' l0;cases za:(jj x' y' p).all
    .right;have B':=D8 h.v' q7 xa hs hp iq;obtain⟨g1,g2⟩:=B'.on za;have hU:=(B'.jB _ ⟨_,_,h.v'.vo,q7.wG,rfl⟩).kn za;obtain⟨b1,b2,b3⟩:=(D8 h.v hy h1 (Pm ya (.inl aO)) hp iq).wW 0 _ (PZ p) g2 λr ⟨a,b,ha,hb,e⟩=>by
      obtain⟨a1,a2⟩:=ha.nn h1 h.nn;obtain⟨b1,b2⟩:=hb.kn ya;subst e;have jS:0<b:= aO ;have i1:b⁻¹<=y'.lo.q⁻¹:=E8 l0 aO;have i0:0<=b⁻¹:=bH (dM.2 jS);rw[cF];rw[cF]at hU;refine⟨bL a1 i0,bX ?_ hU.2⟩;exact bX (cI (bX a2 h2) i0) (dc i1 (bX a1 (bX a2 h2)))
     exact⟨b1,b3⟩
    .exact .inl rfl
  .rw [zN p (.inl xa)];exact .inl rfl
def ahQ(c:Nat):(iN (c:Int)).lo.q=(c:Rat)/\(iN (c:Int)).hi.q=(c:Rat)/\(iN (c:Int)).all=false:=by
 refine⟨?_,?_,rfl⟩
 .show (jY _).q=_;rw[yc];exact dw c
 .show (jY _).q=_;rw[yc];exact dw c
def Lq.num(c:Nat)(hc:c<4294967296):Lq (iN (c:Int)) (iN (c:Int)):=⟨rf c hc,rf c hc,At c,At c,.inr ⟨rfl,bS⟩⟩
def Lq.RX{x x':Iv}{p:Nat}(hp:1<=p)(iq:p<=4096)(h:Lq x x')(c:Nat)(hc:c<4294967296):Lq (jj x (iN (c:Int)) p) (jj x' (iN (c:Int)) p):=
 RU hp iq h (rf c hc) (rf c hc) (At c) (At c) λ_ _=>⟨rfl,bS⟩
def Xh{u u':Iv}{p:Nat}(hp:1<=p)(iq:p<=4096)(h:Lq u u'):∀ j,j<4294967296->Lq (nf u p j) (nf u' p j)
 | 0,_=>Lq.num 1 aF 
 |j+1,hj=>Wt hp iq (Xh hp iq h j aD) (Lq.RX hp iq h (j+1) hj)
def ahY{w w':Iv}{p:Nat}(hp:1<=p)(iq:p<=4096)(h:Lq w w')(h0:(lk (iN 1) w' p).all=false):(lk (iN 1) w p).all=false/\(lk (iN 1) w' p).lo.q<=(lk (iN 1) w p).lo.q:=by
 have wa':w'.all=false:=by
  cases hw:w'.all
  .rfl
  .have:lk (iN 1) w' p=il:=DR p (.inr (by unfold nL;rw[bn hw];rfl));rw[this]at h0;cases h0
 obtain⟨wa,hle⟩:w.all=false/\w.hi.q<=w'.hi.q:=by
  rcases h.le with h|h
  .rw [h]at wa';cases wa'
  .exact h
 have nv:=rf 1 aF;have na:∀ {x:Iv},x.all=false->(nL x).all=false:=by intro x hx;unfold nL;rw[hx];rfl
 have B':=DQ nv (sE h.v') rfl (na wa') hp iq;have B:=DQ nv (sE h.v) rfl (na wa) hp iq;obtain⟨g1,g2⟩:=B'.on h0;have hL:=(B'.jB _ ⟨_,_,tI 1,Je h.v'.vo,rfl⟩).kn h0;obtain⟨b1,b2,b3⟩:=B.wW _ 1 g1 (ZM hp) λr ⟨a,b,ha,hb,e⟩=>by
  have e1:a=1:=by
   obtain⟨q1,q2⟩:=ha.kn rfl;obtain⟨n1,n2,_⟩:=ahQ 1;have o:((1:Nat):Rat)=1:=rfl;rw[o]at n1 n2;have n1':(iN 1).lo.q=1:=n1;have n2':(iN 1).hi.q=1:=n2
   grind
  have Ue:b<=0 /\ -w.hi.q<=b:=by
   have lS:=hb.kn (na wa);have e2:nL w=⟨jf w.hi,jf w.lo,false⟩:=by unfold nL;rw[bl (by rw[wa];decide)]
   rw[e2]at lS;have q1:=pk w.hi;have q2:=pk w.lo;have q3:=FU h.nn.lo;simp only at lS
   grind
  have o:((1:Int):Rat)=1:=rfl;rw[o]at hL;subst e e1;refine⟨bX hL.1 ?_,aO⟩
  grind
 exact⟨b1,b2⟩
def Yb{m m':List (List Iv)}{h h':Iv}{n k p:Nat}(ga:ke m n n)(ga':ke m' n n)(hh:h.iu)(Bl:h'.iu)(hk:k<1000)(hp:1<=p)(iq:p<=4096)(h1:yp n n m m')(h2:Sub h h')(ha:h'.all=false)
 {e':Iv} (he:sG m' h' k p=some e'):∃ e,sG m h k p=some e/\Sub e e'/\e.iu/\e'.iu:=by
 unfold sG at he ⊢;cases hN:s5 m' p with
 |none=>rw[hN]at he;cases he
 |some N'=>
  obtain⟨N,eN,hle,d1,d2⟩:=ahJ ga ga' hp iq h1 hN;rw[hN]at he;rw[eN];simp only[dF]at he ⊢;have nvN:N.iu:=by rw[d1];exact As m hp iq n
  have nvN':N'.iu:=by rw[d2];exact As m' hp iq n
  have nnN:N.neg=false:=by rw[d1];exact Da m p n
  have nnN':N'.neg=false:=by rw[d2];exact Da m' p n
  have L1:Lq (jD h) (jD h'):=by
   refine⟨yr hh,yr Bl,KE h,KE h',?_⟩;right;obtain⟨k1,_,_⟩:=h2.xQ ha;unfold jD;rw[k1,ha];exact⟨rfl,NC hh Bl h2 ha⟩
  have L2:Lq (iV N) (iV N'):=⟨qO nvN,qO nvN',Jx nnN,Jx nnN',.inr ⟨rfl,hle⟩⟩
  have L3:=Wt hp iq L1 L2;generalize iI (jD h) (iV N) p=u at *
  generalize iI (jD h') (iV N') p=u' at *
  split at he
  .cases he
  .rename_i hc;simp only[eX,cH,not_or,Int.not_le]at hc;obtain⟨c1,c2⟩:=hc;have c1:u'.all=false:=by simpa using c1
   obtain⟨ua,uh⟩:u.all=false/\u.hi.q<=u'.hi.q:=by
    rcases L3.le with h|h
    .rw [h]at c1;cases c1
    .exact h
   have c3:jA u.hi (jY (k+2:Nat))<0:=by
    rw[OC]at c2 ⊢
    grind
   rw[bl (by rw[ua];simp only[fN,cH];omega)];have L4:=Xh hp iq L3 (k+1) aD;have L5:=Lq.RX hp iq L3 (k+2) aD;have sv:∀ w:Iv,w.iu->(lk (iN 1) w p).iu:=λw hw=>rn (rf 1 aF) (sE hw) hp iq
   by_cases hz:(jj (nf u' p (k+1)) (lk (iN 1) (jj u' (iN (k+2:Nat)) p) p) p).all=true
   .simp only[hz,bN]at he;cases he
   .simp only[hz,bF]at he;cases he;have hz:(jj (nf u' p (k+1)) (lk (iN 1) (jj u' (iN (k+2:Nat)) p) p) p).all=false:=by simpa using hz
    have om:=fun {x:Iv} (hx:x.NN) (kC:x.all=false) (iO:jA x.hi (jY (k+2:Nat))<0)=>@Yc x
    have sn:mh (lk (iN 1) (jj u' (iN (k+2:Nat)) p) p)≠0:=by
     intro hs;rw[zN p (.inr hs)]at hz;cases hz
    obtain⟨sa',sg'⟩:=F9 (sv _ L5.v') sn;obtain⟨sa,sle⟩:=ahY hp iq L5 sa';have pos':0<(lk (iN 1) (jj u' (iN (k+2:Nat)) p) p).lo.q:=by
     rcases sg' with h|h
     .exact h
     .exfalso;have hu:=L3.v'.vo;have hd:=Ct L3.v' (rf (k+2) aD) hp iq hu (tI ((k+2:Nat):Int));have CS:=(YZ (rf 1 aF) L5.v' hp iq (tI 1) hd).kn sa';have c4:=(OC _ _).1 c2;rw[yc]at c4;have:u'.hi.q/(((k+2:Nat):Int):Rat)<=1:=by
       have q6:(0:Rat)<(((k+2:Nat):Int):Rat):=anu.2 aD;apply cW (c:=(((k+2:Nat):Int):Rat)) _ q6;rw[cL aO,dY];exact bH c4
      have o:((1:Int):Rat)=1:=rfl;rw[o]at CS
      grind
    have nn1:∀ {w:Iv},w.iu->w.all=false->0<=w.lo.q->w.NN:=by
     intro w hw U9 h0;have EX:=hw.q;rcases hw with⟨h,_⟩|⟨_,v1,v2,_⟩
     .rw [h]at U9;cases U9
     .exact ⟨NU v1.canon (by have:=(ri w.lo).2;apply b9;intro hc;have:=this.1 aD;grind),NU v2.canon (by have:=(ri w.hi).2;apply b9;intro hc;have:=this.1 aD;grind)⟩
    have N1:=nn1 (sv _ L5.v') sa' (bH pos');have N2:=nn1 (sv _ L5.v) sa aO;have L6:=RU hp iq L4 (sv _ L5.v) (sv _ L5.v') N2 N1 λ_ _=>⟨sa,sle⟩
    generalize jj (nf u p (k+1)) (lk (iN 1) (jj u (iN (k+2:Nat)) p) p) p=E at *
    generalize jj (nf u' p (k+1)) (lk (iN 1) (jj u' (iN (k+2:Nat)) p) p) p=E' at *
    obtain⟨ea,eh⟩:E.all=false/\E.hi.q<=E'.hi.q:=by
     rcases L6.le with h|h
     .rw [h]at hz;cases hz
     .exact h
    rw[bl (by rw[ea];decide)];have val:∀ {x:Iv},x.iu->x.NN->x.all=false->(⟨jf x.hi,x.hi,false⟩:Iv).iu:=by
     intro x hx hn kC;rcases hx with⟨h,_⟩|⟨_,v1,v2,_⟩
     .rw [h]at kC;cases kC
     .exact .inr ⟨rfl,uE v2,v2,by rw[qx,pk];have:=FU hn.hi;grind⟩
    refine⟨_,rfl,.inr ⟨rfl,?_,eh⟩,val L6.v L6.nn ea,val L6.v' L6.Jf hz⟩;show(jf E'.hi).q<=(jf E.hi).q;rw[pk,pk];grind
def BQ(s:Bool)(m:Nat)(e:Int)(hl:(ij m).length<=3000)(kZ:-1000000<=e)(kF:e<=1000000):ig 80 [bP s,iw (ij m),iP e] (im (canon s m e)):=by
 refine⟨call80,λw B vs hK hB hr=>?_⟩;obtain⟨v1,vs,rfl,h1,hr⟩:=hr.my;obtain⟨v2,vs,rfl,h2,hr⟩:=hr.my;obtain⟨v3,vs,rfl,h3,hr⟩:=hr.my;obtain rfl:=hr.pH;obtain rfl:=iR.kN h1;obtain rfl:=iR.kN h3;obtain⟨A,c,rfl,s1⟩:=uI (kS m) h2;have:=FY s A c (ij m) e w s1 hl kZ kF;rw[jR]at this;exact this.mono λe w' h=>rd B w e w' hB h
def BS(a:Dy)(ha:a.iu):ig 28 [im a] (bP true):=xZ call28 (λA c w h _=>ajQ a A c w h ha) rv
def FZ(a:Dy):ig 192 [im a] (iP a.jh):=xZ call192 (λA c w h _=>ajL a A c w h) rv
def OY(a:Dy):ig 117 [im a] (im (jf a)):=
 xZ call117 (λA c w h _=>by
  have:=ajB a.neg A c (ij a.m) a.e w h (yg _);rw[jR]at this;exact this) rd
def F0(a:Dy)(ha:uM a):ig 197 [im a] (iP a.jd):=xZ call197 (λA c w h _=>ajO a A c w h ha) rv
def ajy(n:Nat)(hn:n<4294967296):ig 27 [iP (n:Int)] (im (canon false n 0)):=by
 refine⟨call27,λw B vs hK hB hr=>?_⟩;obtain⟨v1,vs,rfl,h1,hr⟩:=hr.my;obtain rfl:=hr.pH;obtain rfl:=iR.kN h1;exact(ajx n w hn).mono λe w' h=>rd B w e w' hB h
end Go.Proofs.YtbhhompalmdaiaaGreatDoor
namespace Go.Proofs.YtbhhompalmdaiaaGreatDoor.Fp
def V2(m k:Nat):kD (m/2^k*2^k) m=0↔m%2^k=0:=by
 have h1:=cB m (2^k);rw[bE]at h1;unfold kD;split
 .simp;omega
 .split
  .have:=dH m (2^k);omega
  .simp;omega
def RJ{neg up more:Bool}{m p q:Nat}{e:Int}(hq:kH m e more p (neg != up)=q)(h:q=0\/¬16384<(iA q:Int)+e+jg m e p):kf neg m e more p up=canon neg q (e+jg m e p)/\jV neg m e more p up=0:=by
 have ho:lZ m e more p (neg != up)=false:=by
  unfold lZ;rw[hq];rcases h with h|h
  .simp [h]
  .simp [h]
 unfold kf jV;rw[ho,hq];simp
def RL{neg up more:Bool}{m p q:Nat}{e:Int}(hq:kH m e more p (neg != up)=q)(h0:q≠0)(h:16384<(iA q:Int)+e+jg m e p):
 ((neg != up)=true->kf neg m e more p up=iQ/\jV neg m e more p up=9)/\((neg != up)=false->kf neg m e more p up=canon neg (2^p-1) (16384-p)/\jV neg m e more p up=0):=by
 have ho:lZ m e more p (neg != up)=true:=by unfold lZ;rw[hq];simp[h0,h]
 unfold kf jV;rw[ho];constructor
 .intro hn;rw[hn];exact⟨rfl,rfl⟩
 .intro hn;rw[hn];exact⟨rfl,rfl⟩
end Go.Proofs.YtbhhompalmdaiaaGreatDoor.Fp
namespace Go.Proofs.YtbhhompalmdaiaaGreatDoor
open Go.RowKit Fp Pu
def ajI(d:Dy)(k:Int)(hd:d.iu)(lW:-32768<=k)(qY:k<=32768)(hr:nu (canon d.neg d.m (d.e+k))):ig 26 [im d,iP k] (.iB [im (canon d.neg d.m (d.e+k)),iP 0]):=by
 refine⟨call26,λw B vs hK hB ES=>?_⟩;obtain⟨v1,vs,rfl,h1,ES⟩:=ES.my;obtain⟨v2,vs,rfl,h2,ES⟩:=ES.my;obtain rfl:=ES.pH;obtain⟨A,c,rfl,s1⟩:=Hg h1;obtain rfl:=iR.kN h2;have:=ajJ d.neg A c (ij d.m) d.e k w s1 hd.uX lW qY (by rw[jR];exact hr);rw[jR]at this;exact this.mono λe w' h=>FX B w e w' hB h
def Ra{n:Int}{e:Int}:canon (jY n).neg (jY n).m ((jY n).e+e)=lY n e:=by
 unfold jY lY;by_cases h:n.natAbs=0
 .rw [h,Cp,Cp];show canon false 0 _=_;rw[Cp]
 .have h1:=Ha h;rw[show canon (decide (n<0)) n.natAbs 0=⟨decide (n<0),n.natAbs/2^kr n.natAbs,0+(kr n.natAbs:Int)⟩by unfold canon;rw[bl h]];show canon (decide (n<0)) (n.natAbs/2^kr n.natAbs) (0+(kr n.natAbs:Int)+e)=_;rw[<-KV _ _ _ (kr n.natAbs),h1];congr 1;omega
def A4{n e:Int}(h1:n.natAbs<4294967296)(h2:-1000<=e)(h3:e<=1000):(lY n e).iu:=by
 refine⟨qF _ _ _,?_⟩;unfold lY;by_cases h0:n.natAbs=0
 .rw [h0,Cp];exact .inl rfl
 .have:=A5 (s:=decide (n<0)) (e:=e) h0;have hb:iA n.natAbs<=32:=kV.2 h1;obtain⟨h4,h5,h6,_⟩:=this;have:=nj h6;exact .inr ⟨aD,aD,aD,aD⟩
def E7{n:Int}(h1:n.natAbs<4294967296):(jY n).iu:=A4 h1 aF aF 
def ajw(k:Nat)(w:World)(h0:0<k)(hn:k<4294967296):
 Calls prog 27 #[.int .i64 (-(k:Int))] w (tR w (canon true k 0)):=by
 have hm:=wi k aD;have vv:(k:Int)%4294967296=k:= aD ;rw[vv]at hm;have hd:(k:Int)/4294967296=0:= aD ;have iO:(-(k:Int))<0:= aD ;have Mw:decide ((-(k:Int))<0)=true:=bq iO;have hu:IntKind.u64.wrap (-(k:Int))=18446744073709551616-k:=by rw[IntKind.wrap_u64];omega
 have hs:IntKind.u64.wrap (-(18446744073709551616-(k:Int)))=k:=by rw[IntKind.wrap_u64];omega
 have HC:=anQ (λ(A:Option Addr) c w (h:Sl w A c [k,0])=>FY true A c [k,0] 0 w h aJ aF aF);have hv:val [k,0]=k:= aJ ;rw[hv]at HC;clear hv;generalize canon true k 0=d at *
 generalize hN:(-(k:Int))=N at *
 go_enter func27,ntmps27;go_wp2_with fail;refine(HC.out _ _ _ (Sl.Kb _ _ aJ _ _ k 0 rfl rfl hn aF)).mono ?_;rintro r w1 ⟨A1,c1,rfl,qL,jt⟩;have jS:iG (w.alloc (.cells #[.bool false,.slice none 0 0,.int .i64 0] 28)) w1:=(iG.alloc _ _).trans jt;have bx:=(jq.new w false none 0 0 0).ext jS;have b0:=bx.c0;have b1:=bx.c1;have b2:=bx.c2;have f0:=bx.fr 0;have f1:=bx.fr 1;have f2:=bx.fr 2;go_wp2;exact sU rfl rfl rfl (bx.set _ _ _ _ _) rfl (bx.qi qL _ _ _ _ _) (jq.pW ((iG.alloc _ _).trans jS) (bp _) _ _ _ _ _)
def Vu(k:Nat)(h0:0<k):jY (-(k:Int))=canon true k 0:=by
 unfold jY lY;rw[bq (show(-(k:Int))<0 by omega),fK,dj]
def OX(n:Int)(h:n.natAbs<4294967296):ig 27 [iP n] (im (jY n)):=by
 by_cases h0:0<=n
 .obtain ⟨k,rfl⟩:=dk h0;rw[wT];exact ajy k aD 
 .obtain ⟨k,rfl⟩:∃ k:Nat,n = -(k:Int):=⟨n.natAbs,aD⟩
  rw[Vu k aD];refine⟨call27,λw B vs hK hB hr=>?_⟩;obtain⟨v1,vs,rfl,h1,hr⟩:=hr.my;obtain rfl:=hr.pH;obtain rfl:=iR.kN h1;exact(ajw k w aD aD).mono λe w' h=>rd B w e w' hB h
open Classical in
noncomputable def Fp.sI(d:Dy)(k:Int):Dy:=if nu (canon d.neg d.m (d.e+k))then canon d.neg d.m (d.e+k)else iQ
open Classical in
noncomputable def Fp.vU(d:Dy)(k:Int):Int:=if nu (canon d.neg d.m (d.e+k))then 0 else 9
def YA(d:Dy)(k:Int):(sI d k).iu:=by
 unfold sI;split
 .rename_i h;exact⟨qF _ _ _,h⟩
 .exact qn
noncomputable def Fp.uH(x:Iv)(k:Int):Iv:=if x.all then il else mU (sI x.lo k) (vU x.lo k) (sI x.hi k) (vU x.hi k)
def Fp.uS(x:Iv):Iv:=if x.all then x else⟨jf (kO x),kO x,false⟩
def qp(y:Iv):Nat->Iv
 | 0=>iN 1
 |j+1=>jj (iI (qp y j) y 320) (iN ((j+1:Nat):Int)) 320
def vc(y:Iv):Nat->Iv
 | 0=>iN 1
 |j+1=>jL (vc y j) (qp y (j+1)) 320
def Sn(y:Iv):Iv:=jL (vc y 20) (uS (iI (jj (iI (qp y 20) y 320) (iN 21) 320) (iN 2) 320)) 320
def tV(y:Iv):Nat->Iv
 | 0=>Sn y
 |j+1=>iI (tV y j) (tV y j) 320
def N5{n:Int}(h:n.natAbs<4294967296):(iN n).iu:=qO (E7 h)
def KH{x:Iv}(hx:x.iu):(uS x).iu:=by
 unfold uS;cases kC:x.all
 .have he:=hx.kn;have hm:=vI he.1 he.2;simp only[bZ,bF];refine .inr ⟨rfl,uE hm,hm,?_⟩;show jA (jf (kO x)) (kO x)<=0;rw[qx,pk];obtain⟨a1,a2,_⟩:=C4 hx.q;have:=hx.q
  grind
 .exact hx
def aky{d:Dy}{k:Int}(h:vU d k=0):sI d k=canon d.neg d.m (d.e+k):=by
 unfold vU at h;unfold sI;split at h
 .rename_i h1;rw[bn h1]
 .cases h
def JX{d:Dy}{k:Int}(h:vU d k=0):(sI d k).q=d.q*P2 k:=by
 rw[aky h,sF,pU d,tO];cases d.neg<;>simp<;>grind
def YB{x:Iv}(hx:x.iu)(k:Int):(uH x k).iu:=by
 unfold uH;split
 .exact mA
 .unfold mU;split
  .exact mA
  .rename_i h;refine .inr ⟨rfl,YA _ _,YA _ _,?_⟩;rw[qx,JX aD,JX aD,BI];exact hx.q
def akz{x:Iv}{r:Rat}(h:x.jB r)(k:Int):(uH x k).jB (r*P2 k):=by
 unfold uH;split
 .exact .inl rfl
 .rename_i ha;unfold mU;split
  .exact .inl rfl
  .obtain ⟨h1,h2⟩:=h.kn (by simpa using ha);refine .inr ⟨?_,?_⟩
   .show (sI x.lo k).q<=_;rw[JX aD,BI];exact h1
   .show _<=(sI x.hi k).q;rw[JX aD,BI];exact h2
def Ft(x y:Iv):Prop:=x.all=true\/y.all=true\/(jA x.lo y.hi<=0/\jA y.lo x.hi<=0)
def Aq(x y:Iv):Iv:=if x.all then y else if y.all then x else⟨je x.lo y.lo,ji x.hi y.hi,false⟩
def agW{x y:Iv}(hx:x.iu)(hy:y.iu)(h:Ft x y)(xa:x.all=false)(ya:y.all=false):jA (je x.lo y.lo) (ji x.hi y.hi)<=0:=by
 have h1:=hx.q;have h2:=hy.q;rcases h with h|h|⟨h3,h4⟩
 .rw [h]at xa;cases xa
 .rw [h]at ya;cases ya
 .rw [qx]at h3 h4 ⊢;obtain⟨_,_,a⟩:=zg x.lo y.lo;obtain⟨_,_,b⟩:=BP x.hi y.hi;rcases a with a|a<;>rcases b with b|b<;>rw[a,b]<;>assumption
def agV{W Z:Iv}(h:W.all=false->Z.all=false->W.lo.q<=Z.hi.q/\Z.lo.q<=W.hi.q):Ft W Z:=by
 unfold Ft;cases hw:W.all
 .cases hz:Z.all
  .exact .inr (.inr ⟨(qx _ _).2 (h hw hz).1,(qx _ _).2 (h hw hz).2⟩)
  .exact .inr (.inl rfl)
 .exact .inl rfl
def Ed(y:Iv):∀ j,(qp y j).iu
 | 0=>xc 1 aF 
 |j+1=>pd _ _ aF aF 
def Cw(y:Iv):∀ j,(vc y j).iu
 | 0=>xc 1 aF 
 |j+1=>rn (Cw y j) (Ed y (j+1)) aF aF 
def Hl(y:Iv):∀ j,(tV y j).iu
 | 0=>rn (Cw y 20) (KH (lX _ _ aF aF)) aF aF 
 |j+1=>lX _ _ aF aF 
def Vx(nl:Bool)(n N:Nat)(el:Nat->Nat->E)(g:FuncId)(cap:List E)(i:Nat):PS:=⟨19,false,[(8,.e (iP i)),(7,.e (iP n)),(0,.e (.sl nl n 1 el)),(1,.e (.fn g cap))],[]⟩
def Vw(nl:Bool)(n:Nat)(el:Nat->Nat->E)(g:FuncId)(cap:List E)(i:Nat):PS:=⟨19,false,[(8,.e (iP i)),(7,.e (iP n)),(0,.e (.sl nl n 1 el)),(1,.e (.fn g cap))],[]⟩
def VS(nl:Bool)(n:Nat)(el:Nat->Nat->E)(g:FuncId)(cap:List E)(i:Nat):PS:=⟨19,false,[(8,.e (iP i)),(7,.e (iP n)),(0,.e (.sl nl n 1 el)),(1,.e (.fn g cap))],[]⟩
def VK(nl:Bool)(n N:Nat)(el:Nat->Nat->E)(g:FuncId)(cap:List E)(i:Nat):PS:=⟨19,false,[(8,.e (iP i)),(7,.e (iP n)),(0,.e (.sl nl n 7 el)),(1,.e (.fn g cap))],[]⟩
def VJ(nl:Bool)(n:Nat)(el:Nat->Nat->E)(g:FuncId)(cap:List E)(i:Nat):PS:=⟨19,false,[(8,.e (iP i)),(7,.e (iP n)),(0,.e (.sl nl n 7 el)),(1,.e (.fn g cap))],[]⟩
def Yl(nl:Bool)(n N:Nat)(el:Nat->Nat->E)(g:FuncId)(cap:List E)(i:Nat):PS:=⟨19,false,[(8,.e (iP i)),(7,.e (iP n)),(0,.e (.sl nl n 1 el)),(1,.e (.fn g cap))],[]⟩
def Yk(nl:Bool)(n:Nat)(el:Nat->Nat->E)(g:FuncId)(cap:List E)(i:Nat):PS:=⟨19,false,[(8,.e (iP i)),(7,.e (iP n)),(0,.e (.sl nl n 1 el)),(1,.e (.fn g cap))],[]⟩
def sY{p:Nat->Bool}{n:Nat}(h:∃ i,i<n/\p i=true):∃ N,N<n/\p N=true/\∀ i,i<N->p i=false:=by
 induction n with
 |zero=>obtain⟨i,h1,_⟩:=h;omega
 |succ n ih=>
  by_cases hn:∃ i,i<n/\p i=true
  .obtain ⟨N,h1,h2,h3⟩:=ih hn;exact⟨N,aD,h2,h3⟩
  .obtain ⟨i,h1,h2⟩:=h;have:i=n:=by
    by_cases q:i=n
    .exact q
    .exact absurd ⟨i,aD,h2⟩ hn
   subst this;exact⟨i,h1,h2,λj hj=>by simpa using λq=>hn ⟨j,hj,q⟩⟩
def afK(nl:Bool)(n:Nat)(el:Nat->Nat->E)(g:FuncId)(cap:List E)(p:Nat->Bool)(hp:∀ i,i<n->ig g ((el i 0)::cap) (bP (p i)))(N:Nat)(hl:n<=1000000)(oN:N<n)(jk:∀ i,i<N->p i=false)(hN:p N=true):ig 231 [.sl nl n 1 el,.fn g cap] (iP N):=
 al call231 func231 (af [.s (Sp.jP (Vx nl n N el g cap) 0 N aD (λi hi qH=>by
    exact iM (af [tT 9 ((i:Int)<n) aD,iX (i:Int) n aD,.c (hp i aD:ig g ((el i 0)::cap) _),ai 16 (p i) (jk i aD),iC ((i:Int)+1) aD]) aG)
  (λhi=>by
    exact iM (af [tT 9 ((N:Int)<n) aD,iX (N:Int) n aD,.c (hp N aD:ig g ((el N 0)::cap) _),ah 16 (p N) hN]) aG) aK:jO 2 f231 (Vx nl n N el g cap 0) .ret ⟨19,false,[(4,.e (iP N))],[]⟩) .nil]) 
def afL(nl:Bool)(n:Nat)(el:Nat->Nat->E)(g:FuncId)(cap:List E)(p:Nat->Bool)(hp:∀ i,i<n->ig g ((el i 0)::cap) (bP (p i)))(hl:n<=1000000)(jk:∀ i,i<n->p i=false):ig 231 [.sl nl n 1 el,.fn g cap] (iP (-1)):=
 al call231 func231 (af [.s (Sp.jP (Vw nl n el g cap) 0 n aD (λi hi qH=>by
    exact iM (af [tT 9 ((i:Int)<n) aD,iX (i:Int) n aD,.c (hp i aD:ig g ((el i 0)::cap) _),ai 16 (p i) (jk i aD),iC ((i:Int)+1) aD]) aG)
  (λhi=>by
    exact iM (af [tF 9 ((n:Int)<n) aD]) aG) aK:jO 2 f231 (Vw nl n el g cap 0) (.exit 0) ⟨19,false,[],[]⟩) .nil]) 
def amN(nl:Bool)(n:Nat)(el:Nat->Nat->E)(g:FuncId)(cap:List E)(p:Nat->Bool)(hp:∀ i,i<n->ig g ((el i 0)::cap) (bP (p i)))(N:Nat)(hl:n<=1000000)(oN:N<n)(jk:∀ i,i<N->p i=false)(hN:p N=true):ig 164 [.sl nl n 1 el,.fn g cap] (bP true):=
 al call164 func164 (af [ag [.sl nl n 1 el,.fn g cap] (afK nl n el g cap p hp N hl oN jk hN),tT 8 (0<=(N:Int)) aD]) 
def Vy(nl:Bool)(n:Nat)(el:Nat->Nat->E)(g:FuncId)(cap:List E)(p:Nat->Bool)(hp:∀ i,i<n->ig g ((el i 0)::cap) (bP (p i)))(hl:n<=1000000)(jk:∀ i,i<n->p i=false):ig 164 [.sl nl n 1 el,.fn g cap] (bP false):=
 al call164 func164 (af [ag [.sl nl n 1 el,.fn g cap] (afL nl n el g cap p hp hl jk),ai 8 (decide ((0:Int)<=(-1))) aF]) 
def agA(nl:Bool)(n:Nat)(el:Nat->Nat->E)(g:FuncId)(cap:List E)(p:Nat->Bool)(hp:∀ i,i<n->ig g ((el i 0)::cap) (bP (p i)))(hl:n<=1000000)(jk:∀ i,i<n->p i=false):ig 296 [.sl nl n 1 el,.fn g cap] (iP (-1)):=
 al call296 func296 (af [.s (Sp.jP (VS nl n el g cap) 0 n aD (λi hi qH=>by
    exact iM (af [tT 9 ((i:Int)<n) aD,iX (i:Int) n aD,.c (hp i aD:ig g ((el i 0)::cap) _),ai 16 (p i) (jk i aD),iC ((i:Int)+1) aD]) aG)
  (λhi=>by
    exact iM (af [tF 9 ((n:Int)<n) aD]) aG) aK:jO 2 f296 (VS nl n el g cap 0) (.exit 0) ⟨19,false,[],[]⟩) .nil]) 
def agv(nl:Bool)(n:Nat)(el:Nat->Nat->E)(g:FuncId)(cap:List E)(p:Nat->Bool)(hp:∀ i,i<n->ig g ((el i 0)::cap) (bP (p i)))(hl:n<=1000000)(jk:∀ i,i<n->p i=false):ig 272 [.sl nl n 1 el,.fn g cap] (bP false):=
 al call272 func272 (af [ag [.sl nl n 1 el,.fn g cap] (agA nl n el g cap p hp hl jk),ai 8 (decide ((0:Int)<=(-1))) aF]) 
def af0(nl:Bool)(n:Nat)(el:Nat->Nat->E)(g:FuncId)(cap:List E)(p:Nat->Bool)(hp:∀ i,i<n->ig g ((.agg [el i 0,el i 1,el i 2,el i 3,el i 4,el i 5,el i 6])::cap) (bP (p i)))(N:Nat)(hl:n<=1000000)(oN:N<n)(jk:∀ i,i<N->p i=false)(hN:p N=true):ig 225 [.sl nl n 7 el,.fn g cap] (iP N):=
 al call225 func225 (af [.s (Sp.jP (VK nl n N el g cap) 0 N aD (λi hi qH=>by
    exact iM (af [tT 9 ((i:Int)<n) aD,iX (i:Int) n aD,.c (hp i aD:ig g ((.agg [el i 0,el i 1,el i 2,el i 3,el i 4,el i 5,el i 6])::cap) _),ai 16 (p i) (jk i aD),iC ((i:Int)+1) aD]) aG)
  (λhi=>by
    exact iM (af [tT 9 ((N:Int)<n) aD,iX (N:Int) n aD,.c (hp N aD:ig g ((.agg [el N 0,el N 1,el N 2,el N 3,el N 4,el N 5,el N 6])::cap) _),ah 16 (p N) hN]) aG) aK:jO 2 f225 (VK nl n N el g cap 0) .ret ⟨19,false,[(4,.e (iP N))],[]⟩) .nil]) 
def af2(nl:Bool)(n:Nat)(el:Nat->Nat->E)(g:FuncId)(cap:List E)(p:Nat->Bool)(hp:∀ i,i<n->ig g ((.agg [el i 0,el i 1,el i 2,el i 3,el i 4,el i 5,el i 6])::cap) (bP (p i)))(hl:n<=1000000)(jk:∀ i,i<n->p i=false):ig 225 [.sl nl n 7 el,.fn g cap] (iP (-1)):=
 al call225 func225 (af [.s (Sp.jP (VJ nl n el g cap) 0 n aD (λi hi qH=>by
    exact iM (af [tT 9 ((i:Int)<n) aD,iX (i:Int) n aD,.c (hp i aD:ig g ((.agg [el i 0,el i 1,el i 2,el i 3,el i 4,el i 5,el i 6])::cap) _),ai 16 (p i) (jk i aD),iC ((i:Int)+1) aD]) aG)
  (λhi=>by
    exact iM (af [tF 9 ((n:Int)<n) aD]) aG) aK:jO 2 f225 (VJ nl n el g cap 0) (.exit 0) ⟨19,false,[],[]⟩) .nil]) 
def af1(nl:Bool)(n:Nat)(el:Nat->Nat->E)(g:FuncId)(cap:List E)(p:Nat->Bool)(hp:∀ i,i<n->ig g ((.agg [el i 0,el i 1,el i 2,el i 3,el i 4,el i 5,el i 6])::cap) (bP (p i)))(N:Nat)(hl:n<=1000000)(oN:N<n)(jk:∀ i,i<N->p i=false)(hN:p N=true):ig 150 [.sl nl n 7 el,.fn g cap] (bP true):=
 al call150 func150 (af [ag [.sl nl n 7 el,.fn g cap] (af0 nl n el g cap p hp N hl oN jk hN),tT 8 (0<=(N:Int)) aD]) 
def xN(nl:Bool)(n:Nat)(el:Nat->Nat->E)(g:FuncId)(cap:List E)(p:Nat->Bool)(hp:∀ i,i<n->ig g ((.agg [el i 0,el i 1,el i 2,el i 3,el i 4,el i 5,el i 6])::cap) (bP (p i)))(hl:n<=1000000)(jk:∀ i,i<n->p i=false):ig 150 [.sl nl n 7 el,.fn g cap] (bP false):=
 al call150 func150 (af [ag [.sl nl n 7 el,.fn g cap] (af2 nl n el g cap p hp hl jk),ai 8 (decide ((0:Int)<=(-1))) aF]) 
def Nl(nl:Bool)(n:Nat)(el:Nat->Nat->E)(g:FuncId)(cap:List E)(p:Nat->Bool)(hp:∀ i,i<n->ig g ((.agg [el i 0,el i 1,el i 2,el i 3,el i 4,el i 5,el i 6])::cap) (bP (p i)))(hl:n<=1000000):ig 150 [.sl nl n 7 el,.fn g cap] (bP ((List.range n).any p)):=by
 by_cases h:∃ i,i<n/\p i=true
 .obtain ⟨N,h1,h2,h3⟩:∃ N,N<n/\p N=true/\∀ i,i<N->p i=false:=sY h;refine(af1 nl n el g cap p hp N hl h1 h3 h2).kj (.jb ?_);rw[dE.2 ⟨N,cz.2 h1,h2⟩]
 .refine (xN nl n el g cap p hp hl λi hi=>by simpa using λq=>h ⟨i,hi,q⟩).kj (.jb ?_);rw[dP.2 λi hi q=>h ⟨i,cz.1 hi,q⟩]
def aka(nl:Bool)(n:Nat)(el:Nat->Nat->E)(g:FuncId)(cap:List E)(p:Nat->Bool)(hp:∀ i,i<n->ig g ((el i 0)::cap) (bP (p i)))(N:Nat)(hl:n<=1000000)(oN:N<n)(jk:∀ i,i<N->p i=false)(hN:p N=true):ig 224 [.sl nl n 1 el,.fn g cap] (iP N):=
 al call224 func224 (af [.s (Sp.jP (Yl nl n N el g cap) 0 N aD (λi hi qH=>by
    exact iM (af [tT 9 ((i:Int)<n) aD,iX (i:Int) n aD,.c (hp i aD:ig g ((el i 0)::cap) _),ai 16 (p i) (jk i aD),iC ((i:Int)+1) aD]) aG)
  (λhi=>by
    exact iM (af [tT 9 ((N:Int)<n) aD,iX (N:Int) n aD,.c (hp N aD:ig g ((el N 0)::cap) _),ah 16 (p N) hN]) aG) aK:jO 2 f224 (Yl nl n N el g cap 0) .ret ⟨19,false,[(4,.e (iP N))],[]⟩) .nil]) 
def akd(nl:Bool)(n:Nat)(el:Nat->Nat->E)(g:FuncId)(cap:List E)(p:Nat->Bool)(hp:∀ i,i<n->ig g ((el i 0)::cap) (bP (p i)))(hl:n<=1000000)(jk:∀ i,i<n->p i=false):ig 224 [.sl nl n 1 el,.fn g cap] (iP (-1)):=
 al call224 func224 (af [.s (Sp.jP (Yk nl n el g cap) 0 n aD (λi hi qH=>by
    exact iM (af [tT 9 ((i:Int)<n) aD,iX (i:Int) n aD,.c (hp i aD:ig g ((el i 0)::cap) _),ai 16 (p i) (jk i aD),iC ((i:Int)+1) aD]) aG)
  (λhi=>by
    exact iM (af [tF 9 ((n:Int)<n) aD]) aG) aK:jO 2 f224 (Yk nl n el g cap 0) (.exit 0) ⟨19,false,[],[]⟩) .nil]) 
def akc(nl:Bool)(n:Nat)(el:Nat->Nat->E)(g:FuncId)(cap:List E)(p:Nat->Bool)(hp:∀ i,i<n->ig g ((el i 0)::cap) (bP (p i)))(N:Nat)(hl:n<=1000000)(oN:N<n)(jk:∀ i,i<N->p i=false)(hN:p N=true):ig 148 [.sl nl n 1 el,.fn g cap] (bP true):=
 al call148 func148 (af [ag [.sl nl n 1 el,.fn g cap] (aka nl n el g cap p hp N hl oN jk hN),tT 8 (0<=(N:Int)) aD]) 
def Yo(nl:Bool)(n:Nat)(el:Nat->Nat->E)(g:FuncId)(cap:List E)(p:Nat->Bool)(hp:∀ i,i<n->ig g ((el i 0)::cap) (bP (p i)))(hl:n<=1000000)(jk:∀ i,i<n->p i=false):ig 148 [.sl nl n 1 el,.fn g cap] (bP false):=
 al call148 func148 (af [ag [.sl nl n 1 el,.fn g cap] (akd nl n el g cap p hp hl jk),ai 8 (decide ((0:Int)<=(-1))) aF]) 
def JS(nl:Bool)(n:Nat)(el:Nat->Nat->E)(g:FuncId)(cap:List E)(p:Nat->Bool)(hp:∀ i,i<n->ig g ((el i 0)::cap) (bP (p i)))(hl:n<=1000000):ig 148 [.sl nl n 1 el,.fn g cap] (bP ((List.range n).any p)):=by
 by_cases h:∃ i,i<n/\p i=true
 .obtain ⟨N,h1,h2,h3⟩:∃ N,N<n/\p N=true/\∀ i,i<N->p i=false:=sY h;refine(akc nl n el g cap p hp N hl h1 h3 h2).kj (.jb ?_);rw[dE.2 ⟨N,cz.2 h1,h2⟩]
 .refine (Yo nl n el g cap p hp hl λi hi=>by simpa using λq=>h ⟨i,hi,q⟩).kj (.jb ?_);rw[dP.2 λi hi q=>h ⟨i,cz.1 hi,q⟩]
def Wr(a b:List Nat)(x:Nat):PS:=⟨67,false,[(20,.e (iP x)),(19,.e (iP a.length)),(18,.e (iw a)),(5,.own 17),(1,.e (iw b))],[(17,.row false 72 (a.length+b.length) 1 (jl (lU a b x)))]⟩
def Ws(a b:List Nat)(x:Nat)(k:Nat):PS:=⟨67,false,[(27,.e (iP k)),(26,.e (iP b.length)),(25,.e (iw b)),(8,.e (.v (.int .u64 (((mX (a.getD x 0) x b (lU a b x) k).2:Nat):Int)))),(7,.e (.v (.int .u32 (a.getD x 0:Int)))),(6,.e (iP x)),(20,.e (iP x)),(19,.e (iP a.length)),(18,.e (iw a)),(5,.own 17),(1,.e (iw b))],[(17,.row false 72 (a.length+b.length) 1 (jl ((mX (a.getD x 0) x b (lU a b x) k).1)))]⟩
def ahf(a b:List Nat)(ha:iK a)(hb:iK b)(h1:a.length<=3000)(h2:b.length<=3000):ig 228 [iw a,iw b] (iw (lU a b a.length)):=
 al call228 func228 (ae [iC ((a.length:Int)+b.length) aD,.a (aD:0<=(((a.length:Int)+b.length):Int)/\(((a.length:Int)+b.length):Int)<=(((a.length:Int)+b.length):Int)),.a (aD:((4:Nat):Int)*((a.length:Int)+b.length)<=281474976710656/\(((a.length:Int)+b.length):Int)<=9223372036854775807),.s (Sp.jP (Wr a b) 0 a.length aD (λx hx lp=>by
    have f1:=ha.getD x;have so:=FB ha hb x aD;have g1:=so.len;have g2:=(FA f1 hb so.ok (i:=x) aD b.length aD).len;have g3:=(FA f1 hb so.ok (i:=x) aD b.length aD).lt;exact iM (ae [tT 21 ((x:Int)<a.length) aD,iX (x:Int) (a.length) aD,.s (Sp.jP (Ws a b x) 0 b.length aD (λk hk qI=>by
    have f2:=hb.getD k;have q:=FA f1 hb so.ok (i:=x) aD k aD;have f3:=q.ok.getD (x+k);have f4:=q.lt;have f5:=q.len;have f6:=Wx f1 f2;exact iM (ae [tT 28 ((k:Int)<b.length) aD,iX (k:Int) (b.length) aD,.o 33 (.int (oj _ aD):aj (.v (.int .u64 (IntKind.u64.wrap (a.getD x 0:Int)))) (.v (.int .u64 (a.getD x 0:Int)))),.o 35 (.int (oj _ aD):aj (.v (.int .u64 (IntKind.u64.wrap (b.getD k 0:Int)))) (.v (.int .u64 (b.getD k 0:Int)))),
     nH ((a.getD x 0:Int)*(b.getD k 0:Int)) aD,iC ((x:Int)+k) aD,iX ((x+k:Nat):Int) (a.length+b.length) aD,.a (aD:(x+k)<(a.length+b.length)),.o 43 (.int (oj _ aD):aj (.v (.int .u64 (IntKind.u64.wrap ((((mX (a.getD x 0) x b (lU a b x) k).1).getD (x+k) 0:Nat):Int)))) (.v (.int .u64 ((((mX (a.getD x 0) x b (lU a b x) k).1).getD (x+k) 0:Nat):Int)))),
     nH ((((a.getD x 0)*(b.getD k 0):Nat):Int)+((((mX (a.getD x 0) x b (lU a b x) k).1).getD (x+k) 0:Nat):Int)) aD,
     nH (((((a.getD x 0)*(b.getD k 0))+(((mX (a.getD x 0) x b (lU a b x) k).1).getD (x+k) 0):Nat):Int)+(((mX (a.getD x 0) x b (lU a b x) k).2:Nat):Int)) aD,
     iC ((x:Int)+k) aD,.o 52 (.int (sr _):aj (.v (.int .u32 (IntKind.u32.wrap (((((a.getD x 0)*(b.getD k 0))+(((mX (a.getD x 0) x b (lU a b x) k).1).getD (x+k) 0))+(mX (a.getD x 0) x b (lU a b x) k).2:Nat):Int)))) (.v (.int .u32 ((((((a.getD x 0)*(b.getD k 0))+(((mX (a.getD x 0) x b (lU a b x) k).1).getD (x+k) 0))+(mX (a.getD x 0) x b (lU a b x) k).2)%4294967296:Nat):Int)))),.a (aD:0<=(32:Int)/\(32:Int)<=((64:Nat):Int)),.o 54 (.int (zo _):aj (.v (.int .u64 ((((((a.getD x 0)*(b.getD k 0))+(((mX (a.getD x 0) x b (lU a b x) k).1).getD (x+k) 0))+(mX (a.getD x 0) x b (lU a b x) k).2:Nat):Int)/2^32))) (.v (.int .u64 ((((((a.getD x 0)*(b.getD k 0))+(((mX (a.getD x 0) x b (lU a b x) k).1).getD (x+k) 0))+(mX (a.getD x 0) x b (lU a b x) k).2)/4294967296:Nat):Int)))),
     iX ((x+k:Nat):Int) (a.length+b.length) aD,.a (aD:(x+k)<(a.length+b.length)),iC ((k:Int)+1) aD]<|.e (af [.o 8 (.int aS:aj (.v (.int .u64 ((((((a.getD x 0)*(b.getD k 0))+(((mX (a.getD x 0) x b (lU a b x) k).1).getD (x+k) 0))+(mX (a.getD x 0) x b (lU a b x) k).2)/4294967296:Nat):Int))) (.v (.int .u64 (((mX (a.getD x 0) x b (lU a b x) (k+1)).2:Nat):Int)))),.b 17 (O8 rfl aD:Bx.le (.row false 72 (a.length+b.length) 1 (λi' j'=>if i'=(x+k)/\0<=j'/\j'<0+1 then[.v (.int .u32 ((((((a.getD x 0)*(b.getD k 0))+(((mX (a.getD x 0) x b (lU a b x) k).1).getD (x+k) 0))+(mX (a.getD x 0) x b (lU a b x) k).2)%4294967296:Nat):Int))].getD (j'-0) .any else(jl ((mX (a.getD x 0) x b (lU a b x) k).1)) i' j')) (.row false 72 (a.length+b.length) 1 (jl ((mX (a.getD x 0) x b (lU a b x) (k+1)).1))))])) aG)
  (λhk=>by
    exact iM (af [tF 28 ((b.length:Int)<b.length) aD]) aG) aK:jO 7 f228 (Ws a b x 0) (.exit 2) ⟨67,false,[(8,.e (.v (.int .u64 (((mX (a.getD x 0) x b (lU a b x) b.length).2:Nat):Int)))),(6,.e (iP x)),(20,.e (iP x)),(19,.e (iP a.length)),(18,.e (iw a)),(5,.own 17),(1,.e (iw b))],[(17,.row false 72 (a.length+b.length) 1 (jl ((mX (a.getD x 0) x b (lU a b x) b.length).1)))]⟩) (af [.o 8 (.int aS:aj (.v (.int .u64 0)) (.v (.int .u64 (((mX (a.getD x 0) x b (lU a b x) 0).2:Nat):Int)))),.b 17 (.jb rfl:Bx.le (.row false 72 (a.length+b.length) 1 (jl (lU a b x))) (.row false 72 (a.length+b.length) 1 (jl ((mX (a.getD x 0) x b (lU a b x) 0).1))))]),
     iC ((x:Int)+b.length) aD,.o 63 (.int (sr _):aj (.v (.int .u32 (IntKind.u32.wrap (((mX (a.getD x 0) x b (lU a b x) b.length).2:Nat):Int)))) (.v (.int .u32 (((mX (a.getD x 0) x b (lU a b x) b.length).2%4294967296:Nat):Int)))),
     iX ((x+b.length:Nat):Int) (a.length+b.length) aD,.a (aD:(x+b.length)<(a.length+b.length)),iC ((x:Int)+1) aD]<|.e (af [.b 17 (O8 rfl aD:Bx.le (.row false 72 (a.length+b.length) 1 (λi' j'=>if i'=(x+b.length)/\0<=j'/\j'<0+1 then[.v (.int .u32 (((mX (a.getD x 0) x b (lU a b x) b.length).2%4294967296:Nat):Int))].getD (j'-0) .any else(jl ((mX (a.getD x 0) x b (lU a b x) b.length).1)) i' j')) (.row false 72 (a.length+b.length) 1 (jl (lU a b (x+1)))))])) aG)
  (λhx=>by
    exact iM (af [tF 21 ((a.length:Int)<a.length) aD]) aG) aK:jO 3 f228 (Wr a b 0) (.exit 0) ⟨67,false,[(5,.own 17)],[(17,.row false 72 (a.length+b.length) 1 (jl (lU a b a.length)))]⟩) (af [.b 17 (F3 rfl (λi=>by simp[lU,bu,gv];split<;>rfl):Bx.le (.row false 72 (a.length+b.length) 1 (λ_ j_=>[.v (.int .u32 0)].getD j_ .any)) (.row false 72 (a.length+b.length) 1 (jl (lU a b 0))))])]<|rR (iw (lU a b a.length)) (zr (by rw[(FB ha hb a.length aD).len]):E.le (.sl false (a.length+b.length) 1 (jl (lU a b a.length))) (iw (lU a b a.length)))) 
def WB(L:List Nat)(h:L.length<=256):ig 273 [iw L] (bP false):=
 ak call273 func273 (af [tF 5 (256<(L.length:Int)) aD]) 
def WC(L:List Nat)(M:List Nat)(h1:L.length<=256)(h2:M.length<=256):ig 226 [(.sl true 2 1 λi_ j_=>[iw L,iw M].getD (i_*1+j_) (.v (.bool false)))] (bP false):=
 ak call226 func226 (af [.c (agv true 2 _ 273 [] (λ_=>false) (λi hi=>(match i,hi with|0,_=>WB _ h1|1,_=>WB _ h2|n+2,hi=>absurd hi aD)) aD (λ_ _=>rfl):ig 272 [(.sl true 2 1 λi_ j_=>[iw L,iw M].getD (i_*1+j_) (.v (.bool false))),.fn 273 []] _)]) 
def WD(L M:List Nat)(hL:iK L)(hM:iK M)(h1:L.length<=256)(h2:M.length<=256)(hf:(ij (val L*val M)).length<=256):ig 156 [iw L,iw M] (.iB [iw (ij (val L*val M)),iP 0]):=by
 have ka:=hL.iy;have kb:=hM.iy;have ta:=oF L;have tb:=oF M;unfold mn at ta tb;have km:=(FB ka kb _ (bp _)).ok;have he:iy (lU (iy L) (iy M) (iy L).length)=ij (val L*val M):=by rw[rJ km,al6 ka kb,oG,oG]
 have hd:(iy (lU (iy L) (iy M) (iy L).length)).length<=256:=by rw[he];exact hf
 exact ak call156 func156 (ae [ag [(.sl true 2 1 λi_ j_=>[iw L,iw M].getD (i_*1+j_) (.v (.bool false)))] (WC _ _ aE aE),ag [iw L] (y6 _ hL),ag [iw M] (y6 _ hM),ag [iw (iy L),iw (iy M)] (ahf _ _ ka kb aD aD),ag [iw (lU (iy L) (iy M) (iy L).length)] (ahe _ km hd)]<|rQ (.iB [iw (iy (lU (iy L) (iy M) (iy L).length)),iP 0]) (.iB [iw (ij (val L*val M)),iP 0]) (by rw[he])) 
def ahg(m n:Nat)(h1:(ij m).length<=256)(h2:(ij n).length<=256)(hf:(ij (m*n)).length<=256):ig 156 [iw (ij m),iw (ij n)] (.iB [iw (ij (m*n)),iP 0]):=by
 have:=WD (ij m) (ij n) (kS m) (kS n) h1 h2 (by rw[jR,jR];exact hf);rwa[jR,jR]at this
def yd(m n:Nat)(h1:(ij m).length<=256)(h2:n<=65536)(h3:(ij (m*2^n)).length<=256):ig 268 [iw (ij m),iP n] (iw (ij (m*2^n))):=
 ak call268 func268 (af [ag [iw (ij m),iP n] (ahi _ _ aD aD aD)]) 
def OS(m n:Nat)(h1:(ij m).length<=256)(h2:n<=65536):ig 295 [iw (ij m),iP n] (.iB [iw (ij (m/2^n)),bP (decide (m%2^n≠0))]):=by
 have hb:=xu h1;have hq:(ij (m/2^n)).length<=256:=nV (by have:=tg (cE m (2^n));omega);have uj:(ij (m/2^n*2^n)).length<=256:=nV (by have:=tg (dH m (2^n));omega);have hr:(ij (m/2^iA m)).length<=256:=nV (by have:=tg (cE m (2^iA m));omega);have nU:(ij (m/2^iA m*2^iA m)).length<=256:=nV (by have:=tg (dH m (2^iA m));omega);by_cases hn:iA m<n
 .have q1:=RW (dG hn);have q2:=RW (bp (iA m));exact ak call295 func295 (ae [ag [iw (ij m)] (vN _ aD),tT 11 ((iA m:Int)<n) aD,ag [iw (ij m)] (vN _ aD),ag [iw (ij m),iP (iA m:Int)] (WH _ _ aD aD),ag [iw (ij (m/2^(iA m))),iP (iA m:Int)] (yd _ _ aD aD aD),ag [iw (ij ((m/2^(iA m))*2^(iA m))),iw (ij m)] (NO _ _ aD aD)]<|rQ (.iB [iw (ij (m/2^(iA m))),bP ((kD ((m/2^(iA m))*2^(iA m)) m) != 0)]) (.iB [iw (ij (m/2^n)),bP (decide (m%2^n≠0))]) (by rw[V1,q1.1,q1.2,q2.1,q2.2])) 
 .exact ak call295 func295 (ae [ag [iw (ij m)] (vN _ aD),tF 11 ((iA m:Int)<n) aD,ag [iw (ij m),iP n] (WH _ _ aD aD),ag [iw (ij (m/2^n)),iP n] (yd _ _ aD aD aD),ag [iw (ij ((m/2^n)*2^n)),iw (ij m)] (NO _ _ aD aD)]<|rQ (.iB [iw (ij (m/2^n)),bP ((kD ((m/2^n)*2^n) m) != 0)]) (.iB [iw (ij (m/2^n)),bP (decide (m%2^n≠0))]) (by rw[V1])) 
abbrev PG:E:=.sl false 1 1 λi_ j_=>[.v (.int .u32 1)].getD (i_*1+j_) (.v (.bool false))
abbrev Ki(p):=iw (ij (0*2^((0-(ju 0 0 p)).toNat)))
def nR(m:Nat)(e:Int)(p:Nat):Nat:=if ju m e p<=e then m*2^(e-ju m e p).toNat else m/2^(ju m e p-e).toNat
def rV(m:Nat)(e:Int)(more:Bool)(p:Nat):Bool:=if ju m e p<=e then more else(more||decide (m%2^(ju m e p-e).toNat≠0))
def abX(m:Nat)(e:Int)(more:Bool)(p:Nat):nD m e more p false=nR m e p:=by unfold nD nR;simp
def K9{m:Nat}{e:Int}{more:Bool}{p:Nat}(hm:more=true->p<iA m):nD m e more p true=nR m e p+if rV m e more p=true then 1 else 0:=by
 unfold nD nR rV;by_cases hU:ju m e p<=e
 .have hmo:more=false:=by
   cases MS:more with
   |false=>rfl
   |true=>have:=hm MS;unfold ju at hU;omega
  simp[hU,hmo]
 .simp [hU]
def ajm(m:Nat)(e:Int)(more up:Bool)(p:Nat)(h1:(ij m).length<=256)(h0:m≠0)(iD:8<=p)(iq:p<=512)(kZ:-45000<=e)(kF:e<=45000)(hm:more=true->p<iA m):ig 293 [.agg [iw (ij m),iP e,bP more],iP (p:Int),bP up] (.iB [im (kf false m e more p up),iP (jV false m e more p up)]):=by
 have UX:=RG (e:=e) true h0 hm (aD:1<=p);have vz:=RG (e:=e) false h0 hm (aD:1<=p);have hb:=xu h1;have oP:=nj h0;have UP:=RF (e:=e) (more:=more) (p:=p) (up:=true) h0;have Bs:=RF (e:=e) (more:=more) (p:=p) (up:=false) h0;rw[abX]at vz Bs;have hu1:-16384<=(ju m e p):=by unfold ju;omega
 have hu2:(ju m e p)<=60000:=by unfold ju;omega
 have hu3:(ju m e p)<=max (e+8192) (-16384):=by unfold ju;omega
 have fa:(ij (nR m e p)).length<=256:=nV aD;have fb:(ij (nD m e more p true)).length<=256:=nV aD;have f1:(ij 1).length<=256:=nV aF;cases up with
 |true=>
  exact ak call293 func293 (ae [ag [iw (ij m)] (vN _ aD),iC (e+(iA m:Int)) aD,iC ((e+(iA m:Int))-(p:Int)) aD,.o 21 (an (if(-16384)>((e+(iA m:Int))-(p:Int))then(-16384)else((e+(iA m:Int))-(p:Int))) (ju m e p) (by unfold ju;split<;>omega)),.j 58 ⟨84,true,[(9,.e (iw (ij (nR m e p)))),(10,.e (bP (rV m e more p))),(8,.e (iP (ju m e p))),(6,.box 6 0),(1,.e (iP p)),(2,.e (bP true))],[(6,.cells 28 aq)]⟩
   (.w ((ju m e p)<=e)
    (λm1=>by
     have fx:(ij (m*2^(e-(ju m e p)).toNat)).length<=256:=by have:=fa;rwa[show nR m e p=_ from bn m1]at this
     exact ae [.v 29 (.bool (bq m1)),iC (e-(ju m e p)) aD,.o 35 (an (e-(ju m e p)) ((e-(ju m e p)).toNat:Int) aD),.c (yd m ((e-(ju m e p)).toNat:Nat) aD aD aD)]<|.e (af [.o 9 (.e (.jb (by rw[show nR m e p=_ from bn m1])):aj (iw (ij (m*2^((e-(ju m e p)).toNat)))) (iw (ij (nR m e p)))),tB 10 (by simp[rV,m1]:more=(rV m e more p))]))
    (λm1=>ae [.v 29 (.bool (bt m1)),iC ((ju m e p)-e) aD,.o 43 (an ((ju m e p)-e) (((ju m e p)-e).toNat:Int) aD),.c (OS m (((ju m e p)-e).toNat:Nat) aD aD)]<|.w (more=true)
     (λm2=>ae [tB 48 m2]<|.e (af [.o 9 (.e (.jb (by rw[show nR m e p=_ from bl m1])):aj (iw (ij (m/2^(((ju m e p)-e).toNat)))) (iw (ij (nR m e p)))),tB 10 (by simp[rV,m1,m2]:true=(rV m e more p))]))
     (λm2=>ae [tB 48 (bh m2)]<|.e (af [.o 9 (.e (.jb (by rw[show nR m e p=_ from bl m1])):aj (iw (ij (m/2^(((ju m e p)-e).toNat)))) (iw (ij (nR m e p)))),tB 10 (by simp[rV,m1,m2]:(decide (m%2^(((ju m e p)-e).toNat)≠0))=(rV m e more p))])))),.j 110 ⟨84,true,[(9,.e (iw (ij (nD m e more p true)))),(8,.e (iP (ju m e p))),(6,.box 6 0),(1,.e (iP p)),(2,.e (bP true))],[(6,.cells 28 aq)]⟩
   (.w (rV m e more p=true)
    (λm1=>by
     have fx:(ij (nR m e p+1)).length<=256:=by have:=fb;rwa[K9 hm,bn m1]at this
     exact ae [.v 55 (.bool m1),.o 58 (.e xd:aj PG (iw (ij 1))),ag [iw (ij (nR m e p)),iw (ij 1)] (NM _ _ aD aD aD)]<|.e (af [.o 9 (.e (.jb (by rw[K9 hm,bn m1])):aj (iw (ij ((nR m e p)+1))) (iw (ij (nD m e more p true))))]))
    (λm1=>ae [.v 55 (.bool (bh m1))]<|.e (af [.o 9 (.e (.jb (by rw[K9 hm,bl m1,bK])):aj (iw (ij (nR m e p))) (iw (ij (nD m e more p true))))]))),ag [iw (ij (nD m e more p true))] (vN _ aD),iC ((iA (nD m e more p true):Int)+(ju m e p)) aD]<|.w (16384<((iA (nD m e more p true):Int)+(ju m e p)))
   (λk1=>by
    have w1:=(UX.resolve_left (λh=>absurd k1 aD)).2.resolve_right (λh=>absurd h.1 aF);exact ae [tB 66 (bq k1),.o 68 (.e tc:aj (.agg aq) (im iQ))]<|rQ (.iB [im iQ,iP 9]) (.iB [im (kf false m e more p true),iP (jV false m e more p true)]) (by rw[w1.2.1,w1.2.2]))
   (λk1=>by
    have w1:=UX.resolve_right (λh=>k1 h.1);have hd:nu (canon false (nD m e more p true) (ju m e p)):=by rw[<-w1.2.1];exact(mD false m e more p true aD aD).range
    exact ae [tB 66 (bt k1),ag [bP false,iw (ij (nD m e more p true)),iP (ju m e p)] (Eb _ _ _ aD aD aD aE)]<|rQ (.iB [im (canon false (nD m e more p true) (ju m e p)),iP 0]) (.iB [im (kf false m e more p true),iP (jV false m e more p true)]) (by rw[w1.2.1,w1.2.2]))) 
 |false=>
  exact ak call293 func293 (ae [ag [iw (ij m)] (vN _ aD),iC (e+(iA m:Int)) aD,iC ((e+(iA m:Int))-(p:Int)) aD,.o 21 (an (if(-16384)>((e+(iA m:Int))-(p:Int))then(-16384)else((e+(iA m:Int))-(p:Int))) (ju m e p) (by unfold ju;split<;>omega)),.j 58 ⟨84,true,[(9,.e (iw (ij (nR m e p)))),(10,.e (bP (rV m e more p))),(8,.e (iP (ju m e p))),(6,.box 6 0),(1,.e (iP p)),(2,.e (bP false))],[(6,.cells 28 aq)]⟩
   (.w ((ju m e p)<=e)
    (λm1=>by
     have fx:(ij (m*2^(e-(ju m e p)).toNat)).length<=256:=by have:=fa;rwa[show nR m e p=_ from bn m1]at this
     exact ae [.v 29 (.bool (bq m1)),iC (e-(ju m e p)) aD,.o 35 (an (e-(ju m e p)) ((e-(ju m e p)).toNat:Int) aD),.c (yd m ((e-(ju m e p)).toNat:Nat) aD aD aD)]<|.e (af [.o 9 (.e (.jb (by rw[show nR m e p=_ from bn m1])):aj (iw (ij (m*2^((e-(ju m e p)).toNat)))) (iw (ij (nR m e p)))),tB 10 (by simp[rV,m1]:more=(rV m e more p))]))
    (λm1=>ae [.v 29 (.bool (bt m1)),iC ((ju m e p)-e) aD,.o 43 (an ((ju m e p)-e) (((ju m e p)-e).toNat:Int) aD),.c (OS m (((ju m e p)-e).toNat:Nat) aD aD)]<|.w (more=true)
     (λm2=>ae [tB 48 m2]<|.e (af [.o 9 (.e (.jb (by rw[show nR m e p=_ from bl m1])):aj (iw (ij (m/2^(((ju m e p)-e).toNat)))) (iw (ij (nR m e p)))),tB 10 (by simp[rV,m1,m2]:true=(rV m e more p))]))
     (λm2=>ae [tB 48 (bh m2)]<|.e (af [.o 9 (.e (.jb (by rw[show nR m e p=_ from bl m1])):aj (iw (ij (m/2^(((ju m e p)-e).toNat)))) (iw (ij (nR m e p)))),tB 10 (by simp[rV,m1,m2]:(decide (m%2^(((ju m e p)-e).toNat)≠0))=(rV m e more p))])))),ag [iw (ij (nR m e p))] (vN _ aD),iC ((iA (nR m e p):Int)+(ju m e p)) aD]<|.w (16384<((iA (nR m e p):Int)+(ju m e p)))
   (λk1=>by
    have w1:=(vz.resolve_left (λh=>absurd k1 aD)).2.resolve_left (λh=>absurd h.1 aF);have hd:nu (canon false ((1*2^p)-1) (16384-(p:Int))):=by rw[ck,<-w1.2.1];exact(mD false m e more p false aD aD).range
    have g0:iA (1*2^p)=p+1:=by rw[ck];exact uT (bp _) (fk aF aD)
    have g1:(ij 1).length<=256:=nV aF;have g2:(ij (1*2^p)).length<=256:=nV aD;have g4:1<=1*2^p:=by rw[ck];exact bA aF 
    have g3:(ij ((1*2^p)-1)).length<=256:=nV (by have:=tg (dS (1*2^p) 1);omega);exact ae [tB 66 (bq k1),.o 70 (.e xd:aj PG (iw (ij 1))),.c (yd 1 p aD aD aD),.o 73 (.e xd:aj PG (iw (ij 1))),ag [iw (ij (1*2^p)),iw (ij 1)] (NR _ _ aD aD aD),iC (16384-(p:Int)) aD,ag [bP false,iw (ij ((1*2^p)-1)),iP (16384-(p:Int))] (Eb _ _ _ aD aD aD aE)]<|rQ (.iB [im (canon false ((1*2^p)-1) (16384-(p:Int))),iP 0]) (.iB [im (kf false m e more p false),iP (jV false m e more p false)]) (by rw[w1.2.1,w1.2.2,ck]))
   (λk1=>by
    have w1:=vz.resolve_right (λh=>k1 h.1);have hd:nu (canon false (nR m e p) (ju m e p)):=by rw[<-w1.2.1];exact(mD false m e more p false aD aD).range
    exact ae [tB 66 (bt k1),ag [bP false,iw (ij (nR m e p)),iP (ju m e p)] (Eb _ _ _ aD aD aD aE)]<|rQ (.iB [im (canon false (nR m e p) (ju m e p)),iP 0]) (.iB [im (kf false m e more p false),iP (jV false m e more p false)]) (by rw[w1.2.1,w1.2.2]))) 
def ajn(up:Bool)(p:Nat)(iD:8<=p)(iq:p<=512):ig 293 [.agg [iw (ij 0),iP 0,bP false],iP (p:Int),bP up] (.iB [im (kf false 0 0 false p up),iP (jV false 0 0 false p up)]):=by
 have hU:ju 0 0 p = -(p:Int):=by unfold ju;rw[sx];omega
 have hK:jg 0 0 p=0:=by unfold jg;rw[sx];omega
 have hQ:kH 0 0 false p up=0:=by unfold kH;rw[hK];simp
 have hO:lZ 0 0 false p up=false:=by unfold lZ;rw[hQ];simp
 have qZ:(false != up)=up:=by cases up<;>rfl
 have k2:kf false 0 0 false p up=iQ:=by unfold kf;rw[qZ,hO,bl aF,hQ];rfl
 have k3:jV false 0 0 false p up=0:=by unfold jV;rw[qZ,hO];rfl
 have lz:iA 0=0:=rfl;have l0:(ij 0).length<=256:=by rw[mW];decide
 have l1:(ij (0*2^(0-ju 0 0 p).toNat)).length<=256:=by rw[cN];exact l0
 have lb:iA (0*2^(0-ju 0 0 p).toNat)=0:=by rw[cN];rfl
 have hd:nu (canon false (0*2^(0-ju 0 0 p).toNat) (ju 0 0 p)):=by rw[cN];exact .inl rfl
 by_cases By:up=true
 .exact ak call293 func293 (ae [ag [iw (ij 0)] (vN _ aD),iC (0+(iA 0:Int)) aD,iC ((0+(iA 0:Int))-(p:Int)) aD,.o 21 (an (if(-16384)>((0+(iA 0:Int))-(p:Int))then(-16384)else((0+(iA 0:Int))-(p:Int))) (ju 0 0 p) (by unfold ju;rw[sx];split<;>omega)),tT 29 ((ju 0 0 p)<=0) aD,iC (0-(ju 0 0 p)) aD,.o 35 (an (0-(ju 0 0 p)) ((0-(ju 0 0 p)).toNat:Int) aD),.c (yd 0 ((0-(ju 0 0 p)).toNat:Nat) aD aD aD),ah 52 up By,ag [Ki p] (vN _ aD),
   iC ((iA (0*2^((0-(ju 0 0 p)).toNat)):Int)+(ju 0 0 p)) aD,tF 66 (16384<((iA (0*2^((0-(ju 0 0 p)).toNat)):Int)+(ju 0 0 p))) aD,ag [bP false,Ki p,iP (ju 0 0 p)] (Eb _ _ _ aD aD aD aE)]<|rQ (.iB [im (canon false (0*2^((0-(ju 0 0 p)).toNat)) (ju 0 0 p)),iP 0]) (.iB [im (kf false 0 0 false p up),iP (jV false 0 0 false p up)]) (by rw[k2,k3,cN];rfl)) 
 .exact ak call293 func293 (ae [ag [iw (ij 0)] (vN _ aD),iC (0+(iA 0:Int)) aD,iC ((0+(iA 0:Int))-(p:Int)) aD,.o 21 (an (if(-16384)>((0+(iA 0:Int))-(p:Int))then(-16384)else((0+(iA 0:Int))-(p:Int))) (ju 0 0 p) (by unfold ju;rw[sx];split<;>omega)),tT 29 ((ju 0 0 p)<=0) aD,iC (0-(ju 0 0 p)) aD,.o 35 (an (0-(ju 0 0 p)) ((0-(ju 0 0 p)).toNat:Int) aD),.c (yd 0 ((0-(ju 0 0 p)).toNat:Nat) aD aD aD),ai 52 up (by simpa using By),ag [Ki p] (vN _ aD),
   iC ((iA (0*2^((0-(ju 0 0 p)).toNat)):Int)+(ju 0 0 p)) aD,tF 66 (16384<((iA (0*2^((0-(ju 0 0 p)).toNat)):Int)+(ju 0 0 p))) aD,ag [bP false,Ki p,iP (ju 0 0 p)] (Eb _ _ _ aD aD aD aE)]<|rQ (.iB [im (canon false (0*2^((0-(ju 0 0 p)).toNat)) (ju 0 0 p)),iP 0]) (.iB [im (kf false 0 0 false p up),iP (jV false 0 0 false p up)]) (by rw[k2,k3,cN];rfl)) 
def JH(m:Nat)(e:Int)(more up:Bool)(p:Nat)(h1:(ij m).length<=256)(h0:m≠0\/m=0/\e=0/\more=false)(iD:8<=p)(iq:p<=512)(kZ:-45000<=e)(kF:e<=45000)(hm:more=true->p<iA m):ig 293 [.agg [iw (ij m),iP e,bP more],iP (p:Int),bP up] (.iB [im (kf false m e more p up),iP (jV false m e more p up)]):=by
 rcases h0 with h0|⟨rfl,rfl,rfl⟩
 .exact ajm m e more up p h1 h0 iD iq kZ kF hm
 .exact ajn up p iD iq
def kT(p:Int):Bool:=decide (8<=p)&&decide (p<=512)
def oM{p:Int}:kT p=true↔8<=p/\p<=512:=by simp[kT]
def Ak(p:Int):ig 139 [iP p] (bP (kT p)):=by
 by_cases h:8<=p
 .exact ak call139 func139 (ae [tB 4 (bq h)]<|rQ (bP (decide (p<=512))) (bP (kT p)) (by simp[kT,h])) 
 .exact ak call139 func139 (ae [tB 4 (bt h)]<|rQ (bP false) (bP (kT p)) (by simp[kT,h])) 
def ajD(p:Int):ig 251 [iP p] (bP (kT p)):=by
 by_cases h:8<=p
 .exact ak call251 func251 (ae [tB 4 (bq h)]<|rQ (bP (decide (p<=512))) (bP (kT p)) (by simp[kT,h])) 
 .exact ak call251 func251 (ae [tB 4 (bt h)]<|rQ (bP false) (bP (kT p)) (by simp[kT,h])) 
def ajq(p:Int):ig 291 [iP p] (bP (kT p)):=by
 by_cases h:8<=p
 .exact ak call291 func291 (ae [tB 4 (bq h)]<|rQ (bP (decide (p<=512))) (bP (kT p)) (by simp[kT,h])) 
 .exact ak call291 func291 (ae [tB 4 (bt h)]<|rQ (bP false) (bP (kT p)) (by simp[kT,h])) 
def C8(p:Int):ig 133 [iP p] (bP (kT p)):=by
 by_cases h:8<=p
 .exact ak call133 func133 (ae [tB 4 (bq h)]<|rQ (bP (decide (p<=512))) (bP (kT p)) (by simp[kT,h])) 
 .exact ak call133 func133 (ae [tB 4 (bt h)]<|rQ (bP false) (bP (kT p)) (by simp[kT,h])) 
def X4(l:List Dy)(p:Nat)(i:Nat):PS:=⟨20,true,[(9,.e (iP i)),(8,.e (iP l.length)),(7,.e (nZ l)),(0,.e (iP p))],[]⟩
def FW(neg:Bool)(m:Nat)(e:Int)(more up:Bool)(p:Nat)(h1:(ij m).length<=256)(h0:m≠0\/m=0/\e=0/\more=false)(iD:8<=p)(iq:p<=512)(kZ:-45000<=e)(kF:e<=45000)(hm:more=true->p<iA m):ig 269 [bP neg,.agg [iw (ij m),iP e,bP more],iP p,bP up] (.iB [im (kf neg m e more p up),iP (jV neg m e more p up)]):=by
 cases neg with
 |true=>
  have hs:=RN true m e more p up;change _/\(jV false m e more p (!(up==true))=0->_->jf (kf false m e more p (!(up==true)))=_)/\((jV false m e more p (!(up==true))≠0\/_)->kf false m e more p (!(up==true))=_)at hs;have hE:jV true m e more p up=jV false m e more p (!(up==true)):=hs.1;have hv:=mD false m e more p (!(up==true)) (aD:1<=p) aD;by_cases hz:jV false m e more p (!(up==true))=0
  .exact ak call269 func269 (ae [ag [.agg [iw (ij m),iP e,bP more],iP p,bP (!(up==true))] (JH _ _ _ _ _ aD aE aD aD aD aD aE),ah 22 ((jV false m e more p (!(up==true)))==0) (by rw[hz];rfl),ag [im (kf false m e more p (!(up==true)))] (yA _ aE)]<|rQ (.iB [im (jf (kf false m e more p (!(up==true)))),iP (jV false m e more p (!(up==true)))]) (.iB [im (kf true m e more p up),iP (jV true m e more p up)]) (by rw[hs.2.1 hz rfl,hE])) 
  .exact ak call269 func269 (ae [ag [.agg [iw (ij m),iP e,bP more],iP p,bP (!(up==true))] (JH _ _ _ _ _ aD aE aD aD aD aD aE),ai 22 ((jV false m e more p (!(up==true)))==0) (by simpa using hz)]<|rQ (.iB [im (kf false m e more p (!(up==true))),iP (jV false m e more p (!(up==true)))]) (.iB [im (kf true m e more p up),iP (jV true m e more p up)]) (by rw[hs.2.2 (.inl hz),hE])) 
 |false=>
  have hs:=RN false m e more p up;change _/\(jV false m e more p (!(up==false))=0->_->jf (kf false m e more p (!(up==false)))=_)/\((jV false m e more p (!(up==false))≠0\/_)->kf false m e more p (!(up==false))=_)at hs;have hE:jV false m e more p up=jV false m e more p (!(up==false)):=hs.1;have hv:=mD false m e more p (!(up==false)) (aD:1<=p) aD;by_cases hz:jV false m e more p (!(up==false))=0
  .exact ak call269 func269 (ae [ag [.agg [iw (ij m),iP e,bP more],iP p,bP (!(up==false))] (JH _ _ _ _ _ aD aE aD aD aD aD aE),ah 22 ((jV false m e more p (!(up==false)))==0) (by rw[hz];rfl)]<|rQ (.iB [im (kf false m e more p (!(up==false))),iP (jV false m e more p (!(up==false)))]) (.iB [im (kf false m e more p up),iP (jV false m e more p up)]) (by rw[hs.2.2 (.inr rfl),hE])) 
  .exact ak call269 func269 (ae [ag [.agg [iw (ij m),iP e,bP more],iP p,bP (!(up==false))] (JH _ _ _ _ _ aD aE aD aD aD aD aE),ai 22 ((jV false m e more p (!(up==false)))==0) (by simpa using hz)]<|rQ (.iB [im (kf false m e more p (!(up==false))),iP (jV false m e more p (!(up==false)))]) (.iB [im (kf false m e more p up),iP (jV false m e more p up)]) (by rw[hs.2.2 (.inl hz),hE])) 
def ajp(d:Dy):ig 294 [im d] (.agg [iw (ij d.m),iP d.e,bP false]):=
 ak call294 func294 (.nil) 
def X5(p:Nat)(l:List Dy)(hl:l.length<=1000)(hv:∀ i,i<l.length->(l.getD i iQ).iu)(iD:8<=p)(iq:p<=512):ig 265 [iP p,nZ l] (iP 0):=
 ak call265 func265 (af [.s (Sp.jP (X4 l p) 0 l.length aD (λi hi qH=>by
    have U6:=hv i qH;exact iM (af [tT 10 ((i:Int)<l.length) aD,iX (i:Int) (l.length) aD,ag [im (l.getD i iQ)] (rz _ aE),iC ((i:Int)+1) aD]) aG)
  (λhi=>by
    exact iM (af [tF 10 ((l.length:Int)<l.length) aD]) aG) aK:jO 2 f265 (X4 l p 0) (.exit 0) ⟨20,true,[(0,.e (iP p))],[]⟩) .nil,ag [iP p] (ajq _),ah 18 (kT (p:Int)) (oM.2 ⟨aD,aD⟩)]) 
def ajo(p:Nat)(a:Dy)(ha:a.iu)(iD:8<=p)(iq:p<=512):ig 265 [iP (p:Int),nZ [a]] (iP 0):=
 X5 p [a] aJ (λi hi=>(match i,hi with
  | 0,_=>ha
  |n+1,hi=>absurd hi aJ)) iD iq
def xg(p:Nat)(a b:Dy)(ha:a.iu)(hb:b.iu)(iD:8<=p)(iq:p<=512):ig 265 [iP (p:Int),nZ [a,b]] (iP 0):=
 X5 p [a,b] aJ (λi hi=>(match i,hi with
  | 0,_=>ha
  | 1,_=>hb
  |n+2,hi=>absurd hi aJ)) iD iq
def JI(d:Dy)(p:Nat)(up:Bool)(hd:d.iu)(iD:8<=p)(iq:p<=512):ig 270 [im d,iP p,bP up] (.iB [im (jG d p up),iP (jZ d p up)]):=by
 have hl:=hd.ij;have hz:d.m≠0\/d.m=0/\d.e=0/\false=false:=by
  by_cases h:d.m=0
  .rcases hd.canon with q|q
   .exact .inr ⟨h,q.2.2,rfl⟩
   .omega
  .exact .inl h
 have xH:-45000<=d.e:=by have:=hd.exp;omega
 have ux:d.e<=45000:=by have:=hd.exp;omega
 have hm:false=true->p<iA d.m:=λh=>by cases h
 exact ak call270 func270 (af [.o 11 (.e (acK _):aj (.sl true 1 3 λi_ j_=>(jc d).getD (i_*3+j_) (.v (.bool false))) (nZ [d])),ag [iP p,nZ [d]] (ajo _ _ aE aD aD),ai 14 ((0:Int) != 0) aF,ag [im d] (ajp _),ag [bP d.neg,.agg [iw (ij d.m),iP d.e,bP false],iP p,bP up] (FW _ _ _ _ _ _ aD aE aD aD aD aD aE)]) 
def Ry{a b:Nat}:kD a b<0↔a<b:=by
 unfold kD;split
 .simp_all
 .split<;>simp_all
def JJ(a b:Dy)(p:Nat)(ha:a.iu)(hb:b.iu)(a0:a.m≠0)(b0:b.m≠0)(ht:b.jd<=a.jd)(iD:8<=p)(iq:p<=512):ig 271 [im a,im b,iP p] (.iB [.agg [iw (ij (mm a b p)),iP (jv a b p),bP (nc a b p)],bP (oZ a b p)]):=by
 have sz:=J6 ha hb a0 b0 ht iq;have sp:=Pv ha hb a0 b0 ht iq;obtain⟨l1,l2,l3,l4,l5,l6,l7,l8,l9⟩:=sz;obtain⟨l10,l11,l12⟩:=sp;obtain⟨r1,r2,r3⟩:=O4 a b p;have va:=ha.ij;have vb:=hb.ij;have xa:=ha.exp;have xb:=hb.exp;have ta:=DE a0;have tb:=DE b0;have ba:=xu va;have bb:=xu vb;have z1:(ij (a.m*2^((a.e-(jv a b p)).toNat))).length<=256:=nV (aD:iA (nG a b p)<=_);have zy:(ij (mN b (jv a b p))).length<=256:=nV aD;have z3:(ij (mL a b p)).length<=256:=nV aD;have zm:(ij (mm a b p)).length<=256:=nV aD;have z5:(ij 1).length<=256:=nV aF;exact ak call271 func271 (ae [ag [im a] (uY _ aE),iC ((Dy.jd a)-(p:Int)) aD,iC (((Dy.jd a)-(p:Int))-8) aD,ag [im a] (uY _ aE),ag [im b] (uY _ aE),iC ((Dy.jd a)-(Dy.jd b)) aD,.j 62 ⟨109,true,[(8,.e (iP (jv a b p))),(6,.box 6 0),(4,.box 4 0),(3,.box 3 0)],[(6,.cells 206 [.v (.slice none 0 0),iP 0,bP false]),(4,.cells 28 (jc b)),(3,.cells 28 (jc a))]⟩
   (.w (((Dy.jd a)-(Dy.jd b))<=2)
    (λm1=>ae [.v 31 (.bool (bq m1))]<|.e (af [.o 8 (an (if b.e<(if(((Dy.jd a)-(p:Int))-8)<a.e then(((Dy.jd a)-(p:Int))-8)else a.e)then b.e else(if(((Dy.jd a)-(p:Int))-8)<a.e then(((Dy.jd a)-(p:Int))-8)else a.e)) (jv a b p) (by unfold jv;rw[bn m1];split<;>split<;>omega))]))
    (λm1=>ae [.v 31 (.bool (bt m1))]<|.e (af [.o 8 (an (if(((Dy.jd a)-(p:Int))-8)<a.e then(((Dy.jd a)-(p:Int))-8)else a.e) (jv a b p) (by unfold jv;rw[bl m1];split<;>omega))]))),
  iC (a.e-(jv a b p)) aD,.o 41 (an (a.e-(jv a b p)) ((a.e-(jv a b p)).toNat:Int) aD),.c (yd a.m ((a.e-(jv a b p)).toNat) aD aD aD),.j 92 ⟨109,true,[(10,.e (iw (ij (mN b (jv a b p))))),(11,.e (bP (nx b (jv a b p)))),(9,.e (iw (ij (a.m*2^((a.e-(jv a b p)).toNat))))),(8,.e (iP (jv a b p))),(6,.box 6 0),(4,.box 4 0),(3,.box 3 0)],[(6,.cells 206 [.v (.slice none 0 0),iP 0,bP false]),(4,.cells 28 (jc b)),(3,.cells 28 (jc a))]⟩
   (.w ((jv a b p)<=b.e)
    (λm1=>by
     have z2:(ij (b.m*2^((b.e-(jv a b p)).toNat))).length<=256:=by have:=zy;rwa[show mN b (jv a b p)=_ from bn m1]at this
     exact ae [.v 46 (.bool (bq m1)),iC (b.e-(jv a b p)) aD,.o 52 (an (b.e-(jv a b p)) ((b.e-(jv a b p)).toNat:Int) aD),.c (yd b.m ((b.e-(jv a b p)).toNat) aD aD aD)]<|.e (af [.o 10 (.e (.jb (by rw[show mN b (jv a b p)=_ from bn m1])):aj (iw (ij (b.m*2^((b.e-(jv a b p)).toNat)))) (iw (ij (mN b (jv a b p))))),tB 11 (by simp[nx,m1]:false=(nx b (jv a b p)))]))
    (λm1=>ae [.v 46 (.bool (bt m1)),iC ((jv a b p)-b.e) aD,.o 60 (an ((jv a b p)-b.e) (((jv a b p)-b.e).toNat:Int) aD),.c (OS b.m (((jv a b p)-b.e).toNat) aD aD)]<|.e (af [.o 10 (.e (.jb (by rw[show mN b (jv a b p)=_ from bl m1])):aj (iw (ij (b.m/2^(((jv a b p)-b.e).toNat)))) (iw (ij (mN b (jv a b p))))),tB 11 (by simp[nx,m1]:(decide (b.m%2^(((jv a b p)-b.e).toNat)≠0))=(nx b (jv a b p)))])))]<|.w (a.neg=b.neg)
  (λk1=>by
   have eT:oZ a b p=false:=by unfold oZ;simp[k1]
   have eY:mL a b p=mN b (jv a b p):=by unfold mL;simp[k1]
   have eM:mm a b p=nG a b p+mN b (jv a b p):=by unfold mm;rw[bn k1,eY]
   have eS:nc a b p=nx b (jv a b p):=by unfold nc;rw[eT];simp
   have z4:(ij ((a.m*2^((a.e-(jv a b p)).toNat))+mN b (jv a b p))).length<=256:=by have:=zm;rwa[eM]at this
   exact ae [tB 68 (bg k1),ag [iw (ij (a.m*2^((a.e-(jv a b p)).toNat))),iw (ij (mN b (jv a b p)))] (NM _ _ aD aD aD)]<|rQ (.iB [.agg [iw (ij ((a.m*2^((a.e-(jv a b p)).toNat))+(mN b (jv a b p)))),iP (jv a b p),bP (nx b (jv a b p))],bP false]) (.iB [.agg [iw (ij (mm a b p)),iP (jv a b p),bP (nc a b p)],bP (oZ a b p)]) (by rw[eM,eS,eT];rfl))
  (λk1=>ae [tB 68 (bd k1),.j 158 ⟨109,true,[(10,.e (iw (ij (mL a b p)))),(11,.e (bP (nx b (jv a b p)))),(9,.e (iw (ij (a.m*2^((a.e-(jv a b p)).toNat))))),(8,.e (iP (jv a b p))),(6,.box 6 0)],[(6,.cells 206 [.v (.slice none 0 0),iP 0,bP false])]⟩
   (.w (nx b (jv a b p)=true)
    (λm1=>by
     have z6:(ij ((mN b (jv a b p))+1)).length<=256:=nV (by rw[show(mN b (jv a b p))+1=mL a b p by(unfold mL;simp[k1,m1])];omega);exact ae [.v 79 (.bool m1),.o 82 (.e xd:aj (.sl false 1 1 λi_ j_=>[.v (.int .u32 1)].getD (i_*1+j_) (.v (.bool false))) (iw (ij 1))),ag [iw (ij (mN b (jv a b p))),iw (ij 1)] (NM _ _ aD aD aD)]<|.e (af [.o 10 (.e (.jb (by unfold mL;simp[k1,m1])):aj (iw (ij ((mN b (jv a b p))+1))) (iw (ij (mL a b p))))]))
    (λm1=>ae [.v 79 (.bool (bh m1))]<|.e (af [.o 10 (.e (.jb (by unfold mL;simp[k1,m1])):aj (iw (ij (mN b (jv a b p)))) (iw (ij (mL a b p))))]))),ag [iw (ij (a.m*2^((a.e-(jv a b p)).toNat))),iw (ij (mL a b p))] (NO _ _ aD aD)]<|.w ((kD (a.m*2^((a.e-(jv a b p)).toNat)) (mL a b p))<0)
   (λk2=>by
    have hc:nG a b p<mL a b p:=Ry.1 k2;have eT:oZ a b p=true:=by unfold oZ;simp[k1,hc]
    have eM:mm a b p=mL a b p-nG a b p:=by unfold mm;rw[bl k1,bn hc]
    have eS:nc a b p=false:=by unfold nc;rw[eT];simp
    have z4:(ij (mL a b p-(a.m*2^((a.e-(jv a b p)).toNat)))).length<=256:=by have:=zm;rwa[eM]at this
    have z7:(a.m*2^((a.e-(jv a b p)).toNat))<=mL a b p:=dG hc;exact ae [tB 89 (bq k2),ag [iw (ij (mL a b p)),iw (ij (a.m*2^((a.e-(jv a b p)).toNat)))] (NR _ _ aD aD aD)]<|rQ (.iB [.agg [iw (ij ((mL a b p)-(a.m*2^((a.e-(jv a b p)).toNat)))),iP (jv a b p),bP false],bP true]) (.iB [.agg [iw (ij (mm a b p)),iP (jv a b p),bP (nc a b p)],bP (oZ a b p)]) (by rw[eM,eS,eT];rfl))
   (λk2=>by
    have hc:¬nG a b p<mL a b p:=λh=>k2 (Ry.2 h)
    have eT:oZ a b p=false:=by unfold oZ;simp[hc]
    have eM:mm a b p=nG a b p-mL a b p:=by unfold mm;rw[bl k1,bl hc]
    have eS:nc a b p=nx b (jv a b p):=by unfold nc;rw[eT];simp
    have z4:(ij ((a.m*2^((a.e-(jv a b p)).toNat))-mL a b p)).length<=256:=by have:=zm;rwa[eM]at this
    have z7:mL a b p<=(a.m*2^((a.e-(jv a b p)).toNat)):=fT hc;exact ae [tB 89 (bt k2),ag [iw (ij (a.m*2^((a.e-(jv a b p)).toNat))),iw (ij (mL a b p))] (NR _ _ aD aD aD)]<|rQ (.iB [.agg [iw (ij ((a.m*2^((a.e-(jv a b p)).toNat))-(mL a b p))),iP (jv a b p),bP (nx b (jv a b p))],bP false]) (.iB [.agg [iw (ij (mm a b p)),iP (jv a b p),bP (nc a b p)],bP (oZ a b p)]) (by rw[eM,eS,eT];rfl)))) 
def AH(p:Nat)(up:Bool):jG iQ p up=iQ/\jZ iQ p up=0:=by
 have hK:jg 0 0 p=0:=by unfold jg;rw[sx];omega
 have hQ:∀ o,kH 0 0 false p o=0:=by intro o;unfold kH;rw[hK];simp
 have hO:∀ o,lZ 0 0 false p o=false:=by intro o;unfold lZ;rw[hQ];simp
 unfold jG jZ kf jV;simp only[iQ,hO,hQ];exact⟨rfl,rfl⟩
def X0(a b:Dy)(p:Nat)(up:Bool)(ha:a.iu)(hb:b.iu)(iD:8<=p)(iq:p<=512):ig 223 [im a,im b,iP p,bP up] (.iB [im (jG (iJ a b) p up),iP (jZ (iJ a b) p up)]):=by
 by_cases a0:a.m=0
 .have e1:iJ a b=b:=by unfold iJ;rw[bn a0]
  exact ak call223 func223 (ae [.o 16 (.e (wA _ _):aj (.sl true 2 3 λi_ j_=>(jc a++jc b).getD (i_*3+j_) (.v (.bool false))) (nZ [a,b])),ag [iP p,nZ [a,b]] (xg _ _ _ aE aE aD aD),ai 19 ((0:Int) != 0) aF,ah 26 (((ij a.m).length:Int)==0) (sk (qg.2 a0)),.c (JI b p up aE aD aD)]<|rQ (.iB [im (jG b p up),iP (jZ b p up)]) (.iB [im (jG (iJ a b) p up),iP (jZ (iJ a b) p up)]) (by rw[e1])) 
 .by_cases b0:b.m=0
  .have e1:iJ a b=a:=by unfold iJ;rw[bl a0,bn b0]
   exact ak call223 func223 (ae [.o 16 (.e (wA _ _):aj (.sl true 2 3 λi_ j_=>(jc a++jc b).getD (i_*3+j_) (.v (.bool false))) (nZ [a,b])),ag [iP p,nZ [a,b]] (xg _ _ _ aE aE aD aD),ai 19 ((0:Int) != 0) aF,ai 26 (((ij a.m).length:Int)==0) (ou (qh a0)),ah 37 (((ij b.m).length:Int)==0) (sk (qg.2 b0)),.c (JI a p up aE aD aD)]<|rQ (.iB [im (jG a p up),iP (jZ a p up)]) (.iB [im (jG (iJ a b) p up),iP (jZ (iJ a b) p up)]) (by rw[e1])) 
  .by_cases ht:a.jd<b.jd
   .have CT:a.jd<=b.jd:= aD ;have law:=Zb (p:=p) hb ha b0 a0 up;have siz:=J6 hb ha b0 a0 CT iq;have prt:=Pv hb ha b0 a0 CT iq;obtain⟨l1,l2,_,_,_,_,_,_,_⟩:=siz;have z1:(ij (mm b a p)).length<=256:=nV aD;have EI:=prt.2.2;have y1:-45000<=jv b a p:= aD ;have y2:jv b a p<=45000:= aD ;by_cases hz:mm b a p=0
    .by_cases hl:nc b a p=true
     .have h0:mm b a p≠0:=by intro q;have:=EI hl;rw[q,sx]at this;omega
      exact absurd hz h0
     .replace hz:mm b a p=0/\nc b a p=false:=⟨hz,by simpa using hl⟩
      have vC:iJ a b=iQ:=by rw[Pt a0 b0];exact law.1 hz
      exact ak call223 func223 (ae [.o 16 (.e (wA _ _):aj (.sl true 2 3 λi_ j_=>(jc a++jc b).getD (i_*3+j_) (.v (.bool false))) (nZ [a,b])),ag [iP p,nZ [a,b]] (xg _ _ _ aE aE aD aD),ai 19 ((0:Int) != 0) aF,ai 26 (((ij a.m).length:Int)==0) (ou (qh a0)),ai 37 (((ij b.m).length:Int)==0) (ou (qh b0)),ag [im a] (uY _ aE),ag [im b] (uY _ aE),tB 48 (bq ht),.c (JJ b a p aE aE aE aE aE aD aD),ah 61 (((ij (mm b a p)).length:Int)==0) (sk (qg.2 hz.1)),ai 64 (nc b a p) hz.2,.o 67 (.e tc:aj (.agg aq) (im iQ))]<|rQ (.iB [im iQ,iP 0]) (.iB [im (jG (iJ a b) p up),iP (jZ (iJ a b) p up)]) (by rw[vC,(AH p up).1,(AH p up).2])) 
    .have h0:mm b a p≠0\/mm b a p=0/\jv b a p=0/\nc b a p=false:=.inl hz;obtain⟨q1,q2⟩:=law.2 (λq=>hz q.1);rw[<-Pt a0 b0]at q1 q2;exact ak call223 func223 (ae [.o 16 (.e (wA _ _):aj (.sl true 2 3 λi_ j_=>(jc a++jc b).getD (i_*3+j_) (.v (.bool false))) (nZ [a,b])),ag [iP p,nZ [a,b]] (xg _ _ _ aE aE aD aD),ai 19 ((0:Int) != 0) aF,ai 26 (((ij a.m).length:Int)==0) (ou (qh a0)),ai 37 (((ij b.m).length:Int)==0) (ou (qh b0)),ag [im a] (uY _ aE),ag [im b] (uY _ aE),tB 48 (bq ht),.c (JJ b a p aE aE aE aE aE aD aD),ai 61 (((ij (mm b a p)).length:Int)==0) (ou (qh hz)),.c (FW (! (b.neg==(oZ b a p))) (mm b a p) (jv b a p) (nc b a p) up p aD aE aD aD aD aD aE)]<|rQ (.iB [im (kf (!(b.neg==(oZ b a p))) (mm b a p) (jv b a p) (nc b a p) p up),iP (jV (!(b.neg==(oZ b a p))) (mm b a p) (jv b a p) (nc b a p) p up)]) (.iB [im (jG (iJ a b) p up),iP (jZ (iJ a b) p up)]) (by rw[<-q1,<-q2];rfl)) 
   .have CT:b.jd<=a.jd:= aD ;have law:=Zb (p:=p) ha hb a0 b0 up;have siz:=J6 ha hb a0 b0 CT iq;have prt:=Pv ha hb a0 b0 CT iq;obtain⟨l1,l2,_,_,_,_,_,_,_⟩:=siz;have z1:(ij (mm a b p)).length<=256:=nV aD;have EI:=prt.2.2;have y1:-45000<=jv a b p:= aD ;have y2:jv a b p<=45000:= aD ;by_cases hz:mm a b p=0
    .by_cases hl:nc a b p=true
     .have h0:mm a b p≠0:=by intro q;have:=EI hl;rw[q,sx]at this;omega
      exact absurd hz h0
     .replace hz:mm a b p=0/\nc a b p=false:=⟨hz,by simpa using hl⟩
      have vC:iJ a b=iQ:=by exact law.1 hz
      exact ak call223 func223 (ae [.o 16 (.e (wA _ _):aj (.sl true 2 3 λi_ j_=>(jc a++jc b).getD (i_*3+j_) (.v (.bool false))) (nZ [a,b])),ag [iP p,nZ [a,b]] (xg _ _ _ aE aE aD aD),ai 19 ((0:Int) != 0) aF,ai 26 (((ij a.m).length:Int)==0) (ou (qh a0)),ai 37 (((ij b.m).length:Int)==0) (ou (qh b0)),ag [im a] (uY _ aE),ag [im b] (uY _ aE),tB 48 (bt ht),.c (JJ a b p aE aE aE aE aE aD aD),ah 61 (((ij (mm a b p)).length:Int)==0) (sk (qg.2 hz.1)),ai 64 (nc a b p) hz.2,.o 67 (.e tc:aj (.agg aq) (im iQ))]<|rQ (.iB [im iQ,iP 0]) (.iB [im (jG (iJ a b) p up),iP (jZ (iJ a b) p up)]) (by rw[vC,(AH p up).1,(AH p up).2])) 
    .have h0:mm a b p≠0\/mm a b p=0/\jv a b p=0/\nc a b p=false:=.inl hz;obtain⟨q1,q2⟩:=law.2 (λq=>hz q.1);exact ak call223 func223 (ae [.o 16 (.e (wA _ _):aj (.sl true 2 3 λi_ j_=>(jc a++jc b).getD (i_*3+j_) (.v (.bool false))) (nZ [a,b])),ag [iP p,nZ [a,b]] (xg _ _ _ aE aE aD aD),ai 19 ((0:Int) != 0) aF,ai 26 (((ij a.m).length:Int)==0) (ou (qh a0)),ai 37 (((ij b.m).length:Int)==0) (ou (qh b0)),ag [im a] (uY _ aE),ag [im b] (uY _ aE),tB 48 (bt ht),.c (JJ a b p aE aE aE aE aE aD aD),ai 61 (((ij (mm a b p)).length:Int)==0) (ou (qh hz)),.c (FW (! (a.neg==(oZ a b p))) (mm a b p) (jv a b p) (nc a b p) up p aD aE aD aD aD aD aE)]<|rQ (.iB [im (kf (!(a.neg==(oZ a b p))) (mm a b p) (jv a b p) (nc a b p) p up),iP (jV (!(a.neg==(oZ a b p))) (mm a b p) (jv a b p) (nc a b p) p up)]) (.iB [im (jG (iJ a b) p up),iP (jZ (iJ a b) p up)]) (by rw[<-q1,<-q2];rfl)) 
def X6(a b:Dy)(p:Nat)(up:Bool)(ha:a.iu)(hb:b.iu)(iD:8<=p)(iq:p<=512):ig 264 [im a,im b,iP p,bP up] (.iB [im (jG (mZ a b) p up),iP (jZ (mZ a b) p up)]):=by
 by_cases a0:a.m=0
 .have e1:mZ a b=iQ:=by unfold mZ;rw[a0,cN];rfl
  exact ak call264 func264 (ae [.o 16 (.e (wA _ _):aj (.sl true 2 3 λi_ j_=>(jc a++jc b).getD (i_*3+j_) (.v (.bool false))) (nZ [a,b])),ag [iP p,nZ [a,b]] (xg _ _ _ aE aE aD aD),ai 19 ((0:Int) != 0) aF,ah 25 (((ij a.m).length:Int)==0) (sk (qg.2 a0)),.o 32 (.e tc:aj (.agg aq) (im iQ))]<|rQ (.iB [im iQ,iP 0]) (.iB [im (jG (mZ a b) p up),iP (jZ (mZ a b) p up)]) (by rw[e1,(AH p up).1,(AH p up).2])) 
 .by_cases b0:b.m=0
  .have e1:mZ a b=iQ:=by unfold mZ;rw[b0,cQ];rfl
   exact ak call264 func264 (ae [.o 16 (.e (wA _ _):aj (.sl true 2 3 λi_ j_=>(jc a++jc b).getD (i_*3+j_) (.v (.bool false))) (nZ [a,b])),ag [iP p,nZ [a,b]] (xg _ _ _ aE aE aD aD),ai 19 ((0:Int) != 0) aF,ai 25 (((ij a.m).length:Int)==0) (ou (qh a0)),ah 30 (((ij b.m).length:Int)==0) (sk (qg.2 b0)),.o 32 (.e tc:aj (.agg aq) (im iQ))]<|rQ (.iB [im iQ,iP 0]) (.iB [im (jG (mZ a b) p up),iP (jZ (mZ a b) p up)]) (by rw[e1,(AH p up).1,(AH p up).2])) 
  .have va:=ha.ij;have vb:=hb.ij;have xa:=ha.exp;have xb:=hb.exp;have ra:=ha.range.resolve_left a0;have rb:=hb.range.resolve_left b0;have bm:=KM a.m b.m;have z1:(ij (a.m*b.m)).length<=256:=nV aD;have m0:a.m*b.m≠0:=fe a0 b0;have h0:a.m*b.m≠0\/a.m*b.m=0/\a.e+b.e=0/\false=false:=.inl m0;have hm:false=true->p<iA (a.m*b.m):=λh=>by cases h
   obtain⟨q1,q2⟩:=Yh (a.neg != b.neg) up (a.m*b.m) (a.e+b.e) p m0;change jG (mZ a b) p up=_ at q1;change jZ (mZ a b) p up=_ at q2;exact ak call264 func264 (ae [.o 16 (.e (wA _ _):aj (.sl true 2 3 λi_ j_=>(jc a++jc b).getD (i_*3+j_) (.v (.bool false))) (nZ [a,b])),ag [iP p,nZ [a,b]] (xg _ _ _ aE aE aD aD),ai 19 ((0:Int) != 0) aF,ai 25 (((ij a.m).length:Int)==0) (ou (qh a0)),ai 30 (((ij b.m).length:Int)==0) (ou (qh b0)),ag [iw (ij a.m),iw (ij b.m)] (ahg _ _ aD aD aD),iC (a.e+b.e) aD,.c (FW (! (a.neg==b.neg)) (a.m*b.m) (a.e+b.e) false up p aD aE aD aD aD aD aE)]<|rQ (.iB [im (kf (!(a.neg==b.neg)) (a.m*b.m) (a.e+b.e) false p up),iP (jV (!(a.neg==b.neg)) (a.m*b.m) (a.e+b.e) false p up)]) (.iB [im (jG (mZ a b) p up),iP (jZ (mZ a b) p up)]) (by rw[q1,q2];rfl)) 
def ajl(a b:Dy)(p:Nat)(ha:a.iu)(hb:b.iu)(iD:8<=p)(iq:p<=512):ig 145 [im a,im b,iP p] (.iB [im (jG (iJ a b) p false),iP (jZ (iJ a b) p false)]):=
 ak call145 func145 (af [ag [im a,im b,iP p,bP false] (X0 _ _ _ _ aE aE aD aD)]) 
def xf(a b:Dy)(p:Nat)(ha:a.iu)(hb:b.iu)(iD:8<=p)(iq:p<=512):ig 146 [im a,im b,iP p] (.iB [im (jG (iJ a b) p true),iP (jZ (iJ a b) p true)]):=
 ak call146 func146 (af [ag [im a,im b,iP p,bP true] (X0 _ _ _ _ aE aE aD aD)]) 
def OQ(a b:Dy)(p:Nat)(ha:a.iu)(hb:b.iu)(iD:8<=p)(iq:p<=512):ig 216 [im a,im b,iP p] (.iB [im (jG (mZ a b) p false),iP (jZ (mZ a b) p false)]):=
 ak call216 func216 (af [ag [im a,im b,iP p,bP false] (X6 _ _ _ _ aE aE aD aD)]) 
def OR(a b:Dy)(p:Nat)(ha:a.iu)(hb:b.iu)(iD:8<=p)(iq:p<=512):ig 217 [im a,im b,iP p] (.iB [im (jG (mZ a b) p true),iP (jZ (mZ a b) p true)]):=
 ak call217 func217 (af [ag [im a,im b,iP p,bP true] (X6 _ _ _ _ aE aE aD aD)]) 
end Go.Proofs.YtbhhompalmdaiaaGreatDoor
namespace Go.Proofs.YtbhhompalmdaiaaGreatDoor.Fp
def agk{U V P q:Nat}(hP:0<P)(hV:9223372036854775808<=V/P)(hUV:U<4294967296*V)(h1:q<=4294967295)(h2:q<=U/P/(V/P))(h3:q=4294967295\/U/P/(V/P)<=q):
 U/V<=q/\q<=U/V+1:=by
 have Mf:0<V/P:= aD ;have wE:0<V:=by
  apply b9;intro h;have:V=0:= aD ;rw[this,fO]at Mf;omega
 have hVm:=cB V P;have hVr:=bC V hP;have hUm:=cB U P;have hUr:=bC U hP;constructor
 .
  rcases h3 with h3|h3
  .have:U/V<4294967296:=by rw[cr wE];exact hUV
   omega
  .refine bJ ?_ h3;rw[dB Mf,dB hP,bB];have h4:V/P*P<=V:=dH V P;exact bJ (cM _ h4) (dH U V)
 .
  have h4:q*(V/P)<=U/P:=(dB Mf).1 h2;have h5:q*V<=q*(V/P)*P+q*P:=by
   have:V<=V/P*P+P:=by rw[bE];omega
   have:=cM q this;rw[bM,<-bB]at this;exact this
  have h6:q*(V/P)*P<=U:=bJ (bR P h4) (dH U P);have h7:(q+1)*P<=V/P*P:=bR P aD;have h8:V/P*P<=V:=dH V P;have h9:q*V<U+V:=by
   rw[b8,ck]at h7;omega
  apply b9;intro h;have rY:(U/V+2)*V<=q*V:=bR V aD;have vn:=cB U V;have h12:=bC U wE;rw[b8,bE (U/V)]at rY;omega
def ab4{x v w third q rest:Nat}(hx:q*v+rest=x)(hq:q<=4294967295)(hw:w<4294967296)(hv:0<v)
 (h:4294967296<=rest\/q*w<=rest*4294967296+third):q<=(x*4294967296+third)/(v*4294967296+w):=by
 rw[dB aD,bM,<-hx];have e:q*(v*4294967296)=q*v*4294967296:=by rw[bB]
 rw[e,b8];rcases h with h|h
 .have h1:q*w<=4294967295*4294967295:=dA hq aD ;omega
 .omega
def RS{x v w third q rest:Nat}(hx:q*v+rest=x)(hv:0<v)(h:rest*4294967296+third<q*w):
 (x*4294967296+third)/(v*4294967296+w)<=q-1/\0<q/\(q-1)*v+(rest+v)=x:=by
 have hq:0<q:=by
  apply b9;intro h';have:q=0:= aD ;subst this;rw[cN]at h;omega
 obtain⟨r,rfl⟩:∃ r,q=r+1:=⟨q-1,aD⟩
 refine⟨?_,hq,?_⟩
 .have e1:(r+1)*(v*4294967296+w)=(r+1)*v*4294967296+(r+1)*w:=by rw[bM,<-bB]
  have e2:((r+1)*v+rest)*4294967296=(r+1)*v*4294967296+rest*4294967296:=b8 _ _ _;have:(x*4294967296+third)/(v*4294967296+w)<r+1:=by
   have hd:0<v*4294967296+w:= aD ;have e4:x*4294967296=(r+1)*v*4294967296+rest*4294967296:=hx▸e2;refine(cr hd).2 ?_;rw[e1,e4];clear e1 e2 e4 hd hx hq;generalize (r+1)*v=a at *
   generalize (r+1)*w=z at *
   exact Nat.add_lt_add_left h _|>λh=>by rw[<-dh]at h;exact h
  omega
 .have e3:(r+1)*v=r*v+v:=Nat.succ_mul r v;rw[eD];rw[e3]at hx;clear e3 h hq;generalize r*v=a at *
  omega
def ab6{x v w third:Nat}(hv:0<v)(ht:third<4294967296):(x*4294967296+third)/(v*4294967296+w)<=x/v:=by
 have h1:(x*4294967296+third)/(v*4294967296+w)<=(x*4294967296+third)/(v*4294967296):=Nat.div_le_div_left aD aD;refine bJ h1 ?_;rw[bE v,<-cU];have:(x*4294967296+third)/4294967296=x:= aD ;rw[this];exact bp _
structure xr(O0:List Nat)(j q:Nat)(V:List Nat)(k:Nat)(O:List Nat)(c b:Nat):Prop where
 len:O.length=O0.length
 ok:iK O
 vl:val O+q*(4294967296^j*val (V.take k))=val O0+4294967296^(j+k)*(c+b)
 pV:∀ i,j+k<=i->O.getD i 0=O0.getD i 0
 Q9:c<4294967296
 QQ:b<=1
def xr.start{O0:List Nat}(h:iK O0)(j q:Nat)(V:List Nat):xr O0 j q V 0 O0 0 0:=
 ⟨rfl,h,by simp[val],λ_ _=>rfl,aF,aF⟩
def alz{q y c b u:Nat}(hq:q<=4294967295)(hy:y<4294967296)(hc:c<4294967296)(hb:b<=1)(hu:u<4294967296):
 q*y+c<18446744073709551616/\(q*y+c)/4294967296<4294967296 /\
 ((u+18446744073709551616-(q*y+c)%4294967296-b)%18446744073709551616)/9223372036854775808<=1 /\
 ((u+18446744073709551616-(q*y+c)%4294967296-b)%18446744073709551616)%4294967296+(q*y+c)%4294967296+b =
  u+4294967296*(((u+18446744073709551616-(q*y+c)%4294967296-b)%18446744073709551616)/9223372036854775808):=by
 have h1:q*y<=4294967295*4294967295:=dA hq aD;generalize q*y=z at *
 omega
def xr.step{O0 V O:List Nat}{j q k c b:Nat}(h:xr O0 j q V k O c b){u' b':Nat}(hk:k<V.length)(hj:j+V.length<O0.length)(hu:u'<4294967296)(hc:(q*V.getD k 0+c)/4294967296<4294967296)(hb:b'<=1)
 (hd:u'+(q*V.getD k 0+c)%4294967296+b=O.getD (j+k) 0+4294967296*b'):
 xr O0 j q V (k+1) (O.set (j+k) u') ((q*V.getD k 0+c)/4294967296) b':=by
 have pL:j+k<O.length:=by rw[h.len];omega
 refine⟨by rw[cS];exact h.len,h.ok.set _ hu,?_,λi hi=>?_,hc,hb⟩
 .have e:=ef (q*V.getD k 0+c) 4294967296;have h1:=yh (x:=u') pL;have h2:=h.vl;have h3:u'+(q*V.getD k 0+c)+b=O.getD (j+k) 0+4294967296*((q*V.getD k 0+c)/4294967296+b'):= aD ;have h4:=congrArg (4294967296^(j+k) * ·) h3;simp only[bM]at h4;rw[uL,bM (4294967296^j),bM q,<-bB (4294967296^j),<-bw,show q*(4294967296^(j+k)*V.getD k 0)=4294967296^(j+k)*(q*V.getD k 0)from dt _ _ _,
   show j+(k+1)=j+k+1 from rfl,bG,bB,bM 4294967296,bM (4294967296^(j+k))]
  rw[bM]at h2;omega
 .rw [vi aD];exact h.pV i aD 
def xr.Nu{O0 V O:List Nat}{j q c b:Nat}(h:xr O0 j q V V.length O c b)(hj:j+V.length<O0.length){t:Nat}
 (ht:t=(O.getD (j+V.length) 0+18446744073709551616-c-b)%18446744073709551616):
 (O.set (j+V.length) (t%4294967296)).length=O0.length/\iK (O.set (j+V.length) (t%4294967296))/\t/9223372036854775808<=1 /\
 val (O.set (j+V.length) (t%4294967296))+q*(4294967296^j*val V)=val O0+4294967296^(j+V.length+1)*(t/9223372036854775808) /\
 ∀ i,j+V.length<i->(O.set (j+V.length) (t%4294967296)).getD i 0=O0.getD i 0:=by
 have pL:j+V.length<O.length:=by rw[h.len];omega
 have hc:=h.Q9;have hb:=h.QQ;have hu:=h.ok.getD (j+V.length);have hd:t%4294967296+c+b=O.getD (j+V.length) 0+4294967296*(t/9223372036854775808):= aD ;refine⟨by rw[cS];exact h.len,h.ok.set _ (bC _ aF),aD,?_,λi hi=>by rw[vi aD];exact h.pV i aD⟩;have h1:=yh (x:=t%4294967296) pL;have h2:=h.vl;rw[fL]at h2;have h4:=congrArg (4294967296^(j+V.length) * ·) hd;simp only[bM]at h4;rw[bG,bB];rw[bM]at h2;omega
structure xq(O0:List Nat)(j:Nat)(V:List Nat)(k:Nat)(O:List Nat)(c:Nat):Prop where
 len:O.length=O0.length
 ok:iK O
 vl:val O+4294967296^(j+k)*c=val O0+4294967296^j*val (V.take k)
 pV:∀ i,j+k<=i->O.getD i 0=O0.getD i 0
 KS:c<=1
def xq.start{O0:List Nat}(h:iK O0)(j:Nat)(V:List Nat):xq O0 j V 0 O0 0:=
 ⟨rfl,h,by simp[val],λ_ _=>rfl,aF⟩
def xq.step{O0 V O:List Nat}{j k c:Nat}(h:xq O0 j V k O c)(hV:iK V)(hk:k<V.length)(hj:j+V.length<O0.length):
 xq O0 j V (k+1) (O.set (j+k) ((O.getD (j+k) 0+V.getD k 0+c)%4294967296)) ((O.getD (j+k) 0+V.getD k 0+c)/4294967296):=by
 have pL:j+k<O.length:=by rw[h.len];omega
 have hu:=h.ok.getD (j+k);have hy:=hV.getD k;have hc:=h.KS;refine⟨by rw[cS];exact h.len,h.ok.set _ (bC _ aF),?_,λi hi=>by rw[vi aD];exact h.pV i aD,aD⟩;have h1:=yh (x:=(O.getD (j+k) 0+V.getD k 0+c)%4294967296) pL;have h2:=h.vl;have h4:=congrArg (4294967296^(j+k) * ·) (ef (O.getD (j+k) 0+V.getD k 0+c) 4294967296);simp only[bM]at h4;rw[uL,bM (4294967296^j),<-bB (4294967296^j),<-bw,show j+(k+1)=j+k+1 from rfl,bG,bB];omega
def xq.Nu{O0 V O:List Nat}{j c:Nat}(h:xq O0 j V V.length O c)(hj:j+V.length<O0.length):
 (O.set (j+V.length) ((O.getD (j+V.length) 0+c)%4294967296)).length=O0.length/\iK (O.set (j+V.length) ((O.getD (j+V.length) 0+c)%4294967296)) /\
 (∃ κ,κ<=1/\val (O.set (j+V.length) ((O.getD (j+V.length) 0+c)%4294967296))+4294967296^(j+V.length+1)*κ=val O0+4294967296^j*val V) /\
 ∀ i,j+V.length<i->(O.set (j+V.length) ((O.getD (j+V.length) 0+c)%4294967296)).getD i 0=O0.getD i 0:=by
 have pL:j+V.length<O.length:=by rw[h.len];omega
 have hu:=h.ok.getD (j+V.length);have hc:=h.KS;refine⟨by rw[cS];exact h.len,h.ok.set _ (bC _ aF),⟨(O.getD (j+V.length) 0+c)/4294967296,aD,?_⟩,λi hi=>by rw[vi aD];exact h.pV i aD⟩;have h1:=yh (x:=(O.getD (j+V.length) 0+c)%4294967296) pL;have h2:=h.vl;rw[fL]at h2;have h4:=congrArg (4294967296^(j+V.length) * ·) (ef (O.getD (j+V.length) 0+c) 4294967296);simp only[bM]at h4;rw[bG,bB];omega
def Kk{O:List Nat}(h:iK O){k:Nat}(hz:∀ i,k<=i->O.getD i 0=0):val O<4294967296^k:=by
 by_cases hk:O.length<=k
 .exact bT (mC h) (bI aF hk)
 .rw [DG O k aD];have:val (O.drop k)=0:=by
   rw[Gj];intro x hx;obtain⟨i,hi⟩:=dO.1 hx;rw[fg]at hi;have:=hz (k+i) aD;rw[bu,hi]at this;exact this
  rw[this,cQ,bK];have h1:=mC (h.take k);rw[cG,dD aD]at h1;exact h1
def alK{O:List Nat}(h:iK O){k:Nat}(hv:val O<4294967296^k){i:Nat}(hi:k<=i):O.getD i 0=0:=by
 have h1:val (O.drop k)=0:=by rw[Gi h,cA hv]
 rw[Gj]at h1;rw[bu];cases hg:O[i]? with
 |none=>rfl
 |some x=>exact h1 x (dO.2 ⟨i-k,by rw[fg,(aD:k+(i-k)=i)];exact hg⟩)
def RT{u u' V P x:Nat}(hP:0<P)(hV:0<V)(h:u'+x*(P*V)=u)(hx:u/P/V<=x):x=u/P/V/\u'<V*P:=by
 have h1:x*V<=u/P:=by
  rw[dB hP,bB,bE V P];omega
 have h2:x<=u/P/V:=(dB hV).2 h1;have h3:x=u/P/V:= aD ;refine⟨h3,?_⟩;have e1:=cB u P;have e2:=bC u hP;have e3:=cB (u/P) V;have e4:=bC (u/P) hV;rw[<-h3]at e3;have e5:P*(u/P)=x*(P*V)+P*(u/P%V):=by
  rw[<-e3,bM,e3,bE V x,dt]
 have e6:P*(u/P%V)+P<=V*P:=by
  rw[bE V P,<-Nat.mul_succ];exact cM P e4
 omega
def ab5{u u' u'' V P R x κ:Nat}(hP:0<P)(hV:0<V)(h:u'+x*(P*V)=u+R)(h':u'<R)(hx:x<=u/P/V+1)
 (hk:κ<=1) (h2:u''+R*κ=u'+P*V) (h3:u''<R):0<x/\x-1=u/P/V/\u''+(x-1)*(P*V)=u/\u''<V*P:=by
 have og:u/P<x*V:=by
  rw[cr hP,bB,bE V P];omega
 have xH:u/P/V<x:=by rw[cr hV];exact og
 have ux:x=u/P/V+1:=Nat.le_antisymm hx xH;obtain⟨y,hy⟩:∃ y,y=u/P/V:=⟨_,rfl⟩
 rw[<-hy]at ux;subst ux;rw[eD];have e0:(y+1)*(P*V)=y*(P*V)+P*V:=Nat.succ_mul _ _;have e1:y*(P*V)<=u:=by
  have:y*V<=u/P:=by rw[hy];exact dH _ _
  have:=(dB hP).1 this;rw[bB,bE V P]at this;exact this
 have hκ:κ=1:=by
  apply b9;intro q;obtain rfl:κ=0:= aD ;omega
 subst hκ;have e2:u''+y*(P*V)=u:= aD ;exact⟨aD,hy,e2,(RT hP hV e2 aD).2⟩
def sT(q rest third v w x:Nat):Prop:=rest+x*v<4294967296/\(rest+x*v)*4294967296+third<(q-x)*w
def RQ{X q rest third v w:Nat}(hx:q*v+rest=X)(hq:q<=4294967295)(hv:2147483648<=v)(hw:w<4294967296):
 ∃ N,N<=2/\N<=q/\(∀ x,x<N->sT q rest third v w x)/\¬sT q rest third v w N/\q-N<=(X*4294967296+third)/(v*4294967296+w)/\(N=0\/(X*4294967296+third)/(v*4294967296+w)<=q-N):=by
 have stop:∀ {q' r':Nat},q'*v+r'=X->q'<=4294967295->¬(r'<4294967296/\r'*4294967296+third<q'*w)->q'<=(X*4294967296+third)/(v*4294967296+w):=fun {q' r'} h1 h2 h3=>
  ab4 h1 h2 hw aD (by
   by_cases hr:4294967296<=r'
   .exact .inl hr
   .refine .inr (fT λhn=>h3 ⟨amR hr,hn⟩))
 by_cases h0:sT q rest third v w 0
 .have g0:=h0;unfold sT at g0;rw[cN,bK,dR]at g0;obtain⟨k1,k2,k3⟩:=RS hx aD g0.2;by_cases h1:sT q rest third v w 1
  .have g1:=h1;unfold sT at g1;rw[ck]at g1;obtain⟨l1,l2,l3⟩:=RS k3 aD g1.2;have h2:¬sT q rest third v w 2:=λh=>by unfold sT at h;omega
   refine⟨2,bp _,aD,λx hx=>?_,h2,?_,.inr l1⟩
   .obtain rfl|rfl:x=0\/x=1:= aD 
    .exact h0
    .exact h1
   .refine stop (r':=rest+v+v) l3 aD λh=> aD 
  .refine ⟨1,aF,k2,λx hx=>?_,h1,?_,.inr k1⟩
   .obtain rfl:x=0:= aD ;exact h0
   .unfold sT at h1;rw[ck]at h1;exact stop k3 aD h1
 .refine ⟨0,aF,ch _,λx hx=>absurd hx (bO x),h0,?_,.inl rfl⟩;unfold sT at h0;rw[cN,bK,dR]at h0;exact stop hx hq h0
def ach{a b s q r:Nat}(hb:0<b)(h:r+b*2^s*q=a*2^s)(hr:r<b*2^s):q=a/b/\r=a%b*2^s:=by
 have hp:0<2^s:=bA aF;have h1:r%2^s=0:=by
  have:=congrArg (· % 2^s) h;simp only[fC]at this;rw[bB,dt,eJ]at this;exact this
 obtain⟨t,ht⟩:∃ t,r=t*2^s:=⟨r/2^s,by rw[anv (Nat.dvd_of_mod_eq_zero h1)]⟩
 subst ht;have h2:(t+b*q)*2^s=a*2^s:=by rw[b8,<-h,fX]
 have h3:=anO hp h2;have h4:t<b:=anP hr;constructor
 .rw [<-h3,fz _ _ hb,cA h4,b6]
 .rw [<-h3,eJ,bQ h4]
def Zm{O:List Nat}(h:iK O){j n:Nat}(hn:2<=n)(hz:∀ i,j+n<i->O.getD i 0=0):
 val O/4294967296^j/4294967296^(n-2)=(O.getD (j+n) 0*4294967296+O.getD (j+n-1) 0)*4294967296+O.getD (j+n-2) 0:=by
 rw[cU,<-bw,<-Gi h];have e:∀ (l:List Nat),iK l->(∀ i,2<i->l.getD i 0=0)->val l=(l.getD 2 0*4294967296+l.getD 1 0)*4294967296+l.getD 0 0:=by
  intro l hl hz;rcases l with _|⟨a,_|⟨b,_|⟨c,l⟩⟩⟩
  .rfl
  .simp [val]
  .simp [val];omega
  .have:val l=0:=by
    rw[Gj];intro x hx;obtain⟨i,hi⟩:=dO.1 hx;have:=hz (i+3) aD;rw[bu]at this;simp only[anF,hi]at this;exact this
   simp[val,this];omega
 have g:∀ i,(O.drop (j+(n-2))).getD i 0=O.getD (j+(n-2)+i) 0:=λi=>by
  rw[bu,fg,bu]
 rw[e _ (h.drop _) (λi hi=>by rw[g];exact hz _ aD),g,g,g];rw[(aD:j+(n-2)+2=j+n),(aD:j+(n-2)+1=j+n-1),(aD:j+(n-2)+0=j+n-2)]
def alJ{V:List Nat}(h:iK V){n:Nat}(hn:2<=n)(hl:V.length=n):val V/4294967296^(n-2)=V.getD (n-1) 0*4294967296+V.getD (n-2) 0:=by
 have:=Zm (O:=V) h (j:=0) (n:=n) hn (λi hi=>by rw[bu,cw aD];rfl);rw[ca,dL,b6]at this;rw[this,show V.getD n 0=0 by rw[bu,cw aD];rfl];omega
end Go.Proofs.YtbhhompalmdaiaaGreatDoor.Fp
namespace Go.Proofs.YtbhhompalmdaiaaGreatDoor
open Go.RowKit Fp
def Rx(w:World)(b:Nat)(L:List Nat)(R:List Value):Prop:=w.heap[b]? = some (.cells (nY L++R).toArray 72 (0,0))
section
variable {w w':World} {b:Nat} {L:List Nat} {R:List Value}
def Rx.lt(h:Rx w b L R):b<w.heap.size:=(dx.1 h).1
def Rx.cell(h:Rx w b L R){i:Nat}(hi:i<L.length):w.cell? ⟨b,i,none⟩=some (.int .u32 (L.getD i 0:Int)):=by
 unfold Rx at h;simp only[World.cell?,h];simp[nY,hi,fZ]
def Rx.frozen(h:Rx w b L R)(i:Nat):w.frozen? ⟨b,i,none⟩=false:=by
 unfold Rx at h;simp[World.frozen?,h]
def Rx.set(h:Rx w b L R){i:Nat}(hi:i<L.length)(x:Nat):Rx (w.setCell ⟨b,i,none⟩ (.int .u32 (x:Int))) b (L.set i x) R:=by
 unfold Rx at h ⊢;simp only[World.setCell,dz,h];simp[nY,List.map_set,List.set_append,hi]
def Rx.pV(h:Rx w b L R)(hb:w'.heap[b]? = w.heap[b]?):Rx w' b L R:=by unfold Rx at h ⊢;rw[hb];exact h
end
structure sQ(b:Nat)(w w':World):Prop where
 below:Below b w w'
 size:w'.heap.size=w.heap.size
 pC:∀ x,x≠b->w'.heap[x]? = w.heap[x]?
def sQ.refl(b:Nat)(w:World):sQ b w w:=⟨Below.refl _ _,rfl,λ_ _=>rfl⟩
def sQ.F7{b:Nat}{w w':World}(h:sQ b w w')(i:Nat)(v:Value):sQ b w (w'.setCell ⟨b,i,none⟩ v):=
 ⟨h.below.setCell (p:=⟨b,i,none⟩) (bp _) v,by
  have:(w'.setCell ⟨b,i,none⟩ v).heap.size=w'.heap.size:=by simp[World.setCell]
  rw[this,h.size],λx hx=>by
  rw[<-h.pC x hx];simp only[World.setCell,dz];rw[bl (λe=>hx e.symm)]⟩
def PQ(b:Nat)(A:Option Addr):Prop:=∀ b' o s,A=some ⟨b',o,s⟩->b'≠b
def Sl.pC{w w':World}{A:Option Addr}{c b:Nat}{L:List Nat}(h:Sl w A c L)(ha:PQ b A)(ho:sQ b w w'):Sl w' A c L:=
 ⟨h.cap,h.pS,h.ok,h.w9,λi x hx=>by
  obtain⟨b',o,e,h1,h2⟩:=h.cell i x hx;refine⟨b',o,e,by rw[ho.size];exact h1,?_⟩;rw[<-h2];exact(World.cell?_of_block (w:=w) (w':=w') (ho.pC b' (ha _ _ _ e)))⟩
def ZJ{u m b:Nat}(hm:m<4294967296)(hb:b<=4294967296):
 IntKind.u64.wrap (IntKind.u64.wrap ((u:Int)-m)-(b:Int))=(((u+18446744073709551616-m-b)%18446744073709551616:Nat):Int):=by
 rw[IntKind.wrap_u64,IntKind.wrap_u64];omega
def aly(b j cu c q:Nat)(O V:List Nat)(R:List Value)(A:Option Addr)(w:World)(hu:Rx w b O R)(hv:Sl w A c V)(hA:PQ b A)(lg:iK O)(hj:j+V.length<O.length)(hq:q<=4294967295)(hl:O.length<=1000000):
 Calls prog 323 #[.slice (some ⟨b,j,none⟩) (V.length+1) cu,.slice A V.length c,.int .u64 q] w λe w'=>∃ (O':List Nat) (δ:Nat),e = .returned (.bool (decide (δ=1)))/\Rx w' b O' R/\O'.length=O.length/\iK O'/\δ<=1 /\
  val O'+q*(4294967296^j*val V)=val O+4294967296^(j+V.length+1)*δ/\(∀ i,j+V.length<i->O'.getD i 0=O.getD i 0)/\sQ b w w':=by
 obtain⟨n,hn⟩:∃ n,n=V.length:=⟨_,rfl⟩
 rw[<-hn]at hj ⊢;have HN:=anQ hn;have HJ:=anQ hj;clear hn;have ku:n<=1000000:= aD ;have zY:j<=1000000:= aD ;clear hj;have HT0:=anQ (xr.start lg j q V);clear lg;have HO:=anQ (sQ.refl b w);have HU:=anQ hu;clear hu;go_enter func323,ntmps323;go_wp2;go_loopw [7,8,9,10,11,12,16] (λcy bo _ _ _ _ i wr=>∃ (k c' b':Nat) (O':List Nat),k<=n/\i = .int .i64 k/\cy = .int .u64 c'/\bo = .int .u64 b'/\xr O j q V k O' c' b'/\Rx wr b O' R/\sQ b w wr) (λ_ _ _ _ _ _ i _=>n-(intOf i).toNat)
 case atStart=>
  exact⟨0,0,0,O,ch _,rfl,rfl,rfl,HT0.out,HU.out,HO.out⟩
 case round=>
  obtain⟨k,c',b',O',hk,rfl,rfl,rfl,ht,hR,ho⟩:=hrel;clear HT0 HO HU;have HTk:=anQ ht;have jt:=ht.QQ;have Ew:=ht.Q9;have HOl:=anQ ht.len;clear ht;have M3:=hv.pC hA ho;by_cases iO:k<n
  .have yN:k<V.length:=by rw[<-HN.out];exact iO
   obtain⟨ab,ao,e1,_,c1⟩:=M3.lL yN;have ph:V.getD k 0<4294967296:=hv.ok.getD k;have Ve:V[k]=V.getD k 0:=by simp[bu,yN]
   rw[Ve]at c1;have pL:j+k<O'.length:=by rw[HOl.out];have:=HJ.out;omega
   have c2:=hR.cell pL;have c3:=hR.frozen (j+k);have EV:O'.getD (j+k) 0<4294967296:=HTk.out.ok.getD _;obtain⟨qL,kK,CQ,UT⟩:=alz hq ph Ew jt EV;have HST:=anQ (HTk.out.step (b':=((O'.getD (j+k) 0+18446744073709551616-(q*V.getD k 0+c')%4294967296-b')%18446744073709551616)/9223372036854775808) yN (by rw[<-HN.out];exact HJ.out) (bC _ aF) kK CQ UT);have HRS:=anQ (λx:Nat=>hR.set pL x);have HOS:=anQ (λ(v:Value)=>ho.F7 (j+k) v);clear hR ho HTk pL Ve yN UT HOl M3;subst e1;have IA:q*V.getD k 0<=4294967295*4294967295:=dA hq aD;have yU:IntKind.u64.wrap ((q:Int)*(V.getD k 0:Int))=((q*V.getD k 0:Nat):Int):=by rw[<-dT];exact oj _ aD 
   generalize V.getD k 0=y at *
   generalize q*y=z at *
   have EX:IntKind.u64.wrap ((z:Int)+c')=((z+c':Nat):Int):=by rw[<-fj];exact oj _ aD 
   generalize O'.getD (j+k) 0=u at *
   generalize z+c'=s at *
   have uf:bits .and .u64 (s:Int) 4294967295=((s%4294967296:Nat):Int):=by rw[wi s aD];omega
   have amC:s%4294967296<4294967296:=bC _ aF;have hd:(s:Int)/4294967296=((s/4294967296:Nat):Int):= aD ;generalize s%4294967296=m at *
   generalize s/4294967296=s2 at *
   have ET:=ZJ (u:=u) (m:=m) (b:=b') aD aD;generalize (u+18446744073709551616-m-b')%18446744073709551616=t at *
   have xE:(j:Int)+k=((j+k:Nat):Int):= aD ;go_wp2;go_roundw
   case rel=>
    have e1:((t:Int)%4294967296)=((t%4294967296:Nat):Int):= aD ;exact⟨k+1,s2,t/9223372036854775808,O'.set (j+k) (t%4294967296),aD,by go_num,by go_num,by go_num,HST.out,by rw[e1];exact HRS.out _,HOS.out _⟩
   case measure=>simp[intOf];omega
  .obtain rfl:k=n:= aD ;have MK:j+k<O.length:=HJ.out;have HTk':=anQ (show xr O j q V V.length O' c' b' by rw[<-HN.out];exact HTk.out);have HL:=HTk'.out.Nu (t:=(O'.getD (j+k) 0+18446744073709551616-c'-b')%18446744073709551616) (by rw[<-HN.out];exact MK) (by rw[<-HN.out]);rw[<-HN.out]at HL;have HT:=anQ HL;clear HL;have pL:j+k<O'.length:=by rw[HOl.out];exact MK
   have c2:=hR.cell pL;have c3:=hR.frozen (j+k);have EV:O'.getD (j+k) 0<4294967296:=HTk.out.ok.getD _;have HRS:=anQ (λx:Nat=>hR.set pL x);have HOS:=anQ (λ(v:Value)=>ho.F7 (j+k) v);clear hR ho HTk HTk' pL MK HOl M3;generalize O'.getD (j+k) 0=u at *
   have ET:=ZJ (u:=u) (m:=c') (b:=b') Ew aD;have htl:(u+18446744073709551616-c'-b')%18446744073709551616<18446744073709551616:=bC _ aF;generalize (u+18446744073709551616-c'-b')%18446744073709551616=t at *
   have xE:(j:Int)+k=((j+k:Nat):Int):= aD ;go_wp2;go_ret;have e1:((t:Int)%4294967296)=((t%4294967296:Nat):Int):= aD ;obtain⟨t1,t2,t3,t4,t5⟩:=HT.out;exact⟨O'.set (j+k) (t%4294967296),t/9223372036854775808,Yd (a:=(((t:Int)/9223372036854775808)==1)) (by rw[fP,beq_iff_eq,anm];omega),by rw[e1];exact HRS.out _,t1,t2,t3,t4,t5,HOS.out _⟩
def WI(A:Option Addr)(c:Nat)(L:List Nat)(n:Nat)(w:World)(hs:Sl w A c L)(hlen:L.length<=100000000)(hn:n<=65536):
 Calls prog 230 #[.slice A L.length c,.int .i64 n] w (λe w'=>∃ T v,e = .returned v/\val T=val L*2^n/\T.length=n/32+(iy L).length+1/\Ow w' w.heap.size v T/\iG w w'):=by
 have hT:=anQ (uD A c L w hs);have kK:=hs.tL;have nt:=oF L;have hC:=kK.cap;have hL:=hs.pS;unfold mn at nt;have hv:=anQ (oG L);generalize iy L=M at *
 obtain⟨m,hm⟩:∃ m,m=M.length:=⟨_,rfl⟩
 rw[<-hm]at hT nt hC;have HM:=anQ hm;clear hm;have oV:=ND (n/32) (n/32+m+1) aD aD;rw[show((n/32:Nat):Int)=n/32 by omega,show((n/32+m+1:Nat):Int)=n/32+m+1 by omega]at oV;have Es:=anQ (Ow.xR w w.heap.size (n/32) (n/32+m+1) (bp _) aD aD);go_enter func230,ntmps230;go_wp2_with fail;refine hT.out.mono ?_;rintro e w' ⟨rfl,rfl⟩;go_wp2;go_loopw [5,6,23] (λv cy i wr=>∃ (k q:Nat) (O:List Nat),k<=m/\i = .int .i64 k/\cy = .int .u64 q/\q<2^(n%32)/\O.length=n/32+k/\val O+4294967296^(n/32+k)*q=val (M.take k)*2^(n%32)*4294967296^(n/32)/\Ow wr w.heap.size v O/\iG w wr) (λ_ _ i _=>m-(intOf i).toNat)
 case atStart=>
  exact⟨0,0,List.replicate (n/32) 0,ch _,rfl,rfl,bA aF,aJ,by simp[zz],Es.out,iG.alloc _ _⟩
 case round=>
  obtain⟨k,q,O,hk,rfl,rfl,hq,hO,lr,lq,hb⟩:=hrel;have HV:=anQ lr;have HO:=anQ hO;have Er:O.length<=200000000:= aD ;have uj:=anQ hq;clear lr hO hq;obtain⟨OA,Oc,rfl,yQ⟩:=lq.sl;by_cases iO:k<m
  .have oU:k<M.length:=by have:=HM.out;omega
   obtain⟨ab,ao,rfl,_,c1⟩:=(kK.below hb).lL oU;have mJ:M[k]<4294967296:=kK.ok.get oU;have HX:=anQ (Pk (c:=q) (s:=n%32) (n0:=n/32) oU HO.out HV.out);generalize M[k]=x at *
   obtain⟨hw,yV,tE⟩:=Pl x q (n%32) mJ (bC _ aF) uj.out;generalize x*2^(n%32)+q=z at *
   have EZ:=anQ tE;clear tE;have lT:O.length+[z%4294967296].length<=10000000000:= aR ;go_wp2_with (at_builtin;go_must (refine qQ aI _ _ aI w.heap.size _ O aI (lq.alloc _) _ _ _ [z%4294967296] aI aI (Sl.s6 _ _ (z%4294967296) aD aD) lT (pR hb.size _) ?_);intro v' w1 oo hg oO)
   go_roundw
   case rel=>
    exact⟨k+1,z/4294967296,O++[z%4294967296],aD,by go_num,by go_num,EZ.out,by rw[cJ,HO.out];rfl,HX.out,oo,(hb.trans (iG.alloc _ _)).own _ _ (lq.alloc _) hg⟩
   case measure=>simp[intOf];omega
  .obtain rfl:k=m:= aD ;have lT:O.length+[q].length<=10000000000:= aR ;have IH:q<4294967296:=by
    have:=uj.out;have hp:2^(n%32)<=2^31:=bI aF aD;have e31:(2:Nat)^31=2147483648:= aF ;omega
   have UQ:(q:Int)%4294967296=q:= aD ;go_wp2_with (at_builtin;go_must (refine qQ aI _ _ aI w.heap.size _ O aI (lq.alloc _) _ _ _ [q] aI aI (Sl.s6 _ _ q aD aD) lT (pR hb.size _) ?_);intro v' w1 oo hg oO)
   go_ret;refine⟨O++[q],v',rfl,?_,by rw[cJ,HO.out,<-HM.out];rfl,oo,(hb.trans (iG.alloc _ _)).own _ _ (lq.alloc _) hg⟩;have h:=HV.out;rw[cP (by rw[HM.out];exact bp _)]at h;rw[uK,HO.out,qj,zw,cQ,bK,h,<-hv.out,nF,bB,<-bw];congr 2;omega
end Go.Proofs.YtbhhompalmdaiaaGreatDoor
namespace Go.Proofs.YtbhhompalmdaiaaGreatDoor.Fp
structure ss(U0:Nat)(V:List Nat)(k m:Nat)(O Q:List Nat):Prop where
 VQ:O.length=m
 Fg:Q.length=m-V.length
 y9:iK O
 BM:iK Q
 eq:val O+val V*val Q=U0
 lt:val O<val V*4294967296^k
 qz:∀ i,i<k->Q.getD i 0=0
def ss.step{U0 k m x:Nat}{V O Q O2:List Nat}(h:ss U0 V (k+1) m O Q)(hk:k<m-V.length)(hl:O2.length=m)(lg:iK O2)(hx:x<4294967296)
 (he:val O2+x*(4294967296^k*val V)=val O) (iO:val O2<val V*4294967296^k):ss U0 V k m O2 (Q.set k x):=by
 have yM:k<Q.length:=by rw[h.Fg];exact hk
 have hv:=yh (x:=x) yM;rw[h.qz k (amS k),cQ,bK]at hv;refine⟨hl,by rw[cS];exact h.Fg,lg,h.BM.set _ hx,?_,iO,λi hi=>by rw[vi aD];exact h.qz i aD⟩;rw[hv,bM,show val V*(4294967296^k*x)=x*(4294967296^k*val V)by simp only[bE,dt,bB]];have:=h.eq;omega
def ss.zero{U0 k m:Nat}{V O Q:List Nat}(h:ss U0 V (k+1) m O Q)(hV:iK V){i:Nat}(hi:k+V.length<i):O.getD i 0=0:=by
 refine alK h.y9 (k:=k+V.length+1) ?_ hi;refine fU h.lt ?_;have:=dg (mC hV) (pw (k+1));rw[<-bw,(aD:V.length+(k+1)=k+V.length+1)]at this;exact this
def ss.aeJ{U0 k m:Nat}{V O Q:List Nat}(h:ss U0 V (k+1) m O Q)(hV:iK V)(hn:2<=V.length)(hN:2147483648<=V.getD (V.length-1) 0):
 O.getD (k+V.length) 0<=V.getD (V.length-1) 0/\∀ g,g<=4294967295 ->
  g<=((O.getD (k+V.length) 0*4294967296+O.getD (k+V.length-1) 0)*4294967296+O.getD (k+V.length-2) 0)/(V.getD (V.length-1) 0*4294967296+V.getD (V.length-2) 0) ->
  (g=4294967295\/((O.getD (k+V.length) 0*4294967296+O.getD (k+V.length-1) 0)*4294967296+O.getD (k+V.length-2) 0)/(V.getD (V.length-1) 0*4294967296+V.getD (V.length-2) 0)<=g) ->
  val O/4294967296^k/val V<=g/\g<=val O/4294967296^k/val V+1:=by
 have t3:=Zm h.y9 (j:=k) hn (λi hi=>h.zero hV hi);have t2:=alJ hV hn rfl;have hU:val O/4294967296^k<4294967296*val V:=by
  rw[cr (pw k)];have:=h.lt;rw[bG]at this;rw[show 4294967296*val V*4294967296^k=val V*(4294967296^k*4294967296)by simp only[bE,dt,bB]];exact this
 have w1:=h.y9.getD (k+V.length-1);have w2:=h.y9.getD (k+V.length-2);have w3:=hV.getD (V.length-2);refine⟨?_,λg g1 g2 g3=>?_⟩
 .have hP:=pw (V.length-2);have h1:val V<(V.getD (V.length-1) 0*4294967296+V.getD (V.length-2) 0+1)*4294967296^(V.length-2):=by
   rw[<-t2,<-cr hP];omega
  have h2:val O/4294967296^k/4294967296^(V.length-2)<4294967296*(V.getD (V.length-1) 0*4294967296+V.getD (V.length-2) 0+1):=by
   rw[cr hP];refine bT hU ?_;rw[bB];exact cM _ (dG h1)
  rw[t3]at h2;omega
 .rw [<-t3,<-t2]at g2 g3;exact agk (pw _) (by rw[t2];omega) hU g1 g2 g3
def ss.Xc{U0 k m x:Nat}{V O Q O':List Nat}(h:ss U0 V (k+1) m O Q)(hV:iK V)(lg:iK O')(hv:val O'+x*(4294967296^k*val V)=val O+4294967296^(k+V.length+1)*1)
 (hs:∀ i,k+V.length<i->O'.getD i 0=O.getD i 0):val O'<4294967296^(k+V.length+1)/\0<x:=by
 have h1:val O'<4294967296^(k+V.length+1):=Kk lg λi hi=>by rw[hs i aD];exact h.zero hV aD 
 refine⟨h1,?_⟩;rcases eV x with h0|h0
 .subst h0;rw[cN]at hv;omega
 .exact h0
def ss.aaN{U0 k m x κ:Nat}{V O Q O' O2:List Nat}(h:ss U0 V (k+1) m O Q)(hV:iK V)(hk:k<m-V.length)(lg:iK O')(hv:val O'+x*(4294967296^k*val V)=val O+4294967296^(k+V.length+1)*1)
 (hs:∀ i,k+V.length<i->O'.getD i 0=O.getD i 0) (hx:x<=4294967295) (ux:x<=val O/4294967296^k/val V+1) (wE:0<val V) (nt:O2.length=m) (IG:iK O2) (hκ:κ<=1)
 (h2:val O2+4294967296^(k+V.length+1)*κ=val O'+4294967296^k*val V) (kK:∀ i,k+V.length<i->O2.getD i 0=O'.getD i 0):ss U0 V k m O2 (Q.set k (x-1)):=by
 obtain⟨h1,h0⟩:=h.Xc hV lg hv hs;have h3:val O2<4294967296^(k+V.length+1):=Kk IG λi hi=>by rw[kK i aD,hs i aD];exact h.zero hV aD 
 rw[cg]at hv;obtain⟨_,_,e,l⟩:=ab5 (pw k) wE hv h1 ux hκ h2 h3;exact h.step (x:=x-1) hk nt IG aD e l
def ahM{L:List Nat}{x s l:Nat}(hk:iK L)(hl:L.length=l+1)(hx:L.getD l 0=x)(og:x≠0)(hs:s=32-iA x):
 s<32/\(ij (val L*2^s)).length=l+1/\2147483648<=(ij (val L*2^s)).getD l 0/\4294967296^l*2147483648<=val L*2^s/\val L*2^s<4294967296^(l+1):=by
 have mJ:x<4294967296:=by rw[<-hx];exact hk.getD l
 have jt:=nj og;have lS:iA x<=32:=kV.2 mJ;have h1:=rk og;have h2:=pE x;have e1:2^(iA x-1)*2^s=2147483648:=by rw[<-bw,(aD:iA x-1+s=31)]
 have e2:2^iA x*2^s=4294967296:=by rw[<-bw,(aD:iA x+s=32)]
 have hp:0<2^s:=bA aF;have hv:val L=val (L.take l)+4294967296^l*x:=by
  have:=uL L l;rw[cP aD,hx]at this;exact this
 have z8:val (L.take l)<4294967296^l:=by
  have:=mC (hk.take l);rw[cG,dD aD]at this;exact this
 have g1:4294967296^l*2147483648<=val L*2^s:=by
  rw[<-e1,<-bB];refine bR _ ?_;rw[hv];exact bJ (cM _ h1) (Nat.le_add_left _ _)
 have g2:val L*2^s<4294967296^(l+1):=by
  have e3:4294967296^(l+1)=4294967296^l*(2^iA x*2^s):=by rw[bG,e2]
  rw[e3,<-bB];refine dg ?_ hp;rw[hv];have:=cM (4294967296^l) (show x+1<=2^iA x from h2);rw[bM,cg]at this;omega
 have hlen:(ij (val L*2^s)).length=l+1:=by
  have u1:=q9 g2;have u2:¬(ij (val L*2^s)).length<=l:=λh=>by
   have:=uB h;have:=pw l;omega
  omega
 refine⟨aD,hlen,?_,g1,g2⟩;rw[px (kS _),jR];unfold iH;rw[bQ (by rw[cr (pw l),bE 4294967296,<-bG];exact g2),dB (pw l),bE];exact g1
def ss.start{A s:Nat}{V O:List Nat}(hO:iK O)(hv:val O=A*2^s){la:Nat}(hA:A<4294967296^la)(hl:O.length=la+1)(hs:s<32)(hn:1<=V.length)(ku:V.length<=la)(hV:4294967296^(V.length-1)*2147483648<=val V):
 ss (A*2^s) V (la+1-V.length) (la+1) O (List.replicate (la+1-V.length) 0):=by
 refine⟨hl,aJ,hO,iK.BT _,by rw[zz,cQ,bK,hv],?_,λi _=>?_⟩
 .rw [hv];have yE:2^s<=2^31:=bI aF aD;have Eo:(2:Nat)^31=2147483648:= aF ;rw[Eo]at yE;have h1:A*2^s<4294967296^la*2^s:=dg hA (bA aF);have h2:=cM (4294967296^la) yE;have h3:=bR (4294967296^(la+1-V.length)) hV;rw[fX,<-bw,(aD:V.length-1+(la+1-V.length)=la)]at h3;omega
 .rw [bu,gv];split<;>rfl
end Go.Proofs.YtbhhompalmdaiaaGreatDoor.Fp
namespace Go.Proofs.YtbhhompalmdaiaaGreatDoor
open Go.RowKit Fp Pu
def RO(q rest third v w:Nat)(x:Nat):PS:=⟨32,true,[(0,.e (.v (.int .u64 ((q-x:Nat):Int)))),(1,.e (.v (.int .u64 ((rest+(x*v):Nat):Int)))),(2,.e (.v (.int .u32 (third:Int)))),(3,.e (.v (.int .u32 (v:Int)))),(4,.e (.v (.int .u32 (w:Int))))],[]⟩
def YI(L:List Nat)(d:Nat)(x:Nat):PS:=⟨34,false,[(8,.e (iP ((L.length:Int)-1-(x:Int)))),(7,.e (.v (.int .u32 ((val L/4294967296^(L.length-x)%d:Nat):Int)))),(6,.own 11),(0,.e (iw L)),(1,.e (.v (.int .u32 (d:Int))))],[(11,.row false 72 L.length 1 (jl (kP 0 (val L/d) (L.length-x) L.length)))]⟩
def ab9(h l d:Nat)(h1:h<d)(h2:l<4294967296)(h3:d<4294967296):ig 336 [.v (.int .u32 (h:Int)),.v (.int .u32 (l:Int)),.v (.int .u32 (d:Int))] (.iB [.v (.int .u32 (((h*4294967296+l)/d:Nat):Int)),.v (.int .u32 (((h*4294967296+l)%d:Nat):Int))]):=by
 have e1:(h*4294967296+l)/d<4294967296:=by rw[cr aD];omega
 have e2:(h*4294967296+l)%d<4294967296:=fU (bC _ aD) h3;exact ak call336 func336 (ae [ah 10 ((d:Int) != 0) aR,tF 14 ((d:Int)<=h) aD,.o 18 (.int (oj _ aD):aj (.v (.int .u64 (IntKind.u64.wrap (h:Int)))) (.v (.int .u64 (h:Int)))),.a (aD:0<=(32:Int)/\(32:Int)<=((64:Nat):Int)),.o 19 (.int (Du _ aD):aj (.v (.int .u64 (IntKind.u64.wrap ((h:Int)*2^32)))) (.v (.int .u64 ((h*4294967296:Nat):Int)))),.o 21 (.int (oj _ aD):aj (.v (.int .u64 (IntKind.u64.wrap (l:Int)))) (.v (.int .u64 (l:Int)))),.o 22 (.int (FO _ _ aD aD):aj (.v (.int .u64 (bits .or .u64 ((h*4294967296:Nat):Int) (l:Int)))) (.v (.int .u64 ((h*4294967296+l:Nat):Int)))),.o 25 (.int (oj _ aD):aj (.v (.int .u64 (IntKind.u64.wrap (d:Int)))) (.v (.int .u64 (d:Int)))),.a (aD:0<((d:Int):Int)),
  nH ((h*4294967296+l:Nat):Int) aD,.o 27 (.int (sr _):aj (.v (.int .u32 (IntKind.u32.wrap (((h*4294967296+l)/d:Nat):Int)))) (.v (.int .u32 ((((h*4294967296+l)/d)%4294967296:Nat):Int)))),.o 30 (.int (oj _ aD):aj (.v (.int .u64 (IntKind.u64.wrap (d:Int)))) (.v (.int .u64 (d:Int)))),.a (aD:0<((d:Int):Int)),.o 32 (.int (sr _):aj (.v (.int .u32 (IntKind.u32.wrap (((h*4294967296+l)%d:Nat):Int)))) (.v (.int .u32 ((((h*4294967296+l)%d)%4294967296:Nat):Int))))]<|rQ (.iB [.v (.int .u32 ((((h*4294967296+l)/d)%4294967296:Nat):Int)),.v (.int .u32 ((((h*4294967296+l)%d)%4294967296:Nat):Int))]) (.iB [.v (.int .u32 (((h*4294967296+l)/d:Nat):Int)),.v (.int .u32 (((h*4294967296+l)%d:Nat):Int))]) (by rw[bQ e1,bQ e2])) 
def amO(q rest third v w N:Nat)(hq:q<=4294967295)(hr:rest<9223372036854775808)(ht:third<4294967296)(hv:v<4294967296)(hw:w<4294967296)(hNq:N<=q)(jk:∀ x,x<N->sT q rest third v w x)(g1:¬rest+N*v<4294967296):ig 337 [.v (.int .u64 (q:Int)),.v (.int .u64 (rest:Int)),.v (.int .u32 (third:Int)),.v (.int .u32 (v:Int)),.v (.int .u32 (w:Int))] (.v (.int .u64 ((q-N:Nat):Int))):=
 ak call337 func337 (af [.s (Sp.jP (RO q rest third v w) 0 N aD (λx hx lp=>by
    obtain⟨g1,g2⟩:=jk x aD;have m1:(q-x)*w<=4294967295*4294967295:=dA aD aD;have g3:0<q-x:=by
     rcases eV (q-x)with h|h
     .rw [h,cN]at g2;omega
     .exact h
    exact iM (ae [tT 12 (((rest+(x*v):Nat):Int)<4294967296) aD,.o 16 (.int (oj _ aD):aj (.v (.int .u64 (IntKind.u64.wrap (w:Int)))) (.v (.int .u64 (w:Int)))),
     nH (((q-x:Nat):Int)*(w:Int)) aD,.a (aD:0<=(32:Int)/\(32:Int)<=((64:Nat):Int)),.o 19 (.int (Du _ aD):aj (.v (.int .u64 (IntKind.u64.wrap (((rest+(x*v):Nat):Int)*2^32)))) (.v (.int .u64 (((rest+(x*v))*4294967296:Nat):Int)))),.o 21 (.int (oj _ aD):aj (.v (.int .u64 (IntKind.u64.wrap (third:Int)))) (.v (.int .u64 (third:Int)))),.o 22 (.int (FO _ _ aD aD):aj (.v (.int .u64 (bits .or .u64 (((rest+(x*v))*4294967296:Nat):Int) (third:Int)))) (.v (.int .u64 ((((rest+(x*v))*4294967296)+third:Nat):Int)))),tT 23 (((((rest+(x*v))*4294967296)+third:Nat):Int)<(((q-x)*w:Nat):Int)) (Int.ofNat_lt.2 g2),nH (((q-x:Nat):Int)-1) aD,.o 29 (.int (oj _ aD):aj (.v (.int .u64 (IntKind.u64.wrap (v:Int)))) (.v (.int .u64 (v:Int)))),nH (((rest+(x*v):Nat):Int)+v) aD]<|.e (af [.o 0 (.int aS:aj (.v (.int .u64 (((q-x:Nat):Int)-1))) (.v (.int .u64 ((q-(x+1):Nat):Int)))),.o 1 (.int aS:aj (.v (.int .u64 (((rest+(x*v))+v:Nat):Int))) (.v (.int .u64 ((rest+((x+1)*v):Nat):Int))))])) aG)
  (λhx=>by
    have m1:(q-N)*w<=4294967295*4294967295:=dA aD aD;exact iM (af [tF 12 (((rest+(N*v):Nat):Int)<4294967296) aD]) aG) aK:jO 1 f337 (RO q rest third v w 0) (.exit 0) ⟨32,true,[(0,.e (.v (.int .u64 ((q-N:Nat):Int))))],[]⟩) (af [.o 0 (.int aS:aj (.v (.int .u64 (q:Int))) (.v (.int .u64 ((q-0:Nat):Int)))),.o 1 (.int aS:aj (.v (.int .u64 (rest:Int))) (.v (.int .u64 ((rest+(0*v):Nat):Int))))])]) 
def ahj(L:List Nat)(d:Nat)(hk:iK L)(hl:L.length<=1000000)(qt:0<d)(sy:d<4294967296):ig 320 [iw L,.v (.int .u32 (d:Int))] (.iB [iw (iY (val L/d) L.length),.v (.int .u32 ((val L%d:Nat):Int))]):=
 al call320 func320 (ae [.a (aD:0<=((L.length:Int):Int)/\((L.length:Int):Int)<=((L.length:Int):Int)),.a (aD:((4:Nat):Int)*(L.length:Int)<=281474976710656/\((L.length:Int):Int)<=9223372036854775807),iC ((L.length:Int)-1) aD,.s (Sp.jP (YI L d) 0 L.length aD (λx hx lp=>by
    have Is:((L.length:Int)-1-(x:Int)).toNat=L.length-1-x:= aD ;have hld:((L.getD ((L.length:Int)-1-(x:Int)).toNat 0:Nat):Int)=(iH (val L) (L.length-1-x):Int):=by rw[Is,px hk]
    have vz:=akO (a:=val L) (k:=L.length-1-x) qt sy;have oW:L.length-1-x+1=L.length-x:= aD ;have kx:L.length-(x+1)=L.length-1-x:= aD ;rw[oW]at vz;have IC:=bC (val L/4294967296^(L.length-x)) qt;have Mw:=pt (val L) (L.length-1-x);have ur:(kP 0 (val L/d) (L.length-x) L.length).set ((L.length:Int)-1-(x:Int)).toNat ((val L/4294967296^(L.length-x)%d*4294967296+iH (val L) (L.length-1-x))/d)=kP 0 (val L/d) (L.length-(x+1)) L.length:=by
     rw[Is,vz.1,<-oW,agZ,kx]
    exact iM (ae [tT 16 (0<=((L.length:Int)-1-(x:Int))) aD,iX ((L.length:Int)-1-(x:Int)) (L.length) aD,.o 26 (.int hld:aj (.v (.int .u32 ((L.getD ((L.length:Int)-1-(x:Int)).toNat 0:Nat):Int))) (.v (.int .u32 (iH (val L) (L.length-1-x):Int)))),ag [.v (.int .u32 ((val L/4294967296^(L.length-x)%d:Nat):Int)),.v (.int .u32 (iH (val L) (L.length-1-x):Int)),.v (.int .u32 (d:Int))] (ab9 _ _ _ aD aD aD),
     iX ((L.length:Int)-1-(x:Int)) (L.length) aD,.a (aD:(((L.length:Int)-1-(x:Int))).toNat<L.length),iC (((L.length:Int)-1-(x:Int))-1) aD]<|.e (af [.o 8 (an (((L.length:Int)-1-(x:Int))-1) ((L.length:Int)-1-((x+1:Nat):Int)) aS),.o 7 (.int (by rw[vz.2,kx]):aj (.v (.int .u32 ((((val L/4294967296^(L.length-x)%d)*4294967296+(iH (val L) (L.length-1-x)))%d:Nat):Int))) (.v (.int .u32 ((val L/4294967296^(L.length-(x+1))%d:Nat):Int)))),.b 11 (Dp rfl a7 ur:Bx.le (.row false 72 L.length 1 (λi' j'=>if i'=(((L.length:Int)-1-(x:Int))).toNat/\0<=j'/\j'<0+1 then[.v (.int .u32 ((((val L/4294967296^(L.length-x)%d)*4294967296+(iH (val L) (L.length-1-x)))/d:Nat):Int))].getD (j'-0) .any else(jl (kP 0 (val L/d) (L.length-x) L.length)) i' j')) (.row false 72 L.length 1 (jl (kP 0 (val L/d) (L.length-(x+1)) L.length))))])) aG)
  (λhx=>by
    exact iM (af [tF 16 (0<=((L.length:Int)-1-(L.length:Int))) aD]) aG) aK:jO 4 f320 (YI L d 0) (.exit 0) ⟨34,false,[(7,.e (.v (.int .u32 ((val L/4294967296^(L.length-L.length)%d:Nat):Int)))),(6,.own 11)],[(11,.row false 72 L.length 1 (jl (kP 0 (val L/d) (L.length-L.length) L.length)))]⟩) (af [.o 8 (an ((L.length:Int)-1) ((L.length:Int)-1-((0:Nat):Int)) aS),.o 7 (.int (by rw[dR,cA (mC hk),Nat.zero_mod];rfl):aj (.v (.int .u32 0)) (.v (.int .u32 ((val L/4294967296^(L.length-0)%d:Nat):Int)))),.b 11 (F3 rfl (λi=>by rw[dR,Ja (bp _),G7]):Bx.le (.row false 72 L.length 1 (λ_ j_=>[.v (.int .u32 0)].getD j_ .any)) (.row false 72 L.length 1 (jl (kP 0 (val L/d) (L.length-0) L.length))))])]<|rR (.iB [iw (iY (val L/d) L.length),.v (.int .u32 ((val L%d:Nat):Int))]) (.iB (.cons (by rw[di,Fw];exact zr (mP _ _).symm) (.cons (.jb (by rw[di,ca,dL])) .nil)):E.le (.iB [.sl false L.length 1 (jl (kP 0 (val L/d) (L.length-L.length) L.length)),.v (.int .u32 ((val L/4294967296^(L.length-L.length)%d:Nat):Int))]) (.iB [iw (iY (val L/d) L.length),.v (.int .u32 ((val L%d:Nat):Int))]))) 
def ZU(w:World)(T S:List Nat)(e:Ending)(w':World):Prop:=∃ A c B d,e = .returned (.tuple #[.slice A T.length c,.slice B S.length d])/\Sl w' A c T/\Sl w' B d S/\iG w w'
def Ow.rx{w:World}{base:Nat}{v:Value}{L:List Nat}(h:Ow w base v L)(hl:L≠[]):∃ g cap R,v = .slice (some ⟨g,0,none⟩) L.length cap/\base<=g/\g<w.heap.size/\Rx w g L R/\L.length<=cap/\cap<=maxLen:=by
 rcases h.row.2 with⟨_,h0⟩|⟨g,cap,cur,rfl,hb,hg,pM,nS,oR,EU⟩
 .exact absurd (dN h0) hl
 .refine ⟨g,cap,cur.toList.drop L.length,rfl,hb,(dx.1 hg).1,?_,pM,nS⟩;unfold Rx;rw[hg];rw[cg]at EU;rw[<-EU,am0]
def Rx.sl{w:World}{b cap:Nat}{L:List Nat}{R:List Value}(h:Rx w b L R)(hk:iK L)(hc:L.length<=cap)(hm:cap<=maxLen)(n:Nat):Sl w (some ⟨b,0,none⟩) cap (L.take n):=
 ⟨by rw[cG];omega,by unfold maxLen at hm;omega,hk.take n,(λh=>by cases h),λi x hx=>by
  rw[ff]at hx;split at hx
  .obtain ⟨hi,sA⟩:=cC.1 hx;refine⟨_,_,rfl,h.lt,?_⟩;rw[b6,h.cell hi];simp[bu,hx]
  .cases hx⟩
def agE(x:Nat)(hx:x<4294967296)(w:World):
 Calls prog 321 #[.int .u32 x] w λe w'=>e = .returned (.int .i64 ((32-iA x:Nat):Int))/\w=w':=by
 have lS:iA x<=32:=kV.2 hx;have H:=anQ (λw=>VP x hx w);go_enter func321,ntmps321;go_wp2_with fail;refine(H.out _).mono ?_;rintro e w' ⟨rfl,rfl⟩;go_wp2;go_ret;exact⟨oi aD,rfl⟩
def RR(q rest third v w0 N:Nat)(w:World)(hq:q<=4294967295)(hr:rest<9223372036854775808)(ht:third<4294967296)(hv:v<4294967296)(hw:w0<4294967296)(hNq:N<=q)(jk:∀ x,x<N->sT q rest third v w0 x)(hN:¬sT q rest third v w0 N):
 Calls prog 337 #[.int .u64 q,.int .u64 rest,.int .u32 third,.int .u32 v,.int .u32 w0] w λe w'=>e = .returned (.int .u64 ((q-N:Nat):Int))/\w=w':=by
 have HLO:=anQ jk;have HNN:=anQ hN;clear jk hN;go_enter func337,ntmps337;go_wp2;go_loop [0,1] (λa b=>∃ k:Nat,k<=N/\a = .int .u64 ((q-k:Nat):Int)/\b = .int .u64 ((rest+k*v:Nat):Int)) (λa _=>(intOf a).toNat+0*N)
 case atStart=>exact⟨0,ch _,by go_num,by go_num⟩
 case round=>
  obtain⟨k,hk,rfl,rfl⟩:=hrel;have m1:(q-k)*w0<=4294967295*4294967295:=dA aD aD;have m2:(q-k)*w0=(q-k)*w0:=rfl;by_cases iO:k<N
  .have hc:=HLO.out k iO;have tD:0<q-k:= aD ;have UJ:rest+(k+1)*v=rest+k*v+v:=by rw[b8,ck];omega
   have HX:=anQ UJ;clear UJ;unfold sT at hc;have yU:IntKind.u64.wrap (((q-k:Nat):Int)*(w0:Int))=(((q-k)*w0:Nat):Int):=by rw[<-dT];exact oj _ aD 
   generalize rest+k*v=y at *
   generalize hz:(q-k)*w0=z at *
   have CP:q-k=q-(k+1)+1:= aD ;have HQ:=anQ CP;obtain⟨p,hp⟩:∃ p,p=q-k:=⟨_,rfl⟩
   rw[<-hp]at yU tD CP HQ ⊢;have HP:=anQ hp;have Br:p<=4294967295:= aD ;clear hp hz CP;have Bv:=Du y hc.1;have tA:=FO y third hc.1 ht;have g2:=hc.2;have g1:=hc.1;clear hc;rw[show((y*4294967296:Nat):Int)=y*4294967296 by omega]at tA Bv;have d1:decide ((y:Int)<4294967296)=true:=bq aD;have d2:decide ((y:Int)*4294967296+(third:Int)<z)=true:=bq aD;have IA:IntKind.u64.wrap ((p:Int)-1)=((p-1:Nat):Int):=by rw[IntKind.wrap_u64];omega
   go_wp2;go_round
   case rel=>
    have e1:=HP.out;exact⟨k+1,aD,by go_num,by rw[HX.out];go_num⟩
   case measure=>simp[intOf];omega
  .obtain rfl:k=N:= aD ;have hn:=HNN.out;clear HNN HLO;unfold sT at hn;have yU:IntKind.u64.wrap (((q-k:Nat):Int)*(w0:Int))=(((q-k)*w0:Nat):Int):=by rw[<-dT];exact oj _ aD 
   generalize rest+k*v=y at *
   generalize (q-k)*w0=z at *
   obtain⟨p,hp⟩:∃ p,p=q-k:=⟨_,rfl⟩
   rw[<-hp]at yU ⊢;have HP:=anQ hp;clear hp;by_cases g1:y<4294967296
   .have Bv:=Du y g1;have tA:=FO y third g1 ht;rw[show((y*4294967296:Nat):Int)=y*4294967296 by omega]at tA Bv;have d1:decide ((y:Int)<4294967296)=true:=bq aD;have d2:decide ((y:Int)*4294967296+(third:Int)<z)=false:=bt aD;clear hn;go_wp2;go_ret;exact⟨oi (by rw[<-HP.out]),rfl⟩
   .have d1:decide ((y:Int)<4294967296)=false:=bt aD ;clear hn yU;go_wp2;go_ret;exact⟨oi (by rw[<-HP.out]),rfl⟩
def aeK(jd next third v w0:Nat)(hv:2147483648<=v)(se:v<4294967296)(hn:next<4294967296)(ht:third<4294967296)(hw:w0<4294967296)(htv:jd<=v):
 ∃ g,g<=4294967295/\g<=((jd*4294967296+next)*4294967296+third)/(v*4294967296+w0)/\(g=4294967295\/((jd*4294967296+next)*4294967296+third)/(v*4294967296+w0)<=g) /\
  ∀ w,Calls prog 322 #[.int .u32 jd,.int .u32 next,.int .u32 third,.int .u32 v,.int .u32 w0] w λe w'=>e = .returned (.int .u64 (g:Int))/\∃ m,w'=w.drewN m:=by
 by_cases k1:v<=jd
 .obtain ⟨N,hN3,oN,qb,qV,g1,g2⟩:=RQ (X:=jd*4294967296+next) (q:=4294967295) (rest:=(jd-v)*4294967296+next+v) (third:=third) (v:=v) (w:=w0) aD (bp _) hv hw;refine⟨4294967295-N,aD,g1,g2.elim (λh=>.inl (by rw[h])) .inr,λw=>?_⟩;clear g1 g2;have H:=λw=>RR 4294967295 ((jd-v)*4294967296+next+v) third v w0 N w aD aD ht se hw oN qb qV
  clear qb qV;obtain rfl:v=jd:= aD ;have um:(v-v)*4294967296+next+v=next+v:= aD 
  rw[um,fj]at H;have HD:=anQ H;clear H;have d1:decide ((v:Int)<=v)=true:=bq aD;go_enter func322,ntmps322;go_wp2_with fail;refine(HD.out _).mono ?_;rintro e w' ⟨rfl,rfl⟩;go_wp2;go_ret;exact⟨rfl,0,rfl⟩
 .have d1:=cB (jd*4294967296+next) v;have d2:=bC (jd*4294967296+next) (aD:0<v);have d3:(jd*4294967296+next)/v<4294967296:=by rw[cr aD];omega
  obtain⟨N,hN3,oN,qb,qV,g1,g2⟩:=RQ (X:=jd*4294967296+next) (q:=(jd*4294967296+next)/v) (rest:=(jd*4294967296+next)%v) (third:=third) (v:=v) (w:=w0) (by rw[bE];exact d1) aD hv hw;have g3:=ab6 (x:=jd*4294967296+next) (v:=v) (w:=w0) (third:=third) aD ht;refine⟨(jd*4294967296+next)/v-N,aD,g1,.inr ?_,λw=>?_⟩
  .rcases g2 with rfl|g2
   .exact g3
   .exact g2
  have H:=λw=>RR ((jd*4294967296+next)/v) ((jd*4294967296+next)%v) third v w0 N w (Nat.le_of_lt_succ d3) (fU d2 aD) ht se hw oN qb qV
  rw[Int.natCast_ediv,Int.natCast_emod]at H;have HD:=anQ H;clear H g1 g2 g3 oN qb qV d1 d2 d3;have d1:decide ((v:Int)<=jd)=false:=bt aD;have Bv:=Du jd aD;have tA:=FO jd next aD hn
  rw[show((jd*4294967296:Nat):Int)=jd*4294967296 by omega]at tA Bv;have og:((jd*4294967296+next:Nat):Int)<18446744073709551616:= aD ;rw[show((jd*4294967296+next:Nat):Int)=jd*4294967296+(next:Int)by omega]at tA og;have sd:((v:Int)==0)=false:= aR ;go_enter func322,ntmps322;go_wp2;go_quiet (exact Calls.quiet_of_same ((HD.out _).mono λ_ _ ⟨h1,h2⟩=>⟨h1,h2.symm⟩));go_wp2;go_ret;exact⟨rfl,_,rfl⟩
def Fp.iG.alL{w0 w w':World}{g n:Nat}(h:iG w0 w)(k:sQ g (w.drewN n) w')(hg:w0.heap.size<=g):iG w0 w':=
 (below_drewN h n).trans (k.below.mono hg)
def Fp.iG.only{w0 w w':World}{g:Nat}(h:iG w0 w)(k:sQ g w w')(hg:w0.heap.size<=g):iG w0 w':=
 Below.trans h (k.below.mono hg)
def Sl.S2{w:World}{g cap:Nat}{L:List Nat}(h:Sl w (some ⟨g,0,none⟩) cap L){b:Nat}(hb:g≠b)(i:Nat)(v:Value):Sl (w.setCell ⟨b,i,none⟩ v) (some ⟨g,0,none⟩) cap L:=
 h.pC (λb' o _ e=>by cases e;exact hb) (sQ.F7 (sQ.refl b w) i v)
def Sl.drewN{w:World}{A:Option Addr}{c:Nat}{L:List Nat}(h:Sl w A c L)(n:Nat):Sl (w.drewN n) A c L:=h.below (below_drewN (Below.refl _ _) n)
def aiv{P:Program}{f:FuncId}{args:Array Value}{w:World}{n:Nat}{v:Value}
 (h:Calls P f args (w.drewN n) λe w'=>e = .returned v/\∃ m,w'=(w.drewN n).drewN m):Calls P f args (w.drewN n) λe w''=>e = .returned v/\∃ m,w''=w.drewN m:=
 h.mono λ_ _ ⟨he,m,hm⟩=>⟨he,n+m,by rw[hm,World.drewN_drewN]⟩
set_option maxRecDepth 100000 in
set_option maxHeartbeats 8000000 in
def acn(A B:Option Addr)(c d:Nat)(L M:List Nat)(w:World)(lx ly s:Nat)(yP:lx=(iy L).length)(Iz:ly=(iy M).length)(vz:s=32-iA ((iy M).getD (ly-1) 0))(hs:Sl w A c L)(hr:Sl w B d M)(kA:Tb w)(h1:L.length<=100000)(h2:M.length<=100000)(qW:val M<=val L)(hlen:2<=ly):
 Calls prog 292 #[.slice A L.length c,.slice B M.length d] w (ZU w (iY (val L/val M) (lx+1-ly)) (qC (s%32) ((ij (val L%val M*2^s)).drop (s/32)))):=by
 have H1:=uD A c L w hs;have H2:=uD B d M w hr;have TL:=oF L;unfold mn at TL;have TM:=oF M;unfold mn at TM;have eL:=oG L;have eM:=oG M;rw[<-eL,<-eM]at qW ⊢;have kK:=hs.tL;have nU:=hr.tL;have LZ:=zu M;have T5:iy (iy L)=iy L:=zu L;have T9:iy (iy M)=iy M:=zu M;have H3:=FD A B c d (iy L) (iy M) w kK nU aD aD;generalize iy L=X at *
 generalize iy M=Y at *
 have om:0<=kD (val X) (val Y):=by unfold kD;split<;>(try split)<;>omega
 generalize kD (val X) (val Y)=cm at *
 have T7:Y.length<=X.length:=by
  apply b9;intro h;have:=Kj kK.ok LZ (aD:X.length<Y.length);omega
 clear eL eM hs hr qW;rw[<-yP]at T7 H1 H3 TL;rw[<-Iz]at T7 H2 H3 TM;have og:Y.getD (ly-1) 0≠0:=by
  have:=(AO Y).1 LZ aD;have e:Y.getD (ly-1) 0=Y[Y.length-1]'(aD):=by
   rw[bu,(aD:ly-1=Y.length-1)];simp[(aD:Y.length-1<Y.length)]
  rw[e];exact this
 have HN:=ahM nU.ok (l:=ly-1) aD rfl og vz;rw[(aD:ly-1+1=ly)]at HN;obtain⟨x,hx⟩:∃ x,x=Y.getD (ly-1) 0:=⟨_,rfl⟩
 have mJ:x<4294967296:=by rw[hx];exact nU.ok.getD _
 have H4:=anQ (λw=>agE x mJ w);rw[<-hx]at vz;rw[<-vz]at H4;obtain⟨ab,ao,rfl,zV,c1⟩:=nU.lL (i:=ly-1) aD;have IP:Y[ly-1]'(aD)=x:=by rw[hx];simp[bu,(aD:ly-1<Y.length)]
 rw[IP]at c1;have afs:s<32:=HN.1;have HNh:=anQ HN;have H5:=λw (h:Sl w A c X)=>WI A c X s w h aD aD 
 have H6:=λw (h:Sl w (some ⟨ab,ao,none⟩) d Y)=>WI (some ⟨ab,ao,none⟩) d Y s w h aD aD 
 rw[T5,<-yP,(aD:s/32+lx+1=lx+1)]at H5;rw[T9,<-Iz,(aD:s/32+ly+1=ly+1)]at H6;have H5h:=anQ H5;have H6h:=anQ H6;have HX:=anQ yP;have HY:=anQ Iz;have HS2:=anQ kK;have HR2:=anQ nU;have H1h:=anQ H1;have H2h:=anQ H2;have H3h:=anQ H3;clear H1 H2 H3 H5 H6 T5 T9 HN yP Iz hx IP vz og kK nU LZ;have yU:(ly:Int)-1=((ly-1:Nat):Int):= aD ;have d0:decide (cm<0)=false:=bt aD;have d2:decide ((lx:Int)+1<=(lx:Int))=false:=bt aD;have oV:=C5 (lx+1-ly) aD;rw[show((lx+1-ly:Nat):Int)=lx+1-(ly:Int)by omega]at oV;have d1:((ly:Int)==1)=false:= aR ;go_enter func292,ntmps292;go_wp2_with fail;refine H1h.out.mono ?_;rintro e w' ⟨rfl,rfl⟩;go_wp2_with fail;refine H2h.out.mono ?_;rintro e w' ⟨rfl,rfl⟩;go_wp2_with fail;refine H3h.out.mono ?_;rintro e w1 ⟨rfl,jt⟩;have c2:=c1;rw[<-(jt.cell (p:=⟨ab,ao+(ly-1),none⟩) zV)]at c2;go_wp2_with fail;refine(H4.out _).mono ?_;rintro e w2 ⟨rfl,rfl⟩;go_wp2_with fail;refine(H5h.out _ (HS2.out.below jt)).mono ?_;rintro e w2 ⟨T,v1,he,T2,Bh,lq,lS⟩;obtain⟨g,cap,R,Bz,Uu,Uv,TV,CF,ae2⟩:=lq.rx (by intro h;rw[h]at Bh;simp at Bh);have TZ:=anQ lq.ok;rw[Bh]at Bz CF;subst Bz;subst he;clear lq;have HTv:=anQ T2;have HTl:=anQ Bh;clear T2 Bh;go_wp2_with fail;refine(H6h.out _ ((HR2.out.below jt).below lS)).mono ?_;rintro e w3 ⟨S,v2,he,TY,Et,lq,pf⟩;have Ig:=TV.pV (pf.block g Uv);obtain⟨g',cap',R',se,afa,amz,_,amx,_⟩:=lq.rx (by intro h;rw[h]at Et;simp at Et);obtain⟨_,_,e2,Ma⟩:=lq.sl;rw[se]at e2;cases e2;have Io:g'≠g:= aD 
 have H7:=uD (some ⟨g',0,none⟩) cap' S w3 Ma;have hV:iy S=ij (val Y*2^s):=by rw[rJ lq.ok,TY]
 have yF:=Ma.tL;rw[hV]at H7 yF;rw[HNh.out.2.1,Et]at H7;rw[Et]at se;have aeZ:iG w w3:=(jt.trans lS).trans pf;subst se;subst he;have H7h:=anQ H7;clear lq Ma hV TY Et H7 TV lS pf;go_wp2_with fail;refine H7h.out.mono ?_;rintro e w4 ⟨rfl,rfl⟩;go_wp2;go_loop [9] (λu=>u = .slice (some ⟨g,0,none⟩) (lx+1) cap) (λ_=>0)
 case atStart=>rfl
 case round=>
  subst hrel;go_wp2;have sW:=Rw.xR w3 (lx+1-ly);have ID:=HNh.out.2.1;have qb:=HNh.out.2.2.1;have qV:=HNh.out.2.2.2.1;have T3:=kS (val Y*2^s);have Mg:=jR (val Y*2^s);rw[<-Mg]at qV;generalize ij (val Y*2^s)=V at *
  have LU:=ss.start (A:=val X) (s:=s) (V:=V) (O:=T) TZ.out HTv.out (la:=lx) (by rw[HX.out];exact mC HS2.out.ok) HTl.out afs aD aD (by rw[ID];exact qV);have TX:=yF.alloc (.cells (nY (List.replicate (lx+1-ly) 0)).toArray 72);have TW:Rx (w3.alloc (.cells (nY (List.replicate (lx+1-ly) 0)).toArray 72)) g T R:=Ig.pV ((iG.alloc w3 _).block g (by have:=Ig.lt;omega));rw[ID]at LU;have HD0:=anQ LU;have HR0:=anQ sW;have HRx:=anQ TW;have HSV:=anQ TX;have HE0:=anQ (aeZ.trans (iG.alloc w3 (.cells (nY (List.replicate (lx+1-ly) 0)).toArray 72)));have HnV:=anQ ID;have HVok:=anQ T3;have HVv:=anQ Mg;have HN1:=anQ qb;have hgq:g<w3.heap.size:=Ig.lt;have Ux:w.heap.size<=g:=bJ jt.size Uu;clear LU sW TW TX yF Ig ID T3 Mg qb qV HTv HTl TZ H1h H2h H3h H4 H5h H6h H7h c1 c2 d2 oV jt Uu afa Uv HNh HS2 HR2;go_loopw [13] (λj wr=>∃ (k:Nat) (O Q:List Nat),k<=lx+1-ly/\j = .int .i64 ((k:Int)-1)/\ss (val X*2^s) V k (lx+1) O Q/\Rx wr g O R/\Rw wr w3.heap.size Q/\Sl wr (some ⟨g',0,none⟩) cap' V/\iG w wr) (λj _=>(intOf j+1).toNat)
  case atStart=>
   exact⟨lx+1-ly,T,_,bp _,by go_num,HD0.out,HRx.out,HR0.out,HSV.out,HE0.out⟩
  case round=>
   clear HD0 HRx HR0 HSV HE0;obtain⟨k,O,Q,hk,rfl,hD,CD,L9,yF,Uf⟩:=hrel;have HE:=anQ Uf;have HSV:=anQ yF;have HRQ:=anQ L9;have HRO:=anQ CD;have HD:=anQ hD;clear hD Uf;rcases k with _|t
   .have hO:=HD.out.VQ;have UW:=HRO.out.sl HD.out.y9 (cap:=cap) aD ae2 ly;have HZ:=WJ (some ⟨g,0,none⟩) cap (O.take ly) s wr UW aZ aD;have e1:(O.take ly).length=ly:=by rw[cG];omega
    rw[e1]at HZ;have HZh:=anQ HZ;have HQs:=anQ (HRQ.out.sl HD.out.BM (by rw[HD.out.Fg];omega));have wE:0<val V:=by
     have:=HD.out.lt;rcases eV (val V)with h|h
     .rw [h,cN]at this;omega
     .exact h
    have T6:0<val Y:=by
     rw[HVv.out]at wE;exact Nat.pos_of_mul_pos_right wE
    have Mz:=ach (a:=val X) (b:=val Y) (s:=s) (q:=val Q) (r:=val O) T6 (by rw[<-HVv.out];exact HD.out.eq) (by rw[<-HVv.out];have:=HD.out.lt;rw[ca,cg]at this;exact this);have z8:val (O.take ly)=val O:=by
     rw[al9 HD.out.y9,bQ];have:=HD.out.lt;rw[ca,cg]at this;refine fU this ?_;have h:=mC HVok.out;rw[HnV.out]at h;exact h
    have TN:iy (O.take ly)=ij (val X%val Y*2^s):=by rw[rJ (HD.out.y9.take ly),z8,Mz.2]
    rw[TN]at HZh;have Ic:=HD.out.Fg;rw[HnV.out]at Ic;have TS:iY (val X/val Y) (lx+1-ly)=Q:=G8 HD.out.BM Ic Mz.1;have HQd:=anQ TS;generalize qC (s%32) ((ij (val X%val Y*2^s)).drop (s/32))=Z at *
    have HQl:=anQ Ic;clear Mz z8 TN TS UW HZ e1 Ic hO wE T6 yF CD L9;go_wp2_with fail;refine HZh.out.mono ?_;rintro e w5 ⟨AZ,cZ,rfl,hZs,Ua⟩;go_wp2;go_ret2;have hq:=HQs.out.below Ua;rw[HQl.out]at hq;exact⟨_,_,_,_,by rw[mP];rfl,by rw[HQd.out];exact hq,hZs,HE.out.trans Ua⟩
   .have hO:=HD.out.VQ;have c4:=CD.cell (i:=t+ly) aD;have c5:=CD.cell (i:=t+ly-1) aD;have c6:=CD.cell (i:=t+ly-2) aD;obtain⟨_,_,e1,_,c7⟩:=yF.lL (i:=ly-1) (by rw[HnV.out];omega);obtain⟨_,_,e2,_,c8⟩:=yF.lL (i:=ly-2) (by rw[HnV.out];omega);cases e1;cases e2;rw[b6]at c7 c8;have v7:V[ly-1]'(by rw[HnV.out];omega)=V.getD (ly-1) 0:=by simp[bu,HnV.out,(aD:ly-1<ly)]
    have v8:V[ly-2]'(by rw[HnV.out];omega)=V.getD (ly-2) 0:=by simp[bu,HnV.out,(aD:ly-2<ly)]
    rw[v7]at c7;rw[v8]at c8;clear v7 v8;have lg:=HD.out.y9;have o4:=lg.getD (t+ly);have o5:=lg.getD (t+ly-1);have o6:=lg.getD (t+ly-2);have o7:=HVok.out.getD (ly-1);have o8:=HVok.out.getD (ly-2);have hG:=HD.out.aeJ HVok.out (by rw[HnV.out];omega) (by rw[HnV.out];exact HN1.out);rw[HnV.out]at hG;obtain⟨gd,g1,g2,g3,g4⟩:=aeK (O.getD (t+ly) 0) (O.getD (t+ly-1) 0) (O.getD (t+ly-2) 0) (V.getD (ly-1) 0) (V.getD (ly-2) 0) HN1.out o7 o5 o6 o8 hG.1;have HGq:=anQ (hG.2 gd g1 g2 g3);have HG:=anQ g4;clear hG g2 g3 g4 lg yF CD L9;generalize O.getD (t+ly) 0=x4 at *
    generalize O.getD (t+ly-1) 0=x5 at *
    generalize O.getD (t+ly-2) 0=x6 at *
    have HV1:=anQ (rfl:V.getD (ly-1) 0=V.getD (ly-1) 0);generalize hx7:V.getD (ly-1) 0=x7 at *
    generalize V.getD (ly-2) 0=x8 at *
    clear hx7 HV1;have i1:(((t+1:Nat):Int)-1)=(t:Int):= aD ;have i2:((t:Int)+ly).toNat=t+ly:= aD ;have i3:((t:Int)+ly-1).toNat=t+ly-1:= aD ;have i4:((t:Int)+ly-2).toNat=t+ly-2:= aD ;have i6:((ly:Int)-2)=((ly-2:Nat):Int):= aD ;have p1:IntKind.i64.wrap ((t:Int)+ly)=(t:Int)+ly:=i64_in _ aD aD;have p2:IntKind.i64.wrap ((t:Int)+ly-1)=(t:Int)+ly-1:=i64_in _ aD aD;have p3:IntKind.i64.wrap ((t:Int)+ly-2)=(t:Int)+ly-2:=i64_in _ aD aD;have p4:IntKind.i64.wrap ((ly-1:Nat):Int)=((ly-1:Nat):Int):=i64_in _ aD aD;have p5:IntKind.i64.wrap ((ly-2:Nat):Int)=((ly-2:Nat):Int):=i64_in _ aD aD;have j6:((ly-1:Nat):Int)<ly:= aD ;have j7:((ly-2:Nat):Int)<ly:= aD ;have j0:0<=(t:Int)+ly:= aD ;have j1:0<=(t:Int)+ly-1:= aD ;have j2:0<=(t:Int)+ly-2:= aD ;have j3:(t:Int)+ly<lx+1:= aD ;have j4:(t:Int)+ly-1<(lx:Int)+1:= aD ;have j5:(t:Int)+ly-2<(lx:Int)+1:= aD ;rw[i1];clear i1;go_wp2;go_quiet (exact aiv (HG.out _));go_wp2_with fail;have HTk:=aly g t (cap-t) cap' gd O V R (some ⟨g',0,none⟩) (wr.drewN nq) (HRO.out.pV rfl) (HSV.out.drewN nq) (λb' o _ e=>by cases e;exact Io) HD.out.y9 (by rw[HnV.out];omega) g1 aD;rw[HnV.out,(aD:ly+1=t+ly+1-t)]at HTk;refine HTk.mono ?_;rintro e w5 ⟨O',δ,rfl,TU,pz,CN,hδ,lr,IL,CO⟩;have HRO':=anQ TU;have HON:=anQ CO;have HSV5:=anQ ((HSV.out.drewN nq).pC (λb' o _ e=>by cases e;exact Io) CO);have HRQ5:=anQ (show Rw w5 w3.heap.size Q from(CO.pC _ aD).trans HRQ.out);have HE5:=anQ (show iG w w5 from Fp.iG.alL HE.out CO Ux);have Ib:=pw t;have T4:0<val V:=by
     have:=HD.out.lt;rcases eV (val V)with h|h
     .rw [h,cN]at this;omega
     .exact h
    have wg:IntKind.u32.wrap (gd:Int)=gd:=by rw[IntKind.wrap_u32];omega
    have htm:(t:Int)<lx+1-(ly:Int):= aD ;have U1:t<Q.length:=by rw[HD.out.Fg,HnV.out];omega
    have L8:=bD U1;have cq:=HRQ5.out.cell L8;have fq:=HRQ5.out.frozen t;generalize Q[t]=q0 at *
    have HQG:=anQ L8;clear L8 U1 c4 c5 c6 c7 c8 HRO HRQ HSV HE HTk TU CO;rcases eE δ 1 with Vk|hδ1
    .obtain rfl:δ=0:= aD ;have TG:=RT Ib T4 (by rw[lr,cQ,bK]) HGq.out.1;have HDS:=anQ (HD.out.step (x:=gd) (by rw[HnV.out];omega) (by rw[pz,hO]) CN aD (by rw[lr,cQ,bK]) TG.2);clear TG lr IL CN pz HD HGq;have HRQ6:=anQ (λx:Nat=>HRQ5.out.set t x);have HRO6:=anQ (λv:Value=>HRO'.out.pV (w':=w5.setCell ⟨w3.heap.size,t,none⟩ v) (by simp only[World.setCell,dz];rw[bl aD]));have HSV6:=anQ (λv:Value=>HSV5.out.S2 (b:=w3.heap.size) aD t v);have HE6:=anQ (λv:Value=>HE5.out.setCell (p:=⟨w3.heap.size,t,none⟩) (by show w.heap.size<=w3.heap.size;omega) v);go_wp2;go_roundw
     case rel=>exact⟨t,O',Q.set t gd,aD,by go_num,HDS.out,HRO6.out _,HRQ6.out _,HSV6.out _,HE6.out _⟩
     case measure=>simp[intOf]
    .obtain rfl:δ=1:= aD ;have tC:=HD.out.Xc (x:=gd) HVok.out CN (by rw[HnV.out];exact lr) (by rw[HnV.out];exact IL);have Bk:=tC.2;have HB:=anQ (λ(κ:Nat) (O2:List Nat)=>HD.out.aaN (x:=gd) (κ:=κ) (O2:=O2) HVok.out (by rw[HnV.out];omega) CN (by rw[HnV.out];exact lr) (by rw[HnV.out];exact IL) g1 HGq.out.2 T4);have HP0:=anQ (xq.start CN t V);have UF:O'.length=lx+1:=by rw[pz,hO]
     have HL':=anQ UF;have hxm:IntKind.u64.wrap ((gd:Int)-1)=((gd-1:Nat):Int):=by rw[IntKind.wrap_u64];omega
     have wg1:IntKind.u32.wrap ((gd-1:Nat):Int)=((gd-1:Nat):Int):=by rw[IntKind.wrap_u32];omega
     clear tC lr IL CN pz UF HD HGq wg cq fq;go_wp2;go_loopw [15,125] (λcy i wr2=>∃ (k c':Nat) (O2:List Nat),k<=ly/\i = .int .i64 k/\cy = .int .u32 c'/\xq O' t V k O2 c'/\Rx wr2 g O2 R/\sQ g w5 wr2) (λ_ i _=>ly-(intOf i).toNat)
     case atStart=>exact⟨0,0,O',ch _,rfl,rfl,HP0.out,HRO'.out,sQ.refl _ _⟩
     case round=>
      clear HP0 HRO';obtain⟨k,c',O2,qY,rfl,rfl,hP,zU,EL⟩:=hrel;have HP:=anQ hP;have Ew:=hP.KS;have nt:O2.length=lx+1:=by rw[hP.len];exact HL'.out
      have HL2:=anQ nt;clear hP;by_cases iO:k<ly
      .have yN:k<V.length:=by rw[HnV.out];exact iO
       obtain⟨_,_,e1,_,c1⟩:=(HSV5.out.pC (λb' o _ e=>by cases e;exact Io) EL).lL yN;cases e1;rw[b6]at c1;have v7:V[k]=V.getD k 0:=by simp[bu,yN]
       rw[v7]at c1;have pL:t+k<O2.length:= aD ;have c2:=zU.cell pL;have c3:=zU.frozen (t+k);have ph:V.getD k 0<4294967296:=HVok.out.getD k;have EV:O2.getD (t+k) 0<4294967296:=HP.out.ok.getD _;have HST:=anQ (HP.out.step HVok.out yN (by rw[HL'.out,HnV.out];omega));have HRS:=anQ (λx:Nat=>zU.set pL x);have HOS:=anQ (λ(v:Value)=>EL.F7 (t+k) v);have HA:=anQ (λw=>DP (O2.getD (t+k) 0) (V.getD k 0) c' w EV ph Ew);clear zU EL HP v7 yN pL nt HL2;generalize O2.getD (t+k) 0=u at *
       generalize V.getD k 0=y at *
       have xE:((t:Int)+k).toNat=t+k:= aD ;have uc:0<=(t:Int)+k:= aD ;have UB:(t:Int)+k<lx+1:= aD ;go_wp2_with fail;refine(HA.out _).mono ?_;rintro e w6 ⟨rfl,rfl⟩;go_wp2;go_roundw
       case rel=>
        exact⟨k+1,(u+y+c')/4294967296,O2.set (t+k) ((u+y+c')%4294967296),aD,by go_num,rfl,HST.out,HRS.out _,HOS.out _⟩
       case measure=>simp[intOf];omega
      .obtain rfl:k=ly:= aD ;have Ia:=(show xq O' t V V.length O2 c' by rw[HnV.out];exact HP.out).Nu (by rw[HL'.out,HnV.out];omega);rw[HnV.out]at Ia;obtain⟨q1,q2,⟨κ,q3,q4⟩,q5⟩:=Ia;have pL:t+k<O2.length:= aD ;have c2:=zU.cell pL;have c3:=zU.frozen (t+k);have EV:O2.getD (t+k) 0<4294967296:=HP.out.ok.getD _;have HDS:=anQ (HB.out κ _ (by rw[q1];exact HL'.out) q2 q3 (by rw[HnV.out];exact q4) (by rw[HnV.out];exact q5));have HRS:=anQ (λx:Nat=>zU.set pL x);have HOS:=anQ (λ(v:Value)=>EL.F7 (t+k) v);have Ie:∀ v:Value,Rw (wr.setCell ⟨g,t+k,none⟩ v) w3.heap.size Q:=λv=>((HOS.out v).pC _ aD).trans HRQ5.out
       have hcq:∀ v:Value,(wr.setCell ⟨g,t+k,none⟩ v).cell? ⟨w3.heap.size,t,none⟩=some (.int .u32 (q0:Int)):=λv=>(Ie v).cell HQG.out
       have hfq:∀ v:Value,(wr.setCell ⟨g,t+k,none⟩ v).frozen? ⟨w3.heap.size,t,none⟩=false:=λv=>(Ie v).frozen t
       have HRQ8:=anQ (λ(v:Value) (x:Nat)=>(Ie v).set t x);have HRO8:=anQ (λ(x:Nat) (v:Value)=>(HRS.out x).pV (w':=(wr.setCell ⟨g,t+k,none⟩ (.int .u32 (x:Int))).setCell ⟨w3.heap.size,t,none⟩ v) (by simp only[World.setCell,dz];rw[bl aD]));have HSV8:=anQ (λ(v v2:Value)=>(HSV5.out.pC (λb' o _ e=>by cases e;exact Io) (HOS.out v)).S2 (b:=w3.heap.size) aD t v2);have HE8:=anQ (λ(v v2:Value)=>(Fp.iG.only HE5.out (HOS.out v) Ux).setCell (p:=⟨w3.heap.size,t,none⟩) (by show w.heap.size<=w3.heap.size;omega) v2);clear Ie HRS HOS zU EL HP q1 q2 q3 q4 q5 pL nt HL2;generalize O2.getD (t+k) 0=u at *
       have xE:((t:Int)+k).toNat=t+k:= aD ;have uc:0<=(t:Int)+k:= aD ;have UB:(t:Int)+k<lx+1:= aD ;have hi4:IntKind.u32.wrap ((u:Int)+c')=(((u+c')%4294967296:Nat):Int):=by rw[IntKind.wrap_u32];omega
       generalize (u+c')%4294967296=uu at *
       go_wp2;go_roundw
       case rel=>exact⟨t,O2.set (t+k) uu,Q.set t (gd-1),aD,by go_num,HDS.out,HRO8.out _ _,HRQ8.out _ _,HSV8.out _ _,HE8.out _ _⟩
       case measure=>simp[intOf]
def ak2:E.le (.v (.slice none 0 0)) (iw []):=λbs br w v h=>by
 obtain rfl:=iR.kN h;exact .sl false 0 1 _ none 0 (λ_ _=>undef) (bp _) aF (λ_=>rfl) (λi j hi=>absurd hi (bO i)) (λi j hi=>absurd hi (bO i)) (λi j hi=>absurd hi (bO i)) (λi j hi=>absurd hi (bO i))
def ak3{x:Nat}:E.le (.sl false 1 1 λi_ j_=>[.v (.int .u32 (x:Int))].getD (i_*1+j_) (.v (.bool false))) (iw [x]):=.sl λi j hi hj=>by
 obtain rfl:i=0:= aD ;obtain rfl:j=0:= aD ;exact⟨.refl _,rfl⟩
def Rp(L:List Nat)(hk:iK L):ig 235 [iw L] (iw L):=FP hk call235 (λA c w h _=>K2 A c L w h) λA c B w e w' h hB ⟨h1,h2⟩=>by
 subst h2;exact⟨_,h1,Below.refl _ _,zq hB (Below.refl _ _) ⟨bp _,h.len,h.ok,λhn=>by have:=h.w9 hn;have:=h.cap;omega,h.cell⟩⟩
def Rq(L:List Nat)(hk:iK L)(hl:L.length<=1000000):ig 220 [iw L] (iw L):=FP hk call220 (λA c w h _=>K3 A c L w h aD) λA c B w e w' h hB r=>rl B w e w' hB r
def ahb(L M:List Nat)(hL:iK L)(hM:iK M)(h1:L.length<=100000)(h2:M.length<=100000)(hc:kD (val (iy L)) (val (iy M))<0):ig 292 [iw L,iw M] (.iB [iw [],iw (iy L)]):=by
 have ta:=oF L;have tb:=oF M;unfold mn at ta tb;exact ak call292 func292 (ae [ag [iw L] (y6 _ aE),ag [iw M] (y6 _ aE),ag [iw (iy L),iw (iy M)] (FE _ _ (iK.iy aE) (iK.iy aE) aD aD),tB 25 (bq hc),ag [iw (iy L)] (Rq _ (iK.iy aE) aD)]<|rR (.iB [iw [],iw (iy L)]) (.iB (.cons ak2 (.cons (.refl _) .nil)):E.le (.iB [.v (.slice none 0 0),iw (iy L)]) (.iB [iw [],iw (iy L)]))) 
def ahc(L M:List Nat)(hL:iK L)(hM:iK M)(h1:L.length<=100000)(h2:M.length<=100000)(hc:¬kD (val (iy L)) (val (iy M))<0)(hl:(iy M).length=1)(qt:0<(iy M).getD 0 0)(sy:(iy M).getD 0 0<4294967296):ig 292 [iw L,iw M] (.iB [iw (iY (val (iy L)/(iy M).getD 0 0) (iy L).length),iw [val (iy L)%(iy M).getD 0 0]]):=by
 have ta:=oF L;have tb:=oF M;unfold mn at ta tb;exact ak call292 func292 (ae [ag [iw L] (y6 _ aE),ag [iw M] (y6 _ aE),ag [iw (iy L),iw (iy M)] (FE _ _ (iK.iy aE) (iK.iy aE) aD aD),tB 25 (bt hc),ah 30 (((iy M).length:Int)==1) (by rw[hl];rfl),iX 0 ((iy M).length) aD,.c (ahj (iy L) ((iy M).getD 0 0) (iK.iy aE) aD qt sy)]<|rR (.iB [iw (iY (val (iy L)/(iy M).getD 0 0) (iy L).length),iw [val (iy L)%(iy M).getD 0 0]]) (.iB (.cons (.refl _) (.cons ak3 .nil)):E.le (.iB [iw (iY (val (iy L)/((iy M).getD 0 0)) (iy L).length),(.sl false 1 1 λi_ j_=>[.v (.int .u32 ((val (iy L)%((iy M).getD 0 0):Nat):Int))].getD (i_*1+j_) (.v (.bool false)))]) (.iB [iw (iY (val (iy L)/(iy M).getD 0 0) (iy L).length),iw [val (iy L)%(iy M).getD 0 0]]))) 
def ahd(L M:List Nat)(hL:iK L)(hM:iK M)(h1:L.length<=100000)(h2:M.length<=100000)(h0:val M≠0):∃ T S:List Nat,ig 292 [iw L,iw M] (.iB [iw T,iw S])/\val T=val L/val M/\val S=val L%val M/\iK T/\iK S/\T.length<=L.length/\S.length<=L.length+1:=by
 have ta:=oF L;have tb:=oF M;unfold mn at ta tb;have e1:=oG L;have e2:=oG M;by_cases hc:kD (val (iy L)) (val (iy M))<0
 .refine ⟨[],iy L,ahb L M hL hM h1 h2 hc,?_,?_,iK.nil,hL.iy,ch _,aD⟩
  .rw [e1,e2]at hc;have:val L<val M:=by unfold kD at hc;split at hc<;>(try split at hc)<;>omega
   rw[cA this];rfl
  .rw [e1,e2]at hc;have:val L<val M:=by unfold kD at hc;split at hc<;>(try split at hc)<;>omega
   rw[bQ this,e1]
 .have qW:val M<=val L:=by rw[e1,e2]at hc;unfold kD at hc;split at hc<;>(try split at hc)<;>omega
  have kq:iy M≠[]:=by intro h;rw[h]at e2;exact h0 e2.symm
  have hlen:(iy M).length≠0:=by simpa using kq
  by_cases hl:(iy M).length=1
  .obtain ⟨x,hx⟩:=List.length_eq_one_iff.1 hl;have lg:=hM.iy;rw[hx]at lg;have Vd:x=val M:=by rw[<-e2,hx];simp[val]
   have hg:(iy M).getD 0 0=x:=by rw[hx];rfl
   have:=ahc L M hL hM h1 h2 hc hl (by rw[hg];omega) (by rw[hg];exact lg.head);rw[hg]at this;refine⟨_,_,this,?_,?_,tn _ _,iK.cons (fU (bC _ aD) lg.head) iK.nil,by rw[mP];exact ta,aJ⟩
   .rw [xl,bQ,e1,Vd];exact cK (cE _ _) (mC hL.iy)
   .simp [val,e1,Vd]
  .refine ⟨_,_,BN hL hM call292 (λA c B d w h k hT=>acn A B c d L M w _ _ _ rfl rfl rfl h k hT h1 h2 qW aD) (λB w e w' hB ⟨A1,c1,B1,d1,q1,q2,q3,q4⟩=>⟨_,q1,q4,kB.iB (.cons (zq hB q4 q2) (.cons (zq hB q4 q3) (.nil _ _ _)))⟩),?_,?_,tn _ _,FM _ _,?_,?_⟩
   .rw [xl,bQ];rw[cr aD];have g1:=mC hL.iy;rw[e1]at g1;refine bT g1 ?_;obtain⟨l,pz⟩:∃ l,(iy M).length=l+1:=⟨(iy M).length-1,aD⟩
    have g2:4294967296^l<=val M:=by
     apply b9;intro q;have q2:(ij (val M)).length<=l:=q9 aD;rw[<-rJ hM]at q2;omega
    have g3:=cM (4294967296^((iy L).length+1-(iy M).length)) g2;rw[<-bw]at g3;refine bJ ?_ g3;exact bI aF aD 
   .rw [PI (kS _),jR,eg _ (bA aF)]
   .rw [mP];omega
   .rw [J1,fh];have hb:32-iA ((iy M).getD ((iy M).length-1) 0)<33:= aD ;have:=agz (kS (val L%val M)) (32-iA ((iy M).getD ((iy M).length-1) 0));rw[jR]at this;have h3:(ij (val L%val M)).length<=(ij (val L)).length:=vG (gI _ _);rw[<-rJ hL]at h3;omega
def aha(m n:Nat)(h1:(ij m).length<=256)(h2:(ij n).length<=256)(h0:n≠0):ig 267 [iw (ij m),iw (ij n)] (.iB [iw (ij (m/n)),iw (ij (m%n)),iP 0]):=by
 obtain⟨T,S,Um,hT,hS,oT,oS,_,_⟩:=ahd (ij m) (ij n) (kS m) (kS n) aD aD (by rw[jR];exact h0);rw[jR,jR]at hT hS;have hz:iy (ij n)=ij n:=yg n;have hl:=qh h0;have nt:(((iy (ij n)).length:Int)==0)=false:=by rw[hz];exact ou hl
 exact ak call267 func267 (ae [.c (WC (ij m) (ij n) aE aE),ag [iw (ij n)] (y6 _ (kS _)),ai 18 (((iy (ij n)).length:Int)==0) nt,ag [iw (ij m),iw (ij n)] Um,ag [iw T] (y6 _ aE),ag [iw (iy T)] (Rp _ (iK.iy aE)),ag [iw S] (y6 _ aE),ag [iw (iy S)] (Rp _ (iK.iy aE))]<|rQ (.iB [iw (iy T),iw (iy S),iP 0]) (.iB [iw (ij (m/n)),iw (ij (m%n)),iP 0]) (by rw[rJ oT,rJ oS,hT,hS])) 
def X3(a b:Dy)(p:Nat)(up:Bool)(ha:a.iu)(hb:b.iu)(b0:b.m≠0)(iD:8<=p)(iq:p<=512):ig 221 [im a,im b,iP p,bP up] (.iB [im (ks a b p up),iP (mS a b p up)]):=by
 by_cases a0:a.m=0
 .have e1:ks a b p up=iQ/\mS a b p up=0:=by unfold ks mS;rw[bn a0,bn a0];exact⟨rfl,rfl⟩
  exact ak call221 func221 (ae [.o 18 (.e (wA _ _):aj (.sl true 2 3 λi_ j_=>(jc a++jc b).getD (i_*3+j_) (.v (.bool false))) (nZ [a,b])),ag [iP p,nZ [a,b]] (xg _ _ _ aE aE aD aD),ai 21 ((0:Int) != 0) aF,ai 28 (((ij b.m).length:Int)==0) (ou (qh b0)),ah 34 (((ij a.m).length:Int)==0) (sk (qg.2 a0)),.o 35 (.e tc:aj (.agg aq) (im iQ))]<|rQ (.iB [im iQ,iP 0]) (.iB [im (ks a b p up),iP (mS a b p up)]) (by rw[e1.1,e1.2])) 
 .have va:=ha.ij;have vb:=hb.ij;have xa:=ha.exp;have xb:=hb.exp;have ra:=ha.range.resolve_left a0;have rb:=hb.range.resolve_left b0;have pa:=nj a0;have pb:=nj b0;have hK:kv a b p 3=p+3+iA b.m-iA a.m:=rfl;have bs:=qE a0 (kv a b p 3);have z1:(ij (a.m*2^kv a b p 3)).length<=256:=nV aD;have hq:=Le a0 b0 p 3 aF;have q0:a.m*2^kv a b p 3/b.m≠0:=by intro q;rw[q,sx]at hq;omega
  have z2:(ij (a.m*2^kv a b p 3/b.m)).length<=256:=nV (by have:=tg (cE (a.m*2^kv a b p 3) b.m);omega);have z3:(ij (a.m*2^kv a b p 3%b.m)).length<=256:=nV (by have:=tg (dG (bC (a.m*2^kv a b p 3) (eF b0)));omega);have jS:decide (0<(iA (a.m*2^kv a b p 3%b.m):Int))=decide (a.m*2^kv a b p 3%b.m≠0):=by
   by_cases h:a.m*2^kv a b p 3%b.m=0
   .rw [h,sx];rfl
   .have:=nj h;rw[bq h,bq aD]
  obtain⟨d1,d2⟩:=aci a0 b0 p up;have h0:a.m*2^kv a b p 3/b.m≠0\/a.m*2^kv a b p 3/b.m=0/\a.e-(kv a b p 3:Int)-b.e=0/\decide (0<(iA (a.m*2^kv a b p 3%b.m):Int))=false:=.inl q0;have hm:decide (0<(iA (a.m*2^kv a b p 3%b.m):Int))=true->p<iA (a.m*2^kv a b p 3/b.m):=λ_=>hq
  exact ak call221 func221 (ae [.o 18 (.e (wA _ _):aj (.sl true 2 3 λi_ j_=>(jc a++jc b).getD (i_*3+j_) (.v (.bool false))) (nZ [a,b])),ag [iP p,nZ [a,b]] (xg _ _ _ aE aE aD aD),ai 21 ((0:Int) != 0) aF,ai 28 (((ij b.m).length:Int)==0) (ou (qh b0)),ai 34 (((ij a.m).length:Int)==0) (ou (qh a0)),iC ((p:Int)+3) aD,ag [im b] (Sa _ aE),iC (((p:Int)+3)+(iA (Dy.m b):Int)) aD,ag [im a] (Sa _ aE),
   iC ((((p:Int)+3)+(iA (Dy.m b):Int))-(iA (Dy.m a):Int)) aD,.o 44 (an (if((((p:Int)+3)+(iA (Dy.m b):Int))-(iA (Dy.m a):Int))>0 then((((p:Int)+3)+(iA (Dy.m b):Int))-(iA (Dy.m a):Int))else 0) (kv a b p 3:Int) aQ),.c (yd a.m (kv a b p 3) aD aD aD),ag [iw (ij (a.m*2^(kv a b p 3))),iw (ij b.m)] (aha _ _ aD aD aE),
   iC (a.e-(kv a b p 3:Int)) aD,iC ((a.e-(kv a b p 3:Int))-b.e) aD,ag [iw (ij ((a.m*2^(kv a b p 3))%b.m))] (vN _ aD),.c (FW (! (a.neg==b.neg)) ((a.m*2^(kv a b p 3))/b.m) ((a.e-(kv a b p 3:Int))-b.e) (decide (0<(iA ((a.m*2^(kv a b p 3))%b.m):Int))) up p aD aE aD aD aD aD aE)]<|rQ (.iB [im (kf (!(a.neg==b.neg)) ((a.m*2^(kv a b p 3))/b.m) ((a.e-(kv a b p 3:Int))-b.e) (decide (0<(iA ((a.m*2^(kv a b p 3))%b.m):Int))) p up),iP (jV (!(a.neg==b.neg)) ((a.m*2^(kv a b p 3))/b.m) ((a.e-(kv a b p 3:Int))-b.e) (decide (0<(iA ((a.m*2^(kv a b p 3))%b.m):Int))) p up)]) (.iB [im (ks a b p up),iP (mS a b p up)]) (by rw[<-d1,<-d2,<-jS];rfl)) 
def X1(a b:Dy)(p:Nat)(ha:a.iu)(hb:b.iu)(b0:b.m≠0)(iD:8<=p)(iq:p<=512):ig 142 [im a,im b,iP p] (.iB [im (ks a b p false),iP (mS a b p false)]):=
 ak call142 func142 (af [ag [im a,im b,iP p,bP false] (X3 _ _ _ _ aE aE aE aD aD)]) 
def X2(a b:Dy)(p:Nat)(ha:a.iu)(hb:b.iu)(b0:b.m≠0)(iD:8<=p)(iq:p<=512):ig 143 [im a,im b,iP p] (.iB [im (ks a b p true),iP (mS a b p true)]):=
 ak call143 func143 (af [ag [im a,im b,iP p,bP true] (X3 _ _ _ _ aE aE aE aD aD)]) 
def VD(l:List Iv)(i:Nat):PS:=⟨19,true,[(7,.e (iP i)),(6,.e (iP l.length)),(5,.e (iz l))],[]⟩
def VC(l:List Iv)(N:Nat)(i:Nat):PS:=⟨19,true,[(7,.e (iP i)),(6,.e (iP l.length)),(5,.e (iz l))],[]⟩
def mr(a:Iv):E.le (.sl true 1 7 λi j=>(iZ a).getD (i*7+j) (.v (.bool false))) (iz [a]):=.sl λi j hi hj=>by
 obtain rfl:i=0:= aD ;rcases j with _|_|_|_|_|_|_|j
 all_goals first|exact⟨.refl _,rfl⟩|omega
def xO(a b:Iv):E.le (.sl true 2 7 λi j=>(iZ a++iZ b).getD (i*7+j) (.v (.bool false))) (iz [a,b]):=.sl λi j hi hj=>by
 obtain rfl|rfl:i=0\/i=1:= aD 
 all_goals
  rcases j with _|_|_|_|_|_|_|j
  all_goals first|exact⟨.refl _,rfl⟩|omega
def pO{x:Iv}(h:x.iu)(ha:x.all=false):x.lo.iu/\x.hi.iu/\jA x.lo x.hi<=0:=by
 rcases h with⟨h1,_⟩|⟨_,h⟩
 .rw [ha]at h1;cases h1
 .exact h
def VF{x:Iv}(h:x.iu)(ha:x.all=true):x.lo=iQ/\x.hi=iQ:=by
 rcases h with⟨_,h⟩|⟨h1,_⟩
 .exact h
 .rw [ha]at h1;cases h1
def sj : ig 41 [] (ix il):=
 ak call41 func41 (af [.o 1 (.e yj:aj (.agg [bP false,.v (.slice none 0 0),iP 0,bP false,.v (.slice none 0 0),iP 0,bP true]) (ix il))]) 
def Nj(lo hi:Dy)(e f:Int):ig 147 [im lo,iP e,im hi,iP f] (ix (mU lo e hi f)):=by
 by_cases he:e=0
 .by_cases hf:f=0
  .exact ak call147 func147 (ae [ai 10 (e != 0) (by rw[he];rfl),ai 13 (f != 0) (by rw[hf];rfl)]<|rQ (ix (Iv.mk lo hi false)) (ix (mU lo e hi f)) (by rw[show mU lo e hi f=⟨lo,hi,false⟩by unfold mU;rw[bl (by simp[he,hf])]];try rfl)) 
  .exact ak call147 func147 (ae [ai 10 (e != 0) (by rw[he];rfl),ah 13 (f != 0) (by simpa using hf),ag [] sj]<|rQ (ix il) (ix (mU lo e hi f)) (by rw[show mU lo e hi f=il by unfold mU;rw[bn (.inr hf)]])) 
 .exact ak call147 func147 (ae [ah 10 (e != 0) (by simpa using he),ag [] sj]<|rQ (ix il) (ix (mU lo e hi f)) (by rw[show mU lo e hi f=il by unfold mU;rw[bn (.inl he)]])) 
def VI : ig 125 [im iQ] (bP true):=
 ak call125 func125 (af [ai 4 iQ.neg rfl,ah 10 (((ij iQ.m).length:Int)==0) (sk (qg.2 rfl)),ah 15 (iQ.e==0) rfl]) 
def si(x:Iv)(hx:x.iu):ig 60 [ix x] (bP true):=by
 by_cases kC:x.all=true
 .obtain ⟨h1,h2⟩:=VF hx kC;exact ak call60 func60 (af [ah 5 x.all kC,.c (by rw[h1];exact VI:ig 125 [im x.lo] (bP true)),.c (by rw[h2];exact VI:ig 125 [im x.hi] (bP true))]) 
 .replace kC:x.all=false:=by simpa using kC
  obtain⟨h1,h2,h3⟩:=pO hx kC;exact ak call60 func60 (af [ai 5 x.all kC,ag [im x.lo] (rz _ aE),ag [im x.hi] (rz _ aE),ag [im x.lo,im x.hi] (nK _ _ aE aE),tB 30 (bq h3)]) 
def VE(l:List Iv)(hl:l.length<=1000)(hv:∀ i,i<l.length->(l.getD i il).iu)(ha:∀ i,i<l.length->(l.getD i il).all=false):ig 138 [iz l] (bP true):=
 ak call138 func138 (af [.s (Sp.jP (VD l) 0 l.length aD (λi hi qH=>by
    have U6:=hv i aD;have Mm:=ha i aD;exact iM (af [tT 8 ((i:Int)<l.length) aD,iX (i:Int) (l.length) aD,ai 12 ((l.getD i il).all) Mm,ag [ix (l.getD i il)] (si _ aE),
     iC ((i:Int)+1) aD]) aG)
  (λhi=>by
    exact iM (af [tF 8 ((l.length:Int)<l.length) aD]) aG) aK:jO 2 f138 (VD l 0) (.exit 0) ⟨19,true,[],[]⟩) .nil]) 
def Nh(l:List Iv)(hl:l.length<=1000)(hv:∀ i,i<l.length->(l.getD i il).iu)(N:Nat)(hN:N<l.length)(ha:∀ i,i<N->(l.getD i il).all=false)(qV:(l.getD N il).all=true):ig 138 [iz l] (bP false):=
 ak call138 func138 (af [.s (Sp.jP (VC l N) 0 N aD (λi hi qH=>by
    have U6:=hv i aD;have Mm:=ha i aD;exact iM (af [tT 8 ((i:Int)<l.length) aD,iX (i:Int) (l.length) aD,ai 12 ((l.getD i il).all) Mm,ag [ix (l.getD i il)] (si _ aE),
     iC ((i:Int)+1) aD]) aG)
  (λhi=>by
    exact iM (af [tT 8 ((N:Int)<l.length) aD,iX (N:Int) (l.length) aD,ah 12 ((l.getD N il).all) qV]) aG) aK:jO 2 f138 (VC l N 0) .ret ⟨19,true,[(2,.e (bP false))],[]⟩) .nil]) 
def sf(x:Iv)(hx:x.iu):ig 138 [iz [x]] (bP (!x.all)):=by
 have hv:∀ i,i<[x].length->([x].getD i il).iu:=λi hi=>(match i,hi with
  | 0,_=>hx
  |n+1,hi=>absurd hi aJ)
 cases kC:x.all with
 |true=>exact Nh [x] aJ hv 0 aJ (λi hi=>absurd hi (bO i)) kC
 |false=>exact VE [x] aJ hv (λi hi=>(match i,hi with
  | 0,_=>kC
  |n+1,hi=>absurd hi aJ))
def Aj(x y:Iv)(hx:x.iu)(hy:y.iu):ig 138 [iz [x,y]] (bP (!(x.all||y.all))):=by
 have hv:∀ i,i<[x,y].length->([x,y].getD i il).iu:=λi hi=>(match i,hi with
  | 0,_=>hx
  | 1,_=>hy
  |n+2,hi=>absurd hi aJ)
 cases kC:x.all with
 |true=>exact Nh [x,y] aJ hv 0 aJ (λi hi=>absurd hi (bO i)) kC
 |false=>cases Af:y.all with
  |true=>exact Nh [x,y] aJ hv 1 aJ (λi hi=>(match i,hi with
   | 0,_=>kC
   |n+1,hi=>absurd hi aD)) Af
  |false=>exact VE [x,y] aJ hv (λi hi=>(match i,hi with
   | 0,_=>kC
   | 1,_=>Af
   |n+2,hi=>absurd hi aJ))
def vF(x y:Iv)(p:Nat)(hx:x.iu)(hy:y.iu)(iD:8<=p)(iq:p<=512):ig 73 [ix x,ix y,iP p] (ix (jL x y p)):=by
 by_cases hk:(x.all||y.all)=true
 .exact ak call73 func73 (ae [.o 13 (.e (xO _ _):aj (.sl true 2 7 λi_ j_=>(iZ x++iZ y).getD (i_*7+j_) (.v (.bool false))) (iz [x,y])),ag [iz [x,y]] (Aj _ _ aE aE),ai 14 (!(x.all||y.all)) (by rw[hk];rfl),ag [] sj]<|rQ (ix il) (ix (jL x y p)) (by rw[show jL x y p=il by unfold jL;rw[bn hk]])) 
 .replace hk:(x.all||y.all)=false:=by simpa using hk
  have kC:x.all=false:=by cases h:x.all;rfl;rw[h]at hk;simp at hk
  have Af:y.all=false:=by cases h:y.all;rfl;rw[h]at hk;simp at hk
  obtain⟨v1,v2,v3⟩:=pO hx kC;obtain⟨v4,v5,v6⟩:=pO hy Af;exact ak call73 func73 (ae [.o 13 (.e (xO _ _):aj (.sl true 2 7 λi_ j_=>(iZ x++iZ y).getD (i_*7+j_) (.v (.bool false))) (iz [x,y])),ag [iz [x,y]] (Aj _ _ aE aE),ah 14 (!(x.all||y.all)) (by rw[hk];rfl),ag [iP p] (Ak _),ah 18 (kT (p:Int)) (oM.2 ⟨aD,aD⟩),.c (ajl x.lo y.lo p aE aE aD aD),.c (xf x.hi y.hi p aE aE aD aD),ag [im (jG (iJ x.lo y.lo) p false),iP (jZ (iJ x.lo y.lo) p false),im (jG (iJ x.hi y.hi) p true),iP (jZ (iJ x.hi y.hi) p true)] (Nj _ _ _ _)]<|rQ (ix (mU (jG (iJ x.lo y.lo) p false) (jZ (iJ x.lo y.lo) p false) (jG (iJ x.hi y.hi) p true) (jZ (iJ x.hi y.hi) p true))) (ix (jL x y p)) (by rw[show jL x y p=_ by unfold jL;rw[bl (by rw[hk];decide)]])) 
def I1(x:Iv)(hx:x.iu):ig 219 [ix x] (ix (nL x)):=by
 by_cases kC:x.all=true
 .exact ak call219 func219 (ae [.o 4 (.e (mr _):aj (.sl true 1 7 λi_ j_=>(iZ x).getD (i_*7+j_) (.v (.bool false))) (iz [x])),ag [iz [x]] (sf _ aE),ai 5 (!x.all) (by rw[kC];rfl),ag [] sj]<|rQ (ix il) (ix (nL x)) (by rw[show nL x=il by unfold nL;rw[bn kC]])) 
 .replace kC:x.all=false:=by simpa using kC
  obtain⟨v1,v2,v3⟩:=pO hx kC;exact ak call219 func219 (ae [.o 4 (.e (mr _):aj (.sl true 1 7 λi_ j_=>(iZ x).getD (i_*7+j_) (.v (.bool false))) (iz [x])),ag [iz [x]] (sf _ aE),ah 5 (!x.all) (by rw[kC];rfl),ag [im x.hi] (yA _ aE),ag [im x.lo] (yA _ aE)]<|rQ (ix (Iv.mk (jf x.hi) (jf x.lo) false)) (ix (nL x)) (by rw[show nL x=⟨jf x.hi,jf x.lo,false⟩by unfold nL;rw[bl (by rw[kC];decide)]];try rfl)) 
def C1(x y:Iv)(p:Nat)(hx:x.iu)(hy:y.iu)(iD:8<=p)(iq:p<=512):ig 131 [ix x,ix y,iP p] (ix (lk x y p)):=by
 have hn:=sE hy;exact ak call131 func131 (af [ag [ix y] (I1 _ aE),ag [ix x,ix (nL y),iP p] (vF _ _ _ aE aE aD aD)]) 
def xM(d:Dy)(hd:d.iu):ig 12 [im d] (ix (iV d)):=
 ak call12 func12 (af [ag [im d] (rz _ aE)]) 
def He(d:Dy)(hd:d.iu):ig 263 [im d] (im (lR d)):=by
 have hl:=hd.ij;by_cases h0:d.m=0
 .have e1:lR d=iQ:=by
   rcases hd.canon with q|q
   .unfold lR iQ;rw[q.1,q.2.2]
   .omega
  exact ak call263 func263 (ae [ag [im d] (rz _ aE),ah 10 (((ij d.m).length:Int)==0) (sk (qg.2 h0)),.o 12 (.e tc:aj (.agg aq) (im iQ))]<|rQ (im iQ) (im (lR d)) (by rw[e1])) 
 .exact ak call263 func263 (af [ag [im d] (rz _ aE),ai 10 (((ij d.m).length:Int)==0) (ou (qh h0)),ag [iw (ij d.m)] (Rq _ (kS _) aD)]) 
def Ni(a b:Dy)(ha:a.iu)(hb:b.iu):ig 62 [im a,im b] (im (ji a b)):=by
 have hc:=zL a b;by_cases h:(jA a b<=0)
 .exact ak call62 func62 (ae [ag [im a,im b] (nK _ _ aE aE),tB 8 (bq h)]<|rQ (im a) (im (ji a b)) (by unfold ji;rw[bl aD])) 
 .exact ak call62 func62 (ae [ag [im a,im b] (nK _ _ aE aE),tB 8 (bt h)]<|rQ (im b) (im (ji a b)) (by unfold ji;rw[bn aD])) 
def Nk(a b:Dy)(ha:a.iu)(hb:b.iu):ig 61 [im a,im b] (im (je a b)):=by
 have hc:=zL a b;by_cases h:(0<=jA a b)
 .exact ak call61 func61 (ae [ag [im a,im b] (nK _ _ aE aE),tB 8 (bq h)]<|rQ (im a) (im (je a b)) (by unfold je;rw[bl aD])) 
 .exact ak call61 func61 (ae [ag [im a,im b] (nK _ _ aE aE),tB 8 (bt h)]<|rQ (im b) (im (je a b)) (by unfold je;rw[bn aD])) 
def I2(x:Iv)(hx:x.iu):ig 140 [ix x] (iP (mh x)):=by
 by_cases kC:x.all=true
 .exact ak call140 func140 (ae [.o 5 (.e (mr _):aj (.sl true 1 7 λi_ j_=>(iZ x).getD (i_*7+j_) (.v (.bool false))) (iz [x])),ag [iz [x]] (sf _ aE),ai 6 (!x.all) (by rw[kC];rfl)]<|rQ (iP 0) (iP (mh x)) (by rw[show mh x=0 by unfold mh;rw[bn kC]])) 
 .replace kC:x.all=false:=by simpa using kC
  obtain⟨v1,v2,v3⟩:=pO hx kC;by_cases h1:0<x.lo.jh
  .exact ak call140 func140 (ae [.o 5 (.e (mr _):aj (.sl true 1 7 λi_ j_=>(iZ x).getD (i_*7+j_) (.v (.bool false))) (iz [x])),ag [iz [x]] (sf _ aE),ah 6 (!x.all) (by rw[kC];rfl),ag [im x.lo] (rW _ aE),tB 12 (bq h1)]<|rQ (iP 1) (iP (mh x)) (by rw[show mh x=1 by unfold mh;rw[bl (by rw[kC];decide)];simp[h1]])) 
  .by_cases h2:x.hi.jh<0
   .exact ak call140 func140 (ae [.o 5 (.e (mr _):aj (.sl true 1 7 λi_ j_=>(iZ x).getD (i_*7+j_) (.v (.bool false))) (iz [x])),ag [iz [x]] (sf _ aE),ah 6 (!x.all) (by rw[kC];rfl),ag [im x.lo] (rW _ aE),tB 12 (bt h1),ag [im x.hi] (rW _ aE),tB 17 (bq h2)]<|rQ (iP (-1)) (iP (mh x)) (by rw[show mh x = -1 by unfold mh;rw[bl (by rw[kC];decide)];simp[h1,h2]])) 
   .exact ak call140 func140 (ae [.o 5 (.e (mr _):aj (.sl true 1 7 λi_ j_=>(iZ x).getD (i_*7+j_) (.v (.bool false))) (iz [x])),ag [iz [x]] (sf _ aE),ah 6 (!x.all) (by rw[kC];rfl),ag [im x.lo] (rW _ aE),tB 12 (bt h1),ag [im x.hi] (rW _ aE),tB 17 (bt h2)]<|rQ (iP 0) (iP (mh x)) (by rw[show mh x=0 by unfold mh;rw[bl (by rw[kC];decide)];simp[h1,h2]])) 
def xL(x:Iv)(hx:x.iu)(kC:x.all=false):ig 215 [ix x] (.iB [im (kO x),bP true]):=by
 obtain⟨v1,v2,v3⟩:=pO hx kC;have w1:=uQ v1;have w2:=uQ v2;exact ak call215 func215 (af [.o 5 (.e (mr _):aj (.sl true 1 7 λi_ j_=>(iZ x).getD (i_*7+j_) (.v (.bool false))) (iz [x])),ag [iz [x]] (sf _ aE),ah 6 (!x.all) (by rw[kC];rfl),ag [im x.lo] (He _ aE),ag [im x.hi] (He _ aE),ag [im (lR x.lo),im (lR x.hi)] (Nk _ _ aE aE)]) 
def afV(x:Iv)(hx:x.iu)(kC:x.all=false):ig 218 [ix x] (.iB [im (ot x),bP true]):=by
 obtain⟨v1,v2,v3⟩:=pO hx kC;have w1:=uQ v1;have w2:=uQ v2;by_cases hs:mh x=0
 .exact ak call218 func218 (ae [.o 5 (.e (mr _):aj (.sl true 1 7 λi_ j_=>(iZ x).getD (i_*7+j_) (.v (.bool false))) (iz [x])),ag [iz [x]] (sf _ aE),ah 6 (!x.all) (by rw[kC];rfl),ag [ix x] (I2 _ aE),ah 11 ((mh x)==0) (by rw[hs];rfl),.o 12 (.e tc:aj (.agg aq) (im iQ))]<|rQ (.iB [im iQ,bP true]) (.iB [im (ot x),bP true]) (by rw[show ot x=iQ by unfold ot;rw[bn hs]])) 
 .exact ak call218 func218 (ae [.o 5 (.e (mr _):aj (.sl true 1 7 λi_ j_=>(iZ x).getD (i_*7+j_) (.v (.bool false))) (iz [x])),ag [iz [x]] (sf _ aE),ah 6 (!x.all) (by rw[kC];rfl),ag [ix x] (I2 _ aE),ai 11 ((mh x)==0) (by simpa using hs),ag [im x.lo] (He _ aE),ag [im x.hi] (He _ aE),ag [im (lR x.lo),im (lR x.hi)] (Ni _ _ aE aE)]<|rQ (.iB [im (ji (lR x.lo) (lR x.hi)),bP true]) (.iB [im (ot x),bP true]) (by rw[show ot x=ji (lR x.lo) (lR x.hi)by unfold ot;rw[bl hs]])) 
def Fa(x:Iv)(hx:x.iu):ig 130 [ix x] (ix (jD x)):=by
 by_cases kC:x.all=true
 .exact ak call130 func130 (ae [.o 8 (.e (mr _):aj (.sl true 1 7 λi_ j_=>(iZ x).getD (i_*7+j_) (.v (.bool false))) (iz [x])),ag [iz [x]] (sf _ aE),ai 9 (!x.all) (by rw[kC];rfl),ag [] sj]<|rQ (ix il) (ix (jD x)) (by rw[show jD x=il by unfold jD;rw[bn kC]])) 
 .replace kC:x.all=false:=by simpa using kC
  obtain⟨v1,v2,v3⟩:=pO hx kC;exact ak call130 func130 (ae [.o 8 (.e (mr _):aj (.sl true 1 7 λi_ j_=>(iZ x).getD (i_*7+j_) (.v (.bool false))) (iz [x])),ag [iz [x]] (sf _ aE),ah 9 (!x.all) (by rw[kC];rfl),ag [ix x] (afV _ aE kC),ag [ix x] (xL _ aE kC)]<|rQ (ix (Iv.mk (ot x) (kO x) false)) (ix (jD x)) (by rw[show jD x=⟨ot x,kO x,false⟩by unfold jD;rw[bl (by rw[kC];decide)]];try rfl)) 
def afO(x y:Iv)(p:Nat)(gd gu:FuncId)(DD:Dy->Dy->Bool->Dy)(EE:Dy->Dy->Bool->Int):PS:=⟨96,true,[(41,.e (iP 0)),(40,.e (.agg (iZ (Iv.mk x.lo y.lo x.lo.neg)++[iw (ij x.lo.m),iP x.lo.e]++iZ (Iv.mk y.hi x.hi y.lo.neg)++[iw (ij y.lo.m),iP y.lo.e]++jc x.hi++jc y.hi))),(12,.box 12 0),(10,.box 10 0),(2,.e (iP p)),(3,.e (.fn gd [])),(4,.e (.fn gu []))],[(12,.cells 33 (iZ (Iv.mk (DD x.lo y.lo false) (DD x.lo y.lo true) false))),(10,.cells 33 ar)]⟩
def afP(x y:Iv)(p:Nat)(gd gu:FuncId)(DD:Dy->Dy->Bool->Dy)(EE:Dy->Dy->Bool->Int):PS:=⟨96,true,[(41,.e (iP (0+1))),(40,.e (.agg (iZ (Iv.mk x.lo y.lo x.lo.neg)++[iw (ij x.lo.m),iP x.lo.e]++iZ (Iv.mk y.hi x.hi y.lo.neg)++[iw (ij y.lo.m),iP y.lo.e]++jc x.hi++jc y.hi))),(12,.box 12 0),(10,.box 10 0),(2,.e (iP p)),(3,.e (.fn gd [])),(4,.e (.fn gu []))],[(12,.cells 33 (iZ (Iv.mk (ji (DD x.lo y.lo false) (DD x.lo y.hi false)) (je (DD x.lo y.lo true) (DD x.lo y.hi true)) false))),(10,.cells 33 ar)]⟩
def afQ(x y:Iv)(p:Nat)(gd gu:FuncId)(DD:Dy->Dy->Bool->Dy)(EE:Dy->Dy->Bool->Int):PS:=⟨96,true,[(41,.e (iP ((0+1)+1))),(40,.e (.agg (iZ (Iv.mk x.lo y.lo x.lo.neg)++[iw (ij x.lo.m),iP x.lo.e]++iZ (Iv.mk y.hi x.hi y.lo.neg)++[iw (ij y.lo.m),iP y.lo.e]++jc x.hi++jc y.hi))),(12,.box 12 0),(10,.box 10 0),(2,.e (iP p)),(3,.e (.fn gd [])),(4,.e (.fn gu []))],[(12,.cells 33 (iZ (Iv.mk (ji (ji (DD x.lo y.lo false) (DD x.lo y.hi false)) (DD x.hi y.lo false)) (je (je (DD x.lo y.lo true) (DD x.lo y.hi true)) (DD x.hi y.lo true)) false))),(10,.cells 33 ar)]⟩
def afR(x y:Iv)(p:Nat)(gd gu:FuncId)(DD:Dy->Dy->Bool->Dy)(EE:Dy->Dy->Bool->Int):PS:=⟨96,true,[(41,.e (iP (((0+1)+1)+1))),(40,.e (.agg (iZ (Iv.mk x.lo y.lo x.lo.neg)++[iw (ij x.lo.m),iP x.lo.e]++iZ (Iv.mk y.hi x.hi y.lo.neg)++[iw (ij y.lo.m),iP y.lo.e]++jc x.hi++jc y.hi))),(12,.box 12 0),(10,.box 10 0),(2,.e (iP p)),(3,.e (.fn gd [])),(4,.e (.fn gu []))],[(12,.cells 33 (iZ (Iv.mk (ji (ji (ji (DD x.lo y.lo false) (DD x.lo y.hi false)) (DD x.hi y.lo false)) (DD x.hi y.hi false)) (je (je (je (DD x.lo y.lo true) (DD x.lo y.hi true)) (DD x.hi y.lo true)) (DD x.hi y.hi true)) false))),(10,.cells 33 ar)]⟩
def VB(x y:Iv)(p:Nat)(gd gu:FuncId)(DD:Dy->Dy->Bool->Dy)(EE:Dy->Dy->Bool->Int)(hd:∀ a b,(a=x.lo\/a=x.hi)->(b=y.lo\/b=y.hi)->ig gd [im a,im b,iP (p:Int)] (.iB [im (DD a b false),iP (EE a b false)]))
  (hu:∀ a b,(a=x.lo\/a=x.hi)->(b=y.lo\/b=y.hi)->ig gu [im a,im b,iP (p:Int)] (.iB [im (DD a b true),iP (EE a b true)])) (hv:∀ a b up,(DD a b up).iu):ig 141 [ix x,ix y,iP p,.fn gd [],.fn gu []] (ix (me DD EE x y)):=by
 exact ak call141 func141 (ae [.u 5,ah 42 (decide ((0:Int)<4)) aF]<|.w ((EE x.lo y.lo false)=0)
  (λk1=>.w ((EE x.lo y.lo true)=0)
   (λk2=>ae [.j 3 (afO x y p gd gu DD EE)
   (af [iX 0 4 aD,iX 0 2 aD,iX 1 2 aD,.c (hd _ _ (.inl rfl) (.inl rfl):ig gd ((im x.lo)::(im y.lo)::(iP p)::[]) _),iX 0 2 aD,iX 1 2 aD,.c (hu _ _ (.inl rfl) (.inl rfl):ig gu ((im x.lo)::(im y.lo)::(iP p)::[]) _),tB 66 (bj k1),tB 69 (bj k2),ah 73 ((0:Int)==0) aF,ah 84 ((0:Int)==0) aF]),
    iC (0+1) aD,ah 42 (decide (((0+1):Int)<4)) aF]<|.w ((EE x.lo y.hi false)=0)
    (λk3=>.w ((EE x.lo y.hi true)=0)
     (λk4=>ae [.j 3 (afP x y p gd gu DD EE)
   (ae [iX (0+1) 4 aD,iX 0 2 aD,iX 1 2 aD,.c (hd _ _ (.inl rfl) (.inr rfl):ig gd ((im x.lo)::(im y.hi)::(iP p)::[]) _),iX 0 2 aD,iX 1 2 aD,.c (hu _ _ (.inl rfl) (.inr rfl):ig gu ((im x.lo)::(im y.hi)::(iP p)::[]) _),tB 66 (bj k3),tB 69 (bj k4),ai 73 (((0+1):Int)==0) aF,ag [im (DD x.lo y.hi false),im (DD x.lo y.lo false)] (nK _ _ (hv _ _ _) (hv _ _ _))]<|.w ((jA (DD x.lo y.hi false) (DD x.lo y.lo false))<0)
    (λm1=>ae [tB 79 (bq m1),ai 84 (((0+1):Int)==0) aF,ag [im (DD x.lo y.hi true),im (DD x.lo y.lo true)] (nK _ _ (hv _ _ _) (hv _ _ _))]<|.w (0<(jA (DD x.lo y.hi true) (DD x.lo y.lo true)))
     (λm2=>ae [tB 90 (bq m2)]<|.e (af [.b 12 (.jb (by rw[show ji (DD x.lo y.lo false) (DD x.lo y.hi false)=(DD x.lo y.hi false)from bn m1,show je (DD x.lo y.lo true) (DD x.lo y.hi true)=(DD x.lo y.hi true)from bn m2]):Bx.le (.cells 33 (iZ (Iv.mk (DD x.lo y.hi false) (DD x.lo y.hi true) false))) (.cells 33 (iZ (Iv.mk (ji (DD x.lo y.lo false) (DD x.lo y.hi false)) (je (DD x.lo y.lo true) (DD x.lo y.hi true)) false))))]))
     (λm2=>ae [tB 90 (bt m2)]<|.e (af [.b 12 (.jb (by rw[show ji (DD x.lo y.lo false) (DD x.lo y.hi false)=(DD x.lo y.hi false)from bn m1,show je (DD x.lo y.lo true) (DD x.lo y.hi true)=(DD x.lo y.lo true)from bl m2]):Bx.le (.cells 33 (iZ (Iv.mk (DD x.lo y.hi false) (DD x.lo y.lo true) false))) (.cells 33 (iZ (Iv.mk (ji (DD x.lo y.lo false) (DD x.lo y.hi false)) (je (DD x.lo y.lo true) (DD x.lo y.hi true)) false))))])))
    (λm1=>ae [tB 79 (bt m1),ai 84 (((0+1):Int)==0) aF,ag [im (DD x.lo y.hi true),im (DD x.lo y.lo true)] (nK _ _ (hv _ _ _) (hv _ _ _))]<|.w (0<(jA (DD x.lo y.hi true) (DD x.lo y.lo true)))
     (λm2=>ae [tB 90 (bq m2)]<|.e (af [.b 12 (.jb (by rw[show ji (DD x.lo y.lo false) (DD x.lo y.hi false)=(DD x.lo y.lo false)from bl m1,show je (DD x.lo y.lo true) (DD x.lo y.hi true)=(DD x.lo y.hi true)from bn m2]):Bx.le (.cells 33 (iZ (Iv.mk (DD x.lo y.lo false) (DD x.lo y.hi true) false))) (.cells 33 (iZ (Iv.mk (ji (DD x.lo y.lo false) (DD x.lo y.hi false)) (je (DD x.lo y.lo true) (DD x.lo y.hi true)) false))))]))
     (λm2=>ae [tB 90 (bt m2)]<|.e (af [.b 12 (.jb (by rw[show ji (DD x.lo y.lo false) (DD x.lo y.hi false)=(DD x.lo y.lo false)from bl m1,show je (DD x.lo y.lo true) (DD x.lo y.hi true)=(DD x.lo y.lo true)from bl m2]):Bx.le (.cells 33 (iZ (Iv.mk (DD x.lo y.lo false) (DD x.lo y.lo true) false))) (.cells 33 (iZ (Iv.mk (ji (DD x.lo y.lo false) (DD x.lo y.hi false)) (je (DD x.lo y.lo true) (DD x.lo y.hi true)) false))))])))),
      iC ((0+1)+1) aD,ah 42 (decide ((((0+1)+1):Int)<4)) aF]<|.w ((EE x.hi y.lo false)=0)
      (λk5=>.w ((EE x.hi y.lo true)=0)
       (λk6=>ae [.j 3 (afQ x y p gd gu DD EE)
   (ae [iX ((0+1)+1) 4 aD,iX 0 2 aD,iX 1 2 aD,.c (hd _ _ (.inr rfl) (.inl rfl):ig gd ((im x.hi)::(im y.lo)::(iP p)::[]) _),iX 0 2 aD,iX 1 2 aD,.c (hu _ _ (.inr rfl) (.inl rfl):ig gu ((im x.hi)::(im y.lo)::(iP p)::[]) _),tB 66 (bj k5),tB 69 (bj k6),ai 73 ((((0+1)+1):Int)==0) aF,ag [im (DD x.hi y.lo false),im (ji (DD x.lo y.lo false) (DD x.lo y.hi false))] (nK _ _ (hv _ _ _) (qw (hv _ _ _) (hv _ _ _)))]<|.w ((jA (DD x.hi y.lo false) (ji (DD x.lo y.lo false) (DD x.lo y.hi false)))<0)
    (λm1=>ae [tB 79 (bq m1),ai 84 ((((0+1)+1):Int)==0) aF,ag [im (DD x.hi y.lo true),im (je (DD x.lo y.lo true) (DD x.lo y.hi true))] (nK _ _ (hv _ _ _) (pF (hv _ _ _) (hv _ _ _)))]<|.w (0<(jA (DD x.hi y.lo true) (je (DD x.lo y.lo true) (DD x.lo y.hi true))))
     (λm2=>ae [tB 90 (bq m2)]<|.e (af [.b 12 (.jb (by rw[show ji (ji (DD x.lo y.lo false) (DD x.lo y.hi false)) (DD x.hi y.lo false)=(DD x.hi y.lo false)from bn m1,show je (je (DD x.lo y.lo true) (DD x.lo y.hi true)) (DD x.hi y.lo true)=(DD x.hi y.lo true)from bn m2]):Bx.le (.cells 33 (iZ (Iv.mk (DD x.hi y.lo false) (DD x.hi y.lo true) false))) (.cells 33 (iZ (Iv.mk (ji (ji (DD x.lo y.lo false) (DD x.lo y.hi false)) (DD x.hi y.lo false)) (je (je (DD x.lo y.lo true) (DD x.lo y.hi true)) (DD x.hi y.lo true)) false))))]))
     (λm2=>ae [tB 90 (bt m2)]<|.e (af [.b 12 (.jb (by rw[show ji (ji (DD x.lo y.lo false) (DD x.lo y.hi false)) (DD x.hi y.lo false)=(DD x.hi y.lo false)from bn m1,show je (je (DD x.lo y.lo true) (DD x.lo y.hi true)) (DD x.hi y.lo true)=(je (DD x.lo y.lo true) (DD x.lo y.hi true))from bl m2]):Bx.le (.cells 33 (iZ (Iv.mk (DD x.hi y.lo false) (je (DD x.lo y.lo true) (DD x.lo y.hi true)) false))) (.cells 33 (iZ (Iv.mk (ji (ji (DD x.lo y.lo false) (DD x.lo y.hi false)) (DD x.hi y.lo false)) (je (je (DD x.lo y.lo true) (DD x.lo y.hi true)) (DD x.hi y.lo true)) false))))])))
    (λm1=>ae [tB 79 (bt m1),ai 84 ((((0+1)+1):Int)==0) aF,ag [im (DD x.hi y.lo true),im (je (DD x.lo y.lo true) (DD x.lo y.hi true))] (nK _ _ (hv _ _ _) (pF (hv _ _ _) (hv _ _ _)))]<|.w (0<(jA (DD x.hi y.lo true) (je (DD x.lo y.lo true) (DD x.lo y.hi true))))
     (λm2=>ae [tB 90 (bq m2)]<|.e (af [.b 12 (.jb (by rw[show ji (ji (DD x.lo y.lo false) (DD x.lo y.hi false)) (DD x.hi y.lo false)=(ji (DD x.lo y.lo false) (DD x.lo y.hi false))from bl m1,show je (je (DD x.lo y.lo true) (DD x.lo y.hi true)) (DD x.hi y.lo true)=(DD x.hi y.lo true)from bn m2]):Bx.le (.cells 33 (iZ (Iv.mk (ji (DD x.lo y.lo false) (DD x.lo y.hi false)) (DD x.hi y.lo true) false))) (.cells 33 (iZ (Iv.mk (ji (ji (DD x.lo y.lo false) (DD x.lo y.hi false)) (DD x.hi y.lo false)) (je (je (DD x.lo y.lo true) (DD x.lo y.hi true)) (DD x.hi y.lo true)) false))))]))
     (λm2=>ae [tB 90 (bt m2)]<|.e (af [.b 12 (.jb (by rw[show ji (ji (DD x.lo y.lo false) (DD x.lo y.hi false)) (DD x.hi y.lo false)=(ji (DD x.lo y.lo false) (DD x.lo y.hi false))from bl m1,show je (je (DD x.lo y.lo true) (DD x.lo y.hi true)) (DD x.hi y.lo true)=(je (DD x.lo y.lo true) (DD x.lo y.hi true))from bl m2]):Bx.le (.cells 33 (iZ (Iv.mk (ji (DD x.lo y.lo false) (DD x.lo y.hi false)) (je (DD x.lo y.lo true) (DD x.lo y.hi true)) false))) (.cells 33 (iZ (Iv.mk (ji (ji (DD x.lo y.lo false) (DD x.lo y.hi false)) (DD x.hi y.lo false)) (je (je (DD x.lo y.lo true) (DD x.lo y.hi true)) (DD x.hi y.lo true)) false))))])))),
        iC (((0+1)+1)+1) aD,ah 42 (decide (((((0+1)+1)+1):Int)<4)) aF]<|.w ((EE x.hi y.hi false)=0)
        (λk7=>.w ((EE x.hi y.hi true)=0)
         (λk8=>ae [.j 3 (afR x y p gd gu DD EE)
   (ae [iX (((0+1)+1)+1) 4 aD,iX 0 2 aD,iX 1 2 aD,.c (hd _ _ (.inr rfl) (.inr rfl):ig gd ((im x.hi)::(im y.hi)::(iP p)::[]) _),iX 0 2 aD,iX 1 2 aD,.c (hu _ _ (.inr rfl) (.inr rfl):ig gu ((im x.hi)::(im y.hi)::(iP p)::[]) _),tB 66 (bj k7),tB 69 (bj k8),ai 73 (((((0+1)+1)+1):Int)==0) aF,ag [im (DD x.hi y.hi false),im (ji (ji (DD x.lo y.lo false) (DD x.lo y.hi false)) (DD x.hi y.lo false))] (nK _ _ (hv _ _ _) (qw (qw (hv _ _ _) (hv _ _ _)) (hv _ _ _)))]<|.w ((jA (DD x.hi y.hi false) (ji (ji (DD x.lo y.lo false) (DD x.lo y.hi false)) (DD x.hi y.lo false)))<0)
    (λm1=>ae [tB 79 (bq m1),ai 84 (((((0+1)+1)+1):Int)==0) aF,ag [im (DD x.hi y.hi true),im (je (je (DD x.lo y.lo true) (DD x.lo y.hi true)) (DD x.hi y.lo true))] (nK _ _ (hv _ _ _) (pF (pF (hv _ _ _) (hv _ _ _)) (hv _ _ _)))]<|.w (0<(jA (DD x.hi y.hi true) (je (je (DD x.lo y.lo true) (DD x.lo y.hi true)) (DD x.hi y.lo true))))
     (λm2=>ae [tB 90 (bq m2)]<|.e (af [.b 12 (.jb (by rw[show ji (ji (ji (DD x.lo y.lo false) (DD x.lo y.hi false)) (DD x.hi y.lo false)) (DD x.hi y.hi false)=(DD x.hi y.hi false)from bn m1,show je (je (je (DD x.lo y.lo true) (DD x.lo y.hi true)) (DD x.hi y.lo true)) (DD x.hi y.hi true)=(DD x.hi y.hi true)from bn m2]):Bx.le (.cells 33 (iZ (Iv.mk (DD x.hi y.hi false) (DD x.hi y.hi true) false))) (.cells 33 (iZ (Iv.mk (ji (ji (ji (DD x.lo y.lo false) (DD x.lo y.hi false)) (DD x.hi y.lo false)) (DD x.hi y.hi false)) (je (je (je (DD x.lo y.lo true) (DD x.lo y.hi true)) (DD x.hi y.lo true)) (DD x.hi y.hi true)) false))))]))
     (λm2=>ae [tB 90 (bt m2)]<|.e (af [.b 12 (.jb (by rw[show ji (ji (ji (DD x.lo y.lo false) (DD x.lo y.hi false)) (DD x.hi y.lo false)) (DD x.hi y.hi false)=(DD x.hi y.hi false)from bn m1,show je (je (je (DD x.lo y.lo true) (DD x.lo y.hi true)) (DD x.hi y.lo true)) (DD x.hi y.hi true)=(je (je (DD x.lo y.lo true) (DD x.lo y.hi true)) (DD x.hi y.lo true))from bl m2]):Bx.le (.cells 33 (iZ (Iv.mk (DD x.hi y.hi false) (je (je (DD x.lo y.lo true) (DD x.lo y.hi true)) (DD x.hi y.lo true)) false))) (.cells 33 (iZ (Iv.mk (ji (ji (ji (DD x.lo y.lo false) (DD x.lo y.hi false)) (DD x.hi y.lo false)) (DD x.hi y.hi false)) (je (je (je (DD x.lo y.lo true) (DD x.lo y.hi true)) (DD x.hi y.lo true)) (DD x.hi y.hi true)) false))))])))
    (λm1=>ae [tB 79 (bt m1),ai 84 (((((0+1)+1)+1):Int)==0) aF,ag [im (DD x.hi y.hi true),im (je (je (DD x.lo y.lo true) (DD x.lo y.hi true)) (DD x.hi y.lo true))] (nK _ _ (hv _ _ _) (pF (pF (hv _ _ _) (hv _ _ _)) (hv _ _ _)))]<|.w (0<(jA (DD x.hi y.hi true) (je (je (DD x.lo y.lo true) (DD x.lo y.hi true)) (DD x.hi y.lo true))))
     (λm2=>ae [tB 90 (bq m2)]<|.e (af [.b 12 (.jb (by rw[show ji (ji (ji (DD x.lo y.lo false) (DD x.lo y.hi false)) (DD x.hi y.lo false)) (DD x.hi y.hi false)=(ji (ji (DD x.lo y.lo false) (DD x.lo y.hi false)) (DD x.hi y.lo false))from bl m1,show je (je (je (DD x.lo y.lo true) (DD x.lo y.hi true)) (DD x.hi y.lo true)) (DD x.hi y.hi true)=(DD x.hi y.hi true)from bn m2]):Bx.le (.cells 33 (iZ (Iv.mk (ji (ji (DD x.lo y.lo false) (DD x.lo y.hi false)) (DD x.hi y.lo false)) (DD x.hi y.hi true) false))) (.cells 33 (iZ (Iv.mk (ji (ji (ji (DD x.lo y.lo false) (DD x.lo y.hi false)) (DD x.hi y.lo false)) (DD x.hi y.hi false)) (je (je (je (DD x.lo y.lo true) (DD x.lo y.hi true)) (DD x.hi y.lo true)) (DD x.hi y.hi true)) false))))]))
     (λm2=>ae [tB 90 (bt m2)]<|.e (af [.b 12 (.jb (by rw[show ji (ji (ji (DD x.lo y.lo false) (DD x.lo y.hi false)) (DD x.hi y.lo false)) (DD x.hi y.hi false)=(ji (ji (DD x.lo y.lo false) (DD x.lo y.hi false)) (DD x.hi y.lo false))from bl m1,show je (je (je (DD x.lo y.lo true) (DD x.lo y.hi true)) (DD x.hi y.lo true)) (DD x.hi y.hi true)=(je (je (DD x.lo y.lo true) (DD x.lo y.hi true)) (DD x.hi y.lo true))from bl m2]):Bx.le (.cells 33 (iZ (Iv.mk (ji (ji (DD x.lo y.lo false) (DD x.lo y.hi false)) (DD x.hi y.lo false)) (je (je (DD x.lo y.lo true) (DD x.lo y.hi true)) (DD x.hi y.lo true)) false))) (.cells 33 (iZ (Iv.mk (ji (ji (ji (DD x.lo y.lo false) (DD x.lo y.hi false)) (DD x.hi y.lo false)) (DD x.hi y.hi false)) (je (je (je (DD x.lo y.lo true) (DD x.lo y.hi true)) (DD x.hi y.lo true)) (DD x.hi y.hi true)) false))))])))),
          iC ((((0+1)+1)+1)+1) aD,ai 42 (decide ((((((0+1)+1)+1)+1):Int)<4)) aF]<|rQ (ix (Iv.mk (ji (ji (ji (DD x.lo y.lo false) (DD x.lo y.hi false)) (DD x.hi y.lo false)) (DD x.hi y.hi false)) (je (je (je (DD x.lo y.lo true) (DD x.lo y.hi true)) (DD x.hi y.lo true)) (DD x.hi y.hi true)) false)) (ix (me DD EE x y)) (by rw[show me DD EE x y=⟨ji (ji (ji (DD x.lo y.lo false) (DD x.lo y.hi false)) (DD x.hi y.lo false)) (DD x.hi y.hi false),je (je (je (DD x.lo y.lo true) (DD x.lo y.hi true)) (DD x.hi y.lo true)) (DD x.hi y.hi true),false⟩from bn ⟨⟨k1,k2⟩,⟨k3,k4⟩,⟨k5,k6⟩,⟨k7,k8⟩⟩];try rfl))
         (λk8=>ae [iX (((0+1)+1)+1) 4 aD,iX 0 2 aD,iX 1 2 aD,.c (hd _ _ (.inr rfl) (.inr rfl):ig gd ((im x.hi)::(im y.hi)::(iP p)::[]) _),iX 0 2 aD,iX 1 2 aD,.c (hu _ _ (.inr rfl) (.inr rfl):ig gu ((im x.hi)::(im y.hi)::(iP p)::[]) _),tB 66 (bj k7),tB 69 (bk k8),.c sj]<|rQ (ix il) (ix (me DD EE x y)) (by rw[show me DD EE x y=il from bl (by rintro⟨⟨q0,r0⟩,⟨q1,r1⟩,⟨q2,r2⟩,⟨q3,r3⟩⟩;exact k8 r3)])))
        (λk7=>ae [iX (((0+1)+1)+1) 4 aD,iX 0 2 aD,iX 1 2 aD,.c (hd _ _ (.inr rfl) (.inr rfl):ig gd ((im x.hi)::(im y.hi)::(iP p)::[]) _),iX 0 2 aD,iX 1 2 aD,.c (hu _ _ (.inr rfl) (.inr rfl):ig gu ((im x.hi)::(im y.hi)::(iP p)::[]) _),tB 66 (bk k7),.c sj]<|rQ (ix il) (ix (me DD EE x y)) (by rw[show me DD EE x y=il from bl (by rintro⟨⟨q0,r0⟩,⟨q1,r1⟩,⟨q2,r2⟩,⟨q3,r3⟩⟩;exact k7 q3)])))
       (λk6=>ae [iX ((0+1)+1) 4 aD,iX 0 2 aD,iX 1 2 aD,.c (hd _ _ (.inr rfl) (.inl rfl):ig gd ((im x.hi)::(im y.lo)::(iP p)::[]) _),iX 0 2 aD,iX 1 2 aD,.c (hu _ _ (.inr rfl) (.inl rfl):ig gu ((im x.hi)::(im y.lo)::(iP p)::[]) _),tB 66 (bj k5),tB 69 (bk k6),.c sj]<|rQ (ix il) (ix (me DD EE x y)) (by rw[show me DD EE x y=il from bl (by rintro⟨⟨q0,r0⟩,⟨q1,r1⟩,⟨q2,r2⟩,⟨q3,r3⟩⟩;exact k6 r2)])))
      (λk5=>ae [iX ((0+1)+1) 4 aD,iX 0 2 aD,iX 1 2 aD,.c (hd _ _ (.inr rfl) (.inl rfl):ig gd ((im x.hi)::(im y.lo)::(iP p)::[]) _),iX 0 2 aD,iX 1 2 aD,.c (hu _ _ (.inr rfl) (.inl rfl):ig gu ((im x.hi)::(im y.lo)::(iP p)::[]) _),tB 66 (bk k5),.c sj]<|rQ (ix il) (ix (me DD EE x y)) (by rw[show me DD EE x y=il from bl (by rintro⟨⟨q0,r0⟩,⟨q1,r1⟩,⟨q2,r2⟩,⟨q3,r3⟩⟩;exact k5 q2)])))
     (λk4=>ae [iX (0+1) 4 aD,iX 0 2 aD,iX 1 2 aD,.c (hd _ _ (.inl rfl) (.inr rfl):ig gd ((im x.lo)::(im y.hi)::(iP p)::[]) _),iX 0 2 aD,iX 1 2 aD,.c (hu _ _ (.inl rfl) (.inr rfl):ig gu ((im x.lo)::(im y.hi)::(iP p)::[]) _),tB 66 (bj k3),tB 69 (bk k4),.c sj]<|rQ (ix il) (ix (me DD EE x y)) (by rw[show me DD EE x y=il from bl (by rintro⟨⟨q0,r0⟩,⟨q1,r1⟩,⟨q2,r2⟩,⟨q3,r3⟩⟩;exact k4 r1)])))
    (λk3=>ae [iX (0+1) 4 aD,iX 0 2 aD,iX 1 2 aD,.c (hd _ _ (.inl rfl) (.inr rfl):ig gd ((im x.lo)::(im y.hi)::(iP p)::[]) _),iX 0 2 aD,iX 1 2 aD,.c (hu _ _ (.inl rfl) (.inr rfl):ig gu ((im x.lo)::(im y.hi)::(iP p)::[]) _),tB 66 (bk k3),.c sj]<|rQ (ix il) (ix (me DD EE x y)) (by rw[show me DD EE x y=il from bl (by rintro⟨⟨q0,r0⟩,⟨q1,r1⟩,⟨q2,r2⟩,⟨q3,r3⟩⟩;exact k3 q1)])))
   (λk2=>ae [iX 0 4 aD,iX 0 2 aD,iX 1 2 aD,.c (hd _ _ (.inl rfl) (.inl rfl):ig gd ((im x.lo)::(im y.lo)::(iP p)::[]) _),iX 0 2 aD,iX 1 2 aD,.c (hu _ _ (.inl rfl) (.inl rfl):ig gu ((im x.lo)::(im y.lo)::(iP p)::[]) _),tB 66 (bj k1),tB 69 (bk k2),.c sj]<|rQ (ix il) (ix (me DD EE x y)) (by rw[show me DD EE x y=il from bl (by rintro⟨⟨q0,r0⟩,⟨q1,r1⟩,⟨q2,r2⟩,⟨q3,r3⟩⟩;exact k2 r0)])))
  (λk1=>ae [iX 0 4 aD,iX 0 2 aD,iX 1 2 aD,.c (hd _ _ (.inl rfl) (.inl rfl):ig gd ((im x.lo)::(im y.lo)::(iP p)::[]) _),iX 0 2 aD,iX 1 2 aD,.c (hu _ _ (.inl rfl) (.inl rfl):ig gu ((im x.lo)::(im y.lo)::(iP p)::[]) _),tB 66 (bk k1),.c sj]<|rQ (ix il) (ix (me DD EE x y)) (by rw[show me DD EE x y=il from bl (by rintro⟨⟨q0,r0⟩,⟨q1,r1⟩,⟨q2,r2⟩,⟨q3,r3⟩⟩;exact k1 q0)]))) 
def YK{y:Iv}(hy:y.iu)(hs:mh y≠0):y.lo.m≠0/\y.hi.m≠0:=by
 unfold mh at hs;have ha:y.all=false:=by
  cases h:y.all with
  |false=>rfl
  |true=>rw[h]at hs;exact absurd rfl hs
 obtain⟨v1,v2,v3⟩:=pO hy ha;rw[ha]at hs;simp only[bZ,bF]at hs;have z:∀ d:Dy,d.m=0->d.jh=0:=λd h=>by unfold Dy.jh;rw[bn h]
 have hc:=Cr y.lo y.hi;rw[hc]at v3;constructor
 .intro h0;have:=z _ h0;rw[this]at hs v3;split at hs
  .omega
  .split at hs
   .split at v3<;>omega
   .exact hs rfl
 .intro h0;have:=z _ h0;rw[this]at hs v3;split at hs
  .split at v3<;>omega
  .split at hs
   .omega
   .exact hs rfl
def acd(a b:Dy){p:Nat}(up:Bool)(hp:1<=p)(iq:p<=4096):(ks a b p up).iu:=by
 unfold ks;split
 .exact qn
 .exact mD _ _ _ _ _ _ hp iq
def qM(x y:Iv)(p:Nat)(hx:x.iu)(hy:y.iu)(iD:8<=p)(iq:p<=512):ig 129 [ix x,ix y,iP p] (ix (iI x y p)):=by
 by_cases hk:(x.all||y.all)=true
 .exact ak call129 func129 (ae [.o 9 (.e (xO _ _):aj (.sl true 2 7 λi_ j_=>(iZ x++iZ y).getD (i_*7+j_) (.v (.bool false))) (iz [x,y])),ag [iz [x,y]] (Aj _ _ aE aE),ai 10 (!(x.all||y.all)) (by rw[hk];rfl),.c sj]<|rQ (ix il) (ix (iI x y p)) (by rw[show iI x y p=il by unfold iI;rw[bn hk]])) 
 .replace hk:(x.all||y.all)=false:=by simpa using hk
  have kC:x.all=false:=by cases h:x.all;rfl;rw[h]at hk;simp at hk
  have Af:y.all=false:=by cases h:y.all;rfl;rw[h]at hk;simp at hk
  obtain⟨v1,v2,v3⟩:=pO hx kC;obtain⟨v4,v5,v6⟩:=pO hy Af;exact ak call129 func129 (ae [.o 9 (.e (xO _ _):aj (.sl true 2 7 λi_ j_=>(iZ x++iZ y).getD (i_*7+j_) (.v (.bool false))) (iz [x,y])),ag [iz [x,y]] (Aj _ _ aE aE),ah 10 (!(x.all||y.all)) (by rw[hk];rfl),ag [iP p] (Ak _),ah 14 (kT (p:Int)) (oM.2 ⟨aD,aD⟩),.c (VB x y p 216 217 (λa b up=>jG (mZ a b) p up) (λa b up=>jZ (mZ a b) p up) (λa b ha hb=>OQ a b p (by rcases ha with rfl|rfl;exact v1;exact v2) (by rcases hb with rfl|rfl;exact v4;exact v5) iD iq) (λa b ha hb=>OR a b p (by rcases ha with rfl|rfl;exact v1;exact v2) (by rcases hb with rfl|rfl;exact v4;exact v5) iD iq) (λa b up=>mD _ _ _ _ _ _ aD aD))]<|rQ (ix (me (λa b up=>jG (mZ a b) p up) (λa b up=>jZ (mZ a b) p up) x y)) (ix (iI x y p)) (by rw[show iI x y p=_ by unfold iI;rw[bl (by rw[hk];decide)]];rfl)) 
def wU(x y:Iv)(p:Nat)(hx:x.iu)(hy:y.iu)(iD:8<=p)(iq:p<=512):ig 70 [ix x,ix y,iP p] (ix (jj x y p)):=by
 by_cases hk:(x.all||y.all)=true
 .exact ak call70 func70 (ae [.o 9 (.e (xO _ _):aj (.sl true 2 7 λi_ j_=>(iZ x++iZ y).getD (i_*7+j_) (.v (.bool false))) (iz [x,y])),ag [iz [x,y]] (Aj _ _ aE aE),ai 10 (!(x.all||y.all)) (by rw[hk];rfl),.c sj]<|rQ (ix il) (ix (jj x y p)) (by rw[show jj x y p=il by unfold jj;rw[bn (by rw[hk];rfl)]])) 
 .replace hk:(x.all||y.all)=false:=by simpa using hk
  have kC:x.all=false:=by cases h:x.all;rfl;rw[h]at hk;simp at hk
  have Af:y.all=false:=by cases h:y.all;rfl;rw[h]at hk;simp at hk
  obtain⟨v1,v2,v3⟩:=pO hx kC;obtain⟨v4,v5,v6⟩:=pO hy Af;by_cases hs:mh y=0
  .exact ak call70 func70 (ae [.o 9 (.e (xO _ _):aj (.sl true 2 7 λi_ j_=>(iZ x++iZ y).getD (i_*7+j_) (.v (.bool false))) (iz [x,y])),ag [iz [x,y]] (Aj _ _ aE aE),ah 10 (!(x.all||y.all)) (by rw[hk];rfl),ag [iP p] (Ak _),ah 14 (kT (p:Int)) (oM.2 ⟨aD,aD⟩),.c (I2 y aE),ah 20 ((mh y)==0) (by rw[hs];rfl),.c sj]<|rQ (ix il) (ix (jj x y p)) (by rw[show jj x y p=il by unfold jj;rw[bn (by rw[hk,bq hs];rfl)]])) 
  .obtain ⟨n1,n2⟩:=YK hy hs;exact ak call70 func70 (ae [.o 9 (.e (xO _ _):aj (.sl true 2 7 λi_ j_=>(iZ x++iZ y).getD (i_*7+j_) (.v (.bool false))) (iz [x,y])),ag [iz [x,y]] (Aj _ _ aE aE),ah 10 (!(x.all||y.all)) (by rw[hk];rfl),ag [iP p] (Ak _),ah 14 (kT (p:Int)) (oM.2 ⟨aD,aD⟩),.c (I2 y aE),ai 20 ((mh y)==0) (by simpa using hs),.c (VB x y p 142 143 (λa b up=>ks a b p up) (λa b up=>mS a b p up) (λa b ha hb=>X1 a b p (by rcases ha with rfl|rfl;exact v1;exact v2) (by rcases hb with rfl|rfl;exact v4;exact v5) (by rcases hb with rfl|rfl;exact n1;exact n2) iD iq) (λa b ha hb=>X2 a b p (by rcases ha with rfl|rfl;exact v1;exact v2) (by rcases hb with rfl|rfl;exact v4;exact v5) (by rcases hb with rfl|rfl;exact n1;exact n2) iD iq) (λa b up=>acd a b up aD aD))]<|rQ (ix (me (λa b up=>ks a b p up) (λa b up=>mS a b p up) x y)) (ix (jj x y p)) (by rw[show jj x y p=_ by unfold jj;rw[bl (by rw[hk,bt hs];decide)]])) 
def afZ(d:RD)(h:d.Zero):ig 125 [xh d] (bP true):=by
 obtain⟨h1,h2,h3⟩:=h;exact ak call125 func125 (af [ai 4 d.neg h1,ah 10 ((d.L.length:Int)==0) (sk (by rw[h2];rfl)),ah 15 (d.e==0) (by rw[h3];rfl)]) 
def VH(d:RD)(h:¬d.Zero):ig 125 [xh d] (bP false):=by
 by_cases h1:d.neg=true
 .exact ak call125 func125 (af [ah 4 d.neg h1]) 
 .replace h1:d.neg=false:=by simpa using h1
  by_cases h2:d.L=[]
  .have h3:¬d.e=0:=λq=>h ⟨h1,h2,q⟩
   exact ak call125 func125 (af [ai 4 d.neg h1,ah 10 ((d.L.length:Int)==0) (sk (by rw[h2];rfl)),ai 15 (d.e==0) (by simpa using h3)]) 
  .exact ak call125 func125 (af [ai 4 d.neg h1,ai 10 ((d.L.length:Int)==0) (ou (λq=>h2 (anp.1 q)))]) 
def afY(x:RI)(g:x.qR)(h:x.Ok):ig 60 [BV x] (bP true):=by
 have:=si x.iv h.valid;rwa[<-VG,h.eq g]at this
def afW(x:RI)(g:x.qR)(h:¬x.Ok):ig 60 [BV x] (bP false):=by
 have ga:=g.lo;have gb:=g.hi;by_cases ha:x.all=true
 .by_cases h1:x.lo.Zero
  .have h2:¬x.hi.Zero:=λq=>h (.inl ⟨ha,h1,q⟩)
   exact ak call60 func60 (af [ah 5 x.all ha,ag [xh x.lo] (afZ _ h1),ag [xh x.hi] (VH _ h2)]) 
  .exact ak call60 func60 (af [ah 5 x.all ha,ag [xh x.lo] (VH _ h1)]) 
 .replace ha:x.all=false:=by simpa using ha
  by_cases h1:x.lo.Ok
  .by_cases h2:x.hi.Ok
   .have h3:¬jA x.lo.dy x.hi.dy<=0:=λq=>h (.inr ⟨ha,h1,h2,q⟩)
    have v1:=h1.valid;have v2:=h2.valid;have e1:BV x=ix x.iv:=by rw[<-VG,show x.iv.raw=x by show RI.mk x.lo.dy.raw x.hi.dy.raw x.all=x;rw[h1.eq ga,h2.eq gb]]
    rw[e1];exact ak call60 func60 (af [ai 5 x.iv.all ha,ag [im x.iv.lo] (rz _ aE),ag [im x.iv.hi] (rz _ aE),ag [im x.iv.lo,im x.iv.hi] (nK _ _ aE aE),tB 30 (bt h3)]) 
   .exact ak call60 func60 (af [ai 5 x.all ha,ag [xh x.lo] (Lm _ aE true (by simp[h1])),ag [xh x.hi] (Lm _ aE false (by simp[h2]))]) 
  .exact ak call60 func60 (af [ai 5 x.all ha,ag [xh x.lo] (Lm _ aE false (by simp[h1]))]) 
def afX(x:RI)(g:x.qR):ig 60 [BV x] (bP (uF x)):=by
 by_cases h:x.Ok
 .rw [Jp.2 h];exact afY x g h
 .rw [show uF x=false by simpa using λq=>h (Jp.1 q)];exact afW x g h
def agQ(x:RI)(g:x.qR):ig 262 [BV x,(.jC 1 λj_=>[.fn 60 []].getD j_ .any)] (bP (!(uF x))):=
 ak call262 func262 (af [ag [BV x] (afX _ aE)]) 
def agP(r:List RI)(m:List (List RI))(gr:∀ j,(r.getD j sH).qR)(hr:r.length<=1000000)(hm:0<m.length):ig 261 [F2 r,(.jC 1 λj_=>[AG m].getD j_ .any),(.jC 1 λj_=>[.fn 60 []].getD j_ .any)] (bP (decide (r.length≠(m.getD 0 []).length)||((List.range (r.length)).any λj=>!(uF (r.getD j sH))))):=by
 by_cases h:r.length=(m.getD 0 []).length
 .exact ak call261 func261 (ae [iX 0 (m.length) aD,ai 11 ((r.length:Int) != ((m.getD 0 []).length:Int)) (sD h),.c (Nl true _ _ 262 _ (λj=>!(uF (r.getD j sH))) (λj hj=>agQ _ (gr j)) aD:ig 150 [F2 r,.fn 262 [(.jC 1 λj_=>[.fn 60 []].getD j_ .any)]] _)]<|rQ (bP ((List.range (r.length)).any λj=>!(uF (r.getD j sH)))) (bP (decide (r.length≠(m.getD 0 []).length)||((List.range (r.length)).any λj=>!(uF (r.getD j sH))))) (by rw[bt (anw h)];rfl)) 
 .exact ak call261 func261 (ae [iX 0 (m.length) aD,ah 11 ((r.length:Int) != ((m.getD 0 []).length:Int)) (ahh h)]<|rQ (bP true) (bP (decide (r.length≠(m.getD 0 []).length)||((List.range (r.length)).any λj=>!(uF (r.getD j sH))))) (by rw[bq h];rfl)) 
def agR(m:List (List RI))(g:DK m)(hl:m.length<=1000000)(Bu:∀ i,(m.getD i []).length<=1000000):ig 214 [AG m,.fn 60 []] (bP (wY m)):=by
 by_cases h1:m.length<1
 .exact ak call214 func214 (ae [tT 7 ((m.length:Int)<1) aD]<|rQ (bP false) (bP (wY m)) (by rw[Fq (λq=>by have:=q.n1;omega)])) 
 .by_cases h2:8<m.length
  .exact ak call214 func214 (ae [tF 7 ((m.length:Int)<1) aD,tT 11 (8<(m.length:Int)) aD]<|rQ (bP false) (bP (wY m)) (by rw[Fq (λq=>by have:=q.n8;omega)])) 
  .by_cases h3:(m.getD 0 []).length<1
   .exact ak call214 func214 (ae [tF 7 ((m.length:Int)<1) aD,tF 11 (8<(m.length:Int)) aD,iX 0 (m.length) aD,tT 18 (((m.getD 0 []).length:Int)<1) aD]<|rQ (bP false) (bP (wY m)) (by rw[Fq (λq=>by have:=q.k1;omega)])) 
   .by_cases h4:8<(m.getD 0 []).length
    .exact ak call214 func214 (ae [tF 7 ((m.length:Int)<1) aD,tF 11 (8<(m.length:Int)) aD,iX 0 (m.length) aD,tF 18 (((m.getD 0 []).length:Int)<1) aD,iX 0 (m.length) aD,tT 25 (8<((m.getD 0 []).length:Int)) aD]<|rQ (bP false) (bP (wY m)) (by rw[Fq (λq=>by have:=q.k8;omega)])) 
    .have hb:wY m = !((List.range m.length).any λi=>decide ((m.getD i []).length≠(m.getD 0 []).length)||((List.range ((m.getD i []).length)).any λj=>!(uF ((m.getD i []).getD j sH)))):=by
      by_cases hk:DO m
      .rw [NF.2 hk];symm;rw[gp,dP];intro i hi;have hi:=cz.1 hi;have wR:decide ((m.getD i []).length≠(m.getD 0 []).length)=false:=bt (anw (hk.row i hi));rw[wR,fN,amV,dP];intro j hj;rw[Jp.2 (hk.ok i hi j (cz.1 hj))];decide
      .rw [Fq hk];symm;rw[anx];apply b9;intro hc;rw[amV,dP]at hc;refine hk ⟨aD,aD,aD,aD,λi hi=>?_,λi hi j hj=>?_⟩
       .have:=hc i (cz.2 hi);simp only[dp,decide_not,eX,not_or,amV,anx,cH]at this;exact this.1
       .have:=hc i (cz.2 hi);simp only[dp,decide_not,eX,not_or,amV,anx,cH]at this;have:=dP.1 this.2 j (cz.2 hj);exact Jp.1 (by simpa using this)
     exact ak call214 func214 (ae [tF 7 ((m.length:Int)<1) aD,tF 11 (8<(m.length:Int)) aD,iX 0 (m.length) aD,tF 18 (((m.getD 0 []).length:Int)<1) aD,iX 0 (m.length) aD,tF 25 (8<((m.getD 0 []).length:Int)) aD,.c (JS true _ _ 261 _ (λi=>decide ((m.getD i []).length≠(m.getD 0 []).length)||((List.range ((m.getD i []).length)).any λj=>!(uF ((m.getD i []).getD j sH)))) (λi hi=>agP _ _ (λj=>g.at i j) (Bu i) aD) aD:ig 148 [AG m,.fn 261 [(.jC 1 λj_=>[AG m].getD j_ .any),(.jC 1 λj_=>[.fn 60 []].getD j_ .any)]] _)]<|rQ (bP (!((List.range m.length).any λi=>decide ((m.getD i []).length≠(m.getD 0 []).length)||((List.range ((m.getD i []).length)).any λj=>!(uF ((m.getD i []).getD j sH)))))) (bP (wY m)) (by rw[hb])) 
def agS(m:List (List RI))(g:DK m)(hl:m.length<=1000000)(Bu:∀ i,(m.getD i []).length<=1000000):ig 127 [AG m] (bP (wY m)):=
 ak call127 func127 (af [ag [AG m,.fn 60 []] (agR _ g aD Bu)]) 
end Go.Proofs.YtbhhompalmdaiaaGreatDoor
namespace Go.Proofs.YtbhhompalmdaiaaGreatDoor.Fp
def jx(d:Dy)(p:Nat)(up:Bool):Nat->Dy×Int
 | 0=>(jG d p up,jZ d p up)
 |k+1=>if(jx d p up k).2≠0 then jx d p up k else(jG (lM (jx d p up k).1 d) p up,jZ (lM (jx d p up k).1 d) p up)
def lH(d:Dy)(n p:Nat)(up:Bool):Dy×Int:=if d.jh<0 then(jf (jx (jf d) p (!up) (n-1)).1,(jx (jf d) p (!up) (n-1)).2)else jx d p up (n-1)
def tJ(x:Iv)(n:Nat):Iv:=if n%2=0 then jD x else x
def nX(x:Iv)(n p:Nat):Iv:=
 if x.all then il else if n=0 then iV ⟨false,1,0⟩
 else mU (lH (tJ x n).lo n p false).1 (lH (tJ x n).lo n p false).2 (lH (tJ x n).hi n p true).1 (lH (tJ x n).hi n p true).2
def pI(r:Rat):Nat->Rat
 | 0=>1
 |n+1=>pI r n*r
def JU{r:Rat}(h:0<=r):∀ n,0<=pI r n
 | 0=>by show(0:Rat)<=1;decide
 |n+1=>bL (JU h n) h
def F5{a b:Rat}(h0:0<=a)(h:a<=b):∀ n,pI a n<=pI b n
 | 0=>bS
 |n+1=>by
  have ih:=F5 h0 h n;have m1:=cI ih h0;have m2:=dc h (JU (bX h0 h) n);exact bX m1 m2
def Dq(r:Rat):∀ n,pI (-r) n=if n%2=0 then pI r n else -pI r n
 | 0=>rfl
 |n+1=>by
  have ih:=Dq r n;simp only[pI,ih];have:n%2=0\/n%2=1:= aD ;rcases this with h|h
  .have h':(n+1)%2=1:= aD ;rw[h,h'];simp;grind
  .have h':(n+1)%2=0:= aD ;rw[h,h'];simp;grind
def Yq{a b:Rat}{n:Nat}(hn:n%2=1)(h:a<=b):pI a n<=pI b n:=by
 by_cases h0:0<=a
 .exact F5 h0 h n
 .have ea:=Dq (-a) n;rw[fo,hn]at ea;simp only[amW,bF]at ea;by_cases hb:0<=b
  .have h1:=JU (show 0 <= -a by grind) n;have h2:=JU hb n
   grind
  .have eb:=Dq (-b) n;rw[fo,hn]at eb;simp only[amW,bF]at eb;have:=F5 (show 0 <= -b by grind) (show -b <= -a by grind) n
   grind
def Ov{d:Dy}(hd:d.lh)(h0:0<=d.q){p:Nat}(hp:1<=p)(iq:p<=4096):∀ k,(jx d p false k).2=0->0<=(jx d p false k).1.q/\(jx d p false k).1.q<=pI d.q (k+1)
 | 0,he=>by
  have A:=JQ hd hp iq;refine⟨(A.2 0 (.inl (yl p)) h0).2,?_⟩;have:=(A.1 he).2;simp only[pI,dY];exact this
 |k+1,he=>by
  by_cases hk:(jx d p false k).2≠0
  .exfalso;simp only[jx,bn hk]at he;exact hk he
  .have py:(jx d p false k).2=0:= aD ;obtain⟨i1,i2⟩:=Ov hd h0 hp iq k py;have A:=JQ (GR (jx d p false k).1 d) hp iq;rw[JB]at A;simp only[jx,bl hk]at he ⊢;refine⟨(A.2 0 (.inl (yl p)) (bL i1 h0)).2,?_⟩;have h1:=(A.1 he).2;have h2:=cI i2 h0;exact bX h1 h2
def Oy{d:Dy}(hd:d.lh)(h0:0<=d.q){p:Nat}(hp:1<=p)(iq:p<=4096):∀ k,(jx d p true k).2=0->pI d.q (k+1)<=(jx d p true k).1.q
 | 0,he=>by
  have A:=BW hd hp iq;have:=(A.1 he).2;simp only[pI,dY];exact this
 |k+1,he=>by
  by_cases hk:(jx d p true k).2≠0
  .exfalso;simp only[jx,bn hk]at he;exact hk he
  .have py:(jx d p true k).2=0:= aD ;have i2:=Oy hd h0 hp iq k py;have A:=BW (GR (jx d p true k).1 d) hp iq;rw[JB]at A;simp only[jx,bl hk]at he ⊢;have h1:=(A.1 he).2;have h2:=cI i2 h0;exact bX h2 h1
def ac9{d:Dy}(hd:d.lh){n p:Nat}(hn:1<=n)(hs:0<=d.q\/n%2=1)(hp:1<=p)(iq:p<=4096)(he:(lH d n p false).2=0):(lH d n p false).1.q<=pI d.q n:=by
 unfold lH at he ⊢;by_cases h:d.jh<0
 .rw [bn h]at he ⊢;have hq:=(ri d).2.1 h;have Ab:=hs.resolve_left aO;have:=Oy (BK hd) (by rw[pk];grind) hp iq (n-1) he;rw[(aD:n-1+1=n),pk,Dq,Ab]at this;simp only[amW,bF]at this;show(jf _).q<=_;rw[pk];simp only[eU]
  grind
 .rw [bl h]at he ⊢;have h0:0<=d.q:=by
   apply dC.1;intro iO;exact h ((ri d).2.2 iO)
  have:=(Ov hd h0 hp iq (n-1) he).2;rwa[(aD:n-1+1=n)]at this
def ada{d:Dy}(hd:d.lh){n p:Nat}(hn:1<=n)(hs:0<=d.q\/n%2=1)(hp:1<=p)(iq:p<=4096)(he:(lH d n p true).2=0):pI d.q n<=(lH d n p true).1.q:=by
 unfold lH at he ⊢;by_cases h:d.jh<0
 .rw [bn h]at he ⊢;have hq:=(ri d).2.1 h;have Ab:=hs.resolve_left aO;have:=(Ov (BK hd) (by rw[pk];grind) hp iq (n-1) he).2;rw[(aD:n-1+1=n),pk,Dq,Ab]at this;simp only[amW,bF]at this;show _<=(jf _).q;rw[pk];simp only[fE]
  grind
 .rw [bl h]at he ⊢;have h0:0<=d.q:=by
   apply dC.1;intro iO;exact h ((ri d).2.2 iO)
  have:=Oy hd h0 hp iq (n-1) he;rwa[(aD:n-1+1=n)]at this
def Oz{x:Iv}(hx:x.iu){n p:Nat}(hp:1<=p)(iq:p<=4096){r:Rat}(h:x.jB r):(nX x n p).jB (pI r n):=by
 unfold nX;cases xa:x.all
 .simp only[bZ,bF];by_cases hn:n=0
  .rw [bn hn];subst hn;have e:(⟨false,1,0⟩:Dy).q=1:= aP ;refine .inr ⟨?_,?_⟩
   .show (⟨false,1,0⟩:Dy).q<=1;rw[e];exact bS
   .show 1<=(⟨false,1,0⟩:Dy).q;rw[e];exact bS
  .rw [bl hn];obtain⟨s,hs,um,hsn⟩:∃ s,(tJ x n).jB s/\(n%2=0->0<=(tJ x n).lo.q/\0<=s)/\pI r n=pI s n:=by
    unfold tJ;by_cases qc:n%2=0
    .rw [bn qc];have hl:0<=(jD x).lo.q:=by
      unfold jD;rw[xa];show 0<=(ot x).q;unfold ot;split
      .rw [qy];exact bS
      .obtain ⟨_,_,m⟩:=BP (lR x.lo) (lR x.hi);rcases m with m|m<;>rw[m]
       .exact (Dh x.lo).1
       .exact (Dh x.hi).1
     by_cases hr:0<=r
     .exact ⟨r,KD hx h (.inl ⟨rfl,hr⟩),λ_=>⟨hl,hr⟩,rfl⟩
     .refine ⟨-r,KD hx h (.inr ⟨rfl,aO⟩),λ_=>⟨hl,aO⟩,?_⟩;rw[Dq,bn qc]
    .rw [bl qc];exact⟨r,h,λq=>absurd q qc,rfl⟩
   have hyv:(tJ x n).iu:=by unfold tJ;split;exact yr hx;exact hx
   have ya:(tJ x n).all=false:=by
    unfold tJ;split
    .unfold jD;rw[xa];rfl
    .exact xa
   rw[hsn];generalize tJ x n=y at *
   obtain⟨s1,s2⟩:=hs.kn ya;obtain⟨c1,c2⟩:=hyv.xv;unfold mU;split
   .exact .inl rfl
   .rename_i he;have Ab:¬n%2=0->n%2=1:=λq=> aD 
    refine .inr ⟨?_,?_⟩
    .refine bX (ac9 c1 aD ?_ hp iq aD) ?_
     .by_cases qc:n%2=0
      .exact .inl (um qc).1
      .exact .inr (Ab qc)
     .by_cases qc:n%2=0
      .exact F5 (um qc).1 s1 n
      .exact Yq (Ab qc) s1
    .refine bX ?_ (ada c2 aD ?_ hp iq aD)
     .by_cases qc:n%2=0
      .exact F5 (um qc).2 s2 n
      .exact Yq (Ab qc) s2
     .by_cases qc:n%2=0
      .exact .inl (bX (um qc).2 s2)
      .exact .inr (Ab qc)
 .rw [bn rfl];exact .inl rfl
end Go.Proofs.YtbhhompalmdaiaaGreatDoor.Fp
namespace Go.Proofs.YtbhhompalmdaiaaGreatDoor
open Go.RowKit Fp Pu
structure lO where
 kind:Nat
 a:Nat
 b:Nat
 n:Nat
 cn:Int
 cd:Int
structure mB where
 iW:Nat
 ik:List lO
 iL:List Nat
structure kG where
 tape:mB
 jo:Nat
 params:List Iv
def iF:lO:=⟨0,0,0,0,0,0⟩
def Js(o:lO):List E:=[iP (o.kind:Int),iP (o.a:Int),iP (o.b:Int),iP (o.n:Int),iP o.cn,iP o.cd]
def vT(o:lO):E:=.agg (Js o)
def mw(l:List lO):E:=.sl true l.length 6 λi j=>(Js (l.getD i iF)).getD j .any
def mu(l:List Nat):E:=.sl true l.length 1 λi _=>iP (l.getD i 0:Int)
def alC(t:mB):List E:=[iP (t.iW:Int),mw t.ik,mu t.iL]
def B4(t:mB):E:=.agg (alC t)
def alk(s:kG):List E:=[iP (s.tape.iW:Int),mw s.tape.ik,mu s.tape.iL,iP (s.jo:Int),iz s.params]
def lI(s:kG):E:=.agg (alk s)
def jN(n d:Int):Bool:=decide (1<=d)&&(decide (d<=1073741824)&&(decide (-1073741824<=n)&&(decide (n<=1073741824)&&decide (Nat.gcd n.natAbs d.natAbs=1))))
def pn{n d:Int}(h:jN n d=true):1<=d/\d<=1073741824 /\ -1073741824<=n/\n<=1073741824:=by
 unfold jN at h;simp only[bY,cH]at h;exact⟨h.1,h.2.1,h.2.2.1,h.2.2.2.1⟩
def Ek(f:FuncId)(x:Iv)(p:Nat):Prop:=∃ y:Iv,y.iu/\ig f [ix x,iP (p:Int)] (ix y)
def zD:Prop:=∀ (x:Iv) (p:Nat),x.iu->8<=p->p<=512->Ek 302 x p/\Ek 303 x p/\Ek 304 x p/\Ek 305 x p/\Ek 306 x p
structure pK(o:lO)(m:Nat):Prop where
 k3:o.kind=1\/3<=o.kind
 Fe:o.kind<=13
 a:if o.kind=1 then o.a=0 else o.a<m
 b:if 3<=o.kind/\o.kind<=6 then o.b<m else o.b=0
 n:if o.kind=8 then o.n<=16 else o.n=0
 c:if o.kind=1 then jN o.cn o.cd=true else o.cn=0/\o.cd=0
 f:o.kind<=8\/zD
structure yq(t:mB):Prop where
 iW:t.iW<=8
 ik:t.ik.length<=200
 iL:t.iL.length<=200
 op:∀ i,i<t.ik.length->pK (t.ik.getD i iF) (t.iW+i)
 out:∀ i,i<t.iL.length->t.iL.getD i 0<t.iW+t.ik.length
def pX(l:List Iv):Prop:=∀ i,i<l.length->(l.getD i il).iu/\(l.getD i il).all=false
structure mO(s:kG):Prop where
 tape:yq s.tape
 s1:1<=s.jo
 s4:s.jo<=4
 iL:s.tape.iL.length=s.jo
 iW:s.tape.iW=s.jo+s.params.length
 p4:s.params.length<=4
 params:pX s.params
structure kU(n:Nat)(b:List Iv):Prop where
 len:b.length=n
 ok:pX b
def mY(l:List Iv):Bool:=(List.range l.length).any λi=>(l.getD i il).all
def mi(h:Dy):Iv:=⟨iQ,h,false⟩
def Nd(x f:List Iv)(h:Dy)(p i:Nat):Iv:=jL (x.getD i il) (iI (mi h) (f.getD i il) p) p
def xK(x f:List Iv)(h:Dy)(p:Nat):List Iv:=(List.range x.length).map (Nd x f h p)
def Pr{h:Dy}(hv:h.iu)(h0:0<=h.q):(mi h).iu:=.inr ⟨rfl,qn,hv,by show jA iQ h<=0;rw[qx,qy];exact h0⟩
def O6(d:Dy){p:Nat}(hp:1<=p)(iq:p<=4096)(up:Bool):(jG d p up).iu:=mD _ _ _ _ _ _ hp iq
def zf(d:Dy){p:Nat}(hp:1<=p)(iq:p<=4096)(up:Bool):∀ k,(jx d p up k).1.iu
 | 0=>O6 _ hp iq _
 |k+1=>by
  unfold jx;split
  .exact zf d hp iq up k
  .exact O6 _ hp iq _
def SJ(d:Dy)(n:Nat){p:Nat}(hp:1<=p)(iq:p<=4096)(up:Bool):(lH d n p up).1.iu:=by
 unfold lH;split
 .exact uE (zf _ hp iq _ _)
 .exact zf _ hp iq _ _
def W7:canon false 1 0=⟨false,1,0⟩:=by
 have h1:(canon false 1 0).neg=false:= aP ;have h2:(canon false 1 0).m=1:= aP ;have h3:(canon false 1 0).e=0:= aP ;generalize canon false 1 0=d at *
 cases d;simp_all
def Oe:(⟨false,1,0⟩:Dy).iu:=by
 have h2:nu (canon false 1 0):= aP ;rw[<-W7];exact⟨qF _ _ _,h2⟩
def JA{x:Iv}(hx:x.iu)(n:Nat){p:Nat}(hp:1<=p)(iq:p<=4096):(nX x n p).iu:=by
 have hh:=Oz hx (n:=n) hp iq hx.wG;revert hh;unfold nX;split
 .intro _;exact mA
 .split
  .intro _;exact qO Oe
  .unfold mU;split
   .intro _;exact mA
   .intro hh;obtain⟨h1,h2⟩:=hh.kn rfl;exact .inr ⟨rfl,SJ _ _ hp iq _,SJ _ _ hp iq _,(qx _ _).2 (bX h1 h2)⟩
def nP(l:List Iv):Prop:=∀ i,(l.getD i il).iu
def nP.push{l:List Iv}(h:nP l){y:Iv}(hy:y.iu):nP (l++[y]):=λi=>by
 rw[bu,fZ];split
 .have:=h i;rwa[bu]at this
 .rcases i-l.length with _|j
  .exact hy
  .exact mA
def pX.PJ{l:List Iv}(h:pX l):nP l:=λi=>by
 by_cases hi:i<l.length
 .exact (h i hi).1
 .rw [bu,cw aD];exact mA
def nP.append{l r:List Iv}(h:nP l)(k:nP r):nP (l++r):=λi=>by
 rw[bu,fZ];split
 .have:=h i;rwa[bu]at this
 .have:=k (i-l.length);rwa[bu]at this
def aeU{l:List Iv}(h:mY l=false)(v:nP l):pX l:=λi hi=>⟨v i,by simpa using List.any_eq_false.1 h i (cz.2 hi)⟩
def afC{x f:List Iv}{h:Dy}(hx:nP x){p:Nat}(hp:1<=p)(iq:p<=4096)(i:Nat):(Nd x f h p i).iu:=rn (hx i) (lX _ _ hp iq) hp iq
def IX(x f:List Iv)(h:Dy)(p:Nat):(xK x f h p).length=x.length:=by simp[xK]
def IW{x f:List Iv}{h:Dy}{p i:Nat}(hi:i<x.length):(xK x f h p).getD i il=Nd x f h p i:=by
 simp[xK,bu,hi]
def afD{x f:List Iv}{h:Dy}(hx:nP x){p:Nat}(hp:1<=p)(iq:p<=4096):nP (xK x f h p):=λi=>by
 by_cases hi:i<x.length
 .rw [IW hi];exact afC hx hp iq i
 .rw [bu,cw (by rw[IX];omega)];exact mA
def uz(a b:List Iv):Bool:=(List.range a.length).all λi=>pN (a.getD i il) (b.getD i il)
def vj(x:Iv)(d:Dy):Bool:=decide (nk (iJ x.lo (jf d))=0)&&decide (nk (iJ x.hi d)=0)
def qq(x:Iv)(d:Dy):Iv:=⟨kY (iJ x.lo (jf d)),kY (iJ x.hi d),false⟩
def qU(x:List Iv)(d:Dy):Bool:=(List.range x.length).all λi=>vj (x.getD i il) d
def rB(x:List Iv)(d:Dy):List Iv:=if qU x d then(List.range x.length).map λi=>qq (x.getD i il) d else[]
def qe(x y:Iv):Iv:=if x.all||y.all then il else⟨ji x.lo y.lo,je x.hi y.hi,false⟩
def mV(x y:List Iv):List Iv:=(List.range x.length).map λi=>qe (x.getD i il) (y.getD i il)
def rL(x:Iv)(p:Nat):Dy:=jG (iJ x.hi (jf x.lo)) p true
def Cb(x:Iv)(p:Nat):Int:=jZ (iJ x.hi (jf x.lo)) p true
def nB(x:List Iv)(p:Nat):Nat->Dy
 | 0=>iQ
 |k+1=>if 0<jA (rL (x.getD k il) p) (nB x p k)then rL (x.getD k il) p else nB x p k
def Gm(x:List Iv)(p:Nat):Bool:=(List.range x.length).all λi=>decide (Cb (x.getD i il) p=0)
def afx{x y:Iv}(hx:x.iu)(hy:y.iu):(qe x y).iu:=by
 unfold qe;cases xa:x.all
 .cases ya:y.all
  .obtain ⟨x1,x2⟩:x.lo.iu/\x.hi.iu:=hx.kn;obtain⟨y1,y2⟩:y.lo.iu/\y.hi.iu:=hy.kn;refine .inr ⟨rfl,qw x1 y1,pF x2 y2,?_⟩;rw[qx];have hq:=hx.q;obtain⟨a1,a2,_⟩:=BP x.lo y.lo;obtain⟨b1,b2,_⟩:=zg x.hi y.hi
   grind
  .exact mA
 .exact mA
def U2{x y:List Iv}{n:Nat}(hx:kU n x)(hy:kU n y):kU n (mV x y):=by
 refine⟨by simp[mV,hx.len],λi hi=>?_⟩;have ml:i<x.length:=by simpa[mV]using hi
 have e:(mV x y).getD i il=qe (x.getD i il) (y.getD i il):=by simp[mV,bu,ml]
 obtain⟨v1,a1⟩:=hx.ok i ml;obtain⟨v2,a2⟩:=hy.ok i (by rw[hy.len,<-hx.len];exact ml);rw[e];refine⟨afx v1 v2,?_⟩;unfold qe;rw[a1,a2];rfl
def aeI{x:Iv}(hx:x.iu){d:Dy}(hd:d.iu)(h0:0<=d.q)(h:vj x d=true):(qq x d).iu:=by
 unfold vj at h;rw[bY,cH,cH]at h;obtain⟨h1,h2⟩:=h;have r1:nu (iJ x.lo (jf d)):=b9 λq=>by rw[GV q]at h1;cases h1
 have r2:nu (iJ x.hi d):=b9 λq=>by rw[GV q]at h2;cases h2
 obtain⟨c1,c2⟩:=hx.xv;unfold qq;refine .inr ⟨rfl,K1 (wq c1 (uE hd).canon),K1 (wq c2 hd.canon),?_⟩;show jA (kY _) (kY _)<=0;rw[A7 r1,A7 r2,qx,FV,FV,pk];have:=hx.q
 grind
def LP{x:List Iv}{n:Nat}(hx:kU n x){d:Dy}(hd:d.iu)(h0:0<=d.q)(h:qU x d=true):kU n (rB x d):=by
 unfold rB;rw[bn h];refine⟨by simp[hx.len],λi hi=>?_⟩;have ml:i<x.length:=by simpa using hi
 have e:((List.range x.length).map λi=>qq (x.getD i il) d).getD i il=qq (x.getD i il) d:=by simp[bu,ml]
 rw[e];exact⟨aeI (hx.ok i ml).1 hd h0 (ct.1 h i (cz.2 ml)),rfl⟩
def QG(d:Dy)(n p:Nat)(x:Nat):PS:=⟨41,true,[(14,.e (iP ((x+1:Nat):Int))),(13,.e (iP ((jx d p false x).2))),(12,.box 12 0),(10,.box 10 0),(5,.box 5 0),(1,.e (iP n)),(2,.e (iP p)),(4,.e (.fn 216 []))],[(12,.cells 28 (jc ((jx d p false x).1))),(10,.cells 28 aq),(5,.cells 28 (jc d))]⟩
def QH(d:Dy)(n N p:Nat)(x:Nat):PS:=⟨41,true,[(14,.e (iP ((x+1:Nat):Int))),(13,.e (iP ((jx d p false x).2))),(12,.box 12 0),(10,.box 10 0),(5,.box 5 0),(1,.e (iP n)),(2,.e (iP p)),(4,.e (.fn 216 []))],[(12,.cells 28 (jc ((jx d p false x).1))),(10,.cells 28 aq),(5,.cells 28 (jc d))]⟩
def QI(d:Dy)(n p:Nat)(x:Nat):PS:=⟨41,true,[(14,.e (iP ((x+1:Nat):Int))),(13,.e (iP ((jx d p true x).2))),(12,.box 12 0),(10,.box 10 0),(5,.box 5 0),(1,.e (iP n)),(2,.e (iP p)),(4,.e (.fn 217 []))],[(12,.cells 28 (jc ((jx d p true x).1))),(10,.cells 28 aq),(5,.cells 28 (jc d))]⟩
def QJ(d:Dy)(n N p:Nat)(x:Nat):PS:=⟨41,true,[(14,.e (iP ((x+1:Nat):Int))),(13,.e (iP ((jx d p true x).2))),(12,.box 12 0),(10,.box 10 0),(5,.box 5 0),(1,.e (iP n)),(2,.e (iP p)),(4,.e (.fn 217 []))],[(12,.cells 28 (jc ((jx d p true x).1))),(10,.cells 28 aq),(5,.cells 28 (jc d))]⟩
def aaL(a b:Dy)(ha:a.iu)(hb:b.iu):ig 237 [im a,im b] (.iB [im (kY (iJ a b)),iP (nk (iJ a b))]):=Jv call237 (λA c A' c' w h k hT=>Sf a b A A' c c' w h k hT ha hb) FX
def DW(a b:Dy)(ha:a.iu)(hb:b.iu):ig 172 [im a,im b] (.iB [im (kY (iJ a (jf b))),iP (nk (iJ a (jf b)))]):=Jv call172 (λA c A' c' w h k hT=>acF a b A A' c c' w h k hT ha hb) FX
def DU(a b:Dy)(ha:a.iu)(hb:b.iu):ig 173 [im a,im b] (.iB [im (kY (iJ a b)),iP (nk (iJ a b))]):=
 ak call173 func173 (af [ag [im a] (rz _ aE),ag [im b] (rz _ aE),ag [im a,im b] (aaL _ _ aE aE)]) 
def aam(s:Bool)(m:Nat)(e:Int)(hl:(ij m).length<=256)(kZ:-1000000<=e)(kF:e<=1000000):ig 170 [bP s,iw (ij m),iP e] (im (canon s m e)):=by
 refine⟨call170,λw B vs hK hB hr=>?_⟩;obtain⟨v1,vs,rfl,h1,hr⟩:=hr.my;obtain⟨v2,vs,rfl,h2,hr⟩:=hr.my;obtain⟨v3,vs,rfl,h3,hr⟩:=hr.my;obtain rfl:=hr.pH;obtain rfl:=iR.kN h1;obtain rfl:=iR.kN h3;obtain⟨A,c,rfl,s1⟩:=uI (kS m) h2;exact(Cq s m e A c w s1 hl kZ kF hK).mono λe w' h=>rd B w e w' hB h
def aan(d:Dy)(hl:(ij d.m).length<=100000000)(kZ:-10000000<=d.e)(kF:d.e<=10000000):ig 169 [im d] (.iB [im (kY d),iP (nk d)]):=
 xZ call169 (λA c w h _=>GU d A c w h aD aD aD) FX
def aaw(k:Int)(h1:-32768<=k)(h2:k<=32768):ig 168 [iP k] (bP true):=
 ak call168 func168 (af [tT 4 ((-32768)<=k) aD,tT 7 (k<=32768) aD]) 
def QN(d:Dy)(k:Int)(hv:d.iu)(h1:-32768<=k)(h2:k<=32768):ig 96 [im d,iP k] (.iB [im (kY (canon d.neg d.m (d.e+k))),iP (nk (canon d.neg d.m (d.e+k)))]):=by
 have hl:=hv.ij;have he:=hv.exp;have jt:=Rc (kS d.m) hl d.neg (d.e+k);obtain⟨lS,pf⟩:=KT (kS d.m) hl d.neg (d.e+k) aD aD;rw[jR]at jt lS pf;exact ak call96 func96 (af [ag [im d] (rz _ aE),.c (aaw k aD aD),iC (d.e+k) aD,ag [bP d.neg,iw (ij d.m),iP (d.e+k)] (aam _ _ _ aD aD aD),ag [im (canon d.neg d.m (d.e+k))] (aan _ aD aD aD)]) 
def QF(n:Nat)(h:n<4294967296):ig 97 [iP n] (im (jY (n:Int))):=by
 have ok2:iK [n%4294967296,n/4294967296%4294967296]:=iK.cons (bC _ aF) (iK.cons (bC _ aF) iK.nil);exact ak call97 func97 (ae [.o 5 (.int (oj _ aD):aj (.v (.int .u64 (IntKind.u64.wrap (n:Int)))) (.v (.int .u64 (n:Int)))),tF 7 ((n:Int)<0) aD,tF 11 ((n:Int)<0) aD,.o 13 (.int (sr _):aj (.v (.int .u32 (IntKind.u32.wrap (n:Int)))) (.v (.int .u32 ((n%4294967296:Nat):Int)))),.a (aD:0<=(32:Int)/\(32:Int)<=((64:Nat):Int)),.o 15 (.int (zo _):aj (.v (.int .u64 ((n:Int)/2^32))) (.v (.int .u64 ((n/4294967296:Nat):Int)))),.o 16 (.int (sr _):aj (.v (.int .u32 (IntKind.u32.wrap ((n/4294967296:Nat):Int)))) (.v (.int .u32 (((n/4294967296)%4294967296:Nat):Int)))),.o 17 (.e (Zv _ _):aj (.sl false 2 1 λi_ j_=>[.v (.int .u32 ((n%4294967296:Nat):Int)),.v (.int .u32 (((n/4294967296)%4294967296:Nat):Int))].getD (i_*1+j_) (.v (.bool false))) (iw [n%4294967296,(n/4294967296)%4294967296])),ag [bP false,iw [n%4294967296,(n/4294967296)%4294967296],iP 0] (Sb _ _ _ ok2 aJ aF aF)]<|rQ (im (canon false (val [n%4294967296,(n/4294967296)%4294967296]) 0)) (im (jY (n:Int))) (by rw[ZC,(aD:n%4294967296+4294967296*(n/4294967296%4294967296)=n),wT])) 
def afM:jY 1=⟨false,1,0⟩:=by rw[show(1:Int)=((1:Nat):Int)from rfl,wT];exact W7
def aaz:ig 97 [iP 1] (im ⟨false,1,0⟩):=by
 have:=QF 1 aF;rwa[show((1:Nat):Int)=1 from rfl,afM]at this
def QK(d:Dy)(p:Nat)(hd:d.iu)(iD:8<=p)(iq:p<=512):ig 340 [im d,iP p] (.iB [im (jG d p false),iP (jZ d p false)]):=
 ak call340 func340 (af [.c (JI d p false aE aD aD)]) 
def QL(d:Dy)(p:Nat)(hd:d.iu)(iD:8<=p)(iq:p<=512):ig 339 [im d,iP p] (.iB [im (jG d p true),iP (jZ d p true)]):=
 ak call339 func339 (af [.c (JI d p true aE aD aD)]) 
def Ox(d:Dy)(p:Nat)(up:Bool)(N:Nat)(h:(jx d p up N).2≠0):∀ k,jx d p up (N+k)=jx d p up N
 | 0=>rfl
 |k+1=>by
  have ih:=Ox d p up N h k;show(if(jx d p up (N+k)).2≠0 then jx d p up (N+k)else _)=_;rw[ih,bn h]
def Aw{d:Dy}{p:Nat}{up:Bool}{k:Nat}(h:(jx d p up k).2=0):jx d p up (k+1)=(jG (mZ (jx d p up k).1 d) p up,jZ (mZ (jx d p up k).1 d) p up):=by
 show(if(jx d p up k).2≠0 then _ else _)=_;rw[bl (anw h)];rfl
def aaA(d:Dy)(n p:Nat)(hd:d.iu)(hn:1<=n)(kx:n<=16)(iD:8<=p)(iq:p<=512)(jk:∀ x,x<n-1->(jx d p false x).2=0):ig 338 [im d,iP n,iP p,.fn 340 [],.fn 216 []] (.iB [im (jx d p false (n-1)).1,iP (jx d p false (n-1)).2]):=
 ak call338 func338 (af [.c (QK d p aE aD aD),.s (Sp.jP (QG d n p) 0 (n-1) aD (λx hx lp=>by
    have og:=jk x aD;have hv:=zf d (aD:1<=p) (aD:p<=4096) false x;exact iM (ae [tT 24 (((x+1:Nat):Int)<n) aD,ah 27 (((jx d p false x).2)==0) (by rw[og];rfl),.c (OQ ((jx d p false x).1) d p aE aE aD aD),
     iC (((x+1:Nat):Int)+1) aD]<|.e (af [.o 13 (an (jZ (mZ ((jx d p false x).1) d) p false) ((jx d p false (x+1)).2) (by rw[Aw og])),.b 12 (.jb (by rw[Aw og]):Bx.le (.cells 28 (jc (jG (mZ ((jx d p false x).1) d) p false))) (.cells 28 (jc ((jx d p false (x+1)).1))))])) aG)
  (λhx=>by
    exact iM (af [tF 24 ((((n-1)+1:Nat):Int)<n) aD]) aG) aK:jO 3 f338 (QG d n p 0) (.exit 0) ⟨41,true,[(13,.e (iP ((jx d p false (n-1)).2))),(12,.box 12 0),(10,.box 10 0)],[(12,.cells 28 (jc ((jx d p false (n-1)).1))),(10,.cells 28 aq)]⟩) (af [.o 14 (an 1 ((0+1:Nat):Int) rfl),.o 13 (an (jZ d p false) ((jx d p false 0).2) rfl),.b 12 (.jb rfl:Bx.le (.cells 28 (jc (jG d p false))) (.cells 28 (jc ((jx d p false 0).1))))])]) 
def aaB(d:Dy)(n N p:Nat)(hd:d.iu)(hn:1<=n)(kx:n<=16)(iD:8<=p)(iq:p<=512)(oN:N<n-1)(jk:∀ x,x<N->(jx d p false x).2=0)(hN:(jx d p false N).2≠0):ig 338 [im d,iP n,iP p,.fn 340 [],.fn 216 []] (.iB [im (jx d p false N).1,iP (jx d p false N).2]):=
 ak call338 func338 (af [.c (QK d p aE aD aD),.s (Sp.jP (QH d n N p) 0 N aD (λx hx lp=>by
    have og:=jk x aD;have hv:=zf d (aD:1<=p) (aD:p<=4096) false x;exact iM (ae [tT 24 (((x+1:Nat):Int)<n) aD,ah 27 (((jx d p false x).2)==0) (by rw[og];rfl),.c (OQ ((jx d p false x).1) d p aE aE aD aD),
     iC (((x+1:Nat):Int)+1) aD]<|.e (af [.o 13 (an (jZ (mZ ((jx d p false x).1) d) p false) ((jx d p false (x+1)).2) (by rw[Aw og])),.b 12 (.jb (by rw[Aw og]):Bx.le (.cells 28 (jc (jG (mZ ((jx d p false x).1) d) p false))) (.cells 28 (jc ((jx d p false (x+1)).1))))])) aG)
  (λhx=>by
    exact iM (af [tT 24 (((N+1:Nat):Int)<n) aD,ai 27 (((jx d p false N).2)==0) (by simpa using hN)]) aG) aK:jO 3 f338 (QH d n N p 0) (.exit 0) ⟨41,true,[(13,.e (iP ((jx d p false N).2))),(12,.box 12 0),(10,.box 10 0)],[(12,.cells 28 (jc ((jx d p false N).1))),(10,.cells 28 aq)]⟩) (af [.o 14 (an 1 ((0+1:Nat):Int) rfl),.o 13 (an (jZ d p false) ((jx d p false 0).2) rfl),.b 12 (.jb rfl:Bx.le (.cells 28 (jc (jG d p false))) (.cells 28 (jc ((jx d p false 0).1))))])]) 
def aaC(d:Dy)(n p:Nat)(hd:d.iu)(hn:1<=n)(kx:n<=16)(iD:8<=p)(iq:p<=512):ig 338 [im d,iP n,iP p,.fn 340 [],.fn 216 []] (.iB [im (jx d p false (n-1)).1,iP (jx d p false (n-1)).2]):=by
 by_cases h:∃ x,x<n-1/\decide ((jx d p false x).2≠0)=true
 .obtain ⟨N,h1,h2,h3⟩:=sY h;have hN:(jx d p false N).2≠0:=dK h2;have:=aaB d n N p hd hn kx iD iq h1 (λx hx=>by simpa using h3 x hx) hN;have e:=Ox d p false N hN (n-1-N);rw[(aD:N+(n-1-N)=n-1)]at e;rw[e];exact this
 .exact aaA d n p hd hn kx iD iq λx hx=>b9 λq=>h ⟨x,hx,bq q⟩
def aaD(d:Dy)(n p:Nat)(hd:d.iu)(hn:1<=n)(kx:n<=16)(iD:8<=p)(iq:p<=512)(jk:∀ x,x<n-1->(jx d p true x).2=0):ig 338 [im d,iP n,iP p,.fn 339 [],.fn 217 []] (.iB [im (jx d p true (n-1)).1,iP (jx d p true (n-1)).2]):=
 ak call338 func338 (af [.c (QL d p aE aD aD),.s (Sp.jP (QI d n p) 0 (n-1) aD (λx hx lp=>by
    have og:=jk x aD;have hv:=zf d (aD:1<=p) (aD:p<=4096) true x;exact iM (ae [tT 24 (((x+1:Nat):Int)<n) aD,ah 27 (((jx d p true x).2)==0) (by rw[og];rfl),.c (OR ((jx d p true x).1) d p aE aE aD aD),
     iC (((x+1:Nat):Int)+1) aD]<|.e (af [.o 13 (an (jZ (mZ ((jx d p true x).1) d) p true) ((jx d p true (x+1)).2) (by rw[Aw og])),.b 12 (.jb (by rw[Aw og]):Bx.le (.cells 28 (jc (jG (mZ ((jx d p true x).1) d) p true))) (.cells 28 (jc ((jx d p true (x+1)).1))))])) aG)
  (λhx=>by
    exact iM (af [tF 24 ((((n-1)+1:Nat):Int)<n) aD]) aG) aK:jO 3 f338 (QI d n p 0) (.exit 0) ⟨41,true,[(13,.e (iP ((jx d p true (n-1)).2))),(12,.box 12 0),(10,.box 10 0)],[(12,.cells 28 (jc ((jx d p true (n-1)).1))),(10,.cells 28 aq)]⟩) (af [.o 14 (an 1 ((0+1:Nat):Int) rfl),.o 13 (an (jZ d p true) ((jx d p true 0).2) rfl),.b 12 (.jb rfl:Bx.le (.cells 28 (jc (jG d p true))) (.cells 28 (jc ((jx d p true 0).1))))])]) 
def aaE(d:Dy)(n N p:Nat)(hd:d.iu)(hn:1<=n)(kx:n<=16)(iD:8<=p)(iq:p<=512)(oN:N<n-1)(jk:∀ x,x<N->(jx d p true x).2=0)(hN:(jx d p true N).2≠0):ig 338 [im d,iP n,iP p,.fn 339 [],.fn 217 []] (.iB [im (jx d p true N).1,iP (jx d p true N).2]):=
 ak call338 func338 (af [.c (QL d p aE aD aD),.s (Sp.jP (QJ d n N p) 0 N aD (λx hx lp=>by
    have og:=jk x aD;have hv:=zf d (aD:1<=p) (aD:p<=4096) true x;exact iM (ae [tT 24 (((x+1:Nat):Int)<n) aD,ah 27 (((jx d p true x).2)==0) (by rw[og];rfl),.c (OR ((jx d p true x).1) d p aE aE aD aD),
     iC (((x+1:Nat):Int)+1) aD]<|.e (af [.o 13 (an (jZ (mZ ((jx d p true x).1) d) p true) ((jx d p true (x+1)).2) (by rw[Aw og])),.b 12 (.jb (by rw[Aw og]):Bx.le (.cells 28 (jc (jG (mZ ((jx d p true x).1) d) p true))) (.cells 28 (jc ((jx d p true (x+1)).1))))])) aG)
  (λhx=>by
    exact iM (af [tT 24 (((N+1:Nat):Int)<n) aD,ai 27 (((jx d p true N).2)==0) (by simpa using hN)]) aG) aK:jO 3 f338 (QJ d n N p 0) (.exit 0) ⟨41,true,[(13,.e (iP ((jx d p true N).2))),(12,.box 12 0),(10,.box 10 0)],[(12,.cells 28 (jc ((jx d p true N).1))),(10,.cells 28 aq)]⟩) (af [.o 14 (an 1 ((0+1:Nat):Int) rfl),.o 13 (an (jZ d p true) ((jx d p true 0).2) rfl),.b 12 (.jb rfl:Bx.le (.cells 28 (jc (jG d p true))) (.cells 28 (jc ((jx d p true 0).1))))])]) 
def aaF(d:Dy)(n p:Nat)(hd:d.iu)(hn:1<=n)(kx:n<=16)(iD:8<=p)(iq:p<=512):ig 338 [im d,iP n,iP p,.fn 339 [],.fn 217 []] (.iB [im (jx d p true (n-1)).1,iP (jx d p true (n-1)).2]):=by
 by_cases h:∃ x,x<n-1/\decide ((jx d p true x).2≠0)=true
 .obtain ⟨N,h1,h2,h3⟩:=sY h;have hN:(jx d p true N).2≠0:=dK h2;have:=aaE d n N p hd hn kx iD iq h1 (λx hx=>by simpa using h3 x hx) hN;have e:=Ox d p true N hN (n-1-N);rw[(aD:N+(n-1-N)=n-1)]at e;rw[e];exact this
 .exact aaD d n p hd hn kx iD iq λx hx=>b9 λq=>h ⟨x,hx,bq q⟩
def Qv(d:Dy)(n p:Nat)(hd:d.iu)(h0:¬d.jh<0)(hn:1<=n)(kx:n<=16)(iD:8<=p)(iq:p<=512):ig 327 [im d,iP n,iP p,bP false] (.iB [im (lH d n p false).1,iP (lH d n p false).2]):=
 ak call327 func327 (ae [ag [im d] (rW _ aE),tB 14 (bt h0),.c (aaC d n p aE aD aD aD aD)]<|rQ (.iB [im ((jx d p false (n-1)).1),iP ((jx d p false (n-1)).2)]) (.iB [im (lH d n p false).1,iP (lH d n p false).2]) (by unfold lH;rw[bl h0])) 
def Qw(d:Dy)(n p:Nat)(hd:d.iu)(h0:¬d.jh<0)(hn:1<=n)(kx:n<=16)(iD:8<=p)(iq:p<=512):ig 327 [im d,iP n,iP p,bP true] (.iB [im (lH d n p true).1,iP (lH d n p true).2]):=
 ak call327 func327 (ae [ag [im d] (rW _ aE),tB 14 (bt h0),.c (aaF d n p aE aD aD aD aD)]<|rQ (.iB [im ((jx d p true (n-1)).1),iP ((jx d p true (n-1)).2)]) (.iB [im (lH d n p true).1,iP (lH d n p true).2]) (by unfold lH;rw[bl h0])) 
def YL{d:Dy}(h:d.jh<0):¬(jf d).jh<0:=by
 rw[(ri _).2,pk];have:=(ri d).2.1 h
 grind
def aaq(d:Dy)(n p:Nat)(hd:d.iu)(h0:¬d.jh<0)(hn:1<=n)(kx:n<=16)(iD:8<=p)(iq:p<=512):ig 327 [im d,iP (n:Int),iP (p:Int),bP false] (.iB [im (jx d p false (n-1)).1,iP (jx d p false (n-1)).2]):=by
 have:=Qv d n p hd h0 hn kx iD iq;unfold lH at this;rwa[bl h0]at this
def aar(d:Dy)(n p:Nat)(hd:d.iu)(h0:¬d.jh<0)(hn:1<=n)(kx:n<=16)(iD:8<=p)(iq:p<=512):ig 327 [im d,iP (n:Int),iP (p:Int),bP true] (.iB [im (jx d p true (n-1)).1,iP (jx d p true (n-1)).2]):=by
 have:=Qw d n p hd h0 hn kx iD iq;unfold lH at this;rwa[bl h0]at this
def aao(d:Dy)(n p:Nat)(hd:d.iu)(h0:d.jh<0)(hn:1<=n)(kx:n<=16)(iD:8<=p)(iq:p<=512):ig 327 [im d,iP n,iP p,bP false] (.iB [im (lH d n p false).1,iP (lH d n p false).2]):=by
 have EJ:=uE hd;have h1:=YL h0;have hv:=zf (jf d) (aD:1<=p) (aD:p<=4096) true (n-1);exact ak call327 func327 (ae [ag [im d] (rW _ aE),tB 14 (bq h0),ag [im d] (yA _ aE),ag [im (jf d),iP n,iP p,bP true] (aar _ _ _ EJ h1 hn kx iD iq),ag [im ((jx (jf d) p true (n-1)).1)] (yA _ aE)]<|rQ (.iB [im (jf ((jx (jf d) p true (n-1)).1)),iP ((jx (jf d) p true (n-1)).2)]) (.iB [im (lH d n p false).1,iP (lH d n p false).2]) (by unfold lH;rw[bn h0];rfl)) 
def Qx(d:Dy)(n p:Nat)(hd:d.iu)(hn:1<=n)(kx:n<=16)(iD:8<=p)(iq:p<=512):ig 327 [im d,iP (n:Int),iP (p:Int),bP false] (.iB [im (lH d n p false).1,iP (lH d n p false).2]):=by
 by_cases h0:d.jh<0
 .exact aao d n p hd h0 hn kx iD iq
 .exact Qv d n p hd h0 hn kx iD iq
def aap(d:Dy)(n p:Nat)(hd:d.iu)(h0:d.jh<0)(hn:1<=n)(kx:n<=16)(iD:8<=p)(iq:p<=512):ig 327 [im d,iP n,iP p,bP true] (.iB [im (lH d n p true).1,iP (lH d n p true).2]):=by
 have EJ:=uE hd;have h1:=YL h0;have hv:=zf (jf d) (aD:1<=p) (aD:p<=4096) false (n-1);exact ak call327 func327 (ae [ag [im d] (rW _ aE),tB 14 (bq h0),ag [im d] (yA _ aE),ag [im (jf d),iP n,iP p,bP false] (aaq _ _ _ EJ h1 hn kx iD iq),ag [im ((jx (jf d) p false (n-1)).1)] (yA _ aE)]<|rQ (.iB [im (jf ((jx (jf d) p false (n-1)).1)),iP ((jx (jf d) p false (n-1)).2)]) (.iB [im (lH d n p true).1,iP (lH d n p true).2]) (by unfold lH;rw[bn h0];rfl)) 
def Qy(d:Dy)(n p:Nat)(hd:d.iu)(hn:1<=n)(kx:n<=16)(iD:8<=p)(iq:p<=512):ig 327 [im d,iP (n:Int),iP (p:Int),bP true] (.iB [im (lH d n p true).1,iP (lH d n p true).2]):=by
 by_cases h0:d.jh<0
 .exact aap d n p hd h0 hn kx iD iq
 .exact Qw d n p hd h0 hn kx iD iq
def aaG(x:Iv)(n p:Nat)(hx:x.iu)(ha:x.all=true)(hn:n<=16)(iD:8<=p)(iq:p<=512):ig 301 [ix x,iP n,iP p] (ix (nX x n p)):=
 ak call301 func301 (ae [.o 12 (.e (mr _):aj (.sl true 1 7 λi_ j_=>(iZ x).getD (i_*7+j_) (.v (.bool false))) (iz [x])),ag [iz [x]] (sf _ aE),ai 13 (!x.all) (by rw[ha];rfl),.c sj]<|rQ (ix il) (ix (nX x n p)) (by unfold nX;rw[bn ha])) 
def aaJ(x:Iv)(n p:Nat)(hx:x.iu)(ha:x.all=false)(h0:n=0)(iD:8<=p)(iq:p<=512):ig 301 [ix x,iP n,iP p] (ix (nX x n p)):=by
 have v1:=Oe;exact ak call301 func301 (ae [.o 12 (.e (mr _):aj (.sl true 1 7 λi_ j_=>(iZ x).getD (i_*7+j_) (.v (.bool false))) (iz [x])),ag [iz [x]] (sf _ aE),ah 13 (!x.all) (by rw[ha];rfl),ag [iP p] (Ak _),ah 17 (kT (p:Int)) (oM.2 ⟨aD,aD⟩),tF 22 ((n:Int)<0) aD,tF 26 (16<(n:Int)) aD,ah 30 ((n:Int)==0) (sk h0),ag [iP 1] aaz,.c (xM (Dy.mk false 1 0) aE)]<|rQ (ix (iV (Dy.mk false 1 0))) (ix (nX x n p)) (by unfold nX;rw[bl (by rw[ha];decide),bn h0])) 
def aaH(x:Iv)(n p:Nat)(hx:x.iu)(ha:x.all=false)(h0:n≠0)(hn:n<=16)(he:n%2=0)(iD:8<=p)(iq:p<=512):ig 301 [ix x,iP n,iP p] (ix (nX x n p)):=by
 have va:=yr hx;obtain⟨w1,w2⟩:=va.kn;exact ak call301 func301 (ae [.o 12 (.e (mr _):aj (.sl true 1 7 λi_ j_=>(iZ x).getD (i_*7+j_) (.v (.bool false))) (iz [x])),ag [iz [x]] (sf _ aE),ah 13 (!x.all) (by rw[ha];rfl),ag [iP p] (Ak _),ah 17 (kT (p:Int)) (oM.2 ⟨aD,aD⟩),tF 22 ((n:Int)<0) aD,tF 26 (16<(n:Int)) aD,ai 30 ((n:Int)==0) (ou h0),.a (aD:0<(2:Int)),.o 34 (an (Int.tmod (n:Int) 2) ((n%2:Nat):Int) (by rw[amX aD];omega)),ah 35 (((n%2:Nat):Int)==0) (sk he),.c (Fa x aE),ag [im ((jD x).lo),iP n,iP p,bP false] (Qx _ _ _ aE aD aD aD aD),ag [im ((jD x).hi),iP n,iP p,bP true] (Qy _ _ _ aE aD aD aD aD),.c (Nj ((lH ((jD x).lo) n p false).1) ((lH ((jD x).hi) n p true).1) ((lH ((jD x).lo) n p false).2) ((lH ((jD x).hi) n p true).2))]<|rQ (ix (mU ((lH ((jD x).lo) n p false).1) ((lH ((jD x).lo) n p false).2) ((lH ((jD x).hi) n p true).1) ((lH ((jD x).hi) n p true).2))) (ix (nX x n p)) (by unfold nX tJ;rw[bl (by rw[ha];decide),bl h0,bn he])) 
def aaI(x:Iv)(n p:Nat)(hx:x.iu)(ha:x.all=false)(h0:n≠0)(hn:n<=16)(he:¬n%2=0)(iD:8<=p)(iq:p<=512):ig 301 [ix x,iP n,iP p] (ix (nX x n p)):=by
 have va:=hx;obtain⟨w1,w2⟩:=va.kn;exact ak call301 func301 (ae [.o 12 (.e (mr _):aj (.sl true 1 7 λi_ j_=>(iZ x).getD (i_*7+j_) (.v (.bool false))) (iz [x])),ag [iz [x]] (sf _ aE),ah 13 (!x.all) (by rw[ha];rfl),ag [iP p] (Ak _),ah 17 (kT (p:Int)) (oM.2 ⟨aD,aD⟩),tF 22 ((n:Int)<0) aD,tF 26 (16<(n:Int)) aD,ai 30 ((n:Int)==0) (ou h0),.a (aD:0<(2:Int)),.o 34 (an (Int.tmod (n:Int) 2) ((n%2:Nat):Int) (by rw[amX aD];omega)),ai 35 (((n%2:Nat):Int)==0) (ou he),ag [im x.lo,iP n,iP p,bP false] (Qx _ _ _ aE aD aD aD aD),ag [im x.hi,iP n,iP p,bP true] (Qy _ _ _ aE aD aD aD aD),.c (Nj ((lH x.lo n p false).1) ((lH x.hi n p true).1) ((lH x.lo n p false).2) ((lH x.hi n p true).2))]<|rQ (ix (mU ((lH x.lo n p false).1) ((lH x.lo n p false).2) ((lH x.hi n p true).1) ((lH x.hi n p true).2))) (ix (nX x n p)) (by unfold nX tJ;rw[bl (by rw[ha];decide),bl h0,bl he])) 
def KI(x:Iv)(n p:Nat)(hx:x.iu)(hn:n<=16)(iD:8<=p)(iq:p<=512):ig 301 [ix x,iP (n:Int),iP (p:Int)] (ix (nX x n p)):=by
 cases ha:x.all with
 |true=>exact aaG x n p hx ha hn iD iq
 |false=>
  by_cases h0:n=0
  .exact aaJ x n p hx ha h0 iD iq
  .by_cases he:n%2=0
   .exact aaH x n p hx ha h0 hn he iD iq
   .exact aaI x n p hx ha h0 hn he iD iq
def aax(x y:Iv)(hx:x.iu)(hy:y.iu)(xa:x.all=false)(ya:y.all=false):ig 177 [ix x,ix y] (ix (qe x y)):=by
 obtain⟨v1,v2⟩:=hx.kn;obtain⟨v3,v4⟩:=hy.kn;exact ak call177 func177 (ae [.o 7 (.e (xO _ _):aj (.sl true 2 7 λi_ j_=>(iZ x++iZ y).getD (i_*7+j_) (.v (.bool false))) (iz [x,y])),ag [iz [x,y]] (Aj _ _ aE aE),ah 8 (!(x.all||y.all)) (by rw[xa,ya];rfl),.c (Ni x.lo y.lo aE aE),.c (Nk x.hi y.hi aE aE)]<|rQ (ix (Iv.mk (ji x.lo y.lo) (je x.hi y.hi) false)) (ix (qe x y)) (by unfold qe;rw[xa,ya];rfl)) 
def aaP(z:Int):(z==0)=decide (z=0):=by by_cases h:z=0<;>simp[h]
def KJ(x:Iv)(p:Nat)(hx:x.iu)(xa:x.all=false)(iD:8<=p)(iq:p<=512):ig 179 [ix x,iP p] (.iB [im (rL x p),bP (decide (Cb x p=0))]):=by
 obtain⟨v1,v2⟩:=hx.kn;have v3:=uE v1;exact ak call179 func179 (ae [.o 9 (.e (mr _):aj (.sl true 1 7 λi_ j_=>(iZ x).getD (i_*7+j_) (.v (.bool false))) (iz [x])),ag [iz [x]] (sf _ aE),ah 10 (!x.all) (by rw[xa];rfl),ag [iP p] (Ak _),ah 14 (kT (p:Int)) (oM.2 ⟨aD,aD⟩),ag [im x.lo] (yA _ aE),.c (xf x.hi (jf x.lo) p aE aE aD aD)]<|rQ (.iB [im (jG (iJ x.hi (jf x.lo)) p true),bP ((jZ (iJ x.hi (jf x.lo)) p true)==0)]) (.iB [im (rL x p),bP (decide (Cb x p=0))]) (by rw[aaP];rfl)) 
def GG(x y:Iv):pN x y=(y.all||(!x.all&&(decide (jA y.lo x.lo<=0)&&decide (jA x.hi y.hi<=0)))):=rfl
def aay(x y:Iv)(hx:x.iu)(hy:y.iu):ig 23 [ix x,ix y] (bP (pN x y)):=by
 obtain⟨v1,v2⟩:=hx.kn;obtain⟨v3,v4⟩:=hy.kn;exact ak call23 func23 (ae [.c (si x aE),.c (si y aE)]<|.w (y.all=true)
  (λk1=>ae [tB 14 k1]<|rQ (bP true) (bP (pN x y)) (by rw[GG];simp[k1]))
  (λk1=>ae [tB 14 (bh k1)]<|.w (x.all=true)
   (λk2=>ae [tB 17 k2]<|rQ (bP false) (bP (pN x y)) (by rw[GG];simp[k1,k2]))
   (λk2=>ae [tB 17 (bh k2),ag [im y.lo,im x.lo] (nK _ _ aE aE)]<|.w ((jA y.lo x.lo)<=0)
    (λk3=>ae [tB 25 (bq k3),ag [im x.hi,im y.hi] (nK _ _ aE aE)]<|rQ (bP (decide ((jA x.hi y.hi)<=0))) (bP (pN x y)) (by rw[GG];simp[k1,k2,k3]))
    (λk3=>ae [tB 25 (bt k3)]<|rQ (bP false) (bP (pN x y)) (by rw[GG];simp[k1,k2,k3]))))) 
def acB(k:Nat)(w:World)(h0:0<k)(hn:k<4294967296)(kA:Tb w):
 Calls prog 97 #[.int .i64 (-(k:Int))] w (tR w (canon true k 0)):=by
 have hd:(k:Int)/4294967296=0:= aD ;have iO:(-(k:Int))<0:= aD ;have Mw:decide ((-(k:Int))<0)=true:=bq iO;have hu:IntKind.u64.wrap (-(k:Int))=18446744073709551616-k:=by rw[IntKind.wrap_u64];omega
 have hs:IntKind.u64.wrap (-(18446744073709551616-(k:Int)))=k:=by rw[IntKind.wrap_u64];omega
 have HW:IntKind.u32.wrap (k:Int)=k:=by rw[IntKind.wrap_u32];omega
 have ht:(iy [k,0]).length<=256:=by have:=oF [k,0];unfold mn at this;simp at this;omega
 have HC:=anQ (λ(A:Option Addr) c w (h:Sl w A c [k,0]) (hT:Tb w)=>Hf true A c [k,0] 0 w h aJ ht aF aF hT);have hv:val [k,0]=k:= aJ ;rw[hv]at HC;clear hv ht;generalize canon true k 0=d at *
 generalize hN:(-(k:Int))=N at *
 go_enter func97,ntmps97;go_wp2_with fail;refine(HC.out _ _ _ (Sl.Kb _ _ aJ _ _ k 0 rfl rfl hn aF) (kA.below (by first|exact(iG.alloc _ _).trans (iG.alloc _ _)|exact iG.alloc _ _))).mono ?_;rintro r w1 ⟨A1,c1,rfl,qL,jt⟩;have jS:iG (w.alloc (.cells #[.bool false,.slice none 0 0,.int .i64 0] 28)) w1:=(iG.alloc _ _).trans jt;have bx:=(jq.new w false none 0 0 0).ext jS;have b0:=bx.c0;have b1:=bx.c1;have b2:=bx.c2;have f0:=bx.fr 0;have f1:=bx.fr 1;have f2:=bx.fr 2;go_wp2;exact sU rfl rfl rfl (bx.set _ _ _ _ _) rfl (bx.qi qL _ _ _ _ _) (jq.pW ((iG.alloc _ _).trans jS) (bp _) _ _ _ _ _)
def Cm(n:Int)(h:n.natAbs<4294967296):ig 97 [iP n] (im (jY n)):=by
 by_cases h0:0<=n
 .obtain ⟨k,rfl⟩:=dk h0;exact QF k aD 
 .obtain ⟨k,rfl⟩:∃ k:Nat,n = -(k:Int):=⟨n.natAbs,aD⟩
  rw[Vu k aD];refine⟨call97,λw B vs hK hB hr=>?_⟩;obtain⟨v1,vs,rfl,h1,hr⟩:=hr.my;obtain rfl:=hr.pH;obtain rfl:=iR.kN h1;exact(acB k w aD aD hK).mono λe w' h=>rd B w e w' hB h
def mo(a b:Nat):Nat->Nat×Nat
 | 0=>(a,b)
 |k+1=>((mo a b k).2,(mo a b k).1%(mo a b k).2)
def Lz(a b:Nat):∀ k,mo a b (k+1)=mo b (a%b) k
 | 0=>rfl
 |k+1=>by
  show((mo a b (k+1)).2,(mo a b (k+1)).1%(mo a b (k+1)).2)=_;rw[Lz a b k];rfl
def Ly(a b:Nat):∀ k,Nat.gcd (mo a b k).1 (mo a b k).2=Nat.gcd a b
 | 0=>rfl
 |k+1=>by
  show Nat.gcd (mo a b k).2 ((mo a b k).1%(mo a b k).2)=_;rw[<-Ly a b k];exact(fW _ _).trans ((Nat.gcd_rec _ _).symm.trans (fW _ _))
def SR:∀ (b a:Nat),∃ N,(∀ k,k<N->(mo a b k).2≠0)/\(mo a b N).2=0:=by
 intro b
 induction b using Nat.strongRecOn with
 |ind b ih=>
  intro a;by_cases h:b=0
  .exact ⟨0,λk hk=>absurd hk (bO k),h⟩
  .obtain ⟨N,h1,h2⟩:=ih (a%b) (bC a (eF h)) b;refine⟨N+1,λk hk=>?_,by rw[Lz];exact h2⟩;rcases k with _|k
   .exact h
   .rw [Lz];exact h1 k aD 
def lu(n d:Int)(p:Nat):Iv:=if jN n d then mU (ks (jY n) (jY d) p false) (mS (jY n) (jY d) p false) (ks (jY n) (jY d) p true) (mS (jY n) (jY d) p true)else il
def IZ{d:Int}(h:d≠0):(jY d).m≠0:=by
 intro q;have hq:=yc d;rw[pU,q]at hq;have e:(d:Rat)=0:=by
  rw[<-hq];split<;>simp
 rw[show(0:Rat)=((0:Int):Rat)from rfl,Rat.intCast_inj]at e;exact h e
def Hb{a b:Dy}(b0:b.m≠0){p:Nat}(hp:1<=p)(iq:p<=4096)(up:Bool):(ks a b p up).iu:=by
 unfold ks;split
 .exact qn
 .exact mD _ _ _ _ _ _ hp iq
def zk(n d:Int){p:Nat}(hp:1<=p)(iq:p<=4096):(lu n d p).iu:=by
 unfold lu;split
 .rename_i h;obtain⟨r1,_⟩:=pn h;have d0:(jY d).m≠0:=IZ aD;unfold mU;split
  .exact mA
  .rename_i he;obtain⟨A,B⟩:=G9 (a:=jY n) d0 hp iq;refine .inr ⟨rfl,Hb d0 hp iq _,Hb d0 hp iq _,?_⟩;rw[qx];exact bX (A.1 aD).2 (B.1 aD).2
 .exact mA
def VV{n k:Nat}(h1:4294967296^k<=n)(h2:n<4294967296^(k+1)):(ij n).length=k+1:=by
 have a:=q9 h2;have b:¬(ij n).length<=k:=λq=>absurd (uB q) aD 
 omega
def BG(v:Nat):v<4294967296^(ij v).length:=uB (bp _)
def Fk{v l:Nat}(h:(ij v).length=l):iY v l=ij v:=h▸Ld v
def Am(v k:Nat):(ij v).getD k 0=iH v k:=by rw[px (kS v),jR]
def ab0{v:Nat}(h:mj v 0 (ij v).length=0):iY (2*v) (ij v).length=ij (2*v):=by
 have h1:=BG v;unfold mj at h;rw[bQ h1,bK]at h;have h2:2*v<4294967296^(ij v).length:=by
  rcases eE (2*v) (4294967296^(ij v).length)with q|q
  .exact q
  .have:=gJ q (pw _);omega
 have a:=q9 h2;have b:=vG (aD:v<=2*v);exact Fk aD 
def ab1{v:Nat}(h:mj v 0 (ij v).length≠0):iY (2*v) ((ij v).length+1)=ij (2*v)/\iH (2*v) (ij v).length=mj v 0 (ij v).length:=by
 have h1:=BG v;have e:=(G6 (r:=v) (b:=0) aF (ij v).length)
 have h0:iH v (ij v).length=0:=uW h1 (bp _);refine⟨Fk (VV ?_ ?_),by have:=e.1;rw[bK,h0]at this;simpa using this⟩
 .unfold mj at h;rw[bQ h1,bK]at h;exact fT λq=>h (cA q)
 .rw [bG];omega
def akH{v:Nat}(h0:v≠0)(he:v%2=0):(ij v).set 0 (iH v 0+1)=ij (v+1):=by
 rw[yZ h0,yZ (aD:v+1≠0),anc];unfold iH;rw[ca,dL,show(v+1)%4294967296=v%4294967296+1 by omega,show(v+1)/4294967296=v/4294967296 by omega]
def ah8(a:Nat)(h:a<4294967296)(he:a%2=0):bits .or .u32 (a:Int) 1=((a+1:Nat):Int):=by
 have:=Ju (a/2) 1 aF;rwa[(aD:2*(a/2)%4294967296=a)]at this
def IY{v N:Nat}(jk:∀ k,k<N->iH v k=4294967295):∀ k,k<=N->iH 1 k+jK v 1 k=1
 | 0,_=>by rw[GS];decide
 |k+1,h=>by
  have a:=yw v 1 k;have b:=IY jk k aD;have c:=jk k aD;have d:=pt (v+1) k;have e:=th v 1 (k+1);have f:iH 1 (k+1)=0:=uW (k:=1) aF aD;omega
def Vs{v N:Nat}(jk:∀ k,k<N->iH v k=4294967295){k:Nat}(h:k<N):iH (v+1) k=0:=by
 have a:=yw v 1 k;have b:=IY jk k aD;have c:=jk k h;have d:=pt (v+1) k;have e:=th v 1 (k+1);omega
def afF{v N:Nat}(jk:∀ k,k<N->iH v k=4294967295)(hd:iH v N≠4294967295):iH (v+1) N=iH v N+1/\jK v 1 (N+1)=0:=by
 have a:=yw v 1 N;have b:=IY jk N (bp _);have c:=pt v N;have d:=pt (v+1) N;have e:=th v 1 (N+1);omega
def Vr{v N:Nat}(hc:jK v 1 (N+1)=0):∀ j,jK v 1 (N+1+j)=0/\iH (v+1) (N+1+j)=iH v (N+1+j)
 | 0=>by
  have a:=yw v 1 (N+1);have f:iH 1 (N+1)=0:=uW (k:=1) aF aD;have c:=pt v (N+1);have e:=th v 1 (N+1+1);have d:=pt (v+1) (N+1);rw[bK];omega
 |j+1=>by
  obtain⟨h1,h2⟩:=Vr hc j;have a:=yw v 1 (N+1+j);have f:iH 1 (N+1+j)=0:=uW (k:=1) aF aD;have h3:jK v 1 (N+1+(j+1))=0:=by
   rw[(aD:N+1+(j+1)=N+1+j+1)];have d:=pt (v+1) (N+1+j);omega
  have a:=yw v 1 (N+1+(j+1));have f:iH 1 (N+1+(j+1))=0:=uW (k:=1) aF aD;have c:=pt v (N+1+(j+1));have d:=pt (v+1) (N+1+(j+1));have e:=th v 1 (N+1+(j+1)+1);omega
def ahD{v N:Nat}(hN:N<(ij v).length)(jk:∀ k,k<N->iH v k=4294967295)(hd:iH v N≠4294967295):(kP 0 v N (ij v).length).set N (iH v N+1)=ij (v+1):=by
 obtain⟨h1,h2⟩:=afF jk hd;have ht:=BG v;have iO:v+1<4294967296^(ij v).length:=by
  rcases eE (v+1) (4294967296^(ij v).length)with q|q
  .exact q
  .exfalso;have e:v+1=4294967296^(ij v).length:= aD ;have h3:iH (v+1) N=0:=by
    rw[e];unfold iH;obtain⟨j,hj⟩:∃ j,(ij v).length=N+(j+1):=⟨(ij v).length-N-1,aD⟩
    rw[hj,bw,Nat.mul_div_cancel_left _ (pw N),bG,fC]
   omega
 have hl:(ij (v+1)).length=(ij v).length:=Nat.le_antisymm (q9 iO) (vG (Nat.le_succ v));rw[<-Fk hl];unfold kP iY;apply dU aJ;intro i i1 i2;have i3:i<(ij v).length:=by simpa using i2
 rw[anr,dV,dV,ey];by_cases hi:N=i
 .subst hi;rw[bn rfl,h1]
 .rw [bl hi];by_cases uc:i<N
  .rw [bn uc,Ba,Vs jk uc]
  .rw [bl uc];have:=(Vr h2 (i-(N+1))).2;rw[(aD:N+1+(i-(N+1))=i)]at this;exact this.symm
def ahB{v:Nat}(jk:∀ k,k<(ij v).length->iH v k=4294967295):iY (v+1) (ij v).length=iY 0 (ij v).length/\iH (v+1) (ij v).length=1/\iY (v+1) ((ij v).length+1)=ij (v+1):=by
 have e:iY (v+1) (ij v).length=iY 0 (ij v).length:=by
  unfold iY;apply ev;intro k hk;rw[Vs jk (cz.1 hk),Ba]
 have ht:=BG v;have hv:=xl (v+1) (ij v).length;rw[e,xl,Nat.zero_mod]at hv;have qW:4294967296^(ij v).length<=v+1:=fT λq=>by rw[bQ q]at hv;omega
 refine⟨e,?_,Fk (VV qW (by rw[bG];have:=pw (ij v).length;omega))⟩;have a:=yw v 1 (ij v).length;have b:=IY jk _ (bp _);have c:iH v (ij v).length=0:=uW ht (bp _);have d:=pt (v+1) (ij v).length;have f:=th v 1 ((ij v).length+1);omega
def Zn{v l:Nat}(hl:(ij v).length=l+1):iH v l≠0/\iA v=32*l+iA (iH v l):=by
 have h1:=BG v;rw[hl]at h1;have h2:4294967296^l<=v:=fT λq=>by have:=q9 q;omega
 have h3:iH v l≠0:=by
  unfold iH;have a:=gJ h2 (pw l);have b:v/4294967296^l<4294967296:=by rw[cr (pw l),bE,<-bG];exact h1
  rw[bQ b];omega
 exact⟨h3,QX h1 h3⟩
def aa3{v l:Nat}(_:(ij v).length=l+1):iA (iH v l)<=32:=kV.2 (pt v l)
def aaS{t x:Nat}(h:x<32-iA t):t/2^(31-x)%2=0:=by
 have h1:=pE t;have h2:=bI (show 0<2 by decide) (aD:iA t<=31-x);rw[cA aD]
def aaU{t x:Nat}(h0:t≠0)(h:x=32-iA t)(hb:iA t<=32):t/2^(31-x)%2=1:=by
 have h1:=pE t;have h2:=rk h0;have h3:=nj h0;have e:31-x=iA t-1:= aD ;rw[e];have h4:2^iA t=2*2^(iA t-1):=by
  obtain⟨k,hk⟩:∃ k,iA t=k+1:=⟨iA t-1,aD⟩
  rw[hk,eD,bG,bE]
 have h5:t/2^(iA t-1)<2:=by rw[cr (bA aF)];omega
 have h6:=gJ h2 (bA (n:=iA t-1) (show 0<2 by decide));omega
def QV{v i:Nat}:iH v (i/32)/2^(i%32)%2=v/2^i%2:=by
 by_cases h:i/32<(ij v).length
 .have:=KL (kS v) i h;rw[jR]at this;rw[this,<-Am,bu,bD h];rfl
 .have h1:=BG v;have h2:=bI (show 0<4294967296 by decide) (fT h);have h3:v<4294967296^(i/32):= aD ;rw[uW h3 (bp _),fO];have h4:4294967296^(i/32)<=2^i:=by rw[nF];exact bI aF aD 
  rw[cA aD]
def aaT{v i:Nat}(h:32*(ij v).length<=i):v/2^i%2=0:=by
 have h1:=BG v;rw[nF]at h1;have h2:=bI (show 0<2 by decide) h;rw[cA aD]
def I7(w k:Nat):w%2^(k+1)=w%2^k+w/2^k%2*2^k:=by
 rw[bG,gy,bE (2^k)]
def On{w k:Nat}(hk:k<32)(hw:w<4294967296):bits .or .u32 ((w%2^k:Nat):Int) ((w/2^k%2*2^k:Nat):Int)=((w%2^(k+1):Nat):Int):=by
 have a:=bC w (bA (n:=k) (show 0<2 by decide));have b:=bC (w/2^k) (show 0<2 by decide);have c:=I7 w k;have d:=gI w (2^(k+1));have e:=gI w (2^k);rw[Gg _ _ aD aD,Au _ _ _ a,c]
def Pj{b k:Nat}(hk:k<32)(hb:b<=1):IntKind.u32.wrap ((b:Int)*2^k)=((b*2^k:Nat):Int):=by
 have h1:b*2^k<=1*2^31:=dA hb (bI aF aD);rw[IntKind.wrap_u32];have e:((b:Int)*2^k)=((b*2^k:Nat):Int):=by
  rw[dT,Int.natCast_pow];rfl
 rw[e];omega
def RP{w y k:Nat}(hk:k<32):iH w y/2^k%2=w/2^(32*y+k)%2:=by
 have:=QV (v:=w) (i:=32*y+k);rwa[show(32*y+k)/32=y by omega,show(32*y+k)%32=k by omega]at this
def Fj{w y:Nat}:y<(ij w).length↔32*y<iA w:=by
 constructor
 .intro h;obtain⟨l,hl⟩:∃ l,(ij w).length=l+1:=⟨(ij w).length-1,aD⟩
  obtain⟨a,b⟩:=Zn hl;have:=nj a;omega
 .intro h;apply amR;intro q;have h1:=uB q;rw[nF]at h1;have:=kV.2 h1;omega
def QY{v s:Nat}(h:s<=iA v):iA (v/2^s)=iA v-s:=by
 by_cases h0:v/2^s=0
 .rw [h0,sx];have h1:v<2^s:=by
   rcases eE v (2^s)with q|q
   .exact q
   .have:=gJ q (bA aF);omega
  have:=kV.2 h1;omega
 .have h2:v≠0:=λq=>h0 (by rw[q,fO])
  have a:=pE v;have b:=rk h2;have hs:s<iA v:=by
   rcases eE s (iA v)with q|q
   .exact q
   .exfalso;apply h0;apply cA;exact bT a (bI aF q)
  obtain⟨k,hk⟩:∃ k,iA v=s+(k+1):=⟨iA v-s-1,aD⟩
  rw[hk]at a b;rw[hk,Nat.add_sub_cancel_left];refine uT ?_ ?_
  .rw [dB (bA aF),<-bw];rw[(aD:s+(k+1)-1=k+s)]at b;exact b
  .rw [cr (bA aF),<-bw,eR (k+1)];exact a
def abV{v:Nat}(h:v≠0):kr v<iA v:=by
 have:=FT h;exact wX.2 this
end Go.Proofs.YtbhhompalmdaiaaGreatDoor
