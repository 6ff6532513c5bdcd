/-
  A part of the proof. Conditions are with the theorems.
-/
import Derived.Test.YtedmdgbmdplifaaGreatXBa
import Derived.Test.YtedmdgbmdplifaaGreatXBb
import Derived.Test.YtedmdgbmdplifaaGreatXBc
import Derived.Test.YtedmdgbmdplifaaGreatXBd
import Derived.Test.YtedmdgbmdplifaaGreatXBe
import Derived.Test.YtedmdgbmdplifaaGreatXBf
set_option maxHeartbeats 32000000
set_option maxRecDepth 100000
set_option linter.unusedSimpArgs false
set_option linter.unusedVariables false
namespace Go.Proofs.YtedmdgbmdplifaaGreat
open Go.RowKit Tryz
section
variable{code:List Qi}{fs:List Tf}{S:Ba→Int}
structure HA(code:List Qi)(fs:List Tf)(S:Ba→Int)(g:Nat):Prop where
 x:∀g'<g,HX code fs S g'
 k:∀g'<g,HK code fs S g'
 c:∀g'<g,HC code fs S g'
theorem XO.vx{N:List Ba}{t:Tx}(h:XO fs N t):VX fs t:=Ir t h.g h.r h.e
theorem XO.vxs{N:List Ba}:∀{l:List Tx},(∀u∈l,XO fs N u)→LM fs l
 | [],_=>trivial
 | t::r,h=>⟨(h t (by simp)).vx,XO.vxs fun u hu=>h u (by simp [hu])⟩
theorem Ho{g:Nat}(hF:VF fs)(ih:HA code fs S g):HK code fs S g:=by
 intro d vs acc l s r h o N p F sp c hx hc hl hpc hp hsp;have hd:=ua hp.d1.2;cases l with
 | nil=>
  rw [yY h];refine⟨hp.fu,[],by simp,rfl,Go.done (by omega) ⟨by rw [hpc];rfl,?_,hp.sm,fun _ _=>rfl,fun i x hi=>by simp at hi⟩⟩;rw [show sp-4*(([]:List Tx).length:Int)=sp by simp];exact hp.st
 | cons t l=>
  obtain⟨g',rx,hg,hx1,hr⟩:=w3 h;have hdx:gC (t::l)=max (dX t) (gC l):=J;have hw:ta (t::l)=wX t+(2+ta l):=J;have hc':cAt code p (zX o S t p++(fX 1++xX o S l (p+(zX o S t p).length+2))):=hc;obtain⟨hca,hc2⟩:=hc'.app;obtain⟨hcp,hcl⟩:=hc2.app;rw [g_]at hcp hcl;rw [bR]at hsp;have hX:=ih.x g' hg d vs t s rx hx1 o N p F sp c (hx t (by simp)) hca (by omega) hpc hp (by omega);rcases hr with⟨v,s1,rfl,h2⟩|⟨e,rfl,rfl⟩
  ·obtain⟨hv,hk1⟩:=(lp hF g').x d vs t s v s1 (hx t (by simp)).vx hp.vs hp.ok hx1;obtain⟨hf1,hX⟩:=hX;have mid:∀c',(c'.pc=p+wX t∧c'.r 1=v∧St d F sp c'∧pSm c' s1∧∀x,sp≤x→c'.m x=c.m x)→Go code 2 c' fun c2=>c2.pc=p+wX t+2∧Pr o N vs d F (sp-4) s1 c2∧c2.m (sp-4)=v∧∀x,sp≤x→c2.m x=c.m x:=fun c' ⟨e1,e2,e3,e4,e5⟩=>
    (mf hcp e1 e3 (by decide) ⟨by omega,hp.al.2,hp.al.1⟩).weak (fun c2 ⟨f1,f2,f3,f4,f5,f6⟩=>by
     have hm:∀x,sp≤x→c2.m x=c.m x:=fun x hx=>by rw [f3,ku (by omega)];exact e5 x hx
     exact⟨f1,hp.of f2 (e4.push f3 f4 f5 (by omega)) hk1.ok hf1 hm (by omega) (by have:=hp.al;omega),by rw [f3,p_,e2],hm⟩) (Int.le_refl _)
   have hX2:=hX.seq mid (k:=100*(s.fuel-s1.fuel)-38) (by omega);have next:∀c2,(c2.pc=p+wX t+2∧Pr o N vs d F (sp-4) s1 c2∧c2.m (sp-4)=v∧∀x,sp≤x→c2.m x=c.m x)→KR code (p+wX t+2+ta l) d F (sp-4) c2 s1 (acc++ [v]) l.length r:=fun c2 ⟨e1,e2,e3,e4⟩=>
    ih.k g' hg d vs (acc++ [v]) l s1 r h2 o N (p+wX t+2) F (sp-4) c2 (fun u hu=>hx u (by simp [hu])) hcl (by omega) e1 e2 (by omega)
   cases r with
   | err e=>
    intro he;exact hX2.seq (fun c2 hc2=>next c2 hc2 he) (by omega)
   | ok ks s2=>
    obtain⟨_,c2,_,hrn,hP⟩:=id hX2;obtain⟨hf2,new,hn1,hn2,-⟩:=next c2 hP
    refine⟨hf2,v::new,by rw [hn1,List.append_assoc];rfl,by rw [bR,hn2,bR],hX2.seq (m:=100*(s1.fuel-s2.fuel)) (fun c2 hP=> ?_) (by omega)⟩;obtain⟨-,new',hm1,hm2,hG⟩:=next c2 hP
    have:new'=new:=List.append_cancel_left (hm1.symm.trans hn1);subst this;obtain⟨e1,e2,e3,e4⟩:=hP;refine hG.weak (fun c3 ⟨f1,f2,f3,f4,f5⟩=>⟨by rw [f1,hw];omega,?_,f3,fun a ha=>by rw [f4 a (by omega),e4 a ha],fun i x hi=> ?_⟩) (Int.le_refl _)
    ·rw [show sp-4*((t::l).length:Int)=sp-4-4*(l.length:Int) by rw [bR];omega];exact f2
    ·cases i with
     | zero=>
      cases hi;rw [show sp-4*(((0:Nat):Int)+1)=sp-4 by omega,f4 _ (Int.le_refl _),e3]
     | succ i=>
      have:=f5 i x hi;rw [show sp-4*(((i+1:Nat):Int)+1)=sp-4-4*((i:Int)+1) by omega];exact this
  ·exact hX
theorem Ks{N:List Ba}{k n:Int}{nm:Ba}{v:SV}{kids:List Tx}(h:XO fs N (.mk k n nm v kids)):qK k nm kids.length=true:=by
 have hr2:(qK k nm kids.length&&(decide (k=1) || decide (n=0))&&qH kids)=true:=h.r;simp only [Bool.and_eq_true]at hr2;exact hr2.1.1
theorem Hc{N:List Ba}{n:Int}{nm:Ba}{v:SV}{kids:List Tx}(h:XO fs N (.mk 2 n nm v kids)):nm∈N:=by
 have he:=h.e;have he2:(if cD nm N=true then(0:Int)else 21)=0:=(bF.1 he).1;by_cases hm:cD nm N=true
 ·unfold cD at hm;obtain⟨q,h1,h2⟩:=List.any_eq_true.1 hm;have h2:nm=q:=by simpa using h2
  exact h2▸h1
 ·rw [ai hm]at he2;exact absurd he2 (by decide)
theorem CJ{N:List Ba}{n:Int}{nm:Ba}{v:SV}{kids:List Tx}(h:XO fs N (.mk 3 n nm v kids)):∃f,dc fs nm=some f∧f.ps.length=kids.length:=by
 have he:=h.e;have he2:(match dc fs nm with|none=>(21:Int)|some f=>if f.ps.length=kids.length then 0 else 23)=0:=(bF.1 he).1;cases hf:dc fs nm with
 | none=>
  rw [hf]at he2;have he3:(21:Int)=0:=he2;exact absurd he3 (by decide)
 | some f=>
  rw [hf]at he2;refine⟨f,J,?_⟩;by_cases hq:f.ps.length=kids.length
  ·exact hq
  ·dsimp only at he2;rw [ai hq]at he2;exact absurd he2 (by decide)
theorem sy{fs:List Tf}{x:Ba}{f:Tf}(h:dc fs x=some f):f.name=x:=by
 have:=List.find?_some h;simpa using this
structure CP(code:List Qi)(fs:List Tf)(S:Ba→Int):Prop where
 pos:∀x f,dc fs x=some f→∃p:Nat,S x=(p:Int)∧p<3000
 ps:∀x f,dc fs x=some f→f.ps.length≤4
theorem Hl{g:Nat}(hF:VF fs)(hC:CP code fs S)(ih:HA code fs S g):HX code fs S g:=by
 intro d vs t s r h o N p F sp c hx hc hl hpc hp hsp;have hd:=ua hp.d1.2;cases g with
 | zero=>simp [kS]at h
 | succ g=>
  rw [kS]at h;by_cases hf:s.fuel≤0
  ·rw [aw hf]at h;cases h;intro e;exact absurd e (by decide)
  rw [ai hf]at h;have hp':=hp.pay hf;obtain⟨k,n,nm,v,kids⟩:=t;have hok:=Ks hx;have hdx:dX (.mk k n nm v kids)=gC kids+1:=J;rw [hdx]at hsp;obtain⟨s',hs'⟩:∃s',s'={s with fuel:=s.fuel-1}:=⟨_,J⟩
  have hsf:s'.fuel=s.fuel-1:=by rw [hs']
  rw [←hs']at h hp';dsimp only [Tx.kids,Tx.kind,Tx.n,Tx.name]at h;have back:∀{r:Re Int}{p':Nat},XR code p' d F sp c s' r→XR code p' d F sp c s r:=fun{r p'} h=>by
   cases r with
   | ok v s1=>exact⟨h.1,h.2.weak (fun _ h=>h) (by omega)⟩
   | err e=>exact fun he=>(h he).weak (fun _ h=>h) (by omega)
  rcases tX hok with⟨rfl,hn⟩|⟨rfl,hn⟩|⟨rfl,hn⟩|rfl|⟨rfl,hn⟩|⟨rfl,hu,hn⟩|⟨rfl,hb,hn⟩
  · -- a number
   have:kids= []:=List.length_eq_zero_iff.1 hn;subst this;cases hk:ly g fs d vs [] [] s' with
   | none=>rw [hk]at h;simp at h
   | some q=>
    rw [hk]at h;have:=yY hk;subst this;cases h;have hc':cAt code p (qn n):=hc;refine⟨hp'.fu,(Kw hc' hpc hp.st.z hx.g.1).weak (fun c' ⟨e1,e2,e3⟩=>⟨e1,e2,hp.st.kr e3 (by decide),hp'.sm.kr e3,fun a _=>by rw [e3.m]⟩) (by omega)⟩
  · -- an input
   have:kids= []:=List.length_eq_zero_iff.1 hn;subst this;cases hk:ly g fs d vs [] [] s' with
   | none=>rw [hk]at h;simp at h
   | some q=>
    rw [hk]at h;have:=yY hk;subst this;have hc':cAt code p [⟨48,0,0,0,2⟩]:=hc;have hgo:∀{v1:Int}{s1:Ms},s1.fuel=s'.fuel→s1.out=s'.out→s1.mem=s'.mem→c.inp.headD 0=v1→c.inp.tail=s1.inp→XR code (p+1) d F sp c s (.ok v1 s1):=fun{v1 s1} e1 e2 e3 e4 e5=>by
     refine⟨by rw [e1];exact hp'.fu,Nb (by rw [hpc];exact hc'.head.1) (Go.done (by omega) ⟨by rw [hpc],by show rp c.r 1 (c.inp.headD 0) 1=v1;rw [ep (by decide),e4],hp.st.of fun k hk=>cI (by omega),⟨fun i hi=>by rw [e3];exact hp'.sm.m i hi,e5,by rw [e2];exact hp'.sm.o⟩,fun _ _=>rfl⟩)⟩
    have hin:=hp'.sm.i;cases hi:s'.inp with
    | nil=>
     rw [hi]at hin;simp only [hi]at h;cases h;exact hgo J J J (by rw [hin];rfl) (by rw [hin,hi];rfl)
    | cons a r1=>
     rw [hi]at hin;simp only [hi]at h;cases h;exact hgo J J J (by rw [hin];rfl) (by rw [hin];rfl)
  · -- a name
   have:kids= []:=List.length_eq_zero_iff.1 hn;subst this;cases hk:ly g fs d vs [] [] s' with
   | none=>rw [hk]at h;simp at h
   | some q=>
    rw [hk]at h;have:=yY hk;subst this;cases h;have hc':cAt code p [qi 23 1 13 (bO o nm)]:=hc;have hN:=Hc hx;have hva:wU (c.r 13+bO o nm)=va o F nm:=by rw [hp.st.f];rfl
    refine⟨hp'.fu,y9 (d:=1) (a:=13) (x:=bO o nm) (by rw [hpc];exact hc'.head.1) (by rw [hva];exact(hp.fs.ok nm hN).1) (Go.done (by omega) ⟨by rw [hpc];rfl,?_,hp.st.of fun k hk=>cI (by omega),⟨hp'.sm.m,hp'.sm.i,hp'.sm.o⟩,fun _ _=>rfl⟩)⟩;rw [hva];show rp c.r 1 (c.m (va o F nm)) 1=_;rw [ep (by decide)];exact hp.fr nm hN
  · -- a call
   obtain⟨f,hff,hfl⟩:=CJ hx;have hc':cAt code p (xX o S kids p++([qi 40 15 0 (wU (S nm-((p+(xX o S kids p).length:Nat):Int)))]++if kids.length>0 then [qi 16 14 14 (4*kids.length)]else [])):=hc;have hw:wX (.mk 3 n nm v kids)=ta kids+(1+if kids.length>0 then 1 else 0):=J;rw [hw]at hl ⊢;obtain⟨hck,hc2⟩:=hc'.app;obtain⟨hcj,hca⟩:=hc2.app;rw [qx]at hcj hca;have h4:=hC.ps nm f hff;cases hk:ly g fs d vs [] kids s' with
   | none=>rw [hk]at h;simp at h
   | some q=>
    rw [hk]at h;have hK:=ih.k g (Nat.lt_succ_self g) d vs [] kids s' q hk o N p F sp c hx.kids hck (by omega) hpc hp' (by omega);cases q with
    | err e=>
     cases h;exact fun he=>(hK he).weak (fun _ h=>h) (by omega)
    | ok ks s1=>
     obtain⟨hk1,hk2,hk3⟩:=(lp hF g).k d vs [] kids s' ks s1 (XO.vxs hx.kids) hp'.vs hp'.ok (by simp) hk;obtain⟨hf1,new,hn1,hn2,hK⟩:=hK;rw [List.nil_append]at hn1;subst hn1;dsimp only at h;have h:(match dc fs nm with|none=>none|some f=>tF g fs d f ks s1)=some r:=h;rw [hff]at h;have h:tF g fs d f ks s1=some r:=h;obtain⟨pf,hpf,hpf2⟩:=hC.pos nm f hff;have hfn:=sy hff;obtain⟨q,hq⟩:∃q,q=p+ta kids+1:=⟨_,J⟩
     have mid:∀c',(c'.pc=p+ta kids∧St d F (sp-4*(kids.length:Int)) c'∧pSm c' s1∧(∀a,sp≤a→c'.m a=c.m a)∧∀(i:Nat) x,ks[i]?=some x→c'.m (sp-4*((i:Int)+1))=x)→
       Go code 1 c' fun c2=>CR code q d F (sp-4*(kids.length:Int)) kids.length c2 s1 r∧∀a,sp≤a→c2.m a=c.m a:=fun c' ⟨e1,e2,e3,e4,e5⟩=>by
      refine r5 (d:=15) (a:=0) (x:=wU (S nm-((p+ta kids:Nat):Int))) (by rw [e1];exact hcj.head.1) (Go.done (by decide) ⟨?_,e4⟩);rw [e1,mT (q:=pf) (by rw [hpf]) (by omega) (by omega)];have hR:=ih.c g (Nat.lt_succ_self g) d f ks s1 r h F (sp-4*(kids.length:Int)) ⟨pf,rp c'.r 15 (ja (p+ta kids+1)),c'.m,c'.inp,c'.out⟩ q (by rw [hfn];exact hff) (by rw [hn2,hfl]) hk1 ?_ ?_ (by omega) ?_ ⟨e3.m,e3.i,e3.o⟩ hk3.ok hf1 (by have:=hp.al;omega) (by have:=hp.al;omega) (by omega) hp.d1.2 (fun i x hi=> ?_)
      ·rw [hn2]at hR;exact hR
      ·show pf=_;rw [hfn,hpf];rfl
      ·show rp c'.r 15 (ja (p+ta kids+1)) 15=_;rw [ep (by decide),hq]
      ·exact e2.of fun k hk=>by
        show rp c'.r 15 _ k=_;exact cI (by omega)
      ·have:=e5 i x hi;show c'.m _=x;rw [←this]
       congr 1
       omega
     have hM:=hK.seq mid (k:=100*(s'.fuel-s1.fuel)+1) (by omega);have pops:∀{v1:Int}{s2:Ms}(c3:Qs),c3.pc=q→c3.r 1=v1→St d F (sp-4*(kids.length:Int)) c3→pSm c3 s2→Go code 1 c3 fun c4=>c4.pc=p+(ta kids+(1+if kids.length>0 then 1 else 0))∧c4.r 1=v1∧St d F sp c4∧pSm c4 s2∧c4.m=c3.m:=fun{v1 s2} c3 f1 f2 f3 f4=>by
      by_cases hz:kids.length>0
      ·rw [aw hz]at hca ⊢;refine jY (f1.trans hq) hca.head.1 (v:=sp) (by
        show some (wU (c3.r 14+4*(kids.length:Int)))=_;rw [f3.s,gG ⟨by omega,by have:=hp.al;omega⟩];exact congrArg some (by omega)) fun c4 e1 e2 e3 e4 e5=>Go.done (by decide) ⟨by rw [e1];omega,by rw [e2,cI (by decide)];exact f2,⟨?_,?_,?_,by rw [e2];exact ep (by decide)⟩,⟨fun i hi=>by rw [e3];exact f4.m i hi,e4.trans f4.i,e5.trans f4.o⟩,e3⟩
       ·rw [e2,cI (by decide)];exact f3.z
       ·rw [e2,cI (by decide)];exact f3.d
       ·rw [e2,cI (by decide)];exact f3.f
      ·rw [ai hz];have:(kids.length:Int)=0:=by omega
       rw [this,show sp-4*0=sp by omega]at f3;exact Go.done (by decide) ⟨by rw [f1,hq];omega,f2,f3,f4,rfl⟩
     cases r with
     | err e=>exact fun he=>hM.seq (fun c2 ⟨hR,_⟩=>hR he) (by omega)
     | ok v2 s2=>
      have hf2:0≤s2.fuel:=by
       obtain⟨_,c2,_,_,hR,_⟩:=hM;exact hR.1
      refine⟨hf2,hM.seq (m:=100*(s1.fuel-s2.fuel)+46) (fun c2 ⟨hR,hm⟩=>hR.2.seq (m:=1) (fun c3 ⟨f1,f2,f3,f4,f5⟩=>(pops c3 f1 f2 f3 f4).weak (fun c4 ⟨k1,k2,k3,k4,k5⟩=>⟨k1,k2,k3,k4,fun a ha=> ?_⟩) (Int.le_refl _)) (by omega)) (by omega)⟩;rw [k5,f5 a (by omega),hm a ha]
  · -- an element of mem
   obtain⟨a,rfl⟩:=List.length_eq_one_iff.1 hn;cases hk:ly g fs d vs [] [a] s' with
   | none=>rw [hk]at h;simp at h
   | some q=>
    rw [hk]at h;obtain⟨g',rx,hg,hx1,hr⟩:=w3 hk;have hxa:=hx.kids a (by simp);have hc':cAt code p (zX o S a p++(tM 1++ [qi 23 1 1 8192])):=hc;have hw:wX (.mk 4 n nm v [a])=wX a+3:=J;rw [hw]at hl ⊢;obtain⟨hca,hc2⟩:=hc'.app;obtain⟨hce,hcl⟩:=hc2.app;rw [g_]at hce hcl;have hda:gC [a]=max (dX a) 0:=J;have hX:=ih.x g' (by omega) d vs a s' rx hx1 o N p F sp c hxa hca (by omega) hpc hp' (by omega);rcases hr with⟨x,s1,rfl,h2⟩|⟨e,rfl,rfl⟩
    ·have:=yY h2;subst this;obtain⟨hv,hk1⟩:=(lp hF g').x d vs a s' x s1 hxa.vx hp'.vs hp'.ok hx1;cases h;refine⟨hX.1,hX.2.seq (m:=3) (fun c1 ⟨e1,e2,e3,e4,e5⟩=> ?_) (by omega)⟩;refine(Bl (r:=1) hce e1 (by decide) e2 hv).seq (m:=1) (fun c2 ⟨f1,f2,f3⟩=> ?_) (by decide);have hw:wU (c2.r 1+8192)=8192+4*(((x%256).toNat:Nat):Int):=by rw [f2,gG (by omega)];omega
     refine y9 (d:=1) (a:=1) (x:=8192) (by rw [f1];exact hcl.head.1) (by rw [hw];exact⟨by omega,by omega,by omega⟩) (Go.done (by decide) ⟨by show c2.pc+1=_;rw [f1];omega,?_,(e3.kr f3 (by decide)).of fun k hk=>cI (by omega),?_,fun a ha=>by rw [f3.m];exact e5 a ha⟩)
     ·rw [hw];show rp c2.r 1 (c2.m (8192+4*(((x%256).toNat:Nat):Int))) 1=_;rw [ep (by decide),f3.m,e4.m _ (by omega)];rfl
     ·have:=e4.kr f3;exact⟨this.m,this.i,this.o⟩
    ·cases h;exact back hX
  · -- a unary operator
   obtain⟨a,rfl⟩:=List.length_eq_one_iff.1 hn;cases hk:ly g fs d vs [] [a] s' with
   | none=>rw [hk]at h;simp at h
   | some q=>
    rw [hk]at h;obtain⟨g',rx,hg,hx1,hr⟩:=w3 hk;have hxa:=hx.kids a (by simp);have hc':cAt code p (zX o S a p++CN nm):=hc;have hw:wX (.mk 6 n nm v [a])=wX a+(CN nm).length:=J;rw [hw]at hl ⊢;obtain⟨hca,hcu⟩:=hc'.app;rw [g_]at hcu;have hda:gC [a]=max (dX a) 0:=J;have hX:=ih.x g' (by omega) d vs a s' rx hx1 o N p F sp c hxa hca (by omega) hpc hp' (by omega);rcases hr with⟨x,s1,rfl,h2⟩|⟨e,rfl,rfl⟩
    ·have:=yY h2;subst this;obtain⟨hv,hk1⟩:=(lp hF g').x d vs a s' x s1 hxa.vx hp'.vs hp'.ok hx1;cases h;refine⟨hX.1,hX.2.seq (m:=2) (fun c1 ⟨e1,e2,e3,e4,e5⟩=> ?_) (by omega)⟩;exact(Ml hu hcu e1 e3.z e2 hv).weak (fun c2 ⟨f1,f2,f3⟩=>⟨by rw [f1];omega,f2,e3.kr f3 (by decide),e4.kr f3,fun a ha=>by rw [f3.m];exact e5 a ha⟩) (Int.le_refl _)
    ·cases h;exact back hX
  · -- a binary operator
   obtain⟨a,b,rfl⟩:∃a b,kids= [a,b]:=⟨_,_,List.eq_getElem_of_length_eq_two kids hn⟩
   cases hk:ly g fs d vs [] [a,b] s' with
   | none=>rw [hk]at h;simp at h
   | some q=>
    rw [hk]at h;obtain⟨g',rx,hg,hx1,hr⟩:=w3 hk;have hxa:=hx.kids a (by simp);have hxb:=hx.kids b (by simp);have hda:gC [a,b]=max (dX a) (max (dX b) 0):=J;have hw:wX (.mk 7 n nm v [a,b])=wX a+(wX b+(4+(BI nm).length)):=J;rcases hr with⟨x,s1,rfl,h2⟩|⟨e,rfl,rfl⟩
    ·obtain⟨g'',ry,hg2,hx2,hr2⟩:=w3 h2;refine back (Ip (r:=r) hF (ih.x g' (by omega)) (ih.x g'' (by omega)) hb hx1 hxa.vx hxb.vx hxa hxb hc hw hl hpc hp' (by omega) (by omega) (.inl ⟨x,s1,J,ry,hx2,?_⟩));rcases hr2 with⟨y,s2,rfl,h3⟩|⟨e,rfl,rfl⟩
     ·have:=yY h3;subst this;cases h;exact .inl ⟨y,s2,J,J⟩
     ·cases h;exact .inr ⟨e,J,J⟩
    ·cases h;exact back (Ip (r:= .err e) hF (ih.x g' (by omega)) (ih.x g' (by omega)) hb hx1 hxa.vx hxb.vx hxa hxb hc hw hl hpc hp' (by omega) (by omega) (.inr ⟨e,J,J⟩))
end
mutual
def SO(fs:List Tf)(N:List Ba):Ty→Prop
 | .mk k nm _ es _ body _ els=>Ay k nm es.length body.length els.length=true∧(∀u∈es,XO fs N u∧dX u≤8)∧(k=1∨k=2→nm∈N)∧(body.length≤1000000∧SOs fs N body)∧(els.length≤1000000∧SOs fs N els)
def SOs(fs:List Tf)(N:List Ba):List Ty→Prop
 | []=>True
 | t::r=>SO fs N t∧SOs fs N r
end
mutual
theorem SO.vy{fs:List Tf}{N:List Ba}:∀{t:Ty},SO fs N t→VY fs t
 | .mk k nm ve es vb body vl els,h=>by
  obtain⟨h1,h2,h3,⟨h4,h5⟩,h6,h7⟩:=h;have hk:=yI h1;have hes:es.length=if k=3 then 2 else 1:=hk.2.2.1
  exact⟨⟨by rw [hes];split<;>omega,by rw [hes];split<;>omega,fun h3=>by rw [hes,aw h3];exact cj _,XO.vxs fun u hu=>(h2 u hu).1⟩,⟨h4,SOs.vys h5⟩,h6,SOs.vys h7⟩
theorem SOs.vys{fs:List Tf}{N:List Ba}:∀{l:List Ty},SOs fs N l→Ju fs l
 | [],_=>trivial
 | t::r,h=>⟨h.1.vy,SOs.vys h.2⟩
end
def Kv(o:Om)(N:List Ba)(F sp:Int)(m m':Int→Int):Prop:=∀a,sp≤a→(∀x∈N,a≠va o F x)→m' a=m a
theorem Kv.trans{o:Om}{N:List Ba}{F sp:Int}{a b c:Int→Int}(h:Kv o N F sp a b)(h2:Kv o N F sp b c):Kv o N F sp a c:=fun x h3 h4=>(h2 x h3 h4).trans (h x h3 h4)
theorem Kv.of{o:Om}{N:List Ba}{F sp:Int}{a b:Int→Int}(h:∀x,sp≤x→b x=a x):Kv o N F sp a b:=fun x h3 _=>h x h3
def Ex(p' E:Nat)(q:Option Int)(c':Qs):Prop:=(q=none→c'.pc=p')∧∀v,q=some v→c'.pc=E∧c'.r 1=v
def SR(code:List Qi)(p' E:Nat)(b k:Int)(o:Om)(N:List Ba)(d:Nat)(F sp:Int)(c:Qs)(s:Ms):Re (Vs×Option Int)→Prop
 | .ok q s1=>0≤s1.fuel∧Go code (100*(s.fuel-s1.fuel)+k) c fun c'=>St d F sp c'∧pSm c' s1∧Fr o N q.1 F c'.m∧Kv o N F sp c.m c'.m∧Ex p' E q.2 c'
 | .err e=>e=26→Go code (100*s.fuel+b) c (Bk code)
def zW(o:Om)(S:Ba→Int)(E:Int)(e:Tx)(l:List Ty)(p:Nat):List Qi:=
 zX o S e p++([qi 32 1 0 (wU (((lw o S E l (p+wX e+1)).length+2:Nat):Int))]++(lw o S E l (p+wX e+1)++ [qi 40 0 0 (wU (-(((lw o S E l (p+wX e+1)).length+wX e+1:Nat):Int)))]))
section
variable(code:List Qi)(fs:List Tf)(S:Ba→Int)
def HB(g:Nat):Prop:=∀(d:Nat) vs l s r,mL g fs d vs l s=some r→∀o N p(E:Nat) F sp c,SOs fs N l→cAt code p (lw o S (E:Int) l p)→p+fY l≤1984→E≤1984→c.pc=p→Pr o N vs d F sp s c→lo d+132≤sp→SR code (p+fY l) E 50 0 o N d F sp c s r
def HS(g:Nat):Prop:=∀(d:Nat) vs t s r,qv g fs d vs t s=some r→∀o N p(E:Nat) F sp c,SO fs N t→cAt code p (zY o S (E:Int) t p)→p+wY t≤1984→E≤1984→c.pc=p→Pr o N vs d F sp s c→lo d+132≤sp→SR code (p+wY t) E 50 0 o N d F sp c s r
def HW(g:Nat):Prop:=∀(d:Nat) vs e l v s r,tE g fs d vs e l v s=some r→∀o N p(E:Nat) F sp c,XO fs N e→dX e≤8→l.length≤1000000→SOs fs N l→cAt code p (zW o S (E:Int) e l p)→p+wX e+fY l+2≤1984→E≤1984→c.pc=p+wX e→c.r 1=v→Pr o N vs d F sp s c→lo d+132≤sp→
 SR code (p+wX e+fY l+2) E 60 2 o N d F sp c s r
structure HD(g:Nat):Prop extends HA code fs S g where
 b:∀g'<g,HB code fs S g'
 s:∀g'<g,HS code fs S g'
 w:∀g'<g,HW code fs S g'
end
section
variable{code:List Qi}{fs:List Tf}{S:Ba→Int}
theorem Pr.next{o:Om}{N:List Ba}{vs vs':Vs}{d:Nat}{F sp:Int}{s s':Ms}{c c':Qs}(h:Pr o N vs d F sp s c)(hst:St d F sp c')(hsm:pSm c' s')(hfr:Fr o N vs' F c'.m)(hok:okMs s')(hvs:okVs vs')(hfu:0≤s'.fuel):Pr o N vs' d F sp s' c':=
 ⟨hst,h.fs,hfr,hsm,hok,hvs,h.al,hfu,h.d1⟩
theorem Ex.none{p' E:Nat}{c':Qs}(h:c'.pc=p'):Ex p' E none c':=⟨fun _=>h,fun v hv=>by cases hv⟩
theorem SR.up{p' E:Nat}{b b' k k':Int}{o:Om}{N:List Ba}{d:Nat}{F sp:Int}{c0:Qs}{s s0:Ms}{r:Re (Vs×Option Int)}{n:Int}{P:Qs→Prop}(hg:Go code n c0 P)(h:∀c,P c→SR code p' E b k o N d F sp c s r)(hkv:∀c,P c→Kv o N F sp c0.m c.m)
  (h1:n+100*s.fuel+b≤100*s0.fuel+b') (h2:n+100*s.fuel+k≤100*s0.fuel+k'):SR code p' E b' k' o N d F sp c0 s0 r:=by
 cases r with
 | err e=>exact fun he=>hg.seq (fun c hc=>h c hc he) (by omega)
 | ok q s1=>
  have hf:0≤s1.fuel:=by
   obtain⟨_,c2,_,_,hP⟩:=hg;exact(h c2 hP).1
  exact⟨hf,hg.seq (fun c hc=>(h c hc).2.weak (fun c' ⟨e1,e2,e3,e4,e5⟩=>⟨e1,e2,e3,(hkv c hc).trans e4,e5⟩) (Int.le_refl _)) (by omega)⟩
theorem Hq{g:Nat}(hF:VF fs)(ih:HD code fs S g):HB code fs S g:=by
 intro d vs l s r h o N p E F sp c hx hc hl hE hpc hp hsp;cases g with
 | zero=>simp [mL]at h
 | succ g=>
  cases l with
  | nil=>
   rw [mL]at h;cases h;exact⟨hp.fu,Go.done (by omega) ⟨hp.st,hp.sm,hp.fr,Kv.of fun _ _=>J,Ex.none hpc⟩⟩
  | cons t l=>
   rw [mL]at h;have hc':cAt code p (zY o S E t p++lw o S E l (p+(zY o S E t p).length)):=hc;have hw:fY (t::l)=wY t+fY l:=J;obtain⟨hct,hcl⟩:=hc'.app;rw [xW]at hcl;cases hs:qv g fs d vs t s with
   | none=>rw [hs]at h;simp at h
   | some q=>
    rw [hs]at h;have hS:=ih.s g (Nat.lt_succ_self g) d vs t s q hs o N p E F sp c hx.1 hct (by omega) hE hpc hp hsp;cases q with
    | err e=>cases h;exact hS
    | ok q s1=>
     obtain⟨vs1,q⟩:=q;obtain⟨k1,k2,k3⟩:=(lp hF g).s d vs t s _ s1 hx.1.vy hp.vs hp.ok hs;cases q with
     | some v=>
      cases h;exact⟨hS.1,hS.2.weak (fun c' ⟨e1,e2,e3,e4,e5⟩=>⟨e1,e2,e3,e4,fun hq=>(by cases hq),e5.2⟩) (Int.le_refl _)⟩
     | none=>
      have h:mL g fs d vs1 l s1=some r:=h;rw [hw,←Nat.add_assoc];refine SR.up (s:=s1) (b:=50) (k:=0) hS.2 (fun c' ⟨e1,e2,e3,e4,e5⟩=> ?_) (fun c' ⟨e1,e2,e3,e4,e5⟩=>e4) (by omega) (by omega);exact ih.b g (Nat.lt_succ_self g) d vs1 l s1 r h o N (p+wY t) E F sp c' hx.2 hcl (by omega) hE (e5.1 J) (hp.next e1 e2 e3 k3.ok k1 hS.1) hsp
theorem rj(vs:Vs)(x y:Ba)(n:Int):rl (gH vs x n) y=if x=y then n else rl vs y:=iw vs x y n
theorem Hm{g:Nat}(hF:VF fs)(ih:HD code fs S g):HW code fs S g:=by
 intro d vs e l v s r h o N p E F sp c hxe hde hll hxl hc hl hE hpc hv hp hsp;cases g with
 | zero=>simp [tE]at h
 | succ g=>
  rw [tE]at h;unfold zW at hc;obtain⟨hce,hc2⟩:=id hc.app;obtain⟨hcb,hc3⟩:=hc2.app;obtain⟨hcl,hcj⟩:=hc3.app;rw [g_]at hcb hcl hcj;rw [fQ]at hcb hcj;have hbeq:=hcb.head.1;have hz0:∀{P:Qs→Prop}{n:Int},Go code (n-1) {c with pc:=if v=0 then p+wX e+fY l+2 else p+wX e+1} P→Go code n c P:=fun{P n} hG=>by
   refine vB (d:=1) (a:=0) (x:=wU (((fY l+2:Nat):Int))) (by rw [hpc];exact hbeq) ?_;rw [hv,hp.st.z,hpc];by_cases hz:v=0
   ·rw [aw hz]at hG ⊢;rw [mT (q:=p+wX e+fY l+2) (by rw [show((p+wX e+fY l+2:Nat):Int)-((p+wX e:Nat):Int)=((fY l+2:Nat):Int) by omega]) (by omega) (by omega)];exact hG
   ·rw [ai hz]at hG ⊢;exact hG
  by_cases hz:v=0
  ·rw [aw hz]at h hz0;cases h;exact⟨hp.fu,hz0 (Go.done (by omega) ⟨hp.st.of fun _ _=>J,⟨hp.sm.m,hp.sm.i,hp.sm.o⟩,hp.fr,Kv.of fun _ _=>J,Ex.none J⟩)⟩
  ·rw [ai hz]at h hz0;obtain⟨c1,hc1⟩:∃c1:Qs,c1={c with pc:=p+wX e+1}:=⟨_,J⟩
   rw [←hc1]at hz0;have hp1:Pr o N vs d F sp s c1:=by rw [hc1];exact⟨hp.st.of fun _ _=>J,hp.fs,hp.fr,⟨hp.sm.m,hp.sm.i,hp.sm.o⟩,hp.ok,hp.vs,hp.al,hp.fu,hp.d1⟩
   have hm1:c1.m=c.m:=by rw [hc1]
   have hg1:Go code 1 c fun x=>x=c1:=hz0 (Go.done (by decide) J)
   cases hb:mL g fs d vs l s with
   | none=>rw [hb]at h;simp at h
   | some q=>
    rw [hb]at h;have hB:=ih.b g (Nat.lt_succ_self g) d vs l s q hb o N (p+wX e+1) E F sp c1 hxl hcl (by omega) hE (by rw [hc1]) hp1 hsp;cases q with
    | err z=>cases h;exact fun he=>hg1.seq (m:=100*s.fuel+50) (fun x hx=>by subst hx;exact hB he) (by omega)
    | ok q s1=>
     obtain⟨vs1,q⟩:=q;obtain⟨k1,k2,k3⟩:=(lp hF g).b d vs l s _ s1 hxl.vys hp.vs hp.ok hb;cases q with
     | some x=>
      cases h;exact⟨hB.1,hg1.seq (m:=100*(s.fuel-s1.fuel)) (fun x hx=>by subst hx;exact hB.2.weak (fun c' ⟨e1,e2,e3,e4,e5⟩=>⟨e1,e2,e3,by rw [←hm1];exact e4,fun hq=>(by cases hq),e5.2⟩) (by omega)) (by omega)⟩
     | none=>
      dsimp only at h;have hB2:Go code (100*(s.fuel-s1.fuel)+2) c fun c'=>St d F sp c'∧pSm c' s1∧Fr o N vs1 F c'.m∧Kv o N F sp c.m c'.m∧c'.pc=p:=hg1.seq (m:=100*(s.fuel-s1.fuel)+1) (fun x hx=>by
       subst hx;refine hB.2.seq (m:=1) (fun c' ⟨e1,e2,e3,e4,e5⟩=> ?_) (by omega);have e5:=e5.1 J;obtain⟨x,hxx⟩:∃x,x=wU (-(((fY l+wX e+1:Nat):Int))):=⟨_,J⟩
       have hj:=hcj.head.1;rw [←hxx]at hj;refine r5 (d:=0) (a:=0) (x:=x) (by rw [e5];exact hj) (Go.done (by decide) ⟨e1.of fun k hk=>DL,⟨e2.m,e2.i,e2.o⟩,e3,by rw [←hm1];exact e4,?_⟩);show tV (wU (ja c'.pc+4*x))=p;rw [e5,hxx];exact mT (by rw [show(p:Int)-((p+wX e+1+fY l:Nat):Int)= -((fY l+wX e+1:Nat):Int) by omega]) (by omega) (by omega)) (by omega)
      cases hx2:kS g fs d vs1 e s1 with
      | none=>rw [hx2]at h;simp at h
      | some q=>
       rw [hx2]at h;have hX:∀c',(St d F sp c'∧pSm c' s1∧Fr o N vs1 F c'.m∧Kv o N F sp c.m c'.m∧c'.pc=p)→XR code (p+wX e) d F sp c' s1 q:=fun c' ⟨e1,e2,e3,e4,e5⟩=>
        ih.x g (Nat.lt_succ_self g) d vs1 e s1 q hx2 o N p F sp c' hxe hce (by omega) e5 (hp.next e1 e2 e3 k3.ok k1 hB.1) (by omega)
       cases q with
       | err z=>cases h;exact fun he=>hB2.seq (m:=100*s1.fuel+50) (fun c' hc'=>hX c' hc' he) (by omega)
       | ok w s2=>
        obtain⟨w1,w2⟩:=(lp hF g).x d vs1 e s1 w s2 hxe.vx k1 k3.ok hx2;have h:tE g fs d vs1 e l w s2=some r:=h;have hf2:0≤s2.fuel:=by
         obtain⟨_,c2,_,_,hP⟩:=hB2;exact(hX c2 hP).1
        have hX2:Go code (100*(s.fuel-s2.fuel)-38) c fun c'=>(St d F sp c'∧pSm c' s2∧Fr o N vs1 F c'.m∧Kv o N F sp c.m c'.m)∧c'.pc=p+wX e∧c'.r 1=w:=hB2.seq (m:=100*(s1.fuel-s2.fuel)-40) (fun c' hc'=>(hX c' hc').2.weak (fun c2 ⟨f1,f2,f3,f4,f5⟩=>by
         obtain⟨e1,e2,e3,e4,e5⟩:=hc';exact⟨⟨f3,f4,fun x hx=>(f5 _ (hp.fs.ok x hx).2).trans (e3 x hx),e4.trans (Kv.of f5)⟩,f1,f2⟩) (Int.le_refl _)) (by omega)
        refine SR.up (s:=s2) hX2 (fun c' ⟨⟨e1,e2,e3,e4⟩,e5,e6⟩=> ?_) (fun c' h=>h.1.2.2.2) (b:=60) (k:=2) (by omega) (by omega);exact ih.w g (Nat.lt_succ_self g) d vs1 e l w s2 r h o N p E F sp c' hxe hde hll hxl (by unfold zW;exact hc) hl hE e5 e6 (hp.next e1 e2 e3 w2.ok k1 hf2) hsp
theorem Kv.mw{o:Om}{N:List Ba}{F sp:Int}{m:Int→Int}{x:Ba}{v:Int}(hx:x∈N):Kv o N F sp m (mw m (va o F x) v):=fun a _ h=>ku (h x hx)
theorem Fr.put{o:Om}{N:List Ba}{vs:Vs}{F sp:Int}{m:Int→Int}{x:Ba}{v:Int}(h:Fr o N vs F m)(hf:Fs o N F sp)(hx:x∈N):Fr o N (gH vs x v) F (mw m (va o F x) v):=fun y hy=>by
 rw [rj];by_cases e:x=y
 ·subst e;rw [aw J,p_]
 ·rw [ai e,ku fun q=>e (hf.inj x hx y hy q.symm)];exact h y hy
theorem K7{g:Nat}{d:Nat}{vs:Vs}{k:Int}{nm:Ba}{ve vb vl:SV}{e:Tx}{es:List Tx}{body els:List Ty}{s s1:Ms}{v:Int}(hf:¬s.fuel≤0)(hx:kS g fs d vs e {s with fuel:=s.fuel-1}=some (.ok v s1)):
  qv (g+1) fs d vs (.mk k nm ve (e::es) vb body vl els) s=
    if k=1∨k=2 then some (.ok (gH vs nm v,none) s1)else
    if k=3 then(match es with
     | []=>none
     | e2::_=>match kS g fs d vs e2 s1 with
      | none=>none
      | some (.err e)=>some (.err e)
      | some (.ok w s2)=>some (.ok (vs,none) {s2 with mem:=Ek s2.mem (v%256).toNat w}))else
    if k=4 then mL g fs d vs (if v=0 then els else body) s1 else
    if k=5 then tE g fs d vs e body v s1 else
    if k=6 then some (.ok (vs,some v) s1)else if k=7 then some (.ok (vs,none) {s1 with out:=s1.out++ [v]})else some (.ok (vs,none) s1):=by
 rw [qv,ai hf];dsimp only [Ty.es];rw [hx];rfl
theorem E7{g:Nat}{d:Nat}{vs:Vs}{k:Int}{nm:Ba}{ve vb vl:SV}{e:Tx}{es:List Tx}{body els:List Ty}{s:Ms}(hf:¬s.fuel≤0)(hx:kS g fs d vs e {s with fuel:=s.fuel-1}=none):
  qv (g+1) fs d vs (.mk k nm ve (e::es) vb body vl els) s=none:=by
 rw [qv,ai hf];dsimp only [Ty.es];rw [hx]
theorem H_{g:Nat}{d:Nat}{vs:Vs}{k:Int}{nm:Ba}{ve vb vl:SV}{e:Tx}{es:List Tx}{body els:List Ty}{s:Ms}{z:Int}(hf:¬s.fuel≤0)(hx:kS g fs d vs e {s with fuel:=s.fuel-1}=some (.err z)):
  qv (g+1) fs d vs (.mk k nm ve (e::es) vb body vl els) s=some (.err z):=by
 rw [qv,ai hf];dsimp only [Ty.es];rw [hx]
theorem Hn{g:Nat}(hF:VF fs)(ih:HD code fs S g):HS code fs S g:=by
 intro d vs t s r h o N p E F sp c hx hc hl hE hpc hp hsp;have hd:=ua hp.d1.2;cases g with
 | zero=>simp [qv]at h
 | succ g=>
  by_cases hf:s.fuel≤0
  ·rw [qv,aw hf]at h;cases h;intro e;exact absurd e (by decide)
  have hp':=hp.pay hf;obtain⟨k,nm,ve,es,vb,body,vl,els⟩:=t;obtain⟨hok,hes,hnm,⟨hbl,hbo⟩,hel,heo⟩:=hx;have hk:=yI hok;obtain⟨s',hs'⟩:∃s',s'={s with fuel:=s.fuel-1}:=⟨_,J⟩
  have hsf:s'.fuel=s.fuel-1:=by rw [hs']
  rw [←hs']at hp';cases es with
  | nil=>
   have:=hk.2.2.1;split at this<;>simp at this
  | cons e es=>
   have hxe:=(hes e (by simp)).1;have hde:=(hes e (by simp)).2;have hca:cAt code p (zX o S e p):=by
    have hc':=hc;unfold zY at hc';by_cases q1:k=1∨k=2
    ·rw [aw q1]at hc';exact hc'.app.1
    rw [ai q1]at hc';by_cases q3:k=3
    ·rw [aw q3]at hc';exact hc'.app.1
    rw [ai q3]at hc';by_cases q7:k=7
    ·rw [aw q7]at hc';exact hc'.app.1
    rw [ai q7]at hc';by_cases q6:k=6
    ·rw [aw q6]at hc';exact hc'.app.1
    rw [ai q6]at hc';by_cases q4:k=4
    ·rw [aw q4]at hc';exact hc'.app.1
    rw [ai q4]at hc';by_cases q5:k=5
    ·rw [aw q5]at hc';exact hc'.app.1
    rw [ai q5]at hc';exact hc'
   have hwe:wX e≤wY (.mk k nm ve (e::es) vb body vl els):=by
    unfold wY;show jO (e::es)≤_
    repeat' split
    all_goals omega
   cases hx1:kS g fs d vs e s' with
   | none=>
    rw [E7 hf (by rw [←hs'];exact hx1)]at h;cases h
   | some q=>
    have hX:=ih.x g (Nat.lt_succ_self g) d vs e s' q hx1 o N p F sp c hxe hca (by omega) hpc hp' (by omega);cases q with
    | err z=>
     rw [H_ hf (by rw [←hs'];exact hx1)]at h;cases h;exact fun he=>(hX he).weak (fun _ h=>h) (by omega)
    | ok v s1=>
     obtain⟨hv,hk1⟩:=(lp hF g).x d vs e s' v s1 hxe.vx hp'.vs hp'.ok hx1;rw [K7 hf (by rw [←hs'];exact hx1)]at h;obtain⟨hf1,hX⟩:=hX;have hX1:Go code (100*(s.fuel-s1.fuel)-140) c fun c'=>c'.pc=p+wX e∧c'.r 1=v∧(∀a,sp≤a→c'.m a=c.m a)∧Pr o N vs d F sp s1 c':=hX.weak (fun c' ⟨e1,e2,e3,e4,e5⟩=>⟨e1,e2,e5,hp.of e3 e4 hk1.ok hf1 e5 (Int.le_refl _) hp.al.1⟩) (by omega)
     by_cases q1:k=1∨k=2
     · -- a variable
      rw [aw q1]at h;cases h;have hc':cAt code p (zX o S e p++ [qi 25 1 13 (bO o nm)]):=by
       have hc':=hc;unfold zY at hc';rw [aw q1]at hc';exact hc'
      have hw:wY (.mk k nm ve (e::es) vb body vl els)=wX e+1:=by unfold wY;rw [aw q1];rfl
      rw [hw];have hcs:=hc'.app.2;rw [g_]at hcs;have hN:=hnm q1;refine⟨hf1,hX1.seq (m:=1) (fun c1 ⟨e1,e2,e3,e4⟩=> ?_) (by omega)⟩;have hva:wU (c1.r 13+bO o nm)=va o F nm:=by rw [e4.st.f];rfl
      refine y8 (d:=1) (a:=13) (x:=bO o nm) (by rw [e1];exact hcs.head.1) (by rw [hva];exact(hp.fs.ok nm hN).1) (Go.done (by decide) ?_);rw [hva,e2];refine⟨e4.st.of fun _ _=>J,e4.sm.push J J J (by have:=(hp.fs.ok nm hN).2;omega),e4.fr.put e4.fs hN,(Kv.of e3).trans (Kv.mw hN),Ex.none (by show c1.pc+1=_;rw [e1];rfl)⟩
     rw [ai q1]at h;by_cases q3:k=3
     · -- an element of mem
      rw [aw q3]at h;subst q3;have hn:(e::es).length=2:=by have:=hk.2.2.1;rw [aw J]at this;exact this
      obtain⟨e2,rfl⟩:∃e2,es= [e2]:=List.length_eq_one_iff.1 (by rw [bR]at hn;omega);have hc':cAt code p (zX o S e p++(fX 1++(zX o S e2 (p+wX e+2)++(lA 2++(tM 2++ [qi 25 1 2 8192]))))):=hc;have hw:wY (.mk 3 nm ve [e,e2] vb body vl els)=wX e+(wX e2+7):=J;rw [hw]at hl ⊢;have hxe2:=(hes e2 (by simp)).1;have hde2:=(hes e2 (by simp)).2;obtain⟨-,hc2⟩:=hc'.app;obtain⟨hcp,hc3⟩:=hc2.app;obtain⟨hcx,hc4⟩:=hc3.app;obtain⟨hcq,hc5⟩:=hc4.app;obtain⟨hce,hcs⟩:=hc5.app;rw [g_]at hcp hcx hcq hce hcs;rw [g_]at hcq hce hcs;have hX2:Go code (100*(s.fuel-s1.fuel)-138) c fun c'=>c'.pc=p+wX e+2∧Pr o N vs d F (sp-4) s1 c'∧c'.m (sp-4)=v∧∀a,sp≤a→c'.m a=c.m a:=hX1.seq (m:=2) (fun c1 ⟨e1,e2,e3,e4⟩=>(mf hcp e1 e4.st (by decide) ⟨by omega,hp.al.2,hp.al.1⟩).weak (fun c2 ⟨f1,f2,f3,f4,f5,f6⟩=>by
       have hm:∀x,sp≤x→c2.m x=c1.m x:=fun x hx=>by rw [f3,ku (by omega)]
       exact⟨f1,e4.of f2 (e4.sm.push f3 f4 f5 (by omega)) hk1.ok hf1 hm (by omega) (by have:=hp.al;omega),by rw [f3,p_,e2],fun a ha=>(hm a ha).trans (e3 a ha)⟩) (Int.le_refl _)) (by omega)
      dsimp only at h;cases hx2:kS g fs d vs e2 s1 with
      | none=>rw [hx2]at h;simp at h
      | some q=>
       rw [hx2]at h;have hY:∀c',(c'.pc=p+wX e+2∧Pr o N vs d F (sp-4) s1 c'∧c'.m (sp-4)=v∧∀a,sp≤a→c'.m a=c.m a)→XR code (p+wX e+2+wX e2) d F (sp-4) c' s1 q:=fun c' ⟨f1,f2,f3,f4⟩=>
        ih.x g (Nat.lt_succ_self g) d vs e2 s1 q hx2 o N (p+wX e+2) F (sp-4) c' hxe2 hcx (by omega) f1 f2 (by omega)
       cases q with
       | err z=>cases h;exact fun he=>hX2.seq (fun c' hc'=>hY c' hc' he) (by omega)
       | ok w s2=>
        cases h;obtain⟨hw1,hw2⟩:=(lp hF g).x d vs e2 s1 w s2 hxe2.vx hp.vs hk1.ok hx2;have hf2:0≤s2.fuel:=by
         obtain⟨_,c2,_,_,hP⟩:=hX2;exact(hY c2 hP).1
        refine⟨hf2,hX2.seq (m:=100*(s1.fuel-s2.fuel)-35) (fun c2 hc2=>(hY c2 hc2).2.seq (m:=5) (fun c3 ⟨g1,g2,g3,g4,g5⟩=> ?_) (by omega)) (by dsimp only;omega)⟩;obtain⟨f1,f2,f3,f4⟩:=hc2;refine(u5 (r:=2) hcq g1 g3.s (by decide) ⟨by omega,by have:=hp.al;omega,by have:=hp.al;omega⟩).seq (m:=3) (fun c4 ⟨i1,i2,i3,i4⟩=> ?_) (by decide);have h2:c4.r 2=v:=by rw [i2,g5 _ (Int.le_refl _),f3]
        refine(Bl (r:=2) hce i1 (by decide) h2 hv).seq (m:=1) (fun c5 ⟨j1,j2,j3⟩=> ?_) (by decide);have hwa:wU (c5.r 2+8192)=8192+4*(((v%256).toNat:Nat):Int):=by rw [j2,gG (by omega)];omega
        have hst:St d F sp c5:=⟨((j3.r 0 (by decide)).trans (i4.r 0 (by decide))).trans g3.z,((j3.r 12 (by decide)).trans (i4.r 12 (by decide))).trans g3.d,((j3.r 13 (by decide)).trans (i4.r 13 (by decide))).trans g3.f,((j3.r 14 (by decide)).trans i3).trans (by omega)⟩
        have hm5:c5.m=c3.m:=j3.m.trans i4.m;have hr1:c5.r 1=w:=((j3.r 1 (by decide)).trans (i4.r 1 (by decide))).trans g2;have hsm:=(g4.kr i4).kr j3;have hkv:∀a,sp≤a→c5.m a=c.m a:=fun a ha=>by rw [hm5,g5 a (by omega),f4 a ha]
        refine y8 (d:=1) (a:=2) (x:=8192) (by rw [j1];exact hcs.head.1) (by rw [hwa];exact⟨by omega,by omega,by omega⟩) (Go.done (by decide) ?_);rw [hwa,hr1];refine⟨hst.of fun _ _=>J,⟨fun i hi=> ?_,hsm.i,hsm.o⟩,fun x hx=> ?_,fun a ha _=> ?_,Ex.none (by show c5.pc+1=_;rw [j1];simp only [fX,lA,bR,bG];omega)⟩
        ·show mw c5.m _ w _=Ek s2.mem _ w i;unfold Ek;by_cases hi2:i=(v%256).toNat
         ·rw [aw hi2,hi2,p_]
         ·rw [ai hi2,ku (by omega)];exact hsm.m i hi
        ·have:=(hp.fs.ok x hx).2;show mw c5.m _ w _=_;rw [ku (by omega),hkv _ this];exact hp.fr x hx
        ·show mw c5.m _ w _=_;rw [ku (by omega),hkv a ha]
     rw [ai q3]at h;by_cases q4:k=4
     · -- if
      rw [aw q4]at h;subst q4;obtain⟨je,hje⟩:∃je:Nat,je=if els.length>0 then 1 else 0:=⟨_,J⟩
      have hc':cAt code p (zX o S e p++([qi 32 1 0 (wU (((lw o S E body (p+wX e+1)).length+(if els.length>0 then 1 else 0)+1:Nat):Int))]++(lw o S E body (p+wX e+1)++
       ((if els.length>0 then [qi 40 0 0 (wU (((lw o S E els (p+wX e+1+(lw o S E body (p+wX e+1)).length+(if els.length>0 then 1 else 0))).length+1:Nat):Int))]else [])++
        lw o S E els (p+wX e+1+(lw o S E body (p+wX e+1)).length+(if els.length>0 then 1 else 0)))))):=hc
      rw [←hje]at hc';have hw:wY (.mk 4 nm ve (e::es) vb body vl els)=wX e+(fY body+(fY els+(1+je))):=by
       show jO (e::es)+(fY body+(fY els+if els.length>0 then 2 else 1))=_;rw [hje];show wX e+_=_;split<;>omega
      rw [hw]at hl ⊢;obtain⟨-,hc2⟩:=hc'.app;obtain⟨hcb,hc3⟩:=hc2.app;obtain⟨hcl,hc4⟩:=hc3.app;obtain⟨hcj,hcel⟩:=hc4.app;simp only [g_,fQ]at hcb hcl hcj hcel;have hjl:(if els.length>0 then [qi 40 0 0 (wU ((fY els+1:Nat):Int))]else []).length=je:=by rw [hje];split<;>rfl
      rw [hjl]at hcel;have hbeq:=hcb.head.1;have hX3:Go code (100*(s.fuel-s1.fuel)-139) c fun c'=>c'.pc=(if v=0 then p+wX e+1+fY body+je else p+wX e+1)∧(∀a,sp≤a→c'.m a=c.m a)∧Pr o N vs d F sp s1 c':=hX1.seq (m:=1) (fun c1 ⟨e1,e2,e3,e4⟩=>by
       refine vB (d:=1) (a:=0) (x:=wU (((fY body+je+1:Nat):Int))) (by rw [e1];exact hbeq) (Go.done (by decide) ⟨?_,e3,⟨e4.st.of fun _ _=>J,e4.fs,e4.fr,⟨e4.sm.m,e4.sm.i,e4.sm.o⟩,e4.ok,e4.vs,e4.al,e4.fu,e4.d1⟩⟩);show(if c1.r 1=c1.r 0 then _ else c1.pc+1)=_;rw [e2,e4.st.z,e1];by_cases hz:v=0
       ·rw [aw hz,aw hz];exact mT (by rw [show((p+wX e+1+fY body+je:Nat):Int)-((p+wX e:Nat):Int)=((fY body+je+1:Nat):Int) by omega]) (by omega) (by omega)
       ·rw [ai hz,ai hz]) (by omega)
      by_cases hz:v=0
      ·rw [aw hz]at h hX3;refine SR.up (s:=s1) hX3 (fun c' ⟨e1,e2,e3⟩=> ?_) (fun c' ⟨e1,e2,e3⟩=>Kv.of e2) (b:=50) (k:=0) (by omega) (by omega);have:=ih.b g (Nat.lt_succ_self g) d vs els s1 r h o N (p+wX e+1+fY body+je) E F sp c' heo hcel (by omega) hE e1 e3 hsp;rw [show p+(wX e+(fY body+(fY els+(1+je))))=p+wX e+1+fY body+je+fY els by omega];exact this
      ·rw [ai hz]at h hX3;have hB:∀c',(c'.pc=p+wX e+1∧(∀a,sp≤a→c'.m a=c.m a)∧Pr o N vs d F sp s1 c')→SR code (p+wX e+1+fY body) E 50 0 o N d F sp c' s1 r:=fun c' ⟨e1,e2,e3⟩=>
        ih.b g (Nat.lt_succ_self g) d vs body s1 r h o N (p+wX e+1) E F sp c' hbo hcl (by omega) hE e1 e3 hsp
       cases r with
       | err z=>exact fun he=>hX3.seq (fun c' hc'=>hB c' hc' he) (by omega)
       | ok q s2=>
        have hf2:0≤s2.fuel:=by
         obtain⟨_,c2,_,_,hP⟩:=hX3;exact(hB c2 hP).1
        refine⟨hf2,hX3.seq (m:=100*(s1.fuel-s2.fuel)+1) (fun c2 hc2=>(hB c2 hc2).2.seq (m:=1) (fun c3 ⟨f1,f2,f3,f4,f5⟩=> ?_) (by omega)) (by omega)⟩;obtain⟨g1,g2,g3⟩:=hc2;have hkv:=(Kv.of (o:=o) (N:=N) (F:=F) g2).trans f4;obtain⟨vs2,q⟩:=q;cases q with
        | some x=>exact Go.done (by decide) ⟨f1,f2,f3,hkv,fun hq=>(by cases hq),f5.2⟩
        | none=>
         have f6:=f5.1 J;by_cases hz2:els.length>0
         ·rw [aw hz2]at hcj hje;refine r5 (d:=0) (a:=0) (x:=wU ((fY els+1:Nat):Int)) (by rw [f6];exact hcj.head.1) (Go.done (by decide) ⟨f1.of fun k hk=>DL,⟨f2.m,f2.i,f2.o⟩,f3,hkv,Ex.none ?_⟩);show tV _=_;rw [f6];exact mT (by rw [show((p+(wX e+(fY body+(fY els+(1+je)))):Nat):Int)-((p+wX e+1+fY body:Nat):Int)=((fY els+1:Nat):Int) by omega]) (by omega) (by omega)
         ·rw [ai hz2]at hje;have:els= []:=List.length_eq_zero_iff.1 (by omega);subst this;have hw0:fY []=0:=J;exact Go.done (by decide) ⟨f1,f2,f3,hkv,Ex.none (by rw [f6];omega)⟩
     rw [ai q4]at h;by_cases q5:k=5
     · -- while
      rw [aw q5]at h;subst q5;have hc':cAt code p (zW o S E e body p):=hc;have hw:wY (.mk 5 nm ve (e::es) vb body vl els)=wX e+(fY body+2):=J;rw [hw]at hl ⊢;refine SR.up (s:=s1) hX1 (fun c' ⟨e1,e2,e3,e4⟩=> ?_) (fun c' ⟨e1,e2,e3,e4⟩=>Kv.of e3) (b:=60) (k:=2) (by omega) (by omega);have:=ih.w g (Nat.lt_succ_self g) d vs e body v s1 r h o N p E F sp c' hxe hde hbl hbo hc' (by omega) hE e1 e2 e4 hsp;rw [show p+(wX e+(fY body+2))=p+wX e+fY body+2 by omega];exact this
     rw [ai q5]at h;by_cases q6:k=6
     · -- return
      rw [aw q6]at h;subst q6;cases h;have hc':cAt code p (zX o S e p++ [qi 40 0 0 (wU ((E:Int)-((p+wX e:Nat):Int)))]):=hc;have hw:wY (.mk 6 nm ve (e::es) vb body vl els)=wX e+1:=J;rw [hw]at hl ⊢;have hcs:=hc'.app.2;rw [g_]at hcs;refine⟨hf1,hX1.seq (m:=1) (fun c1 ⟨e1,e2,e3,e4⟩=> ?_) (by omega)⟩;refine r5 (d:=0) (a:=0) (x:=wU ((E:Int)-((p+wX e:Nat):Int))) (by rw [e1];exact hcs.head.1) (Go.done (by decide) ⟨e4.st.of fun k hk=>DL,⟨e4.sm.m,e4.sm.i,e4.sm.o⟩,e4.fr,Kv.of e3,fun hq=>(by cases hq),fun y hy=> ?_⟩);cases hy;refine⟨?_,by show rp c1.r 0 (ja (c1.pc+1)) 1=_;rw [DL];exact e2⟩;show tV _=_;rw [e1];exact mT J (by omega) (by omega)
     rw [ai q6]at h;by_cases q7:k=7
     · -- out
      rw [aw q7]at h;subst q7;cases h;have hc':cAt code p (zX o S e p++ [⟨48,0,0,0,1⟩]):=hc;have hw:wY (.mk 7 nm ve (e::es) vb body vl els)=wX e+1:=J;rw [hw]at hl ⊢;have hcs:=hc'.app.2;rw [g_]at hcs;refine⟨hf1,hX1.seq (m:=1) (fun c1 ⟨e1,e2,e3,e4⟩=> ?_) (by dsimp only;omega)⟩;refine KP (by rw [e1];exact hcs.head.1) (Go.done (by decide) ⟨e4.st.of fun _ _=>J,⟨e4.sm.m,e4.sm.i,?_⟩,e4.fr,Kv.of e3,Ex.none (by show c1.pc+1=_;rw [e1];rfl)⟩);show c1.out++ [c1.r 1]=s1.out++ [v];rw [e2,e4.sm.o]
     rw [ai q7]at h
     -- an expression alone
     have q8:k=8:=by omega
     subst q8;cases h;have hw:wY (.mk 8 nm ve (e::es) vb body vl els)=wX e:=J;rw [hw];exact⟨hf1,hX1.weak (fun c1 ⟨e1,e2,e3,e4⟩=>⟨e4.st,e4.sm,e4.fr,Kv.of e3,Ex.none e1⟩) (by omega)⟩
end
structure pFO(fs:List Tf)(f:Tf)(N:List Ba):Prop where
 so:SOs fs N f.body
 ps4:f.ps.length≤4
 nv:(dP f).2.toNat≤12
 nd:f.ps.Nodup
 off:∀x∈N,(∃i:Nat,f.ps[i]?=some x∧bO (dP f).1 x=8+4*((f.ps.length:Int)-1-i))∨(x∉f.ps∧∃j:Nat,1≤j∧j≤(dP f).2.toNat∧bO (dP f).1 x=wU (-(4*(j:Int))))
 inj:∀x∈N,∀y∈N,bO (dP f).1 x=bO (dP f).1 y→x=y
structure CF(code:List Qi)(fs:List Tf)(S:Ba→Int):Prop where
 fn:∀x f,dc fs x=some f→∃p:Nat,S x=(p:Int)∧cAt code p (zF S f p)∧p+wF f≤1984
 ok:∀x f,dc fs x=some f→∃N,pFO fs f N
theorem CF.cp{code:List Qi}{fs:List Tf}{S:Ba→Int}(h:CF code fs S):CP code fs S:=
 ⟨fun x f hf=>by obtain⟨p,h1,h2,h3⟩:=h.fn x f hf;exact⟨p,h1,by omega⟩,fun x f hf=>by obtain⟨N,hN⟩:=h.ok x f hf;exact hN.ps4⟩
theorem oT:∀(ps:List Ba)(al:List Int)(vs:Vs)(x:Ba),x∉ps→rl (i_ vs ps al) x=rl vs x
 | [],al,vs,x,h=>by unfold i_;rfl
 | p::ps,[],vs,x,h=>by unfold i_;rfl
 | p::ps,a::al,vs,x,h=>by
  rw [List.mem_cons,not_or]at h;show rl (i_ (gH vs p a) ps al) x=_;rw [oT ps al _ x h.2,rj,ai fun e=>h.1 e.symm]
theorem wl:∀(ps:List Ba)(al:List Int)(vs:Vs)(i:Nat)(x:Ba)(a:Int),ps.Nodup→ps[i]?=some x→al[i]?=some a→rl (i_ vs ps al) x=a
 | [],al,vs,i,x,a,_,h,_=>by simp at h
 | p::ps,[],vs,i,x,a,_,_,h=>by simp at h
 | p::ps,b::al,vs,i,x,a,hn,h1,h2=>by
  rw [List.nodup_cons]at hn;show rl (i_ (gH vs p b) ps al) x=_;cases i with
  | zero=>
   cases h1;cases h2;rw [oT ps al _ p hn.1,rj,aw J]
  | succ i=>exact wl ps al _ i x a hn.2 h1 h2
section
variable{code:List Qi}{fs:List Tf}{S:Ba→Int}
theorem wG{d F:Int}:∀(n:Nat){p:Nat}{sp:Int}{c:Qs}{s:Ms},cAt code p (jv n)→c.pc=p→St d F sp c→9216+4*(n:Int)≤sp→sp≤16384→sp%4=0→pSm c s→
  Go code (2*(n:Int)) c fun c'=>c'.pc=p+2*n∧St d F (sp-4*(n:Int)) c'∧pSm c' s∧(∀a,sp≤a→c'.m a=c.m a)∧∀j:Nat,1≤j→j≤n→c'.m (sp-4*(j:Int))=0
 | 0,p,sp,c,s,_,hpc,h,_,_,_,hs=>Go.done (by omega) ⟨hpc,by rw [show sp-4*((0:Nat):Int)=sp by omega];exact h,hs,fun _ _=>rfl,fun j h1 h2=>by omega⟩
 | n+1,p,sp,c,s,hc,hpc,h,h1,h2,h3,hs=>by
  have hc':cAt code p (fX 0++jv n):=hc;obtain⟨hc1,hc2⟩:=hc'.app;refine(mf hc1 hpc h (by decide) ⟨by omega,h2,h3⟩).seq (m:=2*(n:Int)) (fun c1 ⟨e1,e2,e3,e4,e5,e6⟩=> ?_) (by omega);refine(wG n (p:=p+2) (sp:=sp-4) hc2 e1 e2 (by omega) (by omega) (by omega) (hs.push e3 e4 e5 (by omega))).weak (fun c2 ⟨f1,f2,f3,f4,f5⟩=>⟨by rw [f1];omega,?_,f3,fun a ha=> ?_,fun j hj1 hj2=> ?_⟩) (Int.le_refl _)
  ·rw [show sp-4*((n+1:Nat):Int)=sp-4-4*(n:Int) by omega];exact f2
  ·rw [f4 a (by omega),e3,ku (by omega)]
  ·by_cases hj:j=1
   ·subst hj;rw [show sp-4*((1:Nat):Int)=sp-4 by omega,f4 _ (Int.le_refl _),e3,p_,h.z]
   ·have:=f5 (j-1) (by omega) (by omega);rw [show sp-4*(j:Int)=sp-4-4*((j-1:Nat):Int) by omega];exact this
theorem Hp{g:Nat}(hF:VF fs)(hC:CF code fs S)(ih:HD code fs S g):HC code fs S g:=by
 intro d f al s r h F sp c q hff hal hao hpc h15 hq hst hsm hok hfu ha hsp hlo hd hargs;have hlo':=ua hd;cases g with
 | zero=>simp [tF]at h
 | succ g=>
  rw [tF]at h;obtain⟨pf,hpf,hcf,hpl⟩:=hC.fn _ _ hff;obtain⟨N,hN⟩:=hC.ok _ _ hff;obtain⟨nv,hnv⟩:∃nv,nv=(dP f).2.toNat:=⟨_,J⟩
  obtain⟨o,ho⟩:∃o,o=(dP f).1:=⟨_,J⟩
  have hv12:=hN.nv;have h4:=hN.ps4;have hoff:=hN.off;have hinj:=hN.inj;rw [←ho,←hnv]at hoff;rw [←ho]at hinj;rw [←hnv]at hv12;have hwf:wF f=17+2*nv+fY f.body:=by rw [hnv];rfl
  have hcf':cAt code pf ([qi 16 12 12 1,qi 16 2 0 12,qi 35 2 12 2,⟨49,0,0,0,0⟩]++(fX 15++(fX 13++([q3 1 13 14 0]++(jv nv++
   (lw o S ((pf+10+2*nv+fY f.body:Nat):Int) f.body (pf+9+2*nv)++([q3 1 1 0 0,q3 1 14 13 0]++(lA 13++(lA 15++ [qi 16 12 12 4294967295,qi 27 0 15 0]))))))))):=by
   rw [hnv,ho];exact hcf
  obtain⟨hA,hcf'⟩:=hcf'.app;obtain⟨hP15,hcf'⟩:=hcf'.app;obtain⟨hP13,hcf'⟩:=hcf'.app;obtain⟨hAdd,hcf'⟩:=hcf'.app;obtain⟨hP0,hcf'⟩:=hcf'.app;obtain⟨hBody,hcf'⟩:=hcf'.app;obtain⟨hR,hcf'⟩:=hcf'.app;obtain⟨hQ13,hcf'⟩:=hcf'.app;obtain⟨hQ15,hEnd⟩:=hcf'.app;simp only [kD,fQ,fX,lA,bR,bG,Nat.zero_add,Nat.reduceAdd]at hP15 hP13 hAdd hP0 hBody hR hQ13 hQ15 hEnd;have hpc0:c.pc=pf:=by rw [hpc,hpf];rfl
  have hdc:(d:Int)≤12:=by omega
  have hstart:Go code 3 c fun c3=>c3.pc=(if d=12 then pf+3 else pf+4)∧St ((d:Int)+1) F sp c3∧c3.r 15=ja q∧pSm c3 s∧c3.m=c.m:=by
   refine jY hpc0 hA.head.1 (v:=(d:Int)+1) (by
    show some (wU (c.r 12+1))=_;rw [hst.d,gG (by omega)]) fun c1 e1 e2 e3 e4 e5=> ?_
   refine jY e1 hA.head.2.head.1 (v:=12) (by
    show some (wU (c1.r 0+12))=_;rw [e2,cI (by decide),hst.z];rfl) fun c2 f1 f2 f3 f4 f5=> ?_
   refine Ht (d:=2) (a:=12) (x:=2) (by rw [f1];exact hA.head.2.head.2.head.1) (Go.done (by decide) ⟨?_,⟨?_,?_,?_,?_⟩,?_,⟨fun i hi=> ?_,(f4.trans e4).trans hsm.i,(f5.trans e5).trans hsm.o⟩,f3.trans e3⟩)
   ·show(if c2.r 2≥c2.r 12 then _ else c2.pc+1)=_;rw [f2,ep (by decide),cI (by decide),e2,ep (by decide),f1];by_cases h12:d=12
    ·rw [ai (by omega),aw h12]
    ·rw [aw (by omega),ai h12];exact mT (by rw [show((pf+4:Nat):Int)-((pf+1+1:Nat):Int)=2 by omega];rfl) (by omega) (by omega)
   ·show c2.r 0=0;rw [f2,cI (by decide),e2,cI (by decide)];exact hst.z
   ·show c2.r 12=_;rw [f2,cI (by decide),e2,ep (by decide)]
   ·show c2.r 13=_;rw [f2,cI (by decide),e2,cI (by decide)];exact hst.f
   ·show c2.r 14=_;rw [f2,cI (by decide),e2,cI (by decide)];exact hst.s
   ·show c2.r 15=_;rw [f2,cI (by decide),e2,cI (by decide)];exact h15
   ·show c2.m _=_;rw [f3,e3];exact hsm.m i hi
  by_cases h12:d=12
  ·rw [aw h12]at h hstart;cases h;exact fun _=>hstart.weak (fun c3 ⟨e1,_⟩=>by unfold Bk;rw [e1];exact hA.head.2.head.2.head.2.head.1) (by omega)
  rw [ai h12]at h hstart;have hlo1:lo d=lo (d+1)+256:=by unfold lo;omega
  have hlo2:=ua (d:=d+1) (by omega)
  -- the frame
  have hframe:Go code (8+2*(nv:Int)) c fun c'=>c'.pc=pf+9+2*nv∧Pr o N (i_ [] f.ps al) (d+1) (sp-8) (sp-8-4*(nv:Int)) s c'∧c'.m (sp-8)=F∧c'.m (sp-4)=ja q∧∀a,sp≤a→c'.m a=c.m a:=by
   refine hstart.seq (m:=5+2*(nv:Int)) (fun c3 ⟨e1,e2,e3,e4,e5⟩=> ?_) (by omega);refine(mf hP15 e1 e2 (by decide) ⟨by omega,by omega,ha⟩).seq (m:=3+2*(nv:Int)) (fun c4 ⟨f1,f2,f3,f4,f5,f6⟩=> ?_) (by omega);refine(mf hP13 f1 f2 (by decide) ⟨by omega,by omega,by omega⟩).seq (m:=1+2*(nv:Int)) (fun c5 ⟨g1,g2,g3,g4,g5,g6⟩=> ?_) (by omega);refine jD g1 hAdd.head.1 (v:=sp-8) (by
    show some (wU (c5.r 14+c5.r 0))=_;rw [g2.s,g2.z,gG (by omega)];exact congrArg some (by omega)) fun c6 i1 i2 i3 i4 i5=> ?_
   have hst6:St ((d:Int)+1) (sp-8) (sp-8) c6:=⟨by rw [i2,cI (by decide)];exact g2.z,by rw [i2,cI (by decide)];exact g2.d,by rw [i2];exact ep (by decide),by rw [i2,cI (by decide),g2.s];omega⟩
   have hsm6:pSm c6 s:=by
    have h5:=(e4.push f3 f4 f5 (by omega)).push g3 g4 g5 (by omega);exact⟨fun i hi=>by rw [i3];exact h5.m i hi,i4.trans h5.i,i5.trans h5.o⟩
   have hm8:c6.m (sp-8)=F:=by
    rw [i3,g3,show sp-8=sp-4-4 by omega,p_,f6 13 (by decide)];exact e2.f
   have hm4:c6.m (sp-4)=ja q:=by
    rw [i3,g3,ku (by omega),f3,p_];exact e3
   have hmh:∀a,sp≤a→c6.m a=c.m a:=fun a ha=>by rw [i3,g3,ku (by omega),f3,ku (by omega),e5]
   refine(wG nv (p:=pf+9) (s:=s) hP0 i1 hst6 (by omega) (by omega) (by omega) hsm6).weak (fun c7 ⟨j1,j2,j3,j4,j5⟩=>⟨j1,⟨by rw [show(((d+1:Nat):Int))=(d:Int)+1 by omega];exact j2,⟨fun x hx=> ?_,fun x hx y hy e=> ?_⟩,fun x hx=> ?_,j3,hok,?_,⟨by omega,by omega⟩,hfu,⟨by omega,by omega⟩⟩,by rw [j4 _ (Int.le_refl _)];exact hm8,by rw [j4 _ (by omega)];exact hm4,fun a ha=>by rw [j4 a (by omega)];exact hmh a ha⟩) (by omega)
   ·rcases hoff x hx with⟨i,hi,he⟩|⟨_,j,hj1,hj2,he⟩
    ·obtain⟨hil,-⟩:=db.1 hi;have:va o (sp-8) x=sp+4*((f.ps.length:Int)-1-i):=by unfold va;rw [he,gG (by omega)];omega
     rw [this];exact⟨⟨by omega,by omega,by omega⟩,by omega⟩
    ·have:va o (sp-8) x=sp-8-4*(j:Int):=by unfold va;rw [he,pH,pH];omega
     rw [this];exact⟨⟨by omega,by omega,by omega⟩,by omega⟩
   ·refine hinj x hx y hy ?_;unfold va at e;rcases hoff x hx with⟨i,hi,he⟩|⟨_,j,hj1,hj2,he⟩<;>rcases hoff y hy with⟨i',hi',he'⟩|⟨_,j',hj1',hj2',he'⟩
    ·obtain⟨hil,-⟩:=db.1 hi;obtain⟨hil',-⟩:=db.1 hi';rw [he,he',pH,pH]at e;rw [he,he'];omega
    ·obtain⟨hil,-⟩:=db.1 hi;rw [he,he',pH,pH,pH]at e;exfalso;omega
    ·obtain⟨hil',-⟩:=db.1 hi';rw [he,he',pH,pH,pH]at e;exfalso;omega
    ·rw [he,he',pH,pH,pH,pH]at e;rw [he,he',pH,pH];omega
   ·rcases hoff x hx with⟨i,hi,he⟩|⟨hn,j,hj1,hj2,he⟩
    ·obtain⟨hil,-⟩:=db.1 hi;have:va o (sp-8) x=sp+4*((f.ps.length:Int)-1-i):=by unfold va;rw [he,gG (by omega)];omega
     obtain⟨a,ha'⟩:∃a,al[i]?=some a:=⟨_,bT (by omega)⟩
     rw [this,j4 _ (by omega),hmh _ (by omega),wl f.ps al [] i x a hN.nd hi ha',←hargs i a ha',hal]
    ·have:va o (sp-8) x=sp-8-4*(j:Int):=by unfold va;rw [he,pH,pH];omega
     rw [this,j5 j hj1 hj2,oT f.ps al [] x hn];rfl
   ·exact okVs.bind f.ps al (fun p hp=>by simp at hp) hao
  cases hb:mL g fs (d+1) (i_ [] f.ps al) f.body s with
  | none=>rw [hb]at h;simp at h
  | some rb=>
   rw [hb]at h;have hB:∀c',(c'.pc=pf+9+2*nv∧Pr o N (i_ [] f.ps al) (d+1) (sp-8) (sp-8-4*(nv:Int)) s c'∧c'.m (sp-8)=F∧c'.m (sp-4)=ja q∧∀a,sp≤a→c'.m a=c.m a)→
     SR code (pf+9+2*nv+fY f.body) (pf+10+2*nv+fY f.body) 50 0 o N (d+1) (sp-8) (sp-8-4*(nv:Int)) c' s rb:=fun c' ⟨e1,e2,_⟩=>
    ih.b g (Nat.lt_succ_self g) (d+1) _ f.body s rb hb o N (pf+9+2*nv) (pf+10+2*nv+fY f.body) (sp-8) (sp-8-4*(nv:Int)) c' hN.so hBody (by omega) (by omega) e1 e2 (by omega)
   cases rb with
   | err e=>cases h;exact fun he=>hframe.seq (fun c' hc'=>hB c' hc' he) (by omega)
   | ok qr s1=>
    obtain⟨vs1,qr⟩:=qr;cases h;have hf1:0≤s1.fuel:=by
     obtain⟨_,c2,_,_,hP⟩:=hframe;exact(hB c2 hP).1
    refine⟨hf1,hframe.seq (m:=100*(s.fuel-s1.fuel)+10) (fun c1 hc1=>(hB c1 hc1).2.seq (m:=9) (fun c2 ⟨e1,e2,e3,e4,e5⟩=> ?_) (by omega)) (by omega)⟩;obtain⟨k1,k2,k3,k4,k5⟩:=hc1;have hva:∀x∈N,∀a,(a=sp-8∨a=sp-4∨sp+4*(al.length:Int)≤a)→a≠va o (sp-8) x:=fun x hx a ha'=>by
     rcases hoff x hx with⟨i,hi,he⟩|⟨_,j,hj1,hj2,he⟩
     ·obtain⟨hil,-⟩:=db.1 hi;unfold va;rw [he,gG (by omega)];omega
     ·unfold va;rw [he,pH,pH];omega
    have hm8:c2.m (sp-8)=F:=(e4 _ (by omega) fun x hx=>hva x hx _ (.inl J)).trans k3;have hm4:c2.m (sp-4)=ja q:=(e4 _ (by omega) fun x hx=>hva x hx _ (.inr (.inl J))).trans k4;have hmh:∀a,sp+4*(al.length:Int)≤a→c2.m a=c.m a:=fun a ha'=>(e4 _ (by omega) fun x hx=>hva x hx _ (.inr (.inr ha'))).trans (k5 a (by omega))
    have hend:Go code 1 c2 fun c3=>c3.pc=pf+10+2*nv+fY f.body∧c3.r 1=qr.getD 0∧St ((d:Int)+1) (sp-8) (sp-8-4*(nv:Int)) c3∧pSm c3 s1∧c3.m=c2.m:=by
     rw [show(((d+1:Nat):Int))=(d:Int)+1 by omega]at e1;cases qr with
     | some v=>exact Go.done (by decide) ⟨(e5.2 v rfl).1,(e5.2 v rfl).2,e1,e2,rfl⟩
     | none=>
      refine jD (e5.1 J) hR.head.1 (v:=0) (by
       show some (wU (c2.r 0+c2.r 0))=_;rw [e1.z];rfl) fun c3 g1 g2 g3 g4 g5=>Go.done (by decide) ⟨by rw [g1];omega,by rw [g2];exact ep (by decide),e1.of fun k hk=>by rw [g2];exact cI (by omega),⟨fun i hi=>by rw [g3];exact e2.m i hi,g4.trans e2.i,g5.trans e2.o⟩,g3⟩
    refine hend.seq (m:=8) (fun c3 ⟨f1,f2,f3,f4,f5⟩=> ?_) (by decide);refine jD f1 (by
     have:=hR.head.2.head.1;rw [show pf+10+2*nv+fY f.body=pf+9+2*nv+fY f.body+1 by omega];exact this) (v:=sp-8) (by
     show some (wU (c3.r 13+c3.r 0))=_;rw [f3.f,f3.z,Int.add_zero,gG (by omega)]) fun c4 g1 g2 g3 g4 g5=> ?_
    have h14:c4.r 14=sp-8:=by rw [g2];exact ep (by decide)
    refine(u5 (r:=13) hQ13 (g1.trans (by omega)) h14 (by decide) ⟨by omega,by omega,by omega⟩).seq (m:=5) (fun c5 ⟨i1,i2,i3,i4⟩=> ?_) (by decide);refine(u5 (sp:=sp-4) (r:=15) hQ15 (i1.trans (by omega)) (by rw [i3];omega) (by decide) ⟨by omega,by omega,by omega⟩).seq (m:=3) (fun c6 ⟨j1,j2,j3,j4⟩=> ?_) (by decide);have hm6:c6.m=c2.m:=by rw [j4.m,i4.m,g3,f5]
    have h13:c6.r 13=F:=by rw [j4.r 13 (by decide),i2,g3,f5];exact hm8
    have h15':c6.r 15=ja q:=by rw [j2,i4.m,g3,f5];exact hm4
    have h0:c6.r 0=0:=by rw [j4.r 0 (by decide),i4.r 0 (by decide),g2,cI (by decide)];exact f3.z
    have h1:c6.r 1=qr.getD 0:=by rw [j4.r 1 (by decide),i4.r 1 (by decide),g2,cI (by decide)];exact f2
    have h12':c6.r 12=(d:Int)+1:=by rw [j4.r 12 (by decide),i4.r 12 (by decide),g2,cI (by decide)];exact f3.d
    refine jY (p:=pf+15+2*nv+fY f.body) (j1.trans (by omega)) (by
     have:=hEnd.head.1;rw [show pf+15+2*nv+fY f.body=pf+4+2+2+1+2*nv+fY f.body+2+2+2 by omega];exact this) (v:=(d:Int)) (by
     show some (wU (c6.r 12+4294967295))=_;rw [h12',pH];exact congrArg some (by omega)) fun c7 l1 l2 l3 l4 l5=> ?_
    refine Hs (d:=0) (a:=15) (x:=0) (by
     have:=hEnd.head.2.head.1;rw [l1,show pf+15+2*nv+fY f.body+1=pf+4+2+2+1+2*nv+fY f.body+2+2+2+1 by omega];exact this) (Go.done (by decide) ⟨?_,?_,⟨?_,?_,?_,?_⟩,⟨fun i hi=> ?_,?_,?_⟩,fun a ha'=> ?_⟩)
    ·show tV (wU (c7.r 15+0))=q;rw [l2,cI (by decide),h15'];exact GW (by omega)
    ·show rp c7.r 0 (ja (c7.pc+1)) 1=_;rw [cI (by decide),l2,cI (by decide)];exact h1
    ·show rp c7.r 0 (ja (c7.pc+1)) 0=_;rw [DL,l2,cI (by decide)];exact h0
    ·show rp c7.r 0 (ja (c7.pc+1)) 12=_;rw [cI (by decide),l2,ep (by decide)]
    ·show rp c7.r 0 (ja (c7.pc+1)) 13=_;rw [cI (by decide),l2,cI (by decide)];exact h13
    ·show rp c7.r 0 (ja (c7.pc+1)) 14=_;rw [cI (by decide),l2,cI (by decide),j3];omega
    ·show c7.m _=_;rw [l3,hm6,←f5];exact f4.m i hi
    ·exact(((l4.trans j4.i).trans i4.i).trans g4).trans f4.i
    ·exact(((l5.trans j4.o).trans i4.o).trans g5).trans f4.o
    ·show c7.m a=_;rw [l3,hm6];exact hmh a ha'
theorem KH(hF:VF fs)(hC:CF code fs S)(g:Nat):HD code fs S g:=by
 induction g with
 | zero=>exact⟨⟨fun _ h=>absurd h (Nat.not_lt_zero _),fun _ h=>absurd h (Nat.not_lt_zero _),fun _ h=>absurd h (Nat.not_lt_zero _)⟩,fun _ h=>absurd h (Nat.not_lt_zero _),fun _ h=>absurd h (Nat.not_lt_zero _),fun _ h=>absurd h (Nat.not_lt_zero _)⟩
 | succ g ih=>
  have up:∀{T:Nat→Prop},(∀g'<g,T g')→T g→∀g'<g+1,T g':=fun{T} h1 h2 g' hg=>by
   rcases Nat.lt_or_eq_of_le (Nat.le_of_lt_succ hg)with h|h
   ·exact h1 g' h
   ·exact h▸h2
  exact⟨⟨up ih.x (Hl hF hC.cp ih.toHA),up ih.k (Ho hF ih.toHA),up ih.c (Hp hF hC ih)⟩,up ih.b (Hq hF ih),up ih.s (Hn hF ih),up ih.w (Hm hF ih)⟩
end
theorem lU{x:Ba}{l:List Ba}:cD x l=true↔x∈l:=by
 unfold cD;rw [List.any_eq_true];constructor
 ·rintro ⟨y,h1,h2⟩;have h2:x=y:=by simpa using h2
  exact h2▸h1
 ·exact fun h=>⟨x,h,by simp⟩
mutual
theorem Nr{fs:List Tf}{ns N:List Ba}(hs:∀x∈ns,x∈N):∀t:Tx,eX fs ns t=0→eX fs N t=0
 | .mk k n nm v kids,h=>by
  obtain⟨h1,h2⟩:=bF.1 h;refine bF.2 ⟨?_,zt hs kids h2⟩;by_cases hk:k=2
  ·rw [aw hk]at h1 ⊢;by_cases hm:cD nm ns=true
   ·rw [aw (lU.2 (hs nm (lU.1 hm)))]
   ·rw [ai hm]at h1;exact absurd h1 (by decide)
  ·rw [ai hk]at h1 ⊢;exact h1
theorem zt{fs:List Tf}{ns N:List Ba}(hs:∀x∈ns,x∈N):∀l:List Tx,jJ fs ns l=0→jJ fs N l=0
 | [],_=>rfl
 | t::r,h=>by
  obtain⟨h1,h2⟩:=bF.1 h;exact bF.2 ⟨Nr hs t h1,zt hs r h2⟩
end
theorem XO.list{fs:List Tf}{N:List Ba}:∀{l:List Tx},GXs l→qH l=true→jJ fs N l=0→∀u∈l,XO fs N u
 | [],_,_,_,u,hu=>by simp at hu
 | t::r,hg,hr,he,u,hu=>by
  have hr2:(rX t&&qH r)=true:=hr;rw [Bool.and_eq_true]at hr2;obtain⟨e1,e2⟩:=bF.1 he;rcases List.mem_cons.1 hu with rfl|hu
  ·exact⟨hg.1,hr2.1,e1⟩
  ·exact XO.list hg.2 hr2.2 e2 u hu
theorem Fg:∀{l:List Tx}{t:Tx},t∈l→dX t≤gC l
 | [],t,h=>by simp at h
 | a::r,t,h=>by
  show dX t≤max (dX a) (gC r);rcases List.mem_cons.1 h with rfl|h
  ·omega
  ·have:=Fg h;omega
theorem zL(fs:List Tf)(ns:List Ba)(k:Int)(nm:Ba)(ve:SV)(es:List Tx)(vb:SV)(body:List Ty)(vl:SV)(els:List Ty):bY fs ns (.mk k nm ve es vb body vl els)=
  ((dm fs (dm fs (if k=1 then ns++ [nm]else ns) body).1 els).1,fst (if k=2 then(if cD nm ns=true then 0 else 21)else 0) (fst (jJ fs ns es) (fst (if k=1 then(if cD nm ns=true then 22 else 0)else 0) (fst (dm fs (if k=1 then ns++ [nm]else ns) body).2 (dm fs (dm fs (if k=1 then ns++ [nm]else ns) body).1 els).2)))):=rfl
theorem vZ(fs:List Tf)(ns:List Ba)(t:Ty)(r:List Ty):dm fs ns (t::r)=((dm fs (bY fs ns t).1 r).1,fst (bY fs ns t).2 (dm fs (bY fs ns t).1 r).2):=rfl
mutual
theorem FV{fs:List Tf}:∀(t:Ty)(ns:List Ba),∀x∈ns,x∈(bY fs ns t).1
 | .mk k nm ve es vb body vl els,ns,x,hx=>by
  rw [zL];refine kY els _ x (kY body _ x ?_);split
  ·exact List.mem_append_left _ hx
  ·exact hx
theorem kY{fs:List Tf}:∀(l:List Ty)(ns:List Ba),∀x∈ns,x∈(dm fs ns l).1
 | [],ns,x,hx=>hx
 | t::r,ns,x,hx=>by
  rw [vZ];exact kY r _ x (FV t ns x hx)
end
mutual
theorem Mv{fs:List Tf}:∀(t:Ty)(ns N:List Ba)(d:Nat),(∀x∈(bY fs ns t).1,x∈N)→GY t→rY t=true→(bY fs ns t).2=0→CT d t=false→SO fs N t
 | .mk k nm ve es vb body vl els,ns,N,d,hN,hg,hr,he,hd=>by
  have hr2:(Ay k nm es.length body.length els.length&&qH es&&mQ body&&mQ els)=true:=hr;simp only [Bool.and_eq_true]at hr2;obtain⟨⟨⟨h1,h2⟩,h3⟩,h4⟩:=hr2;have hd2:(decide (d>8) || decide (gC es>8) || dY (d+1) body || dY (d+1) els)=false:=hd;simp only [Bool.or_eq_false_iff,decide_eq_false_iff_not]at hd2;obtain⟨⟨⟨d1,d2⟩,d3⟩,d4⟩:=hd2;have hsub:=FV (fs:=fs) (.mk k nm ve es vb body vl els) ns;rw [zL]at he hN;obtain⟨e1,he⟩:=bF.1 he;obtain⟨e2,he⟩:=bF.1 he;obtain⟨e3,he⟩:=bF.1 he;obtain⟨e4,e5⟩:=bF.1 he;have hns:∀x∈ns,x∈N:=fun x hx=>hN x (hsub x hx)
  refine⟨h1,fun u hu=>⟨XO.list hg.2.1.2 h2 (zt hns es e2) u hu,by have:=Fg hu;omega⟩,fun hk=> ?_,⟨hg.2.2.1.1,uK body _ N (d+1) (fun x hx=>hN x (kY els _ x hx)) hg.2.2.1.2 h3 e4 d3⟩,hg.2.2.2.1,uK els _ N (d+1) hN hg.2.2.2.2 h4 e5 d4⟩;by_cases hk1:k=1
  ·refine hN nm (kY els _ nm (kY body _ nm ?_));rw [aw hk1];exact List.mem_append_right _ (List.mem_singleton_self _)
  ·have hk2:k=2:=by omega
   rw [aw hk2]at e1;by_cases hm:cD nm ns=true
   ·exact hns nm (lU.1 hm)
   ·rw [ai hm]at e1;exact absurd e1 (by decide)
theorem uK{fs:List Tf}:∀(l:List Ty)(ns N:List Ba)(d:Nat),(∀x∈(dm fs ns l).1,x∈N)→GYs l→mQ l=true→(dm fs ns l).2=0→dY d l=false→SOs fs N l
 | [],_,_,_,_,_,_,_,_=>trivial
 | t::r,ns,N,d,hN,hg,hr,he,hd=>by
  have hr2:(rY t&&mQ r)=true:=hr;rw [Bool.and_eq_true]at hr2;have hd2:(CT d t || dY d r)=false:=hd;rw [Bool.or_eq_false_iff]at hd2;rw [vZ]at he hN;obtain⟨e1,e2⟩:=bF.1 he;exact⟨Mv t ns N d (fun x hx=>hN x (kY r _ x hx)) hg.1 hr2.1 e1 hd2.1,uK r _ N d hN hg.2 hr2.2 e2 hd2.2⟩
end
structure Jo(ps ns:List Ba)(o:Om)(n:Int)(vs:List Ba):Prop where
 ens:ns=ps++vs
 nd:ns.Nodup
 en:(vs.length:Int)=n
 p:∀(i:Nat) x,ps[i]?=some x→bO o x=8+4*((ps.length:Int)-1-i)
 v:∀(j:Nat) x,vs[j]?=some x→bO o x=wU (-(4*((j:Int)+1)))
theorem Jo.add{ps ns:List Ba}{o:Om}{n:Int}{vs:List Ba}{nm:Ba}(h:Jo ps ns o n vs)(hn:nm∉ns):Jo ps (ns++ [nm]) (gH o nm (wU (-(4*(n+1))))) (n+1) (vs++ [nm]):=by
 refine⟨by rw [h.ens,List.append_assoc],List.nodup_append.2 ⟨h.nd,by simp,fun a ha b hb e=> ?_⟩,by rw [bA,bV,←h.en];omega,fun i x hi=> ?_,fun j x hj=> ?_⟩
 ·rw [List.mem_singleton.1 hb]at e;exact hn (e▸ha)
 ·rw [iw,ai fun e=>hn (by rw [e,h.ens];exact List.mem_append_left _ (cd hi))];exact h.p i x hi
 ·by_cases hl:j<vs.length
  ·rw [List.getElem?_append_left hl]at hj;rw [iw,ai fun e=>hn (by rw [e,h.ens];exact List.mem_append_right _ (cd hj))];exact h.v j x hj
  ·rw [List.getElem?_append_right (by omega)]at hj;have:j=vs.length:=by
    have:=(db.1 hj).1;simp at this;omega
   subst this;rw [Nat.sub_self]at hj;cases hj;rw [iw,aw J,h.en]
theorem ze(k:Int)(nm:Ba)(ve:SV)(es:List Tx)(vb:SV)(body:List Ty)(vl:SV)(els:List Ty)(p:Om×Int):gD (.mk k nm ve es vb body vl els) p=gDs els (gDs body (if k=1 then(gH p.1 nm (wU (-(4*(p.2+1)))),p.2+1)else p)):=rfl
mutual
theorem PJ{fs:List Tf}{ps:List Ba}:∀(t:Ty)(ns:List Ba)(p:Om×Int),(∃vs,Jo ps ns p.1 p.2 vs)→(bY fs ns t).2=0→∃vs,Jo ps (bY fs ns t).1 (gD t p).1 (gD t p).2 vs
 | .mk k nm ve es vb body vl els,ns,p,h,he=>by
  rw [zL]at he ⊢;obtain⟨e1,he⟩:=bF.1 he;obtain⟨e2,he⟩:=bF.1 he;obtain⟨e3,he⟩:=bF.1 he;obtain⟨e4,e5⟩:=bF.1 he;rw [ze];refine AK els _ _ (AK body _ _ ?_ e4) e5;by_cases hk:k=1
  ·rw [aw hk]at e3;rw [aw hk,aw hk];obtain⟨vs,hvs⟩:=h;refine⟨_,hvs.add fun hm=> ?_⟩;rw [aw (lU.2 hm)]at e3;exact absurd e3 (by decide)
  ·rw [ai hk,ai hk];exact h
theorem AK{fs:List Tf}{ps:List Ba}:∀(l:List Ty)(ns:List Ba)(p:Om×Int),(∃vs,Jo ps ns p.1 p.2 vs)→(dm fs ns l).2=0→∃vs,Jo ps (dm fs ns l).1 (gDs l p).1 (gDs l p).2 vs
 | [],ns,p,h,_=>h
 | t::r,ns,p,h,he=>by
  rw [vZ]at he ⊢;obtain⟨e1,e2⟩:=bF.1 he;exact AK r _ _ (PJ t ns p h e1) e2
end
mutual
theorem K0:∀(t:Ty)(p:Om×Int),(gD t p).2=p.2+vY t
 | .mk k nm ve es vb body vl els,p=>by
  rw [ze,oo els,oo body,show vY (.mk k nm ve es vb body vl els)=(if k=1 then 1 else 0)+dD body+dD els from J];by_cases h:k=1
  ·rw [aw h,aw h];show p.2+1+_+_=_;omega
  ·rw [ai h,ai h];omega
theorem oo:∀(l:List Ty)(p:Om×Int),(gDs l p).2=p.2+dD l
 | [],p=>by show p.2=p.2+((0:Nat):Int);omega
 | t::r,p=>by
  show(gDs r (gD t p)).2=_;rw [oo r,K0 t,show dD (t::r)=vY t+dD r from J];omega
end
theorem EW(n:Int):∀(l:List Ba)(k:Int)(o:Om),l.Nodup→(∀(i:Nat) x,l[i]?=some x→bO (gP n k l o) x=8+4*(n-1-(k+i)))∧∀x,x∉l→bO (gP n k l o) x=bO o x
 | [],k,o,_=>⟨fun i x h=>by simp at h,fun _ _=>rfl⟩
 | p::r,k,o,h=>by
  rw [List.nodup_cons]at h;obtain⟨i1,i2⟩:=EW n r (k+1) (gH o p (8+4*(n-1-k))) h.2;refine⟨fun i x hi=> ?_,fun x hx=> ?_⟩
  ·cases i with
   | zero=>
    cases hi;show bO (gP n (k+1) r _) p=_;rw [i2 p h.1,iw,aw J];show 8+4*(n-1-k)=8+4*(n-1-(k+0));rw [Int.add_zero]
   | succ i=>
    have:=i1 i x hi;show bO (gP n (k+1) r _) x=_;rw [this];omega
  ·rw [List.mem_cons,not_or]at hx;show bO (gP n (k+1) r _) x=_;rw [i2 x hx.2,iw,ai fun e=>hx.1 e.symm]
theorem Ff:∀(l ns:List Ba),ns.Nodup→sM ns l=0→(ns++l).Nodup
 | [],ns,h,_=>by rw [List.append_nil];exact h
 | x::r,ns,h,he=>by
  obtain⟨e1,e2⟩:=bF.1 he;have hx:x∉ns:=fun hm=>by rw [aw (lU.2 hm)]at e1;exact absurd e1 (by decide)
  have:=Ff r (ns++ [x]) (List.nodup_append.2 ⟨h,by simp,fun a ha b hb e=>hx (by rw [List.mem_singleton.1 hb]at e;exact e▸ha)⟩) e2;rw [List.append_assoc]at this;exact this
theorem Nk{fs:List Tf}{f:Tf}(hg:GF f)(hr:mQ f.body=true)(h:kW fs f=0):pFO fs f (dm fs f.ps f.body).1:=by
 obtain⟨h1,h2⟩:=bF.1 h;obtain⟨h3,h4⟩:=bF.1 h2;have hb:¬(f.ps.length>4∨f.ps.length+dD f.body>12∨cM f.body>400∨dY 1 f.body=true):=fun hb=>by
  rw [aw hb]at h1;exact absurd h1 (by decide)
 simp only [not_or,Bool.not_eq_true]at hb;obtain⟨b1,b2,b3,b4⟩:=hb;have hnd:f.ps.Nodup:=by
  have:=Ff f.ps [] (by simp) h3;exact this
 have hj0:Jo f.ps f.ps (gP f.ps.length 0 f.ps []) 0 []:=⟨by rw [List.append_nil],hnd,rfl,fun i x hi=>by
  rw [(EW f.ps.length f.ps 0 [] hnd).1 i x hi,Int.zero_add],fun j x hj=>by simp at hj⟩
 obtain⟨vs,hj⟩:=AK (fs:=fs) f.body f.ps (gP f.ps.length 0 f.ps [],0) ⟨[],hj0⟩ h4;have hgo:dP f=gDs f.body (gP f.ps.length 0 f.ps [],0):=J;have hnv:(dP f).2=(dD f.body:Int):=by rw [hgo,oo];omega
 rw [←hgo]at hj;have hvl:=hj.en;have hns:=hj.ens;have hndN:=hj.nd;have off:∀x∈(dm fs f.ps f.body).1,(∃i:Nat,f.ps[i]?=some x∧bO (dP f).1 x=8+4*((f.ps.length:Int)-1-i))∨(x∉f.ps∧∃j:Nat,1≤j∧j≤(dP f).2.toNat∧bO (dP f).1 x=wU (-(4*(j:Int)))∧vs[j-1]?=some x):=fun x hx=>by
  rw [hns]at hx;by_cases hp:x∈f.ps
  ·obtain⟨i,hi⟩:=List.getElem?_of_mem hp;exact .inl ⟨i,hi,hj.p i x hi⟩
  ·rcases List.mem_append.1 hx with hx|hx
   ·exact absurd hx hp
   ·obtain⟨j,hjx⟩:=List.getElem?_of_mem hx;have hl:=(db.1 hjx).1;refine .inr ⟨hp,j+1,by omega,by omega,?_,hjx⟩;rw [hj.v j x hjx];rfl
 refine⟨uK f.body f.ps _ 1 (fun _ h=>h) hg.2.2.2.2.1 hr h4 b4,by omega,by omega,hnd,fun x hx=> ?_,fun x hx y hy e=> ?_⟩
 ·rcases off x hx with h|⟨h1,j,h2,h3,h4,_⟩
  ·exact .inl h
  ·exact .inr ⟨h1,j,h2,h3,h4⟩
 ·rcases off x hx with⟨i,hi,he⟩|⟨_,j,hj1,hj2,he,hv⟩<;>rcases off y hy with⟨i',hi',he'⟩|⟨_,j',hj1',hj2',he',hv'⟩
  ·have:i=i':=by rw [he,he']at e;omega
   subst this;exact d5 (hi.symm.trans hi')
  ·have hl:=(db.1 hi).1;rw [he,he',pH]at e;exfalso;omega
  ·have hl:=(db.1 hi').1;rw [he,he',pH]at e;exfalso;omega
  ·have:j=j':=by rw [he,he',pH,pH]at e;omega
   subst this;exact d5 (hv.symm.trans hv')
theorem Ax{fs:List Tf}(h:∀(i:Nat)(f:Tf),fs[i]?=some f→ss fs f.name=(i:Int)):(fs.map Tf.name).Nodup:=by
 refine List.pairwise_iff_getElem.2 fun i j hi hj hij e=> ?_
 rw [List.getElem_map,List.getElem_map]at e;have hil:i<fs.length:=by simpa using hi
 have hjl:j<fs.length:=by simpa using hj
 have h1:=h i fs[i] (bT hil);have h2:=h j fs[j] (bT hjl);rw [e]at h1;omega
theorem CZ{S:Ba→Int}{code:List Qi}:∀(l:List Tf)(p:Nat),cAt code p (C0 S l p)→p+x_ l≤1984→∀x f,dc l x=some f→∃q:Nat,iO l p x=(q:Int)∧cAt code q (zF S f q)∧q+wF f≤1984
 | [],p,_,_,x,f,hf=>by simp [dc]at hf
 | a::r,p,hc,hl,x,f,hf=>by
  have hc':cAt code p (zF S a p++C0 S r (p+wF a)):=hc;have hw:x_ (a::r)=wF a+x_ r:=J;obtain⟨h1,h2⟩:=hc'.app;rw [xZ]at h2;unfold iO;unfold dc at hf;rw [List.find?_cons]at hf;by_cases hn:a.name=x
  ·rw [decide_eq_true hn]at hf;cases hf;rw [aw hn];exact⟨p,J,h1,by omega⟩
  ·rw [decide_eq_false hn]at hf;rw [ai hn];exact CZ r (p+wF a) h2 (by omega) x f hf
theorem Nz{fs:List Tf}{f:Tf}(hg:GP fs)(h:Fine fs f)(hr:∀f∈fs,mQ f.body=true)(hl:(jN fs).length≤1984):CF (jN fs) fs (iO fs 3):=by
 have hle:(jN fs).length=3+x_ fs:=by
  unfold jN;rw [bA,qy];rfl
 refine⟨fun x g hx=>CZ fs 3 ?_ (by omega) x g hx,fun x g hx=> ?_⟩
 ·have:=cAt.of (a:= [qi 16 14 0 16384,qi 40 15 0 (wU (iO fs 3 ed-1)),⟨48,0,0,0,0⟩]) (l:=C0 (iO fs 3) fs 3) (b:= []);rw [List.append_nil]at this;exact this
 ·have hm:=kw hx;exact⟨_,Nk (hg.2 g hm) (hr g hm) (h.each g hm)⟩
def Rq(code:List Qi)(c:Qs)(fuel:Int):Re Int→Prop
 | .ok v s1=>0≤s1.fuel∧Go code (100*(fuel-s1.fuel)+50) c fun c'=>code[c'.pc]?=some ⟨48,0,0,0,0⟩∧c'.out=s1.out∧∀i:Nat,i<256→c'.m (8192+4*(i:Int))=s1.mem i
 | .err e=>e=26→Go code (100*fuel+150) c (Bk code)
theorem GT{fs:List Tf}{f:Tf}{ins:List Int}{fuel:Int}{g:Nat}{r:Re Int}(hg:GP fs)(h:Fine fs f)(hr:∀f∈fs,mQ f.body=true)(hl:(jN fs).length≤1984)(hi:∀x∈ins,oW x)(hf0:0≤fuel)(hf:fuel≤1000000000000)
  (he:tF g fs 0 f [] (IM ins fuel)=some r):Rq (jN fs) ⟨0,fun _=>0,fun _=>0,ins,[]⟩ fuel r:=by
 have hC:=Nz hg h hr hl;obtain⟨pm,hpm,hcm,hlm⟩:=hC.fn _ _ h.main;have hc:cAt (jN fs) 0 (jN fs):=fun j i hj=>by rw [Nat.zero_add];exact hj
 have hc':cAt (jN fs) 0 ([qi 16 14 0 16384,qi 40 15 0 (wU (iO fs 3 ed-1)),⟨48,0,0,0,0⟩]++C0 (iO fs 3) fs 3):=hc;have h3:=hc'.app.1;have hfn:=sy h.main;have hs:Go (jN fs) 2 ⟨0,fun _=>0,fun _=>0,ins,[]⟩ fun c=>c.pc=pm∧c.r 15=ja 2∧St ((0:Nat):Int) 0 16384 c∧pSm c (IM ins fuel):=by
  refine jY (c:=⟨0,fun _=>0,fun _=>0,ins,[]⟩) (p:=0) J h3.head.1 (v:=16384) J fun c1 e1 e2 e3 e4 e5=> ?_
  refine r5 (d:=15) (a:=0) (x:=wU (iO fs 3 ed-1)) (by rw [e1];exact h3.head.2.head.1) (Go.done (by decide) ⟨?_,?_,⟨?_,?_,?_,?_⟩,⟨fun i _=> ?_,e4,e5⟩⟩)
  ·show tV (wU (ja c1.pc+_))=pm;rw [e1,hpm];exact mT J (by omega) (by omega)
  ·show rp c1.r 15 (ja (c1.pc+1)) 15=_;rw [ep (by decide),e1]
  ·show rp c1.r 15 (ja (c1.pc+1)) 0=0;rw [cI (by decide),e2];rfl
  ·show rp c1.r 15 (ja (c1.pc+1)) 12=_;rw [cI (by decide),e2];rfl
  ·show rp c1.r 15 (ja (c1.pc+1)) 13=0;rw [cI (by decide),e2];rfl
  ·show rp c1.r 15 (ja (c1.pc+1)) 14=16384;rw [cI (by decide),e2];rfl
  ·show c1.m _=0;rw [e3]
 have hR:∀c,(c.pc=pm∧c.r 15=ja 2∧St ((0:Nat):Int) 0 16384 c∧pSm c (IM ins fuel))→CR (jN fs) 2 0 0 16384 0 c (IM ins fuel) r:=fun c ⟨e1,e2,e3,e4⟩=>
  (KH h.vf hC (g+1)).c g (Nat.lt_succ_self g) 0 f [] (IM ins fuel) r he 0 16384 c 2 (by rw [hfn];exact h.main) (by rw [h.noP];rfl) (by simp) (by rw [hfn,hpm];exact e1) e2 (by decide) e3 e4 (Ky hi hf) hf0 rfl (by decide) (by decide) (by decide) (fun i x hi=>by simp at hi)
 cases r with
 | err e=>exact fun h26=>hs.seq (fun c hc=>hR c hc h26) (by show 2+(100*fuel+100)≤_;omega)
 | ok v s1=>
  have hf1:0≤s1.fuel:=by
   obtain⟨_,c2,_,_,hP⟩:=hs;exact(hR c2 hP).1
  refine⟨hf1,hs.seq (fun c hc=>(hR c hc).2.weak (fun c' ⟨e1,e2,e3,e4,e5⟩=>⟨?_,e4.o,e4.m⟩) (Int.le_refl _)) (by show 2+(100*(fuel-s1.fuel)+45)≤_;omega)⟩;rw [e1];exact h3.head.2.head.2.head.1
structure Msc(code:List Qi)(s:Mm):Prop where
 hs:MO s 64
 hb:byL s.d
 rt:∀p:Nat,p<64→s.r.getD p 0=we p
 im:∀(k:Nat)(i:Qi),code[k]?=some i→∀j:Nat,j<4→s.i[256+4*k+j]?=(fR (mX i))[j]?
 len:code.length≤1984
 va:∀(k:Nat)(i:Qi),code[k]?=some i→VQ i∧0≤i.imm∧i.imm<4294967296
structure Sim(code:List Qi)(c:Qs)(x:Int)(s:Mm):Prop where
 k:Msc code s
 mem:∀a,AB a→AI s.d a.toNat=c.m a
 h0:c.r 0=0
 hr:∀k,0≤c.r k∧c.r k<4294967296
 pc:c.pc<1984→x=ja c.pc
 xb:0≤x∧x<4294967296
 hi:∀v∈c.inp,0≤v∧v<4294967296
theorem MA{p:Nat}(h:0<p∧p<32):we p/4%2=1:=by
 unfold we;rw [ai (by omega),aw (by omega)];rfl
theorem JZ{p:Nat}(h:32≤p):we p=3:=by
 unfold we;rw [aw h]
theorem Sim.pcl{code:List Qi}{c:Qs}{x:Int}{s:Mm}(h:Sim code c x s){i:Qi}(hc:code[c.pc]?=some i):c.pc<1984∧x=256+4*(c.pc:Int):=by
 obtain⟨h1,-⟩:=db.1 hc;have:=h.k.len;exact⟨by omega,h.pc (by omega)⟩
theorem Sim.stx{code:List Qi}{c:Qs}{x:Int}{s:Mm}(h:Sim code c x s){i:Qi}(hc:code[c.pc]?=some i){st:Int}(hst:0≤st∧st<1000000000000000):Stx s i x c.r st:=by
 obtain⟨h1,h2⟩:=h.pcl hc;obtain⟨hv,him⟩:=h.k.va _ _ hc;have hl:=h.k.hs.d;refine⟨⟨him,hv,⟨by omega,by omega⟩,by omega,fun k h3 h4=> ?_,fun k hk=> ?_⟩,by omega,h.h0,h.hr,hst⟩
 ·unfold xR;rw [show((x+k)/256).toNat=(x+k).toNat/256 by omega,h.k.rt _ (by omega),MA (by omega),decide_eq_true (by omega)];rfl
 ·rw [show x.toNat+k=256+4*c.pc+k by omega];exact h.k.im _ _ hc k hk
theorem Ai{code:List Qi}{s:Mm}(h:Msc code s){a:Int}(ha:AB a){q:Int}(hq:q=1∨q=2):∀k:Int,0≤k→k<4→xR s (IntKind.u32.wrap (a+k)) q=true:=fun k h1 h2=>by
 obtain⟨ha1,ha2,ha3⟩:=ha;have hl:=h.hs.d;rw [cf (by omega)];unfold xR;rw [show((a+k)/256).toNat=(a+k).toNat/256 by omega,h.rt _ (by omega),JZ (by omega),decide_eq_true (by omega)];rcases hq with rfl|rfl<;>rfl
theorem oj{d:List Int}{a k:Nat}{l:List Int}(h:a+l.length≤d.length):(pk d a l).getD k 0=if a≤k∧k<a+l.length then l.getD (k-a) 0 else d.getD k 0:=by
 rw [List.getD_eq_getElem?_getD,o_];by_cases h1:a≤k∧k<a+l.length
 ·rw [aw h1,aw ⟨h1.1,h1.2,by omega⟩,List.getD_eq_getElem?_getD]
 ·rw [ai h1,ai (fun h2=>h1 ⟨h2.1,h2.2.1⟩),List.getD_eq_getElem?_getD]
theorem vw(d:List Int)(a:Nat):AI d a=((((0:Int)*256+d.getD (a+3) 0)*256+d.getD (a+2) 0)*256+d.getD (a+1) 0)*256+d.getD (a+0) 0:=rfl
theorem KD{d:List Int}{a b:Nat}{v:Int}(hv:0≤v∧v<4294967296)(ha:a+4≤d.length)(h4:a%4=0∧b%4=0):AI (pk d a (fR v)) b=if b=a then v else AI d b:=by
 have hl:(fR v).length=4:=J;rw [vw,oj (by omega),oj (by omega),oj (by omega),oj (by omega),hl];by_cases h:b=a
 ·subst h;rw [aw (by omega),aw (by omega),aw (by omega),aw (by omega),aw J,show b+3-b=3 by omega,show b+2-b=2 by omega,show b+1-b=1 by omega,show b+0-b=0 by omega];show(((0*256+v/16777216%256)*256+v/65536%256)*256+v/256%256)*256+v%256=v;omega
 ·rw [ai (by omega),ai (by omega),ai (by omega),ai (by omega),ai h,vw]
theorem FM{d:List Int}{a:Nat}:∀{l:List Int},byL d→byL l→byL (pk d a l):=fun{l} h1 h2 x hx=>by
 obtain⟨k,hk⟩:=List.getElem?_of_mem hx;rw [o_]at hk;split at hk
 ·exact h2 x (cd hk)
 ·exact h1 x (cd hk)
theorem FL(v:Int):byL (fR v):=fun x hx=>by
 have:x=v%256∨x=v/256%256∨x=v/65536%256∨x=v/16777216%256:=by
  simpa [fR]using hx
 omega
theorem D8(o:BinOp)(ho:o= .and∨o= .or∨o= .xor)(a b:Int):oW (bits o .u32 a b):=by
 rcases ho with rfl|rfl|rfl<;>exact lC _
theorem OL{op a b v:Int}(h:xL op a b=some v)(ha:0≤a∧a<4294967296)(hb:0≤b∧b<4294967296):0≤v∧v<4294967296:=by
 have key:∀z:Int,some (wU z)=some v→0≤v∧v<4294967296:=fun z hz=>by injection hz with hz;subst hz;exact lC z
 unfold xL at h;split at h
 ·exact key _ h
 split at h
 ·exact key _ h
 split at h
 ·injection h with h;subst h;exact D8 _ (by simp) _ _
 split at h
 ·injection h with h;subst h;exact D8 _ (by simp) _ _
 split at h
 ·injection h with h;subst h;exact D8 _ (by simp) _ _
 split at h
 ·exact key _ h
 split at h
 ·injection h with h;subst h;have h2:(0:Int)<2^(b%32).toNat:=Int.pow_pos (by decide);exact⟨Int.ediv_nonneg ha.1 (by omega),Int.lt_of_le_of_lt (Int.ediv_le_self _ ha.1) ha.2⟩
 split at h
 ·exact key _ h
 split at h
 ·split at h
  ·cases h
  ·injection h with h;subst h;exact⟨Int.ediv_nonneg ha.1 hb.1,Int.lt_of_le_of_lt (Int.ediv_le_self _ ha.1) ha.2⟩
 split at h
 ·injection h with h;subst h;unfold tr;split<;>decide
 ·cases h
theorem tS{r:Int→Int}{d v:Int}(h:r 0=0):rp r d v 0=0:=by
 unfold rp;rw [ai (fun h2=>h2.2 h2.1.symm)];exact h
theorem B5{r:Int→Int}{d v:Int}(h:∀k,0≤r k∧r k<4294967296)(hv:0≤v∧v<4294967296)(k:Int):0≤rp r d v k∧rp r d v k<4294967296:=by
 unfold rp;split
 ·exact hv
 ·exact h k
theorem Ar{y:Int}(h:tV y<1984):256≤y∧y%4=0∧y=ja (tV y):=by
 unfold tV at h ⊢;by_cases h2:256≤y∧y%4=0
 ·rw [aw h2]at h ⊢;unfold ja;omega
 ·rw [ai h2]at h;omega
theorem Sim.to{code:List Qi}{c:Qs}{x:Int}{s:Mm}(h:Sim code c x s){p:Nat}{r:Int→Int}{x1:Int}(h0:r 0=0)(hr:∀k,0≤r k∧r k<4294967296)(hp:p<1984→x1=ja p)(hx:0≤x1∧x1<4294967296):
  Sim code {c with pc:=p,r:=r} x1 s:=⟨h.k,h.mem,h0,hr,hp,hx,h.hi⟩
def FY(e:Me)(x:Int)(r:Int→Int)(st:Int)(s:Mm)(x1:Int)(r1:Int→Int)(st1 t y:Int)(s1:Mm):Prop:=
 bi prog 115 [.agg (sR x r st).toArray,Pt e.m] [be e.m 157 (mR e),own 5 1 ct (sv e.vd) s.d,own 5 1 ct (sv e.vi) s.i,own 3 1 eI (sv e.vr) s.r] [] (.agg (oC x1 r1 st1 t y).toArray) [be e.m 157 (mR e),own 5 1 ct (sv e.vd) s1.d,own 5 1 ct (sv e.vi) s1.i,own 3 1 eI (sv e.vr) s1.r]
theorem Sim.step(e:Me){code:List Qi}{c c1:Qs}{x:Int}{s:Mm}(h:Sim code c x s){i:Qi}(hc:code[c.pc]?=some i)(h1:wq i c=some c1)(ho:i.op≠48){st:Int}(hst:0≤st∧st<1000000000000000):
  ∃x1 s1,Sim code c1 x1 s1∧c1.inp=c.inp∧c1.out=c.out∧FY e x c.r st s x1 c1.r (st+1) 0 0 s1:=by
 have hx:=h.stx hc hst;obtain⟨hp1,hp2⟩:=h.pcl hc;have hpx:x=ja c.pc:=hp2;have hx4:0≤x+4∧x+4<4294967296:=by omega
 have hn:c.pc+1<1984→x+4=ja (c.pc+1):=fun _=>by unfold ja;omega
 have hn2:x+4=ja (c.pc+1):=by unfold ja;omega
 unfold wq at h1;cases hu:xL i.op (c.r i.a) (if i.op<16 then c.r i.b else i.imm)with
 | some v=>
  rw [hu]at h1;injection h1 with h1;subst h1;exact⟨x+4,s,h.to (tS h.h0) (B5 h.hr (OL hu (h.hr _) (by split;exact h.hr _;exact(h.k.va _ _ hc).2))) hn hx4,J,J,Dw e s 64 h.k.hs i x c.r st hx v hu⟩
 | none=>
  rw [hu]at h1;dsimp only at h1;by_cases o1:i.op=23
  ·rw [aw o1]at h1;by_cases ha:AB (wU (c.r i.a+i.imm))
   ·rw [aw ha]at h1;injection h1 with h1;subst h1;have hl:=h.k.hs.d;have h4:wU (c.r i.a+i.imm)+4≤s.d.length:=by obtain⟨ha1,ha2,ha3⟩:=ha;omega
    have hb:=yX h.k.hb (wU (c.r i.a+i.imm)).toNat 4;have hm:=h.mem _ ha;refine⟨x+4,s,h.to (tS h.h0) (B5 h.hr ?_) hn hx4,J,J,?_⟩
    ·rw [←hm];have h256:(256:Int)^4=4294967296:=by decide
     exact⟨hb.1,by unfold AI;omega⟩
    ·have:=Dr e s 64 h.k.hs i x c.r st hx h.k.hb o1 h4 (Ai h.k ha (Or.inl J));rw [hm]at this;exact this
   ·rw [ai ha]at h1;cases h1
  rw [ai o1]at h1;by_cases o2:i.op=25
  ·rw [aw o2]at h1;by_cases ha:AB (wU (c.r i.a+i.imm))
   ·rw [aw ha]at h1;injection h1 with h1;subst h1;have hl:=h.k.hs.d;have ha':=ha;obtain⟨ha1,ha2,ha3⟩:=ha';have h4:wU (c.r i.a+i.imm)+4≤s.d.length:=by omega
    refine⟨x+4,{s with d:=pk s.d (wU (c.r i.a+i.imm)).toNat (fR (c.r i.d))},⟨⟨h.k.hs.dd (fS _ _ _),FM h.k.hb (FL _),h.k.rt,h.k.im,h.k.len,h.k.va⟩,fun a h2=> ?_,h.h0,h.hr,hn,hx4,h.hi⟩,J,J,Dp e s 64 h.k.hs i x c.r st hx o2 h4 (Ai h.k ha (Or.inr J))⟩;have h3:=h2;obtain⟨h5,h6,h7⟩:=h3;show AI (pk s.d _ _) a.toNat=mw c.m _ _ a;rw [KD (h.hr _) (by omega) ⟨by omega,by omega⟩];unfold mw;by_cases h8:a=wU (c.r i.a+i.imm)
    ·rw [aw (by omega),aw h8]
    ·rw [ai (by omega),ai h8];exact h.mem a h2
   ·rw [ai ha]at h1;cases h1
  rw [ai o2]at h1;by_cases o3:i.op=27
  ·rw [aw o3]at h1;injection h1 with h1;subst h1;have hw:=lC (c.r i.a+i.imm);refine⟨wU (c.r i.a+i.imm)/4*4,s,h.to (tS h.h0) (B5 h.hr (by rw [←hn2];exact hx4)) (fun hp=> ?_) (by omega),J,J,?_⟩
   ·obtain⟨q1,q2,q3⟩:=Ar hp;rw [←q3];omega
   ·have:=BV e s 64 h.k.hs i x c.r st hx o3;rw [hn2]at this;exact this
  rw [ai o3]at h1;by_cases o4:i.op=32
  ·rw [aw o4]at h1;injection h1 with h1;subst h1;have hw:=lC (x+4*i.imm);have:=Dv e s 64 h.k.hs i x c.r st hx o4;by_cases hq:c.r i.d=c.r i.a
   ·rw [aw hq]at this ⊢;refine⟨wU (x+4*i.imm),s,h.to h.h0 h.hr (fun hp=> ?_) hw,J,J,this⟩;obtain⟨q1,q2,q3⟩:=Ar hp;rw [←q3,hpx]
   ·rw [ai hq]at this ⊢;exact⟨x+4,s,h.to h.h0 h.hr hn hx4,J,J,this⟩
  rw [ai o4]at h1;by_cases o5:i.op=35
  ·rw [aw o5]at h1;injection h1 with h1;subst h1;have hw:=lC (x+4*i.imm);have:=BW e s 64 h.k.hs i x c.r st hx o5;by_cases hq:c.r i.d≥c.r i.a
   ·rw [aw hq]at this ⊢;refine⟨wU (x+4*i.imm),s,h.to h.h0 h.hr (fun hp=> ?_) hw,J,J,this⟩;obtain⟨q1,q2,q3⟩:=Ar hp;rw [←q3,hpx]
   ·rw [ai hq]at this ⊢;exact⟨x+4,s,h.to h.h0 h.hr hn hx4,J,J,this⟩
  rw [ai o5]at h1;by_cases o6:i.op=40
  ·rw [aw o6]at h1;injection h1 with h1;subst h1;have hw:=lC (x+4*i.imm);refine⟨wU (x+4*i.imm),s,h.to (tS h.h0) (B5 h.hr (by rw [←hn2];exact hx4)) (fun hp=> ?_) hw,J,J,?_⟩
   ·obtain⟨q1,q2,q3⟩:=Ar hp;rw [←q3,hpx]
   ·have:=Ds e s 64 h.k.hs i x c.r st hx o6;rw [hn2]at this;exact this
  rw [ai o6]at h1;by_cases o7:i.op=41
  ·rw [aw o7]at h1;injection h1 with h1;subst h1;exact⟨x+4,s,h.to (tS h.h0) (B5 h.hr (lC _)) hn hx4,J,J,Dq e s 64 h.k.hs i x c.r st hx o7⟩
  rw [ai o7,ai (fun h2=>ho h2.1),ai (fun h2=>ho h2.1)]at h1;cases h1
def qB(i:Qi):Int×Int:=if i.op=48 then(4,i.imm)else(3,0)
theorem Sim.trap(e:Me){code:List Qi}{c:Qs}{x:Int}{s:Mm}(h:Sim code c x s){i:Qi}(hc:code[c.pc]?=some i)(ho:i.op=48∨i.op=49){st:Int}(hst:0≤st∧st<1000000000000000):
  FY e x c.r st s x c.r st (qB i).1 (qB i).2 s:=by
 have hx:=h.stx hc hst;by_cases h1:i.op=48
 ·rw [show qB i=(4,i.imm)from aw h1];exact Do e s 64 h.k.hs i x c.r st hx h1
 ·rw [show qB i=(3,0)from ai h1];exact Du e s 64 h.k.hs i x c.r st hx (by omega)
def Iw(code:List Qi):Nat→Qs→Qs→Prop
 | 0,c,c'=>c=c'
 | n+1,c,c'=>∃i c1,code[c.pc]?=some i∧wq i c=some c1∧i.op≠48∧Iw code n c1 c'
theorem Sim.turn(e:Me){code:List Qi}{c c':Qs}{x:Int}{s:Mm}(h:Sim code c x s){n:Nat}(hn:Iw code n c c'){i:Qi}(hc:code[c'.pc]?=some i)(ho:i.op=48∨i.op=49){st:Int}(hst:0≤st∧st<1000000000000000):
  ∃x1 r1 st1 t y s1,FY e x c.r st s x1 r1 st1 t y s1∧((t=0∧∃m c1,n=m+1∧r1=c1.r∧st1=st+1∧c1.inp=c.inp∧c1.out=c.out∧Sim code c1 x1 s1∧Iw code m c1 c')∨(t≠0∧n=0∧c=c'∧t=(qB i).1∧y=(qB i).2∧s1=s)):=by
 cases n with
 | zero=>
  have h2:c=c':=hn;subst h2;refine⟨x,c.r,st,(qB i).1,(qB i).2,s,h.trap e hc ho hst,.inr ⟨?_,J,J,J,J,J⟩⟩;unfold qB;split
  ·show(4:Int)≠0;decide
  ·show(3:Int)≠0;decide
 | succ m=>
  obtain⟨j,c1,h2,h3,h4,h5⟩:=hn;obtain⟨x1,s1,h6,h7,h8,h9⟩:=h.step e h2 h3 h4 hst;exact⟨x1,c1.r,st+1,0,0,s1,h9,.inl ⟨J,m,c1,J,J,J,h7,h8,h6,h5⟩⟩
structure Rl where
 x:Int
 s:Mm
 c:Qs
 m:Nat
 k:Nat
theorem B4(e:Me)(cp:Nat){code:List Qi}{c c':Qs}{x:Int}{s:Mm}(h:Sim code c x s){n:Nat}(hn:Iw code n c c'){i:Qi}(hc:code[c'.pc]?=some i)(ho:i.op=48∨i.op=49)(st most:Int)(hst:0≤st∧st+n<1000000000000000)(hm:(n:Int)<most):
  Spec prog 65 [Pt cp,I6 most] [be e.m 157 (mR e),own 5 1 ct (sv e.vd) (s).d,own 5 1 ct (sv e.vi) (s).i,own 3 1 eI (sv e.vr) (s).r,be cp 93 (qj x c.r st e.m)] [] (X:=Int×Mm) (fun p=>Sim code c' p.1 p.2) (fun _=> .agg #[I6 (qB i).1,I3 (qB i).2]) (fun p=> [be e.m 157 (mR e),own 5 1 ct (sv e.vd) p.2.d,own 5 1 ct (sv e.vi) p.2.i,own 3 1 eI (sv e.vr) p.2.r,be cp 93 (qj p.1 c'.r (st+(n:Int)) e.m)]) (fun _=> []):=by
 refine aM func65 J ntmps65 J fun w0 M H=>rM 0 20 J J (rM 1 21 J J (rM 2 22 J J (rM 3 23 J J (rM 4 24 J J (ar (aX Ab J J fun b4=>aF J (aq J (aa (aC ?_)))))))))
 refine bI (X:=Rl) (fun p=>Sim code p.c p.x p.s∧Iw code p.m p.c c'∧p.m+p.k=n) (fun p=> [(0,Pt cp),(1,I6 most),(4,Pt b4),(5,I6 (p.k:Int))]) (fun p=> [(20,be e.m 157 (mR e)),(21,own 5 1 ct (sv e.vd) p.s.d),(22,own 5 1 ct (sv e.vi) p.s.i),(23,own 3 1 eI (sv e.vr) p.s.r),(24,be cp 93 (qj p.x p.c.r (st+(p.k:Int)) e.m)),(4,be b4 53 [I6 0,I3 0])]) (fun p=> []) (fun p=>p.m) ⟨x,s,c,n,0⟩ ⟨h,hn,J⟩ J (by dsimp only;rw [show st+((0:Nat):Int)=st by omega];rfl) J (fun p hp=> ?_);obtain⟨hp1,hp2,hp3⟩:=hp;obtain⟨x1,r1,st1,t,y,s1,hS,hor⟩:=hp1.turn e hp2 hc ho (st:=st+(p.k:Int)) ⟨by omega,by omega⟩;refine aC (aZ (aZ ?_));refine bQ [7,8,9,10,11,12,13,14,15,16,17,18,19,20,21,22,23,24,25] _ J (bn (V:= [(0,7,_),(1,8,_),(2,9,_),(3,10,_),(4,11,_),(5,12,_),(6,13,_),(7,14,_),(8,15,_),(9,16,_),(10,17,_),(11,18,_),(12,19,_),(13,20,_),(14,21,_),(15,22,_),(16,23,_),(17,24,_),(18,25,_)]) [0,1,2,3,4,5,6,7,8,9,10,11,12,13,14,15,16,17,18] J J (ay J J (ac J (aj J) (ac J (ah eN J) (ac J (ah vJ J) (ac J (ae t3 J J (ax (k:=24) J J)) (ac J (aU J J fh) (ay J J (bl (bW [] J J J O (fun hg1=>aY J)) (bl (bW [(14,_)] J J J ⟨J,O⟩ (fun hg2=>aj J)) (bl (bW [(15,_)] J J J ⟨J,O⟩ (fun hg3=>ah eN J)) (bl (bW [(16,_)] J J J ⟨J,O⟩ (fun hg4=>ah i7 J)) (bl (bW [(17,_)] J J J ⟨J,O⟩ (fun hg5=>ae t3 J J (ax (k:=24) J J))) (bl (bW [] J J J O (fun hg6=>aY J)) (bl (bW [(19,_)] J J J ⟨J,O⟩ (fun hg7=>aj J)) (bl (bW [(20,_)] J J J ⟨J,O⟩ (fun hg8=>ah eN J)) (bl (bW [(21,_)] J J J ⟨J,O⟩ (fun hg9=>ah vJ J)) (bl (bW [(22,_)] J J J ⟨J,O⟩ (fun hg10=>ae t3 J J (ax (k:=24) J J))) (bl (bW [(18,_),(23,_)] J J J ⟨J,J,O⟩ (fun hg11=>aU J J ig)) (ac J (bK J J J) ag))))))))))))))))))) J J J ?_);refine am J (fun h12=> ?_) (fun h12=> ?_)
 ·cases h12
 ·(try simp only [bk]at h12);refine aA (aV (ad J (ad J (av J J ig (aa (am J (fun h13=> ?_) (fun h13=> ?_)))))))
  ·(exfalso;have h0:=h13;revert h0;simp;omega)
  ·(try simp only [bk]at h13);refine aA (aZ ?_);refine bQ [31,32,33,34,35,36,37,38,39,6] _ J (fp (V:= [(0,31,_),(1,32,_),(2,33,_),(3,34,_),(4,35,_),(5,36,_),(6,37,_),(7,38,_)]) [0,1,2,3,4,5,6,7] J J (ay J J (ac J (aj J) (ac J (ah eN J) (ac J (aJ (us:=sR p.x p.c.r (st+(p.k:Int))) xP J J J (mV (k:=24) J J)) (ay J J (ac J (aj J) (ac J (ah gq J) (ac J (ae wo J J (ax (k:=24) J J)) ag)))))))) J [8,9] J J (bC (ea 8 [8,7,6,5,4,3,2,1,0] [] (fun _=> []) J J J J J J J J J (fun _ _=>J) J (bw (xs:= [.tmp 34,.tmp 38]) hS Jq [20,21,22,23] [] [20,21,22,23]) (fun _ _=>aW [] 9 [9,8,7,6,5,4,3,2,1,0] [] (fun b6=> []) J J ag J J J J J J J J J J J (fun _ _=>J) J (d6 mJ J) (fun b6 _=>bH [] 10 [10,9,8,7,6,5,4,3,2,1,0] [] (fun _=> []) J J ag J J J J J J J J J (fun _ _=>J) J (bL (k:=6) mJ J J J J J J) (fun _ _=>bn [] J J ag J J J ?_)))) (bC (ea 9 [9] [] (fun b6=> []) J J J J J J J J J (fun _ _=>J) J (d6 mJ J) (fun b6 _=>aW [0,1,2,3,4,5,6,7] 8 [9,8,7,6,5,4,3,2,1,0] [] (fun _=> []) J J (ay J J (ac J (aj J) (ac J (ah eN J) (ac J (aJ (us:=sR p.x p.c.r (st+(p.k:Int))) xP J J J (mV (k:=24) J J)) (ay J J (ac J (aj J) (ac J (ah gq J) (ac J (ae wo J J (ax (k:=24) J J)) ag)))))))) J J J J J J J J J J J (fun _ _=>J) J (bw (xs:= [.tmp 34,.tmp 38]) hS Jq [20,21,22,23] [] [20,21,22,23]) (fun _ _=>bH [] 10 [10,9,8,7,6,5,4,3,2,1,0] [] (fun _=> []) J J ag J J J J J J J J J (fun _ _=>J) J (bL (k:=6) mJ J J J J J J) (fun _ _=>bn [] J J ag J J J ?_)))) dv)))
   ·refine aV (aD qQ J (aS (bB sk J) (aT 6 t3 J J J J (av J J gj (aa (am J (fun h14=> ?_) (fun h14=> ?_)))))))
    ·(try simp only [bk]at h14);obtain⟨-,q2,q3,q4,q5,q6⟩:=hor.resolve_left (fun q=>h14 q.1);subst q6;obtain rfl:p.k=n:=by omega
     rw [←q4,←q5,←q3];refine ar (aD qQ J (aS (aJ (us:= [I6 t,I3 y]) Ab J J J (mV (k:=6) J J)) (au (k:=4) Ab J J J J J J (aa (az (aQ (p.x,p.s) (q3▸hp1) J (cc (bp Ab J J J (a_ (k:=4) J))) J [20,21,22,23,24] [] J J J))))))
    ·(try simp only [bk]at h14);obtain⟨q1,m1,c1,q2,q3,q4,qi,qo,q6,q7⟩:=hor.resolve_right (fun q=>q.1 h14);subst q3;subst q4;refine aA (ar (ad J (aD A_ J (aS (aJ (us:=sR x1 c1.r (st+(p.k:Int)+1)) xP J J J (mV (k:=6) J J)) (bS J (aD eN J (aB (k:=24) (us:=sR x1 c1.r (st+(p.k:Int)+1)) (c':=qj x1 c1.r (st+(p.k:Int)+1) e.m) xP J J J J J J J J (aa (ap (ad J (av J J aO (aq J (aa ?_)))))))))))));refine aG ⟨x1,s1,c1,m1,p.k+1⟩ ⟨⟨q6,q7,by show m1+(p.k+1)=n;omega⟩,by show m1<p.m;omega⟩ J (by dsimp only;rw [show st+((p.k+1:Nat):Int)=st+(p.k:Int)+1 by omega];rfl) J
   ·refine aV (aD qQ J (aS (bB sk J) (aT 6 t3 J J J J (av J J gj (aa (am J (fun h15=> ?_) (fun h15=> ?_)))))))
    ·(try simp only [bk]at h15);obtain⟨-,q2,q3,q4,q5,q6⟩:=hor.resolve_left (fun q=>h15 q.1);subst q6;obtain rfl:p.k=n:=by omega
     rw [←q4,←q5,←q3];refine ar (aD qQ J (aS (aJ (us:= [I6 t,I3 y]) Ab J J J (mV (k:=6) J J)) (au (k:=4) Ab J J J J J J (aa (az (aQ (p.x,p.s) (q3▸hp1) J (cc (bp Ab J J J (a_ (k:=4) J))) J [20,21,22,23,24] [] J J J))))))
    ·(try simp only [bk]at h15);obtain⟨q1,m1,c1,q2,q3,q4,qi,qo,q6,q7⟩:=hor.resolve_right (fun q=>q.1 h15);subst q3;subst q4;refine aA (ar (ad J (aD A_ J (aS (aJ (us:=sR x1 c1.r (st+(p.k:Int)+1)) xP J J J (mV (k:=6) J J)) (bS J (aD eN J (aB (k:=24) (us:=sR x1 c1.r (st+(p.k:Int)+1)) (c':=qj x1 c1.r (st+(p.k:Int)+1) e.m) xP J J J J J J J J (aa (ap (ad J (av J J aO (aq J (aa ?_)))))))))))));refine aG ⟨x1,s1,c1,m1,p.k+1⟩ ⟨⟨q6,q7,by show m1+(p.k+1)=n;omega⟩,by show m1<p.m;omega⟩ J (by dsimp only;rw [show st+((p.k+1:Nat):Int)=st+(p.k:Int)+1 by omega];rfl) J
theorem Dl{i:Qi}{c c1:Qs}(h:wq i c=some c1)(ho:i.op≠48):c1.inp=c.inp∧c1.out=c.out:=by
 unfold wq at h;split at h
 ·injection h with h;subst h;exact⟨rfl,rfl⟩
 split at h
 ·split at h
  ·injection h with h;subst h;exact⟨rfl,rfl⟩
  ·cases h
 split at h
 ·split at h
  ·injection h with h;subst h;exact⟨rfl,rfl⟩
  ·cases h
 split at h
 ·injection h with h;subst h;exact⟨rfl,rfl⟩
 split at h
 ·injection h with h;subst h;exact⟨rfl,rfl⟩
 split at h
 ·injection h with h;subst h;exact⟨rfl,rfl⟩
 split at h
 ·injection h with h;subst h;exact⟨rfl,rfl⟩
 split at h
 ·injection h with h;subst h;exact⟨rfl,rfl⟩
 split at h
 ·rename_i h2;exact absurd h2.1 ho
 split at h
 ·rename_i h2;exact absurd h2.1 ho
 ·cases h
theorem DN{code:List Qi}:∀{n:Nat}{c c':Qs},Iw code n c c'→c'.inp=c.inp∧c'.out=c.out
 | 0,c,c',h=>by
  have:c=c':=h;subst this;exact⟨J,J⟩
 | n+1,c,c',h=>by
  obtain⟨i,c1,-,h2,h3,h4⟩:=h;obtain⟨a,b⟩:=Dl h2 h3;obtain⟨a2,b2⟩:=DN h4;exact⟨a2.trans a,b2.trans b⟩
theorem wA{code:List Qi}:∀{n:Nat}{c c':Qs},rn code n c c'→∃k c1,Iw code k c c1∧((k=n∧c1=c')∨∃i c2 m,code[c1.pc]?=some i∧i.op=48∧wq i c1=some c2∧n=k+1+m∧rn code m c2 c')
 | 0,c,c',h=>⟨0,c',h,.inl ⟨rfl,rfl⟩⟩
 | n+1,c,c',h=>by
  obtain⟨i,c1,h1,h2,h3⟩:=h;by_cases ho:i.op=48
  ·exact⟨0,c,J,.inr ⟨i,c1,n,h1,ho,h2,by omega,h3⟩⟩
  ·obtain⟨k,c2,h4,h5⟩:=wA h3;refine⟨k+1,c2,⟨i,c1,h1,h2,ho,h4⟩,?_⟩;rcases h5 with⟨h6,h7⟩|⟨j,c3,m,g1,g2,g3,g4,g5⟩
   ·exact .inl ⟨by omega,h7⟩
   ·exact .inr ⟨j,c3,m,g1,g2,g3,by omega,g5⟩
theorem qC{i:Qi}{c c1:Qs}(h:wq i c=some c1)(ho:i.op=48):(i.imm=1∧c1={c with pc:=c.pc+1,out:=c.out++ [c.r 1]})∨(i.imm=2∧c1={c with pc:=c.pc+1,r:=rp c.r 1 (c.inp.headD 0),inp:=c.inp.tail}):=by
 unfold wq at h;rw [ho]at h;have e:∀a b,xL 48 a b=none:=fun a b=>J
 rw [e]at h;by_cases h1:i.imm=1
 ·rw [h1]at h;injection h with h;exact .inl ⟨h1,h.symm⟩
 ·by_cases h2:i.imm=2
  ·rw [h2]at h;injection h with h;exact .inr ⟨h2,h.symm⟩
  ·exfalso;have q1:¬((48:Int)=48∧i.imm=1):=fun q=>h1 q.2
   have q2:¬((48:Int)=48∧i.imm=2):=fun q=>h2 q.2
   have:(if(48:Int)=48∧i.imm=1 then some {c with pc:=c.pc+1,out:=c.out++ [c.r 1]}else if(48:Int)=48∧i.imm=2 then some {c with pc:=c.pc+1,r:=rp c.r 1 (c.inp.headD 0),inp:=c.inp.tail}else none)=some c1:=h;rw [ai q1,ai q2]at this;cases this
def IZ(l:List Int):Nat→Int
 | 0=>0
 | k+1=>IZ l k+l.getD k 0*256^k
theorem EJ{t:Ba}{k:Nat}(hk:k<4):0≤IZ (bx t) k∧IZ (bx t) k+(bx t).getD k 0*256^k<4294967296∧0≤(bx t).getD k 0*256^k∧(bx t).getD k 0*256^k<4294967296:=by
 have b0:=kz t 0;have b1:=kz t 1;have b2:=kz t 2;have b3:=kz t 3;have:k=0∨k=1∨k=2∨k=3:=by omega
 rcases this with rfl|rfl|rfl|rfl
 ·show 0≤(0:Int)∧(0:Int)+(bx t).getD 0 0*256^0<4294967296∧0≤(bx t).getD 0 0*256^0∧(bx t).getD 0 0*256^0<4294967296;omega
 ·show 0≤(0:Int)+(bx t).getD 0 0*256^0∧(0:Int)+(bx t).getD 0 0*256^0+(bx t).getD 1 0*256^1<4294967296∧0≤(bx t).getD 1 0*256^1∧(bx t).getD 1 0*256^1<4294967296;omega
 ·show 0≤(0:Int)+(bx t).getD 0 0*256^0+(bx t).getD 1 0*256^1∧(0:Int)+(bx t).getD 0 0*256^0+(bx t).getD 1 0*256^1+(bx t).getD 2 0*256^2<4294967296∧0≤(bx t).getD 2 0*256^2∧(bx t).getD 2 0*256^2<4294967296;omega
 ·show 0≤(0:Int)+(bx t).getD 0 0*256^0+(bx t).getD 1 0*256^1+(bx t).getD 2 0*256^2∧(0:Int)+(bx t).getD 0 0*256^0+(bx t).getD 1 0*256^1+(bx t).getD 2 0*256^2+(bx t).getD 3 0*256^3<4294967296∧0≤(bx t).getD 3 0*256^3∧(bx t).getD 3 0*256^3<4294967296;omega
theorem PO{t:Ba}{k:Nat}(hk:k<4):IntKind.u32.wrap ((bx t).getD k 0*2^(8*(k:Int)).toNat)=(bx t).getD k 0*256^k:=by
 obtain⟨-,-,h1,h2⟩:=EJ (t:=t) hk;have e:(2:Int)^(8*(k:Int)).toNat=256^k:=by
  have:k=0∨k=1∨k=2∨k=3:=by omega
  rcases this with rfl|rfl|rfl|rfl<;>rfl
 rw [e];exact lg h1 h2
theorem B8(t:Ba)(ht:t.size=4):
  bi prog 66 [Sg t] [] [] (I3 (IZ (bx t) 4)) []:=by
 refine aM func66 J ntmps66 J fun w0 M H=>ar (aq J (aF J (aq J (aa (aV (aq J (aa (aC (bI (X:=Nat) (fun k=>k≤4) (fun k=> [(0,Sg t),(3,I3 (IZ (bx t) k)),(4,I6 (k:Int))]) (fun k=> []) (fun k=> []) (fun k=>4-k) 0 (bq _) J J J (fun k n1=>aV (ad J ?_)))))))))))
 refine ad J (aS (c9 underlying9 J) (av J J cy (ad J (aI [] J J O (fun hg1=>aY J) J (aI [(10,_)] J J ⟨J,O⟩ (fun hg2=>aU J J cy) J (aS (bK J J J) (aa (am J (fun h3=> ?_) (fun h3=> ?_)))))))))
 ·(try simp only [bk]at h3);have hi:k<4:=by omega
  have hbk:=EJ (t:=t) hi;have hb1:=kz t k;refine aA (aZ (aC (ap (ad J (ad J (ad J (aS (eA (j:=k) underlying9 J J J (by omega)) (aS (cB underlying5 underlying41 J (c:=(bx t).getD k 0) (cf (by omega))) (ad J (av J J kB (av J J (jd (by omega) (by show _≤(32:Int);omega) (PO hi)) (av J J (cC (c:=IZ (bx t) (k+1)) (cf (by omega))) (aq J (aa (ap (ad J (av J J aO (aq J (aa ?_)))))))))))))))))));refine aG (k+1) ⟨by omega,by omega⟩ J J J
 ·(try simp only [bk]at h3);have hi:k=4:=by omega
  subst hi;refine bM (ar (ad J (aq J (aa (az (aQ () O J (cc (aP J)) J [] [] J J J))))))
theorem xw:∀{l:List Qi}{k:Nat}{i:Qi},l[k]?=some i→∀{j:Nat},j<4→(fi l)[4*k+j]?=(fR (tG i))[j]?
 | [],k,i,h,j,hj=>by simp at h
 | q::r,0,i,h,j,hj=>by
  have h:q=i:=by simpa using h
  subst h;show(fR (tG q)++fi r)[4*0+j]?=_;rw [List.getElem?_append_left (by rw [show(fR (tG q)).length=4 from J];omega),show 4*0+j=j by omega]
 | q::r,k+1,i,h,j,hj=>by
  have h:r[k]?=some i:=by simpa using h
  show(fR (tG q)++fi r)[4*(k+1)+j]?=_;rw [List.getElem?_append_right (by rw [show(fR (tG q)).length=4 from J];omega),show 4*(k+1)+j-(fR (tG q)).length=4*k+j by rw [show(fR (tG q)).length=4 from J];omega];exact xw h hj
theorem DY{n m a:Nat}:pk (List.replicate n 0) a (List.replicate m 0)=List.replicate n (0:Int):=by
 apply List.ext_getElem?;intro k;rw [o_];split
 ·rename_i h;have h3:k<n:=by have:=h.2.2;simpa using this
  have h4:k-a<m:=by have:=h.2.1;simp at this;omega
  rw [List.getElem?_replicate,aw h4,List.getElem?_replicate,aw h3]
 ·rfl
def vu(n:Nat):Mm:=⟨List.replicate (256*n) 0,List.replicate (256*n) 0,List.replicate n 0⟩
theorem El{n:Nat}(hn:n≤4096):MO (vu n) n:=⟨by show(List.replicate _ _).length=_;rw [List.length_replicate];omega,by show(List.replicate _ _).length=_;rw [List.length_replicate];omega,List.length_replicate ..,by omega,fun x hx=>by have:=List.eq_of_mem_replicate hx;subst this;decide⟩
theorem IS(n:Nat):∀p,(iA (vu n) p).d=List.replicate (256*n) 0∧(iA (vu n) p).i=List.replicate (256*n) 0
 | 0=>⟨rfl,rfl⟩
 | p+1=>by
  obtain⟨h1,h2⟩:=IS n p;refine⟨?_,?_⟩
  ·show pk (iA (vu n) p).d (256*p) zer=_;rw [h1,re,DY]
  ·show pk (iA (vu n) p).i (256*p) zer=_;rw [h2,re,DY]
theorem IR(s:Mm):∀(p q:Nat),p≤s.r.length→(iA s p).r.getD q 0=if q<p then we q else s.r.getD q 0
 | 0,q,_=>by rw [ai (by omega)];rfl
 | p+1,q,h=>by
  have hl:∀p,(iA s p).r.length=s.r.length:=fun p=>by
   induction p with
   | zero=>rfl
   | succ p ih=>exact(List.length_set ..).trans ih
  show((iA s p).r.set p (we p)).getD q 0=_;rw [List.getD_eq_getElem?_getD,List.getElem?_set];by_cases h1:p=q
  ·subst h1;rw [aw J,aw (by rw [hl];omega),aw (by omega)];rfl
  ·rw [ai h1,←List.getD_eq_getElem?_getD,IR s p q (by omega)];by_cases h2:q<p
   ·rw [aw h2,aw (by omega)]
   ·rw [ai h2,ai (by omega)]
theorem M9(s:Mm)(p:Nat):(tA s (p+1)).i=pk (tA s p).i ((p+1)*256) (((tA s p).d.drop ((p+1)*256)).take 256):=by rw [tA]
theorem M_{s:Mm}(hl:s.i.length=s.d.length)(k:Nat):∀p,(p+1)*256≤s.d.length→(tA s p).i[k]?=if 256≤k∧k<(p+1)*256 then s.d[k]? else s.i[k]?:=by
 intro p
 induction p with
 | zero=>
  intro _;rw [ai (by omega),tA]
 | succ p ihp=>
  intro h;have hli:∀p,(tA s p).i.length=s.i.length:=fun p=>by
   induction p with
   | zero=>rfl
   | succ p ih=>exact(fS ..).trans ih
  have h':(p+1)*256≤s.d.length:=Nat.le_trans (Nat.mul_le_mul_right 256 (Nat.le_succ (p+1))) h;have ih:=ihp h';clear ihp;rw [M9,AH,o_,ih,hli];have hlen:(List.take 256 (List.drop ((p+1)*256) s.d)).length=256:=by
   rw [List.length_take,List.length_drop];omega
  rw [hlen];by_cases h1:(p+1)*256≤k∧k<(p+1)*256+256
  ·rw [aw ⟨h1.1,h1.2,by omega⟩,aw ⟨by omega,by omega⟩,List.getElem?_take,aw (by omega),List.getElem?_drop,show(p+1)*256+(k-(p+1)*256)=k by omega]
  ·rw [ai (fun h2=>h1 ⟨h2.1,h2.2.1⟩)];by_cases h2:256≤k∧k<(p+1)*256
   ·rw [aw h2,aw ⟨h2.1,by omega⟩]
   ·rw [ai h2,ai (fun h3=> ?_)];omega
theorem IT(s:Mm):∀p,(tA s p).r=s.r
 | 0=>rfl
 | p+1=>IT s p
theorem KB{code:List Qi}(hl:code.length≤1984)(hv:∀i∈code,qp i=true∧0≤i.imm∧i.imm<4294967296){ins:List Int}(hi:∀v∈ins,0≤v∧v<4294967296):
  Sim code ⟨0,fun _=>0,fun _=>0,ins,[]⟩ 256 (L0 (vu 64) (fi code)):=by
 have hb:=il code;obtain⟨hd,hi0⟩:=IS 64 64;have hm:=lV (El (n:=64) (by decide)) 64;have hD:(L0 (vu 64) (fi code)).d=pk (List.replicate (256*64) 0) 256 (fi code):=by
  show(tA _ 31).d=_;rw [AH];show pk (iA (vu 64) 64).d 256 (fi code)=_;rw [hd]
 have hDk:∀k,(pk (List.replicate (256*64) (0:Int)) 256 (fi code)).getD k 0=if 256≤k∧k<256+(fi code).length then(fi code).getD (k-256) 0 else 0:=fun k=>by
  rw [oj (by rw [List.length_replicate];omega)];split
  ·rfl
  ·rw [List.getD_eq_getElem?_getD,List.getElem?_replicate];split<;>rfl
 refine⟨⟨?_,?_,fun p hp=> ?_,fun k i hk j hj=> ?_,hl,fun k i hk=>⟨VQ.of (hv i (cd hk)).1,(hv i (cd hk)).2⟩⟩,fun a ha=> ?_,J,fun _=>⟨Int.le_refl _,by show(0:Int)<4294967296;decide⟩,fun _=>J,by decide,hi⟩
 ·exact yW (hm.dd (fS _ _ _)) 31
 ·rw [hD];exact FM (fun x hx=>by have:=List.eq_of_mem_replicate hx;subst this;decide) (sQ code)
 ·show(tA _ 31).r.getD p 0=_;rw [IT];show(iA (vu 64) 64).r.getD p 0=_;rw [IR (vu 64) 64 p (Nat.le_of_eq (by exact(List.length_replicate ..).symm)),aw hp]
 ·have hkl:k<code.length:=(db.1 hk).1;show(tA {iA (vu 64) 64 with d:=pk (iA (vu 64) 64).d 256 (fi code)} 31).i[256+4*k+j]?=_;rw [M_ (by show(iA (vu 64) 64).i.length=(pk _ _ _).length;rw [fS,hm.i,hm.d]) _ 31 (by show _≤(pk _ _ _).length;rw [fS,hm.d];decide),aw ⟨by omega,by omega⟩];show(pk (iA (vu 64) 64).d 256 (fi code))[256+4*k+j]?=_;rw [o_,aw ⟨by omega,by omega,by rw [hm.d];omega⟩,show 256+4*k+j-256=4*k+j by omega,xw hk hj,show tG i=mX i from aw (hv i (cd hk)).1]
 ·obtain⟨a1,a2,a3⟩:=ha;rw [hD,vw,hDk,hDk,hDk,hDk,ai (by omega),ai (by omega),ai (by omega),ai (by omega)];rfl
theorem GO(n:Nat)(hn:n≤4096):
  Spec prog 34 [I6 (n:Int)] [] [] (X:=Nat×Me) (fun _=>True) (fun x=>Pt x.1) (fun x=> [be x.1 93 (qj 0 qI 0 x.2.m),be x.2.m 157 (mR x.2),own 5 1 ct (sv x.2.vd) (vu n).d,own 5 1 ct (sv x.2.vi) (vu n).i,own 3 1 eI (sv x.2.vr) (vu n).r]) (fun _=> []):=B7 n hn
theorem oc(e:Me)(s:Mm)(n:Nat)(hs:MO s n)(a:Int)(ha:0≤a∧a<4294967296)(h:a<s.d.length):
  bi prog 41 [Pt e.m,I3 a] [be e.m 157 (mR e),own 5 1 ct (sv e.vd) s.d,own 5 1 ct (sv e.vi) s.i,own 3 1 eI (sv e.vr) s.r] [] (.int .u8 (s.d.getD a.toNat 0)) [be e.m 157 (mR e),own 5 1 ct (sv e.vd) s.d,own 5 1 ct (sv e.vi) s.i,own 3 1 eI (sv e.vr) s.r]:=by
 have:=yS e s n hs a ha;rw [aw h]at this;exact this
structure Sl where
 x:Int
 s:Mm
 c:Qs
 m:Nat
 k:Nat
 v:SV
 vo:SV
def QH(code:List Qi)(c1 c':Qs)(n k1:Nat)(i0 i:Qi):Prop:=
 (k1=n∧c1=c'∧i=i0)∨∃c2 m,i.op=48∧wq i c1=some c2∧n=k1+1+m∧rn code m c2 c'
theorem Gt{code:List Qi}{n:Nat}{c c':Qs}(h:rn code n c c'){i0:Qi}(h0:code[c'.pc]?=some i0)(ho:i0.op=48∨i0.op=49):
  ∃k1 c1 i,Iw code k1 c c1∧code[c1.pc]?=some i∧(i.op=48∨i.op=49)∧k1≤n∧QH code c1 c' n k1 i0 i:=by
 obtain⟨k,c1,h1,h2⟩:=wA h;rcases h2 with⟨h3,h4⟩|⟨i,c2,m,g1,g2,g3,g4,g5⟩
 ·exact⟨k,c1,i0,h1,by rw [h4];exact h0,ho,by omega,.inl ⟨h3,h4,rfl⟩⟩
 ·exact⟨k,c1,i,h1,g1,.inl g2,by omega,.inr ⟨c2,m,g2,g3,g4,g5⟩⟩
theorem uH{i:Qi}(h:i.op=48):qB i=(4,i.imm):=aw h
theorem JO{code:List Qi}{c1 c':Qs}{n k1:Nat}{i0 i:Qi}(h:QH code c1 c' n k1 i0 i)(h2:(qB i).1≠4∨(qB i).2<1∨(qB i).2>2):k1=n∧c1=c'∧i=i0:=by
 rcases h with h|⟨c2,m,o1,o2,o3,o4⟩
 ·exact h
 ·exfalso;rw [uH o1]at h2;have h2:(4:Int)≠4∨i.imm<1∨i.imm>2:=h2;rcases qC o2 o1 with⟨q,-⟩|⟨q,-⟩<;>omega
theorem Mu{code:List Qi}{c1 c':Qs}{n k1:Nat}{i0 i:Qi}(h:QH code c1 c' n k1 i0 i)(h0:i0=⟨48,0,0,0,0⟩∨i0=⟨49,0,0,0,0⟩)(h2:(qB i).1=4∧1≤(qB i).2∧(qB i).2≤2):∃c2 m,i.op=48∧wq i c1=some c2∧n=k1+1+m∧rn code m c2 c':=by
 rcases h with⟨-,-,h⟩|h
 ·exfalso;subst h;rcases h0 with rfl|rfl
  ·exact absurd h2 (by decide)
  ·exact absurd h2 (by decide)
 ·exact h
theorem JN{i:Qi}{c1 c2:Qs}(h:wq i c1=some c2)(ho:i.op=48)(h2:(qB i).2=1):c2={c1 with pc:=c1.pc+1,out:=c1.out++ [c1.r 1]}:=by
 rw [uH ho]at h2;have h2:i.imm=1:=h2;rcases qC h ho with⟨-,q⟩|⟨q,-⟩
 ·exact q
 ·omega
theorem Mt{i:Qi}{c1 c2:Qs}(h:wq i c1=some c2)(ho:i.op=48)(h2:¬(qB i).2=1):c2={c1 with pc:=c1.pc+1,r:=rp c1.r 1 (c1.inp.headD 0),inp:=c1.inp.tail}:=by
 rw [uH ho]at h2;have h2:¬i.imm=1:=h2;rcases qC h ho with⟨q,-⟩|⟨-,q⟩
 ·exact absurd q h2
 ·exact q
theorem Sim.nx{code:List Qi}{c:Qs}{x:Int}{s:Mm}(h:Sim code c x s){i:Qi}(hc:code[c.pc]?=some i):(c.pc+1<1984→x+4=ja (c.pc+1))∧0≤x+4∧x+4<4294967296:=by
 obtain⟨h1,h2⟩:=h.pcl hc;refine⟨fun _=> ?_,by omega⟩;unfold ja;omega
theorem Sim.nout{code:List Qi}{c:Qs}{x:Int}{s:Mm}(h:Sim code c x s){i:Qi}(hc:code[c.pc]?=some i)(l:List Int):Sim code {c with pc:=c.pc+1,out:=l} (x+4) s:=
 ⟨h.k,h.mem,h.h0,h.hr,(h.nx hc).1,(h.nx hc).2,h.hi⟩
theorem Sim.nin{code:List Qi}{c:Qs}{x:Int}{s:Mm}(h:Sim code c x s){i:Qi}(hc:code[c.pc]?=some i):Sim code {c with pc:=c.pc+1,r:=rp c.r 1 (c.inp.headD 0),inp:=c.inp.tail} (x+4) s:=by
 refine⟨h.k,h.mem,show rp c.r 1 (c.inp.headD 0) 0=0 from tS h.h0,B5 h.hr ?_,(h.nx hc).1,(h.nx hc).2,fun v hv=>h.hi v (List.mem_of_mem_tail hv)⟩;have:=h.hi;cases hl:c.inp with
 | nil=>exact⟨Int.le_refl _,by show(0:Int)<4294967296;decide⟩
 | cons a l=>rw [hl]at this;exact this a (by simp)
theorem KT{s:Mm}(hb:byL s.d)(a:Nat):IZ (bx (mU [s.d.getD a 0,s.d.getD (a+1) 0,s.d.getD (a+2) 0,s.d.getD (a+3) 0])) 4=AI s.d a:=by
 rw [kX _ (fun x hx=>by
  have b0:=hb.get a;have b1:=hb.get (a+1);have b2:=hb.get (a+2);have b3:=hb.get (a+3);simp only [List.mem_cons,List.not_mem_nil,or_false]at hx;rcases hx with rfl|rfl|rfl|rfl<;>assumption),vw]
 show 0+s.d.getD a 0*256^0+s.d.getD (a+1) 0*256^1+s.d.getD (a+2) 0*256^2+s.d.getD (a+3) 0*256^3=_;have e:s.d.getD (a+0) 0=s.d.getD a 0:=J;rw [e];omega
def rW(m:Int→Int)(n:Nat):List Int:=(List.range n).map fun k:Nat=>m (8192+4*(k:Int))
theorem Kz(m:Int→Int)(n:Nat):rW m (n+1)=rW m n++ [m (8192+4*(n:Int))]:=by
 unfold rW;rw [List.range_succ,List.map_append];rfl
theorem rV(m:Int→Int)(n:Nat):(rW m n).length=n:=by unfold rW;rw [List.length_map,List.length_range]
theorem KS{code:List Qi}{c:Qs}{x:Int}{s:Mm}(h:Sim code c x s){t:Nat}(ht:t<256):IZ (bx (mU [s.d.getD (8192+4*(t:Int)).toNat 0,s.d.getD (8192+4*(t:Int)+1).toNat 0,s.d.getD (8192+4*(t:Int)+2).toNat 0,s.d.getD (8192+4*(t:Int)+3).toNat 0])) 4=c.m (8192+4*(t:Int)):=by
 rw [show(8192+4*(t:Int)+1).toNat=(8192+4*(t:Int)).toNat+1 by omega,show(8192+4*(t:Int)+2).toNat=(8192+4*(t:Int)).toNat+2 by omega,show(8192+4*(t:Int)+3).toNat=(8192+4*(t:Int)).toNat+3 by omega,KT h.k.hb];exact h.mem _ ⟨by omega,by omega,by omega⟩
theorem w8{l:List Int}(h:¬(l.length:Int)>0):l.headD 0=0∧l.tail=l:=by
 cases l with
 | nil=>exact⟨rfl,rfl⟩
 | cons a l=>exact absurd (show(((a::l).length:Nat):Int)>0 by rw [bR];omega) h
theorem pN{code:List Qi}(hl:code.length≤1984)(hv:∀i∈code,qp i=true∧0≤i.imm∧i.imm<4294967296)(vin:SV)(ins:List Int)(hi:∀v∈ins,0≤v∧v<4294967296){n:Nat}{c':Qs}(hn:rn code n ⟨0,fun _=>0,fun _=>0,ins,[]⟩ c'){i0:Qi}(hc:code[c'.pc]?=some i0)(hz:i0=⟨48,0,0,0,0⟩∨i0=⟨49,0,0,0,0⟩)(most:Int)(hm:(n:Int)<most∧most<1000000000):
  Spec prog 25 [Sg (mU (fi code)),sv vin,I6 most] [] [sl 1 eU (sv vin) ins] (X:=SV×SV) (fun _=>True) (fun x=> .agg #[sv x.1,sv x.2,I6 (qB i0).1,I3 (qB i0).2]) (fun x=> [own 41 1 eU (sv x.1) c'.out,own 41 1 eU (sv x.2) (rW c'.m 256)]) (fun _=> []):=by
 refine aM func25 J ntmps25 J fun w0 M H=> ?_
 obtain⟨most2,hmm⟩:∃z:Int,z=most:=⟨_,J⟩
 refine ar (aX BN J J fun b6=>aF J (ak (xs:= [.const (I6 64)]) (GO 64 (by decide)) QA [] [] [24,20,21,22,23] (fun y _=>aq J (aF J (ad J (ad J (ak (xs:= [.tmp 14,.tmp 15]) (yx y.1 y.2 (vu 64) 64 (El (by decide)) (by decide) (mU (fi code)) (by rw [jB,il];omega)) Qx [20,21,22,23,24] [] [20,21,22,23,24] (fun _ _=> ?_))))))));rw [kX _ (sQ code)];refine aF J (aS (aR (cs:=(Value.agg #[sv bv,sv bv,I6 0,I3 0]).cells) (parts:= []) BN Pq J (by kernel_rfl)) (aX BN J J fun b8=>au (k:=8) BN J J J J J J (aa (aZ (aC (bc 0 1 J (fun w G h _=>⟨G,h,fun _ h=>h⟩) (dI 12 (α:=Int) (S:=41) (s:=1) (enc:=eU) (bI (X:=Sl) (fun p=>Sim code p.c p.x p.s∧rn code p.m p.c c'∧p.m+p.k=n∧p.c.out.length≤p.k) (fun p=> [(1,sv p.v),(2,I6 most),(6,Pt b6),(7,Pt y.1),(8,Pt b8)]) (fun p=> [(20,be y.2.m 157 (mR y.2)),(21,own 5 1 ct (sv y.2.vd) p.s.d),(22,own 5 1 ct (sv y.2.vi) p.s.i),(23,own 3 1 eI (sv y.2.vr) p.s.r),(24,be y.1 93 (qj p.x p.c.r (p.k:Int) y.2.m)),(6,be b6 55 [sv bv,sv bv,I6 0,I3 0]),(8,be b8 55 [sv p.vo,sv bv,I6 0,I3 0]),(12,own 41 1 eU (sv p.vo) p.c.out)]) (fun p=> [(1,sl 1 eU (sv p.v) p.c.inp)]) (fun p=>p.m) ⟨256,L0 (vu 64) (fi code),⟨0,fun _=>0,fun _=>0,ins,[]⟩,n,0,vin,bv⟩ ⟨KB hl hv hi,hn,J,cj _⟩ J J J (fun p hp=> ?_)))))))));obtain⟨hp1,hp2,hp3,hp4⟩:=hp;obtain⟨k1,c1,i,hk1,hi1,hi2,hk2,hor⟩:=Gt hp2 hc (by rcases hz with rfl|rfl;exact .inl J;exact .inr J);have hio:=DN hk1;refine aC (ar (ad J (ad J (ad J (bS J (aD eN J (aD i7 J (aT 24 t3 J J J J (av J J (gZ (bU (by omega))) ?_)))))))));refine dG (xs:= [.tmp 18,.tmp 25]) (B4 y.2 y.1 hp1 hk1 hi1 hi2 (p.k:Int) (most-p.k) ⟨by omega,by omega⟩ (by omega)) Qn [20,21,22,23,24] [] [20,21,22,23,24] J J J J J J J J (fun _ _=>J) (fun _ _ _=>J) J (fun q hq=> ?_)
 refine aX Ab J J fun b9=>au (k:=9) Ab J J J J J J (aa (aV (aD sk J (aT 9 t3 J J J J (av J J gj (ad J (aI [] J J O (fun hg1=>ah zj J) J (aI [(31,_)] J J ⟨J,O⟩ (fun hg2=>ae eG J J (ax (k:=9) J J)) J (aI [(31,_),(32,_)] J J ⟨J,J,O⟩ (fun hg3=>aU J J cy) J (aS (bK J J J) (ad J (aI [] J J O (fun hg4=>ah zj J) J (aI [(36,_)] J J ⟨J,O⟩ (fun hg5=>ae eG J J (ax (k:=9) J J)) J (aI [(36,_),(37,_)] J J ⟨J,J,O⟩ (fun hg6=>aU J J fh) J (aS (bK J J J) (aa ?_))))))))))))))))
 refine am J (fun h7=> ?_) (fun h7=> ?_)
 ·obtain⟨e1,e2,e3⟩:=JO hor (by have q:=h7;simp at q;omega);have e2':=e2.symm;have e3':=e3.symm;subst e2';subst e3';refine ar (aS (aJ Ab J J J (a_ (k:=9) J)) (aD zi J (aB (k:=8) Ab J J J J J J J J (aa (bM (aV (aq J (aa (aC ?_)))))))));obtain⟨g,hg,hgk⟩:∃g:Sl,Sim code c' g.x g.s∧g=⟨q.1,q.2,c',0,n,p.v,p.vo⟩:=⟨⟨q.1,q.2,c',0,n,p.v,p.vo⟩,hq,J⟩
  have hgs:q.2=g.s:=by rw [hgk]
  have hgl:=hg.k.hs.d;rw [hgs];refine dI 13 (α:=Int) (S:=41) (s:=1) (enc:=eU) (bI (X:=Nat×SV) (fun z=>z.1≤256) (fun z=> [(6,Pt b6),(7,Pt y.1),(8,Pt b8),(10,I6 (z.1:Int))]) (fun z=> [(20,be y.2.m 157 (mR y.2)),(21,own 5 1 ct (sv y.2.vd) g.s.d),(22,own 5 1 ct (sv y.2.vi) g.s.i),(23,own 3 1 eI (sv y.2.vr) g.s.r),(24,be y.1 93 (qj q.1 c'.r ((p.k:Int)+(k1:Int)) y.2.m)),(6,be b6 55 [sv bv,sv bv,I6 0,I3 0]),(8,be b8 55 [sv p.vo,sv z.2,I6 (qB i0).1,I3 (qB i0).2]),(12,own 41 1 eU (sv p.vo) c'.out),(13,own 41 1 eU (sv z.2) (rW c'.m z.1))]) (fun z=> []) (fun z=>256-z.1) (0,bv) (bq _) J (by rw [hio.2];rfl) J (fun z hz1=> ?_));obtain⟨t,vm⟩:=z;have hz1:t≤256:=hz1;dsimp only;refine aV (ad J (av J J cy (aa (am J (fun h8=> ?_) (fun h8=> ?_)))))
  ·(try simp only [bk]at h8);have hi5:t<256:=by omega
   have hml:=rV c'.m t;refine aA (aZ (aC (ar (ad J (av J J kB (av J J aO (aS (cB underlying3 underlying41 J (by first|exact cf (by omega)|rfl)) (aq J (aa (aZ ?_))))))))))
   refine bQ [101,102,103,104,105,106,107,108,109,110,111,112,113,114,115,116,117,118,119,120,121,122,123,124,125,126,127,128,129,12] _ J (aW (V:= [(0,101,_),(1,102,_),(2,103,_),(3,104,_),(4,105,_),(6,107,_),(7,108,_),(8,109,_),(9,110,_),(10,111,_),(11,112,_),(13,114,_),(14,115,_),(15,116,_),(16,117,_),(17,118,_),(18,119,_),(20,121,_),(21,122,_),(22,123,_),(23,124,_),(24,125,_),(25,126,_)]) [0,1,2,3,4,6,7,8,9,10,11,13,14,15,16,17,18,20,21,22,23,24,25] 5 [5,4,3,2,1,0] [] (fun _=> []) J J (ay J J (ac J (aj J) (ac J (ah gq J) (ac J (ae wo J J (ax (k:=24) J J)) (ay J J (ay J J (ac J (aj J) (ac J (ah gq J) (ac J (ae wo J J (ax (k:=24) J J)) (ay J J (ac J (aU J J (cC (c:=(8192+4*(t:Int)+1)) (cf (by omega)))) (ay J J (ac J (aj J) (ac J (ah gq J) (ac J (ae wo J J (ax (k:=24) J J)) (ay J J (ac J (aU J J (cC (c:=(8192+4*(t:Int)+2)) (cf (by omega)))) (ay J J (ac J (aj J) (ac J (ah gq J) (ac J (ae wo J J (ax (k:=24) J J)) (ay J J (ac J (aU J J (cC (c:=(8192+4*(t:Int)+3)) (cf (by omega)))) ag))))))))))))))))))))))) J J J J J J J J J J J (fun _ _=>J) J (bw (xs:= [.tmp 104,.tmp 105]) (oc y.2 g.s 64 hg.k.hs (8192+4*(t:Int)) (by omega) (by omega)) If [20,21,22,23] [] [20,21,22,23]) (fun _ _=>aW [6,7,8,9,10,11,13,14,15,16,17,18,20,21,22,23,24,25] 12 [12,11,10,9,8,7,6,5,4,3,2,1,0] [] (fun _=> []) J J (ay J J (ac J (aj J) (ac J (ah gq J) (ac J (ae wo J J (ax (k:=24) J J)) (ay J J (ac J (aU J J (cC (c:=(8192+4*(t:Int)+1)) (cf (by omega)))) (ay J J (ac J (aj J) (ac J (ah gq J) (ac J (ae wo J J (ax (k:=24) J J)) (ay J J (ac J (aU J J (cC (c:=(8192+4*(t:Int)+2)) (cf (by omega)))) (ay J J (ac J (aj J) (ac J (ah gq J) (ac J (ae wo J J (ax (k:=24) J J)) (ay J J (ac J (aU J J (cC (c:=(8192+4*(t:Int)+3)) (cf (by omega)))) ag)))))))))))))))))) J J J J J J J J J J J (fun _ _=>J) J (bw (xs:= [.tmp 110,.tmp 112]) (oc y.2 g.s 64 hg.k.hs (8192+4*(t:Int)+1) (by omega) (by omega)) If [20,21,22,23] [] [20,21,22,23]) (fun _ _=>aW [13,14,15,16,17,18,20,21,22,23,24,25] 19 [19,18,17,16,15,14,13,12,11,10,9,8,7,6,5,4,3,2,1,0] [] (fun _=> []) J J (ay J J (ac J (aj J) (ac J (ah gq J) (ac J (ae wo J J (ax (k:=24) J J)) (ay J J (ac J (aU J J (cC (c:=(8192+4*(t:Int)+2)) (cf (by omega)))) (ay J J (ac J (aj J) (ac J (ah gq J) (ac J (ae wo J J (ax (k:=24) J J)) (ay J J (ac J (aU J J (cC (c:=(8192+4*(t:Int)+3)) (cf (by omega)))) ag)))))))))))) J J J J J J J J J J J (fun _ _=>J) J (bw (xs:= [.tmp 117,.tmp 119]) (oc y.2 g.s 64 hg.k.hs (8192+4*(t:Int)+2) (by omega) (by omega)) If [20,21,22,23] [] [20,21,22,23]) (fun _ _=>aW [20,21,22,23,24,25] 26 [26,25,24,23,22,21,20,19,18,17,16,15,14,13,12,11,10,9,8,7,6,5,4,3,2,1,0] [] (fun _=> []) J J (ay J J (ac J (aj J) (ac J (ah gq J) (ac J (ae wo J J (ax (k:=24) J J)) (ay J J (ac J (aU J J (cC (c:=(8192+4*(t:Int)+3)) (cf (by omega)))) ag)))))) J J J J J J J J J J J (fun _ _=>J) J (bw (xs:= [.tmp 124,.tmp 126]) (oc y.2 g.s 64 hg.k.hs (8192+4*(t:Int)+3) (by omega) (by omega)) If [20,21,22,23] [] [20,21,22,23]) (fun _ _=>aW [] 27 [27,26,25,24,23,22,21,20,19,18,17,16,15,14,13,12,11,10,9,8,7,6,5,4,3,2,1,0] [28,29] (fun v128=> [(28,129,_),(29,12,_)]) J J ag J J J J J J J J J J J (fun _ _=>J) J (d_ ct [g.s.d.getD (8192+4*(t:Int)).toNat 0,g.s.d.getD (8192+4*(t:Int)+1).toNat 0,g.s.d.getD (8192+4*(t:Int)+2).toNat 0,g.s.d.getD (8192+4*(t:Int)+3).toNat 0] (parts:= [(0,.tmp 106),(1,.tmp 113),(2,.tmp 120),(3,.tmp 127)]) underlying84 t5 J (by decide) (by intro _;rfl) J (by decide) (by decide) J J J) (fun v128 _=>bn [28,29] J J (ac J (D2 underlying84 underlying5 underlying9 J (aH (k:=128) J) (by simp)) (ac J (cT J) ag)) J J J ?_))))))
   refine bQ [130,131,132,133,134,135,136] _ J (aW (V:= [(0,130,_),(1,131,_),(2,132,_)]) [0,1,2] 3 [3,2] [] (fun _=> []) J J (ac J (ah si J) (ac J (ae F1 J J (ax (k:=8) J J)) (ay J J ag))) J J J J J J J J J J J (fun _ _=>J) J (bw (xs:= [.tmp 132]) (B8 (mU [g.s.d.getD (8192+4*(t:Int)).toNat 0,g.s.d.getD (8192+4*(t:Int)+1).toNat 0,g.s.d.getD (8192+4*(t:Int)+2).toNat 0,g.s.d.getD (8192+4*(t:Int)+3).toNat 0]) (by rw [jB];rfl)) Qm [] [] []) (fun _ _=>aW [0,1] 4 [4,3,2] [] (fun v134=> []) J J (ac J (ah si J) (ac J (ae F1 J J (ax (k:=8) J J)) ag)) J J J J J J J J J J J (fun _ _=>J) J (bE eU _ underlying48 eG J (by decide) (by decide) J J J) (fun v134 _=>aW [0,1] 5 [5,4,3,2,1,0] [6] (fun v135=> [(6,136,_)]) J J (ac J (ah si J) (ac J (ae F1 J J (ax (k:=8) J J)) ag)) J J J J J J J J J J J (fun _ _=>J) J (eB 13 underlying48 eG J (by decide) (fun _=>J) (fun _=>J) J J J (aH (k:=134) J) (by first|omega|(simp;done)|(simp;omega)) (by unfold maxLen;first|omega|(simp;done)|(simp;omega))) (fun v135 _=>bH [6] 7 [7,6,5,4,3,2,1,0] [] (fun _=> []) J J (ac J (ah si J) ag) J J J J J J J J J (fun _ _=>J) J (da (k:=8) F1 J J J J J J J J) (fun _ _=>bn [] J J ag J J J ?_)))));refine ap (ad J (av J J aO (aq J (aa ?_))));refine aG (t+1,v135) ⟨by show t+1≤256;omega,by show 256-(t+1)<256-t;omega⟩ J (by dsimp only;rw [Kz,KS hg hi5];rfl) J
  ·(try simp only [bk]at h8);obtain rfl:t=256:=by omega
   refine bM (ar (aS (aJ BN J J J (a_ (k:=8) J)) (au (k:=6) BN J J J J J J (aa (az (aQ (p.vo,vm) O J (cc (bp BN J J J (a_ (k:=6) J))) J [12,13] [] J J J))))))
 ·obtain⟨c2,m2,o1,o2,o3,o4⟩:=Mu hor hz (by have q:=h7;simp at q;omega);refine aA (aV (aD zj J (aT 9 eG J J J J (av J J br (aa (am J (fun h9=> ?_) (fun h9=> ?_)))))))
  ·obtain rfl:=JN o2 o1 (by simpa using h9);refine bQ [45,46,47,48,49,50,51,52,53,54,55] _ J (aW (V:= [(0,45,_),(1,46,_),(2,47,_),(3,48,_),(4,49,_),(5,50,_),(6,51,_),(7,52,_)]) [0,1,2,3,4,5,6,7] 8 [8,7,6,5,4,3,2] [] (fun v53=> []) J J (ac J (ah sj J) (ac J (ae F1 J J (ax (k:=8) J J)) (ay J J (ac J (aj J) (ac J (ah eN J) (ac J (ah ic J) (ac J (d9 (j:=1) underlying75 eG J J (by rfl) (by decide)) (ac J (ae eG J J (ax (k:=24) J J)) ag)))))))) J J J J J J J J J J J (fun _ _=>J) J (bE eU _ underlying48 eG J (by decide) (by decide) J J J) (fun v53 _=>aW [0,1] 9 [9,8,7,6,5,4,3,2,1,0] [10] (fun v54=> [(10,55,_)]) J J (ac J (ah sj J) (ac J (ae F1 J J (ax (k:=8) J J)) ag)) J J J J J J J J J J J (fun _ _=>J) J (eB 12 underlying48 eG J (by decide) (fun _=>J) (fun _=>J) J J J (aH (k:=53) J) (by first|omega|(simp;done)|(simp;omega)) (by unfold maxLen;first|omega|(simp;done)|(simp;omega))) (fun v54 _=>bH [10] 11 [11,10,9,8,7,6,5,4,3,2,1,0] [] (fun _=> []) J J (ac J (ah sj J) ag) J J J J J J J J J (fun _ _=>J) J (da (k:=8) F1 J J J J J J J J) (fun _ _=>bn [] J J ag J J J ?_))));refine ar (ad J (ad J (bS J (aD eN J (aD i9 J (aT 24 eG J J J J (av J J (cC (c:=q.1+4) (lg (hq.nx hi1).2.1 (hq.nx hi1).2.2)) (bS J (aD eN J (aD i9 J (aB (k:=24) (us:= [I3 (q.1+4)]) (c':=qj (q.1+4) c1.r ((p.k:Int)+(k1:Int)) y.2.m) eG J J J J J J J J (aa (ap (ad J (bS J (aD eN J (aD i7 J (aT 24 t3 J J J J ?_))))))))))))))))));refine av J J (cC (c:=(p.k:Int)+(k1:Int)+1) (bU (by omega))) (bS J (aD eN J (aD i7 J (aB (k:=24) (us:= [I6 ((p.k:Int)+(k1:Int)+1)]) (c':=qj (q.1+4) c1.r ((p.k:Int)+(k1:Int)+1) y.2.m) t3 J J J J J J J J (aa ?_)))));refine aG ⟨q.1+4,q.2,_,m2,p.k+k1+1,p.v,v54⟩ ⟨⟨hq.nout hi1 _,o4,by show m2+(p.k+k1+1)=n;omega,by show(c1.out++ [c1.r 1]).length≤p.k+k1+1;rw [bA,hio.2];show _+1≤_;omega⟩,by show m2<p.m;omega⟩ J (by dsimp only;rw [hio.2,show((p.k+k1+1:Nat):Int)=(p.k:Int)+(k1:Int)+1 by omega];rfl) (by dsimp only;rw [hio.1];rfl)
  ·obtain rfl:=Mt o2 o1 (by simpa using h9);refine ar (ad J (bS J (aD eN J (aD ic J (aS (d9 (j:=1) underlying75 eG J J (by rfl) (by decide)) (aB (k:=24) (us:= [I3 0]) (c':=qj q.1 (rp c1.r 1 0) ((p.k:Int)+(k1:Int)) y.2.m) eG J J J J J J J J (aF J (ad J (aS (aL underlying48 J (aN (k:=1) J)) (av J J fh (aa (am J (fun h10=> ?_) (fun h10=> ?_)))))))))))))
   ·(try simp only [bk]at h10);obtain⟨a0,l0,ha0⟩:∃a l,p.c.inp=a::l:=by
     cases hl0:p.c.inp with
     | nil=>rw [hl0]at h10;exact absurd h10 (by decide)
     | cons a l=>exact⟨a,l,rfl⟩
    refine aZ ?_;refine bQ [64,65,66,67,68,69,70,71] _ J (bH (V:= [(0,64,_),(1,65,_),(2,66,_),(3,67,_),(4,68,_),(5,69,_),(6,70,_),(7,71,_)]) [0,1,2,3,4,5,6,7] 8 [8,7,6,5,4,3,2,1,0] [] (fun _=> []) J J (ay J J (ay J J (ac J (aK (j:=0) underlying48 eG J J (aN (k:=1) J) J (by rw [ha0];exact Nat.succ_pos _)) (ac J (ae eG J J (bJ (aN (k:=1) J) (by intro _;rfl) (show p.c.inp[0]?=some a0 by rw [ha0];rfl) (by rfl))) (ac J (aj J) (ac J (ah eN J) (ac J (ah ic J) (ac J (d9 (j:=1) underlying75 eG J J (by rfl) (by decide)) ag)))))))) J J J J J J J J J (fun _ _=>J) J (da (k:=24) (us:= [I3 a0]) (c':=qj q.1 (rp c1.r 1 a0) ((p.k:Int)+(k1:Int)) y.2.m) eG J J J J J J J J) (fun _ _=>bn [] J J ag J J J ?_));refine ap (ad J (yB (j:=1) 1 1 underlying48 eG (by intro _;rfl) J J J (by rw [ha0];exact Nat.succ_le_succ (bq _)) J J fun v73=>aq J (aF J (ad J (ad J (bS J (aD eN J (aD i9 J (aT 24 eG J J J J (av J J (cC (c:=q.1+4) (lg (hq.nx hi1).2.1 (hq.nx hi1).2.2)) (bS J (aD eN J (aD i9 J (aB (k:=24) (us:= [I3 (q.1+4)]) (c':=qj (q.1+4) (rp c1.r 1 a0) ((p.k:Int)+(k1:Int)) y.2.m) eG J J J J J J J J (aa (ap ?_))))))))))))))));refine ad J (bS J (aD eN J (aD i7 J (aT 24 t3 J J J J (av J J (cC (c:=(p.k:Int)+(k1:Int)+1) (bU (by omega))) (bS J (aD eN J (aD i7 J (aB (k:=24) (us:= [I6 ((p.k:Int)+(k1:Int)+1)]) (c':=qj (q.1+4) (rp c1.r 1 a0) ((p.k:Int)+(k1:Int)+1) y.2.m) t3 J J J J J J J J (aa ?_))))))))));refine aG ⟨q.1+4,q.2,_,m2,p.k+k1+1,v73,p.vo⟩ ⟨⟨hq.nin hi1,o4,by show m2+(p.k+k1+1)=n;omega,by show c1.out.length≤p.k+k1+1;rw [hio.2];omega⟩,by show m2<p.m;omega⟩ J (by dsimp only;rw [hio.2,hio.1,ha0,show((p.k+k1+1:Nat):Int)=(p.k:Int)+(k1:Int)+1 by omega];rfl) (by dsimp only;rw [hio.1,ha0];rfl)
   ·(try simp only [bk]at h10);have hin:¬(p.c.inp.length:Int)>0:=by omega
    refine aA (ar (ad J (ad J (bS J (aD eN J (aD i9 J (aT 24 eG J J J J (av J J (cC (c:=q.1+4) (lg (hq.nx hi1).2.1 (hq.nx hi1).2.2)) (bS J (aD eN J (aD i9 J (aB (k:=24) (us:= [I3 (q.1+4)]) (c':=qj (q.1+4) (rp c1.r 1 0) ((p.k:Int)+(k1:Int)) y.2.m) eG J J J J J J J J (aa (ap (ad J (bS J (aD eN J (aD i7 J ?_))))))))))))))))));refine aT 24 t3 J J J J (av J J (cC (c:=(p.k:Int)+(k1:Int)+1) (bU (by omega))) (bS J (aD eN J (aD i7 J (aB (k:=24) (us:= [I6 ((p.k:Int)+(k1:Int)+1)]) (c':=qj (q.1+4) (rp c1.r 1 0) ((p.k:Int)+(k1:Int)+1) y.2.m) t3 J J J J J J J J (aa ?_))))));refine aG ⟨q.1+4,q.2,_,m2,p.k+k1+1,p.v,p.vo⟩ ⟨⟨hq.nin hi1,o4,by show m2+(p.k+k1+1)=n;omega,by show c1.out.length≤p.k+k1+1;rw [hio.2];omega⟩,by show m2<p.m;omega⟩ J (by dsimp only;rw [hio.2,hio.1,(w8 hin).1,show((p.k+k1+1:Nat):Int)=(p.k:Int)+(k1:Int)+1 by omega];rfl) (by dsimp only;rw [hio.1,(w8 hin).2];rfl)
theorem zn(t:Tx)(ht:GX t)(hn:nX t≤1000000000000)(ih:∀u∈t.kids,nX u≤1000000000000→Spec prog 107 [xV u] [] [cm u.v u.kids] (X:=Unit) (fun _=>True) (fun _=>I6 (nX u:Int)) (fun _=> []) (fun _=> [])):
  bi prog 107 [xV t] [] [cm t.v t.kids] (I6 (nX t:Int)) []:=by
 refine aM func107 J ntmps107 J fun w0 M H=> ?_
 have hkl:=l8 ht;have hnx:=t7 t;refine bc 0 2 J gE (ar (cA J J fun b1=>aq J (aF J (aq J (aa (aV (aq J (aa (aC (bc 2 1 J (fun w G h _=>⟨G,h,fun _ h=>h⟩) (bI (X:=Nat) (fun i=>i≤t.kids.length) (fun i=> [(1,Pt b1),(3,I6 (1+(eH (t.kids.take i):Int))),(4,I6 (i:Int))]) (fun i=> [(1,be b1 61 (dB t))]) (fun i=> [(0,cm t.v t.kids),(1,sl 4 dB (sv t.v) t.kids)]) (fun i=>t.kids.length-i) 0 (bq _) J J J (fun i n1=>aZ (aZ ?_)))))))))))));refine ap (ad J (aD dT J (aT 1 jM J J J J (aS (aL underlying59 J (aN (k:=1) J)) (av J J cy (aa (am J (fun h1=> ?_) (fun h1=> ?_))))))))
 ·(try simp only [bk]at h1);have hi:i<t.kids.length:=by omega
  obtain⟨kid,hkid⟩:∃k,t.kids[i]?=some k:=⟨_,bT hi⟩
  have hkm:=cd hkid;have hle:=lT t.kids (i+1);rw [ft hkid]at hle;refine aA (aZ (aC (ap (ad J (aD dT J (aT 1 jM J J J J (ad J (aS (aK (j:=i) underlying59 ca J J (aN (k:=1) J) (by first|rfl|omega) (by first|omega|(simp;done)|(simp;omega))) (aS (aJ ca J J J (bJ (aN (k:=1) J) (by intro _;rfl) hkid (by rfl))) (bc 0 8 J (eb hkm) (ak (xs:= [.tmp 17]) (ih kid hkm (by omega)) Jr [] [(false,8)] [] (fun _ _=>av J J aO (aq J (aa (ap (ad J (av J J aO (aq J (aa ?_)))))))))))))))))));refine aG (i+1) ⟨by omega,by omega⟩ (by rw [ft hkid,Int.natCast_add,←Int.add_assoc];rfl) J J
 ·(try simp only [bk]at h1);have hi:i=t.kids.length:=by omega
  subst hi;rw [cV];refine bM (ar (ad J (aq J (aa (az (aQ () O J (cc (aP J)) (by rw [hnx,Int.natCast_add,Int.add_comm];rfl) [] [] J J J))))))
theorem ui:∀(n:Nat)(t:Tx),SizeOf.sizeOf t<n→GX t→nX t≤1000000000000→bi prog 107 [xV t] [] [cm t.v t.kids] (I6 (nX t:Int)) []
 | 0,_,h,_,_=>absurd h (Nat.not_lt_zero _)
 | n+1,t,h,ht,hn=>zn t ht hn fun u hu h2=>ui n u (by have:=pJ hu;omega) ((ka ht).mem u hu) h2
theorem zo(t:Tx)(ht:GX t)(hn:nX t≤1000000000000):bi prog 107 [xV t] [] [cm t.v t.kids] (I6 (nX t:Int)) []:=ui _ t (Nat.lt_succ_self _) ht hn
theorem yl(v:SV)(l:List Ty)(hl:l.length≤1000000)(hg:GYs l)(hn:cM l≤1000000000000)(ih:∀u∈l,cM u.body≤1000000000000→cM u.els≤1000000000000→(Spec prog 61 [sv u.vb] [] [b_ u.vb u.body] (X:=Unit) (fun _=>True) (fun _=>I6 (cM u.body:Int)) (fun _=> []) (fun _=> []))∧(Spec prog 61 [sv u.vl] [] [b_ u.vl u.els] (X:=Unit) (fun _=>True) (fun _=>I6 (cM u.els:Int)) (fun _=> []) (fun _=> []))):
  bi prog 61 [sv v] [] [b_ v l] (I6 (cM l:Int)) []:=by
 refine aM func61 J ntmps61 J fun w0 M H=>bc 0 1 J hZ (ar (aq J (aF J (ad J (aS (aL underlying62 J (aN (k:=1) J)) (aq J (aa (aV (aq J (aa (aC ?_)))))))))))
 refine bI (X:=Nat) (fun i=>i≤l.length) (fun i=> [(0,sv v),(4,I6 (i:Int)),(3,I6 ((l.length:Int)-(i:Int)+(cM (l.take i):Int)))]) (fun i=> []) (fun i=> [(0,b_ v l),(1,sl 5 dM (sv v) l)]) (fun i=>l.length-i) 0 (bq _) (by rw [show(l.length:Int)-((0:Nat):Int)+(cM (l.take 0):Int)=(l.length:Int) by simp [cM]];rfl) J J (fun i n1=> ?_);refine aV (ad J (ad J (aS (aL underlying62 J (aN (k:=1) J)) (av J J cy (aa (am J (fun h1=> ?_) (fun h1=> ?_)))))))
 ·(try simp only [bk]at h1);have hi:i<l.length:=by omega
  obtain⟨st,hst⟩:∃k,l[i]?=some k:=⟨_,bT hi⟩
  have hsm:=cd hst;have hsy:=hg.mem st hsm;have hsg:=oM hsy;have hle:=no l (i+1);rw [iT hst]at hle;have hny:=Ed st;refine bc 0 7 J (lF hsm) (bc 0 8 J (iv hsm) (bc 0 9 J (ji hsm) (bc 7 10 J gE (aA (aZ (aC (aV (aq J (aa (aC ?_))))))))));refine bI (X:=Nat) (fun j=>j≤st.es.length) (fun j=> [(0,sv v),(4,I6 (i:Int)),(3,I6 ((l.length:Int)-(i:Int)+(cM (l.take i):Int)+(eH (st.es.take j):Int))),(5,I6 (j:Int))]) (fun j=> []) (fun j=> [(0,b_ v l),(1,sl 5 dM (sv v) l),(7,cm st.ve st.es),(8,b_ st.vb st.body),(9,b_ st.vl st.els),(10,sl 4 dB (sv st.ve) st.es)]) (fun j=>st.es.length-j) 0 (bq _) (by rw [show(l.length:Int)-(i:Int)+(cM (l.take i):Int)+(eH (st.es.take 0):Int)=(l.length:Int)-(i:Int)+(cM (l.take i):Int) by simp [eH]];rfl) J J (fun j n2=> ?_);refine aV (ad J (ad J (ad J (aS (aK (j:=i) underlying62 cr J J (aN (k:=1) J) (by first|rfl|omega) (by first|omega|(simp;done)|(simp;omega))) (aS (bB ie J) (aS (ae jM J J (dl (aN (k:=1) J) (by intro _;rfl) hst J)) (aS (aL underlying59 J (aN (k:=10) J)) (av J J cy (aa (am J (fun h2=> ?_) (fun h2=> ?_)))))))))))
  ·(try simp only [bk]at h2);have hj:j<st.es.length:=by omega
   obtain⟨kid,hkid⟩:∃k,st.es[j]?=some k:=⟨_,bT hj⟩
   have hkm:=cd hkid;have hlx:=lT st.es (j+1);rw [ft hkid]at hlx;refine aA (aZ (aC (ap (ad J (ad J (ad J (aS (aK (j:=i) underlying62 cr J J (aN (k:=1) J) (by first|rfl|omega) (by first|omega|(simp;done)|(simp;omega))) (aS (bB ie J) (aS (ae jM J J (dl (aN (k:=1) J) (by intro _;rfl) hst J)) (ad J (aS (aK (j:=j) underlying59 ca J J (aN (k:=10) J) (by first|rfl|omega) (by first|omega|(simp;done)|(simp;omega))) (aS (aJ ca J J J (bJ (aN (k:=10) J) (by intro _;rfl) hkid (by rfl))) (bc 7 12 J (eb hkm) (ak (xs:= [.tmp 32]) (zo kid (hsg.2.mem kid hkm) (by omega)) Jr [] [(false,12)] [] (fun _ _=>av J J aO (aq J (aa (ap (ad J ?_)))))))))))))))))));refine av J J aO (aq J (aa ?_));refine aG (j+1) ⟨by omega,by omega⟩ (by rw [ft hkid,Int.natCast_add,←Int.add_assoc];rfl) J J
  ·(try simp only [bk]at h2);have hj:j=st.es.length:=by omega
   subst hj;rw [cV];refine bM ?_;refine bQ [35,36,37,38,39,40,41,42,43,44,45,46,47,48,49] _ J (aW (V:= [(0,35,_),(1,36,_),(2,37,_),(3,38,_),(4,39,_),(5,40,_),(8,43,_),(9,44,_),(10,45,_),(11,46,_),(12,47,_)]) [0,1,2,3,4,5,8,9,10,11,12] 6 [6,5,4,3,2,1] [7] (fun _=> [(7,42,_)]) J J (ay J J (ay J J (ay J J (ac J (aK (j:=i) underlying62 cr J J (aN (k:=1) J) (by first|rfl|omega) (by first|omega|(simp;done)|(simp;omega))) (ac J (bB fV J) (ac J (ae eR J J (dl (aN (k:=1) J) (by intro _;rfl) hst J)) (ay J J (ay J J (ac J (aK (j:=i) underlying62 cr J J (aN (k:=1) J) (by first|rfl|omega) (by first|omega|(simp;done)|(simp;omega))) (ac J (bB fK J) (ac J (ae eR J J (dl (aN (k:=1) J) (by intro _;rfl) hst J)) ag))))))))))) J J J J J J J J J J J (fun _ _=>J) J (bw (xs:= [.tmp 40]) (ih st hsm (by omega) (by omega)).1 Lu [] [(false,8)] []) (fun _ _=>aW [7,0,8,9,10,11,12] 13 [13,12,11,10,9,8,6,5,4,3,2,1] [14] (fun _=> [(14,49,_)]) J J (ac J (aU J J aO) (ay J J (ay J J (ay J J (ac J (aK (j:=i) underlying62 cr J J (aN (k:=1) J) (by first|rfl|omega) (by first|omega|(simp;done)|(simp;omega))) (ac J (bB fK J) (ac J (ae eR J J (dl (aN (k:=1) J) (by intro _;rfl) hst J)) ag))))))) J J J J J J J J J J J (fun _ _=>J) J (bw (xs:= [.tmp 47]) (ih st hsm (by omega) (by omega)).2 Lu [] [(false,9)] []) (fun _ _=>ws [14,7,0] 15 [15,14,13,12,11,10,9,8,7,6,5,4,3,2,1,0] J J (ac J (aU J J aO) (ac J (aU J J aO) (ay J J ag))) J J J J J J J J (cT J) ?_)));refine ap (ad J (av J J aO (aq J (aa ?_))));refine aG (i+1) ⟨by omega,by omega⟩ (by rw [iT hst,show(l.length:Int)-((i+1:Nat):Int)+((cM (l.take i)+nY st:Nat):Int)=(l.length:Int)-(i:Int)+(cM (l.take i):Int)+(eH st.es:Int)+(cM st.body:Int)+(cM st.els:Int) by omega];rfl) J J
 ·(try simp only [bk]at h1);have hi:i=l.length:=by omega
  subst hi;rw [cV];refine bM (ar (ad J (aq J (aa (az ?_)))));refine aQ () O J (cc (aP J)) (by rw [show(l.length:Int)-(l.length:Int)+(cM l:Int)=(cM l:Int) by omega]) [] [] J J J
theorem oX:∀(n:Nat)(v:SV)(l:List Ty),SizeOf.sizeOf l<n→l.length≤1000000→GYs l→cM l≤1000000000000→bi prog 61 [sv v] [] [b_ v l] (I6 (cM l:Int)) []
 | 0,_,_,h,_,_,_=>absurd h (Nat.not_lt_zero _)
 | n+1,v,l,h,hl,hg,hn=>yl v l hl hg hn fun u hu q1 q2=>by
  have h1:=List.sizeOf_lt_of_mem hu;have h2:SizeOf.sizeOf u.body<SizeOf.sizeOf u∧SizeOf.sizeOf u.els<SizeOf.sizeOf u:=by
   cases u;simp only [Ty.mk.sizeOf_spec,Ty.body,Ty.els];omega
  have h3:=hg.mem u hu;exact⟨oX n u.vb u.body (by omega) (ff h3).1 (ff h3).2 q1,oX n u.vl u.els (by omega) (gk h3).1 (gk h3).2 q2⟩
theorem ym(v:SV)(l:List Ty)(hl:l.length≤1000000)(hg:GYs l)(hn:cM l≤1000000000000):bi prog 61 [sv v] [] [b_ v l] (I6 (cM l:Int)) []:=oX _ v l (Nat.lt_succ_self _) hl hg hn
def np:List Tf→Nat
 | []=>0
 | f::r=>cM f.body+np r
theorem AF:∀(a b:List Tf),np (a++b)=np a+np b
 | [],b=>by simp [np]
 | f::r,b=>by
  show cM f.body+np (r++b)=cM f.body+np r+np b;rw [AF r b];omega
theorem Eh{l:List Tf}{i:Nat}{k:Tf}(h:l[i]?=some k):np (l.take (i+1))=np (l.take i)+cM k.body:=by rw [cw h,AF];rfl
theorem Ej:∀{l:List Tf},(∀f∈l,GF f)→np l≤1000000*l.length
 | [],_=>bq _
 | f::r,h=>by
  have h1:=Ej (l:=r) fun g hg=>h g (List.mem_cons_of_mem _ hg)
  have h2:=(h f (by simp)).2.2.2.2.2;rw [bR];show cM f.body+np r≤_;omega
theorem yM(vp:SV)(fs:List Tf)(hg:GP fs):
  bi prog 17 [.agg #[sv vp]] [] [cE vp fs] (I6 (np fs:Int)) []:=by
 refine aM func17 J ntmps17 J fun w0 M H=> ?_
 have hfl:=hg.1;refine bc 0 1 J jw (ar (cA J J fun b1=>aq J (aF J (aq J (aa (aV (aq J (aa (aC (bI (X:=Nat) (fun i=>i≤fs.length) (fun i=> [(1,Pt b1),(3,I6 (np (fs.take i):Int)),(4,I6 (i:Int))]) (fun i=> [(1,be b1 27 [sv vp])]) (fun i=> [(0,cE vp fs),(1,sl 3 gu (sv vp) fs)]) (fun i=>fs.length-i) 0 (bq _) J J J (fun i n1=>aV ?_)))))))))));refine ad J (aD dx J (aT 1 ip J J J J (aS (aL underlying25 J (aN (k:=1) J)) (av J J cy (aa (am J (fun h1=> ?_) (fun h1=> ?_)))))))
 ·(try simp only [bk]at h1);have hi:i<fs.length:=by omega
  obtain⟨f,hst⟩:∃k,fs[i]?=some k:=⟨_,bT hi⟩
  have hfm:=cd hst;have hgf:=hg.2 f hfm;have hbb:=Ej (l:=fs.take i) fun g hg2=>hg.2 g (List.mem_of_mem_take hg2)
  rw [List.length_take]at hbb;have hgb:=hgf.2.2.2.2.2;refine aA (aZ (aC (ap (ad J (aD dx J (aT 1 ip J J J J (ad J (aS (aK (j:=i) underlying25 fC J J (aN (k:=1) J) (by first|rfl|omega) (by first|omega|(simp;done)|(simp;omega))) (aS (bB bX J) (aS (ae eR J J (dl (aN (k:=1) J) (by intro _;rfl) hst J)) (bc 0 7 J (lI hfm) (bc 7 8 J kF (ak (xs:= [.tmp 18]) (ym f.vb f.body hgf.2.2.2.1 hgf.2.2.2.2.1 (by have:=hgf.2.2.2.2.2;omega)) Lu [] [(false,8)] [] (fun _ _=>av J J aO (aq J (aa (ap (ad J (av J J aO ?_)))))))))))))))))));refine aq J (aa ?_);refine aG (i+1) ⟨by omega,by omega⟩ (by rw [Eh hst,Int.natCast_add];rfl) J J
 ·(try simp only [bk]at h1);have hi:i=fs.length:=by omega
  subst hi;rw [cV];refine bM (ar (ad J (aq J (aa (az (aQ () O J (cc (aP J)) J [] [] J J J))))))
theorem B1(va vb:SV)(a b:List Int)(ha:a.length≤1000000000):
  bi prog 44 [sv va,sv vb] [] [sl 1 eU (sv va) a,sl 1 eU (sv vb) b] (.bool (decide (a=b))) []:=by
 refine aM func44 J ntmps44 J fun w0 M H=>ar (aq J (aa (aV (ad J (aS (aL underlying48 J (aN (k:=0) J)) (ad J (aS (aL underlying48 J (aN (k:=1) J)) (av J J gj (aa (am J (fun h1=> ?_) (fun h1=> ?_)))))))))))
 ·(try simp only [bk]at h1);have hne:¬a=b:=fun h=>by subst h;exact absurd J h1
  rw [decide_eq_false hne];refine ar (aq J (aa (az (aQ () O J (cc (aP J)) J [] [] J J J))))
 ·(try simp only [bk]at h1);have hle:a.length=b.length:=by omega
  refine aA (aV (aq J (aa (aC (bI (X:=Nat) (fun i=>i≤a.length∧a.take i=b.take i) (fun i=> [(0,sv va),(1,sv vb),(5,I6 (i:Int))]) (fun i=> []) (fun i=> [(0,sl 1 eU (sv va) a),(1,sl 1 eU (sv vb) b)]) (fun i=>a.length-i) 0 ⟨bq _,J⟩ J J J (fun i n1=>aV (ad J (ad J (aS (aL underlying48 J (aN (k:=0) J)) (av J J cy (aa (am J (fun h2=> ?_) (fun h2=> ?_)))))))))))))
  ·(try simp only [bk]at h2);have hi:i<a.length:=by omega
   obtain⟨x,hx⟩:∃x,a[i]?=some x:=⟨_,bT hi⟩
   obtain⟨y,hy⟩:∃y,b[i]?=some y:=⟨_,bT (by omega)⟩
   refine aA (aZ (aC (aZ (bQ [17,18,19,20,21,22,23,24,25] _ J (bn (V:= [(0,17,_),(1,18,_),(2,19,_),(3,20,_),(4,21,_),(5,22,_),(6,23,_),(7,24,_),(8,25,_)]) [0,1,2,3,4,5,6,7,8] J J (ay J J (ay J J (ac J (aK (j:=i) underlying48 eG J J (aN (k:=0) J) (by first|rfl|omega) (by first|omega|(simp;done)|(simp;omega))) (ac J (ae eG J J (bJ (aN (k:=0) J) (by intro _;rfl) hx (by rfl))) (ay J J (ay J J (ac J (aK (j:=i) underlying48 eG J J (aN (k:=1) J) (by first|rfl|omega) (by first|omega|(simp;done)|(simp;omega))) (ac J (ae eG J J (bJ (aN (k:=1) J) (by intro _;rfl) hy (by rfl))) (ac J (aU J J gj) ag))))))))) J J J (am J (fun h3=> ?_) (fun h3=> ?_)))))))
   ·(try simp only [bk]at h3);have hne:¬a=b:=fun h=>by subst h;rw [hx]at hy;exact absurd (d5 hy) h3
    rw [decide_eq_false hne];refine ar (aq J (aa (az (aQ () O J (cc (aP J)) J [] [] J J J))))
   ·(try simp only [bk]at h3);have hxy:x=y:=by omega
    refine aA (ap (ad J (av J J aO (aq J (aa ?_)))));refine aG (i+1) ⟨⟨by omega,by rw [cw hx,cw hy,n1.2,hxy]⟩,by omega⟩ J J J
  ·(try simp only [bk]at h2);have hi:i=a.length:=by omega
   subst hi;have hab:a=b:=by
    have h:=n1.2
    rwa [cV,hle,cV]at h
   rw [decide_eq_true hab];refine bM (ar (aq J (aa (az (aQ () O J (cc (aP J)) J [] [] J J J)))))
def oQ(l:List Qi):Bool:=l.all fun q=>qp q&&(decide (0≤q.imm)&&decide (q.imm<4294967296))
theorem di{a b:List Qi}(h1:oQ a=true)(h2:oQ b=true):oQ (a++b)=true:=by
 unfold oQ at*;rw [List.all_append,h1,h2];rfl
theorem jE:oQ []=true:=rfl
theorem vD{q:Qi}(h:qp q=true)(hi:0≤q.imm∧q.imm<4294967296):oQ [q]=true:=by
 show((qp q&&_)&&true)=true;rw [h,decide_eq_true hi.1,decide_eq_true hi.2];rfl
theorem KU{l:List Qi}(h:oQ l=true):∀i∈l,qp i=true∧0≤i.imm∧i.imm<4294967296:=fun i hi=>by
 have:=List.all_eq_true.1 h i hi;simp only [Bool.and_eq_true,decide_eq_true_eq]at this;exact this
theorem zl{n:Int}(h:0≤n∧n<16):gr n true=true:=by
 unfold gr;simp only [Bool.or_eq_true,decide_eq_true_eq,Bool.and_eq_true,Bool.true_and];omega
theorem LR{op d a n:Int}(ho:dt op=⟨true,true,true,false,1,18,0⟩)(hd:0≤d∧d<16)(ha:0≤a∧a<16)(hn:oW n)(hf:jc n=true):oQ [qi op d a n]=true:=by
 refine vD ?_ hn;unfold qp;show((dt op).k&&gr d (dt op).d&&gr a (dt op).a&&gr 0 (dt op).b&&kN (dt op) n)=true;rw [ho];show(true&&gr d true&&gr a true&&gr 0 false&&decide (xQ 18 n=n))=true;rw [zl hd,zl ha,Dx hn,hf];rfl
theorem Mx{n:Int}(hn:oW n)(h:n<2097152∨4294967296-2097152≤n):xQ 22 n=n:=by
 have h1:=hn.1;have h2:=hn.2;unfold xQ wU;rw [show((32:Int)-22).toNat=10 from J];simp only [IntKind.wrap_u32,IntKind.wrap_i32];omega
theorem Mj{d n:Int}(hd:0≤d∧d<16)(hn:oW n)(h:n<2097152∨4294967296-2097152≤n):oQ [qi 40 d 0 n]=true:=by
 refine vD ?_ hn;unfold qp;have ho:dt 40=⟨true,true,false,false,1,22,0⟩:=by kernel_rfl
 show((dt 40).k&&gr d (dt 40).d&&gr 0 (dt 40).a&&gr 0 (dt 40).b&&kN (dt 40) n)=true;rw [ho];show(true&&gr d true&&gr 0 false&&gr 0 false&&decide (xQ 22 n=n))=true;rw [zl hd,Mx hn h,decide_eq_true J];rfl
theorem wj{x:Int}(h: -131072≤x∧x<131072):oW (wU x)∧jc (wU x)=true∧(wU x<2097152∨4294967296-2097152≤wU x):=by
 have e:wU x=x%4294967296:=J;unfold jc;rw [e];simp only [Bool.or_eq_true,decide_eq_true_eq];refine⟨⟨?_,?_⟩,?_,?_⟩<;>omega
theorem M3:dt 16=⟨true,true,true,false,1,18,0⟩:=by kernel_rfl
theorem Pv:dt 23=⟨true,true,true,false,1,18,0⟩:=by kernel_rfl
theorem Pu:dt 25=⟨true,true,true,false,1,18,0⟩:=by kernel_rfl
theorem M2:dt 32=⟨true,true,true,false,1,18,0⟩:=by kernel_rfl
theorem EM{c:Prop} [Decidable c]{a b:List Qi}(h1:oQ a=true)(h2:oQ b=true):oQ (if c then a else b)=true:=by split;exact h1;exact h2
theorem Nd:oQ [⟨48,0,0,0,2⟩]=true:=by kernel_rfl
theorem Jw(o:Ba):oQ (BI o)=true:=by
 unfold BI
 repeat (refine EM (by kernel_rfl) ?_)
 exact jE
theorem Jv(o:Ba):oQ (CN o)=true:=by
 unfold CN
 repeat (refine EM (by kernel_rfl) ?_)
 exact jE
theorem F4{n:Int}(hn:oW n):oQ (qn n)=true:=by
 unfold qn;split
 ·rename_i h;exact LR M3 (by decide) (by decide) hn h
 ·have h1:=hn.1;have h2:=hn.2;refine di (a:= [qi 41 1 0 (n/1024)]) (b:= [qi 18 1 1 (n%1024)]) (vD ?_ ⟨by show 0≤n/1024;omega,by show n/1024<4294967296;omega⟩) (vD ?_ ⟨by show 0≤n%1024;omega,by show n%1024<4294967296;omega⟩)
  ·have ho:dt 41=⟨true,true,false,false,2,22,0⟩:=by kernel_rfl
   unfold qp;show((dt 41).k&&gr 1 (dt 41).d&&gr 0 (dt 41).a&&gr 0 (dt 41).b&&kN (dt 41) (n/1024))=true;rw [ho];show(true&&true&&true&&true&&decide (n/1024/4194304=0))=true;rw [decide_eq_true (by omega)];rfl
  ·have ho:dt 18=⟨true,true,true,false,2,18,0⟩:=by kernel_rfl
   unfold qp;show((dt 18).k&&gr 1 (dt 18).d&&gr 1 (dt 18).a&&gr 0 (dt 18).b&&kN (dt 18) (n%1024))=true;rw [ho];show(true&&true&&true&&true&&decide (n%1024/262144=0))=true;rw [decide_eq_true (by omega)];rfl
structure ZH(o:Om)(S:Ba→Int):Prop where
 o:∀x,oW (bO o x)∧jc (bO o x)=true
 S:∀x,0≤S x∧S x≤2000
theorem C5:∀l:List Tx,2*l.length≤ta l
 | []=>cj _
 | t::r=>by
  have:=C5 r;unfold ta;rw [bR];omega
theorem DV:oQ (fX 1)=true:=by kernel_rfl
theorem MG:oQ (lA 2)=true:=by kernel_rfl
mutual
theorem Im{o:Om}{S:Ba→Int}(h:ZH o S):∀(t:Tx)(p:Nat),GX t→p+wX t≤2000→oQ (zX o S t p)=true
 | .mk k n nm _ kids,p,hg,hp=>by
  obtain⟨g1,-,-,g4⟩:=hg;have h0:=fun q=>xY h kids q g4
  have h1:=fun q=>CW h kids q g4
  have hs:=fun q=>CV h kids q g4
  have l0:=nK o S kids p;have ls:=qx o S kids p;have lk:=C5 kids;unfold wX at hp;unfold zX;split
  ·exact F4 g1
  rename_i k1;rw [ai k1]at hp;split
  ·exact LR Pv (by decide) (by decide) (h.o nm).1 (h.o nm).2
  rename_i k2;rw [ai k2]at hp;split
  ·exact Nd
  rename_i k5;rw [ai k5]at hp;split
  ·rename_i k4;rw [aw k4]at hp;exact di (h0 p (by omega)) (by kernel_rfl)
  rename_i k4;rw [ai k4]at hp;split
  ·rename_i k6;rw [aw k6]at hp;exact di (h0 p (by omega)) (Jv nm)
  rename_i k6;rw [ai k6]at hp;split
  ·rename_i k7;rw [aw k7]at hp;exact di (h0 p (by omega)) (di DV (di (h1 _ (by omega)) (di MG (Jw nm))))
  rename_i k7;rw [ai k7]at hp;split
  ·rename_i k3;rw [aw k3]at hp;have hS:=h.S nm;have hw:=wj (x:=S nm-((p+(xX o S kids p).length:Nat):Int)) ⟨by omega,by omega⟩;refine di (hs p (by omega)) (di (Mj (by decide) hw.1 hw.2.2) ?_);split
   ·refine LR M3 (by decide) (by decide) ⟨by omega,by omega⟩ ?_;unfold jc;rw [decide_eq_true (show 4*(kids.length:Int)<131072 by omega)];rfl
   ·exact jE
  ·exact jE
theorem xY{o:Om}{S:Ba→Int}(h:ZH o S):∀(l:List Tx)(p:Nat),GXs l→p+jO l≤2000→oQ (xO o S l p)=true
 | [],p,_,_=>jE
 | t::_,p,hg,hp=>Im h t p hg.1 hp
theorem CW{o:Om}{S:Ba→Int}(h:ZH o S):∀(l:List Tx)(p:Nat),GXs l→p+Mf l≤2000→oQ (L_ o S l p)=true
 | [],p,_,_=>jE
 | _::r,p,hg,hp=>xY h r p hg.2 hp
theorem CV{o:Om}{S:Ba→Int}(h:ZH o S):∀(l:List Tx)(p:Nat),GXs l→p+ta l≤2000→oQ (xX o S l p)=true
 | [],p,_,_=>jE
 | t::r,p,hg,hp=>by
  have lt:=g_ o S t p;unfold ta at hp;unfold xX;exact di (Im h t p hg.1 (by omega)) (di DV (CV h r _ hg.2 (by omega)))
end
mutual
theorem L9{o:Om}{S:Ba→Int}(h:ZH o S){E:Int}(hE:0≤E∧E≤2000):∀(t:Ty)(p:Nat),GY t→p+wY t≤2000→oQ (zY o S E t p)=true
 | .mk k nm _ es _ body _ els,p,hg,hp=>by
  obtain⟨-,⟨-,g2⟩,⟨-,g3⟩,-,g4⟩:=hg;have h0:=fun q=>xY h es q g2
  have h1:=fun q=>CW h es q g2
  have hb:=fun q=>uA h hE body q g3
  have he:=fun q=>uA h hE els q g4
  have lb:=fun q=>fQ o S E body q
  have le:=fun q=>fQ o S E els q
  unfold wY at hp;unfold zY;split
  ·rename_i k1;rw [aw k1]at hp;exact di (h0 p (by omega)) (LR Pu (by decide) (by decide) (h.o nm).1 (h.o nm).2)
  rename_i k1;rw [ai k1]at hp;split
  ·rename_i k3;rw [aw k3]at hp;exact di (h0 p (by omega)) (di DV (di (h1 _ (by omega)) (di MG (by kernel_rfl))))
  rename_i k3;rw [ai k3]at hp;split
  ·rename_i k7;rw [aw k7]at hp;exact di (h0 p (by omega)) (by kernel_rfl)
  rename_i k7;rw [ai k7]at hp;split
  ·rename_i k6;rw [aw k6]at hp;have hw:=wj (x:=E-((p+jO es:Nat):Int)) ⟨by omega,by omega⟩;exact di (h0 p (by omega)) (Mj (by decide) hw.1 hw.2.2)
  rename_i k6;rw [ai k6]at hp;split
  ·rename_i k4;rw [aw k4]at hp;have e1:(if els.length>0 then 1 else 0)≤1:=by split<;>omega
   have e2:(if els.length>0 then 2 else 1)=(if els.length>0 then 1 else 0)+1:=by split<;>rfl
   rw [e2]at hp;generalize hq:(if els.length>0 then 1 else 0)=q at*;have hw:=wj (x:=(((lw o S E body (p+jO es+1)).length+q+1:Nat):Int)) ⟨by omega,by rw [lb];omega⟩;refine di (h0 p (by omega)) (di (LR M2 (by decide) (by decide) hw.1 hw.2.1) (di (hb _ (by omega)) (di ?_ (he _ (by rw [lb];omega)))));split
   ·have hw2:=wj (x:=(((lw o S E els (p+jO es+1+(lw o S E body (p+jO es+1)).length+q)).length+1:Nat):Int)) ⟨by omega,by rw [le];omega⟩;exact Mj (by decide) hw2.1 hw2.2.2
   ·exact jE
  rename_i k4;rw [ai k4]at hp;split
  ·rename_i k5;rw [aw k5]at hp;have hw:=wj (x:=(((lw o S E body (p+jO es+1)).length+2:Nat):Int)) ⟨by omega,by rw [lb];omega⟩;have hw2:=wj (x:= -(((lw o S E body (p+jO es+1)).length+jO es+1:Nat):Int)) ⟨by rw [lb];omega,by omega⟩;exact di (h0 p (by omega)) (di (LR M2 (by decide) (by decide) hw.1 hw.2.1) (di (hb _ (by omega)) (Mj (by decide) hw2.1 hw2.2.2)))
  ·rename_i k5;rw [ai k5]at hp;exact h0 p (by omega)
theorem uA{o:Om}{S:Ba→Int}(h:ZH o S){E:Int}(hE:0≤E∧E≤2000):∀(l:List Ty)(p:Nat),GYs l→p+fY l≤2000→oQ (lw o S E l p)=true
 | [],p,_,_=>jE
 | t::r,p,hg,hp=>by
  have lt:=xW o S E t p;unfold fY at hp;unfold lw;exact di (L9 h hE t p hg.1 (by omega)) (uA h hE r _ hg.2 (by omega))
end
theorem tL:∀n,oQ (jv n)=true
 | 0=>jE
 | n+1=>di (a:=fX 0) (by kernel_rfl) (tL n)
def okV(o:Om):Prop:=∀x,oW (bO o x)∧jc (bO o x)=true
theorem okV.put{o:Om}(h:okV o)(x:Ba){n:Int}(hn:oW n∧jc n=true):okV (gH o x n):=fun y=>by
 rw [iw];split
 ·exact hn
 ·exact h y
theorem okV.gP{n:Int}(hn:n≤1000):∀(l:List Ba)(k:Int)(o:Om),okV o→0≤k→k+l.length≤n→okV (gP n k l o)
 | [],k,o,h,_,_=>h
 | p::r,k,o,h,hk,hl=>by
  rw [bR]at hl;refine okV.gP hn r (k+1) _ (h.put p ⟨⟨by omega,by omega⟩,?_⟩) (by omega) (by omega);unfold jc;rw [decide_eq_true (show 8+4*(n-1-k)<131072 by omega)];rfl
mutual
theorem okV.gD:∀(t:Ty)(p:Om×Int),okV p.1→0≤p.2→p.2+(vY t:Int)≤1000→okV (gD t p).1
 | .mk k nm ve es vb body vl els,p,h,h0,hl=>by
  rw [show vY (.mk k nm ve es vb body vl els)=(if k=1 then 1 else 0)+dD body+dD els from J]at hl;rw [ze];by_cases hk:k=1
  ·rw [aw hk]at hl ⊢;have hw:=wj (x:= -(4*(p.2+1))) ⟨by omega,by omega⟩;refine okV.gDs els _ (okV.gDs body _ (h.put nm ⟨hw.1,hw.2.1⟩) (by show 0≤p.2+1;omega) (by show p.2+1+_≤1000;omega)) ?_ ?_
   ·rw [oo];show 0≤p.2+1+_;omega
   ·rw [oo];show p.2+1+_+_≤1000;omega
  ·rw [ai hk]at hl ⊢;refine okV.gDs els _ (okV.gDs body _ h h0 (by omega)) ?_ ?_
   ·rw [oo];omega
   ·rw [oo];omega
theorem okV.gDs:∀(l:List Ty)(p:Om×Int),okV p.1→0≤p.2→p.2+(dD l:Int)≤1000→okV (gDs l p).1
 | [],p,h,_,_=>h
 | t::r,p,h,h0,hl=>by
  rw [show dD (t::r)=vY t+dD r from J]at hl;refine okV.gDs r _ (okV.gD t p h h0 (by omega)) ?_ ?_
  ·rw [K0];omega
  ·rw [K0];omega
end
theorem P5:jc 0=true:=by decide
theorem Ma{S:Ba→Int}(hS:∀x,0≤S x∧S x≤2000){f:Tf}(hg:GF f)(hn:f.ps.length+dD f.body≤12){p:Nat}(hp:p+wF f≤2000):oQ (zF S f p)=true:=by
 unfold wF at hp;have ho:okV (dP f).1:=okV.gDs f.body _ (okV.gP (by omega) f.ps 0 [] (fun _=>⟨lm,P5⟩) (Int.le_refl _) (by omega)) (Int.le_refl _) (by show(0:Int)+_≤1000;omega);have hb:=uA (o:=(dP f).1) ⟨ho,hS⟩ (E:=((p+10+2*(dP f).2.toNat+fY f.body:Nat):Int)) ⟨by omega,by omega⟩ f.body (p+9+2*(dP f).2.toNat) hg.2.2.2.2.1 (by omega);unfold zF;exact di (by kernel_rfl) (di (by kernel_rfl) (di (by kernel_rfl) (di (by kernel_rfl) (di (tL _) (di hb (by kernel_rfl))))))
theorem CY{S:Ba→Int}(hS:∀x,0≤S x∧S x≤2000):∀(l:List Tf)(p:Nat),(∀f∈l,GF f∧f.ps.length+dD f.body≤12)→p+x_ l≤2000→oQ (C0 S l p)=true
 | [],p,_,_=>jE
 | f::r,p,h,hp=>by
  unfold x_ at hp;unfold C0;exact di (Ma hS (h f (by simp)).1 (h f (by simp)).2 (by omega)) (CY hS r _ (fun g hg=>h g (List.mem_cons_of_mem _ hg)) (by omega))
theorem zQ:∀(l:List Tf)(p:Nat)(x:Ba),0≤iO l p x∧iO l p x≤3+p+x_ l
 | [],p,x=>by unfold iO;omega
 | f::r,p,x=>by
  have:=zQ r (p+wF f) x;unfold iO x_;split
  ·omega
  ·omega
theorem F5{fs:List Tf}(hg:GP fs)(h:∀f∈fs,f.ps.length+dD f.body≤12)(hl:(jN fs).length≤1984):oQ (jN fs)=true:=by
 have hlen:(jN fs).length=3+x_ fs:=by
  unfold jN;rw [bA,qy];rfl
 have hS:∀x,0≤iO fs 3 x∧iO fs 3 x≤2000:=fun x=>by have:=zQ fs 3 x;omega
 have hm:=hS ed;have hw:=wj (x:=iO fs 3 ed-1) ⟨by omega,by omega⟩;unfold jN;refine di ?_ (CY hS fs 3 (fun f hf=>⟨hg.2 f hf,h f hf⟩) (by omega));exact di (a:= [qi 16 14 0 16384]) (by kernel_rfl) (di (a:= [qi 40 15 0 (wU (iO fs 3 ed-1))]) (Mj (by decide) hw.1 hw.2.2) (by kernel_rfl))
def RC(g:Nat):Prop:=
 (∀fs d vs t s e,kS g fs d vs t s=some (.err e)→e=25∨e=26)∧(∀fs d vs acc l s e,ly g fs d vs acc l s=some (.err e)→e=25∨e=26)∧
 (∀fs d f al s e,tF g fs d f al s=some (.err e)→e=25∨e=26)∧(∀fs d vs l s e,mL g fs d vs l s=some (.err e)→e=25∨e=26)∧
 (∀fs d vs t s e,qv g fs d vs t s=some (.err e)→e=25∨e=26)∧(∀fs d vs t l v s e,tE g fs d vs t l v s=some (.err e)→e=25∨e=26)
theorem E8:∀g,RC g
 | 0=>⟨fun _ _ _ _ _ _ h=>(by rw [kS]at h;cases h),fun _ _ _ _ _ _ _ h=>(by rw [ly]at h;cases h),fun _ _ _ _ _ _ h=>(by rw [tF]at h;cases h),fun _ _ _ _ _ _ h=>(by rw [mL]at h;cases h),fun _ _ _ _ _ _ h=>(by rw [qv]at h;cases h),fun _ _ _ _ _ _ _ _ h=>(by rw [tE]at h;cases h)⟩
 | g+1=>by
  obtain⟨hX,hK,hC,hB,hS,hW⟩:=E8 g;refine⟨fun fs d vs t s e h=> ?_,fun fs d vs acc l s e h=> ?_,fun fs d f al s e h=> ?_,fun fs d vs l s e h=> ?_,fun fs d vs t s e h=> ?_,fun fs d vs t l v s e h=> ?_⟩
  ·rw [kS]at h;split at h
   ·injection h with h;injection h with h;exact .inl h.symm
   split at h
   ·cases h
   ·rename_i q;injection h with h;injection h with h;subst h;exact hK _ _ _ _ _ _ _ q
   ·repeat' split at h
    all_goals first|(cases h;done)|exact hC _ _ _ _ _ _ h
  ·cases l with
   | nil=>rw [ly]at h;cases h
   | cons t r=>
    rw [ly]at h;split at h
    ·cases h
    ·rename_i q;injection h with h;injection h with h;subst h;exact hX _ _ _ _ _ _ q
    ·exact hK _ _ _ _ _ _ _ h
  ·rw [tF]at h;split at h
   ·injection h with h;injection h with h;exact .inr h.symm
   split at h
   ·cases h
   ·rename_i q;injection h with h;injection h with h;subst h;exact hB _ _ _ _ _ _ q
   ·cases h
  ·cases l with
   | nil=>rw [mL]at h;cases h
   | cons t r=>
    rw [mL]at h;split at h
    ·cases h
    ·rename_i q;injection h with h;injection h with h;subst h;exact hS _ _ _ _ _ _ q
    ·cases h
    ·exact hB _ _ _ _ _ _ h
  ·rw [qv]at h;split at h
   ·injection h with h;injection h with h;exact .inl h.symm
   split at h
   ·cases h
   split at h
   ·cases h
   ·rename_i q;injection h with h;injection h with h;subst h;exact hX _ _ _ _ _ _ q
   split at h
   ·cases h
   split at h
   ·split at h
    ·cases h
    split at h
    ·cases h
    ·rename_i q;injection h with h;injection h with h;subst h;exact hX _ _ _ _ _ _ q
    ·cases h
   split at h
   ·exact hB _ _ _ _ _ _ h
   split at h
   ·exact hW _ _ _ _ _ _ _ _ h
   split at h
   ·cases h
   split at h<;>cases h
  ·rw [tE]at h;split at h
   ·cases h
   split at h
   ·cases h
   ·rename_i q;injection h with h;injection h with h;subst h;exact hB _ _ _ _ _ _ q
   ·cases h
   ·split at h
    ·cases h
    ·rename_i q;injection h with h;injection h with h;subst h;exact hX _ _ _ _ _ _ q
    ·exact hW _ _ _ _ _ _ _ _ h
theorem Eq{c:Prop} [Decidable c]{a b:List Qi}{n:Nat}(h1:a.length≤n)(h2:b.length≤n):(if c then a else b).length≤n:=by split;exact h1;exact h2
mutual
theorem C7:∀t:Tx,wX t+2≤11*nX t
 | .mk k n nm _ kids=>by
  have h0:=x7 kids;have h1:=zU kids;have hs:=C6 kids;have hu:(CN nm).length≤2:=by
   unfold CN
   repeat (refine Eq (by decide) ?_)
   exact bq _
  have ho:(BI nm).length≤5:=by
   unfold BI
   repeat (refine Eq (by decide) ?_)
   exact bq _
  have hn:(qn n).length≤2:=by
   unfold qn;split
   ·exact Nat.le_succ 1
   ·exact cj 2
  show wX (.mk k n nm _ kids)+2≤11*(eH kids+1);unfold wX;split
  ·omega
  split
  ·omega
  split
  ·omega
  split
  ·omega
  split
  ·omega
  split
  ·omega
  split
  ·split<;>omega
  ·omega
theorem x7:∀l:List Tx,jO l≤11*eH l
 | []=>bq _
 | t::r=>by
  have:=C7 t;show wX t≤11*(nX t+eH r);omega
theorem zU:∀l:List Tx,jO l+Mf l≤11*eH l
 | []=>bq _
 | t::r=>by
  have:=C7 t;have:=x7 r;show wX t+jO r≤11*(nX t+eH r);omega
theorem C6:∀l:List Tx,ta l≤11*eH l
 | []=>bq _
 | t::r=>by
  have:=C7 t;have:=C6 r;show wX t+(2+ta r)≤11*(nX t+eH r);omega
end
mutual
theorem Md:∀t:Ty,wY t+2*vY t≤11*nY t
 | .mk k nm ve es vb body vl els=>by
  have h0:=x7 es;have h1:=zU es;have hb:=uC body;have he:=uC els;show wY (.mk k nm ve es vb body vl els)+2*((if k=1 then 1 else 0)+dD body+dD els)≤11*(1+eH es+cM body+cM els);have hk:(if k=1 then 1 else 0)≤1:=by split<;>omega
  have hk2:(if els.length>0 then 2 else 1)≤2:=by split<;>omega
  unfold wY;split
  ·omega
  split
  ·omega
  split
  ·omega
  split
  ·omega
  split
  ·omega
  split
  ·omega
  ·omega
theorem uC:∀l:List Ty,fY l+2*dD l≤11*cM l
 | []=>cj _
 | t::r=>by
  have:=Md t;have:=uC r;show wY t+fY r+2*(vY t+dD r)≤11*(nY t+cM r);omega
end
theorem C_:∀l:List Tf,x_ l≤17*l.length+11*np l
 | []=>cj _
 | f::r=>by
  have h1:=C_ r;have h2:=uC f.body;have h3:(dP f).2=(dD f.body:Int):=by show(gDs f.body (gP f.ps.length 0 f.ps [],0)).2=_;rw [oo];omega
  rw [bR];show wF f+x_ r≤17*(r.length+1)+11*(cM f.body+np r);unfold wF;omega
theorem C1(fs:List Tf):(jN fs).length=3+x_ fs:=by
 unfold jN;rw [bA,qy];rfl
theorem zB{fs:List Tf}{f:Tf}(h:Fine fs f)(hn:np fs≤120):(jN fs).length≤1984:=by
 have h1:=C_ fs;have h2:=h.len;rw [C1];omega
theorem Bj(d:Nat)(xs ys:Array Value)(w:World):(Op.eqFields d xs ys []).run prog w= .ok true w:=rfl
theorem oF{d:Nat}{xs ys:Array Value}{f:Field}{fs:List Field}{a b:Value}{r q:Bool}{w:World}(hn:f.name≠ "_")(h1:(part f.type xs f.offset).run prog w= .ok a w)(h2:(part f.type ys f.offset).run prog w= .ok b w)
  (h3:(Op.equalIn d f.type a b).run prog w= .ok r w) (h4:(Op.eqFields d xs ys fs).run prog w= .ok q w):(Op.eqFields d xs ys (f::fs)).run prog w= .ok (r&&q) w:=by
 unfold Op.eqFields;rw [aw hn];simp only [Sem.run_bind,h1,h2,h3,Result.andThen_ok];cases r
 ·rfl
 ·exact h4
theorem P7{a b c d:Int}(w:World):(Op.equalIn 10000 53 (.agg #[I6 a,I3 b]) (.agg #[I6 c,I3 d])).run prog w= .ok (decide (a=c)&&decide (b=d)) w:=by
 obtain⟨f0,f1,hu,n0,o0,q0,n1,o1,q1⟩:∃f0 f1:Field,prog.underlying 53=some (.struct #[f0,f1])∧f0.name≠ "_"∧f0.offset=0∧f0.type=3∧f1.name≠ "_"∧f1.offset=1∧f1.type=41:=⟨_,_,underlying53,by decide,rfl,rfl,by decide,rfl,rfl⟩
 have hf:prog.fieldsOf 53= #[f0,f1]:=by unfold Program.fieldsOf;rw [hu]
 have hs:prog.stoodInHeld 53=false:=by kernel_rfl
 rw [show(10000:Nat)=9999+1 from J,run_equalIn_struct w 9999 53 _ _ (by rw [hf];exact hu) hs,hf];have:=oF (d:=9999) (xs:= #[I6 a,I3 b]) (ys:= #[I6 c,I3 d]) (f:=f0) (fs:= [f1]) (w:=w) n0 (by rw [o0,q0];exact gw t3 J J w) (by rw [o0,q0];exact gw t3 J J w) (by rw [q0];exact run_equalIn_int w 9998 3 .i64 .i64 a c underlying3)
  (oF n1 (by rw [o1,q1];exact gw eG rfl rfl w) (by rw [o1,q1];exact gw eG rfl rfl w) (by rw [q1];exact run_equalIn_int w 9998 41 .u32 .u32 b d underlying41) (Bj _ _ _ w))
 rw [Bool.and_true]at this;exact this
theorem LD{a b c d:Int}:d8 prog .eql 53 (.agg #[I6 a,I3 b]) (.agg #[I6 c,I3 d]) (.bool (decide (a=c)&&decide (b=d))):=fun x y w=>by
 have hq:prog.eqGuardType prog.depth 53=false:=by kernel_rfl
 simp only [Sem.run_bind,run_eqGuard_agg w .eql 53 x y _ _ hq,Result.andThen_ok,run_eql_struct];rw [P7];rfl
theorem r_:∀{fs:List Tf}{i:Nat}{f:Tf}(p:Om×Qg),fs[i]?=some f→oR (fs.take (i+1)) p=(gH (oR (fs.take i) p).1 f.name (oR (fs.take i) p).2.labs.length,(oR (fs.take i) p).2.lab)
 | [],i,f,p,h=>by simp at h
 | x::r,0,f,p,h=>by cases h;rfl
 | x::r,i+1,f,p,h=>r_ (fs:=r) _ h
theorem xj{st:Om}:∀{fs:List Tf}{i:Nat}{f:Tf}(s:Qg),fs[i]?=some f→sf st (fs.take (i+1)) s=gF st f (sf st (fs.take i) s)
 | [],i,f,p,h=>by simp at h
 | x::r,0,f,p,h=>by cases h;rfl
 | x::r,i+1,f,p,h=>xj (fs:=r) _ h
theorem AZ(st:Om):∀(l:List Tf)(s:Qg),s.labs.length≤(sf st l s).labs.length
 | [],s=>cj _
 | f::r,s=>Nat.le_trans (E0 st f s) (AZ st r _)
theorem zd(st:Om):∀(l:List Tf)(s:Qg),(∀f∈l,cM f.body≤400)→(sf st l s).sz≤s.sz+l.length*9660
 | [],s,_=>by simp [sf]
 | f::r,s,h=>by
  have h1:=Ni st f s;have h2:=zd st r (gF st f s) fun g hg=>h g (by simp [hg])
  have h3:=h f (by simp);rw [bR];show(sf st r (gF st f s)).sz≤_;omega
def zD(fs:List Tf):Int×Ba×Int:=if jK fs≠0 then(0,bD,jK fs)else if(jb fs).length*4>7936 then(0,bD,30)else(2,mU (fi (jb fs)),0)
theorem Ea{fs:List Tf}{f:Tf}(h:kW fs f=0):cM f.body≤400:=by
 obtain⟨h1,h2⟩:=bF.1 h;have hb:¬(f.ps.length>4∨f.ps.length+dD f.body>12∨cM f.body>400∨dY 1 f.body=true):=fun hb=>by
  rw [aw hb]at h1;exact absurd h1 (by decide)
 simp only [not_or]at hb;omega
theorem I2{fs:List Tf}(h:jK fs=0):∀f∈fs,mQ f.body=true:=by
 unfold jK at h;split at h
 ·cases h
 ·rename_i h1;have h1:rP fs=true:=by simpa using h1
  intro f hf;have:=List.all_eq_true.1 h1 f hf;unfold rF at this;simp only [Bool.and_eq_true]at this;exact this.2
theorem HF(fs:List Tf):(zf fs).code≠ []:=by
 have h1:∀(st:Om)(l:List Tf)(s:Qg),s.code≠ []→(sf st l s).code≠ []:=by
  intro st l
  induction l with
  | nil=>intro s h;exact h
  | cons f r ih=>
   intro s h;refine ih _ ?_;show(_++ [qi 27 0 15 0])≠ [];simp
 exact h1 _ _ _ (by simp [Qg.emit,Qg.jump])
theorem vW(vp:SV)(fs:List Tf)(hg:GP fs):
  bi prog 15 [.agg #[sv vp]] [] [cE vp fs] (.tuple #[.agg #[I6 (zD fs).1,Sg (zD fs).2.1],I6 (zD fs).2.2]) []:=by
 refine aM func15 J ntmps15 J fun w0 M H=>bc 0 3 J jw ?_
 have hfl:=hg.1;refine ar (cA J J fun b1=>aX tc J J fun b2=>aq J (aa (aV (aS (aJ iQ J J J (a_ (k:=1) J)) (ak (xs:= [.tmp 11]) (zE vp fs hg) Qu [] [(false,0)] [] (fun _ _=>aq J (aF J (ad J (av J J gj (aa (am J (fun h1=> ?_) (fun h1=> ?_))))))))))))
 ·(try simp only [bk]at h1);have hc:¬jK fs=0:=h1;rw [show zD fs=(0,bD,jK fs)from aw hc];refine ar (aS (aR (parts:= []) tc DW J J) (ad J (au (k:=2) tc J J J J J J (aq J (aa (az (aQ () O J (GN (bp tc J J J (a_ (k:=2) J)) (aP J)) J [] [] J J J)))))))
 ·(try simp only [bk]at h1);have hc:jK fs=0:=by omega
  obtain⟨fm,hfine⟩:=sS hg hc;have hry:=I2 hc;have hnd:=Ax hfine.once;have hne:fs≠ []:=fun e=>by have:=kw hfine.main;rw [e]at this;simp at this
  have hl16:=hfine.len;have hn400:∀f∈fs,cM f.body≤400:=fun f hf=>Ea (hfine.each f hf)
  have hok:=HE hg hnd hne;refine aA (ar (aS (aJ iQ J J J (a_ (k:=1) J)) (md (Prod.fst:Ba×Int→Ba) gQ vI J fun b18=>aS (aR (parts:= [(0,.tmp 17),(4,.tmp 18)]) O8 MQ J J) (cA J J fun b20=>aq J (aF J (ad J (ad J (ak (xs:= [.tmp 22]) (D5 b20) Qt [] [] [70] (fun c _=>bS J (aD Bg J (aB (k:=20) Mr J J J J J J J J (dI 21 (α:=Qi) (S:=118) (s:=5) (enc:=iY) (dI 22 (α:=Int×Int) (S:=171) (s:=2) (enc:=wg) (dI 23 (α:=Int) (S:=3) (s:=1) (enc:=eI) ?_))))))))))))));refine uS 20 [20,21,22,23] (⟨b20,vp,b18,none,c.m,0⟩:Ga) ⟨[],[],[]⟩ bv bv bv J (by decide) (aa (aV (aD dx J (aT 1 ip J J J J (aS (aL underlying25 J (aN (k:=3) J)) (ad J (aa (aC (bI (X:=Nat) (fun i=>i≤fs.length) (fun i=> [(1,Pt b1),(2,Pt b2),(3,I6 0),(5,Pt b20),(27,sv vp),(28,I6 (fs.length:Int)),(29,I6 (i:Int))]) (fun i=> [(1,be b1 27 [sv vp]),(2,be b2 31 [I6 0,Sg bD]),(20,gA (⟨b20,vp,b18,none,c.m,0⟩:Ga) (oR (fs.take i) (([],⟨[],[],[]⟩):Om×Qg)).2),(18,mp gQ Prod.fst vI (some b18) (oR (fs.take i) (([],⟨[],[],[]⟩):Om×Qg)).1),(70,jj b20 c)]) (fun i=> [(0,cE vp fs),(3,sl 3 gu (sv vp) fs)]) (fun i=>fs.length-i) 0 (bq _) J J J (fun i n1=>ar (av J J cy (aa (aZ (am J (fun h2=> ?_) (fun h2=> ?_)))))))))))))))
  ·(try simp only [bk]at h2);have hi:i<fs.length:=by omega
   obtain⟨f,hf⟩:∃f,fs[i]?=some f:=⟨_,bT hi⟩
   have hss:=xg (fs.take i) (([],⟨[],[],[]⟩):Om×Qg);have hsz:(oR (fs.take i) (([],⟨[],[],[]⟩):Om×Qg)).2.sz=i:=by
    rw [hss];unfold Qg.sz;simp [List.length_take];omega
   refine aA (aZ (aC (ar (aS (aK (j:=i) underlying25 fC J J (aN (k:=3) J) (by first|rfl|omega) (by first|omega|(simp;done)|(simp;omega))) (aS (aJ fC J J J (bJ (aN (k:=3) J) (by intro _;rfl) hf (by rfl))) (aX fC J J fun b7=>au (k:=7) fC J J J J J J (aa ?_)))))));refine bQ [33,34,35,36,37,38,39,40] _ J (aW (V:= [(0,33,_),(1,34,_),(2,35,_),(3,36,_),(4,37,_),(5,38,_),(6,39,_)]) [0,1,2,3,4,5,6] 7 [7,6] [] (fun _=> []) J J (ay J J (ac J (aj J) (ac J (ah oz J) (ac J (ae Dk J J (pi (k:=20) J (fun _=>J) J)) (ac J (ah jG J) (ac J (ae t9 J J (ax (k:=7) J J)) (ay J J ag))))))) J J J J J J J J J J J (fun _ _=>J) J (bw (xs:= [.tmp 39]) (fU (⟨b20,vp,b18,none,c.m,0⟩:Ga) (oR (fs.take i) (([],⟨[],[],[]⟩):Om×Qg)).2 (by omega)) vX [20] [] [20]) (fun _ _=>bH [0,1,2,3,4,5] 8 [8,7,6,5,4,3,2,1,0] [] (fun _=> []) J J (ay J J (ac J (aj J) (ac J (ah oz J) (ac J (ae Dk J J (pi (k:=20) J (fun _=>J) J)) (ac J (ah jG J) (ac J (ae t9 J J (ax (k:=7) J J)) ag)))))) J J J J J J J J J (fun _ _=>J) J (jk (k:=18) (α:=Ba×Int) (kf:=Prod.fst) (vf:=vI) (f.name,((oR (fs.take i) (([],⟨[],[],[]⟩):Om×Qg)).2.labs.length:Int)) (oR (fs.take (i+1)) (([],⟨[],[],[]⟩):Om×Qg)).1 underlying105 fB J J J J (List.Perm.of_eq (by rw [r_ _ hf];rfl))) (fun _ _=>bn [] J J ag J J J ?_)));refine ap (av J J aO (ad J (aa ?_)));refine aG (i+1) ⟨by omega,by omega⟩ J (by rw [r_ _ hf];rfl) J
  ·(try simp only [bk]at h2);have hi:i=fs.length:=by omega
   subst hi;rw [cV];have hss:=xg fs (([],⟨[],[],[]⟩):Om×Qg);obtain⟨S0,hS0⟩:∃S0,S0=(oR fs (([],⟨[],[],[]⟩):Om×Qg)).2:=⟨_,J⟩
   obtain⟨st,hst⟩:∃st,st=(oR fs (([],⟨[],[],[]⟩):Om×Qg)).1:=⟨_,J⟩
   have hsz:S0.sz=fs.length:=by
    rw [hS0,hss];unfold Qg.sz;simp
   have hbd:=EV hnd hne;rw [←hst]at hbd;have hS0l:S0.labs.length=fs.length:=by
    rw [hS0,hss];simp
   rw [←hS0,←hst];refine bM (ar (ad J (ak (xs:= [.tmp 42,.const (I6 16),.const (I6 14),.const (I6 0),.const (I3 16384)]) (dA (⟨b20,vp,b18,none,c.m,0⟩:Ga) S0 (by omega) 16 14 0 16384) jT [20] [] [20] (fun _ _=>aF J (ad J (ad J (bS J (aD oz J (aS (ae Dk J J (pi (k:=20) J (fun _=>J) J)) (aS (D0 underlying105 fB t3 J J (EB (k:=18) J)) (ak (xs:= [.tmp 44,.const (I6 40),.const (I6 15),.const (I6 0),.tmp 49]) (gf (⟨b20,vp,b18,none,c.m,0⟩:Ga) (S0.emit [qi 16 14 0 16384]) (by rw [bN];simp only [bV];omega) 40 15 0 (bO st ed)) tJ [20] [] [20] (fun _ _=>aF J (ad J (aS (aR (parts:= [(0,.const (I6 48))]) fH mS J J) ?_))))))))))))));refine bj iY ⟨48,0,0,0,0⟩ underlying106 fH J (by decide) (by decide) J J J J fun v53=>cW 53 7 J ch (ak (xs:= [.tmp 51,.tmp 53]) (iJ (⟨b20,vp,b18,none,c.m,0⟩:Ga) ((S0.emit [qi 16 14 0 16384]).jump 40 15 0 (bO st ed)) (by rw [ce,bN];simp only [bV];omega) v53 [⟨48,0,0,0,0⟩] (by simp)) xD [20] [(false,7)] [20] (fun _ _=>aa (aV (aD dx J (aT 1 ip J J J J (aS (aL underlying25 J (aN (k:=3) J)) (ad J (aa (aC ?_)))))))))
   obtain⟨S3,hS3⟩:∃S3,S3=(((S0.emit [qi 16 14 0 16384]).jump 40 15 0 (bO st ed)).emit [⟨48,0,0,0,0⟩]):=⟨_,J⟩
   have hs3:S3.sz=fs.length+4:=by
    rw [hS3,bN,ce,bN,hsz];rfl
   have hS3l:S3.labs.length=fs.length:=by rw [hS3];exact hS0l
   rw [←hS3];refine bI (X:=Nat×Option Nat×Int) (fun x=>x.1≤fs.length) (fun x=> [(1,Pt b1),(2,Pt b2),(3,I6 0),(5,Pt b20),(56,sv vp),(57,I6 (fs.length:Int)),(58,I6 (x.1:Int))]) (fun x=> [(1,be b1 27 [sv vp]),(2,be b2 31 [I6 0,Sg bD]),(20,gA (⟨b20,vp,b18,x.2.1,c.m,x.2.2⟩:Ga) (sf st (fs.take x.1) S3)),(18,mp gQ Prod.fst vI (some b18) st),(70,jj b20 c)]) (fun x=> [(0,cE vp fs),(3,sl 3 gu (sv vp) fs)]) (fun x=>fs.length-x.1) (0,none,0) (bq _) J J J (fun x hx0=>ar (av J J cy (aa (aZ (am J (fun h3=> ?_) (fun h3=> ?_))))))
   ·(try simp only [bk]at h3);have hi:x.1<fs.length:=by omega
    obtain⟨f,hf⟩:∃f,fs[x.1]?=some f:=⟨_,bT hi⟩
    have hfm:=cd hf;have hfs:=zd st (fs.take x.1) S3 fun g hg=>hn400 g (List.mem_of_mem_take hg)
    have htl:=List.length_take (i:=x.1) (l:=fs);have hf4:=hn400 f hfm;refine aA (aZ (aC (ar (aS (aK (j:=x.1) underlying25 fC J J (aN (k:=3) J) (by first|rfl|omega) (by first|omega|(simp;done)|(simp;omega))) (aS (aJ fC J J J (bJ (aN (k:=3) J) (by intro _;rfl) hf (by rfl))) (aX fC J J fun b9=>au (k:=9) fC J J J J J J (aa (ap (ad J (aS (aJ fC J J J (a_ (k:=9) J)) (bc 0 8 J (lI hfm) ?_)))))))))));refine dG (xs:= [.tmp 62,.tmp 63]) (Cu (⟨b20,vp,b18,x.2.1,c.m,x.2.2⟩:Ga) c st J f (hry f hfm) (hg.2 f hfm) (sf st (fs.take x.1) S3) ⟨(hbd f.name).1,by have:=AZ st (fs.take x.1) S3;have:=(hbd f.name).2;omega⟩ (by omega)) Qr [20] [(false,8),(true,70),(true,18)] [20] J J J J J J J J (fun _ _=>J) (fun _ _ _=>J) J (fun bo _=> ?_);refine aa (ap (av J J aO (ad J (aa ?_))));refine aG (x.1+1,some bo,((sf st (fs.take x.1) S3).labs.length:Int)+1) ⟨by dsimp only;omega,by dsimp only;omega⟩ J (by dsimp only;rw [xj S3 hf];rfl) J
   ·(try simp only [bk]at h3);have hi:x.1=fs.length:=by omega
    rw [hi,cV];have hfs:=zd st fs S3 hn400;have hall:zf fs=sf st fs S3:=by rw [hS3,hS0,hst];rfl
    have hcg:ol (sf st fs S3).labs (sf st fs S3).fixes (sf st fs S3).code=jb fs:=by rw [←hall];rfl
    refine bM (ar (ad J (ak (xs:= [.tmp 66]) (xd (⟨b20,vp,b18,x.2.1,c.m,x.2.2⟩:Ga) (sf st fs S3) (by rw [←hall];exact hok) (by omega) (by rw [←hall];exact HF fs)) Qq [20] [] [] (fun _ _=> ?_))));rw [hcg];refine aq J (aa (aV (ad J (aS (c9 underlying9 J) (av J J fh (aa (am J (fun h4=> ?_) (fun h4=> ?_))))))))
    ·(try simp only [bk]at h4);have hbig:(jb fs).length*4>7936:=by rw [jB,il]at h4;omega
     rw [show zD fs=(0,bD,30)from(ai (by omega)).trans (aw hbig)];refine ar (aS (aR (parts:= []) tc DW J J) (au (k:=2) tc J J J J J J (aq J (aa (az (aQ () O J (GN (bp tc J J J (a_ (k:=2) J)) (aP J)) J [] [] J J J))))))
    ·(try simp only [bk]at h4);have hbig:¬(jb fs).length*4>7936:=by rw [jB,il]at h4;omega
     rw [show zD fs=(2,mU (fi (jb fs)),0)from(ai (by omega)).trans (ai hbig)];refine aA (ar (ad J (aS (aR (parts:= [(0,.const (I6 2)),(1,.tmp 72)]) tc DW J J) (au (k:=2) tc J J J J J J (aq J (aa (az (aQ () O J (GN (bp tc J J J (a_ (k:=2) J)) (aP J)) J [] [] J J J))))))))
theorem kU(vp:SV)(fs:List Tf)(hg:GP fs){k e:Int}{t:Ba}(h:zD fs=(k,t,e)):
  bi prog 15 [.agg #[sv vp]] [] [cE vp fs] (.tuple #[.agg #[I6 k,Sg t],I6 e]) []:=by
 have:=vW vp fs hg;rw [h]at this;exact this
theorem F_{fs:List Tf}{f:Tf}(h:kW fs f=0):f.ps.length+dD f.body≤12:=by
 obtain⟨h1,h2⟩:=bF.1 h;have hb:¬(f.ps.length>4∨f.ps.length+dD f.body>12∨cM f.body>400∨dY 1 f.body=true):=fun hb=>by
  rw [aw hb]at h1;exact absurd h1 (by decide)
 simp only [not_or]at hb;omega
theorem Bi{fs:List Tf}{f:Tf}(h:Fine fs f):(fs.map Tf.name).Nodup∧fs≠ []:=⟨Ax h.once,fun h2=>by have:=h.main;rw [h2]at this;cases this⟩
theorem uO{code:List Qi}:∀{n:Nat}{c c':Qs},rn code n c c'→c'.out.length≤c.out.length+n
 | 0,c,c',h=>by
  have:c=c':=h;subst this;exact cj _
 | n+1,c,c',h=>by
  obtain⟨i,c1,-,h2,h3⟩:=h;have h4:=uO h3;have h5:c1.out.length≤c.out.length+1:=by
   by_cases ho:i.op=48
   ·rcases qC h2 ho with⟨-,q⟩|⟨-,q⟩
    ·rw [q];show(c.out++ [c.r 1]).length≤_;rw [bA];exact cj _
    ·rw [q];show c.out.length≤_;omega
   ·rw [(Dl h2 ho).2];omega
  omega
theorem uJ{fs:List Tf}(hg:GP fs)(hc:jK fs=0)(hl:(jb fs).length≤1984)(vin:SV){ins:List Int}(hi:∀x∈ins,oW x){fuel:Int}(hf:0≤fuel∧fuel≤1000000){ru:Ru}(hr:RunIs fs ins fuel ru){most:Int}(hm:100*fuel+150<most∧most<1000000000)(h25:ru.err≠25):
  ∃t out mem,Spec prog 25 [Sg (mU (fi (jb fs))),sv vin,I6 most] [] [sl 1 eU (sv vin) ins] (X:=SV×SV) (fun _=>True) (fun x=> .agg #[sv x.1,sv x.2,I6 t,I3 0]) (fun x=> [own 41 1 eU (sv x.1) out,own 41 1 eU (sv x.2) mem]) (fun _=> [])∧
   (out.length≤1000000000∧mem.length≤1000000000)∧(ru.err=0→t=4∧out=ru.out∧mem=ru.mem)∧(ru.err=26→t=3):=by
 obtain⟨f,hfn⟩:=sS hg hc;obtain⟨hnd,hne⟩:=Bi hfn;have hz:=A0 fs hnd hne;rw [hz]at hl ⊢;have hva:=KU (F5 hg (fun f hf=>F_ (hfn.each f hf)) hl);cases hr with
 | bad h=>exact absurd hc h
 | run f2 g r h hf2 he=>
  have:f2=f:=by
   have:=hfn.main;rw [hf2]at this;exact d5 this
  subst this;have hp:=GT hg hfn (I2 hc) hl hi hf.1 (by omega) he;cases r with
  | ok v s1=>
   obtain⟨h1,k,c',h2,h3,h4,h5,h6⟩:=hp;refine⟨4,c'.out,rW c'.m 256,pN hl hva vin ins hi h3 h4 (.inl J) most ⟨by omega,hm.2⟩,⟨by have:=uO h3;have e:(⟨0,fun _=>0,fun _=>0,ins,[]⟩:Qs).out.length=0:=J;omega,by rw [rV];decide⟩,fun _=>⟨J,h5,?_⟩,fun h=>absurd h (by show ¬(0:Int)=26;decide)⟩;show rW c'.m 256=(List.range 256).map s1.mem;unfold rW;exact List.map_congr_left fun i hi=>h6 i (List.mem_range.1 hi)
  | err e=>
   have he2:=(E8 g).2.2.1 _ _ _ _ _ _ he;have h26:e=26:=he2.resolve_left h25;subst h26;obtain⟨k,c',h2,h3,h4⟩:=hp J;have h4:(jN fs)[c'.pc]?=some ⟨49,0,0,0,0⟩:=h4;exact⟨3,c'.out,rW c'.m 256,pN hl hva vin ins hi h3 h4 (.inr J) most ⟨by omega,hm.2⟩,⟨by have:=uO h3;have e:(⟨0,fun _=>0,fun _=>0,ins,[]⟩:Qs).out.length=0:=J;omega,by rw [rV];decide⟩,fun h=>absurd h (by show ¬(26:Int)=0;decide),fun _=>J⟩
theorem wS{fs:List Tf}(hg:GP fs)(hc:jK fs=0)(hl:¬(jb fs).length≤1984):np fs>120:=by
 obtain⟨f,hfn⟩:=sS hg hc;obtain⟨hnd,hne⟩:=Bi hfn;rw [A0 fs hnd hne]at hl;by_cases h:np fs≤120
 ·exact absurd (zB hfn h) hl
 ·omega
def sgL:List Ba:= [(⟨#[60,61]⟩:Ba),(⟨#[62,61]⟩:Ba),(⟨#[61,61]⟩:Ba),(⟨#[33,61]⟩:Ba),(⟨#[60,60]⟩:Ba),(⟨#[62,62]⟩:Ba),(⟨#[40]⟩:Ba),(⟨#[41]⟩:Ba),(⟨#[91]⟩:Ba),(⟨#[93]⟩:Ba),(⟨#[123]⟩:Ba),(⟨#[125]⟩:Ba),(⟨#[44]⟩:Ba),(⟨#[59]⟩:Ba),(⟨#[61]⟩:Ba),(⟨#[43]⟩:Ba),(⟨#[45]⟩:Ba),(⟨#[42]⟩:Ba),(⟨#[47]⟩:Ba),(⟨#[37]⟩:Ba),(⟨#[38]⟩:Ba),(⟨#[124]⟩:Ba),(⟨#[94]⟩:Ba),(⟨#[126]⟩:Ba),(⟨#[33]⟩:Ba),(⟨#[60]⟩:Ba),(⟨#[62]⟩:Ba)]
def FN(c:Int):Bool:=decide (c=32) || decide (c=9) || decide (c=10) || decide (c=13)
def lN(t:Ba):List Ba→Ba
 | []=>bD
 | s::r=>if(decide ((s.size:Int)≤(t.size:Int))&&(t.extract 0 s.size==s))=true then s else lN t r
theorem GC{t:Ba}{l:List Ba}{i:Nat}{s:Ba}(h:l[i]?=some s):lN t (l.drop i)=if(decide ((s.size:Int)≤(t.size:Int))&&(t.extract 0 s.size==s))=true then s else lN t (l.drop (i+1)):=by
 obtain⟨hi,rfl⟩:=db.1 h;rw [List.drop_eq_getElem_cons hi];rfl
theorem zK(c:Int):
  bi prog 138 [.int .u8 c] [] [] (.bool (FN c)) []:=by
 refine aM func138 J ntmps138 J fun w0 M H=>ar (aq J (aF J (ad J (av J J br (ad J (aI [] J J O (fun hg1=>aY J) J (aI [(6,_)] J J ⟨J,O⟩ (fun hg2=>aU J J br) J (aS (bK J J J) (ad J (aI [] J J O (fun hg3=>aY J) J (aI [(10,_)] J J ⟨J,O⟩ (fun hg4=>aU J J br) J (aS (bK J J J) (ad J (aI [] J J O (fun hg5=>aY J) J (aI [(14,_)] J J ⟨J,O⟩ (fun hg6=>aU J J br) J ?_)))))))))))))))
 refine aS (bK J J J) (aq J (aa (az (aQ () O J (cc (aP J)) J [] [] J J J))))
theorem yo:
  Spec prog 174 [] [] [] (X:=SV) (fun _=>True) (fun u=>sv u) (fun u=> [own 9 1 eS (sv u) sgL]) (fun _=> []):=by
 refine aM func174 J ntmps174 J fun w0 M H=>ar (aq J (aF J ?_))
 refine dz eS sgL (parts:= [(0,.const (Sg (ByteArray.mk #[60,61]))),(1,.const (Sg (ByteArray.mk #[62,61]))),(2,.const (Sg (ByteArray.mk #[61,61]))),(3,.const (Sg (ByteArray.mk #[33,61]))),(4,.const (Sg (ByteArray.mk #[60,60]))),(5,.const (Sg (ByteArray.mk #[62,62]))),(6,.const (Sg (ByteArray.mk #[40]))),(7,.const (Sg (ByteArray.mk #[41]))),(8,.const (Sg (ByteArray.mk #[91]))),(9,.const (Sg (ByteArray.mk #[93]))),(10,.const (Sg (ByteArray.mk #[123]))),(11,.const (Sg (ByteArray.mk #[125]))),(12,.const (Sg (ByteArray.mk #[44]))),(13,.const (Sg (ByteArray.mk #[59]))),(14,.const (Sg (ByteArray.mk #[61]))),(15,.const (Sg (ByteArray.mk #[43]))),(16,.const (Sg (ByteArray.mk #[45]))),(17,.const (Sg (ByteArray.mk #[42]))),(18,.const (Sg (ByteArray.mk #[47]))),(19,.const (Sg (ByteArray.mk #[37]))),(20,.const (Sg (ByteArray.mk #[38]))),(21,.const (Sg (ByteArray.mk #[124]))),(22,.const (Sg (ByteArray.mk #[94]))),(23,.const (Sg (ByteArray.mk #[126]))),(24,.const (Sg (ByteArray.mk #[33]))),(25,.const (Sg (ByteArray.mk #[60]))),(26,.const (Sg (ByteArray.mk #[62])))]) underlying46 t9 J (by decide) (by intro _;rfl) J (by decide) (by decide) J J J J fun v1=> ?_
 refine aq J (aa (az (aQ v1 O J (cc (aP J)) J [1] [] J J J)))
theorem BZ(t:Ba):
  bi prog 139 [Sg t] [] [] (Sg (lN t sgL)) []:=by
 refine aM func139 J ntmps139 J fun w0 M H=> ?_
 have hsl:sgL.length=27:=J;refine ar (aq J (aF J (ak (xs:= []) yo NX [] [] [6] (fun v6 _=>aq J (aa (aV (aq J (aa (aC (bI (X:=Nat) (fun i=>i≤sgL.length∧lN t sgL=lN t (sgL.drop i)) (fun i=> [(0,Sg t),(3,sv v6),(4,I6 (i:Int))]) (fun i=> [(6,own 9 1 eS (sv v6) sgL)]) (fun i=> []) (fun i=>sgL.length-i) 0 ⟨bq _,J⟩ J J J (fun i n1=>aV (ad J ?_))))))))))));refine ad J (aS (aL underlying46 J (aH (k:=6) J)) (av J J cy (aa (am J (fun h1=> ?_) (fun h1=> ?_)))))
 ·(try simp only [bk]at h1);have hi:i<sgL.length:=by omega
  obtain⟨s,hx⟩:∃s,sgL[i]?=some s:=⟨_,bT hi⟩
  have hsx:=GC (t:=t) hx;refine aA (aZ (aC (ar (ad J (ad J (aS (aK (j:=i) underlying46 t9 J J (aH (k:=6) J) (by first|rfl|omega) (by first|omega|(simp;done)|(simp;omega))) (aS (ae t9 J J (bJ (aH (k:=6) J) (by intro _;rfl) hx (by rfl))) (aS (c9 underlying9 J) (aq J (aa (aZ ?_)))))))))));refine bQ [18,19,20,21,22,23,24,25,26,27,28,29,30,31] _ J (bn (V:= [(0,18,_),(1,19,_),(2,20,_),(3,21,_),(4,22,_),(5,23,_),(6,24,_),(7,25,_),(8,26,_),(9,27,_),(10,28,_),(11,29,_),(12,30,_),(13,31,_)]) [0,1,2,3,4,5,6,7,8,9,10,11,12,13] J J (ay J J (ay J J (ac J (c9 underlying9 J) (ac J (aU J J l7) (ay J J (bl (bW [] J J J O (fun hg2=>aY J)) (bl (bW [] J J J O (fun hg3=>aY J)) (bl (bW [(23,_),(24,_)] J J J ⟨J,J,O⟩ (fun hg4=>tv underlying9 J J (by omega) (by have q:=cH hg4;omega))) (bl (bW [] J J J O (fun hg5=>aY J)) (bl (bW [] J J J O (fun hg6=>aY J)) (bl (bW [(26,_),(27,_)] J J J ⟨J,J,O⟩ (fun hg7=>aK (j:=i) underlying46 t9 J J (aH (k:=6) J) (by first|rfl|omega) (by first|omega|(simp;done)|(simp;omega)))) (bl (bW [(28,_)] J J J ⟨J,O⟩ (fun hg8=>ae t9 J J (bJ (aH (k:=6) J) (by intro _;rfl) hx (by rfl)))) (bl (bW [(25,_),(29,_)] J J J ⟨J,J,O⟩ (fun hg9=>aU J J eT)) (ac J (bK J J J) ag)))))))))))))) J J J ?_);refine am J (fun h10=> ?_) (fun h10=> ?_)
  ·have hq:(decide ((s.size:Int)≤(t.size:Int))&&(t.extract 0 s.size==s))=true:=h10;rw [n1.2,hsx,aw hq];refine ar (ad J (ad J (aS (aK (j:=i) underlying46 t9 J J (aH (k:=6) J) (by first|rfl|omega) (by first|omega|(simp;done)|(simp;omega))) (aS (ae t9 J J (bJ (aH (k:=6) J) (by intro _;rfl) hx (by rfl))) (aq J (aa (az (aQ () O J (cc (aP J)) J [] [] J J J))))))))
  ·have hq:(decide ((s.size:Int)≤(t.size:Int))&&(t.extract 0 s.size==s))=false:=h10;refine aA (ap (ad J (av J J aO (aq J (aa ?_)))));refine aG (i+1) ⟨⟨by omega,by rw [n1.2,hsx,ai (by rw [hq];decide)]⟩,by omega⟩ J J J
 ·(try simp only [bk]at h1);have hi:i=sgL.length:=by omega
  subst hi;rw [n1.2,List.drop_length];refine bM (ar (aq J (aa (az (aQ () O J (cc (aP J)) J [] [] J J J)))))
structure Tk where
 k:Int
 s:Ba
 n:Int
 bad:Bool
 off:Int
deriving DecidableEq
def kT(t:Tk):List Value:= [I6 t.k,Sg t.s,I3 t.n,.bool t.bad,I6 t.off]
def kC(s:Ba)(i:Nat):Int:=(bx s).getD i 0
def qt(p:Int→Bool)(s:Ba):Nat→Nat→Nat
 | 0,i=>i
 | g+1,i=>if p (kC s i)=true then qt p s g (i+1)else i
theorem uM{p:Int→Bool}{s:Ba}:∀{g i j:Nat},i+g=s.size→i≤j→j≤s.size→(∀m,i≤m→m<j→p (kC s m)=true)→¬(j<s.size∧p (kC s j)=true)→qt p s g i=j
 | 0,i,j,hg,h1,h2,h3,h4=>by
  show i=j;omega
 | g+1,i,j,hg,h1,h2,h3,h4=>by
  unfold qt;by_cases hij:i=j
  ·subst hij;rw [ai (fun h=>h4 ⟨by omega,h⟩)]
  ·rw [aw (h3 i (cj _) (by omega))];exact uM (by omega) (by omega) h2 (fun m hm=>h3 m (by omega)) h4
def pb(s:Ba)(i:Nat):Nat→Int×Bool
 | 0=>(0,false)
 | m+1=>if 10*(pb s i m).1+(kC s (i+m)-48)≥4294967296 then(4294967296,true)else(10*(pb s i m).1+(kC s (i+m)-48),(pb s i m).2)
structure Tq where
 k:Int
 n:Int
 bad:Bool
 j:Nat
def Ey(c:Int):Bool:=pe c || mM c
def io(s:Ba)(i:Nat):Tq:=
 if mM (kC s i)=true then⟨1,wU (pb s i (qt mM s (s.size-i) i-i)).1,(pb s i (qt mM s (s.size-i) i-i)).2,qt mM s (s.size-i) i⟩else
 if pe (kC s i)=true then⟨if(qt Ey s (s.size-i) i:Int)-(i:Int)>12 then 4 else if cD (s.extract i (qt Ey s (s.size-i) i)) vz=true then 3 else 2,0,false,qt Ey s (s.size-i) i⟩else
 ⟨if(lN (s.extract i s.size) sgL).size=0 then 4 else 3,0,false,i+(lN (s.extract i s.size) sgL).size⟩
def BL(s:Ba)(i:Nat):Tk:=⟨(io s i).k,s.extract i (io s i).j,(io s i).n,(io s i).bad,(i:Int)⟩
def wd(s:Ba):Nat→Nat→List Tk→Option (List Tk)
 | 0,_,_=>none
 | g+1,i,acc=>
  if qt FN s (s.size-i) i=s.size then some (acc++ [⟨0,bD,0,false,(s.size:Int)⟩])else
  if(io s (qt FN s (s.size-i) i)).k=4 then some (acc++ [BL s (qt FN s (s.size-i) i)])else wd s g (io s (qt FN s (s.size-i) i)).j (acc++ [BL s (qt FN s (s.size-i) i)])
theorem Fd{c:Int}(h:mM c=true):48≤c∧c≤57:=by
 unfold mM at h;simp only [Bool.and_eq_true,decide_eq_true_eq]at h;omega
theorem D_(s:Ba)(i:Nat):∀m,(∀q,q<m→mM (kC s (i+q))=true)→0≤(pb s i m).1∧(pb s i m).1≤4294967296
 | 0,_=>⟨Int.le_refl _,by show(0:Int)≤4294967296;decide⟩
 | m+1,h=>by
  have h1:=D_ s i m fun q hq=>h q (by omega)
  have h2:=Fd (h m (by omega));unfold pb;split
  ·exact⟨by show(0:Int)≤4294967296;decide,Int.le_refl _⟩
  ·constructor
   ·show 0≤10*(pb s i m).1+(kC s (i+m)-48);omega
   ·show 10*(pb s i m).1+(kC s (i+m)-48)≤4294967296;omega
theorem oY(p:Int→Bool)(s:Ba):∀(g i:Nat),i+g=s.size→i≤qt p s g i∧qt p s g i≤s.size
 | 0,i,h=>by unfold qt;omega
 | g+1,i,h=>by
  have:=oY p s g (i+1) (by omega);unfold qt;split<;>omega
theorem DC{p:Int→Bool}{s:Ba}{i:Nat}(hi:i<s.size)(h:p (kC s i)=true):i<qt p s (s.size-i) i:=by
 obtain⟨g,hg⟩:∃g,s.size-i=g+1:=⟨s.size-i-1,by omega⟩
 rw [hg];unfold qt;rw [aw h];have:=oY p s g (i+1) (by omega);omega
theorem qF(t:Ba):∀l,(lN t l).size≤t.size
 | []=>bq _
 | s::r=>by
  unfold lN;split
  ·rename_i h;simp only [Bool.and_eq_true,decide_eq_true_eq]at h;omega
  ·exact qF t r
theorem JG{s:Ba}{i:Nat}(hi:i<s.size)(hk:(io s i).k≠4):i<(io s i).j∧(io s i).j≤s.size:=by
 unfold io at hk ⊢;by_cases h1:mM (kC s i)=true
 ·rw [aw h1];exact⟨DC hi h1,(oY mM s (s.size-i) i (by omega)).2⟩
 ·rw [ai h1]at hk ⊢;by_cases h2:pe (kC s i)=true
  ·rw [aw h2];exact⟨DC hi (by unfold Ey;rw [h2];rfl),(oY Ey s (s.size-i) i (by omega)).2⟩
  ·rw [ai h2]at hk ⊢;have h3:=qF (s.extract i s.size) sgL;rw [ByteArray.size_extract]at h3;have h4:¬(lN (s.extract i s.size) sgL).size=0:=fun h=>hk (aw h)
   show i<i+_∧i+_≤s.size;omega
theorem Gk{s:Ba}{i:Nat}(hi:i<s.size):i≤(io s i).j∧(io s i).j≤s.size:=by
 unfold io;by_cases h1:mM (kC s i)=true
 ·rw [aw h1];exact oY mM s (s.size-i) i (by omega)
 ·rw [ai h1];by_cases h2:pe (kC s i)=true
  ·rw [aw h2];exact oY Ey s (s.size-i) i (by omega)
  ·rw [ai h2];have h3:=qF (s.extract i s.size) sgL;rw [ByteArray.size_extract]at h3;show i≤i+_∧i+_≤s.size;omega
theorem FW{p:Prop} [Decidable p]{b:Bool}(h:(decide p&&b)=true):p∧b=true:=by
 rw [Bool.and_eq_true,decide_eq_true_eq]at h;exact h
theorem FX{p:Prop} [Decidable p]{b:Bool}(h:(decide p&&b)=false):¬(p∧b=true):=fun q=>by
 rw [decide_eq_true q.1,q.2]at h;cases h
theorem IJ{s:Ba}{i m:Nat}(h:10*(pb s i m).1+(kC s (i+m)-48)≥4294967296):pb s i (m+1)=(4294967296,true):=aw h
theorem IK{s:Ba}{i m:Nat}(h:¬10*(pb s i m).1+(kC s (i+m)-48)≥4294967296):pb s i (m+1)=(10*(pb s i m).1+(kC s (i+m)-48),(pb s i m).2):=ai h
theorem Gj{s:Ba}{i m:Nat}(h:mM (kC s i)=true)(hs:qt mM s (s.size-i) i=i+m):io s i=⟨1,wU (pb s i m).1,(pb s i m).2,i+m⟩:=by
 unfold io;rw [aw h,hs,Nat.add_sub_cancel_left]
theorem Dh{s:Ba}{i j:Nat}(h:¬mM (kC s i)=true)(h2:pe (kC s i)=true)(hs:qt Ey s (s.size-i) i=j):io s i=⟨if(j:Int)-(i:Int)>12 then 4 else if cD (s.extract i j) vz=true then 3 else 2,0,false,j⟩:=by
 unfold io;rw [ai h,aw h2,hs]
theorem Dg{s:Ba}{i:Nat}(h:¬mM (kC s i)=true)(h2:¬pe (kC s i)=true):io s i=⟨if(lN (s.extract i s.size) sgL).size=0 then 4 else 3,0,false,i+(lN (s.extract i s.size) sgL).size⟩:=by
 unfold io;rw [ai h,ai h2]
theorem Gl{s:Ba}{g i j:Nat}{acc r:List Tk}(h:wd s g i acc=some r)(hj:qt FN s (s.size-i) i=j)(he:j=s.size):r=acc++ [⟨0,bD,0,false,(s.size:Int)⟩]:=by
 cases g with
 | zero=>cases h
 | succ g=>
  unfold wd at h;rw [hj,aw he]at h;exact(d5 h).symm
theorem Gm{s:Ba}{g i j:Nat}{acc r:List Tk}(h:wd s g i acc=some r)(hj:qt FN s (s.size-i) i=j)(he:¬j=s.size)(hk:(io s j).k=4):r=acc++ [BL s j]:=by
 cases g with
 | zero=>cases h
 | succ g=>
  unfold wd at h;rw [hj,ai he,aw hk]at h;exact(d5 h).symm
theorem JH{s:Ba}{g i j:Nat}{acc r:List Tk}(h:wd s g i acc=some r)(hj:qt FN s (s.size-i) i=j)(he:¬j=s.size)(hk:¬(io s j).k=4):∃g',wd s g' (io s j).j (acc++ [BL s j])=some r:=by
 cases g with
 | zero=>cases h
 | succ g=>
  unfold wd at h;rw [hj,ai he,ai hk]at h;exact⟨g,h⟩
theorem wn(s:Ba)(hs:s.size≤16384)(g0:Nat)(r:List Tk)(hr:wd s g0 0 []=some r):
  Spec prog 108 [Sg s] [] [] (X:=SV) (fun _=>True) (fun v=>sv v) (fun v=> [own 197 5 kT (sv v) r]) (fun _=> []):=by
 refine aM func108 J ntmps108 J fun w0 M H=>ar (aq J (aF J (aq J (aF J (aq J (aa (aC (dI 40 (α:=Tk) (S:=197) (s:=5) (enc:=kT) (bI (X:=Nat×List Tk×SV) (fun x=>(∃g,wd s g x.1 x.2.1=some r)∧x.1≤s.size∧x.2.1.length≤x.1) (fun x=> [(0,Sg s),(3,sv x.2.2),(4,I6 (x.1:Int))]) (fun x=> [(40,own 197 5 kT (sv x.2.2) x.2.1)]) (fun x=> []) (fun x=>s.size-x.1) (0,[],bv) ⟨⟨g0,hr⟩,bq _,cj _⟩ J J J (fun x hx=> ?_))))))))))
 obtain⟨i,acc,v⟩:=x;obtain⟨⟨g,hg⟩,hi1,hal⟩:=hx;dsimp only at hg hi1 hal;refine aC (aZ (aC ?_));refine bI (X:=Nat) (fun j=>i≤j∧j≤s.size∧∀q,i≤q→q<j→FN (kC s q)=true) (fun j=> [(0,Sg s),(3,sv v),(4,I6 (j:Int))]) (fun j=> [(40,own 197 5 kT (sv v) acc)]) (fun j=> []) (fun j=>s.size-j) i ⟨cj _,hi1,fun q h1 h2=>by omega⟩ J J J (fun j n2=> ?_);refine aV (ad J (ad J (aS (c9 underlying9 J) (av J J cy (ad J (aI [] J J O (fun hg1=>aY J) J (aI [(14,_)] J J ⟨J,O⟩ (fun hg2=>aY J) J (aI [(14,_),(15,_)] J J ⟨J,J,O⟩ (fun hg3=>eA (j:=j) underlying9 J J J (by have q:=cH hg3;omega)) J (jV [(14,_),(15,_),(16,_)] J J ⟨J,J,J,O⟩ (fun hg4=>fv (xs:= [.tmp 16]) (zK _) Og [] [] [] J J J) J (aS (bK J J J) (aa (am J (fun h5=> ?_) (fun h5=> ?_)))))))))))))
 ·obtain⟨hj0,hbk⟩:=FW h5;refine aA (aC (ap (ad J (av J J aO (aq J (aa ?_))))));refine aG (j+1) ⟨⟨by omega,by omega,fun q h1 h2=>by
   by_cases hq:q=j
   ·subst hq;exact hbk
   ·exact n2.2.2 q h1 (by omega)⟩,by omega⟩ rfl rfl rfl
 ·have hjx:¬(j<s.size∧FN (kC s j)=true):=fun q=>FX h5 ⟨by omega,q.2⟩
  obtain⟨i2,hi2⟩:∃i2,i2=j:=⟨_,J⟩
  subst hi2;have hsb:=uM (g:=s.size-i) (by omega) n2.1 n2.2.1 n2.2.2 hjx;refine bM (aV (ad J (ad J (aS (c9 underlying9 J) (av J J br (aa (am J (fun h6=> ?_) (fun h6=> ?_))))))))
  ·(try simp only [bk]at h6);have he:i2=s.size:=by omega
   have hrr:=Gl hg hsb he;rw [←he]at hrr;subst hrr;refine ar (ad J (ad J (aS (aR (cs:=(kT ⟨0,bD,0,false,(i2:Int)⟩).toArray) (parts:= [(4,.tmp 26)]) fg IB J (by kernel_rfl)) (bj kT (⟨0,bD,0,false,(i2:Int)⟩:Tk) underlying192 fg J (by decide) (by decide) J J J J fun v28=>cN 40 underlying192 fg J (by decide) (fun _=>J) (fun _=>J) J J J (aH (k:=28) J) (by first|omega|(simp;done)|(simp;omega)) (by unfold maxLen;first|omega|(simp;done)|(simp;omega)) J fun v29=>aq J (aa (az (aQ v29 O J (cc (aP J)) J [40] [] J J J)))))))
  ·(try simp only [bk]at h6);have he:¬i2=s.size:=by omega
   have hi3:i2<s.size:=by omega
   have hj2:=Gk hi3;refine aA (ar (ad J (aS (aR (cs:=(kT ⟨0,bD,0,false,(i2:Int)⟩).toArray) (parts:= [(4,.tmp 30)]) fg IB J (by kernel_rfl)) (aX fg J J fun b5=>au (k:=5) fg J J J J J J (aF J (ad J (aq J (aa (bz (X:=Unit) (fun _=>True) (fun _=> [(0,Sg s),(3,sv v),(4,I6 (i2:Int)),(5,Pt b5),(6,I6 ((io s i2).j:Int))]) (fun _=> [(40,own 197 5 kT (sv v) acc),(5,be b5 197 [I6 (io s i2).k,Sg bD,I3 ((io s i2).n),.bool ((io s i2).bad),I6 (i2:Int)])]) (fun _=> []) ?_ (fun _ _=> ?_))))))))))
   ·refine aC (ar (ad J (ad J (aS (eA (j:=i2) underlying9 J J J (by omega)) (dj (xs:= [.tmp 48]) (mE _) Bw [] [] [] J J J (fun _ _=>aq J (aa (am J (fun h7=> ?_) (fun h7=> ?_)))))))))
    ·have EE:mM (kC s i2)=true:=h7;refine ar (aD eO J (aB (k:=5) t3 J J J J J J J J (aF J (aq J (aa (aZ (aC ?_)))))));refine bI (X:=Nat) (fun m=>i2+m≤s.size∧∀q,q<m→mM (kC s (i2+q))=true) (fun m=> [(0,Sg s),(3,sv v),(4,I6 (i2:Int)),(5,Pt b5),(6,I6 ((i2+m:Nat):Int)),(7,.int .u64 (pb s i2 m).1)]) (fun m=> [(40,own 197 5 kT (sv v) acc),(5,be b5 197 [I6 1,Sg bD,I3 (0),.bool ((pb s i2 m).2),I6 (i2:Int)])]) (fun m=> []) (fun m=>s.size-(i2+m)) 0 ⟨by omega,fun q h=>by omega⟩ J J J (fun m n3=> ?_);refine aV (ad J (ad J (aS (c9 underlying9 J) (av J J cy (ad J (aI [] J J O (fun hg8=>aY J) J (aI [(56,_)] J J ⟨J,O⟩ (fun hg9=>aY J) J (aI [(56,_),(57,_)] J J ⟨J,J,O⟩ (fun hg10=>eA (j:=i2+m) underlying9 J J J (by have q:=cH hg10;omega)) J (jV [(56,_),(57,_),(58,_)] J J ⟨J,J,J,O⟩ (fun hg11=>fv (xs:= [.tmp 58]) (mE _) Bw [] [] [] J J J) J (aS (bK J J J) (aa (am J (fun h12=> ?_) (fun h12=> ?_)))))))))))))
     ·obtain⟨hm0,hmd⟩:=FW h12;have hmd:mM (kC s (i2+m))=true:=hmd;have hmb:=Fd hmd;have hnb:=D_ s i2 m n3.2;refine aA (aC (ar (ad J (av J J (gd (c:=10*(pb s i2 m).1) (zT (by omega) (by omega))) (ad J (ad J (aS (eA (j:=i2+m) underlying9 J J J (by omega)) (av J J (gZ (c:=kC s (i2+m)-48) (show IntKind.u8.wrap (kC s (i2+m)-48)=_ from C3 (by omega) (by omega))) (aS (cB underlying5 underlying225 J (c:=kC s (i2+m)-48) (zT (by omega) (by omega))) (av J J (cC (c:=10*(pb s i2 m).1+(kC s (i2+m)-48)) (zT (by omega) (by omega))) (aq J (aa (bz (X:=Unit) (fun _=>True) (fun _=> [(0,Sg s),(3,sv v),(4,I6 (i2:Int)),(5,Pt b5),(6,I6 ((i2+m:Nat):Int)),(7,.int .u64 (pb s i2 (m+1)).1)]) (fun _=> [(40,own 197 5 kT (sv v) acc),(5,be b5 197 [I6 1,Sg bD,I3 (0),.bool ((pb s i2 (m+1)).2),I6 (i2:Int)])]) (fun _=> []) ?_ (fun _ _=> ?_))))))))))))))
      ·refine ar (ad J (av J J ig (aa (am J (fun h13=> ?_) (fun h13=> ?_)))))
       ·(try simp only [bk]at h13);have hge:10*(pb s i2 m).1+(kC s (i2+m)-48)≥4294967296:=h13;refine ar (aD Bb J (aB (k:=5) t4 J J J J J J J J (aa (ap (aq J (aa (aG () O (by rw [IJ hge];rfl) (by rw [IJ hge];rfl) J)))))))
       ·(try simp only [bk]at h13);have hge:¬10*(pb s i2 m).1+(kC s (i2+m)-48)≥4294967296:=by omega
        refine aA (aG () O (by rw [IK hge];rfl) (by rw [IK hge];rfl) J)
      ·refine ap (ad J (av J J aO (aq J (aa ?_))));refine aG (m+1) ⟨⟨by omega,fun q h=>by
        by_cases hq:q=m
        ·subst hq;exact hmd
        ·exact n3.2 q (by omega)⟩,by omega⟩ rfl rfl rfl
     ·have hmx:¬(i2+m<s.size∧mM (kC s (i2+m))=true):=fun q=>FX h12 ⟨by omega,q.2⟩
      have hsd:=uM (p:=mM) (s:=s) (i:=i2) (g:=s.size-i2) (j:=i2+m) (by omega) (by omega) n3.1 (fun q h1 h2=>by have:=n3.2 (q-i2) (by omega);rwa [show i2+(q-i2)=q by omega]at this) hmx;refine bM (ap (ad J (aS (cB underlying225 underlying41 J (c:=wU (pb s i2 m).1) J) (aD Bc J (aB (k:=5) eG J J J J J J J J (aa ?_))))));have htk:=Gj EE hsd;refine aG () O (by rw [htk];rfl) (by rw [htk];rfl) J
    ·have EE:mM (kC s i2)=false:=h7;refine ar (ad J (ad J (aS (eA (j:=i2) underlying9 J J J (by omega)) (dj (xs:= [.tmp 80]) (mn _) Bx [] [] [] J J J (fun _ _=>aq J (aa (am J (fun h14=> ?_) (fun h14=> ?_))))))))
     ·have hl1:pe (kC s i2)=true:=h14;refine aZ (aC ?_);refine bI (X:=Nat) (fun j2=>i2≤j2∧j2≤s.size∧∀q,i2≤q→q<j2→Ey (kC s q)=true) (fun j2=> [(0,Sg s),(3,sv v),(4,I6 (i2:Int)),(5,Pt b5),(6,I6 (j2:Int))]) (fun j2=> [(40,own 197 5 kT (sv v) acc),(5,be b5 197 [I6 0,Sg bD,I3 (0),.bool (false),I6 (i2:Int)])]) (fun j2=> []) (fun j2=>s.size-j2) i2 ⟨cj _,by omega,fun q h1 h2=>by omega⟩ J J J (fun j2 n4=> ?_);refine aV (ad J (ad J (aS (c9 underlying9 J) (av J J cy (ad J (aI [] J J O (fun hg15=>aY J) J (aI [(87,_)] J J ⟨J,O⟩ (fun hg16=>aY J) J (aI [(87,_),(88,_)] J J ⟨J,J,O⟩ (fun hg17=>eA (j:=j2) underlying9 J J J (by have q:=cH hg17;omega)) J (jV [(87,_),(88,_),(89,_)] J J ⟨J,J,J,O⟩ (fun hg18=>fv (xs:= [.tmp 89]) (mn _) Bx [] [] [] J J J) J (aI [(87,_),(88,_),(89,_),(90,_)] J J ⟨J,J,J,J,O⟩ (fun hg19=>aY J) J (cG [] [(87,_),(88,_),(89,_),(90,_),(91,_)] J J O ⟨J,J,J,J,J,O⟩ (fun hg20 hg20'=>aY J) J (cG [(92,_)] [(87,_),(88,_),(89,_),(90,_),(91,_)] J J ⟨J,O⟩ ⟨J,J,J,J,J,O⟩ (fun hg21 hg21'=>aY J) J (cG [(92,_),(93,_)] [(87,_),(88,_),(89,_),(90,_),(91,_)] J J ⟨J,J,O⟩ ⟨J,J,J,J,J,O⟩ (fun hg22 hg22'=>eA (j:=j2) underlying9 J J J (by have q:=cH hg22;omega)) J (DQ [(92,_),(93,_),(94,_)] [(87,_),(88,_),(89,_),(90,_),(91,_)] J J ⟨J,J,J,O⟩ ⟨J,J,J,J,J,O⟩ (fun hg23 hg23'=>fv (xs:= [.tmp 94]) (mE _) Bw [] [] [] J J J) J (aI [(87,_),(88,_),(89,_),(90,_),(91,_)] J J ⟨J,J,J,J,J,O⟩ (fun hg24=>e9 J J J (by first|exact dU|exact ez|exact dh hg24|exact dK hg24|rfl)) J (aS (bK J J J) (aa ?_)))))))))))))))));refine am J (fun h25=> ?_) (fun h25=> ?_)
      ·obtain⟨hm0,hmd⟩:=FW h25;have hmd:Ey (kC s j2)=true:=hmd;refine aA (aC (ap (ad J (av J J aO (aq J (aa ?_))))));refine aG (j2+1) ⟨⟨by omega,by omega,fun q h1 h2=>by
        by_cases hq:q=j2
        ·subst hq;exact hmd
        ·exact n4.2.2 q h1 (by omega)⟩,by omega⟩ rfl rfl rfl
      ·have hmx:¬(j2<s.size∧Ey (kC s j2)=true):=fun q=>FX h25 ⟨by omega,q.2⟩
       have hsl:=uM (p:=Ey) (s:=s) (i:=i2) (g:=s.size-i2) (j:=j2) (by omega) n4.1 n4.2.1 n4.2.2 hmx;refine bM (ar (aD eO J (aB (k:=5) t3 J J J J J J J J (aa (aZ (bQ [101,102,103,104,105,106,8] _ J (aW (V:= [(0,101,_),(1,102,_),(2,103,_),(3,104,_)]) [0,1,2,3] 4 [4] [] (fun v105=> []) J J (ay J J (ay J J (ay J J (ac J (kc underlying9 J J J (by omega) (by omega) (by omega)) ag)))) J J J J J J J J J J J (fun _ _=>J) J (bw (xs:= []) wW Jl [] [] [105]) (fun v105 _=>aW [0,1,2,3] 5 [5,4,3,2,1,0] [6] (fun _=> [(6,8,_)]) J J (ay J J (ay J J (ay J J (ac J (kc underlying9 J J J (by omega) (by omega) (by omega)) ag)))) J J J J J J J J J J J (fun _ _=>J) J (fv (xs:= [.tmp 104,.tmp 105]) (mI _ v105 vz (by decide)) zJ [] [(true,105)] [] J J J) (fun _ _=>bn [6] J J (ac J (cT J) ag) J J J (bz (X:=Unit) (fun _=>True) (fun _=> [(0,Sg s),(3,sv v),(4,I6 (i2:Int)),(5,Pt b5),(6,I6 (j2:Int))]) (fun _=> [(40,own 197 5 kT (sv v) acc),(5,be b5 197 [I6 (if cD (s.extract i2 j2) vz=true then 3 else 2),Sg bD,I3 (0),.bool (false),I6 (i2:Int)])]) (fun _=> []) ?_ (fun _ _=> ?_)))))))))))
       ·refine ar (ad J (aa (am J (fun h26=> ?_) (fun h26=> ?_))))
        ·have hkw:cD (s.extract i2 j2) vz=true:=h26;refine ap (aD eO J (aB (k:=5) t3 J J J J J J J J (aa (aG () O J (by rw [aw hkw];rfl) J))))
        ·have hkw:¬cD (s.extract i2 j2) vz=true:=by have q:cD (s.extract i2 j2) vz=false:=h26;rw [q];decide
         refine aA (aG () O J (by rw [ai hkw];rfl) J)
       ·refine ar (ad J (ad J (av J J eL (av J J fh (aa (am J (fun h27=> ?_) (fun h27=> ?_)))))))
        ·(try simp only [bk]at h27);have hlong:(j2:Int)-(i2:Int)>12:=h27;refine ap (aD eO J (aB (k:=5) t3 J J J J J J J J (aa ?_)));have htk:=Dh (by rw [EE];decide) hl1 hsl;rw [aw hlong]at htk;refine aG () O (by rw [htk];rfl) (by rw [htk];rfl) J
        ·(try simp only [bk]at h27);have hlong:¬(j2:Int)-(i2:Int)>12:=by omega
         refine aA ?_;have htk:=Dh (by rw [EE];decide) hl1 hsl;rw [ai hlong]at htk;refine aG () O (by rw [htk];rfl) (by rw [htk];rfl) J
     ·have hl1:pe (kC s i2)=false:=h14;have hsg:=qF (s.extract i2 s.size) sgL;rw [ByteArray.size_extract]at hsg;refine ar (aD eO J (aB (k:=5) t3 J J J J J J J J (aF J (ad J (ad J (ad J (aS (tu underlying9 J J (by omega) (by omega)) (dj (xs:= [.tmp 37]) (BZ _) Of [] [] [] J J J (fun _ _=>aS (c9 underlying9 J) ?_)))))))));refine te (aU J J (cC (c:=((i2+(lN (s.extract i2 s.size) sgL).size:Nat):Int)) (show IntKind.i64.wrap ((i2:Int)+((lN (s.extract i2 s.size) sgL).size:Int))=_ from by rw [bU (by omega)];omega))) J ?_;refine aq J (aF J (ad J (ad J (av J J br (aa (am J (fun h28=> ?_) (fun h28=> ?_)))))))
      ·(try simp only [bk]at h28);have hsz:(lN (s.extract i2 s.size) sgL).size=0:=by omega
       refine ap (aD eO J (aB (k:=5) t3 J J J J J J J J (aa ?_)));have htk:=Dg (by rw [EE];decide) (by rw [hl1];decide);rw [aw hsz]at htk;refine aG () O (by rw [htk];rfl) (by rw [htk];rfl) J
      ·(try simp only [bk]at h28);have hsz:¬(lN (s.extract i2 s.size) sgL).size=0:=by omega
       refine aA ?_;have htk:=Dg (by rw [EE];decide) (by rw [hl1];decide);rw [ai hsz]at htk;refine aG () O (by rw [htk];rfl) (by rw [htk];rfl) J
   ·refine ar (ad J (ad J (ad J (aS (kc underlying9 J J J (by omega) (by omega) (by omega)) (aD eC J (aB (k:=5) t9 J J J J J J J J (aF J (ad J (aS (aJ fg J J J (a_ (k:=5) J)) (bj kT (BL s i2) underlying192 fg J (by decide) (by decide) J J J J fun v121=>cN 40 underlying192 fg J (by decide) (fun _=>J) (fun _=>J) J J J (aH (k:=121) J) (by first|omega|(simp;done)|(simp;omega)) (by unfold maxLen;first|omega|(simp;done)|(simp;omega)) J fun v122=>aq J (aa (aV ?_))))))))))));refine aD eO J (aT 5 t3 J J J J (av J J br (aa (am J (fun h29=> ?_) (fun h29=> ?_)))))
    ·(try simp only [bk]at h29);have hrr:=Gm hg hsb he h29;subst hrr;refine ar (ad J (aq J (aa (az (aQ v122 O J (cc (aP J)) J [40] [] J J J)))))
    ·(try simp only [bk]at h29);have hk4:¬(io s i2).k=4:=h29;obtain⟨g1,hg1⟩:=JH hg hsb he hk4;have htj:=JG hi3 hk4;refine aA (ap (ad J (aq J (aa ?_))));refine aG ((io s i2).j,acc++ [BL s i2],v122) ⟨⟨⟨g1,hg1⟩,htj.2,by rw [bA];show acc.length+1≤(io s i2).j;omega⟩,by show s.size-(io s i2).j<s.size-i;omega⟩ J J J
end Go.Proofs.YtedmdgbmdplifaaGreat
