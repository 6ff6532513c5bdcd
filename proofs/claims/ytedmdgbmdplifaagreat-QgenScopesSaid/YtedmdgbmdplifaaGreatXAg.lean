/-
  Part of the proof: the texts PC, PD, PE, PF, PG, PH, EL, EM, EN, EO, EQ, ER, EP, ES, ET, M3, EU, T0, T1, shortened. Conditions are with the theorems.
-/
import Derived.Test.YtedmdgbmdplifaaGreatXAa
import Derived.Test.YtedmdgbmdplifaaGreatXAb
import Derived.Test.YtedmdgbmdplifaaGreatXAc
import Derived.Test.YtedmdgbmdplifaaGreatXAd
import Derived.Test.YtedmdgbmdplifaaGreatXAe
import Derived.Test.YtedmdgbmdplifaaGreatXAf
set_option maxHeartbeats 32000000
set_option maxRecDepth 100000
namespace Go.Proofs.YtedmdgbmdplifaaGreat
set_option linter.unusedSimpArgs false
set_option linter.unusedVariables false
open Go.RowKit
theorem Lj{b:Int}(hb:oW b):bits .and .u32 b 255=b%256:=by
 have h1:bits .and .u32 b 255=IntKind.u32.wrap (((BitVec.ofInt 32 b&&&BitVec.ofInt 32 255).toNat:Nat):Int):=J;have h4:=hb.1;have h5:=hb.2;have h2:(BitVec.ofInt 32 b).toNat=b.toNat:=by
  rw [BitVec.toNat_ofInt,Int.emod_eq_of_lt hb.1 (by omega)]
 have h3:(BitVec.ofInt 32 255).toNat=2^8-1:=by decide
 rw [h1,BitVec.toNat_and,h2,h3,Nat.and_two_pow_sub_one_eq_mod,bC (by omega) (by omega)];omega
structure St(d F sp:Int)(c:Qs):Prop where
 z:c.r 0=0
 d:c.r 12=d
 f:c.r 13=F
 s:c.r 14=sp
theorem St.of{d F sp:Int}{c c':Qs}(h:St d F sp c)(hk:∀k:Int,k=0∨k=12∨k=13∨k=14→c'.r k=c.r k):St d F sp c':=
 ⟨(hk 0 (by simp)).trans h.z,(hk 12 (by simp)).trans h.d,(hk 13 (by simp)).trans h.f,(hk 14 (by simp)).trans h.s⟩
theorem St.kr{d F sp:Int}{c c':Qs}{ks:List Int}(h:St d F sp c)(hk:Kr ks c c')(hn:∀k∈ks,¬(k=0∨k=12∨k=13∨k=14)):St d F sp c':=
 h.of fun k hk'=>hk.r k fun hm=>hn k hm hk'
structure pSm(c:Qs)(s:Ms):Prop where
 m:∀i:Nat,i<256→c.m (8192+4*(i:Int))=s.mem i
 i:c.inp=s.inp
 o:c.out=s.out
theorem pSm.kr{c c':Qs}{s:Ms}{ks:List Int}(h:pSm c s)(hk:Kr ks c c'):pSm c' s:=⟨fun i hi=>by rw [hk.m];exact h.m i hi,hk.i.trans h.i,hk.o.trans h.o⟩
def va(o:Om)(F:Int)(x:ByteArray):Int:=wU (F+bs o x)
structure Fs(o:Om)(N:List ByteArray)(F sp:Int):Prop where
 ok:∀x∈N,zB (va o F x)∧sp≤va o F x
 inj:∀x∈N,∀y∈N,va o F x=va o F y→x=y
def Fr(o:Om)(N:List ByteArray)(vs:Vs)(F:Int)(m:Int→Int):Prop:=∀x∈N,m (va o F x)=gE vs x
def lo(d:Nat):Int:=16384-256*d
structure Pr(o:Om)(N:List ByteArray)(vs:Vs)(d:Nat)(F sp:Int)(s:Ms)(c:Qs):Prop where
 st:St d F sp c
 fs:Fs o N F sp
 fr:Fr o N vs F c.m
 sm:pSm c s
 ok:okMs s
 vs:okVs vs
 al:sp%4=0∧sp≤16384
 fu:0≤s.fuel
 d1:1≤d∧d≤12
structure XO(fs:List Tf)(N:List ByteArray)(t:Tx):Prop where
 g:GX t
 r:rX t=true
 e:eX fs N t=0
theorem XO.kids{fs:List Tf}{N:List ByteArray}{k n:Int}{nm:ByteArray}{v:SV}{kids:List Tx}(h:XO fs N (.mk k n nm v kids)):∀u∈kids,XO fs N u:=by
 have hr:=h.r;have he:=h.e;have hg:=h.g;have hr2:(oP k nm kids.length&&(decide (k=1) || decide (n=0))&&oN kids)=true:=hr;simp only [Bool.and_eq_true]at hr2;have he2:iA fs N kids=0:=(bl.1 he).2;have hg2:GXs kids:=hg.2.2.2;clear he hr hg h;have:∀l:List Tx,GXs l→oN l=true→iA fs N l=0→∀u∈l,XO fs N u:=by
  intro l
  induction l with
  | nil=>intro _ _ _ u hu;simp at hu
  | cons t l ih=>
   intro h1 h2 h3 u hu;have h2':(rX t&&oN l)=true:=h2;rw [Bool.and_eq_true]at h2';obtain⟨h4,h5⟩:=bl.1 h3;rcases List.mem_cons.1 hu with rfl|hu
   ·exact⟨h1.1,h2'.1,h4⟩
   ·exact ih h1.2 h2'.2 h5 u hu
 exact this kids hg2 hr2.2 he2
theorem Pr.of{o:Om}{N:List ByteArray}{vs:Vs}{d:Nat}{F sp sp':Int}{s s':Ms}{c c':Qs}(h:Pr o N vs d F sp s c)(hst:St d F sp' c')(hsm:pSm c' s')(hok:okMs s')(hfu:0≤s'.fuel)(hm:∀a,sp≤a→c'.m a=c.m a)(hs:sp'≤sp)(ha:sp'%4=0):
  Pr o N vs d F sp' s' c':=
 ⟨hst,⟨fun x hx=>⟨(h.fs.ok x hx).1,Int.le_trans hs (h.fs.ok x hx).2⟩,h.fs.inj⟩,fun x hx=>(hm _ (h.fs.ok x hx).2).trans (h.fr x hx),hsm,hok,h.vs,⟨ha,by have:=h.al;omega⟩,hfu,h.d1⟩
theorem Pr.pay{o:Om}{N:List ByteArray}{vs:Vs}{d:Nat}{F sp:Int}{s:Ms}{c:Qs}(h:Pr o N vs d F sp s c)(hf:¬s.fuel≤0):Pr o N vs d F sp {s with fuel:=s.fuel-1} c:=
 ⟨h.st,h.fs,h.fr,⟨h.sm.m,h.sm.i,h.sm.o⟩,(Kp.pay h.ok hf).ok,h.vs,h.al,by dsimp only;omega,h.d1⟩
def Bk(code:List Qi)(c:Qs):Prop:=code[c.pc]?=some ⟨49,0,0,0,0⟩
def XR(code:List Qi)(p':Nat)(d:Nat)(F sp:Int)(c:Qs)(s:Ms):Re Int→Prop
 | .ok v s1=>0≤s1.fuel∧Go code (100*(s.fuel-s1.fuel)-40) c fun c'=>c'.pc=p'∧c'.r 1=v∧St d F sp c'∧pSm c' s1∧∀a,sp≤a→c'.m a=c.m a
 | .err e=>e=26→Go code (100*s.fuel+50) c (Bk code)
def KR(code:List Qi)(p':Nat)(d:Nat)(F sp:Int)(c:Qs)(s:Ms)(acc:List Int)(n:Nat):Re (List Int)→Prop
 | .ok ks s1=>0≤s1.fuel∧∃new,ks=acc++new∧new.length=n∧Go code (100*(s.fuel-s1.fuel)) c fun c'=>c'.pc=p'∧St d F (sp-4*(n:Int)) c'∧pSm c' s1∧(∀a,sp≤a→c'.m a=c.m a)∧∀(i:Nat) x,new[i]?=some x→c'.m (sp-4*((i:Int)+1))=x
 | .err e=>e=26→Go code (100*s.fuel+50) c (Bk code)
def CR(code:List Qi)(q:Nat)(d:Nat)(F sp:Int)(n:Nat)(c:Qs)(s:Ms):Re Int→Prop
 | .ok v s1=>0≤s1.fuel∧Go code (100*(s.fuel-s1.fuel)+45) c fun c'=>c'.pc=q∧c'.r 1=v∧St d F sp c'∧pSm c' s1∧∀a,sp+4*(n:Int)≤a→c'.m a=c.m a
 | .err e=>e=26→Go code (100*s.fuel+100) c (Bk code)
section
variable(code:List Qi)(fs:List Tf)(S:ByteArray→Int)
def HX(g:Nat):Prop:=∀(d:Nat) vs t s r,d_ g fs d vs t s=some r→∀o N p F sp c,XO fs N t→cAt code p (zX o S t p)→p+wX t≤1984→c.pc=p→Pr o N vs d F sp s c→lo d+16*dX t≤sp→XR code (p+wX t) d F sp c s r
def HK(g:Nat):Prop:=∀(d:Nat) vs acc l s r,fR g fs d vs acc l s=some r→∀o N p F sp c,(∀u∈l,XO fs N u)→cAt code p (wZ o S l p)→p+rc l≤1984→c.pc=p→Pr o N vs d F sp s c→lo d+16*fj l+4*l.length≤sp→KR code (p+rc l) d F sp c s acc l.length r
def HC(g:Nat):Prop:=∀(d:Nat) f al s r,jS g fs d f al s=some r→∀F sp c q,ce fs f.name=some f→al.length=f.ps.length→(∀a∈al,oW a)→c.pc=(S f.name).toNat→c.r 15=gO q→q<3000→St d F sp c→pSm c s→okMs s→0≤s.fuel→
 sp%4=0→sp+4*al.length≤16384→lo d≤sp→d≤12→(∀(i:Nat) x,al[i]?=some x→c.m (sp+4*((al.length:Int)-1-i))=x)→CR code q d F sp al.length c s r
end
theorem vL{g:Nat}{fs:List Tf}{d:Nat}{vs:Vs}{acc:List Int}{t:Tx}{l:List Tx}{s:Ms}{r:Re (List Int)}(h:fR g fs d vs acc (t::l) s=some r):
  ∃g' rx,g'<g∧d_ g' fs d vs t s=some rx∧((∃v s1,rx= .ok v s1∧fR g' fs d vs (acc++ [v]) l s1=some r)∨∃e,rx= .err e∧r= .err e):=by
 cases g with
 | zero=>simp [fR]at h
 | succ g=>
  rw [fR]at h;cases hx:d_ g fs d vs t s with
  | none=>rw [hx]at h;simp at h
  | some q=>
   rw [hx]at h;refine⟨g,q,Nat.lt_succ_self g,hx,?_⟩;cases q with
   | err e=>exact .inr ⟨e,rfl,(Option.some.inj h).symm⟩
   | ok v s1=>exact .inl ⟨v,s1,rfl,h⟩
theorem xZ{g:Nat}{fs:List Tf}{d:Nat}{vs:Vs}{acc:List Int}{s:Ms}{r:Re (List Int)}(h:fR g fs d vs acc [] s=some r):r= .ok acc s:=by
 cases g with
 | zero=>simp [fR]at h
 | succ g=>rw [fR]at h;exact(Option.some.inj h).symm
section
variable{code:List Qi}{c:Qs}{p:Nat}{d F sp:Int}
theorem kK{r:Int}(hc:cAt code p (eB r))(hpc:c.pc=p)(h:St d F sp c)(hr:r≠14)(hs:8196≤sp∧sp≤16384∧sp%4=0):
  Go code 2 c fun c'=>c'.pc=p+2∧St d F (sp-4) c'∧c'.m=mw c.m (sp-4) (c.r r)∧c'.inp=c.inp∧c'.out=c.out∧∀k,k≠14→c'.r k=c.r k:=by
 refine iN hpc hc.head.1 (v:=sp-4) (by
  show some (wU (c.r 14+4294967292))=_;rw [h.s,n8];exact congrArg some (by omega)) fun c1 e1 e2 e3 e4 e5=> ?_
 have h14:c1.r 14=sp-4:=by rw [e2];exact db (by decide)
 have hw:wU (c1.r 14+0)=sp-4:=by rw [h14,Int.add_zero,ft (by omega)]
 have hk:∀k,k≠14→c1.r k=c.r k:=fun k hk=>by rw [e2];exact ca hk
 refine x8 (d:=r) (a:=14) (x:=0) (by rw [e1];exact hc.head.2.head.1) (by rw [hw];exact⟨by omega,by omega,by omega⟩) (Go.done (by decide) ⟨by show c1.pc+1=_;rw [e1],⟨(hk 0 (by decide)).trans h.z,(hk 12 (by decide)).trans h.d,(hk 13 (by decide)).trans h.f,h14⟩,?_,e4,e5,hk⟩);show mw c1.m (wU (c1.r 14+0)) (c1.r r)=_;rw [hw,e3,hk r hr]
theorem tG{r:Int}(hc:cAt code p (j7 r))(hpc:c.pc=p)(h:c.r 14=sp)(hr:r≠14∧r≠0)(hs:zB sp):
  Go code 2 c fun c'=>c'.pc=p+2∧c'.r r=c.m sp∧c'.r 14=sp+4∧Kr [r,14] c c':=by
 have hw:wU (c.r 14+0)=sp:=by rw [h,Int.add_zero,ft ⟨by have:=hs.1;omega,by have:=hs.2.1;omega⟩]
 refine x9 (d:=r) (a:=14) (x:=0) (by rw [hpc];exact hc.head.1) (by rw [hw];exact hs) ?_;rw [hw];refine iN (p:=p+1) (by rw [←hpc]) hc.head.2.head.1 (v:=sp+4) (by
  show some (wU (rp c.r r (c.m sp) 14+4))=_;rw [ca (fun e=>hr.1 e.symm),h,ft ⟨by have:=hs.1;omega,by have:=hs.2.1;omega⟩]) fun c1 e1 e2 e3 e4 e5=> ?_
 refine Go.done (by decide) ⟨e1,by rw [e2,ca hr.1];exact db hr.2,by rw [e2];exact db (by decide),e3,e4,e5,fun k hk=> ?_⟩;simp only [List.mem_cons,List.not_mem_nil,or_false,not_or]at hk;rw [e2,ca hk.2];exact ca hk.1
theorem As{r x:Int}(hc:cAt code p (r6 r))(hpc:c.pc=p)(hr:r≠0)(h:c.r r=x)(hx:oW x):
  Go code 2 c fun c'=>c'.pc=p+2∧c'.r r=4*(x%256)∧Kr [r] c c':=by
 refine iN hpc hc.head.1 (v:=x%256) (by
  show some (bits .and .u32 (c.r r) 255)=_;rw [h,Lj hx]) fun c1 e1 e2 e3 e4 e5=> ?_
 refine iN e1 hc.head.2.head.1 (v:=4*(x%256)) (by
  show some (wU (c1.r r*2^((2:Int)%32).toNat))=_;rw [e2,db hr,show((2:Int)^((2:Int)%32).toNat)=4 from J,ft (by omega)];exact congrArg some (by omega)) fun c2 f1 f2 f3 f4 f5=> ?_
 refine Go.done (by decide) ⟨f1,by rw [f2];exact db hr,f3.trans e3,f4.trans e4,f5.trans e5,fun k hk=> ?_⟩;simp only [List.mem_cons,List.not_mem_nil,or_false]at hk;rw [f2,ca hk,e2];exact ca hk
end
theorem CW{r:Int→Int}{v k:Int}:rp r 0 v k=r k:=if_neg fun h=>h.2 rfl
theorem ss{d:Nat}(h:d≤12):13312≤lo d:=by unfold lo;omega
theorem jb{m:Int→Int}{a v k:Int}(h:k≠a):mw m a v k=m k:=if_neg h
theorem oh{m:Int→Int}{a v:Int}:mw m a v a=v:=if_pos rfl
theorem pSm.push{c c':Qs}{s:Ms}{a v:Int}(h:pSm c s)(hm:c'.m=mw c.m a v)(hi:c'.inp=c.inp)(ho:c'.out=c.out)(ha:9216≤a):pSm c' s:=
 ⟨fun i hi=>by rw [hm,jb (by omega)];exact h.m i hi,hi.trans h.i,ho.trans h.o⟩
section
variable{code:List Qi}{fs:List Tf}{S:ByteArray→Int}{c:Qs}{p:Nat}{d:Nat}{F sp:Int}{o:Om}{N:List ByteArray}{vs:Vs}{s:Ms}
theorem HZ{g1 g2:Nat}{a b:Tx}{nm:ByteArray}{r1:Re Int}{w:Nat}(hF:VF fs)(h1:HX code fs S g1)(h2:HX code fs S g2)(hb:gw nm=true)(ha:d_ g1 fs d vs a s=some r1)(hva:VX fs a)(hvb:VX fs b)
  (hxa:XO fs N a) (hxb:XO fs N b) (hc:cAt code p (zX o S a p++(eB 1++(zX o S b (p+(zX o S a p).length+2)++(j7 2++AR nm))))) (hw:w=wX a+(wX b+(4+(AR nm).length))) (hl:p+w≤1984) (hpc:c.pc=p) (hp:Pr o N vs d F sp s c) (hs1:lo d+16*dX a≤sp) (hs2:lo d+16*dX b+4≤sp)
  {r:Re Int} (hr:(∃v s1,r1= .ok v s1∧∃r2,d_ g2 fs d vs b s1=some r2∧((∃x s2,r2= .ok x s2∧r= .ok ((nr nm v x).getD 0) s2)∨∃e,r2= .err e∧r= .err e))∨∃e,r1= .err e∧r= .err e):
  XR code (p+w) d F sp c s r:=by
 have hd:=ss hp.d1.2;obtain⟨hca,hc⟩:=hc.app;obtain⟨hcp,hc⟩:=hc.app;obtain⟨hcb,hc⟩:=hc.app;obtain⟨hcq,hco⟩:=hc.app;rw [fJ]at hcp hcb hcq hco;rw [fJ]at hcq hco;have hX:=h1 d vs a s r1 ha o N p F sp c hxa hca (by omega) hpc hp hs1;rcases hr with⟨v,s1,rfl,r2,hb2,hr⟩|⟨e,rfl,rfl⟩
 ·obtain⟨hv,hk1⟩:=(em hF g1).x d vs a s v s1 hva hp.vs hp.ok ha;obtain⟨hf1,hX⟩:=hX;have mid:∀c',(c'.pc=p+wX a∧c'.r 1=v∧St d F sp c'∧pSm c' s1∧∀x,sp≤x→c'.m x=c.m x)→Go code 2 c' fun c2=>c2.pc=p+wX a+2∧Pr o N vs d F (sp-4) s1 c2∧c2.m (sp-4)=v∧∀x,sp≤x→c2.m x=c.m x:=fun c' ⟨e1,e2,e3,e4,e5⟩=>
   (kK hcp e1 e3 (by decide) ⟨by omega,hp.al.2,hp.al.1⟩).weak (fun c2 ⟨f1,f2,f3,f4,f5,f6⟩=>by
    have hm:∀x,sp≤x→c2.m x=c.m x:=fun x hx=>by rw [f3,jb (by omega)];exact e5 x hx
    exact⟨f1,hp.of f2 (e4.push f3 f4 f5 (by omega)) hk1.ok hf1 hm (by omega) (by have:=hp.al;omega),by rw [f3,oh,e2],hm⟩) (Int.le_refl _)
  have hX2:=hX.seq mid (k:=100*(s.fuel-s1.fuel)-38) (by omega);rcases hr with⟨x,s2,rfl,rfl⟩|⟨e,rfl,rfl⟩
  ·obtain⟨hx,hk2⟩:=(em hF g2).x d vs b s1 x s2 hvb hp.vs hk1.ok hb2;obtain⟨hf2,-⟩:0≤s2.fuel∧True:=by
    obtain⟨_,c2,_,_,e1,e2,e3,e4⟩:=hX2;have:=h2 d vs b s1 _ hb2 o N (p+wX a+2) F (sp-4) c2 hxb hcb (by omega) e1 e2 (by omega);exact⟨this.1,trivial⟩
   refine⟨hf2,hX2.seq (m:=100*(s1.fuel-s2.fuel)-33) (fun c2 ⟨e1,e2,e3,e4⟩=> ?_) (by omega)⟩;have hX3:=(h2 d vs b s1 _ hb2 o N (p+wX a+2) F (sp-4) c2 hxb hcb (by omega) e1 e2 (by omega)).2;refine hX3.seq (m:=7) (fun c3 ⟨f1,f2,f3,f4,f5⟩=> ?_) (by omega);refine(tG (p:=p+wX a+2+wX b) (r:=2) hcq f1 f3.s (by decide) ⟨by omega,by have:=hp.al;omega,by have:=hp.al;omega⟩).seq (m:=5) (fun c4 ⟨g1,g2,g3,g4⟩=> ?_) (by omega);have h0:c4.r 0=0:=(g4.r 0 (by decide)).trans f3.z;have h2':c4.r 2=v:=by rw [g2,f5 _ (Int.le_refl _),e3]
   have h1':c4.r 1=x:=(g4.r 1 (by decide)).trans f2;refine(MR (p:=p+wX a+2+wX b+2) hb hco (by omega) g1 h0 h2' h1' hv hx).weak (fun c5 ⟨k1,k2,k3⟩=>⟨by rw [k1];omega,k2,?_,(f4.kr g4).kr k3,fun a ha=> ?_⟩) (Int.le_refl _)
   ·exact⟨(k3.r 0 (by decide)).trans h0,((k3.r 12 (by decide)).trans (g4.r 12 (by decide))).trans f3.d,((k3.r 13 (by decide)).trans (g4.r 13 (by decide))).trans f3.f,((k3.r 14 (by decide)).trans g3).trans (by omega)⟩
   ·rw [k3.m,g4.m,f5 a (by omega),e4 a ha]
  ·intro he;refine hX2.seq (m:=100*s1.fuel+50) (fun c2 ⟨e1,e2,e3,e4⟩=> ?_) (by omega);exact h2 d vs b s1 _ hb2 o N (p+wX a+2) F (sp-4) c2 hxb hcb (by omega) e1 e2 (by omega) he
 ·exact hX
end
section
variable{code:List Qi}{fs:List Tf}{S:ByteArray→Int}
structure HA(code:List Qi)(fs:List Tf)(S:ByteArray→Int)(g:Nat):Prop where
 x:∀g'<g,HX code fs S g'
 k:∀g'<g,HK code fs S g'
 c:∀g'<g,HC code fs S g'
theorem XO.vx{N:List ByteArray}{t:Tx}(h:XO fs N t):VX fs t:=Ib t h.g h.r h.e
theorem XO.vxs{N:List ByteArray}:∀{l:List Tx},(∀u∈l,XO fs N u)→VXs fs l
 | [],_=>trivial
 | t::r,h=>⟨(h t (by simp)).vx,XO.vxs fun u hu=>h u (by simp [hu])⟩
theorem GO{g:Nat}(hF:VF fs)(ih:HA code fs S g):HK code fs S g:=by
 intro d vs acc l s r h o N p F sp c hx hc hl hpc hp hsp;have hd:=ss hp.d1.2;cases l with
 | nil=>
  rw [xZ h];refine⟨hp.fu,[],by simp,rfl,Go.done (by omega) ⟨by rw [hpc];rfl,?_,hp.sm,fun _ _=>rfl,fun i x hi=>by simp at hi⟩⟩;rw [show sp-4*(([]:List Tx).length:Int)=sp by simp];exact hp.st
 | cons t l=>
  obtain⟨g',rx,hg,hx1,hr⟩:=vL h;have hdx:fj (t::l)=max (dX t) (fj l):=J;have hw:rc (t::l)=wX t+(2+rc l):=J;have hc':cAt code p (zX o S t p++(eB 1++wZ o S l (p+(zX o S t p).length+2))):=hc;obtain⟨hca,hc2⟩:=hc'.app;obtain⟨hcp,hcl⟩:=hc2.app;rw [fJ]at hcp hcl;rw [List.length_cons]at hsp;have hX:=ih.x g' hg d vs t s rx hx1 o N p F sp c (hx t (by simp)) hca (by omega) hpc hp (by omega);rcases hr with⟨v,s1,rfl,h2⟩|⟨e,rfl,rfl⟩
  ·obtain⟨hv,hk1⟩:=(em hF g').x d vs t s v s1 (hx t (by simp)).vx hp.vs hp.ok hx1;obtain⟨hf1,hX⟩:=hX;have mid:∀c',(c'.pc=p+wX t∧c'.r 1=v∧St d F sp c'∧pSm c' s1∧∀x,sp≤x→c'.m x=c.m x)→Go code 2 c' fun c2=>c2.pc=p+wX t+2∧Pr o N vs d F (sp-4) s1 c2∧c2.m (sp-4)=v∧∀x,sp≤x→c2.m x=c.m x:=fun c' ⟨e1,e2,e3,e4,e5⟩=>
    (kK hcp e1 e3 (by decide) ⟨by omega,hp.al.2,hp.al.1⟩).weak (fun c2 ⟨f1,f2,f3,f4,f5,f6⟩=>by
     have hm:∀x,sp≤x→c2.m x=c.m x:=fun x hx=>by rw [f3,jb (by omega)];exact e5 x hx
     exact⟨f1,hp.of f2 (e4.push f3 f4 f5 (by omega)) hk1.ok hf1 hm (by omega) (by have:=hp.al;omega),by rw [f3,oh,e2],hm⟩) (Int.le_refl _)
   have hX2:=hX.seq mid (k:=100*(s.fuel-s1.fuel)-38) (by omega);have next:∀c2,(c2.pc=p+wX t+2∧Pr o N vs d F (sp-4) s1 c2∧c2.m (sp-4)=v∧∀x,sp≤x→c2.m x=c.m x)→KR code (p+wX t+2+rc l) d F (sp-4) c2 s1 (acc++ [v]) l.length r:=fun c2 ⟨e1,e2,e3,e4⟩=>
    ih.k g' hg d vs (acc++ [v]) l s1 r h2 o N (p+wX t+2) F (sp-4) c2 (fun u hu=>hx u (by simp [hu])) hcl (by omega) e1 e2 (by omega)
   cases r with
   | err e=>
    intro he;exact hX2.seq (fun c2 hc2=>next c2 hc2 he) (by omega)
   | ok ks s2=>
    obtain⟨_,c2,_,hrn,hP⟩:=id hX2;obtain⟨hf2,new,hn1,hn2,-⟩:=next c2 hP
    refine⟨hf2,v::new,by rw [hn1,List.append_assoc];rfl,by rw [List.length_cons,hn2,List.length_cons],hX2.seq (m:=100*(s1.fuel-s2.fuel)) (fun c2 hP=> ?_) (by omega)⟩;obtain⟨-,new',hm1,hm2,hG⟩:=next c2 hP
    have:new'=new:=List.append_cancel_left (hm1.symm.trans hn1);subst this;obtain⟨e1,e2,e3,e4⟩:=hP;refine hG.weak (fun c3 ⟨f1,f2,f3,f4,f5⟩=>⟨by rw [f1,hw];omega,?_,f3,fun a ha=>by rw [f4 a (by omega),e4 a ha],fun i x hi=> ?_⟩) (Int.le_refl _)
    ·rw [show sp-4*((t::l).length:Int)=sp-4-4*(l.length:Int) by rw [List.length_cons];omega];exact f2
    ·cases i with
     | zero=>
      cases hi;rw [show sp-4*(((0:Nat):Int)+1)=sp-4 by omega,f4 _ (Int.le_refl _),e3]
     | succ i=>
      have:=f5 i x hi;rw [show sp-4*(((i+1:Nat):Int)+1)=sp-4-4*((i:Int)+1) by omega];exact this
  ·exact hX
theorem Ka{N:List ByteArray}{k n:Int}{nm:ByteArray}{v:SV}{kids:List Tx}(h:XO fs N (.mk k n nm v kids)):oP k nm kids.length=true:=by
 have hr2:(oP k nm kids.length&&(decide (k=1) || decide (n=0))&&oN kids)=true:=h.r;simp only [Bool.and_eq_true]at hr2;exact hr2.1.1
theorem Gw{N:List ByteArray}{n:Int}{nm:ByteArray}{v:SV}{kids:List Tx}(h:XO fs N (.mk 2 n nm v kids)):nm∈N:=by
 have he:=h.e;have he2:(if bX nm N=true then(0:Int)else 21)=0:=(bl.1 he).1;by_cases hm:bX nm N=true
 ·unfold bX at hm;obtain⟨q,h1,h2⟩:=List.any_eq_true.1 hm;have h2:nm=q:=by simpa using h2
  exact h2▸h1
 ·rw [if_neg hm]at he2;exact absurd he2 (by decide)
theorem BR{N:List ByteArray}{n:Int}{nm:ByteArray}{v:SV}{kids:List Tx}(h:XO fs N (.mk 3 n nm v kids)):∃f,ce fs nm=some f∧f.ps.length=kids.length:=by
 have he:=h.e;have he2:(match ce fs nm with|none=>(21:Int)|some f=>if f.ps.length=kids.length then 0 else 23)=0:=(bl.1 he).1;cases hf:ce fs nm with
 | none=>
  rw [hf]at he2;have he3:(21:Int)=0:=he2;exact absurd he3 (by decide)
 | some f=>
  rw [hf]at he2;refine⟨f,J,?_⟩;by_cases hq:f.ps.length=kids.length
  ·exact hq
  ·dsimp only at he2;rw [if_neg hq]at he2;exact absurd he2 (by decide)
theorem qF{fs:List Tf}{x:ByteArray}{f:Tf}(h:ce fs x=some f):f.name=x:=by
 have:=List.find?_some h;simpa using this
structure CP(code:List Qi)(fs:List Tf)(S:ByteArray→Int):Prop where
 pos:∀x f,ce fs x=some f→∃p:Nat,S x=(p:Int)∧p<3000
 ps:∀x f,ce fs x=some f→f.ps.length≤4
theorem GL{g:Nat}(hF:VF fs)(hC:CP code fs S)(ih:HA code fs S g):HX code fs S g:=by
 intro d vs t s r h o N p F sp c hx hc hl hpc hp hsp;have hd:=ss hp.d1.2;cases g with
 | zero=>simp [d_]at h
 | succ g=>
  rw [d_]at h;by_cases hf:s.fuel≤0
  ·rw [if_pos hf]at h;cases h;intro e;exact absurd e (by decide)
  rw [if_neg hf]at h;have hp':=hp.pay hf;obtain⟨k,n,nm,v,kids⟩:=t;have hok:=Ka hx;have hdx:dX (.mk k n nm v kids)=fj kids+1:=J;rw [hdx]at hsp;obtain⟨s',hs'⟩:∃s',s'={s with fuel:=s.fuel-1}:=⟨_,J⟩
  have hsf:s'.fuel=s.fuel-1:=by rw [hs']
  rw [←hs']at h hp';dsimp only [Tx.kids,Tx.kind,Tx.n,Tx.name]at h;have back:∀{r:Re Int}{p':Nat},XR code p' d F sp c s' r→XR code p' d F sp c s r:=fun{r p'} h=>by
   cases r with
   | ok v s1=>exact⟨h.1,h.2.weak (fun _ h=>h) (by omega)⟩
   | err e=>exact fun he=>(h he).weak (fun _ h=>h) (by omega)
  rcases si hok with⟨rfl,hn⟩|⟨rfl,hn⟩|⟨rfl,hn⟩|rfl|⟨rfl,hn⟩|⟨rfl,hu,hn⟩|⟨rfl,hb,hn⟩
  · -- a number
   have:kids= []:=List.length_eq_zero_iff.1 hn;subst this;cases hk:fR g fs d vs [] [] s' with
   | none=>rw [hk]at h;simp at h
   | some q=>
    rw [hk]at h;have:=xZ hk;subst this;cases h;have hc':cAt code p (ox n):=hc;refine⟨hp'.fu,(Kd hc' hpc hp.st.z hx.g.1).weak (fun c' ⟨e1,e2,e3⟩=>⟨e1,e2,hp.st.kr e3 (by decide),hp'.sm.kr e3,fun a _=>by rw [e3.m]⟩) (by omega)⟩
  · -- an input
   have:kids= []:=List.length_eq_zero_iff.1 hn;subst this;cases hk:fR g fs d vs [] [] s' with
   | none=>rw [hk]at h;simp at h
   | some q=>
    rw [hk]at h;have:=xZ hk;subst this;have hc':cAt code p [⟨48,0,0,0,2⟩]:=hc;have hgo:∀{v1:Int}{s1:Ms},s1.fuel=s'.fuel→s1.out=s'.out→s1.mem=s'.mem→c.inp.headD 0=v1→c.inp.tail=s1.inp→XR code (p+1) d F sp c s (.ok v1 s1):=fun{v1 s1} e1 e2 e3 e4 e5=>by
     refine⟨by rw [e1];exact hp'.fu,M9 (by rw [hpc];exact hc'.head.1) (Go.done (by omega) ⟨by rw [hpc],by show rp c.r 1 (c.inp.headD 0) 1=v1;rw [db (by decide),e4],hp.st.of fun k hk=>ca (by omega),⟨fun i hi=>by rw [e3];exact hp'.sm.m i hi,e5,by rw [e2];exact hp'.sm.o⟩,fun _ _=>rfl⟩)⟩
    have hin:=hp'.sm.i;cases hi:s'.inp with
    | nil=>
     rw [hi]at hin;simp only [hi]at h;cases h;exact hgo J J J (by rw [hin];rfl) (by rw [hin,hi];rfl)
    | cons a r1=>
     rw [hi]at hin;simp only [hi]at h;cases h;exact hgo J J J (by rw [hin];rfl) (by rw [hin];rfl)
  · -- a name
   have:kids= []:=List.length_eq_zero_iff.1 hn;subst this;cases hk:fR g fs d vs [] [] s' with
   | none=>rw [hk]at h;simp at h
   | some q=>
    rw [hk]at h;have:=xZ hk;subst this;cases h;have hc':cAt code p [qi 23 1 13 (bs o nm)]:=hc;have hN:=Gw hx;have hva:wU (c.r 13+bs o nm)=va o F nm:=by rw [hp.st.f];rfl
    refine⟨hp'.fu,x9 (d:=1) (a:=13) (x:=bs o nm) (by rw [hpc];exact hc'.head.1) (by rw [hva];exact(hp.fs.ok nm hN).1) (Go.done (by omega) ⟨by rw [hpc];rfl,?_,hp.st.of fun k hk=>ca (by omega),⟨hp'.sm.m,hp'.sm.i,hp'.sm.o⟩,fun _ _=>rfl⟩)⟩;rw [hva];show rp c.r 1 (c.m (va o F nm)) 1=_;rw [db (by decide)];exact hp.fr nm hN
  · -- a call
   obtain⟨f,hff,hfl⟩:=BR hx;have hc':cAt code p (wZ o S kids p++([qi 40 15 0 (wU (S nm-((p+(wZ o S kids p).length:Nat):Int)))]++if kids.length>0 then [qi 16 14 14 (4*kids.length)]else [])):=hc;have hw:wX (.mk 3 n nm v kids)=rc kids+(1+if kids.length>0 then 1 else 0):=J;rw [hw]at hl ⊢;obtain⟨hck,hc2⟩:=hc'.app;obtain⟨hcj,hca⟩:=hc2.app;rw [oE]at hcj hca;have h4:=hC.ps nm f hff;cases hk:fR g fs d vs [] kids s' with
   | none=>rw [hk]at h;simp at h
   | some q=>
    rw [hk]at h;have hK:=ih.k g (Nat.lt_succ_self g) d vs [] kids s' q hk o N p F sp c hx.kids hck (by omega) hpc hp' (by omega);cases q with
    | err e=>
     cases h;exact fun he=>(hK he).weak (fun _ h=>h) (by omega)
    | ok ks s1=>
     obtain⟨hk1,hk2,hk3⟩:=(em hF g).k d vs [] kids s' ks s1 (XO.vxs hx.kids) hp'.vs hp'.ok (by simp) hk;obtain⟨hf1,new,hn1,hn2,hK⟩:=hK;rw [List.nil_append]at hn1;subst hn1;dsimp only at h;have h:(match ce fs nm with|none=>none|some f=>jS g fs d f ks s1)=some r:=h;rw [hff]at h;have h:jS g fs d f ks s1=some r:=h;obtain⟨pf,hpf,hpf2⟩:=hC.pos nm f hff;have hfn:=qF hff;obtain⟨q,hq⟩:∃q,q=p+rc kids+1:=⟨_,J⟩
     have mid:∀c',(c'.pc=p+rc kids∧St d F (sp-4*(kids.length:Int)) c'∧pSm c' s1∧(∀a,sp≤a→c'.m a=c.m a)∧∀(i:Nat) x,ks[i]?=some x→c'.m (sp-4*((i:Int)+1))=x)→
       Go code 1 c' fun c2=>CR code q d F (sp-4*(kids.length:Int)) kids.length c2 s1 r∧∀a,sp≤a→c2.m a=c.m a:=fun c' ⟨e1,e2,e3,e4,e5⟩=>by
      refine qp (d:=15) (a:=0) (x:=wU (S nm-((p+rc kids:Nat):Int))) (by rw [e1];exact hcj.head.1) (Go.done (by decide) ⟨?_,e4⟩);rw [e1,lA (q:=pf) (by rw [hpf]) (by omega) (by omega)];have hR:=ih.c g (Nat.lt_succ_self g) d f ks s1 r h F (sp-4*(kids.length:Int)) ⟨pf,rp c'.r 15 (gO (p+rc kids+1)),c'.m,c'.inp,c'.out⟩ q (by rw [hfn];exact hff) (by rw [hn2,hfl]) hk1 ?_ ?_ (by omega) ?_ ⟨e3.m,e3.i,e3.o⟩ hk3.ok hf1 (by have:=hp.al;omega) (by have:=hp.al;omega) (by omega) hp.d1.2 (fun i x hi=> ?_)
      ·rw [hn2]at hR;exact hR
      ·show pf=_;rw [hfn,hpf];rfl
      ·show rp c'.r 15 (gO (p+rc kids+1)) 15=_;rw [db (by decide),hq]
      ·exact e2.of fun k hk=>by
        show rp c'.r 15 _ k=_;exact ca (by omega)
      ·have:=e5 i x hi;show c'.m _=x;rw [←this]
       congr 1
       omega
     have hM:=hK.seq mid (k:=100*(s'.fuel-s1.fuel)+1) (by omega);have pops:∀{v1:Int}{s2:Ms}(c3:Qs),c3.pc=q→c3.r 1=v1→St d F (sp-4*(kids.length:Int)) c3→pSm c3 s2→Go code 1 c3 fun c4=>c4.pc=p+(rc kids+(1+if kids.length>0 then 1 else 0))∧c4.r 1=v1∧St d F sp c4∧pSm c4 s2∧c4.m=c3.m:=fun{v1 s2} c3 f1 f2 f3 f4=>by
      by_cases hz:kids.length>0
      ·rw [if_pos hz]at hca ⊢;refine iN (f1.trans hq) hca.head.1 (v:=sp) (by
        show some (wU (c3.r 14+4*(kids.length:Int)))=_;rw [f3.s,ft ⟨by omega,by have:=hp.al;omega⟩];exact congrArg some (by omega)) fun c4 e1 e2 e3 e4 e5=>Go.done (by decide) ⟨by rw [e1];omega,by rw [e2,ca (by decide)];exact f2,⟨?_,?_,?_,by rw [e2];exact db (by decide)⟩,⟨fun i hi=>by rw [e3];exact f4.m i hi,e4.trans f4.i,e5.trans f4.o⟩,e3⟩
       ·rw [e2,ca (by decide)];exact f3.z
       ·rw [e2,ca (by decide)];exact f3.d
       ·rw [e2,ca (by decide)];exact f3.f
      ·rw [if_neg hz];have:(kids.length:Int)=0:=by omega
       rw [this,show sp-4*0=sp by omega]at f3;exact Go.done (by decide) ⟨by rw [f1,hq];omega,f2,f3,f4,rfl⟩
     cases r with
     | err e=>exact fun he=>hM.seq (fun c2 ⟨hR,_⟩=>hR he) (by omega)
     | ok v2 s2=>
      have hf2:0≤s2.fuel:=by
       obtain⟨_,c2,_,_,hR,_⟩:=hM;exact hR.1
      refine⟨hf2,hM.seq (m:=100*(s1.fuel-s2.fuel)+46) (fun c2 ⟨hR,hm⟩=>hR.2.seq (m:=1) (fun c3 ⟨f1,f2,f3,f4,f5⟩=>(pops c3 f1 f2 f3 f4).weak (fun c4 ⟨k1,k2,k3,k4,k5⟩=>⟨k1,k2,k3,k4,fun a ha=> ?_⟩) (Int.le_refl _)) (by omega)) (by omega)⟩;rw [k5,f5 a (by omega),hm a ha]
  · -- an element of mem
   obtain⟨a,rfl⟩:=List.length_eq_one_iff.1 hn;cases hk:fR g fs d vs [] [a] s' with
   | none=>rw [hk]at h;simp at h
   | some q=>
    rw [hk]at h;obtain⟨g',rx,hg,hx1,hr⟩:=vL hk;have hxa:=hx.kids a (by simp);have hc':cAt code p (zX o S a p++(r6 1++ [qi 23 1 1 8192])):=hc;have hw:wX (.mk 4 n nm v [a])=wX a+3:=J;rw [hw]at hl ⊢;obtain⟨hca,hc2⟩:=hc'.app;obtain⟨hce,hcl⟩:=hc2.app;rw [fJ]at hce hcl;have hda:fj [a]=max (dX a) 0:=J;have hX:=ih.x g' (by omega) d vs a s' rx hx1 o N p F sp c hxa hca (by omega) hpc hp' (by omega);rcases hr with⟨x,s1,rfl,h2⟩|⟨e,rfl,rfl⟩
    ·have:=xZ h2;subst this;obtain⟨hv,hk1⟩:=(em hF g').x d vs a s' x s1 hxa.vx hp'.vs hp'.ok hx1;cases h;refine⟨hX.1,hX.2.seq (m:=3) (fun c1 ⟨e1,e2,e3,e4,e5⟩=> ?_) (by omega)⟩;refine(As (r:=1) hce e1 (by decide) e2 hv).seq (m:=1) (fun c2 ⟨f1,f2,f3⟩=> ?_) (by decide);have hw:wU (c2.r 1+8192)=8192+4*(((x%256).toNat:Nat):Int):=by rw [f2,ft (by omega)];omega
     refine x9 (d:=1) (a:=1) (x:=8192) (by rw [f1];exact hcl.head.1) (by rw [hw];exact⟨by omega,by omega,by omega⟩) (Go.done (by decide) ⟨by show c2.pc+1=_;rw [f1];omega,?_,(e3.kr f3 (by decide)).of fun k hk=>ca (by omega),?_,fun a ha=>by rw [f3.m];exact e5 a ha⟩)
     ·rw [hw];show rp c2.r 1 (c2.m (8192+4*(((x%256).toNat:Nat):Int))) 1=_;rw [db (by decide),f3.m,e4.m _ (by omega)];rfl
     ·have:=e4.kr f3;exact⟨this.m,this.i,this.o⟩
    ·cases h;exact back hX
  · -- a unary operator
   obtain⟨a,rfl⟩:=List.length_eq_one_iff.1 hn;cases hk:fR g fs d vs [] [a] s' with
   | none=>rw [hk]at h;simp at h
   | some q=>
    rw [hk]at h;obtain⟨g',rx,hg,hx1,hr⟩:=vL hk;have hxa:=hx.kids a (by simp);have hc':cAt code p (zX o S a p++BW nm):=hc;have hw:wX (.mk 6 n nm v [a])=wX a+(BW nm).length:=J;rw [hw]at hl ⊢;obtain⟨hca,hcu⟩:=hc'.app;rw [fJ]at hcu;have hda:fj [a]=max (dX a) 0:=J;have hX:=ih.x g' (by omega) d vs a s' rx hx1 o N p F sp c hxa hca (by omega) hpc hp' (by omega);rcases hr with⟨x,s1,rfl,h2⟩|⟨e,rfl,rfl⟩
    ·have:=xZ h2;subst this;obtain⟨hv,hk1⟩:=(em hF g').x d vs a s' x s1 hxa.vx hp'.vs hp'.ok hx1;cases h;refine⟨hX.1,hX.2.seq (m:=2) (fun c1 ⟨e1,e2,e3,e4,e5⟩=> ?_) (by omega)⟩;exact(L_ hu hcu e1 e3.z e2 hv).weak (fun c2 ⟨f1,f2,f3⟩=>⟨by rw [f1];omega,f2,e3.kr f3 (by decide),e4.kr f3,fun a ha=>by rw [f3.m];exact e5 a ha⟩) (Int.le_refl _)
    ·cases h;exact back hX
  · -- a binary operator
   obtain⟨a,b,rfl⟩:∃a b,kids= [a,b]:=⟨_,_,List.eq_getElem_of_length_eq_two kids hn⟩
   cases hk:fR g fs d vs [] [a,b] s' with
   | none=>rw [hk]at h;simp at h
   | some q=>
    rw [hk]at h;obtain⟨g',rx,hg,hx1,hr⟩:=vL hk;have hxa:=hx.kids a (by simp);have hxb:=hx.kids b (by simp);have hda:fj [a,b]=max (dX a) (max (dX b) 0):=J;have hw:wX (.mk 7 n nm v [a,b])=wX a+(wX b+(4+(AR nm).length)):=J;rcases hr with⟨x,s1,rfl,h2⟩|⟨e,rfl,rfl⟩
    ·obtain⟨g'',ry,hg2,hx2,hr2⟩:=vL h2;refine back (HZ (r:=r) hF (ih.x g' (by omega)) (ih.x g'' (by omega)) hb hx1 hxa.vx hxb.vx hxa hxb hc hw hl hpc hp' (by omega) (by omega) (.inl ⟨x,s1,J,ry,hx2,?_⟩));rcases hr2 with⟨y,s2,rfl,h3⟩|⟨e,rfl,rfl⟩
     ·have:=xZ h3;subst this;cases h;exact .inl ⟨y,s2,J,J⟩
     ·cases h;exact .inr ⟨e,J,J⟩
    ·cases h;exact back (HZ (r:= .err e) hF (ih.x g' (by omega)) (ih.x g' (by omega)) hb hx1 hxa.vx hxb.vx hxa hxb hc hw hl hpc hp' (by omega) (by omega) (.inr ⟨e,J,J⟩))
end
mutual
def SO(fs:List Tf)(N:List ByteArray):Ty→Prop
 | .mk k nm _ es _ body _ els=>zy k nm es.length body.length els.length=true∧(∀u∈es,XO fs N u∧dX u≤8)∧(k=1∨k=2→nm∈N)∧(body.length≤1000000∧SOs fs N body)∧(els.length≤1000000∧SOs fs N els)
def SOs(fs:List Tf)(N:List ByteArray):List Ty→Prop
 | []=>True
 | t::r=>SO fs N t∧SOs fs N r
end
mutual
theorem SO.vy{fs:List Tf}{N:List ByteArray}:∀{t:Ty},SO fs N t→VY fs t
 | .mk k nm ve es vb body vl els,h=>by
  obtain⟨h1,h2,h3,⟨h4,h5⟩,h6,h7⟩:=h;have hk:=xJ h1;have hes:es.length=if k=3 then 2 else 1:=hk.2.2.1
  exact⟨⟨by rw [hes];split<;>omega,by rw [hes];split<;>omega,fun h3=>by rw [hes,if_pos h3];exact Nat.le_refl _,XO.vxs fun u hu=>(h2 u hu).1⟩,⟨h4,SOs.vys h5⟩,h6,SOs.vys h7⟩
theorem SOs.vys{fs:List Tf}{N:List ByteArray}:∀{l:List Ty},SOs fs N l→VYs fs l
 | [],_=>trivial
 | t::r,h=>⟨h.1.vy,SOs.vys h.2⟩
end
def Kv(o:Om)(N:List ByteArray)(F sp:Int)(m m':Int→Int):Prop:=∀a,sp≤a→(∀x∈N,a≠va o F x)→m' a=m a
theorem Kv.trans{o:Om}{N:List ByteArray}{F sp:Int}{a b c:Int→Int}(h:Kv o N F sp a b)(h2:Kv o N F sp b c):Kv o N F sp a c:=fun x h3 h4=>(h2 x h3 h4).trans (h x h3 h4)
theorem Kv.of{o:Om}{N:List ByteArray}{F sp:Int}{a b:Int→Int}(h:∀x,sp≤x→b x=a x):Kv o N F sp a b:=fun x h3 _=>h x h3
def Ex(p' E:Nat)(q:Option Int)(c':Qs):Prop:=(q=none→c'.pc=p')∧∀v,q=some v→c'.pc=E∧c'.r 1=v
def SR(code:List Qi)(p' E:Nat)(b k:Int)(o:Om)(N:List ByteArray)(d:Nat)(F sp:Int)(c:Qs)(s:Ms):Re (Vs×Option Int)→Prop
 | .ok q s1=>0≤s1.fuel∧Go code (100*(s.fuel-s1.fuel)+k) c fun c'=>St d F sp c'∧pSm c' s1∧Fr o N q.1 F c'.m∧Kv o N F sp c.m c'.m∧Ex p' E q.2 c'
 | .err e=>e=26→Go code (100*s.fuel+b) c (Bk code)
def zW(o:Om)(S:ByteArray→Int)(E:Int)(e:Tx)(l:List Ty)(p:Nat):List Qi:=
 zX o S e p++([qi 32 1 0 (wU (((jW o S E l (p+wX e+1)).length+2:Nat):Int))]++(jW o S E l (p+wX e+1)++ [qi 40 0 0 (wU (-(((jW o S E l (p+wX e+1)).length+wX e+1:Nat):Int)))]))
section
variable(code:List Qi)(fs:List Tf)(S:ByteArray→Int)
def HB(g:Nat):Prop:=∀(d:Nat) vs l s r,fA g fs d vs l s=some r→∀o N p(E:Nat) F sp c,SOs fs N l→cAt code p (jW o S (E:Int) l p)→p+eC l≤1984→E≤1984→c.pc=p→Pr o N vs d F sp s c→lo d+132≤sp→SR code (p+eC l) E 50 0 o N d F sp c s r
def HS(g:Nat):Prop:=∀(d:Nat) vs t s r,gB g fs d vs t s=some r→∀o N p(E:Nat) F sp c,SO fs N t→cAt code p (zY o S (E:Int) t p)→p+wY t≤1984→E≤1984→c.pc=p→Pr o N vs d F sp s c→lo d+132≤sp→SR code (p+wY t) E 50 0 o N d F sp c s r
def HW(g:Nat):Prop:=∀(d:Nat) vs e l v s r,i6 g fs d vs e l v s=some r→∀o N p(E:Nat) F sp c,XO fs N e→dX e≤8→l.length≤1000000→SOs fs N l→cAt code p (zW o S (E:Int) e l p)→p+wX e+eC l+2≤1984→E≤1984→c.pc=p+wX e→c.r 1=v→Pr o N vs d F sp s c→lo d+132≤sp→
 SR code (p+wX e+eC l+2) E 60 2 o N d F sp c s r
structure HD(g:Nat):Prop extends HA code fs S g where
 b:∀g'<g,HB code fs S g'
 s:∀g'<g,HS code fs S g'
 w:∀g'<g,HW code fs S g'
end
section
variable{code:List Qi}{fs:List Tf}{S:ByteArray→Int}
theorem Pr.next{o:Om}{N:List ByteArray}{vs vs':Vs}{d:Nat}{F sp:Int}{s s':Ms}{c c':Qs}(h:Pr o N vs d F sp s c)(hst:St d F sp c')(hsm:pSm c' s')(hfr:Fr o N vs' F c'.m)(hok:okMs s')(hvs:okVs vs')(hfu:0≤s'.fuel):Pr o N vs' d F sp s' c':=
 ⟨hst,h.fs,hfr,hsm,hok,hvs,h.al,hfu,h.d1⟩
theorem Ex.none{p' E:Nat}{c':Qs}(h:c'.pc=p'):Ex p' E none c':=⟨fun _=>h,fun v hv=>by cases hv⟩
theorem SR.up{p' E:Nat}{b b' k k':Int}{o:Om}{N:List ByteArray}{d:Nat}{F sp:Int}{c0:Qs}{s s0:Ms}{r:Re (Vs×Option Int)}{n:Int}{P:Qs→Prop}(hg:Go code n c0 P)(h:∀c,P c→SR code p' E b k o N d F sp c s r)(hkv:∀c,P c→Kv o N F sp c0.m c.m)
  (h1:n+100*s.fuel+b≤100*s0.fuel+b') (h2:n+100*s.fuel+k≤100*s0.fuel+k'):SR code p' E b' k' o N d F sp c0 s0 r:=by
 cases r with
 | err e=>exact fun he=>hg.seq (fun c hc=>h c hc he) (by omega)
 | ok q s1=>
  have hf:0≤s1.fuel:=by
   obtain⟨_,c2,_,_,hP⟩:=hg;exact(h c2 hP).1
  exact⟨hf,hg.seq (fun c hc=>(h c hc).2.weak (fun c' ⟨e1,e2,e3,e4,e5⟩=>⟨e1,e2,e3,(hkv c hc).trans e4,e5⟩) (Int.le_refl _)) (by omega)⟩
theorem GU{g:Nat}(hF:VF fs)(ih:HD code fs S g):HB code fs S g:=by
 intro d vs l s r h o N p E F sp c hx hc hl hE hpc hp hsp;cases g with
 | zero=>simp [fA]at h
 | succ g=>
  cases l with
  | nil=>
   rw [fA]at h;cases h;exact⟨hp.fu,Go.done (by omega) ⟨hp.st,hp.sm,hp.fr,Kv.of fun _ _=>J,Ex.none hpc⟩⟩
  | cons t l=>
   rw [fA]at h;have hc':cAt code p (zY o S E t p++jW o S E l (p+(zY o S E t p).length)):=hc;have hw:eC (t::l)=wY t+eC l:=J;obtain⟨hct,hcl⟩:=hc'.app;rw [wW]at hcl;cases hs:gB g fs d vs t s with
   | none=>rw [hs]at h;simp at h
   | some q=>
    rw [hs]at h;have hS:=ih.s g (Nat.lt_succ_self g) d vs t s q hs o N p E F sp c hx.1 hct (by omega) hE hpc hp hsp;cases q with
    | err e=>cases h;exact hS
    | ok q s1=>
     obtain⟨vs1,q⟩:=q;obtain⟨k1,k2,k3⟩:=(em hF g).s d vs t s _ s1 hx.1.vy hp.vs hp.ok hs;cases q with
     | some v=>
      cases h;exact⟨hS.1,hS.2.weak (fun c' ⟨e1,e2,e3,e4,e5⟩=>⟨e1,e2,e3,e4,fun hq=>(by cases hq),e5.2⟩) (Int.le_refl _)⟩
     | none=>
      have h:fA g fs d vs1 l s1=some r:=h;rw [hw,←Nat.add_assoc];refine SR.up (s:=s1) (b:=50) (k:=0) hS.2 (fun c' ⟨e1,e2,e3,e4,e5⟩=> ?_) (fun c' ⟨e1,e2,e3,e4,e5⟩=>e4) (by omega) (by omega);exact ih.b g (Nat.lt_succ_self g) d vs1 l s1 r h o N (p+wY t) E F sp c' hx.2 hcl (by omega) hE (e5.1 J) (hp.next e1 e2 e3 k3.ok k1 hS.1) hsp
theorem pw(vs:Vs)(x y:ByteArray)(n:Int):gE (dV vs x n) y=if x=y then n else gE vs y:=fT vs x y n
theorem GM{g:Nat}(hF:VF fs)(ih:HD code fs S g):HW code fs S g:=by
 intro d vs e l v s r h o N p E F sp c hxe hde hll hxl hc hl hE hpc hv hp hsp;cases g with
 | zero=>simp [i6]at h
 | succ g=>
  rw [i6]at h;unfold zW at hc;obtain⟨hce,hc2⟩:=id hc.app;obtain⟨hcb,hc3⟩:=hc2.app;obtain⟨hcl,hcj⟩:=hc3.app;rw [fJ]at hcb hcl hcj;rw [eo]at hcb hcj;have hbeq:=hcb.head.1;have hz0:∀{P:Qs→Prop}{n:Int},Go code (n-1) {c with pc:=if v=0 then p+wX e+eC l+2 else p+wX e+1} P→Go code n c P:=fun{P n} hG=>by
   refine tV (d:=1) (a:=0) (x:=wU (((eC l+2:Nat):Int))) (by rw [hpc];exact hbeq) ?_;rw [hv,hp.st.z,hpc];by_cases hz:v=0
   ·rw [if_pos hz]at hG ⊢;rw [lA (q:=p+wX e+eC l+2) (by rw [show((p+wX e+eC l+2:Nat):Int)-((p+wX e:Nat):Int)=((eC l+2:Nat):Int) by omega]) (by omega) (by omega)];exact hG
   ·rw [if_neg hz]at hG ⊢;exact hG
  by_cases hz:v=0
  ·rw [if_pos hz]at h hz0;cases h;exact⟨hp.fu,hz0 (Go.done (by omega) ⟨hp.st.of fun _ _=>J,⟨hp.sm.m,hp.sm.i,hp.sm.o⟩,hp.fr,Kv.of fun _ _=>J,Ex.none J⟩)⟩
  ·rw [if_neg hz]at h hz0;obtain⟨c1,hc1⟩:∃c1:Qs,c1={c with pc:=p+wX e+1}:=⟨_,J⟩
   rw [←hc1]at hz0;have hp1:Pr o N vs d F sp s c1:=by rw [hc1];exact⟨hp.st.of fun _ _=>J,hp.fs,hp.fr,⟨hp.sm.m,hp.sm.i,hp.sm.o⟩,hp.ok,hp.vs,hp.al,hp.fu,hp.d1⟩
   have hm1:c1.m=c.m:=by rw [hc1]
   have hg1:Go code 1 c fun x=>x=c1:=hz0 (Go.done (by decide) J)
   cases hb:fA g fs d vs l s with
   | none=>rw [hb]at h;simp at h
   | some q=>
    rw [hb]at h;have hB:=ih.b g (Nat.lt_succ_self g) d vs l s q hb o N (p+wX e+1) E F sp c1 hxl hcl (by omega) hE (by rw [hc1]) hp1 hsp;cases q with
    | err z=>cases h;exact fun he=>hg1.seq (m:=100*s.fuel+50) (fun x hx=>by subst hx;exact hB he) (by omega)
    | ok q s1=>
     obtain⟨vs1,q⟩:=q;obtain⟨k1,k2,k3⟩:=(em hF g).b d vs l s _ s1 hxl.vys hp.vs hp.ok hb;cases q with
     | some x=>
      cases h;exact⟨hB.1,hg1.seq (m:=100*(s.fuel-s1.fuel)) (fun x hx=>by subst hx;exact hB.2.weak (fun c' ⟨e1,e2,e3,e4,e5⟩=>⟨e1,e2,e3,by rw [←hm1];exact e4,fun hq=>(by cases hq),e5.2⟩) (by omega)) (by omega)⟩
     | none=>
      dsimp only at h;have hB2:Go code (100*(s.fuel-s1.fuel)+2) c fun c'=>St d F sp c'∧pSm c' s1∧Fr o N vs1 F c'.m∧Kv o N F sp c.m c'.m∧c'.pc=p:=hg1.seq (m:=100*(s.fuel-s1.fuel)+1) (fun x hx=>by
       subst hx;refine hB.2.seq (m:=1) (fun c' ⟨e1,e2,e3,e4,e5⟩=> ?_) (by omega);have e5:=e5.1 J;obtain⟨x,hxx⟩:∃x,x=wU (-(((eC l+wX e+1:Nat):Int))):=⟨_,J⟩
       have hj:=hcj.head.1;rw [←hxx]at hj;refine qp (d:=0) (a:=0) (x:=x) (by rw [e5];exact hj) (Go.done (by decide) ⟨e1.of fun k hk=>CW,⟨e2.m,e2.i,e2.o⟩,e3,by rw [←hm1];exact e4,?_⟩);show sd (wU (gO c'.pc+4*x))=p;rw [e5,hxx];exact lA (by rw [show(p:Int)-((p+wX e+1+eC l:Nat):Int)= -((eC l+wX e+1:Nat):Int) by omega]) (by omega) (by omega)) (by omega)
      cases hx2:d_ g fs d vs1 e s1 with
      | none=>rw [hx2]at h;simp at h
      | some q=>
       rw [hx2]at h;have hX:∀c',(St d F sp c'∧pSm c' s1∧Fr o N vs1 F c'.m∧Kv o N F sp c.m c'.m∧c'.pc=p)→XR code (p+wX e) d F sp c' s1 q:=fun c' ⟨e1,e2,e3,e4,e5⟩=>
        ih.x g (Nat.lt_succ_self g) d vs1 e s1 q hx2 o N p F sp c' hxe hce (by omega) e5 (hp.next e1 e2 e3 k3.ok k1 hB.1) (by omega)
       cases q with
       | err z=>cases h;exact fun he=>hB2.seq (m:=100*s1.fuel+50) (fun c' hc'=>hX c' hc' he) (by omega)
       | ok w s2=>
        obtain⟨w1,w2⟩:=(em hF g).x d vs1 e s1 w s2 hxe.vx k1 k3.ok hx2;have h:i6 g fs d vs1 e l w s2=some r:=h;have hf2:0≤s2.fuel:=by
         obtain⟨_,c2,_,_,hP⟩:=hB2;exact(hX c2 hP).1
        have hX2:Go code (100*(s.fuel-s2.fuel)-38) c fun c'=>(St d F sp c'∧pSm c' s2∧Fr o N vs1 F c'.m∧Kv o N F sp c.m c'.m)∧c'.pc=p+wX e∧c'.r 1=w:=hB2.seq (m:=100*(s1.fuel-s2.fuel)-40) (fun c' hc'=>(hX c' hc').2.weak (fun c2 ⟨f1,f2,f3,f4,f5⟩=>by
         obtain⟨e1,e2,e3,e4,e5⟩:=hc';exact⟨⟨f3,f4,fun x hx=>(f5 _ (hp.fs.ok x hx).2).trans (e3 x hx),e4.trans (Kv.of f5)⟩,f1,f2⟩) (Int.le_refl _)) (by omega)
        refine SR.up (s:=s2) hX2 (fun c' ⟨⟨e1,e2,e3,e4⟩,e5,e6⟩=> ?_) (fun c' h=>h.1.2.2.2) (b:=60) (k:=2) (by omega) (by omega);exact ih.w g (Nat.lt_succ_self g) d vs1 e l w s2 r h o N p E F sp c' hxe hde hll hxl (by unfold zW;exact hc) hl hE e5 e6 (hp.next e1 e2 e3 w2.ok k1 hf2) hsp
end
section
variable{code:List Qi}{fs:List Tf}{S:ByteArray→Int}
theorem Kv.mw{o:Om}{N:List ByteArray}{F sp:Int}{m:Int→Int}{x:ByteArray}{v:Int}(hx:x∈N):Kv o N F sp m (mw m (va o F x) v):=fun a _ h=>jb (h x hx)
theorem Fr.put{o:Om}{N:List ByteArray}{vs:Vs}{F sp:Int}{m:Int→Int}{x:ByteArray}{v:Int}(h:Fr o N vs F m)(hf:Fs o N F sp)(hx:x∈N):Fr o N (dV vs x v) F (mw m (va o F x) v):=fun y hy=>by
 rw [pw];by_cases e:x=y
 ·subst e;rw [if_pos J,oh]
 ·rw [if_neg e,jb fun q=>e (hf.inj x hx y hy q.symm)];exact h y hy
theorem KP{g:Nat}{d:Nat}{vs:Vs}{k:Int}{nm:ByteArray}{ve vb vl:SV}{e:Tx}{es:List Tx}{body els:List Ty}{s s1:Ms}{v:Int}(hf:¬s.fuel≤0)(hx:d_ g fs d vs e {s with fuel:=s.fuel-1}=some (.ok v s1)):
  gB (g+1) fs d vs (.mk k nm ve (e::es) vb body vl els) s=
    if k=1∨k=2 then some (.ok (dV vs nm v,none) s1)else
    if k=3 then(match es with
     | []=>none
     | e2::_=>match d_ g fs d vs e2 s1 with
      | none=>none
      | some (.err e)=>some (.err e)
      | some (.ok w s2)=>some (.ok (vs,none) {s2 with mem:=rL s2.mem (v%256).toNat w}))else
    if k=4 then fA g fs d vs (if v=0 then els else body) s1 else
    if k=5 then i6 g fs d vs e body v s1 else
    if k=6 then some (.ok (vs,some v) s1)else if k=7 then some (.ok (vs,none) {s1 with out:=s1.out++ [v]})else some (.ok (vs,none) s1):=by
 rw [gB,if_neg hf];dsimp only [Ty.es];rw [hx];rfl
theorem Ek{g:Nat}{d:Nat}{vs:Vs}{k:Int}{nm:ByteArray}{ve vb vl:SV}{e:Tx}{es:List Tx}{body els:List Ty}{s:Ms}(hf:¬s.fuel≤0)(hx:d_ g fs d vs e {s with fuel:=s.fuel-1}=none):
  gB (g+1) fs d vs (.mk k nm ve (e::es) vb body vl els) s=none:=by
 rw [gB,if_neg hf];dsimp only [Ty.es];rw [hx]
theorem Hs{g:Nat}{d:Nat}{vs:Vs}{k:Int}{nm:ByteArray}{ve vb vl:SV}{e:Tx}{es:List Tx}{body els:List Ty}{s:Ms}{z:Int}(hf:¬s.fuel≤0)(hx:d_ g fs d vs e {s with fuel:=s.fuel-1}=some (.err z)):
  gB (g+1) fs d vs (.mk k nm ve (e::es) vb body vl els) s=some (.err z):=by
 rw [gB,if_neg hf];dsimp only [Ty.es];rw [hx]
theorem GN{g:Nat}(hF:VF fs)(ih:HD code fs S g):HS code fs S g:=by
 intro d vs t s r h o N p E F sp c hx hc hl hE hpc hp hsp;have hd:=ss hp.d1.2;cases g with
 | zero=>simp [gB]at h
 | succ g=>
  by_cases hf:s.fuel≤0
  ·rw [gB,if_pos hf]at h;cases h;intro e;exact absurd e (by decide)
  have hp':=hp.pay hf;obtain⟨k,nm,ve,es,vb,body,vl,els⟩:=t;obtain⟨hok,hes,hnm,⟨hbl,hbo⟩,hel,heo⟩:=hx;have hk:=xJ hok;obtain⟨s',hs'⟩:∃s',s'={s with fuel:=s.fuel-1}:=⟨_,J⟩
  have hsf:s'.fuel=s.fuel-1:=by rw [hs']
  rw [←hs']at hp';cases es with
  | nil=>
   have:=hk.2.2.1;split at this<;>simp at this
  | cons e es=>
   have hxe:=(hes e (by simp)).1;have hde:=(hes e (by simp)).2;have hca:cAt code p (zX o S e p):=by
    have hc':=hc;unfold zY at hc';by_cases q1:k=1∨k=2
    ·rw [if_pos q1]at hc';exact hc'.app.1
    rw [if_neg q1]at hc';by_cases q3:k=3
    ·rw [if_pos q3]at hc';exact hc'.app.1
    rw [if_neg q3]at hc';by_cases q7:k=7
    ·rw [if_pos q7]at hc';exact hc'.app.1
    rw [if_neg q7]at hc';by_cases q6:k=6
    ·rw [if_pos q6]at hc';exact hc'.app.1
    rw [if_neg q6]at hc';by_cases q4:k=4
    ·rw [if_pos q4]at hc';exact hc'.app.1
    rw [if_neg q4]at hc';by_cases q5:k=5
    ·rw [if_pos q5]at hc';exact hc'.app.1
    rw [if_neg q5]at hc';exact hc'
   have hwe:wX e≤wY (.mk k nm ve (e::es) vb body vl els):=by
    unfold wY;show iG (e::es)≤_
    repeat' split
    all_goals omega
   cases hx1:d_ g fs d vs e s' with
   | none=>
    rw [Ek hf (by rw [←hs'];exact hx1)]at h;cases h
   | some q=>
    have hX:=ih.x g (Nat.lt_succ_self g) d vs e s' q hx1 o N p F sp c hxe hca (by omega) hpc hp' (by omega);cases q with
    | err z=>
     rw [Hs hf (by rw [←hs'];exact hx1)]at h;cases h;exact fun he=>(hX he).weak (fun _ h=>h) (by omega)
    | ok v s1=>
     obtain⟨hv,hk1⟩:=(em hF g).x d vs e s' v s1 hxe.vx hp'.vs hp'.ok hx1;rw [KP hf (by rw [←hs'];exact hx1)]at h;obtain⟨hf1,hX⟩:=hX;have hX1:Go code (100*(s.fuel-s1.fuel)-140) c fun c'=>c'.pc=p+wX e∧c'.r 1=v∧(∀a,sp≤a→c'.m a=c.m a)∧Pr o N vs d F sp s1 c':=hX.weak (fun c' ⟨e1,e2,e3,e4,e5⟩=>⟨e1,e2,e5,hp.of e3 e4 hk1.ok hf1 e5 (Int.le_refl _) hp.al.1⟩) (by omega)
     by_cases q1:k=1∨k=2
     · -- a variable
      rw [if_pos q1]at h;cases h;have hc':cAt code p (zX o S e p++ [qi 25 1 13 (bs o nm)]):=by
       have hc':=hc;unfold zY at hc';rw [if_pos q1]at hc';exact hc'
      have hw:wY (.mk k nm ve (e::es) vb body vl els)=wX e+1:=by unfold wY;rw [if_pos q1];rfl
      rw [hw];have hcs:=hc'.app.2;rw [fJ]at hcs;have hN:=hnm q1;refine⟨hf1,hX1.seq (m:=1) (fun c1 ⟨e1,e2,e3,e4⟩=> ?_) (by omega)⟩;have hva:wU (c1.r 13+bs o nm)=va o F nm:=by rw [e4.st.f];rfl
      refine x8 (d:=1) (a:=13) (x:=bs o nm) (by rw [e1];exact hcs.head.1) (by rw [hva];exact(hp.fs.ok nm hN).1) (Go.done (by decide) ?_);rw [hva,e2];refine⟨e4.st.of fun _ _=>J,e4.sm.push J J J (by have:=(hp.fs.ok nm hN).2;omega),e4.fr.put e4.fs hN,(Kv.of e3).trans (Kv.mw hN),Ex.none (by show c1.pc+1=_;rw [e1];rfl)⟩
     rw [if_neg q1]at h;by_cases q3:k=3
     · -- an element of mem
      rw [if_pos q3]at h;subst q3;have hn:(e::es).length=2:=by have:=hk.2.2.1;rw [if_pos J]at this;exact this
      obtain⟨e2,rfl⟩:∃e2,es= [e2]:=List.length_eq_one_iff.1 (by rw [List.length_cons]at hn;omega);have hc':cAt code p (zX o S e p++(eB 1++(zX o S e2 (p+wX e+2)++(j7 2++(r6 2++ [qi 25 1 2 8192]))))):=hc;have hw:wY (.mk 3 nm ve [e,e2] vb body vl els)=wX e+(wX e2+7):=J;rw [hw]at hl ⊢;have hxe2:=(hes e2 (by simp)).1;have hde2:=(hes e2 (by simp)).2;obtain⟨-,hc2⟩:=hc'.app;obtain⟨hcp,hc3⟩:=hc2.app;obtain⟨hcx,hc4⟩:=hc3.app;obtain⟨hcq,hc5⟩:=hc4.app;obtain⟨hce,hcs⟩:=hc5.app;rw [fJ]at hcp hcx hcq hce hcs;rw [fJ]at hcq hce hcs;have hX2:Go code (100*(s.fuel-s1.fuel)-138) c fun c'=>c'.pc=p+wX e+2∧Pr o N vs d F (sp-4) s1 c'∧c'.m (sp-4)=v∧∀a,sp≤a→c'.m a=c.m a:=hX1.seq (m:=2) (fun c1 ⟨e1,e2,e3,e4⟩=>(kK hcp e1 e4.st (by decide) ⟨by omega,hp.al.2,hp.al.1⟩).weak (fun c2 ⟨f1,f2,f3,f4,f5,f6⟩=>by
       have hm:∀x,sp≤x→c2.m x=c1.m x:=fun x hx=>by rw [f3,jb (by omega)]
       exact⟨f1,e4.of f2 (e4.sm.push f3 f4 f5 (by omega)) hk1.ok hf1 hm (by omega) (by have:=hp.al;omega),by rw [f3,oh,e2],fun a ha=>(hm a ha).trans (e3 a ha)⟩) (Int.le_refl _)) (by omega)
      dsimp only at h;cases hx2:d_ g fs d vs e2 s1 with
      | none=>rw [hx2]at h;simp at h
      | some q=>
       rw [hx2]at h;have hY:∀c',(c'.pc=p+wX e+2∧Pr o N vs d F (sp-4) s1 c'∧c'.m (sp-4)=v∧∀a,sp≤a→c'.m a=c.m a)→XR code (p+wX e+2+wX e2) d F (sp-4) c' s1 q:=fun c' ⟨f1,f2,f3,f4⟩=>
        ih.x g (Nat.lt_succ_self g) d vs e2 s1 q hx2 o N (p+wX e+2) F (sp-4) c' hxe2 hcx (by omega) f1 f2 (by omega)
       cases q with
       | err z=>cases h;exact fun he=>hX2.seq (fun c' hc'=>hY c' hc' he) (by omega)
       | ok w s2=>
        cases h;obtain⟨hw1,hw2⟩:=(em hF g).x d vs e2 s1 w s2 hxe2.vx hp.vs hk1.ok hx2;have hf2:0≤s2.fuel:=by
         obtain⟨_,c2,_,_,hP⟩:=hX2;exact(hY c2 hP).1
        refine⟨hf2,hX2.seq (m:=100*(s1.fuel-s2.fuel)-35) (fun c2 hc2=>(hY c2 hc2).2.seq (m:=5) (fun c3 ⟨g1,g2,g3,g4,g5⟩=> ?_) (by omega)) (by dsimp only;omega)⟩;obtain⟨f1,f2,f3,f4⟩:=hc2;refine(tG (r:=2) hcq g1 g3.s (by decide) ⟨by omega,by have:=hp.al;omega,by have:=hp.al;omega⟩).seq (m:=3) (fun c4 ⟨i1,i2,i3,i4⟩=> ?_) (by decide);have h2:c4.r 2=v:=by rw [i2,g5 _ (Int.le_refl _),f3]
        refine(As (r:=2) hce i1 (by decide) h2 hv).seq (m:=1) (fun c5 ⟨j1,j2,j3⟩=> ?_) (by decide);have hwa:wU (c5.r 2+8192)=8192+4*(((v%256).toNat:Nat):Int):=by rw [j2,ft (by omega)];omega
        have hst:St d F sp c5:=⟨((j3.r 0 (by decide)).trans (i4.r 0 (by decide))).trans g3.z,((j3.r 12 (by decide)).trans (i4.r 12 (by decide))).trans g3.d,((j3.r 13 (by decide)).trans (i4.r 13 (by decide))).trans g3.f,((j3.r 14 (by decide)).trans i3).trans (by omega)⟩
        have hm5:c5.m=c3.m:=j3.m.trans i4.m;have hr1:c5.r 1=w:=((j3.r 1 (by decide)).trans (i4.r 1 (by decide))).trans g2;have hsm:=(g4.kr i4).kr j3;have hkv:∀a,sp≤a→c5.m a=c.m a:=fun a ha=>by rw [hm5,g5 a (by omega),f4 a ha]
        refine x8 (d:=1) (a:=2) (x:=8192) (by rw [j1];exact hcs.head.1) (by rw [hwa];exact⟨by omega,by omega,by omega⟩) (Go.done (by decide) ?_);rw [hwa,hr1];refine⟨hst.of fun _ _=>J,⟨fun i hi=> ?_,hsm.i,hsm.o⟩,fun x hx=> ?_,fun a ha _=> ?_,Ex.none (by show c5.pc+1=_;rw [j1];simp only [eB,j7,List.length_cons,List.length_nil];omega)⟩
        ·show mw c5.m _ w _=rL s2.mem _ w i;unfold rL;by_cases hi2:i=(v%256).toNat
         ·rw [if_pos hi2,hi2,oh]
         ·rw [if_neg hi2,jb (by omega)];exact hsm.m i hi
        ·have:=(hp.fs.ok x hx).2;show mw c5.m _ w _=_;rw [jb (by omega),hkv _ this];exact hp.fr x hx
        ·show mw c5.m _ w _=_;rw [jb (by omega),hkv a ha]
     rw [if_neg q3]at h;by_cases q4:k=4
     · -- if
      rw [if_pos q4]at h;subst q4;obtain⟨je,hje⟩:∃je:Nat,je=if els.length>0 then 1 else 0:=⟨_,J⟩
      have hc':cAt code p (zX o S e p++([qi 32 1 0 (wU (((jW o S E body (p+wX e+1)).length+(if els.length>0 then 1 else 0)+1:Nat):Int))]++(jW o S E body (p+wX e+1)++
       ((if els.length>0 then [qi 40 0 0 (wU (((jW o S E els (p+wX e+1+(jW o S E body (p+wX e+1)).length+(if els.length>0 then 1 else 0))).length+1:Nat):Int))]else [])++
        jW o S E els (p+wX e+1+(jW o S E body (p+wX e+1)).length+(if els.length>0 then 1 else 0)))))):=hc
      rw [←hje]at hc';have hw:wY (.mk 4 nm ve (e::es) vb body vl els)=wX e+(eC body+(eC els+(1+je))):=by
       show iG (e::es)+(eC body+(eC els+if els.length>0 then 2 else 1))=_;rw [hje];show wX e+_=_;split<;>omega
      rw [hw]at hl ⊢;obtain⟨-,hc2⟩:=hc'.app;obtain⟨hcb,hc3⟩:=hc2.app;obtain⟨hcl,hc4⟩:=hc3.app;obtain⟨hcj,hcel⟩:=hc4.app;simp only [fJ,eo]at hcb hcl hcj hcel;have hjl:(if els.length>0 then [qi 40 0 0 (wU ((eC els+1:Nat):Int))]else []).length=je:=by rw [hje];split<;>rfl
      rw [hjl]at hcel;have hbeq:=hcb.head.1;have hX3:Go code (100*(s.fuel-s1.fuel)-139) c fun c'=>c'.pc=(if v=0 then p+wX e+1+eC body+je else p+wX e+1)∧(∀a,sp≤a→c'.m a=c.m a)∧Pr o N vs d F sp s1 c':=hX1.seq (m:=1) (fun c1 ⟨e1,e2,e3,e4⟩=>by
       refine tV (d:=1) (a:=0) (x:=wU (((eC body+je+1:Nat):Int))) (by rw [e1];exact hbeq) (Go.done (by decide) ⟨?_,e3,⟨e4.st.of fun _ _=>J,e4.fs,e4.fr,⟨e4.sm.m,e4.sm.i,e4.sm.o⟩,e4.ok,e4.vs,e4.al,e4.fu,e4.d1⟩⟩);show(if c1.r 1=c1.r 0 then _ else c1.pc+1)=_;rw [e2,e4.st.z,e1];by_cases hz:v=0
       ·rw [if_pos hz,if_pos hz];exact lA (by rw [show((p+wX e+1+eC body+je:Nat):Int)-((p+wX e:Nat):Int)=((eC body+je+1:Nat):Int) by omega]) (by omega) (by omega)
       ·rw [if_neg hz,if_neg hz]) (by omega)
      by_cases hz:v=0
      ·rw [if_pos hz]at h hX3;refine SR.up (s:=s1) hX3 (fun c' ⟨e1,e2,e3⟩=> ?_) (fun c' ⟨e1,e2,e3⟩=>Kv.of e2) (b:=50) (k:=0) (by omega) (by omega);have:=ih.b g (Nat.lt_succ_self g) d vs els s1 r h o N (p+wX e+1+eC body+je) E F sp c' heo hcel (by omega) hE e1 e3 hsp;rw [show p+(wX e+(eC body+(eC els+(1+je))))=p+wX e+1+eC body+je+eC els by omega];exact this
      ·rw [if_neg hz]at h hX3;have hB:∀c',(c'.pc=p+wX e+1∧(∀a,sp≤a→c'.m a=c.m a)∧Pr o N vs d F sp s1 c')→SR code (p+wX e+1+eC body) E 50 0 o N d F sp c' s1 r:=fun c' ⟨e1,e2,e3⟩=>
        ih.b g (Nat.lt_succ_self g) d vs body s1 r h o N (p+wX e+1) E F sp c' hbo hcl (by omega) hE e1 e3 hsp
       cases r with
       | err z=>exact fun he=>hX3.seq (fun c' hc'=>hB c' hc' he) (by omega)
       | ok q s2=>
        have hf2:0≤s2.fuel:=by
         obtain⟨_,c2,_,_,hP⟩:=hX3;exact(hB c2 hP).1
        refine⟨hf2,hX3.seq (m:=100*(s1.fuel-s2.fuel)+1) (fun c2 hc2=>(hB c2 hc2).2.seq (m:=1) (fun c3 ⟨f1,f2,f3,f4,f5⟩=> ?_) (by omega)) (by omega)⟩;obtain⟨g1,g2,g3⟩:=hc2;have hkv:=(Kv.of (o:=o) (N:=N) (F:=F) g2).trans f4;obtain⟨vs2,q⟩:=q;cases q with
        | some x=>exact Go.done (by decide) ⟨f1,f2,f3,hkv,fun hq=>(by cases hq),f5.2⟩
        | none=>
         have f6:=f5.1 J;by_cases hz2:els.length>0
         ·rw [if_pos hz2]at hcj hje;refine qp (d:=0) (a:=0) (x:=wU ((eC els+1:Nat):Int)) (by rw [f6];exact hcj.head.1) (Go.done (by decide) ⟨f1.of fun k hk=>CW,⟨f2.m,f2.i,f2.o⟩,f3,hkv,Ex.none ?_⟩);show sd _=_;rw [f6];exact lA (by rw [show((p+(wX e+(eC body+(eC els+(1+je)))):Nat):Int)-((p+wX e+1+eC body:Nat):Int)=((eC els+1:Nat):Int) by omega]) (by omega) (by omega)
         ·rw [if_neg hz2]at hje;have:els= []:=List.length_eq_zero_iff.1 (by omega);subst this;have hw0:eC []=0:=J;exact Go.done (by decide) ⟨f1,f2,f3,hkv,Ex.none (by rw [f6];omega)⟩
     rw [if_neg q4]at h;by_cases q5:k=5
     · -- while
      rw [if_pos q5]at h;subst q5;have hc':cAt code p (zW o S E e body p):=hc;have hw:wY (.mk 5 nm ve (e::es) vb body vl els)=wX e+(eC body+2):=J;rw [hw]at hl ⊢;refine SR.up (s:=s1) hX1 (fun c' ⟨e1,e2,e3,e4⟩=> ?_) (fun c' ⟨e1,e2,e3,e4⟩=>Kv.of e3) (b:=60) (k:=2) (by omega) (by omega);have:=ih.w g (Nat.lt_succ_self g) d vs e body v s1 r h o N p E F sp c' hxe hde hbl hbo hc' (by omega) hE e1 e2 e4 hsp;rw [show p+(wX e+(eC body+2))=p+wX e+eC body+2 by omega];exact this
     rw [if_neg q5]at h;by_cases q6:k=6
     · -- return
      rw [if_pos q6]at h;subst q6;cases h;have hc':cAt code p (zX o S e p++ [qi 40 0 0 (wU ((E:Int)-((p+wX e:Nat):Int)))]):=hc;have hw:wY (.mk 6 nm ve (e::es) vb body vl els)=wX e+1:=J;rw [hw]at hl ⊢;have hcs:=hc'.app.2;rw [fJ]at hcs;refine⟨hf1,hX1.seq (m:=1) (fun c1 ⟨e1,e2,e3,e4⟩=> ?_) (by omega)⟩;refine qp (d:=0) (a:=0) (x:=wU ((E:Int)-((p+wX e:Nat):Int))) (by rw [e1];exact hcs.head.1) (Go.done (by decide) ⟨e4.st.of fun k hk=>CW,⟨e4.sm.m,e4.sm.i,e4.sm.o⟩,e4.fr,Kv.of e3,fun hq=>(by cases hq),fun y hy=> ?_⟩);cases hy;refine⟨?_,by show rp c1.r 0 (gO (c1.pc+1)) 1=_;rw [CW];exact e2⟩;show sd _=_;rw [e1];exact lA J (by omega) (by omega)
     rw [if_neg q6]at h;by_cases q7:k=7
     · -- out
      rw [if_pos q7]at h;subst q7;cases h;have hc':cAt code p (zX o S e p++ [⟨48,0,0,0,1⟩]):=hc;have hw:wY (.mk 7 nm ve (e::es) vb body vl els)=wX e+1:=J;rw [hw]at hl ⊢;have hcs:=hc'.app.2;rw [fJ]at hcs;refine⟨hf1,hX1.seq (m:=1) (fun c1 ⟨e1,e2,e3,e4⟩=> ?_) (by dsimp only;omega)⟩;refine KA (by rw [e1];exact hcs.head.1) (Go.done (by decide) ⟨e4.st.of fun _ _=>J,⟨e4.sm.m,e4.sm.i,?_⟩,e4.fr,Kv.of e3,Ex.none (by show c1.pc+1=_;rw [e1];rfl)⟩);show c1.out++ [c1.r 1]=s1.out++ [v];rw [e2,e4.sm.o]
     rw [if_neg q7]at h
     -- an expression alone
     have q8:k=8:=by omega
     subst q8;cases h;have hw:wY (.mk 8 nm ve (e::es) vb body vl els)=wX e:=J;rw [hw];exact⟨hf1,hX1.weak (fun c1 ⟨e1,e2,e3,e4⟩=>⟨e4.st,e4.sm,e4.fr,Kv.of e3,Ex.none e1⟩) (by omega)⟩
end
structure pFO(fs:List Tf)(f:Tf)(N:List ByteArray):Prop where
 so:SOs fs N f.body
 ps4:f.ps.length≤4
 nv:(cI f).2.toNat≤12
 nd:f.ps.Nodup
 off:∀x∈N,(∃i:Nat,f.ps[i]?=some x∧bs (cI f).1 x=8+4*((f.ps.length:Int)-1-i))∨(x∉f.ps∧∃j:Nat,1≤j∧j≤(cI f).2.toNat∧bs (cI f).1 x=wU (-(4*(j:Int))))
 inj:∀x∈N,∀y∈N,bs (cI f).1 x=bs (cI f).1 y→x=y
structure CF(code:List Qi)(fs:List Tf)(S:ByteArray→Int):Prop where
 fn:∀x f,ce fs x=some f→∃p:Nat,S x=(p:Int)∧cAt code p (zF S f p)∧p+wF f≤1984
 ok:∀x f,ce fs x=some f→∃N,pFO fs f N
theorem CF.cp{code:List Qi}{fs:List Tf}{S:ByteArray→Int}(h:CF code fs S):CP code fs S:=
 ⟨fun x f hf=>by obtain⟨p,h1,h2,h3⟩:=h.fn x f hf;exact⟨p,h1,by omega⟩,fun x f hf=>by obtain⟨N,hN⟩:=h.ok x f hf;exact hN.ps4⟩
theorem nu:∀(ps:List ByteArray)(al:List Int)(vs:Vs)(x:ByteArray),x∉ps→gE (dD vs ps al) x=gE vs x
 | [],al,vs,x,h=>by unfold dD;rfl
 | p::ps,[],vs,x,h=>by unfold dD;rfl
 | p::ps,a::al,vs,x,h=>by
  rw [List.mem_cons,not_or]at h;show gE (dD (dV vs p a) ps al) x=_;rw [nu ps al _ x h.2,pw,if_neg fun e=>h.1 e.symm]
theorem uK:∀(ps:List ByteArray)(al:List Int)(vs:Vs)(i:Nat)(x:ByteArray)(a:Int),ps.Nodup→ps[i]?=some x→al[i]?=some a→gE (dD vs ps al) x=a
 | [],al,vs,i,x,a,_,h,_=>by simp at h
 | p::ps,[],vs,i,x,a,_,_,h=>by simp at h
 | p::ps,b::al,vs,i,x,a,hn,h1,h2=>by
  rw [List.nodup_cons]at hn;show gE (dD (dV vs p b) ps al) x=_;cases i with
  | zero=>
   cases h1;cases h2;rw [nu ps al _ p hn.1,pw,if_pos J]
  | succ i=>exact uK ps al _ i x a hn.2 h1 h2
section
variable{code:List Qi}{fs:List Tf}{S:ByteArray→Int}
theorem vk{d F:Int}:∀(n:Nat){p:Nat}{sp:Int}{c:Qs}{s:Ms},cAt code p (ia n)→c.pc=p→St d F sp c→9216+4*(n:Int)≤sp→sp≤16384→sp%4=0→pSm c s→
  Go code (2*(n:Int)) c fun c'=>c'.pc=p+2*n∧St d F (sp-4*(n:Int)) c'∧pSm c' s∧(∀a,sp≤a→c'.m a=c.m a)∧∀j:Nat,1≤j→j≤n→c'.m (sp-4*(j:Int))=0
 | 0,p,sp,c,s,_,hpc,h,_,_,_,hs=>Go.done (by omega) ⟨hpc,by rw [show sp-4*((0:Nat):Int)=sp by omega];exact h,hs,fun _ _=>rfl,fun j h1 h2=>by omega⟩
 | n+1,p,sp,c,s,hc,hpc,h,h1,h2,h3,hs=>by
  have hc':cAt code p (eB 0++ia n):=hc;obtain⟨hc1,hc2⟩:=hc'.app;refine(kK hc1 hpc h (by decide) ⟨by omega,h2,h3⟩).seq (m:=2*(n:Int)) (fun c1 ⟨e1,e2,e3,e4,e5,e6⟩=> ?_) (by omega);refine(vk n (p:=p+2) (sp:=sp-4) hc2 e1 e2 (by omega) (by omega) (by omega) (hs.push e3 e4 e5 (by omega))).weak (fun c2 ⟨f1,f2,f3,f4,f5⟩=>⟨by rw [f1];omega,?_,f3,fun a ha=> ?_,fun j hj1 hj2=> ?_⟩) (Int.le_refl _)
  ·rw [show sp-4*((n+1:Nat):Int)=sp-4-4*(n:Int) by omega];exact f2
  ·rw [f4 a (by omega),e3,jb (by omega)]
  ·by_cases hj:j=1
   ·subst hj;rw [show sp-4*((1:Nat):Int)=sp-4 by omega,f4 _ (Int.le_refl _),e3,oh,h.z]
   ·have:=f5 (j-1) (by omega) (by omega);rw [show sp-4*(j:Int)=sp-4-4*((j-1:Nat):Int) by omega];exact this
theorem GR{g:Nat}(hF:VF fs)(hC:CF code fs S)(ih:HD code fs S g):HC code fs S g:=by
 intro d f al s r h F sp c q hff hal hao hpc h15 hq hst hsm hok hfu ha hsp hlo hd hargs;have hlo':=ss hd;cases g with
 | zero=>simp [jS]at h
 | succ g=>
  rw [jS]at h;obtain⟨pf,hpf,hcf,hpl⟩:=hC.fn _ _ hff;obtain⟨N,hN⟩:=hC.ok _ _ hff;obtain⟨nv,hnv⟩:∃nv,nv=(cI f).2.toNat:=⟨_,J⟩
  obtain⟨o,ho⟩:∃o,o=(cI f).1:=⟨_,J⟩
  have hv12:=hN.nv;have h4:=hN.ps4;have hoff:=hN.off;have hinj:=hN.inj;rw [←ho,←hnv]at hoff;rw [←ho]at hinj;rw [←hnv]at hv12;have hwf:wF f=17+2*nv+eC f.body:=by rw [hnv];rfl
  have hcf':cAt code pf ([qi 16 12 12 1,qi 16 2 0 12,qi 35 2 12 2,⟨49,0,0,0,0⟩]++(eB 15++(eB 13++([q3 1 13 14 0]++(ia nv++
   (jW o S ((pf+10+2*nv+eC f.body:Nat):Int) f.body (pf+9+2*nv)++([q3 1 1 0 0,q3 1 14 13 0]++(j7 13++(j7 15++ [qi 16 12 12 4294967295,qi 27 0 15 0]))))))))):=by
   rw [hnv,ho];exact hcf
  obtain⟨hA,hcf'⟩:=hcf'.app;obtain⟨hP15,hcf'⟩:=hcf'.app;obtain⟨hP13,hcf'⟩:=hcf'.app;obtain⟨hAdd,hcf'⟩:=hcf'.app;obtain⟨hP0,hcf'⟩:=hcf'.app;obtain⟨hBody,hcf'⟩:=hcf'.app;obtain⟨hR,hcf'⟩:=hcf'.app;obtain⟨hQ13,hcf'⟩:=hcf'.app;obtain⟨hQ15,hEnd⟩:=hcf'.app;simp only [jk,eo,eB,j7,List.length_cons,List.length_nil,Nat.zero_add,Nat.reduceAdd]at hP15 hP13 hAdd hP0 hBody hR hQ13 hQ15 hEnd;have hpc0:c.pc=pf:=by rw [hpc,hpf];rfl
  have hdc:(d:Int)≤12:=by omega
  have hstart:Go code 3 c fun c3=>c3.pc=(if d=12 then pf+3 else pf+4)∧St ((d:Int)+1) F sp c3∧c3.r 15=gO q∧pSm c3 s∧c3.m=c.m:=by
   refine iN hpc0 hA.head.1 (v:=(d:Int)+1) (by
    show some (wU (c.r 12+1))=_;rw [hst.d,ft (by omega)]) fun c1 e1 e2 e3 e4 e5=> ?_
   refine iN e1 hA.head.2.head.1 (v:=12) (by
    show some (wU (c1.r 0+12))=_;rw [e2,ca (by decide),hst.z];rfl) fun c2 f1 f2 f3 f4 f5=> ?_
   refine GW (d:=2) (a:=12) (x:=2) (by rw [f1];exact hA.head.2.head.2.head.1) (Go.done (by decide) ⟨?_,⟨?_,?_,?_,?_⟩,?_,⟨fun i hi=> ?_,(f4.trans e4).trans hsm.i,(f5.trans e5).trans hsm.o⟩,f3.trans e3⟩)
   ·show(if c2.r 2≥c2.r 12 then _ else c2.pc+1)=_;rw [f2,db (by decide),ca (by decide),e2,db (by decide),f1];by_cases h12:d=12
    ·rw [if_neg (by omega),if_pos h12]
    ·rw [if_pos (by omega),if_neg h12];exact lA (by rw [show((pf+4:Nat):Int)-((pf+1+1:Nat):Int)=2 by omega];rfl) (by omega) (by omega)
   ·show c2.r 0=0;rw [f2,ca (by decide),e2,ca (by decide)];exact hst.z
   ·show c2.r 12=_;rw [f2,ca (by decide),e2,db (by decide)]
   ·show c2.r 13=_;rw [f2,ca (by decide),e2,ca (by decide)];exact hst.f
   ·show c2.r 14=_;rw [f2,ca (by decide),e2,ca (by decide)];exact hst.s
   ·show c2.r 15=_;rw [f2,ca (by decide),e2,ca (by decide)];exact h15
   ·show c2.m _=_;rw [f3,e3];exact hsm.m i hi
  by_cases h12:d=12
  ·rw [if_pos h12]at h hstart;cases h;exact fun _=>hstart.weak (fun c3 ⟨e1,_⟩=>by unfold Bk;rw [e1];exact hA.head.2.head.2.head.2.head.1) (by omega)
  rw [if_neg h12]at h hstart;have hlo1:lo d=lo (d+1)+256:=by unfold lo;omega
  have hlo2:=ss (d:=d+1) (by omega)
  -- the frame
  have hframe:Go code (8+2*(nv:Int)) c fun c'=>c'.pc=pf+9+2*nv∧Pr o N (dD [] f.ps al) (d+1) (sp-8) (sp-8-4*(nv:Int)) s c'∧c'.m (sp-8)=F∧c'.m (sp-4)=gO q∧∀a,sp≤a→c'.m a=c.m a:=by
   refine hstart.seq (m:=5+2*(nv:Int)) (fun c3 ⟨e1,e2,e3,e4,e5⟩=> ?_) (by omega);refine(kK hP15 e1 e2 (by decide) ⟨by omega,by omega,ha⟩).seq (m:=3+2*(nv:Int)) (fun c4 ⟨f1,f2,f3,f4,f5,f6⟩=> ?_) (by omega);refine(kK hP13 f1 f2 (by decide) ⟨by omega,by omega,by omega⟩).seq (m:=1+2*(nv:Int)) (fun c5 ⟨g1,g2,g3,g4,g5,g6⟩=> ?_) (by omega);refine iq g1 hAdd.head.1 (v:=sp-8) (by
    show some (wU (c5.r 14+c5.r 0))=_;rw [g2.s,g2.z,ft (by omega)];exact congrArg some (by omega)) fun c6 i1 i2 i3 i4 i5=> ?_
   have hst6:St ((d:Int)+1) (sp-8) (sp-8) c6:=⟨by rw [i2,ca (by decide)];exact g2.z,by rw [i2,ca (by decide)];exact g2.d,by rw [i2];exact db (by decide),by rw [i2,ca (by decide),g2.s];omega⟩
   have hsm6:pSm c6 s:=by
    have h5:=(e4.push f3 f4 f5 (by omega)).push g3 g4 g5 (by omega);exact⟨fun i hi=>by rw [i3];exact h5.m i hi,i4.trans h5.i,i5.trans h5.o⟩
   have hm8:c6.m (sp-8)=F:=by
    rw [i3,g3,show sp-8=sp-4-4 by omega,oh,f6 13 (by decide)];exact e2.f
   have hm4:c6.m (sp-4)=gO q:=by
    rw [i3,g3,jb (by omega),f3,oh];exact e3
   have hmh:∀a,sp≤a→c6.m a=c.m a:=fun a ha=>by rw [i3,g3,jb (by omega),f3,jb (by omega),e5]
   refine(vk nv (p:=pf+9) (s:=s) hP0 i1 hst6 (by omega) (by omega) (by omega) hsm6).weak (fun c7 ⟨j1,j2,j3,j4,j5⟩=>⟨j1,⟨by rw [show(((d+1:Nat):Int))=(d:Int)+1 by omega];exact j2,⟨fun x hx=> ?_,fun x hx y hy e=> ?_⟩,fun x hx=> ?_,j3,hok,?_,⟨by omega,by omega⟩,hfu,⟨by omega,by omega⟩⟩,by rw [j4 _ (Int.le_refl _)];exact hm8,by rw [j4 _ (by omega)];exact hm4,fun a ha=>by rw [j4 a (by omega)];exact hmh a ha⟩) (by omega)
   ·rcases hoff x hx with⟨i,hi,he⟩|⟨_,j,hj1,hj2,he⟩
    ·obtain⟨hil,-⟩:=List.getElem?_eq_some_iff.1 hi;have:va o (sp-8) x=sp+4*((f.ps.length:Int)-1-i):=by unfold va;rw [he,ft (by omega)];omega
     rw [this];exact⟨⟨by omega,by omega,by omega⟩,by omega⟩
    ·have:va o (sp-8) x=sp-8-4*(j:Int):=by unfold va;rw [he,n8,n8];omega
     rw [this];exact⟨⟨by omega,by omega,by omega⟩,by omega⟩
   ·refine hinj x hx y hy ?_;unfold va at e;rcases hoff x hx with⟨i,hi,he⟩|⟨_,j,hj1,hj2,he⟩<;>rcases hoff y hy with⟨i',hi',he'⟩|⟨_,j',hj1',hj2',he'⟩
    ·obtain⟨hil,-⟩:=List.getElem?_eq_some_iff.1 hi;obtain⟨hil',-⟩:=List.getElem?_eq_some_iff.1 hi';rw [he,he',n8,n8]at e;rw [he,he'];omega
    ·obtain⟨hil,-⟩:=List.getElem?_eq_some_iff.1 hi;rw [he,he',n8,n8,n8]at e;exfalso;omega
    ·obtain⟨hil',-⟩:=List.getElem?_eq_some_iff.1 hi';rw [he,he',n8,n8,n8]at e;exfalso;omega
    ·rw [he,he',n8,n8,n8,n8]at e;rw [he,he',n8,n8];omega
   ·rcases hoff x hx with⟨i,hi,he⟩|⟨hn,j,hj1,hj2,he⟩
    ·obtain⟨hil,-⟩:=List.getElem?_eq_some_iff.1 hi;have:va o (sp-8) x=sp+4*((f.ps.length:Int)-1-i):=by unfold va;rw [he,ft (by omega)];omega
     obtain⟨a,ha'⟩:∃a,al[i]?=some a:=⟨_,List.getElem?_eq_getElem (by omega)⟩
     rw [this,j4 _ (by omega),hmh _ (by omega),uK f.ps al [] i x a hN.nd hi ha',←hargs i a ha',hal]
    ·have:va o (sp-8) x=sp-8-4*(j:Int):=by unfold va;rw [he,n8,n8];omega
     rw [this,j5 j hj1 hj2,nu f.ps al [] x hn];rfl
   ·exact okVs.bind f.ps al (fun p hp=>by simp at hp) hao
  cases hb:fA g fs (d+1) (dD [] f.ps al) f.body s with
  | none=>rw [hb]at h;simp at h
  | some rb=>
   rw [hb]at h;have hB:∀c',(c'.pc=pf+9+2*nv∧Pr o N (dD [] f.ps al) (d+1) (sp-8) (sp-8-4*(nv:Int)) s c'∧c'.m (sp-8)=F∧c'.m (sp-4)=gO q∧∀a,sp≤a→c'.m a=c.m a)→
     SR code (pf+9+2*nv+eC f.body) (pf+10+2*nv+eC f.body) 50 0 o N (d+1) (sp-8) (sp-8-4*(nv:Int)) c' s rb:=fun c' ⟨e1,e2,_⟩=>
    ih.b g (Nat.lt_succ_self g) (d+1) _ f.body s rb hb o N (pf+9+2*nv) (pf+10+2*nv+eC f.body) (sp-8) (sp-8-4*(nv:Int)) c' hN.so hBody (by omega) (by omega) e1 e2 (by omega)
   cases rb with
   | err e=>cases h;exact fun he=>hframe.seq (fun c' hc'=>hB c' hc' he) (by omega)
   | ok qr s1=>
    obtain⟨vs1,qr⟩:=qr;cases h;have hf1:0≤s1.fuel:=by
     obtain⟨_,c2,_,_,hP⟩:=hframe;exact(hB c2 hP).1
    refine⟨hf1,hframe.seq (m:=100*(s.fuel-s1.fuel)+10) (fun c1 hc1=>(hB c1 hc1).2.seq (m:=9) (fun c2 ⟨e1,e2,e3,e4,e5⟩=> ?_) (by omega)) (by omega)⟩;obtain⟨k1,k2,k3,k4,k5⟩:=hc1;have hva:∀x∈N,∀a,(a=sp-8∨a=sp-4∨sp+4*(al.length:Int)≤a)→a≠va o (sp-8) x:=fun x hx a ha'=>by
     rcases hoff x hx with⟨i,hi,he⟩|⟨_,j,hj1,hj2,he⟩
     ·obtain⟨hil,-⟩:=List.getElem?_eq_some_iff.1 hi;unfold va;rw [he,ft (by omega)];omega
     ·unfold va;rw [he,n8,n8];omega
    have hm8:c2.m (sp-8)=F:=(e4 _ (by omega) fun x hx=>hva x hx _ (.inl J)).trans k3;have hm4:c2.m (sp-4)=gO q:=(e4 _ (by omega) fun x hx=>hva x hx _ (.inr (.inl J))).trans k4;have hmh:∀a,sp+4*(al.length:Int)≤a→c2.m a=c.m a:=fun a ha'=>(e4 _ (by omega) fun x hx=>hva x hx _ (.inr (.inr ha'))).trans (k5 a (by omega))
    have hend:Go code 1 c2 fun c3=>c3.pc=pf+10+2*nv+eC f.body∧c3.r 1=qr.getD 0∧St ((d:Int)+1) (sp-8) (sp-8-4*(nv:Int)) c3∧pSm c3 s1∧c3.m=c2.m:=by
     rw [show(((d+1:Nat):Int))=(d:Int)+1 by omega]at e1;cases qr with
     | some v=>exact Go.done (by decide) ⟨(e5.2 v rfl).1,(e5.2 v rfl).2,e1,e2,rfl⟩
     | none=>
      refine iq (e5.1 J) hR.head.1 (v:=0) (by
       show some (wU (c2.r 0+c2.r 0))=_;rw [e1.z];rfl) fun c3 g1 g2 g3 g4 g5=>Go.done (by decide) ⟨by rw [g1];omega,by rw [g2];exact db (by decide),e1.of fun k hk=>by rw [g2];exact ca (by omega),⟨fun i hi=>by rw [g3];exact e2.m i hi,g4.trans e2.i,g5.trans e2.o⟩,g3⟩
    refine hend.seq (m:=8) (fun c3 ⟨f1,f2,f3,f4,f5⟩=> ?_) (by decide);refine iq f1 (by
     have:=hR.head.2.head.1;rw [show pf+10+2*nv+eC f.body=pf+9+2*nv+eC f.body+1 by omega];exact this) (v:=sp-8) (by
     show some (wU (c3.r 13+c3.r 0))=_;rw [f3.f,f3.z,Int.add_zero,ft (by omega)]) fun c4 g1 g2 g3 g4 g5=> ?_
    have h14:c4.r 14=sp-8:=by rw [g2];exact db (by decide)
    refine(tG (r:=13) hQ13 (g1.trans (by omega)) h14 (by decide) ⟨by omega,by omega,by omega⟩).seq (m:=5) (fun c5 ⟨i1,i2,i3,i4⟩=> ?_) (by decide);refine(tG (sp:=sp-4) (r:=15) hQ15 (i1.trans (by omega)) (by rw [i3];omega) (by decide) ⟨by omega,by omega,by omega⟩).seq (m:=3) (fun c6 ⟨j1,j2,j3,j4⟩=> ?_) (by decide);have hm6:c6.m=c2.m:=by rw [j4.m,i4.m,g3,f5]
    have h13:c6.r 13=F:=by rw [j4.r 13 (by decide),i2,g3,f5];exact hm8
    have h15':c6.r 15=gO q:=by rw [j2,i4.m,g3,f5];exact hm4
    have h0:c6.r 0=0:=by rw [j4.r 0 (by decide),i4.r 0 (by decide),g2,ca (by decide)];exact f3.z
    have h1:c6.r 1=qr.getD 0:=by rw [j4.r 1 (by decide),i4.r 1 (by decide),g2,ca (by decide)];exact f2
    have h12':c6.r 12=(d:Int)+1:=by rw [j4.r 12 (by decide),i4.r 12 (by decide),g2,ca (by decide)];exact f3.d
    refine iN (p:=pf+15+2*nv+eC f.body) (j1.trans (by omega)) (by
     have:=hEnd.head.1;rw [show pf+15+2*nv+eC f.body=pf+4+2+2+1+2*nv+eC f.body+2+2+2 by omega];exact this) (v:=(d:Int)) (by
     show some (wU (c6.r 12+4294967295))=_;rw [h12',n8];exact congrArg some (by omega)) fun c7 l1 l2 l3 l4 l5=> ?_
    refine GV (d:=0) (a:=15) (x:=0) (by
     have:=hEnd.head.2.head.1;rw [l1,show pf+15+2*nv+eC f.body+1=pf+4+2+2+1+2*nv+eC f.body+2+2+2+1 by omega];exact this) (Go.done (by decide) ⟨?_,?_,⟨?_,?_,?_,?_⟩,⟨fun i hi=> ?_,?_,?_⟩,fun a ha'=> ?_⟩)
    ·show sd (wU (c7.r 15+0))=q;rw [l2,ca (by decide),h15'];exact Gg (by omega)
    ·show rp c7.r 0 (gO (c7.pc+1)) 1=_;rw [ca (by decide),l2,ca (by decide)];exact h1
    ·show rp c7.r 0 (gO (c7.pc+1)) 0=_;rw [CW,l2,ca (by decide)];exact h0
    ·show rp c7.r 0 (gO (c7.pc+1)) 12=_;rw [ca (by decide),l2,db (by decide)]
    ·show rp c7.r 0 (gO (c7.pc+1)) 13=_;rw [ca (by decide),l2,ca (by decide)];exact h13
    ·show rp c7.r 0 (gO (c7.pc+1)) 14=_;rw [ca (by decide),l2,ca (by decide),j3];omega
    ·show c7.m _=_;rw [l3,hm6,←f5];exact f4.m i hi
    ·exact(((l4.trans j4.i).trans i4.i).trans g4).trans f4.i
    ·exact(((l5.trans j4.o).trans i4.o).trans g5).trans f4.o
    ·show c7.m a=_;rw [l3,hm6];exact hmh a ha'
theorem Kw(hF:VF fs)(hC:CF code fs S)(g:Nat):HD code fs S g:=by
 induction g with
 | zero=>exact⟨⟨fun _ h=>absurd h (Nat.not_lt_zero _),fun _ h=>absurd h (Nat.not_lt_zero _),fun _ h=>absurd h (Nat.not_lt_zero _)⟩,fun _ h=>absurd h (Nat.not_lt_zero _),fun _ h=>absurd h (Nat.not_lt_zero _),fun _ h=>absurd h (Nat.not_lt_zero _)⟩
 | succ g ih=>
  have up:∀{T:Nat→Prop},(∀g'<g,T g')→T g→∀g'<g+1,T g':=fun{T} h1 h2 g' hg=>by
   rcases Nat.lt_or_eq_of_le (Nat.le_of_lt_succ hg)with h|h
   ·exact h1 g' h
   ·exact h▸h2
  exact⟨⟨up ih.x (GL hF hC.cp ih.toHA),up ih.k (GO hF ih.toHA),up ih.c (GR hF hC ih)⟩,up ih.b (GU hF ih),up ih.s (GN hF ih),up ih.w (GM hF ih)⟩
end
theorem kv{x:ByteArray}{l:List ByteArray}:bX x l=true↔x∈l:=by
 unfold bX;rw [List.any_eq_true];constructor
 ·rintro ⟨y,h1,h2⟩;have h2:x=y:=by simpa using h2
  exact h2▸h1
 ·exact fun h=>⟨x,h,by simp⟩
mutual
theorem Np{fs:List Tf}{ns N:List ByteArray}(hs:∀x∈ns,x∈N):∀t:Tx,eX fs ns t=0→eX fs N t=0
 | .mk k n nm v kids,h=>by
  obtain⟨h1,h2⟩:=bl.1 h;refine bl.2 ⟨?_,yu hs kids h2⟩;by_cases hk:k=2
  ·rw [if_pos hk]at h1 ⊢;by_cases hm:bX nm ns=true
   ·rw [if_pos (kv.2 (hs nm (kv.1 hm)))]
   ·rw [if_neg hm]at h1;exact absurd h1 (by decide)
  ·rw [if_neg hk]at h1 ⊢;exact h1
theorem yu{fs:List Tf}{ns N:List ByteArray}(hs:∀x∈ns,x∈N):∀l:List Tx,iA fs ns l=0→iA fs N l=0
 | [],_=>rfl
 | t::r,h=>by
  obtain⟨h1,h2⟩:=bl.1 h;exact bl.2 ⟨Np hs t h1,yu hs r h2⟩
end
theorem XO.list{fs:List Tf}{N:List ByteArray}:∀{l:List Tx},GXs l→oN l=true→iA fs N l=0→∀u∈l,XO fs N u
 | [],_,_,_,u,hu=>by simp at hu
 | t::r,hg,hr,he,u,hu=>by
  have hr2:(rX t&&oN r)=true:=hr;rw [Bool.and_eq_true]at hr2;obtain⟨e1,e2⟩:=bl.1 he;rcases List.mem_cons.1 hu with rfl|hu
  ·exact⟨hg.1,hr2.1,e1⟩
  ·exact XO.list hg.2 hr2.2 e2 u hu
theorem Ew:∀{l:List Tx}{t:Tx},t∈l→dX t≤fj l
 | [],t,h=>by simp at h
 | a::r,t,h=>by
  show dX t≤max (dX a) (fj r);rcases List.mem_cons.1 h with rfl|h
  ·omega
  ·have:=Ew h;omega
theorem yN(fs:List Tf)(ns:List ByteArray)(k:Int)(nm:ByteArray)(ve:SV)(es:List Tx)(vb:SV)(body:List Ty)(vl:SV)(els:List Ty):bY fs ns (.mk k nm ve es vb body vl els)=
  ((cq fs (cq fs (if k=1 then ns++ [nm]else ns) body).1 els).1,fst (if k=2 then(if bX nm ns=true then 0 else 21)else 0) (fst (iA fs ns es) (fst (if k=1 then(if bX nm ns=true then 22 else 0)else 0) (fst (cq fs (if k=1 then ns++ [nm]else ns) body).2 (cq fs (cq fs (if k=1 then ns++ [nm]else ns) body).1 els).2)))):=rfl
theorem uu(fs:List Tf)(ns:List ByteArray)(t:Ty)(r:List Ty):cq fs ns (t::r)=((cq fs (bY fs ns t).1 r).1,fst (bY fs ns t).2 (cq fs (bY fs ns t).1 r).2):=rfl
mutual
theorem E4{fs:List Tf}:∀(t:Ty)(ns:List ByteArray),∀x∈ns,x∈(bY fs ns t).1
 | .mk k nm ve es vb body vl els,ns,x,hx=>by
  rw [yN];refine jK els _ x (jK body _ x ?_);split
  ·exact List.mem_append_left _ hx
  ·exact hx
theorem jK{fs:List Tf}:∀(l:List Ty)(ns:List ByteArray),∀x∈ns,x∈(cq fs ns l).1
 | [],ns,x,hx=>hx
 | t::r,ns,x,hx=>by
  rw [uu];exact jK r _ x (E4 t ns x hx)
end
mutual
theorem Mk{fs:List Tf}:∀(t:Ty)(ns N:List ByteArray)(d:Nat),(∀x∈(bY fs ns t).1,x∈N)→GY t→rY t=true→(bY fs ns t).2=0→B2 d t=false→SO fs N t
 | .mk k nm ve es vb body vl els,ns,N,d,hN,hg,hr,he,hd=>by
  have hr2:(zy k nm es.length body.length els.length&&oN es&&ly body&&ly els)=true:=hr;simp only [Bool.and_eq_true]at hr2;obtain⟨⟨⟨h1,h2⟩,h3⟩,h4⟩:=hr2;have hd2:(decide (d>8) || decide (fj es>8) || cS (d+1) body || cS (d+1) els)=false:=hd;simp only [Bool.or_eq_false_iff,decide_eq_false_iff_not]at hd2;obtain⟨⟨⟨d1,d2⟩,d3⟩,d4⟩:=hd2;have hsub:=E4 (fs:=fs) (.mk k nm ve es vb body vl els) ns;rw [yN]at he hN;obtain⟨e1,he⟩:=bl.1 he;obtain⟨e2,he⟩:=bl.1 he;obtain⟨e3,he⟩:=bl.1 he;obtain⟨e4,e5⟩:=bl.1 he;have hns:∀x∈ns,x∈N:=fun x hx=>hN x (hsub x hx)
  refine⟨h1,fun u hu=>⟨XO.list hg.2.1.2 h2 (yu hns es e2) u hu,by have:=Ew hu;omega⟩,fun hk=> ?_,⟨hg.2.2.1.1,ti body _ N (d+1) (fun x hx=>hN x (jK els _ x hx)) hg.2.2.1.2 h3 e4 d3⟩,hg.2.2.2.1,ti els _ N (d+1) hN hg.2.2.2.2 h4 e5 d4⟩;by_cases hk1:k=1
  ·refine hN nm (jK els _ nm (jK body _ nm ?_));rw [if_pos hk1];exact List.mem_append_right _ (List.mem_singleton_self _)
  ·have hk2:k=2:=by omega
   rw [if_pos hk2]at e1;by_cases hm:bX nm ns=true
   ·exact hns nm (kv.1 hm)
   ·rw [if_neg hm]at e1;exact absurd e1 (by decide)
theorem ti{fs:List Tf}:∀(l:List Ty)(ns N:List ByteArray)(d:Nat),(∀x∈(cq fs ns l).1,x∈N)→GYs l→ly l=true→(cq fs ns l).2=0→cS d l=false→SOs fs N l
 | [],_,_,_,_,_,_,_,_=>trivial
 | t::r,ns,N,d,hN,hg,hr,he,hd=>by
  have hr2:(rY t&&ly r)=true:=hr;rw [Bool.and_eq_true]at hr2;have hd2:(B2 d t || cS d r)=false:=hd;rw [Bool.or_eq_false_iff]at hd2;rw [uu]at he hN;obtain⟨e1,e2⟩:=bl.1 he;exact⟨Mk t ns N d (fun x hx=>hN x (jK r _ x hx)) hg.1 hr2.1 e1 hd2.1,ti r _ N d hN hg.2 hr2.2 e2 hd2.2⟩
end
structure Jo(ps ns:List ByteArray)(o:Om)(n:Int)(vs:List ByteArray):Prop where
 ens:ns=ps++vs
 nd:ns.Nodup
 en:(vs.length:Int)=n
 p:∀(i:Nat) x,ps[i]?=some x→bs o x=8+4*((ps.length:Int)-1-i)
 v:∀(j:Nat) x,vs[j]?=some x→bs o x=wU (-(4*((j:Int)+1)))
theorem Jo.add{ps ns:List ByteArray}{o:Om}{n:Int}{vs:List ByteArray}{nm:ByteArray}(h:Jo ps ns o n vs)(hn:nm∉ns):Jo ps (ns++ [nm]) (dV o nm (wU (-(4*(n+1))))) (n+1) (vs++ [nm]):=by
 refine⟨by rw [h.ens,List.append_assoc],List.nodup_append.2 ⟨h.nd,by simp,fun a ha b hb e=> ?_⟩,by rw [List.length_append,List.length_singleton,←h.en];omega,fun i x hi=> ?_,fun j x hj=> ?_⟩
 ·rw [List.mem_singleton.1 hb]at e;exact hn (e▸ha)
 ·rw [fT,if_neg fun e=>hn (by rw [e,h.ens];exact List.mem_append_left _ (List.mem_of_getElem? hi))];exact h.p i x hi
 ·by_cases hl:j<vs.length
  ·rw [List.getElem?_append_left hl]at hj;rw [fT,if_neg fun e=>hn (by rw [e,h.ens];exact List.mem_append_right _ (List.mem_of_getElem? hj))];exact h.v j x hj
  ·rw [List.getElem?_append_right (by omega)]at hj;have:j=vs.length:=by
    have:=(List.getElem?_eq_some_iff.1 hj).1;simp at this;omega
   subst this;rw [Nat.sub_self]at hj;cases hj;rw [fT,if_pos J,h.en]
theorem yg(k:Int)(nm:ByteArray)(ve:SV)(es:List Tx)(vb:SV)(body:List Ty)(vl:SV)(els:List Ty)(p:Om×Int):gD (.mk k nm ve es vb body vl els) p=gDs els (gDs body (if k=1 then(dV p.1 nm (wU (-(4*(p.2+1)))),p.2+1)else p)):=rfl
mutual
theorem Qq{fs:List Tf}{ps:List ByteArray}:∀(t:Ty)(ns:List ByteArray)(p:Om×Int),(∃vs,Jo ps ns p.1 p.2 vs)→(bY fs ns t).2=0→∃vs,Jo ps (bY fs ns t).1 (gD t p).1 (gD t p).2 vs
 | .mk k nm ve es vb body vl els,ns,p,h,he=>by
  rw [yN]at he ⊢;obtain⟨e1,he⟩:=bl.1 he;obtain⟨e2,he⟩:=bl.1 he;obtain⟨e3,he⟩:=bl.1 he;obtain⟨e4,e5⟩:=bl.1 he;rw [yg];refine zK els _ _ (zK body _ _ ?_ e4) e5;by_cases hk:k=1
  ·rw [if_pos hk]at e3;rw [if_pos hk,if_pos hk];obtain⟨vs,hvs⟩:=h;refine⟨_,hvs.add fun hm=> ?_⟩;rw [if_pos (kv.2 hm)]at e3;exact absurd e3 (by decide)
  ·rw [if_neg hk,if_neg hk];exact h
theorem zK{fs:List Tf}{ps:List ByteArray}:∀(l:List Ty)(ns:List ByteArray)(p:Om×Int),(∃vs,Jo ps ns p.1 p.2 vs)→(cq fs ns l).2=0→∃vs,Jo ps (cq fs ns l).1 (gDs l p).1 (gDs l p).2 vs
 | [],ns,p,h,_=>h
 | t::r,ns,p,h,he=>by
  rw [uu]at he ⊢;obtain⟨e1,e2⟩:=bl.1 he;exact zK r _ _ (Qq t ns p h e1) e2
end
mutual
theorem KK:∀(t:Ty)(p:Om×Int),(gD t p).2=p.2+vY t
 | .mk k nm ve es vb body vl els,p=>by
  rw [yg,mW els,mW body,show vY (.mk k nm ve es vb body vl els)=(if k=1 then 1 else 0)+cD body+cD els from J];by_cases h:k=1
  ·rw [if_pos h,if_pos h];show p.2+1+_+_=_;omega
  ·rw [if_neg h,if_neg h];omega
theorem mW:∀(l:List Ty)(p:Om×Int),(gDs l p).2=p.2+cD l
 | [],p=>by show p.2=p.2+((0:Nat):Int);omega
 | t::r,p=>by
  show(gDs r (gD t p)).2=_;rw [mW r,KK t,show cD (t::r)=vY t+cD r from J];omega
end
theorem D7(n:Int):∀(l:List ByteArray)(k:Int)(o:Om),l.Nodup→(∀(i:Nat) x,l[i]?=some x→bs (gP n k l o) x=8+4*(n-1-(k+i)))∧∀x,x∉l→bs (gP n k l o) x=bs o x
 | [],k,o,_=>⟨fun i x h=>by simp at h,fun _ _=>rfl⟩
 | p::r,k,o,h=>by
  rw [List.nodup_cons]at h;obtain⟨i1,i2⟩:=D7 n r (k+1) (dV o p (8+4*(n-1-k))) h.2;refine⟨fun i x hi=> ?_,fun x hx=> ?_⟩
  ·cases i with
   | zero=>
    cases hi;show bs (gP n (k+1) r _) p=_;rw [i2 p h.1,fT,if_pos J];show 8+4*(n-1-k)=8+4*(n-1-(k+0));rw [Int.add_zero]
   | succ i=>
    have:=i1 i x hi;show bs (gP n (k+1) r _) x=_;rw [this];omega
  ·rw [List.mem_cons,not_or]at hx;show bs (gP n (k+1) r _) x=_;rw [i2 x hx.2,fT,if_neg fun e=>hx.1 e.symm]
theorem Ev:∀(l ns:List ByteArray),ns.Nodup→qM ns l=0→(ns++l).Nodup
 | [],ns,h,_=>by rw [List.append_nil];exact h
 | x::r,ns,h,he=>by
  obtain⟨e1,e2⟩:=bl.1 he;have hx:x∉ns:=fun hm=>by rw [if_pos (kv.2 hm)]at e1;exact absurd e1 (by decide)
  have:=Ev r (ns++ [x]) (List.nodup_append.2 ⟨h,by simp,fun a ha b hb e=>hx (by rw [List.mem_singleton.1 hb]at e;exact e▸ha)⟩) e2;rw [List.append_assoc]at this;exact this
theorem Nh{fs:List Tf}{f:Tf}(hg:GF f)(hr:ly f.body=true)(h:jI fs f=0):pFO fs f (cq fs f.ps f.body).1:=by
 obtain⟨h1,h2⟩:=bl.1 h;obtain⟨h3,h4⟩:=bl.1 h2;have hb:¬(f.ps.length>4∨f.ps.length+cD f.body>12∨cl f.body>400∨cS 1 f.body=true):=fun hb=>by
  rw [if_pos hb]at h1;exact absurd h1 (by decide)
 simp only [not_or,Bool.not_eq_true]at hb;obtain⟨b1,b2,b3,b4⟩:=hb;have hnd:f.ps.Nodup:=by
  have:=Ev f.ps [] (by simp) h3;exact this
 have hj0:Jo f.ps f.ps (gP f.ps.length 0 f.ps []) 0 []:=⟨by rw [List.append_nil],hnd,rfl,fun i x hi=>by
  rw [(D7 f.ps.length f.ps 0 [] hnd).1 i x hi,Int.zero_add],fun j x hj=>by simp at hj⟩
 obtain⟨vs,hj⟩:=zK (fs:=fs) f.body f.ps (gP f.ps.length 0 f.ps [],0) ⟨[],hj0⟩ h4;have hgo:cI f=gDs f.body (gP f.ps.length 0 f.ps [],0):=J;have hnv:(cI f).2=(cD f.body:Int):=by rw [hgo,mW];omega
 rw [←hgo]at hj;have hvl:=hj.en;have hns:=hj.ens;have hndN:=hj.nd;have off:∀x∈(cq fs f.ps f.body).1,(∃i:Nat,f.ps[i]?=some x∧bs (cI f).1 x=8+4*((f.ps.length:Int)-1-i))∨(x∉f.ps∧∃j:Nat,1≤j∧j≤(cI f).2.toNat∧bs (cI f).1 x=wU (-(4*(j:Int)))∧vs[j-1]?=some x):=fun x hx=>by
  rw [hns]at hx;by_cases hp:x∈f.ps
  ·obtain⟨i,hi⟩:=List.getElem?_of_mem hp;exact .inl ⟨i,hi,hj.p i x hi⟩
  ·rcases List.mem_append.1 hx with hx|hx
   ·exact absurd hx hp
   ·obtain⟨j,hjx⟩:=List.getElem?_of_mem hx;have hl:=(List.getElem?_eq_some_iff.1 hjx).1;refine .inr ⟨hp,j+1,by omega,by omega,?_,hjx⟩;rw [hj.v j x hjx];rfl
 refine⟨ti f.body f.ps _ 1 (fun _ h=>h) hg.2.2.2.2.1 hr h4 b4,by omega,by omega,hnd,fun x hx=> ?_,fun x hx y hy e=> ?_⟩
 ·rcases off x hx with h|⟨h1,j,h2,h3,h4,_⟩
  ·exact .inl h
  ·exact .inr ⟨h1,j,h2,h3,h4⟩
 ·rcases off x hx with⟨i,hi,he⟩|⟨_,j,hj1,hj2,he,hv⟩<;>rcases off y hy with⟨i',hi',he'⟩|⟨_,j',hj1',hj2',he',hv'⟩
  ·have:i=i':=by rw [he,he']at e;omega
   subst this;exact Option.some.inj (hi.symm.trans hi')
  ·have hl:=(List.getElem?_eq_some_iff.1 hi).1;rw [he,he',n8]at e;exfalso;omega
  ·have hl:=(List.getElem?_eq_some_iff.1 hi').1;rw [he,he',n8]at e;exfalso;omega
  ·have:j=j':=by rw [he,he',n8,n8]at e;omega
   subst this;exact Option.some.inj (hv.symm.trans hv')
theorem zx{fs:List Tf}(h:∀(i:Nat)(f:Tf),fs[i]?=some f→qD fs f.name=(i:Int)):(fs.map Tf.name).Nodup:=by
 refine List.pairwise_iff_getElem.2 fun i j hi hj hij e=> ?_
 rw [List.getElem_map,List.getElem_map]at e;have hil:i<fs.length:=by simpa using hi
 have hjl:j<fs.length:=by simpa using hj
 have h1:=h i fs[i] (List.getElem?_eq_getElem hil);have h2:=h j fs[j] (List.getElem?_eq_getElem hjl);rw [e]at h1;omega
theorem B8{S:ByteArray→Int}{code:List Qi}:∀(l:List Tf)(p:Nat),cAt code p (B9 S l p)→p+w_ l≤1984→∀x f,ce l x=some f→∃q:Nat,gq l p x=(q:Int)∧cAt code q (zF S f q)∧q+wF f≤1984
 | [],p,_,_,x,f,hf=>by simp [ce]at hf
 | a::r,p,hc,hl,x,f,hf=>by
  have hc':cAt code p (zF S a p++B9 S r (p+wF a)):=hc;have hw:w_ (a::r)=wF a+w_ r:=J;obtain⟨h1,h2⟩:=hc'.app;rw [w4]at h2;unfold gq;unfold ce at hf;rw [List.find?_cons]at hf;by_cases hn:a.name=x
  ·rw [decide_eq_true hn]at hf;cases hf;rw [if_pos hn];exact⟨p,J,h1,by omega⟩
  ·rw [decide_eq_false hn]at hf;rw [if_neg hn];exact B8 r (p+wF a) h2 (by omega) x f hf
theorem NB{fs:List Tf}{f:Tf}(hg:GP fs)(h:Fine fs f)(hr:∀f∈fs,ly f.body=true)(hl:(iF fs).length≤1984):CF (iF fs) fs (gq fs 3):=by
 have hle:(iF fs).length=3+w_ fs:=by
  unfold iF;rw [List.length_append,oF];rfl
 refine⟨fun x g hx=>B8 fs 3 ?_ (by omega) x g hx,fun x g hx=> ?_⟩
 ·have:=cAt.of (a:= [qi 16 14 0 16384,qi 40 15 0 (wU (gq fs 3 cx-1)),⟨48,0,0,0,0⟩]) (l:=B9 (gq fs 3) fs 3) (b:= []);rw [List.append_nil]at this;exact this
 ·have hm:=fP hx;exact⟨_,Nh (hg.2 g hm) (hr g hm) (h.each g hm)⟩
def Si(code:List Qi)(c:Qs)(fuel:Int):Re Int→Prop
 | .ok v s1=>0≤s1.fuel∧Go code (100*(fuel-s1.fuel)+50) c fun c'=>code[c'.pc]?=some ⟨48,0,0,0,0⟩∧c'.out=s1.out∧∀i:Nat,i<256→c'.m (8192+4*(i:Int))=s1.mem i
 | .err e=>e=26→Go code (100*fuel+150) c (Bk code)
theorem Gd{fs:List Tf}{f:Tf}{ins:List Int}{fuel:Int}{g:Nat}{r:Re Int}(hg:GP fs)(h:Fine fs f)(hr:∀f∈fs,ly f.body=true)(hl:(iF fs).length≤1984)(hi:∀x∈ins,oW x)(hf0:0≤fuel)(hf:fuel≤1000000000000)
  (he:jS g fs 0 f [] (zG ins fuel)=some r):Si (iF fs) ⟨0,fun _=>0,fun _=>0,ins,[]⟩ fuel r:=by
 have hC:=NB hg h hr hl;obtain⟨pm,hpm,hcm,hlm⟩:=hC.fn _ _ h.main;have hc:cAt (iF fs) 0 (iF fs):=fun j i hj=>by rw [Nat.zero_add];exact hj
 have hc':cAt (iF fs) 0 ([qi 16 14 0 16384,qi 40 15 0 (wU (gq fs 3 cx-1)),⟨48,0,0,0,0⟩]++B9 (gq fs 3) fs 3):=hc;have h3:=hc'.app.1;have hfn:=qF h.main;have hs:Go (iF fs) 2 ⟨0,fun _=>0,fun _=>0,ins,[]⟩ fun c=>c.pc=pm∧c.r 15=gO 2∧St ((0:Nat):Int) 0 16384 c∧pSm c (zG ins fuel):=by
  refine iN (c:=⟨0,fun _=>0,fun _=>0,ins,[]⟩) (p:=0) J h3.head.1 (v:=16384) J fun c1 e1 e2 e3 e4 e5=> ?_
  refine qp (d:=15) (a:=0) (x:=wU (gq fs 3 cx-1)) (by rw [e1];exact h3.head.2.head.1) (Go.done (by decide) ⟨?_,?_,⟨?_,?_,?_,?_⟩,⟨fun i _=> ?_,e4,e5⟩⟩)
  ·show sd (wU (gO c1.pc+_))=pm;rw [e1,hpm];exact lA J (by omega) (by omega)
  ·show rp c1.r 15 (gO (c1.pc+1)) 15=_;rw [db (by decide),e1]
  ·show rp c1.r 15 (gO (c1.pc+1)) 0=0;rw [ca (by decide),e2];rfl
  ·show rp c1.r 15 (gO (c1.pc+1)) 12=_;rw [ca (by decide),e2];rfl
  ·show rp c1.r 15 (gO (c1.pc+1)) 13=0;rw [ca (by decide),e2];rfl
  ·show rp c1.r 15 (gO (c1.pc+1)) 14=16384;rw [ca (by decide),e2];rfl
  ·show c1.m _=0;rw [e3]
 have hR:∀c,(c.pc=pm∧c.r 15=gO 2∧St ((0:Nat):Int) 0 16384 c∧pSm c (zG ins fuel))→CR (iF fs) 2 0 0 16384 0 c (zG ins fuel) r:=fun c ⟨e1,e2,e3,e4⟩=>
  (Kw h.vf hC (g+1)).c g (Nat.lt_succ_self g) 0 f [] (zG ins fuel) r he 0 16384 c 2 (by rw [hfn];exact h.main) (by rw [h.noP];rfl) (by simp) (by rw [hfn,hpm];exact e1) e2 (by decide) e3 e4 (xR hi hf) hf0 rfl (by decide) (by decide) (by decide) (fun i x hi=>by simp at hi)
 cases r with
 | err e=>exact fun h26=>hs.seq (fun c hc=>hR c hc h26) (by show 2+(100*fuel+100)≤_;omega)
 | ok v s1=>
  have hf1:0≤s1.fuel:=by
   obtain⟨_,c2,_,_,hP⟩:=hs;exact(hR c2 hP).1
  refine⟨hf1,hs.seq (fun c hc=>(hR c hc).2.weak (fun c' ⟨e1,e2,e3,e4,e5⟩=>⟨?_,e4.o,e4.m⟩) (Int.le_refl _)) (by show 2+(100*(fuel-s1.fuel)+45)≤_;omega)⟩;rw [e1];exact h3.head.2.head.2.head.1
structure Msc(code:List Qi)(s:Mm):Prop where
 hs:MO s 64
 hb:byL s.d
 rt:∀p:Nat,p<64→s.r.getD p 0=uA p
 im:∀(k:Nat)(i:Qi),code[k]?=some i→∀j:Nat,j<4→s.i[256+4*k+j]?=(ep (lC i))[j]?
 len:code.length≤1984
 va:∀(k:Nat)(i:Qi),code[k]?=some i→VQ i∧0≤i.imm∧i.imm<4294967296
structure Sim(code:List Qi)(c:Qs)(x:Int)(s:Mm):Prop where
 k:Msc code s
 mem:∀a,zB a→zJ s.d a.toNat=c.m a
 h0:c.r 0=0
 hr:∀k,0≤c.r k∧c.r k<4294967296
 pc:c.pc<1984→x=gO c.pc
 xb:0≤x∧x<4294967296
 hi:∀v∈c.inp,0≤v∧v<4294967296
theorem Mt{p:Nat}(h:0<p∧p<32):uA p/4%2=1:=by
 unfold uA;rw [if_neg (by omega),if_pos (by omega)];rfl
theorem JH{p:Nat}(h:32≤p):uA p=3:=by
 unfold uA;rw [if_pos h]
theorem Sim.pcl{code:List Qi}{c:Qs}{x:Int}{s:Mm}(h:Sim code c x s){i:Qi}(hc:code[c.pc]?=some i):c.pc<1984∧x=256+4*(c.pc:Int):=by
 obtain⟨h1,-⟩:=List.getElem?_eq_some_iff.1 hc;have:=h.k.len;exact⟨by omega,h.pc (by omega)⟩
theorem Sim.stx{code:List Qi}{c:Qs}{x:Int}{s:Mm}(h:Sim code c x s){i:Qi}(hc:code[c.pc]?=some i){st:Int}(hst:0≤st∧st<1000000000000000):Stx s i x c.r st:=by
 obtain⟨h1,h2⟩:=h.pcl hc;obtain⟨hv,him⟩:=h.k.va _ _ hc;have hl:=h.k.hs.d;refine⟨⟨him,hv,⟨by omega,by omega⟩,by omega,fun k h3 h4=> ?_,fun k hk=> ?_⟩,by omega,h.h0,h.hr,hst⟩
 ·unfold wR;rw [show((x+k)/256).toNat=(x+k).toNat/256 by omega,h.k.rt _ (by omega),Mt (by omega),decide_eq_true (by omega)];rfl
 ·rw [show x.toNat+k=256+4*c.pc+k by omega];exact h.k.im _ _ hc k hk
theorem zh{code:List Qi}{s:Mm}(h:Msc code s){a:Int}(ha:zB a){q:Int}(hq:q=1∨q=2):∀k:Int,0≤k→k<4→wR s (IntKind.u32.wrap (a+k)) q=true:=fun k h1 h2=>by
 obtain⟨ha1,ha2,ha3⟩:=ha;have hl:=h.hs.d;rw [bC (by omega) (by omega)];unfold wR;rw [show((a+k)/256).toNat=(a+k).toNat/256 by omega,h.rt _ (by omega),JH (by omega),decide_eq_true (by omega)];rcases hq with rfl|rfl<;>rfl
theorem mT{d:List Int}{a k:Nat}{l:List Int}(h:a+l.length≤d.length):(pk d a l).getD k 0=if a≤k∧k<a+l.length then l.getD (k-a) 0 else d.getD k 0:=by
 rw [List.getD_eq_getElem?_getD,nJ];by_cases h1:a≤k∧k<a+l.length
 ·rw [if_pos h1,if_pos ⟨h1.1,h1.2,by omega⟩,List.getD_eq_getElem?_getD]
 ·rw [if_neg h1,if_neg (fun h2=>h1 ⟨h2.1,h2.2.1⟩),List.getD_eq_getElem?_getD]
theorem tT(d:List Int)(a:Nat):zJ d a=((((0:Int)*256+d.getD (a+3) 0)*256+d.getD (a+2) 0)*256+d.getD (a+1) 0)*256+d.getD (a+0) 0:=rfl
theorem Kq{d:List Int}{a b:Nat}{v:Int}(hv:0≤v∧v<4294967296)(ha:a+4≤d.length)(h4:a%4=0∧b%4=0):zJ (pk d a (ep v)) b=if b=a then v else zJ d b:=by
 have hl:(ep v).length=4:=J;rw [tT,mT (by omega),mT (by omega),mT (by omega),mT (by omega),hl];by_cases h:b=a
 ·subst h;rw [if_pos (by omega),if_pos (by omega),if_pos (by omega),if_pos (by omega),if_pos J,show b+3-b=3 by omega,show b+2-b=2 by omega,show b+1-b=1 by omega,show b+0-b=0 by omega];show(((0*256+v/16777216%256)*256+v/65536%256)*256+v/256%256)*256+v%256=v;omega
 ·rw [if_neg (by omega),if_neg (by omega),if_neg (by omega),if_neg (by omega),if_neg h,tT]
theorem EY{d:List Int}{a:Nat}:∀{l:List Int},byL d→byL l→byL (pk d a l):=fun{l} h1 h2 x hx=>by
 obtain⟨k,hk⟩:=List.getElem?_of_mem hx;rw [nJ]at hk;split at hk
 ·exact h2 x (List.mem_of_getElem? hk)
 ·exact h1 x (List.mem_of_getElem? hk)
theorem EX(v:Int):byL (ep v):=fun x hx=>by
 have:x=v%256∨x=v/256%256∨x=v/65536%256∨x=v/16777216%256:=by
  simpa [ep]using hx
 omega
theorem Dg(o:BinOp)(ho:o= .and∨o= .or∨o= .xor)(a b:Int):oW (bits o .u32 a b):=by
 rcases ho with rfl|rfl|rfl<;>exact ka _
theorem OO{op a b v:Int}(h:wJ op a b=some v)(ha:0≤a∧a<4294967296)(hb:0≤b∧b<4294967296):0≤v∧v<4294967296:=by
 have key:∀z:Int,some (wU z)=some v→0≤v∧v<4294967296:=fun z hz=>by injection hz with hz;subst hz;exact ka z
 unfold wJ at h;split at h
 ·exact key _ h
 split at h
 ·exact key _ h
 split at h
 ·injection h with h;subst h;exact Dg _ (by simp) _ _
 split at h
 ·injection h with h;subst h;exact Dg _ (by simp) _ _
 split at h
 ·injection h with h;subst h;exact Dg _ (by simp) _ _
 split at h
 ·exact key _ h
 split at h
 ·injection h with h;subst h;have h2:(0:Int)<2^(b%32).toNat:=Int.pow_pos (by decide);exact⟨Int.ediv_nonneg ha.1 (by omega),Int.lt_of_le_of_lt (Int.ediv_le_self _ ha.1) ha.2⟩
 split at h
 ·exact key _ h
 split at h
 ·split at h
  ·cases h
  ·injection h with h;subst h;exact⟨Int.ediv_nonneg ha.1 hb.1,Int.lt_of_le_of_lt (Int.ediv_le_self _ ha.1) ha.2⟩
 split at h
 ·injection h with h;subst h;unfold tr;split<;>decide
 ·cases h
theorem sb{r:Int→Int}{d v:Int}(h:r 0=0):rp r d v 0=0:=by
 unfold rp;rw [if_neg (fun h2=>h2.2 h2.1.symm)];exact h
theorem Be{r:Int→Int}{d v:Int}(h:∀k,0≤r k∧r k<4294967296)(hv:0≤v∧v<4294967296)(k:Int):0≤rp r d v k∧rp r d v k<4294967296:=by
 unfold rp;split
 ·exact hv
 ·exact h k
theorem zp{y:Int}(h:sd y<1984):256≤y∧y%4=0∧y=gO (sd y):=by
 unfold sd at h ⊢;by_cases h2:256≤y∧y%4=0
 ·rw [if_pos h2]at h ⊢;unfold gO;omega
 ·rw [if_neg h2]at h;omega
theorem Sim.to{code:List Qi}{c:Qs}{x:Int}{s:Mm}(h:Sim code c x s){p:Nat}{r:Int→Int}{x1:Int}(h0:r 0=0)(hr:∀k,0≤r k∧r k<4294967296)(hp:p<1984→x1=gO p)(hx:0≤x1∧x1<4294967296):
  Sim code {c with pc:=p,r:=r} x1 s:=⟨h.k,h.mem,h0,hr,hp,hx,h.hi⟩
def Fb(e:Me)(x:Int)(r:Int→Int)(st:Int)(s:Mm)(x1:Int)(r1:Int→Int)(st1 t y:Int)(s1:Mm):Prop:=
 Spec Tryz.prog 115 [.agg (sR x r st).toArray,.pointer (some ⟨e.m,0,none⟩)] [aY e.m 157 (mR e),own 5 1 bQ (sv e.vd) s.d,own 5 1 bQ (sv e.vi) s.i,own 3 1 eI (sv e.vr) s.r] [] (X:=Unit) (fun _=>True) (fun _=> .agg (oC x1 r1 st1 t y).toArray) (fun _=> [aY e.m 157 (mR e),own 5 1 bQ (sv e.vd) s1.d,own 5 1 bQ (sv e.vi) s1.i,own 3 1 eI (sv e.vr) s1.r]) (fun _=> [])
theorem Sim.step(e:Me){code:List Qi}{c c1:Qs}{x:Int}{s:Mm}(h:Sim code c x s){i:Qi}(hc:code[c.pc]?=some i)(h1:uz i c=some c1)(ho:i.op≠48){st:Int}(hst:0≤st∧st<1000000000000000):
  ∃x1 s1,Sim code c1 x1 s1∧c1.inp=c.inp∧c1.out=c.out∧Fb e x c.r st s x1 c1.r (st+1) 0 0 s1:=by
 have hx:=h.stx hc hst;obtain⟨hp1,hp2⟩:=h.pcl hc;have hpx:x=gO c.pc:=hp2;have hx4:0≤x+4∧x+4<4294967296:=by omega
 have hn:c.pc+1<1984→x+4=gO (c.pc+1):=fun _=>by unfold gO;omega
 have hn2:x+4=gO (c.pc+1):=by unfold gO;omega
 unfold uz at h1;cases hu:wJ i.op (c.r i.a) (if i.op<16 then c.r i.b else i.imm)with
 | some v=>
  rw [hu]at h1;injection h1 with h1;subst h1;exact⟨x+4,s,h.to (sb h.h0) (Be h.hr (OO hu (h.hr _) (by split;exact h.hr _;exact(h.k.va _ _ hc).2))) hn hx4,J,J,CD e s 64 h.k.hs i x c.r st hx v hu⟩
 | none=>
  rw [hu]at h1;dsimp only at h1;by_cases o1:i.op=23
  ·rw [if_pos o1]at h1;by_cases ha:zB (wU (c.r i.a+i.imm))
   ·rw [if_pos ha]at h1;injection h1 with h1;subst h1;have hl:=h.k.hs.d;have h4:wU (c.r i.a+i.imm)+4≤s.d.length:=by obtain⟨ha1,ha2,ha3⟩:=ha;omega
    have hb:=xY h.k.hb (wU (c.r i.a+i.imm)).toNat 4;have hm:=h.mem _ ha;refine⟨x+4,s,h.to (sb h.h0) (Be h.hr ?_) hn hx4,J,J,?_⟩
    ·rw [←hm];have h256:(256:Int)^4=4294967296:=by decide
     exact⟨hb.1,by unfold zJ;omega⟩
    ·have:=Cz e s 64 h.k.hs i x c.r st hx h.k.hb o1 h4 (zh h.k ha (Or.inl J));rw [hm]at this;exact this
   ·rw [if_neg ha]at h1;cases h1
  rw [if_neg o1]at h1;by_cases o2:i.op=25
  ·rw [if_pos o2]at h1;by_cases ha:zB (wU (c.r i.a+i.imm))
   ·rw [if_pos ha]at h1;injection h1 with h1;subst h1;have hl:=h.k.hs.d;have ha':=ha;obtain⟨ha1,ha2,ha3⟩:=ha';have h4:wU (c.r i.a+i.imm)+4≤s.d.length:=by omega
    refine⟨x+4,{s with d:=pk s.d (wU (c.r i.a+i.imm)).toNat (ep (c.r i.d))},⟨⟨h.k.hs.dd (eq _ _ _),EY h.k.hb (EX _),h.k.rt,h.k.im,h.k.len,h.k.va⟩,fun a h2=> ?_,h.h0,h.hr,hn,hx4,h.hi⟩,J,J,Cx e s 64 h.k.hs i x c.r st hx o2 h4 (zh h.k ha (Or.inr J))⟩;have h3:=h2;obtain⟨h5,h6,h7⟩:=h3;show zJ (pk s.d _ _) a.toNat=mw c.m _ _ a;rw [Kq (h.hr _) (by omega) ⟨by omega,by omega⟩];unfold mw;by_cases h8:a=wU (c.r i.a+i.imm)
    ·rw [if_pos (by omega),if_pos h8]
    ·rw [if_neg (by omega),if_neg h8];exact h.mem a h2
   ·rw [if_neg ha]at h1;cases h1
  rw [if_neg o2]at h1;by_cases o3:i.op=27
  ·rw [if_pos o3]at h1;injection h1 with h1;subst h1;have hw:=ka (c.r i.a+i.imm);refine⟨wU (c.r i.a+i.imm)/4*4,s,h.to (sb h.h0) (Be h.hr (by rw [←hn2];exact hx4)) (fun hp=> ?_) (by omega),J,J,?_⟩
   ·obtain⟨q1,q2,q3⟩:=zp hp;rw [←q3];omega
   ·have:=A4 e s 64 h.k.hs i x c.r st hx o3;rw [hn2]at this;exact this
  rw [if_neg o3]at h1;by_cases o4:i.op=32
  ·rw [if_pos o4]at h1;injection h1 with h1;subst h1;have hw:=ka (x+4*i.imm);have:=CC e s 64 h.k.hs i x c.r st hx o4;by_cases hq:c.r i.d=c.r i.a
   ·rw [if_pos hq]at this ⊢;refine⟨wU (x+4*i.imm),s,h.to h.h0 h.hr (fun hp=> ?_) hw,J,J,this⟩;obtain⟨q1,q2,q3⟩:=zp hp;rw [←q3,hpx]
   ·rw [if_neg hq]at this ⊢;exact⟨x+4,s,h.to h.h0 h.hr hn hx4,J,J,this⟩
  rw [if_neg o4]at h1;by_cases o5:i.op=35
  ·rw [if_pos o5]at h1;injection h1 with h1;subst h1;have hw:=ka (x+4*i.imm);have:=A5 e s 64 h.k.hs i x c.r st hx o5;by_cases hq:c.r i.d≥c.r i.a
   ·rw [if_pos hq]at this ⊢;refine⟨wU (x+4*i.imm),s,h.to h.h0 h.hr (fun hp=> ?_) hw,J,J,this⟩;obtain⟨q1,q2,q3⟩:=zp hp;rw [←q3,hpx]
   ·rw [if_neg hq]at this ⊢;exact⟨x+4,s,h.to h.h0 h.hr hn hx4,J,J,this⟩
  rw [if_neg o5]at h1;by_cases o6:i.op=40
  ·rw [if_pos o6]at h1;injection h1 with h1;subst h1;have hw:=ka (x+4*i.imm);refine⟨wU (x+4*i.imm),s,h.to (sb h.h0) (Be h.hr (by rw [←hn2];exact hx4)) (fun hp=> ?_) hw,J,J,?_⟩
   ·obtain⟨q1,q2,q3⟩:=zp hp;rw [←q3,hpx]
   ·have:=CA e s 64 h.k.hs i x c.r st hx o6;rw [hn2]at this;exact this
  rw [if_neg o6]at h1;by_cases o7:i.op=41
  ·rw [if_pos o7]at h1;injection h1 with h1;subst h1;exact⟨x+4,s,h.to (sb h.h0) (Be h.hr (ka _)) hn hx4,J,J,Cy e s 64 h.k.hs i x c.r st hx o7⟩
  rw [if_neg o7,if_neg (fun h2=>ho h2.1),if_neg (fun h2=>ho h2.1)]at h1;cases h1
def oI(i:Qi):Int×Int:=if i.op=48 then(4,i.imm)else(3,0)
theorem Sim.trap(e:Me){code:List Qi}{c:Qs}{x:Int}{s:Mm}(h:Sim code c x s){i:Qi}(hc:code[c.pc]?=some i)(ho:i.op=48∨i.op=49){st:Int}(hst:0≤st∧st<1000000000000000):
  Fb e x c.r st s x c.r st (oI i).1 (oI i).2 s:=by
 have hx:=h.stx hc hst;by_cases h1:i.op=48
 ·rw [show oI i=(4,i.imm)from if_pos h1];exact Cw e s 64 h.k.hs i x c.r st hx h1
 ·rw [show oI i=(3,0)from if_neg h1];exact CB e s 64 h.k.hs i x c.r st hx (by omega)
def Ij(code:List Qi):Nat→Qs→Qs→Prop
 | 0,c,c'=>c=c'
 | n+1,c,c'=>∃i c1,code[c.pc]?=some i∧uz i c=some c1∧i.op≠48∧Ij code n c1 c'
theorem Sim.turn(e:Me){code:List Qi}{c c':Qs}{x:Int}{s:Mm}(h:Sim code c x s){n:Nat}(hn:Ij code n c c'){i:Qi}(hc:code[c'.pc]?=some i)(ho:i.op=48∨i.op=49){st:Int}(hst:0≤st∧st<1000000000000000):
  ∃x1 r1 st1 t y s1,Fb e x c.r st s x1 r1 st1 t y s1∧((t=0∧∃m c1,n=m+1∧r1=c1.r∧st1=st+1∧c1.inp=c.inp∧c1.out=c.out∧Sim code c1 x1 s1∧Ij code m c1 c')∨(t≠0∧n=0∧c=c'∧t=(oI i).1∧y=(oI i).2∧s1=s)):=by
 cases n with
 | zero=>
  have h2:c=c':=hn;subst h2;refine⟨x,c.r,st,(oI i).1,(oI i).2,s,h.trap e hc ho hst,.inr ⟨?_,J,J,J,J,J⟩⟩;unfold oI;split
  ·show(4:Int)≠0;decide
  ·show(3:Int)≠0;decide
 | succ m=>
  obtain⟨j,c1,h2,h3,h4,h5⟩:=hn;obtain⟨x1,s1,h6,h7,h8,h9⟩:=h.step e h2 h3 h4 hst;exact⟨x1,c1.r,st+1,0,0,s1,h9,.inl ⟨J,m,c1,J,J,J,h7,h8,h6,h5⟩⟩
structure Rl where
 x:Int
 s:Mm
 c:Qs
 m:Nat
 k:Nat
theorem Bd(e:Me)(cp:Nat){code:List Qi}{c c':Qs}{x:Int}{s:Mm}(h:Sim code c x s){n:Nat}(hn:Ij code n c c'){i:Qi}(hc:code[c'.pc]?=some i)(ho:i.op=48∨i.op=49)(st most:Int)(hst:0≤st∧st+n<1000000000000000)(hm:(n:Int)<most):
  Spec Tryz.prog 65 [.pointer (some ⟨cp,0,none⟩),.int .i64 most] [aY e.m 157 (mR e),own 5 1 bQ (sv e.vd) (s).d,own 5 1 bQ (sv e.vi) (s).i,own 3 1 eI (sv e.vr) (s).r,aY cp 93 (oq x c.r st e.m)] [] (X:=Int×Mm) (fun p=>Sim code c' p.1 p.2) (fun _=> .agg #[.int .i64 (oI i).1,.int .u32 (oI i).2]) (fun p=> [aY e.m 157 (mR e),own 5 1 bQ (sv e.vd) p.2.d,own 5 1 bQ (sv e.vi) p.2.i,own 3 1 eI (sv e.vr) p.2.r,aY cp 93 (oq p.1 c'.r (st+(n:Int)) e.m)]) (fun _=> []):=by
 refine aF Tryz.func65 J Tryz.ntmps65 J fun w0 M H=>tx 0 20 J J (tx 1 21 J J (tx 2 22 J J (tx 3 23 J J (tx 4 24 J J (ae (aa (aT wP J J fun b4=>ai (ae (aa (aj (ag J) J (ai ?_)))))))))))
 refine aB ?_;refine bk (X:=Rl) (fun p=>Sim code p.c p.x p.s∧Ij code p.m p.c c'∧p.m+p.k=n) (fun p=> [(0,.pointer (some ⟨cp,0,none⟩)),(1,.int .i64 most),(4,.pointer (some ⟨b4,0,none⟩)),(5,.int .i64 (p.k:Int))]) (fun p=> [(20,aY e.m 157 (mR e)),(21,own 5 1 bQ (sv e.vd) p.s.d),(22,own 5 1 bQ (sv e.vi) p.s.i),(23,own 3 1 eI (sv e.vr) p.s.r),(24,aY cp 93 (oq p.x p.c.r (st+(p.k:Int)) e.m)),(4,aY b4 53 [.int .i64 0,.int .u32 0])]) (fun p=> []) (fun p=>p.m) ⟨x,s,c,n,0⟩ ⟨h,hn,J⟩ J (by dsimp only;rw [show st+((0:Nat):Int)=st by omega];rfl) J (fun p hp=> ?_);obtain⟨hp1,hp2,hp3⟩:=hp;obtain⟨x1,r1,st1,t,y,s1,hS,hor⟩:=hp1.turn e hp2 hc ho (st:=st+(p.k:Int)) ⟨by omega,by omega⟩;refine aB (ae (ae ?_));refine bA [7,8,9,10,11,12,13,14,15,16,17,18,19,20,21,22,23,24,25] _ J (be (V:= [(0,7,_),(1,8,_),(2,9,_),(3,10,_),(4,11,_),(5,12,_),(6,13,_),(7,14,_),(8,15,_),(9,16,_),(10,17,_),(11,18,_),(12,19,_),(13,20,_),(14,21,_),(15,22,_),(16,23,_),(17,24,_),(18,25,_)]) [0,1,2,3,4,5,6,7,8,9,10,11,12,13,14,15,16,17,18] J J (ad (aD J (ac J)) (ad (aD J (aq J)) (ad (aD J (ah dy J)) (ad (aD J (ah t_ J)) (ad (aD J (ak t3 J J (ap (k:=24) J J))) (ad (aD J (am J J dL)) (ad (aD J (ac J)) (ad (cK [] J J J trivial (fun hg1=>ac J)) (ad (cK [(14,_)] J J J ⟨J,trivial⟩ (fun hg2=>aq J)) (ad (cK [(15,_)] J J J ⟨J,trivial⟩ (fun hg3=>ah dy J)) (ad (cK [(16,_)] J J J ⟨J,trivial⟩ (fun hg4=>ah gJ J)) (ad (cK [(17,_)] J J J ⟨J,trivial⟩ (fun hg5=>ak t3 J J (ap (k:=24) J J))) (ad (cK [] J J J trivial (fun hg6=>ac J)) (ad (cK [(19,_)] J J J ⟨J,trivial⟩ (fun hg7=>aq J)) (ad (cK [(20,_)] J J J ⟨J,trivial⟩ (fun hg8=>ah dy J)) (ad (cK [(21,_)] J J J ⟨J,trivial⟩ (fun hg9=>ah t_ J)) (ad (cK [(22,_)] J J J ⟨J,trivial⟩ (fun hg10=>ak t3 J J (ap (k:=24) J J))) (ad (cK [(18,_),(23,_)] J J J ⟨J,J,trivial⟩ (fun hg11=>am J J eV)) (ad (aD J (aM J J J (by first|exact ax|exact aC|rfl))) ay))))))))))))))))))) J J J ?_);refine ar J (fun h12=> ?_) (fun h12=> ?_)
 ·cases h12
 ·(try simp only [aV]at h12)
  refine az (ae (ae (aa (aj (ac J) J (aj (ac J) J (aj (am J J eV) J (ai (ar J (fun h13=> ?_) (fun h13=> ?_)))))))))
  ·(exfalso;have h0:=h13;revert h0;simp;omega)
  ·(try simp only [aV]at h13)
   refine az (ae ?_);refine bA [31,32,33,34,35,36,37,38,39,6] _ J (fS (V:= [(0,31,_),(1,32,_),(2,33,_),(3,34,_),(4,35,_),(5,36,_),(6,37,_),(7,38,_)]) [0,1,2,3,4,5,6,7] J J (ad (aD J (ac J)) (ad (aD J (aq J)) (ad (aD J (ah dy J)) (ad (aD J (aJ (us:=sR p.x p.c.r (st+(p.k:Int))) wO J J J (jd (k:=24) J J))) (ad (aD J (ac J)) (ad (aD J (aq J)) (ad (aD J (ah e8 J)) (ad (aD J (ak uO J J (ap (k:=24) J J))) ay)))))))) J [8,9] J J (dx (eu 8 [8,7,6,5,4,3,2,1,0] [] (fun _=> []) J J J J J J J J J (fun _ _=>J) J (bh (xs:= [.tmp 34,.tmp 38]) hS I9 [20,21,22,23] [] [20,21,22,23] J J J J J J J J (fun _ _=>J) (fun _ _ _=>J)) (fun _ _=>aZ [] 9 [9,8,7,6,5,4,3,2,1,0] [] (fun b6=> []) J J ay J J J J J J J J J J J (fun _ _=>J) J (dZ la J) (fun b6 _=>bB [] 10 [10,9,8,7,6,5,4,3,2,1,0] [] (fun _=> []) J J ay J J J J J J J J J (fun _ _=>J) J (bE (k:=6) la J J J J J J) (fun _ _=>be [] J J ay J J J ?_)))) (dx (eu 9 [9] [] (fun b6=> []) J J J J J J J J J (fun _ _=>J) J (dZ la J) (fun b6 _=>aZ [0,1,2,3,4,5,6,7] 8 [9,8,7,6,5,4,3,2,1,0] [] (fun _=> []) J J (ad (aD J (ac J)) (ad (aD J (aq J)) (ad (aD J (ah dy J)) (ad (aD J (aJ (us:=sR p.x p.c.r (st+(p.k:Int))) wO J J J (jd (k:=24) J J))) (ad (aD J (ac J)) (ad (aD J (aq J)) (ad (aD J (ah e8 J)) (ad (aD J (ak uO J J (ap (k:=24) J J))) ay)))))))) J J J J J J J J J J J (fun _ _=>J) J (bh (xs:= [.tmp 34,.tmp 38]) hS I9 [20,21,22,23] [] [20,21,22,23] J J J J J J J J (fun _ _=>J) (fun _ _ _=>J)) (fun _ _=>bB [] 10 [10,9,8,7,6,5,4,3,2,1,0] [] (fun _=> []) J J ay J J J J J J J J J (fun _ _=>J) J (bE (k:=6) la J J J J J J) (fun _ _=>be [] J J ay J J J ?_)))) ju)))
   ·refine ae (ae (aa (aj (ah o8 J) J (aj (dj lR J) J (aj (ak t3 J J (ap (k:=6) J J)) J (aj (am J J cW) J (ai (ar J (fun h14=> ?_) (fun h14=> ?_)))))))))
    ·(try simp only [aV]at h14)
     obtain⟨-,q2,q3,q4,q5,q6⟩:=hor.resolve_left (fun q=>h14 q.1);subst q6;obtain rfl:p.k=n:=by omega
     rw [←q4,←q5,←q3];refine ae (aa (aj (ah o8 J) J (aj (aJ (us:= [.int .i64 t,.int .u32 y]) wP J J J (jd (k:=6) J J)) J (av (k:=4) wP J J J J J J (ai (aw (aG (p.x,p.s) (q3▸hp1) J (bx (aW wP J J J (aR (k:=4) J))) J [20,21,22,23,24] [] J J J)))))))
    ·(try simp only [aV]at h14)
     obtain⟨q1,m1,c1,q2,q3,q4,qi,qo,q6,q7⟩:=hor.resolve_right (fun q=>q.1 h14);subst q3;subst q4;refine az (ae (aa (aj (ac J) J (aj (ah Ai J) J (aj (aJ (us:=sR x1 c1.r (st+(p.k:Int)+1)) wO J J J (jd (k:=6) J J)) J (aj (aq J) J (aj (ah dy J) J (aI (k:=24) (us:=sR x1 c1.r (st+(p.k:Int)+1)) (c':=oq x1 c1.r (st+(p.k:Int)+1) e.m) wO J J J J J J J J (ai (aa (aj (ac J) J (aj (am J J (aX (by first|exact aU (by omega) (by omega)|rfl))) J (aj (ag J) J ?_)))))))))))));refine ai ?_;refine aL ⟨x1,s1,c1,m1,p.k+1⟩ ⟨⟨q6,q7,by show m1+(p.k+1)=n;omega⟩,by show m1<p.m;omega⟩ J (by dsimp only;rw [show st+((p.k+1:Nat):Int)=st+(p.k:Int)+1 by omega];rfl) J
   ·refine ae (ae (aa (aj (ah o8 J) J (aj (dj lR J) J (aj (ak t3 J J (ap (k:=6) J J)) J (aj (am J J cW) J (ai (ar J (fun h15=> ?_) (fun h15=> ?_)))))))))
    ·(try simp only [aV]at h15)
     obtain⟨-,q2,q3,q4,q5,q6⟩:=hor.resolve_left (fun q=>h15 q.1);subst q6;obtain rfl:p.k=n:=by omega
     rw [←q4,←q5,←q3];refine ae (aa (aj (ah o8 J) J (aj (aJ (us:= [.int .i64 t,.int .u32 y]) wP J J J (jd (k:=6) J J)) J (av (k:=4) wP J J J J J J (ai (aw (aG (p.x,p.s) (q3▸hp1) J (bx (aW wP J J J (aR (k:=4) J))) J [20,21,22,23,24] [] J J J)))))))
    ·(try simp only [aV]at h15)
     obtain⟨q1,m1,c1,q2,q3,q4,qi,qo,q6,q7⟩:=hor.resolve_right (fun q=>q.1 h15);subst q3;subst q4;refine az (ae (aa (aj (ac J) J (aj (ah Ai J) J (aj (aJ (us:=sR x1 c1.r (st+(p.k:Int)+1)) wO J J J (jd (k:=6) J J)) J (aj (aq J) J (aj (ah dy J) J (aI (k:=24) (us:=sR x1 c1.r (st+(p.k:Int)+1)) (c':=oq x1 c1.r (st+(p.k:Int)+1) e.m) wO J J J J J J J J (ai (aa (aj (ac J) J (aj (am J J (aX (by first|exact aU (by omega) (by omega)|rfl))) J (aj (ag J) J ?_)))))))))))));refine ai ?_;refine aL ⟨x1,s1,c1,m1,p.k+1⟩ ⟨⟨q6,q7,by show m1+(p.k+1)=n;omega⟩,by show m1<p.m;omega⟩ J (by dsimp only;rw [show st+((p.k+1:Nat):Int)=st+(p.k:Int)+1 by omega];rfl) J
theorem Cu{i:Qi}{c c1:Qs}(h:uz i c=some c1)(ho:i.op≠48):c1.inp=c.inp∧c1.out=c.out:=by
 unfold uz at h;split at h
 ·injection h with h;subst h;exact⟨rfl,rfl⟩
 split at h
 ·split at h
  ·injection h with h;subst h;exact⟨rfl,rfl⟩
  ·cases h
 split at h
 ·split at h
  ·injection h with h;subst h;exact⟨rfl,rfl⟩
  ·cases h
 split at h
 ·injection h with h;subst h;exact⟨rfl,rfl⟩
 split at h
 ·injection h with h;subst h;exact⟨rfl,rfl⟩
 split at h
 ·injection h with h;subst h;exact⟨rfl,rfl⟩
 split at h
 ·injection h with h;subst h;exact⟨rfl,rfl⟩
 split at h
 ·injection h with h;subst h;exact⟨rfl,rfl⟩
 split at h
 ·rename_i h2;exact absurd h2.1 ho
 split at h
 ·rename_i h2;exact absurd h2.1 ho
 ·cases h
theorem CY{code:List Qi}:∀{n:Nat}{c c':Qs},Ij code n c c'→c'.inp=c.inp∧c'.out=c.out
 | 0,c,c',h=>by
  have:c=c':=h;subst this;exact⟨J,J⟩
 | n+1,c,c',h=>by
  obtain⟨i,c1,-,h2,h3,h4⟩:=h;obtain⟨a,b⟩:=Cu h2 h3;obtain⟨a2,b2⟩:=CY h4;exact⟨a2.trans a,b2.trans b⟩
theorem u6{code:List Qi}:∀{n:Nat}{c c':Qs},rn code n c c'→∃k c1,Ij code k c c1∧((k=n∧c1=c')∨∃i c2 m,code[c1.pc]?=some i∧i.op=48∧uz i c1=some c2∧n=k+1+m∧rn code m c2 c')
 | 0,c,c',h=>⟨0,c',h,.inl ⟨rfl,rfl⟩⟩
 | n+1,c,c',h=>by
  obtain⟨i,c1,h1,h2,h3⟩:=h;by_cases ho:i.op=48
  ·exact⟨0,c,J,.inr ⟨i,c1,n,h1,ho,h2,by omega,h3⟩⟩
  ·obtain⟨k,c2,h4,h5⟩:=u6 h3;refine⟨k+1,c2,⟨i,c1,h1,h2,ho,h4⟩,?_⟩;rcases h5 with⟨h6,h7⟩|⟨j,c3,m,g1,g2,g3,g4,g5⟩
   ·exact .inl ⟨by omega,h7⟩
   ·exact .inr ⟨j,c3,m,g1,g2,g3,by omega,g5⟩
theorem oJ{i:Qi}{c c1:Qs}(h:uz i c=some c1)(ho:i.op=48):(i.imm=1∧c1={c with pc:=c.pc+1,out:=c.out++ [c.r 1]})∨(i.imm=2∧c1={c with pc:=c.pc+1,r:=rp c.r 1 (c.inp.headD 0),inp:=c.inp.tail}):=by
 unfold uz at h;rw [ho]at h;have e:∀a b,wJ 48 a b=none:=fun a b=>J
 rw [e]at h;by_cases h1:i.imm=1
 ·rw [h1]at h;injection h with h;exact .inl ⟨h1,h.symm⟩
 ·by_cases h2:i.imm=2
  ·rw [h2]at h;injection h with h;exact .inr ⟨h2,h.symm⟩
  ·exfalso;have q1:¬((48:Int)=48∧i.imm=1):=fun q=>h1 q.2
   have q2:¬((48:Int)=48∧i.imm=2):=fun q=>h2 q.2
   have:(if(48:Int)=48∧i.imm=1 then some {c with pc:=c.pc+1,out:=c.out++ [c.r 1]}else if(48:Int)=48∧i.imm=2 then some {c with pc:=c.pc+1,r:=rp c.r 1 (c.inp.headD 0),inp:=c.inp.tail}else none)=some c1:=h;rw [if_neg q1,if_neg q2]at this;cases this
def IK(l:List Int):Nat→Int
 | 0=>0
 | k+1=>IK l k+l.getD k 0*256^k
theorem DT{t:ByteArray}{k:Nat}(hk:k<4):0≤IK (bc t) k∧IK (bc t) k+(bc t).getD k 0*256^k<4294967296∧0≤(bc t).getD k 0*256^k∧(bc t).getD k 0*256^k<4294967296:=by
 have b0:=ji t 0;have b1:=ji t 1;have b2:=ji t 2;have b3:=ji t 3;have:k=0∨k=1∨k=2∨k=3:=by omega
 rcases this with rfl|rfl|rfl|rfl
 ·show 0≤(0:Int)∧(0:Int)+(bc t).getD 0 0*256^0<4294967296∧0≤(bc t).getD 0 0*256^0∧(bc t).getD 0 0*256^0<4294967296;omega
 ·show 0≤(0:Int)+(bc t).getD 0 0*256^0∧(0:Int)+(bc t).getD 0 0*256^0+(bc t).getD 1 0*256^1<4294967296∧0≤(bc t).getD 1 0*256^1∧(bc t).getD 1 0*256^1<4294967296;omega
 ·show 0≤(0:Int)+(bc t).getD 0 0*256^0+(bc t).getD 1 0*256^1∧(0:Int)+(bc t).getD 0 0*256^0+(bc t).getD 1 0*256^1+(bc t).getD 2 0*256^2<4294967296∧0≤(bc t).getD 2 0*256^2∧(bc t).getD 2 0*256^2<4294967296;omega
 ·show 0≤(0:Int)+(bc t).getD 0 0*256^0+(bc t).getD 1 0*256^1+(bc t).getD 2 0*256^2∧(0:Int)+(bc t).getD 0 0*256^0+(bc t).getD 1 0*256^1+(bc t).getD 2 0*256^2+(bc t).getD 3 0*256^3<4294967296∧0≤(bc t).getD 3 0*256^3∧(bc t).getD 3 0*256^3<4294967296;omega
theorem Qw{t:ByteArray}{k:Nat}(hk:k<4):IntKind.u32.wrap ((bc t).getD k 0*2^(8*(k:Int)).toNat)=(bc t).getD k 0*256^k:=by
 obtain⟨-,-,h1,h2⟩:=DT (t:=t) hk;have e:(2:Int)^(8*(k:Int)).toNat=256^k:=by
  have:k=0∨k=1∨k=2∨k=3:=by omega
  rcases this with rfl|rfl|rfl|rfl<;>rfl
 rw [e];exact bC h1 h2
theorem Bh(t:ByteArray)(ht:t.size=4):
  Spec Tryz.prog 66 [.string t] [] [] (X:=Unit) (fun _=>True) (fun _=> .int .u32 (IK (bc t) 4)) (fun _=> []) (fun _=> []):=by
 refine aF Tryz.func66 J Tryz.ntmps66 J fun w0 M H=>ae (aa (aj (ag J) J (ai (ae (aa (aj (ag J) J (ai (ae (ae (aa (aj (ag J) J (ai ?_))))))))))))
 refine aB (bk (X:=Nat) (fun k=>k≤4) (fun k=> [(0,.string t),(3,.int .u32 (IK (bc t) k)),(4,.int .i64 (k:Int))]) (fun k=> []) (fun k=> []) (fun k=>4-k) 0 (Nat.zero_le _) J J J (fun k n1=>ae (ae (aa (aj (ac J) J (aj (ac J) J (aj (cd Tryz.underlying9 J) J (aj (am J J b_) J (aj (ac J) J (aA [] J J trivial (fun hg1=>ac J) J (aA [(10,_)] J J ⟨J,trivial⟩ (fun hg2=>am J J b_) J (aj (aM J J J (by first|exact ax|exact aC|rfl)) J (ai ?_)))))))))))));refine ar J (fun h3=> ?_) (fun h3=> ?_)
 ·(try simp only [aV]at h3)
  have hi:k<4:=by omega
  have hbk:=DT (t:=t) hi;have hb1:=ji t k;refine az (ae (aB (aa (aj (ac J) J (aj (ac J) J (aj (ac J) J (aj (dh (j:=k) Tryz.underlying9 J J J (by omega)) J (aj (bP Tryz.underlying5 Tryz.underlying41 J (c:=(bc t).getD k 0) (bC (by omega) (by omega))) J (aj (ac J) J (aj (am J J (de (by first|exact aU (by omega) (by omega)|rfl))) J (aj (am J J (ga (by omega) (by show _≤(32:Int);omega) (Qw hi))) J (aj (am J J (aX (c:=IK (bc t) (k+1)) (bC (by omega) (by omega)))) J (aj (ag J) J ?_)))))))))))));refine ai (aa (aj (ac J) J (aj (am J J (aX (by first|exact aU (by omega) (by omega)|rfl))) J (aj (ag J) J (ai ?_)))));refine aL (k+1) ⟨by omega,by omega⟩ J J J
 ·(try simp only [aV]at h3)
  have hi:k=4:=by omega
  subst hi;refine bn (ae (aa (aj (ac J) J (aj (ag J) J (ai (aw (aG () trivial J (bx (aH J)) J [] [] J J J)))))))
theorem ws:∀{l:List Qi}{k:Nat}{i:Qi},l[k]?=some i→∀{j:Nat},j<4→(dl l)[4*k+j]?=(ep (rV i))[j]?
 | [],k,i,h,j,hj=>by simp at h
 | q::r,0,i,h,j,hj=>by
  have h:q=i:=by simpa using h
  subst h;show(ep (rV q)++dl r)[4*0+j]?=_;rw [List.getElem?_append_left (by rw [show(ep (rV q)).length=4 from J];omega),show 4*0+j=j by omega]
 | q::r,k+1,i,h,j,hj=>by
  have h:r[k]?=some i:=by simpa using h
  show(ep (rV q)++dl r)[4*(k+1)+j]?=_;rw [List.getElem?_append_right (by rw [show(ep (rV q)).length=4 from J];omega),show 4*(k+1)+j-(ep (rV q)).length=4*k+j by rw [show(ep (rV q)).length=4 from J];omega];exact ws h hj
theorem C9{n m a:Nat}:pk (List.replicate n 0) a (List.replicate m 0)=List.replicate n (0:Int):=by
 apply List.ext_getElem?;intro k;rw [nJ];split
 ·rename_i h;have h3:k<n:=by have:=h.2.2;simpa using this
  have h4:k-a<m:=by have:=h.2.1;simp at this;omega
  rw [List.getElem?_replicate,if_pos h4,List.getElem?_replicate,if_pos h3]
 ·rfl
def tR(n:Nat):Mm:=⟨List.replicate (256*n) 0,List.replicate (256*n) 0,List.replicate n 0⟩
theorem Dv{n:Nat}(hn:n≤4096):MO (tR n) n:=⟨by show(List.replicate _ _).length=_;rw [List.length_replicate];omega,by show(List.replicate _ _).length=_;rw [List.length_replicate];omega,List.length_replicate ..,by omega,fun x hx=>by have:=List.eq_of_mem_replicate hx;subst this;decide⟩
theorem IE(n:Nat):∀p,(fZ (tR n) p).d=List.replicate (256*n) 0∧(fZ (tR n) p).i=List.replicate (256*n) 0
 | 0=>⟨rfl,rfl⟩
 | p+1=>by
  obtain⟨h1,h2⟩:=IE n p;refine⟨?_,?_⟩
  ·show pk (fZ (tR n) p).d (256*p) zer=_;rw [h1,pn,C9]
  ·show pk (fZ (tR n) p).i (256*p) zer=_;rw [h2,pn,C9]
theorem ID(s:Mm):∀(p q:Nat),p≤s.r.length→(fZ s p).r.getD q 0=if q<p then uA q else s.r.getD q 0
 | 0,q,_=>by rw [if_neg (by omega)];rfl
 | p+1,q,h=>by
  have hl:∀p,(fZ s p).r.length=s.r.length:=fun p=>by
   induction p with
   | zero=>rfl
   | succ p ih=>exact(List.length_set ..).trans ih
  show((fZ s p).r.set p (uA p)).getD q 0=_;rw [List.getD_eq_getElem?_getD,List.getElem?_set];by_cases h1:p=q
  ·subst h1;rw [if_pos J,if_pos (by rw [hl];omega),if_pos (by omega)];rfl
  ·rw [if_neg h1,←List.getD_eq_getElem?_getD,ID s p q (by omega)];by_cases h2:q<p
   ·rw [if_pos h2,if_pos (by omega)]
   ·rw [if_neg h2,if_neg (by omega)]
theorem M6(s:Mm)(p:Nat):(rN s (p+1)).i=pk (rN s p).i ((p+1)*256) (((rN s p).d.drop ((p+1)*256)).take 256):=by rw [rN]
theorem M7{s:Mm}(hl:s.i.length=s.d.length)(k:Nat):∀p,(p+1)*256≤s.d.length→(rN s p).i[k]?=if 256≤k∧k<(p+1)*256 then s.d[k]? else s.i[k]?:=by
 intro p
 induction p with
 | zero=>
  intro _;rw [if_neg (by omega),rN]
 | succ p ihp=>
  intro h;have hli:∀p,(rN s p).i.length=s.i.length:=fun p=>by
   induction p with
   | zero=>rfl
   | succ p ih=>exact(eq ..).trans ih
  have h':(p+1)*256≤s.d.length:=Nat.le_trans (Nat.mul_le_mul_right 256 (Nat.le_succ (p+1))) h;have ih:=ihp h';clear ihp;rw [M6,zI,nJ,ih,hli];have hlen:(List.take 256 (List.drop ((p+1)*256) s.d)).length=256:=by
   rw [List.length_take,List.length_drop];omega
  rw [hlen];by_cases h1:(p+1)*256≤k∧k<(p+1)*256+256
  ·rw [if_pos ⟨h1.1,h1.2,by omega⟩,if_pos ⟨by omega,by omega⟩,List.getElem?_take,if_pos (by omega),List.getElem?_drop,show(p+1)*256+(k-(p+1)*256)=k by omega]
  ·rw [if_neg (fun h2=>h1 ⟨h2.1,h2.2.1⟩)];by_cases h2:256≤k∧k<(p+1)*256
   ·rw [if_pos h2,if_pos ⟨h2.1,by omega⟩]
   ·rw [if_neg h2,if_neg (fun h3=> ?_)];omega
theorem IF(s:Mm):∀p,(rN s p).r=s.r
 | 0=>rfl
 | p+1=>IF s p
theorem Kn{code:List Qi}(hl:code.length≤1984)(hv:∀i∈code,oy i=true∧0≤i.imm∧i.imm<4294967296){ins:List Int}(hi:∀v∈ins,0≤v∧v<4294967296):
  Sim code ⟨0,fun _=>0,fun _=>0,ins,[]⟩ 256 (LK (tR 64) (dl code)):=by
 have hb:=eK code;obtain⟨hd,hi0⟩:=IE 64 64;have hm:=kw (Dv (n:=64) (by decide)) 64;have hD:(LK (tR 64) (dl code)).d=pk (List.replicate (256*64) 0) 256 (dl code):=by
  show(rN _ 31).d=_;rw [zI];show pk (fZ (tR 64) 64).d 256 (dl code)=_;rw [hd]
 have hDk:∀k,(pk (List.replicate (256*64) (0:Int)) 256 (dl code)).getD k 0=if 256≤k∧k<256+(dl code).length then(dl code).getD (k-256) 0 else 0:=fun k=>by
  rw [mT (by rw [List.length_replicate];omega)];split
  ·rfl
  ·rw [List.getD_eq_getElem?_getD,List.getElem?_replicate];split<;>rfl
 refine⟨⟨?_,?_,fun p hp=> ?_,fun k i hk j hj=> ?_,hl,fun k i hk=>⟨VQ.of (hv i (List.mem_of_getElem? hk)).1,(hv i (List.mem_of_getElem? hk)).2⟩⟩,fun a ha=> ?_,J,fun _=>⟨Int.le_refl _,by show(0:Int)<4294967296;decide⟩,fun _=>J,by decide,hi⟩
 ·exact xX (hm.dd (eq _ _ _)) 31
 ·rw [hD];exact EY (fun x hx=>by have:=List.eq_of_mem_replicate hx;subst this;decide) (qP code)
 ·show(rN _ 31).r.getD p 0=_;rw [IF];show(fZ (tR 64) 64).r.getD p 0=_;rw [ID (tR 64) 64 p (Nat.le_of_eq (by exact(List.length_replicate ..).symm)),if_pos hp]
 ·have hkl:k<code.length:=(List.getElem?_eq_some_iff.1 hk).1;show(rN {fZ (tR 64) 64 with d:=pk (fZ (tR 64) 64).d 256 (dl code)} 31).i[256+4*k+j]?=_;rw [M7 (by show(fZ (tR 64) 64).i.length=(pk _ _ _).length;rw [eq,hm.i,hm.d]) _ 31 (by show _≤(pk _ _ _).length;rw [eq,hm.d];decide),if_pos ⟨by omega,by omega⟩];show(pk (fZ (tR 64) 64).d 256 (dl code))[256+4*k+j]?=_;rw [nJ,if_pos ⟨by omega,by omega,by rw [hm.d];omega⟩,show 256+4*k+j-256=4*k+j by omega,ws hk hj,show rV i=lC i from if_pos (hv i (List.mem_of_getElem? hk)).1]
 ·obtain⟨a1,a2,a3⟩:=ha;rw [hD,tT,hDk,hDk,hDk,hDk,if_neg (by omega),if_neg (by omega),if_neg (by omega),if_neg (by omega)];rfl
theorem F7(n:Nat)(hn:n≤4096):
  Spec Tryz.prog 34 [.int .i64 (n:Int)] [] [] (X:=Nat×Me) (fun _=>True) (fun x=> .pointer (some ⟨x.1,0,none⟩)) (fun x=> [aY x.1 93 (oq 0 oO 0 x.2.m),aY x.2.m 157 (mR x.2),own 5 1 bQ (sv x.2.vd) (tR n).d,own 5 1 bQ (sv x.2.vi) (tR n).i,own 3 1 eI (sv x.2.vr) (tR n).r]) (fun _=> []):=Bg n hn
theorem mL(e:Me)(s:Mm)(n:Nat)(hs:MO s n)(a:Int)(ha:0≤a∧a<4294967296)(h:a<s.d.length):
  Spec Tryz.prog 41 [.pointer (some ⟨e.m,0,none⟩),.int .u32 a] [aY e.m 157 (mR e),own 5 1 bQ (sv e.vd) s.d,own 5 1 bQ (sv e.vi) s.i,own 3 1 eI (sv e.vr) s.r] [] (X:=Unit) (fun _=>True) (fun _=> .int .u8 (s.d.getD a.toNat 0)) (fun _=> [aY e.m 157 (mR e),own 5 1 bQ (sv e.vd) s.d,own 5 1 bQ (sv e.vi) s.i,own 3 1 eI (sv e.vr) s.r]) (fun _=> []):=by
 have:=xT e s n hs a ha;rw [if_pos h]at this;exact this
structure Sl where
 x:Int
 s:Mm
 c:Qs
 m:Nat
 k:Nat
 v:SV
 vo:SV
def Rm(code:List Qi)(c1 c':Qs)(n k1:Nat)(i0 i:Qi):Prop:=
 (k1=n∧c1=c'∧i=i0)∨∃c2 m,i.op=48∧uz i c1=some c2∧n=k1+1+m∧rn code m c2 c'
theorem FK{code:List Qi}{n:Nat}{c c':Qs}(h:rn code n c c'){i0:Qi}(h0:code[c'.pc]?=some i0)(ho:i0.op=48∨i0.op=49):
  ∃k1 c1 i,Ij code k1 c c1∧code[c1.pc]?=some i∧(i.op=48∨i.op=49)∧k1≤n∧Rm code c1 c' n k1 i0 i:=by
 obtain⟨k,c1,h1,h2⟩:=u6 h;rcases h2 with⟨h3,h4⟩|⟨i,c2,m,g1,g2,g3,g4,g5⟩
 ·exact⟨k,c1,i0,h1,by rw [h4];exact h0,ho,by omega,.inl ⟨h3,h4,rfl⟩⟩
 ·exact⟨k,c1,i,h1,g1,.inl g2,by omega,.inr ⟨c2,m,g2,g3,g4,g5⟩⟩
theorem tf{i:Qi}(h:i.op=48):oI i=(4,i.imm):=if_pos h
theorem Jy{code:List Qi}{c1 c':Qs}{n k1:Nat}{i0 i:Qi}(h:Rm code c1 c' n k1 i0 i)(h2:(oI i).1≠4∨(oI i).2<1∨(oI i).2>2):k1=n∧c1=c'∧i=i0:=by
 rcases h with h|⟨c2,m,o1,o2,o3,o4⟩
 ·exact h
 ·exfalso;rw [tf o1]at h2;have h2:(4:Int)≠4∨i.imm<1∨i.imm>2:=h2;rcases oJ o2 o1 with⟨q,-⟩|⟨q,-⟩<;>omega
theorem Mj{code:List Qi}{c1 c':Qs}{n k1:Nat}{i0 i:Qi}(h:Rm code c1 c' n k1 i0 i)(h0:i0=⟨48,0,0,0,0⟩∨i0=⟨49,0,0,0,0⟩)(h2:(oI i).1=4∧1≤(oI i).2∧(oI i).2≤2):∃c2 m,i.op=48∧uz i c1=some c2∧n=k1+1+m∧rn code m c2 c':=by
 rcases h with⟨-,-,h⟩|h
 ·exfalso;subst h;rcases h0 with rfl|rfl
  ·exact absurd h2 (by decide)
  ·exact absurd h2 (by decide)
 ·exact h
theorem Jw{i:Qi}{c1 c2:Qs}(h:uz i c1=some c2)(ho:i.op=48)(h2:(oI i).2=1):c2={c1 with pc:=c1.pc+1,out:=c1.out++ [c1.r 1]}:=by
 rw [tf ho]at h2;have h2:i.imm=1:=h2;rcases oJ h ho with⟨-,q⟩|⟨q,-⟩
 ·exact q
 ·omega
theorem Mi{i:Qi}{c1 c2:Qs}(h:uz i c1=some c2)(ho:i.op=48)(h2:¬(oI i).2=1):c2={c1 with pc:=c1.pc+1,r:=rp c1.r 1 (c1.inp.headD 0),inp:=c1.inp.tail}:=by
 rw [tf ho]at h2;have h2:¬i.imm=1:=h2;rcases oJ h ho with⟨q,-⟩|⟨-,q⟩
 ·exact absurd q h2
 ·exact q
theorem Sim.nx{code:List Qi}{c:Qs}{x:Int}{s:Mm}(h:Sim code c x s){i:Qi}(hc:code[c.pc]?=some i):(c.pc+1<1984→x+4=gO (c.pc+1))∧0≤x+4∧x+4<4294967296:=by
 obtain⟨h1,h2⟩:=h.pcl hc;refine⟨fun _=> ?_,by omega⟩;unfold gO;omega
theorem Sim.nout{code:List Qi}{c:Qs}{x:Int}{s:Mm}(h:Sim code c x s){i:Qi}(hc:code[c.pc]?=some i)(l:List Int):Sim code {c with pc:=c.pc+1,out:=l} (x+4) s:=
 ⟨h.k,h.mem,h.h0,h.hr,(h.nx hc).1,(h.nx hc).2,h.hi⟩
theorem Sim.nin{code:List Qi}{c:Qs}{x:Int}{s:Mm}(h:Sim code c x s){i:Qi}(hc:code[c.pc]?=some i):Sim code {c with pc:=c.pc+1,r:=rp c.r 1 (c.inp.headD 0),inp:=c.inp.tail} (x+4) s:=by
 refine⟨h.k,h.mem,show rp c.r 1 (c.inp.headD 0) 0=0 from sb h.h0,Be h.hr ?_,(h.nx hc).1,(h.nx hc).2,fun v hv=>h.hi v (List.mem_of_mem_tail hv)⟩;have:=h.hi;cases hl:c.inp with
 | nil=>exact⟨Int.le_refl _,by show(0:Int)<4294967296;decide⟩
 | cons a l=>rw [hl]at this;exact this a (by simp)
theorem KD{s:Mm}(hb:byL s.d)(a:Nat):IK (bc (jY [s.d.getD a 0,s.d.getD (a+1) 0,s.d.getD (a+2) 0,s.d.getD (a+3) 0])) 4=zJ s.d a:=by
 rw [jJ _ (fun x hx=>by
  have b0:=hb.get a;have b1:=hb.get (a+1);have b2:=hb.get (a+2);have b3:=hb.get (a+3);simp only [List.mem_cons,List.not_mem_nil,or_false]at hx;rcases hx with rfl|rfl|rfl|rfl<;>assumption),tT]
 show 0+s.d.getD a 0*256^0+s.d.getD (a+1) 0*256^1+s.d.getD (a+2) 0*256^2+s.d.getD (a+3) 0*256^3=_;have e:s.d.getD (a+0) 0=s.d.getD a 0:=J;rw [e];omega
def qk(m:Int→Int)(n:Nat):List Int:=(List.range n).map fun k:Nat=>m (8192+4*(k:Int))
theorem Kk(m:Int→Int)(n:Nat):qk m (n+1)=qk m n++ [m (8192+4*(n:Int))]:=by
 unfold qk;rw [List.range_succ,List.map_append];rfl
theorem qj(m:Int→Int)(n:Nat):(qk m n).length=n:=by unfold qk;rw [List.length_map,List.length_range]
theorem KC{code:List Qi}{c:Qs}{x:Int}{s:Mm}(h:Sim code c x s){t:Nat}(ht:t<256):IK (bc (jY [s.d.getD (8192+4*(t:Int)).toNat 0,s.d.getD (8192+4*(t:Int)+1).toNat 0,s.d.getD (8192+4*(t:Int)+2).toNat 0,s.d.getD (8192+4*(t:Int)+3).toNat 0])) 4=c.m (8192+4*(t:Int)):=by
 rw [show(8192+4*(t:Int)+1).toNat=(8192+4*(t:Int)).toNat+1 by omega,show(8192+4*(t:Int)+2).toNat=(8192+4*(t:Int)).toNat+2 by omega,show(8192+4*(t:Int)+3).toNat=(8192+4*(t:Int)).toNat+3 by omega,KD h.k.hb];exact h.mem _ ⟨by omega,by omega,by omega⟩
theorem vT{l:List Int}(h:¬(l.length:Int)>0):l.headD 0=0∧l.tail=l:=by
 cases l with
 | nil=>exact⟨rfl,rfl⟩
 | cons a l=>exact absurd (show(((a::l).length:Nat):Int)>0 by rw [List.length_cons];omega) h
theorem od{code:List Qi}(hl:code.length≤1984)(hv:∀i∈code,oy i=true∧0≤i.imm∧i.imm<4294967296)(vin:SV)(ins:List Int)(hi:∀v∈ins,0≤v∧v<4294967296){n:Nat}{c':Qs}(hn:rn code n ⟨0,fun _=>0,fun _=>0,ins,[]⟩ c'){i0:Qi}(hc:code[c'.pc]?=some i0)(hz:i0=⟨48,0,0,0,0⟩∨i0=⟨49,0,0,0,0⟩)(most:Int)(hm:(n:Int)<most∧most<1000000000):
  Spec Tryz.prog 25 [.string (jY (dl code)),sv vin,.int .i64 most] [] [sl 1 eU (sv vin) ins] (X:=SV×SV) (fun _=>True) (fun x=> .agg #[sv x.1,sv x.2,.int .i64 (oI i0).1,.int .u32 (oI i0).2]) (fun x=> [own 41 1 eU (sv x.1) c'.out,own 41 1 eU (sv x.2) (qk c'.m 256)]) (fun _=> []):=by
 refine aF Tryz.func25 J Tryz.ntmps25 J fun w0 M H=> ?_
 obtain⟨most2,hmm⟩:∃z:Int,z=most:=⟨_,J⟩
 refine ae (aa (aT uP J J fun b6=>ai (ae (aa (au (xs:= [.const (.int .i64 64)]) (F7 64 (by decide)) Rc [] [] [24,20,21,22,23] J J J J J J J J (fun _ _=>J) (fun _ _ _=>J) J (fun y _=>aj (ag J) J (ai (ae (aa (aj (ac J) J (aj (ac J) J (au (xs:= [.tmp 14,.tmp 15]) (xu y.1 y.2 (tR 64) 64 (Dv (by decide)) (by decide) (jY (dl code)) (by rw [fU,eK];omega)) Q_ [20,21,22,23,24] [] [20,21,22,23,24] J J J J J J J J (fun _ _=>J) (fun _ _ _=>J) J (fun _ _=> ?_)))))))))))));rw [jJ _ (qP code)];refine ai (ae (aa (aj (aP (cs:=(Value.agg #[sv bw,sv bw,.int .i64 0,.int .u32 0]).cells) (parts:= []) uP P1 J (by kernel_rfl)) J (aT uP J J fun b8=>av (k:=8) uP J J J J J J (ai (ae (aB (aQ 0 1 J (fun w G h _=>⟨G,h,fun _ h=>h⟩) (cA 12 (α:=Int) (S:=41) (s:=1) (enc:=eU) (bk (X:=Sl) (fun p=>Sim code p.c p.x p.s∧rn code p.m p.c c'∧p.m+p.k=n∧p.c.out.length≤p.k) (fun p=> [(1,sv p.v),(2,.int .i64 most),(6,.pointer (some ⟨b6,0,none⟩)),(7,.pointer (some ⟨y.1,0,none⟩)),(8,.pointer (some ⟨b8,0,none⟩))]) (fun p=> [(20,aY y.2.m 157 (mR y.2)),(21,own 5 1 bQ (sv y.2.vd) p.s.d),(22,own 5 1 bQ (sv y.2.vi) p.s.i),(23,own 3 1 eI (sv y.2.vr) p.s.r),(24,aY y.1 93 (oq p.x p.c.r (p.k:Int) y.2.m)),(6,aY b6 55 [sv bw,sv bw,.int .i64 0,.int .u32 0]),(8,aY b8 55 [sv p.vo,sv bw,.int .i64 0,.int .u32 0]),(12,own 41 1 eU (sv p.vo) p.c.out)]) (fun p=> [(1,sl 1 eU (sv p.v) p.c.inp)]) (fun p=>p.m) ⟨256,LK (tR 64) (dl code),⟨0,fun _=>0,fun _=>0,ins,[]⟩,n,0,vin,bw⟩ ⟨Kn hl hv hi,hn,J,Nat.le_refl _⟩ J J J (fun p hp=> ?_)))))))))));obtain⟨hp1,hp2,hp3,hp4⟩:=hp;obtain⟨k1,c1,i,hk1,hi1,hi2,hk2,hor⟩:=FK hp2 hc (by rcases hz with rfl|rfl;exact .inl J;exact .inr J);have hio:=CY hk1;refine aB (ae (aa (aj (ac J) J (aj (ac J) J (aj (ac J) J (aj (aq J) J (aj (ah dy J) J (aj (ah gJ J) J (aj (ak t3 J J (ap (k:=24) J J)) J (aj (am J J (fQ (aU (by omega) (by omega)))) J ?_))))))))))
 refine au (xs:= [.tmp 18,.tmp 25]) (Bd y.2 y.1 hp1 hk1 hi1 hi2 (p.k:Int) (most-p.k) ⟨by omega,by omega⟩ (by omega)) Q1 [20,21,22,23,24] [] [20,21,22,23,24] J J J J J J J J (fun _ _=>J) (fun _ _ _=>J) J (fun q hq=> ?_);refine aT wP J J fun b9=>av (k:=9) wP J J J J J J (ai (ae (ae (aa (aj (ah lR J) J (aj (ak t3 J J (ap (k:=9) J J)) J (aj (am J J cW) J (aj (ac J) J (aA [] J J trivial (fun hg1=>ah yj J) J (aA [(31,_)] J J ⟨J,trivial⟩ (fun hg2=>ak cr J J (ap (k:=9) J J)) J (aA [(31,_),(32,_)] J J ⟨J,J,trivial⟩ (fun hg3=>am J J b_) J (aj (aM J J J (by first|exact ax|exact aC|rfl)) J ?_))))))))))))
 refine aj (ac J) J (aA [] J J trivial (fun hg4=>ah yj J) J (aA [(36,_)] J J ⟨J,trivial⟩ (fun hg5=>ak cr J J (ap (k:=9) J J)) J (aA [(36,_),(37,_)] J J ⟨J,J,trivial⟩ (fun hg6=>am J J dL) J (aj (aM J J J (by first|exact ax|exact aC|rfl)) J (ai (ar J (fun h7=> ?_) (fun h7=> ?_)))))))
 ·obtain⟨e1,e2,e3⟩:=Jy hor (by have q:=h7;simp at q;omega);have e2':=e2.symm;have e3':=e3.symm;subst e2';subst e3';refine ae (aa (aj (aJ wP J J J (aR (k:=9) J)) J (aj (ah nP J) J (aI (k:=8) wP J J J J J J J J (ai (bn (ae (ae (aa (aj (ag J) J (ai (aB ?_))))))))))));obtain⟨g,hg,hgk⟩:∃g:Sl,Sim code c' g.x g.s∧g=⟨q.1,q.2,c',0,n,p.v,p.vo⟩:=⟨⟨q.1,q.2,c',0,n,p.v,p.vo⟩,hq,J⟩
  have hgs:q.2=g.s:=by rw [hgk]
  have hgl:=hg.k.hs.d;rw [hgs];refine cA 13 (α:=Int) (S:=41) (s:=1) (enc:=eU) (bk (X:=Nat×SV) (fun z=>z.1≤256) (fun z=> [(6,.pointer (some ⟨b6,0,none⟩)),(7,.pointer (some ⟨y.1,0,none⟩)),(8,.pointer (some ⟨b8,0,none⟩)),(10,.int .i64 (z.1:Int))]) (fun z=> [(20,aY y.2.m 157 (mR y.2)),(21,own 5 1 bQ (sv y.2.vd) g.s.d),(22,own 5 1 bQ (sv y.2.vi) g.s.i),(23,own 3 1 eI (sv y.2.vr) g.s.r),(24,aY y.1 93 (oq q.1 c'.r ((p.k:Int)+(k1:Int)) y.2.m)),(6,aY b6 55 [sv bw,sv bw,.int .i64 0,.int .u32 0]),(8,aY b8 55 [sv p.vo,sv z.2,.int .i64 (oI i0).1,.int .u32 (oI i0).2]),(12,own 41 1 eU (sv p.vo) c'.out),(13,own 41 1 eU (sv z.2) (qk c'.m z.1))]) (fun z=> []) (fun z=>256-z.1) (0,bw) (Nat.zero_le _) J (by rw [hio.2];rfl) J (fun z hz1=> ?_));obtain⟨t,vm⟩:=z;have hz1:t≤256:=hz1;dsimp only;refine ae (ae (aa (aj (ac J) J (aj (am J J b_) J (ai (ar J (fun h8=> ?_) (fun h8=> ?_)))))))
  ·(try simp only [aV]at h8)
   have hi5:t<256:=by omega
   have hml:=qj c'.m t;refine az (ae (aB (ae (aa (aj (ac J) J (aj (am J J (de (by first|exact aU (by omega) (by omega)|rfl))) J (aj (am J J (aX (by first|exact aU (by omega) (by omega)|rfl))) J (aj (bP Tryz.underlying3 Tryz.underlying41 J (by first|exact bC (by omega) (by omega)|rfl)) J (aj (ag J) J (ai (ae ?_)))))))))))
   refine bA [101,102,103,104,105,106,107,108,109,110,111,112,113,114,115,116,117,118,119,120,121,122,123,124,125,126,127,128,129,12] _ J (aZ (V:= [(0,101,_),(1,102,_),(2,103,_),(3,104,_),(4,105,_),(6,107,_),(7,108,_),(8,109,_),(9,110,_),(10,111,_),(11,112,_),(13,114,_),(14,115,_),(15,116,_),(16,117,_),(17,118,_),(18,119,_),(20,121,_),(21,122,_),(22,123,_),(23,124,_),(24,125,_),(25,126,_)]) [0,1,2,3,4,6,7,8,9,10,11,13,14,15,16,17,18,20,21,22,23,24,25] 5 [5,4,3,2,1,0] [] (fun _=> []) J J (ad (aD J (ac J)) (ad (aD J (aq J)) (ad (aD J (ah e8 J)) (ad (aD J (ak uO J J (ap (k:=24) J J))) (ad (aD J (ac J)) (ad (aD J (ac J)) (ad (aD J (aq J)) (ad (aD J (ah e8 J)) (ad (aD J (ak uO J J (ap (k:=24) J J))) (ad (aD J (ac J)) (ad (aD J (am J J (aX (c:=(8192+4*(t:Int)+1)) (bC (by omega) (by omega))))) (ad (aD J (ac J)) (ad (aD J (aq J)) (ad (aD J (ah e8 J)) (ad (aD J (ak uO J J (ap (k:=24) J J))) (ad (aD J (ac J)) (ad (aD J (am J J (aX (c:=(8192+4*(t:Int)+2)) (bC (by omega) (by omega))))) (ad (aD J (ac J)) (ad (aD J (aq J)) (ad (aD J (ah e8 J)) (ad (aD J (ak uO J J (ap (k:=24) J J))) (ad (aD J (ac J)) (ad (aD J (am J J (aX (c:=(8192+4*(t:Int)+3)) (bC (by omega) (by omega))))) ay))))))))))))))))))))))) J J J J J J J J J J J (fun _ _=>J) J (bh (xs:= [.tmp 104,.tmp 105]) (mL y.2 g.s 64 hg.k.hs (8192+4*(t:Int)) (by omega) (by omega)) HH [20,21,22,23] [] [20,21,22,23] J J J J J J J J (fun _ _=>J) (fun _ _ _=>J)) (fun _ _=>aZ [6,7,8,9,10,11,13,14,15,16,17,18,20,21,22,23,24,25] 12 [12,11,10,9,8,7,6,5,4,3,2,1,0] [] (fun _=> []) J J (ad (aD J (ac J)) (ad (aD J (aq J)) (ad (aD J (ah e8 J)) (ad (aD J (ak uO J J (ap (k:=24) J J))) (ad (aD J (ac J)) (ad (aD J (am J J (aX (c:=(8192+4*(t:Int)+1)) (bC (by omega) (by omega))))) (ad (aD J (ac J)) (ad (aD J (aq J)) (ad (aD J (ah e8 J)) (ad (aD J (ak uO J J (ap (k:=24) J J))) (ad (aD J (ac J)) (ad (aD J (am J J (aX (c:=(8192+4*(t:Int)+2)) (bC (by omega) (by omega))))) (ad (aD J (ac J)) (ad (aD J (aq J)) (ad (aD J (ah e8 J)) (ad (aD J (ak uO J J (ap (k:=24) J J))) (ad (aD J (ac J)) (ad (aD J (am J J (aX (c:=(8192+4*(t:Int)+3)) (bC (by omega) (by omega))))) ay)))))))))))))))))) J J J J J J J J J J J (fun _ _=>J) J (bh (xs:= [.tmp 110,.tmp 112]) (mL y.2 g.s 64 hg.k.hs (8192+4*(t:Int)+1) (by omega) (by omega)) HH [20,21,22,23] [] [20,21,22,23] J J J J J J J J (fun _ _=>J) (fun _ _ _=>J)) (fun _ _=>aZ [13,14,15,16,17,18,20,21,22,23,24,25] 19 [19,18,17,16,15,14,13,12,11,10,9,8,7,6,5,4,3,2,1,0] [] (fun _=> []) J J (ad (aD J (ac J)) (ad (aD J (aq J)) (ad (aD J (ah e8 J)) (ad (aD J (ak uO J J (ap (k:=24) J J))) (ad (aD J (ac J)) (ad (aD J (am J J (aX (c:=(8192+4*(t:Int)+2)) (bC (by omega) (by omega))))) (ad (aD J (ac J)) (ad (aD J (aq J)) (ad (aD J (ah e8 J)) (ad (aD J (ak uO J J (ap (k:=24) J J))) (ad (aD J (ac J)) (ad (aD J (am J J (aX (c:=(8192+4*(t:Int)+3)) (bC (by omega) (by omega))))) ay)))))))))))) J J J J J J J J J J J (fun _ _=>J) J (bh (xs:= [.tmp 117,.tmp 119]) (mL y.2 g.s 64 hg.k.hs (8192+4*(t:Int)+2) (by omega) (by omega)) HH [20,21,22,23] [] [20,21,22,23] J J J J J J J J (fun _ _=>J) (fun _ _ _=>J)) (fun _ _=>aZ [20,21,22,23,24,25] 26 [26,25,24,23,22,21,20,19,18,17,16,15,14,13,12,11,10,9,8,7,6,5,4,3,2,1,0] [] (fun _=> []) J J (ad (aD J (ac J)) (ad (aD J (aq J)) (ad (aD J (ah e8 J)) (ad (aD J (ak uO J J (ap (k:=24) J J))) (ad (aD J (ac J)) (ad (aD J (am J J (aX (c:=(8192+4*(t:Int)+3)) (bC (by omega) (by omega))))) ay)))))) J J J J J J J J J J J (fun _ _=>J) J (bh (xs:= [.tmp 124,.tmp 126]) (mL y.2 g.s 64 hg.k.hs (8192+4*(t:Int)+3) (by omega) (by omega)) HH [20,21,22,23] [] [20,21,22,23] J J J J J J J J (fun _ _=>J) (fun _ _ _=>J)) (fun _ _=>aZ [] 27 [27,26,25,24,23,22,21,20,19,18,17,16,15,14,13,12,11,10,9,8,7,6,5,4,3,2,1,0] [28,29] (fun v128=> [(28,129,_),(29,12,_)]) J J ay J J J J J J J J J J J (fun _ _=>J) J (ge bQ [g.s.d.getD (8192+4*(t:Int)).toNat 0,g.s.d.getD (8192+4*(t:Int)+1).toNat 0,g.s.d.getD (8192+4*(t:Int)+2).toNat 0,g.s.d.getD (8192+4*(t:Int)+3).toNat 0] (parts:= [(0,.tmp 106),(1,.tmp 113),(2,.tmp 120),(3,.tmp 127)]) Tryz.underlying84 t5 J (by decide) (by intro _;rfl) J (by decide) (by decide) J J J) (fun v128 _=>be [28,29] J J (ad (aD J (Dc Tryz.underlying84 Tryz.underlying5 Tryz.underlying9 J (bj (k:=128) J) (by simp))) (ad (aD J (ag J)) ay)) J J J ?_))))))
   refine bA [130,131,132,133,134,135,136] _ J (aZ (V:= [(0,130,_),(1,131,_),(2,132,_)]) [0,1,2] 3 [3,2] [] (fun _=> []) J J (ad (aD J (ah nQ J)) (ad (aD J (ak oz J J (ap (k:=8) J J))) (ad (aD J (ac J)) ay))) J J J J J J J J J J J (fun _ _=>J) J (bh (xs:= [.tmp 132]) (Bh (jY [g.s.d.getD (8192+4*(t:Int)).toNat 0,g.s.d.getD (8192+4*(t:Int)+1).toNat 0,g.s.d.getD (8192+4*(t:Int)+2).toNat 0,g.s.d.getD (8192+4*(t:Int)+3).toNat 0]) (by rw [fU];rfl)) Q0 [] [] [] J J J J J J J J (fun _ _=>J) (fun _ _ _=>J)) (fun _ _=>aZ [0,1] 4 [4,3,2] [] (fun v134=> []) J J (ad (aD J (ah nQ J)) (ad (aD J (ak oz J J (ap (k:=8) J J))) ay)) J J J J J J J J J J J (fun _ _=>J) J (d7 eU _ Tryz.underlying48 cr J (by decide) (by decide) J J J) (fun v134 _=>aZ [0,1] 5 [5,4,3,2,1,0] [6] (fun v135=> [(6,136,_)]) J J (ad (aD J (ah nQ J)) (ad (aD J (ak oz J J (ap (k:=8) J J))) ay)) J J J J J J J J J J J (fun _ _=>J) J (g_ 13 Tryz.underlying48 cr J (by decide) (fun _=>J) (fun _=>J) J J J (bj (k:=134) J) (by first|omega|(simp;done)|(simp;omega)) (by unfold maxLen;first|omega|(simp;done)|(simp;omega))) (fun v135 _=>bB [6] 7 [7,6,5,4,3,2,1,0] [] (fun _=> []) J J (ad (aD J (ah nQ J)) ay) J J J J J J J J J (fun _ _=>J) J (cy (k:=8) oz J J J J J J J J) (fun _ _=>be [] J J ay J J J ?_)))));refine aa (aj (ac J) J (aj (am J J (aX (by first|exact aU (by omega) (by omega)|rfl))) J (aj (ag J) J (ai ?_))));refine aL (t+1,v135) ⟨by show t+1≤256;omega,by show 256-(t+1)<256-t;omega⟩ J (by dsimp only;rw [Kk,KC hg hi5];rfl) J
  ·(try simp only [aV]at h8)
   obtain rfl:t=256:=by omega
   refine bn (ae (aa (aj (aJ uP J J J (aR (k:=8) J)) J (av (k:=6) uP J J J J J J (ai (aw (aG (p.vo,vm) trivial J (bx (aW uP J J J (aR (k:=6) J))) J [12,13] [] J J J)))))))
 ·obtain⟨c2,m2,o1,o2,o3,o4⟩:=Mj hor hz (by have q:=h7;simp at q;omega);refine az (ae (ae (aa (aj (ah yj J) J (aj (ak cr J J (ap (k:=9) J J)) J (aj (am J J aS) J (ai (ar J (fun h9=> ?_) (fun h9=> ?_)))))))))
  ·obtain rfl:=Jw o2 o1 (by simpa using h9);refine bA [45,46,47,48,49,50,51,52,53,54,55] _ J (aZ (V:= [(0,45,_),(1,46,_),(2,47,_),(3,48,_),(4,49,_),(5,50,_),(6,51,_),(7,52,_)]) [0,1,2,3,4,5,6,7] 8 [8,7,6,5,4,3,2] [] (fun v53=> []) J J (ad (aD J (ah nR J)) (ad (aD J (ak oz J J (ap (k:=8) J J))) (ad (aD J (ac J)) (ad (aD J (aq J)) (ad (aD J (ah dy J)) (ad (aD J (ah fM J)) (ad (aD J (cG (j:=1) Tryz.underlying75 cr J J (by rfl) (by decide))) (ad (aD J (ak cr J J (ap (k:=24) J J))) ay)))))))) J J J J J J J J J J J (fun _ _=>J) J (d7 eU _ Tryz.underlying48 cr J (by decide) (by decide) J J J) (fun v53 _=>aZ [0,1] 9 [9,8,7,6,5,4,3,2,1,0] [10] (fun v54=> [(10,55,_)]) J J (ad (aD J (ah nR J)) (ad (aD J (ak oz J J (ap (k:=8) J J))) ay)) J J J J J J J J J J J (fun _ _=>J) J (g_ 12 Tryz.underlying48 cr J (by decide) (fun _=>J) (fun _=>J) J J J (bj (k:=53) J) (by first|omega|(simp;done)|(simp;omega)) (by unfold maxLen;first|omega|(simp;done)|(simp;omega))) (fun v54 _=>bB [10] 11 [11,10,9,8,7,6,5,4,3,2,1,0] [] (fun _=> []) J J (ad (aD J (ah nR J)) ay) J J J J J J J J J (fun _ _=>J) J (cy (k:=8) oz J J J J J J J J) (fun _ _=>be [] J J ay J J J ?_))));refine ae (aa (aj (ac J) J (aj (ac J) J (aj (aq J) J (aj (ah dy J) J (aj (ah gL J) J (aj (ak cr J J (ap (k:=24) J J)) J (aj (am J J (aX (c:=q.1+4) (bC (hq.nx hi1).2.1 (hq.nx hi1).2.2))) J (aj (aq J) J (aj (ah dy J) J (aj (ah gL J) J (aI (k:=24) (us:= [.int .u32 (q.1+4)]) (c':=oq (q.1+4) c1.r ((p.k:Int)+(k1:Int)) y.2.m) cr J J J J J J J J (ai ?_)))))))))))));refine aa (aj (ac J) J (aj (aq J) J (aj (ah dy J) J (aj (ah gJ J) J (aj (ak t3 J J (ap (k:=24) J J)) J (aj (am J J (aX (c:=(p.k:Int)+(k1:Int)+1) (aU (by omega) (by omega)))) J (aj (aq J) J (aj (ah dy J) J (aj (ah gJ J) J (aI (k:=24) (us:= [.int .i64 ((p.k:Int)+(k1:Int)+1)]) (c':=oq (q.1+4) c1.r ((p.k:Int)+(k1:Int)+1) y.2.m) t3 J J J J J J J J (ai ?_)))))))))))
   refine aL ⟨q.1+4,q.2,_,m2,p.k+k1+1,p.v,v54⟩ ⟨⟨hq.nout hi1 _,o4,by show m2+(p.k+k1+1)=n;omega,by show(c1.out++ [c1.r 1]).length≤p.k+k1+1;rw [List.length_append,hio.2];show _+1≤_;omega⟩,by show m2<p.m;omega⟩ J (by dsimp only;rw [hio.2,show((p.k+k1+1:Nat):Int)=(p.k:Int)+(k1:Int)+1 by omega];rfl) (by dsimp only;rw [hio.1];rfl)
  ·obtain rfl:=Mi o2 o1 (by simpa using h9);refine ae (aa (aj (ac J) J (aj (aq J) J (aj (ah dy J) J (aj (ah fM J) J (aj (cG (j:=1) Tryz.underlying75 cr J J (by rfl) (by decide)) J (aI (k:=24) (us:= [.int .u32 0]) (c':=oq q.1 (rp c1.r 1 0) ((p.k:Int)+(k1:Int)) y.2.m) cr J J J J J J J J (ai (ae (aa (aj (ac J) J (aj (aO Tryz.underlying48 J (aK (k:=1) J)) J (aj (am J J dL) J ?_)))))))))))));refine ai (ar J (fun h10=> ?_) (fun h10=> ?_))
   ·(try simp only [aV]at h10)
    obtain⟨a0,l0,ha0⟩:∃a l,p.c.inp=a::l:=by
     cases hl0:p.c.inp with
     | nil=>rw [hl0]at h10;exact absurd h10 (by decide)
     | cons a l=>exact⟨a,l,rfl⟩
    refine ae ?_;refine bA [64,65,66,67,68,69,70,71] _ J (bB (V:= [(0,64,_),(1,65,_),(2,66,_),(3,67,_),(4,68,_),(5,69,_),(6,70,_),(7,71,_)]) [0,1,2,3,4,5,6,7] 8 [8,7,6,5,4,3,2,1,0] [] (fun _=> []) J J (ad (aD J (ac J)) (ad (aD J (ac J)) (ad (aD J (aN (j:=0) Tryz.underlying48 cr J J (aK (k:=1) J) J (by rw [ha0];exact Nat.succ_pos _))) (ad (aD J (ak cr J J (bv (aK (k:=1) J) (by intro _;rfl) (show p.c.inp[0]?=some a0 by rw [ha0];rfl) (by rfl)))) (ad (aD J (aq J)) (ad (aD J (ah dy J)) (ad (aD J (ah fM J)) (ad (aD J (cG (j:=1) Tryz.underlying75 cr J J (by rfl) (by decide))) ay)))))))) J J J J J J J J J (fun _ _=>J) J (cy (k:=24) (us:= [.int .u32 a0]) (c':=oq q.1 (rp c1.r 1 a0) ((p.k:Int)+(k1:Int)) y.2.m) cr J J J J J J J J) (fun _ _=>be [] J J ay J J J ?_));refine aa (aj (ac J) J (xA (j:=1) 1 1 Tryz.underlying48 cr (by intro _;rfl) J J J (by rw [ha0];exact Nat.succ_le_succ (Nat.zero_le _)) J J fun v73=>aj (ag J) J (ai (ae (aa (aj (ac J) J (aj (ac J) J (aj (aq J) J (aj (ah dy J) J (aj (ah gL J) J (aj (ak cr J J (ap (k:=24) J J)) J (aj (am J J (aX (c:=q.1+4) (bC (hq.nx hi1).2.1 (hq.nx hi1).2.2))) J ?_))))))))))));refine aj (aq J) J (aj (ah dy J) J (aj (ah gL J) J (aI (k:=24) (us:= [.int .u32 (q.1+4)]) (c':=oq (q.1+4) (rp c1.r 1 a0) ((p.k:Int)+(k1:Int)) y.2.m) cr J J J J J J J J (ai (aa (aj (ac J) J (aj (aq J) J (aj (ah dy J) J (aj (ah gJ J) J (aj (ak t3 J J (ap (k:=24) J J)) J (aj (am J J (aX (c:=(p.k:Int)+(k1:Int)+1) (aU (by omega) (by omega)))) J (aj (aq J) J (aj (ah dy J) J ?_)))))))))))));refine aj (ah gJ J) J (aI (k:=24) (us:= [.int .i64 ((p.k:Int)+(k1:Int)+1)]) (c':=oq (q.1+4) (rp c1.r 1 a0) ((p.k:Int)+(k1:Int)+1) y.2.m) t3 J J J J J J J J (ai ?_));refine aL ⟨q.1+4,q.2,_,m2,p.k+k1+1,v73,p.vo⟩ ⟨⟨hq.nin hi1,o4,by show m2+(p.k+k1+1)=n;omega,by show c1.out.length≤p.k+k1+1;rw [hio.2];omega⟩,by show m2<p.m;omega⟩ J (by dsimp only;rw [hio.2,hio.1,ha0,show((p.k+k1+1:Nat):Int)=(p.k:Int)+(k1:Int)+1 by omega];rfl) (by dsimp only;rw [hio.1,ha0];rfl)
   ·(try simp only [aV]at h10)
    have hin:¬(p.c.inp.length:Int)>0:=by omega
    refine az (ae (aa (aj (ac J) J (aj (ac J) J (aj (aq J) J (aj (ah dy J) J (aj (ah gL J) J (aj (ak cr J J (ap (k:=24) J J)) J (aj (am J J (aX (c:=q.1+4) (bC (hq.nx hi1).2.1 (hq.nx hi1).2.2))) J (aj (aq J) J (aj (ah dy J) J (aj (ah gL J) J (aI (k:=24) (us:= [.int .u32 (q.1+4)]) (c':=oq (q.1+4) (rp c1.r 1 0) ((p.k:Int)+(k1:Int)) y.2.m) cr J J J J J J J J ?_)))))))))))));refine ai (aa (aj (ac J) J (aj (aq J) J (aj (ah dy J) J (aj (ah gJ J) J (aj (ak t3 J J (ap (k:=24) J J)) J (aj (am J J (aX (c:=(p.k:Int)+(k1:Int)+1) (aU (by omega) (by omega)))) J (aj (aq J) J (aj (ah dy J) J (aj (ah gJ J) J (aI (k:=24) (us:= [.int .i64 ((p.k:Int)+(k1:Int)+1)]) (c':=oq (q.1+4) (rp c1.r 1 0) ((p.k:Int)+(k1:Int)+1) y.2.m) t3 J J J J J J J J (ai ?_))))))))))));refine aL ⟨q.1+4,q.2,_,m2,p.k+k1+1,p.v,p.vo⟩ ⟨⟨hq.nin hi1,o4,by show m2+(p.k+k1+1)=n;omega,by show c1.out.length≤p.k+k1+1;rw [hio.2];omega⟩,by show m2<p.m;omega⟩ J (by dsimp only;rw [hio.2,hio.1,(vT hin).1,show((p.k+k1+1:Nat):Int)=(p.k:Int)+(k1:Int)+1 by omega];rfl) (by dsimp only;rw [hio.1,(vT hin).2];rfl)
theorem yo(t:Tx)(ht:GX t)(hn:nX t≤1000000000000)(ih:∀u∈t.kids,nX u≤1000000000000→Spec Tryz.prog 107 [xV u] [] [bK u.v u.kids] (X:=Unit) (fun _=>True) (fun _=> .int .i64 (nX u:Int)) (fun _=> []) (fun _=> [])):
  Spec Tryz.prog 107 [xV t] [] [bK t.v t.kids] (X:=Unit) (fun _=>True) (fun _=> .int .i64 (nX t:Int)) (fun _=> []) (fun _=> []):=by
 refine aF Tryz.func107 J Tryz.ntmps107 J fun w0 M H=> ?_
 have hkl:=kE ht;have hnx:=sq t;refine aQ 0 2 J eL (ae (aa (bN J J fun b1=>aj (ag J) J (ai (ae (aa (aj (ag J) J (ai (ae (ae (aa (aj (ag J) J ?_))))))))))));refine ai (aB (aQ 2 1 J (fun w G h _=>⟨G,h,fun _ h=>h⟩) (bk (X:=Nat) (fun i=>i≤t.kids.length) (fun i=> [(1,.pointer (some ⟨b1,0,none⟩)),(3,.int .i64 (1+(dU (t.kids.take i):Int))),(4,.int .i64 (i:Int))]) (fun i=> [(1,aY b1 61 (df t))]) (fun i=> [(0,bK t.v t.kids),(1,sl 4 df (sv t.v) t.kids)]) (fun i=>t.kids.length-i) 0 (Nat.zero_le _) J J J (fun i n1=>ae (ae (aa (aj (ac J) J (aj (ah cU J) J (aj (ak ic J J (ap (k:=1) J J)) J (aj (aO Tryz.underlying59 J (aK (k:=1) J)) J (aj (am J J b_) J (ai (ar J (fun h1=> ?_) (fun h1=> ?_))))))))))))))
 ·(try simp only [aV]at h1)
  have hi:i<t.kids.length:=by omega
  obtain⟨kid,hkid⟩:∃k,t.kids[i]?=some k:=⟨_,List.getElem?_eq_getElem hi⟩
  have hkm:=List.mem_of_getElem? hkid;have hle:=ku t.kids (i+1);rw [dY hkid]at hle;refine az (ae (aB (aa (aj (ac J) J (aj (ah cU J) J (aj (ak ic J J (ap (k:=1) J J)) J (aj (ac J) J (aj (aN (j:=i) Tryz.underlying59 cg J J (aK (k:=1) J) (by first|rfl|omega) (by first|omega|(simp;done)|(simp;omega))) J (aj (aJ cg J J J (bv (aK (k:=1) J) (by intro _;rfl) hkid (by rfl))) J (aQ 0 8 J (cH hkm) (au (xs:= [.tmp 17]) (ih kid hkm (by omega)) Ja [] [(false,8)] [] J J J J J J J J (fun _ _=>J) (fun _ _ _=>J) J (fun _ _=>aj (am J J (aX (by first|exact aU (by omega) (by omega)|rfl))) J (aj (ag J) J ?_)))))))))))));refine ai (aa (aj (ac J) J (aj (am J J (aX (by first|exact aU (by omega) (by omega)|rfl))) J (aj (ag J) J (ai ?_)))));refine aL (i+1) ⟨by omega,by omega⟩ (by rw [dY hkid,Int.natCast_add,←Int.add_assoc];rfl) J J
 ·(try simp only [aV]at h1)
  have hi:i=t.kids.length:=by omega
  subst hi;rw [List.take_length];refine bn (ae (aa (aj (ac J) J (aj (ag J) J (ai (aw (aG () trivial J (bx (aH J)) (by rw [hnx,Int.natCast_add,Int.add_comm];rfl) [] [] J J J)))))))
theorem sK:∀(n:Nat)(t:Tx),SizeOf.sizeOf t<n→GX t→nX t≤1000000000000→Spec Tryz.prog 107 [xV t] [] [bK t.v t.kids] (X:=Unit) (fun _=>True) (fun _=> .int .i64 (nX t:Int)) (fun _=> []) (fun _=> [])
 | 0,_,h,_,_=>absurd h (Nat.not_lt_zero _)
 | n+1,t,h,ht,hn=>yo t ht hn fun u hu h2=>sK n u (by have:=ob hu;omega) ((iT ht).mem u hu) h2
theorem yp(t:Tx)(ht:GX t)(hn:nX t≤1000000000000):Spec Tryz.prog 107 [xV t] [] [bK t.v t.kids] (X:=Unit) (fun _=>True) (fun _=> .int .i64 (nX t:Int)) (fun _=> []) (fun _=> []):=sK _ t (Nat.lt_succ_self _) ht hn
theorem xi(v:SV)(l:List Ty)(hl:l.length≤1000000)(hg:GYs l)(hn:cl l≤1000000000000)(ih:∀u∈l,cl u.body≤1000000000000→cl u.els≤1000000000000→(Spec Tryz.prog 61 [sv u.vb] [] [bz u.vb u.body] (X:=Unit) (fun _=>True) (fun _=> .int .i64 (cl u.body:Int)) (fun _=> []) (fun _=> []))∧(Spec Tryz.prog 61 [sv u.vl] [] [bz u.vl u.els] (X:=Unit) (fun _=>True) (fun _=> .int .i64 (cl u.els:Int)) (fun _=> []) (fun _=> []))):
  Spec Tryz.prog 61 [sv v] [] [bz v l] (X:=Unit) (fun _=>True) (fun _=> .int .i64 (cl l:Int)) (fun _=> []) (fun _=> []):=by
 refine aF Tryz.func61 J Tryz.ntmps61 J fun w0 M H=>aQ 0 1 J fL (ae (aa (aj (ag J) J (ai (ae (aa (aj (ac J) J (aj (aO Tryz.underlying62 J (aK (k:=1) J)) J (aj (ag J) J (ai (ae (ae ?_))))))))))))
 refine aa (aj (ag J) J (ai (aB ?_)));refine bk (X:=Nat) (fun i=>i≤l.length) (fun i=> [(0,sv v),(4,.int .i64 (i:Int)),(3,.int .i64 ((l.length:Int)-(i:Int)+(cl (l.take i):Int)))]) (fun i=> []) (fun i=> [(0,bz v l),(1,sl 5 ec (sv v) l)]) (fun i=>l.length-i) 0 (Nat.zero_le _) (by rw [show(l.length:Int)-((0:Nat):Int)+(cl (l.take 0):Int)=(l.length:Int) by simp [cl]];rfl) J J (fun i n1=> ?_);refine ae (ae (aa (aj (ac J) J (aj (ac J) J (aj (aO Tryz.underlying62 J (aK (k:=1) J)) J (aj (am J J b_) J (ai (ar J (fun h1=> ?_) (fun h1=> ?_)))))))))
 ·(try simp only [aV]at h1)
  have hi:i<l.length:=by omega
  obtain⟨st,hst⟩:∃k,l[i]?=some k:=⟨_,List.getElem?_eq_getElem hi⟩
  have hsm:=List.mem_of_getElem? hst;have hsy:=hg.mem st hsm;have hsg:=nh hsy;have hle:=lP l (i+1);rw [gt hst]at hle;have hny:=Dm st;refine aQ 0 7 J (jl hsm) (aQ 0 8 J (fv hsm) (aQ 0 9 J (gl hsm) (aQ 7 10 J eL (az (ae (aB (ae (ae (aa (aj (ag J) J (ai (aB ?_))))))))))));refine bk (X:=Nat) (fun j=>j≤st.es.length) (fun j=> [(0,sv v),(4,.int .i64 (i:Int)),(3,.int .i64 ((l.length:Int)-(i:Int)+(cl (l.take i):Int)+(dU (st.es.take j):Int))),(5,.int .i64 (j:Int))]) (fun j=> []) (fun j=> [(0,bz v l),(1,sl 5 ec (sv v) l),(7,bK st.ve st.es),(8,bz st.vb st.body),(9,bz st.vl st.els),(10,sl 4 df (sv st.ve) st.es)]) (fun j=>st.es.length-j) 0 (Nat.zero_le _) (by rw [show(l.length:Int)-(i:Int)+(cl (l.take i):Int)+(dU (st.es.take 0):Int)=(l.length:Int)-(i:Int)+(cl (l.take i):Int) by simp [dU]];rfl) J J (fun j n2=> ?_);refine ae (ae (aa (aj (ac J) J (aj (ac J) J (aj (ac J) J (aj (aN (j:=i) Tryz.underlying62 dA J J (aK (k:=1) J) (by first|rfl|omega) (by first|omega|(simp;done)|(simp;omega))) J (aj (dj eO J) J (aj (ak ic J J (iO (aK (k:=1) J) (by intro _;rfl) hst J)) J (aj (aO Tryz.underlying59 J (aK (k:=10) J)) J (aj (am J J b_) J (ai (ar J (fun h2=> ?_) (fun h2=> ?_)))))))))))))
  ·(try simp only [aV]at h2)
   have hj:j<st.es.length:=by omega
   obtain⟨kid,hkid⟩:∃k,st.es[j]?=some k:=⟨_,List.getElem?_eq_getElem hj⟩
   have hkm:=List.mem_of_getElem? hkid;have hlx:=ku st.es (j+1);rw [dY hkid]at hlx;refine az (ae (aB (aa (aj (ac J) J (aj (ac J) J (aj (ac J) J (aj (aN (j:=i) Tryz.underlying62 dA J J (aK (k:=1) J) (by first|rfl|omega) (by first|omega|(simp;done)|(simp;omega))) J (aj (dj eO J) J (aj (ak ic J J (iO (aK (k:=1) J) (by intro _;rfl) hst J)) J (aj (ac J) J (aj (aN (j:=j) Tryz.underlying59 cg J J (aK (k:=10) J) (by first|rfl|omega) (by first|omega|(simp;done)|(simp;omega))) J (aj (aJ cg J J J (bv (aK (k:=10) J) (by intro _;rfl) hkid (by rfl))) J (aQ 7 12 J (cH hkm) ?_)))))))))))));refine au (xs:= [.tmp 32]) (yp kid (hsg.2.mem kid hkm) (by omega)) Ja [] [(false,12)] [] J J J J J J J J (fun _ _=>J) (fun _ _ _=>J) J (fun _ _=>aj (am J J (aX (by first|exact aU (by omega) (by omega)|rfl))) J (aj (ag J) J (ai (aa (aj (ac J) J (aj (am J J (aX (by first|exact aU (by omega) (by omega)|rfl))) J (aj (ag J) J (ai ?_))))))));refine aL (j+1) ⟨by omega,by omega⟩ (by rw [dY hkid,Int.natCast_add,←Int.add_assoc];rfl) J J
  ·(try simp only [aV]at h2)
   have hj:j=st.es.length:=by omega
   subst hj;rw [List.take_length];refine bn ?_;refine bA [35,36,37,38,39,40,41,42,43,44,45,46,47,48,49] _ J (aZ (V:= [(0,35,_),(1,36,_),(2,37,_),(3,38,_),(4,39,_),(5,40,_),(8,43,_),(9,44,_),(10,45,_),(11,46,_),(12,47,_)]) [0,1,2,3,4,5,8,9,10,11,12] 6 [6,5,4,3,2,1] [7] (fun _=> [(7,42,_)]) J J (ad (aD J (ac J)) (ad (aD J (ac J)) (ad (aD J (ac J)) (ad (aD J (aN (j:=i) Tryz.underlying62 dA J J (aK (k:=1) J) (by first|rfl|omega) (by first|omega|(simp;done)|(simp;omega)))) (ad (aD J (dj e9 J)) (ad (aD J (ak gZ J J (iO (aK (k:=1) J) (by intro _;rfl) hst J))) (ad (aD J (ac J)) (ad (aD J (ac J)) (ad (aD J (aN (j:=i) Tryz.underlying62 dA J J (aK (k:=1) J) (by first|rfl|omega) (by first|omega|(simp;done)|(simp;omega)))) (ad (aD J (dj eg J)) (ad (aD J (ak gZ J J (iO (aK (k:=1) J) (by intro _;rfl) hst J))) ay))))))))))) J J J J J J J J J J J (fun _ _=>J) J (bh (xs:= [.tmp 40]) (ih st hsm (by omega) (by omega)).1 K9 [] [(false,8)] [] J J J J J J J J (fun _ _=>J) (fun _ _ _=>J)) (fun _ _=>aZ [7,0,8,9,10,11,12] 13 [13,12,11,10,9,8,6,5,4,3,2,1] [14] (fun _=> [(14,49,_)]) J J (ad (aD J (am J J (aX (by first|exact aU (by omega) (by omega)|rfl)))) (ad (aD J (ac J)) (ad (aD J (ac J)) (ad (aD J (ac J)) (ad (aD J (aN (j:=i) Tryz.underlying62 dA J J (aK (k:=1) J) (by first|rfl|omega) (by first|omega|(simp;done)|(simp;omega)))) (ad (aD J (dj eg J)) (ad (aD J (ak gZ J J (iO (aK (k:=1) J) (by intro _;rfl) hst J))) ay))))))) J J J J J J J J J J J (fun _ _=>J) J (bh (xs:= [.tmp 47]) (ih st hsm (by omega) (by omega)).2 K9 [] [(false,9)] [] J J J J J J J J (fun _ _=>J) (fun _ _ _=>J)) (fun _ _=>Cv [14,7,0] 15 [15,14,13,12,11,10,9,8,7,6,5,4,3,2,1,0] J J (ad (aD J (am J J (aX (by first|exact aU (by omega) (by omega)|rfl)))) (ad (aD J (am J J (aX (by first|exact aU (by omega) (by omega)|rfl)))) (ad (aD J (ac J)) ay))) J J J J J J J J (ag J) ?_)));refine aa (aj (ac J) J (aj (am J J (aX (by first|exact aU (by omega) (by omega)|rfl))) J (aj (ag J) J (ai ?_))))
   refine aL (i+1) ⟨by omega,by omega⟩ (by rw [gt hst,show(l.length:Int)-((i+1:Nat):Int)+((cl (l.take i)+nY st:Nat):Int)=(l.length:Int)-(i:Int)+(cl (l.take i):Int)+(dU st.es:Int)+(cl st.body:Int)+(cl st.els:Int) by omega];rfl) J J
 ·(try simp only [aV]at h1)
  have hi:i=l.length:=by omega
  subst hi;rw [List.take_length];refine bn (ae (aa (aj (ac J) J (aj (ag J) J (ai (aw ?_))))));refine aG () trivial J (bx (aH J)) (by rw [show(l.length:Int)-(l.length:Int)+(cl l:Int)=(cl l:Int) by omega]) [] [] J J J
theorem nD:∀(n:Nat)(v:SV)(l:List Ty),SizeOf.sizeOf l<n→l.length≤1000000→GYs l→cl l≤1000000000000→Spec Tryz.prog 61 [sv v] [] [bz v l] (X:=Unit) (fun _=>True) (fun _=> .int .i64 (cl l:Int)) (fun _=> []) (fun _=> [])
 | 0,_,_,h,_,_,_=>absurd h (Nat.not_lt_zero _)
 | n+1,v,l,h,hl,hg,hn=>xi v l hl hg hn fun u hu q1 q2=>by
  have h1:=List.sizeOf_lt_of_mem hu;have h2:SizeOf.sizeOf u.body<SizeOf.sizeOf u∧SizeOf.sizeOf u.els<SizeOf.sizeOf u:=by
   cases u;simp only [Ty.mk.sizeOf_spec,Ty.body,Ty.els];omega
  have h3:=hg.mem u hu;exact⟨nD n u.vb u.body (by omega) (dP h3).1 (dP h3).2 q1,nD n u.vl u.els (by omega) (eR h3).1 (eR h3).2 q2⟩
theorem xj(v:SV)(l:List Ty)(hl:l.length≤1000000)(hg:GYs l)(hn:cl l≤1000000000000):Spec Tryz.prog 61 [sv v] [] [bz v l] (X:=Unit) (fun _=>True) (fun _=> .int .i64 (cl l:Int)) (fun _=> []) (fun _=> []):=nD _ v l (Nat.lt_succ_self _) hl hg hn
def l_:List Tf→Nat
 | []=>0
 | f::r=>cl f.body+l_ r
theorem zE:∀(a b:List Tf),l_ (a++b)=l_ a+l_ b
 | [],b=>by simp [l_]
 | f::r,b=>by
  show cl f.body+l_ (r++b)=cl f.body+l_ r+l_ b;rw [zE r b];omega
theorem Dq{l:List Tf}{i:Nat}{k:Tf}(h:l[i]?=some k):l_ (l.take (i+1))=l_ (l.take i)+cl k.body:=by rw [bM h,zE];rfl
theorem Dr:∀{l:List Tf},(∀f∈l,GF f)→l_ l≤1000000*l.length
 | [],_=>Nat.zero_le _
 | f::r,h=>by
  have h1:=Dr (l:=r) fun g hg=>h g (List.mem_cons_of_mem _ hg)
  have h2:=(h f (by simp)).2.2.2.2.2;rw [List.length_cons];show cl f.body+l_ r≤_;omega
theorem xN(vp:SV)(fs:List Tf)(hg:GP fs):
  Spec Tryz.prog 17 [.agg #[sv vp]] [] [cm vp fs] (X:=Unit) (fun _=>True) (fun _=> .int .i64 (l_ fs:Int)) (fun _=> []) (fun _=> []):=by
 refine aF Tryz.func17 J Tryz.ntmps17 J fun w0 M H=> ?_
 have hfl:=hg.1;refine aQ 0 1 J jm (ae (aa (bN J J fun b1=>aj (ag J) J (ai (ae (aa (aj (ag J) J (ai (ae (ae (aa (aj (ag J) J ?_))))))))))));refine ai (aB (bk (X:=Nat) (fun i=>i≤fs.length) (fun i=> [(1,.pointer (some ⟨b1,0,none⟩)),(3,.int .i64 (l_ (fs.take i):Int)),(4,.int .i64 (i:Int))]) (fun i=> [(1,aY b1 27 [sv vp])]) (fun i=> [(0,cm vp fs),(1,sl 3 iR (sv vp) fs)]) (fun i=>fs.length-i) 0 (Nat.zero_le _) J J J (fun i n1=>ae (ae (aa (aj (ac J) J (aj (ah cV J) J (aj (ak mj J J (ap (k:=1) J J)) J (aj (aO Tryz.underlying25 J (aK (k:=1) J)) J (aj (am J J b_) J (ai (ar J (fun h1=> ?_) (fun h1=> ?_)))))))))))))
 ·(try simp only [aV]at h1)
  have hi:i<fs.length:=by omega
  obtain⟨f,hst⟩:∃k,fs[i]?=some k:=⟨_,List.getElem?_eq_getElem hi⟩
  have hfm:=List.mem_of_getElem? hst;have hgf:=hg.2 f hfm;have hbb:=Dr (l:=fs.take i) fun g hg2=>hg.2 g (List.mem_of_mem_take hg2)
  rw [List.length_take]at hbb;have hgb:=hgf.2.2.2.2.2;refine az (ae (aB (aa (aj (ac J) J (aj (ah cV J) J (aj (ak mj J J (ap (k:=1) J J)) J (aj (ac J) J (aj (aN (j:=i) Tryz.underlying25 fX J J (aK (k:=1) J) (by first|rfl|omega) (by first|omega|(simp;done)|(simp;omega))) J (aj (dj iw J) J (aj (ak gZ J J (iO (aK (k:=1) J) (by intro _;rfl) hst J)) J (aQ 0 7 J (lr hfm) (aQ 7 8 J jn (au (xs:= [.tmp 18]) (xj f.vb f.body hgf.2.2.2.1 hgf.2.2.2.2.1 (by have:=hgf.2.2.2.2.2;omega)) K9 [] [(false,8)] [] J J J J J J J J (fun _ _=>J) (fun _ _ _=>J) J (fun _ _=> ?_))))))))))))));refine aj (am J J (aX (by first|exact aU (by omega) (by omega)|rfl))) J (aj (ag J) J (ai (aa (aj (ac J) J (aj (am J J (aX (by first|exact aU (by omega) (by omega)|rfl))) J (aj (ag J) J (ai ?_)))))));refine aL (i+1) ⟨by omega,by omega⟩ (by rw [Dq hst,Int.natCast_add];rfl) J J
 ·(try simp only [aV]at h1)
  have hi:i=fs.length:=by omega
  subst hi;rw [List.take_length];refine bn (ae (aa (aj (ac J) J (aj (ag J) J (ai (aw (aG () trivial J (bx (aH J)) J [] [] J J J)))))))
theorem nG(va vb:SV)(a b:List Int)(ha:a.length≤1000000000):
  Spec Tryz.prog 44 [sv va,sv vb] [] [sl 1 eU (sv va) a,sl 1 eU (sv vb) b] (X:=Unit) (fun _=>True) (fun _=> .bool (decide (a=b))) (fun _=> []) (fun _=> []):=by
 refine aF Tryz.func44 J Tryz.ntmps44 J fun w0 M H=>ae (aa (aj (ag J) J (ai (ae (ae (aa (aj (ac J) J (aj (aO Tryz.underlying48 J (aK (k:=0) J)) J (aj (ac J) J (aj (aO Tryz.underlying48 J (aK (k:=1) J)) J (aj (am J J cW) J (ai ?_))))))))))))
 refine ar J (fun h1=> ?_) (fun h1=> ?_)
 ·(try simp only [aV]at h1)
  have hne:¬a=b:=fun h=>by subst h;exact absurd J h1
  rw [decide_eq_false hne];refine ae (aa (aj (ag J) J (ai (aw (aG () trivial J (bx (aH J)) J [] [] J J J)))))
 ·(try simp only [aV]at h1)
  have hle:a.length=b.length:=by omega
  refine az (ae (ae (aa (aj (ag J) J (ai (aB (bk (X:=Nat) (fun i=>i≤a.length∧a.take i=b.take i) (fun i=> [(0,sv va),(1,sv vb),(5,.int .i64 (i:Int))]) (fun i=> []) (fun i=> [(0,sl 1 eU (sv va) a),(1,sl 1 eU (sv vb) b)]) (fun i=>a.length-i) 0 ⟨Nat.zero_le _,J⟩ J J J (fun i n1=>ae (ae (aa (aj (ac J) J (aj (ac J) J (aj (aO Tryz.underlying48 J (aK (k:=0) J)) J ?_)))))))))))));refine aj (am J J b_) J (ai (ar J (fun h2=> ?_) (fun h2=> ?_)))
  ·(try simp only [aV]at h2)
   have hi:i<a.length:=by omega
   obtain⟨x,hx⟩:∃x,a[i]?=some x:=⟨_,List.getElem?_eq_getElem hi⟩
   obtain⟨y,hy⟩:∃y,b[i]?=some y:=⟨_,List.getElem?_eq_getElem (by omega)⟩
   refine az (ae (aB (ae (bA [17,18,19,20,21,22,23,24,25] _ J (be (V:= [(0,17,_),(1,18,_),(2,19,_),(3,20,_),(4,21,_),(5,22,_),(6,23,_),(7,24,_),(8,25,_)]) [0,1,2,3,4,5,6,7,8] J J (ad (aD J (ac J)) (ad (aD J (ac J)) (ad (aD J (aN (j:=i) Tryz.underlying48 cr J J (aK (k:=0) J) (by first|rfl|omega) (by first|omega|(simp;done)|(simp;omega)))) (ad (aD J (ak cr J J (bv (aK (k:=0) J) (by intro _;rfl) hx (by rfl)))) (ad (aD J (ac J)) (ad (aD J (ac J)) (ad (aD J (aN (j:=i) Tryz.underlying48 cr J J (aK (k:=1) J) (by first|rfl|omega) (by first|omega|(simp;done)|(simp;omega)))) (ad (aD J (ak cr J J (bv (aK (k:=1) J) (by intro _;rfl) hy (by rfl)))) (ad (aD J (am J J cW)) ay))))))))) J J J (ar J (fun h3=> ?_) (fun h3=> ?_)))))))
   ·(try simp only [aV]at h3)
    have hne:¬a=b:=fun h=>by subst h;rw [hx]at hy;exact absurd (Option.some.inj hy) h3
    rw [decide_eq_false hne];refine ae (aa (aj (ag J) J (ai (aw (aG () trivial J (bx (aH J)) J [] [] J J J)))))
   ·(try simp only [aV]at h3)
    have hxy:x=y:=by omega
    refine az (aa (aj (ac J) J (aj (am J J (aX (by first|exact aU (by omega) (by omega)|rfl))) J (aj (ag J) J (ai ?_)))));refine aL (i+1) ⟨⟨by omega,by rw [bM hx,bM hy,n1.2,hxy]⟩,by omega⟩ J J J
  ·(try simp only [aV]at h2)
   have hi:i=a.length:=by omega
   subst hi;have hab:a=b:=by
    have h:=n1.2
    rwa [List.take_length,hle,List.take_length]at h
   rw [decide_eq_true hab];refine bn (ae (aa (aj (ag J) J (ai (aw (aG () trivial J (bx (aH J)) J [] [] J J J))))))
def nn(l:List Qi):Bool:=l.all fun q=>oy q&&(decide (0≤q.imm)&&decide (q.imm<4294967296))
theorem cn{a b:List Qi}(h1:nn a=true)(h2:nn b=true):nn (a++b)=true:=by
 unfold nn at*;rw [List.all_append,h1,h2];rfl
theorem ir:nn []=true:=rfl
theorem tW{q:Qi}(h:oy q=true)(hi:0≤q.imm∧q.imm<4294967296):nn [q]=true:=by
 show((oy q&&_)&&true)=true;rw [h,decide_eq_true hi.1,decide_eq_true hi.2];rfl
theorem KE{l:List Qi}(h:nn l=true):∀i∈l,oy i=true∧0≤i.imm∧i.imm<4294967296:=fun i hi=>by
 have:=List.all_eq_true.1 h i hi;simp only [Bool.and_eq_true,decide_eq_true_eq]at this;exact this
theorem ym{n:Int}(h:0≤n∧n<16):fc n true=true:=by
 unfold fc;simp only [Bool.or_eq_true,decide_eq_true_eq,Bool.and_eq_true,Bool.true_and];omega
theorem Ly{op d a n:Int}(ho:cw op=⟨true,true,true,false,1,18,0⟩)(hd:0≤d∧d<16)(ha:0≤a∧a<16)(hn:oW n)(hf:gQ n=true):nn [qi op d a n]=true:=by
 refine tW ?_ hn;unfold oy;show((cw op).k&&fc d (cw op).d&&fc a (cw op).a&&fc 0 (cw op).b&&jz (cw op) n)=true;rw [ho];show(true&&fc d true&&fc a true&&fc 0 false&&decide (wQ 18 n=n))=true;rw [ym hd,ym ha,CE hn,hf];rfl
theorem Mn{n:Int}(hn:oW n)(h:n<2097152∨4294967296-2097152≤n):wQ 22 n=n:=by
 have h1:=hn.1;have h2:=hn.2;unfold wQ wU;rw [show((32:Int)-22).toNat=10 from J];simp only [IntKind.wrap_u32,IntKind.wrap_i32];omega
theorem L8{d n:Int}(hd:0≤d∧d<16)(hn:oW n)(h:n<2097152∨4294967296-2097152≤n):nn [qi 40 d 0 n]=true:=by
 refine tW ?_ hn;unfold oy;have ho:cw 40=⟨true,true,false,false,1,22,0⟩:=by kernel_rfl
 show((cw 40).k&&fc d (cw 40).d&&fc 0 (cw 40).a&&fc 0 (cw 40).b&&jz (cw 40) n)=true;rw [ho];show(true&&fc d true&&fc 0 false&&fc 0 false&&decide (wQ 22 n=n))=true;rw [ym hd,Mn hn h,decide_eq_true J];rfl
theorem uI{x:Int}(h: -131072≤x∧x<131072):oW (wU x)∧gQ (wU x)=true∧(wU x<2097152∨4294967296-2097152≤wU x):=by
 have e:wU x=x%4294967296:=J;unfold gQ;rw [e];simp only [Bool.or_eq_true,decide_eq_true_eq];refine⟨⟨?_,?_⟩,?_,?_⟩<;>omega
theorem MY:cw 16=⟨true,true,true,false,1,18,0⟩:=by kernel_rfl
theorem P5:cw 23=⟨true,true,true,false,1,18,0⟩:=by kernel_rfl
theorem P4:cw 25=⟨true,true,true,false,1,18,0⟩:=by kernel_rfl
theorem MX:cw 32=⟨true,true,true,false,1,18,0⟩:=by kernel_rfl
theorem DX{c:Prop} [Decidable c]{a b:List Qi}(h1:nn a=true)(h2:nn b=true):nn (if c then a else b)=true:=by split;exact h1;exact h2
theorem Na:nn [⟨48,0,0,0,2⟩]=true:=by kernel_rfl
theorem Jh(o:ByteArray):nn (AR o)=true:=by
 unfold AR
 repeat (refine DX (by kernel_rfl) ?_)
 exact ir
theorem Jg(o:ByteArray):nn (BW o)=true:=by
 unfold BW
 repeat (refine DX (by kernel_rfl) ?_)
 exact ir
theorem Fg{n:Int}(hn:oW n):nn (ox n)=true:=by
 unfold ox;split
 ·rename_i h;exact Ly MY (by decide) (by decide) hn h
 ·have h1:=hn.1;have h2:=hn.2;refine cn (a:= [qi 41 1 0 (n/1024)]) (b:= [qi 18 1 1 (n%1024)]) (tW ?_ ⟨by show 0≤n/1024;omega,by show n/1024<4294967296;omega⟩) (tW ?_ ⟨by show 0≤n%1024;omega,by show n%1024<4294967296;omega⟩)
  ·have ho:cw 41=⟨true,true,false,false,2,22,0⟩:=by kernel_rfl
   unfold oy;show((cw 41).k&&fc 1 (cw 41).d&&fc 0 (cw 41).a&&fc 0 (cw 41).b&&jz (cw 41) (n/1024))=true;rw [ho];show(true&&true&&true&&true&&decide (n/1024/4194304=0))=true;rw [decide_eq_true (by omega)];rfl
  ·have ho:cw 18=⟨true,true,true,false,2,18,0⟩:=by kernel_rfl
   unfold oy;show((cw 18).k&&fc 1 (cw 18).d&&fc 1 (cw 18).a&&fc 0 (cw 18).b&&jz (cw 18) (n%1024))=true;rw [ho];show(true&&true&&true&&true&&decide (n%1024/262144=0))=true;rw [decide_eq_true (by omega)];rfl
structure ZH(o:Om)(S:ByteArray→Int):Prop where
 o:∀x,oW (bs o x)∧gQ (bs o x)=true
 S:∀x,0≤S x∧S x≤2000
theorem Cf:∀l:List Tx,2*l.length≤rc l
 | []=>Nat.le_refl _
 | t::r=>by
  have:=Cf r;unfold rc;rw [List.length_cons];omega
theorem C6:nn (eB 1)=true:=by kernel_rfl
theorem MA:nn (j7 2)=true:=by kernel_rfl
mutual
theorem HU{o:Om}{S:ByteArray→Int}(h:ZH o S):∀(t:Tx)(p:Nat),GX t→p+wX t≤2000→nn (zX o S t p)=true
 | .mk k n nm _ kids,p,hg,hp=>by
  obtain⟨g1,-,-,g4⟩:=hg;have h0:=fun q=>w3 h kids q g4
  have h1:=fun q=>B5 h kids q g4
  have hs:=fun q=>B4 h kids q g4
  have l0:=md o S kids p;have ls:=oE o S kids p;have lk:=Cf kids;unfold wX at hp;unfold zX;split
  ·exact Fg g1
  rename_i k1;rw [if_neg k1]at hp;split
  ·exact Ly P5 (by decide) (by decide) (h.o nm).1 (h.o nm).2
  rename_i k2;rw [if_neg k2]at hp;split
  ·exact Na
  rename_i k5;rw [if_neg k5]at hp;split
  ·rename_i k4;rw [if_pos k4]at hp;exact cn (h0 p (by omega)) (by kernel_rfl)
  rename_i k4;rw [if_neg k4]at hp;split
  ·rename_i k6;rw [if_pos k6]at hp;exact cn (h0 p (by omega)) (Jg nm)
  rename_i k6;rw [if_neg k6]at hp;split
  ·rename_i k7;rw [if_pos k7]at hp;exact cn (h0 p (by omega)) (cn C6 (cn (h1 _ (by omega)) (cn MA (Jh nm))))
  rename_i k7;rw [if_neg k7]at hp;split
  ·rename_i k3;rw [if_pos k3]at hp;have hS:=h.S nm;have hw:=uI (x:=S nm-((p+(wZ o S kids p).length:Nat):Int)) ⟨by omega,by omega⟩;refine cn (hs p (by omega)) (cn (L8 (by decide) hw.1 hw.2.2) ?_);split
   ·refine Ly MY (by decide) (by decide) ⟨by omega,by omega⟩ ?_;unfold gQ;rw [decide_eq_true (show 4*(kids.length:Int)<131072 by omega)];rfl
   ·exact ir
  ·exact ir
theorem w3{o:Om}{S:ByteArray→Int}(h:ZH o S):∀(l:List Tx)(p:Nat),GXs l→p+iG l≤2000→nn (wM o S l p)=true
 | [],p,_,_=>ir
 | t::_,p,hg,hp=>HU h t p hg.1 hp
theorem B5{o:Om}{S:ByteArray→Int}(h:ZH o S):∀(l:List Tx)(p:Nat),GXs l→p+L4 l≤2000→nn (LS o S l p)=true
 | [],p,_,_=>ir
 | _::r,p,hg,hp=>w3 h r p hg.2 hp
theorem B4{o:Om}{S:ByteArray→Int}(h:ZH o S):∀(l:List Tx)(p:Nat),GXs l→p+rc l≤2000→nn (wZ o S l p)=true
 | [],p,_,_=>ir
 | t::r,p,hg,hp=>by
  have lt:=fJ o S t p;unfold rc at hp;unfold wZ;exact cn (HU h t p hg.1 (by omega)) (cn C6 (B4 h r _ hg.2 (by omega)))
end
mutual
theorem LR{o:Om}{S:ByteArray→Int}(h:ZH o S){E:Int}(hE:0≤E∧E≤2000):∀(t:Ty)(p:Nat),GY t→p+wY t≤2000→nn (zY o S E t p)=true
 | .mk k nm _ es _ body _ els,p,hg,hp=>by
  obtain⟨-,⟨-,g2⟩,⟨-,g3⟩,-,g4⟩:=hg;have h0:=fun q=>w3 h es q g2
  have h1:=fun q=>B5 h es q g2
  have hb:=fun q=>s7 h hE body q g3
  have he:=fun q=>s7 h hE els q g4
  have lb:=fun q=>eo o S E body q
  have le:=fun q=>eo o S E els q
  unfold wY at hp;unfold zY;split
  ·rename_i k1;rw [if_pos k1]at hp;exact cn (h0 p (by omega)) (Ly P4 (by decide) (by decide) (h.o nm).1 (h.o nm).2)
  rename_i k1;rw [if_neg k1]at hp;split
  ·rename_i k3;rw [if_pos k3]at hp;exact cn (h0 p (by omega)) (cn C6 (cn (h1 _ (by omega)) (cn MA (by kernel_rfl))))
  rename_i k3;rw [if_neg k3]at hp;split
  ·rename_i k7;rw [if_pos k7]at hp;exact cn (h0 p (by omega)) (by kernel_rfl)
  rename_i k7;rw [if_neg k7]at hp;split
  ·rename_i k6;rw [if_pos k6]at hp;have hw:=uI (x:=E-((p+iG es:Nat):Int)) ⟨by omega,by omega⟩;exact cn (h0 p (by omega)) (L8 (by decide) hw.1 hw.2.2)
  rename_i k6;rw [if_neg k6]at hp;split
  ·rename_i k4;rw [if_pos k4]at hp;have e1:(if els.length>0 then 1 else 0)≤1:=by split<;>omega
   have e2:(if els.length>0 then 2 else 1)=(if els.length>0 then 1 else 0)+1:=by split<;>rfl
   rw [e2]at hp;generalize hq:(if els.length>0 then 1 else 0)=q at*;have hw:=uI (x:=(((jW o S E body (p+iG es+1)).length+q+1:Nat):Int)) ⟨by omega,by rw [lb];omega⟩;refine cn (h0 p (by omega)) (cn (Ly MX (by decide) (by decide) hw.1 hw.2.1) (cn (hb _ (by omega)) (cn ?_ (he _ (by rw [lb];omega)))));split
   ·have hw2:=uI (x:=(((jW o S E els (p+iG es+1+(jW o S E body (p+iG es+1)).length+q)).length+1:Nat):Int)) ⟨by omega,by rw [le];omega⟩;exact L8 (by decide) hw2.1 hw2.2.2
   ·exact ir
  rename_i k4;rw [if_neg k4]at hp;split
  ·rename_i k5;rw [if_pos k5]at hp;have hw:=uI (x:=(((jW o S E body (p+iG es+1)).length+2:Nat):Int)) ⟨by omega,by rw [lb];omega⟩;have hw2:=uI (x:= -(((jW o S E body (p+iG es+1)).length+iG es+1:Nat):Int)) ⟨by rw [lb];omega,by omega⟩;exact cn (h0 p (by omega)) (cn (Ly MX (by decide) (by decide) hw.1 hw.2.1) (cn (hb _ (by omega)) (L8 (by decide) hw2.1 hw2.2.2)))
  ·rename_i k5;rw [if_neg k5]at hp;exact h0 p (by omega)
theorem s7{o:Om}{S:ByteArray→Int}(h:ZH o S){E:Int}(hE:0≤E∧E≤2000):∀(l:List Ty)(p:Nat),GYs l→p+eC l≤2000→nn (jW o S E l p)=true
 | [],p,_,_=>ir
 | t::r,p,hg,hp=>by
  have lt:=wW o S E t p;unfold eC at hp;unfold jW;exact cn (LR h hE t p hg.1 (by omega)) (s7 h hE r _ hg.2 (by omega))
end
theorem r5:∀n,nn (ia n)=true
 | 0=>ir
 | n+1=>cn (a:=eB 0) (by kernel_rfl) (r5 n)
def okV(o:Om):Prop:=∀x,oW (bs o x)∧gQ (bs o x)=true
theorem okV.put{o:Om}(h:okV o)(x:ByteArray){n:Int}(hn:oW n∧gQ n=true):okV (dV o x n):=fun y=>by
 rw [fT];split
 ·exact hn
 ·exact h y
theorem okV.gP{n:Int}(hn:n≤1000):∀(l:List ByteArray)(k:Int)(o:Om),okV o→0≤k→k+l.length≤n→okV (gP n k l o)
 | [],k,o,h,_,_=>h
 | p::r,k,o,h,hk,hl=>by
  rw [List.length_cons]at hl;refine okV.gP hn r (k+1) _ (h.put p ⟨⟨by omega,by omega⟩,?_⟩) (by omega) (by omega);unfold gQ;rw [decide_eq_true (show 8+4*(n-1-k)<131072 by omega)];rfl
mutual
theorem okV.gD:∀(t:Ty)(p:Om×Int),okV p.1→0≤p.2→p.2+(vY t:Int)≤1000→okV (gD t p).1
 | .mk k nm ve es vb body vl els,p,h,h0,hl=>by
  rw [show vY (.mk k nm ve es vb body vl els)=(if k=1 then 1 else 0)+cD body+cD els from J]at hl;rw [yg];by_cases hk:k=1
  ·rw [if_pos hk]at hl ⊢;have hw:=uI (x:= -(4*(p.2+1))) ⟨by omega,by omega⟩;refine okV.gDs els _ (okV.gDs body _ (h.put nm ⟨hw.1,hw.2.1⟩) (by show 0≤p.2+1;omega) (by show p.2+1+_≤1000;omega)) ?_ ?_
   ·rw [mW];show 0≤p.2+1+_;omega
   ·rw [mW];show p.2+1+_+_≤1000;omega
  ·rw [if_neg hk]at hl ⊢;refine okV.gDs els _ (okV.gDs body _ h h0 (by omega)) ?_ ?_
   ·rw [mW];omega
   ·rw [mW];omega
theorem okV.gDs:∀(l:List Ty)(p:Om×Int),okV p.1→0≤p.2→p.2+(cD l:Int)≤1000→okV (gDs l p).1
 | [],p,h,_,_=>h
 | t::r,p,h,h0,hl=>by
  rw [show cD (t::r)=vY t+cD r from J]at hl;refine okV.gDs r _ (okV.gD t p h h0 (by omega)) ?_ ?_
  ·rw [KK];omega
  ·rw [KK];omega
end
theorem QM:gQ 0=true:=by decide
theorem LT{S:ByteArray→Int}(hS:∀x,0≤S x∧S x≤2000){f:Tf}(hg:GF f)(hn:f.ps.length+cD f.body≤12){p:Nat}(hp:p+wF f≤2000):nn (zF S f p)=true:=by
 unfold wF at hp;have ho:okV (cI f).1:=okV.gDs f.body _ (okV.gP (by omega) f.ps 0 [] (fun _=>⟨l8,QM⟩) (Int.le_refl _) (by omega)) (Int.le_refl _) (by show(0:Int)+_≤1000;omega);have hb:=s7 (o:=(cI f).1) ⟨ho,hS⟩ (E:=((p+10+2*(cI f).2.toNat+eC f.body:Nat):Int)) ⟨by omega,by omega⟩ f.body (p+9+2*(cI f).2.toNat) hg.2.2.2.2.1 (by omega);unfold zF;exact cn (by kernel_rfl) (cn (by kernel_rfl) (cn (by kernel_rfl) (cn (by kernel_rfl) (cn (r5 _) (cn hb (by kernel_rfl))))))
theorem B7{S:ByteArray→Int}(hS:∀x,0≤S x∧S x≤2000):∀(l:List Tf)(p:Nat),(∀f∈l,GF f∧f.ps.length+cD f.body≤12)→p+w_ l≤2000→nn (B9 S l p)=true
 | [],p,_,_=>ir
 | f::r,p,h,hp=>by
  unfold w_ at hp;unfold B9;exact cn (LT hS (h f (by simp)).1 (h f (by simp)).2 (by omega)) (B7 hS r _ (fun g hg=>h g (List.mem_cons_of_mem _ hg)) (by omega))
theorem yU:∀(l:List Tf)(p:Nat)(x:ByteArray),0≤gq l p x∧gq l p x≤3+p+w_ l
 | [],p,x=>by unfold gq;omega
 | f::r,p,x=>by
  have:=yU r (p+wF f) x;unfold gq w_;split
  ·omega
  ·omega
theorem Fh{fs:List Tf}(hg:GP fs)(h:∀f∈fs,f.ps.length+cD f.body≤12)(hl:(iF fs).length≤1984):nn (iF fs)=true:=by
 have hlen:(iF fs).length=3+w_ fs:=by
  unfold iF;rw [List.length_append,oF];rfl
 have hS:∀x,0≤gq fs 3 x∧gq fs 3 x≤2000:=fun x=>by have:=yU fs 3 x;omega
 have hm:=hS cx;have hw:=uI (x:=gq fs 3 cx-1) ⟨by omega,by omega⟩;unfold iF;refine cn ?_ (B7 hS fs 3 (fun f hf=>⟨hg.2 f hf,h f hf⟩) (by omega));exact cn (a:= [qi 16 14 0 16384]) (by kernel_rfl) (cn (a:= [qi 40 15 0 (wU (gq fs 3 cx-1))]) (L8 (by decide) hw.1 hw.2.2) (by kernel_rfl))
def SC(g:Nat):Prop:=
 (∀fs d vs t s e,d_ g fs d vs t s=some (.err e)→e=25∨e=26)∧(∀fs d vs acc l s e,fR g fs d vs acc l s=some (.err e)→e=25∨e=26)∧
 (∀fs d f al s e,jS g fs d f al s=some (.err e)→e=25∨e=26)∧(∀fs d vs l s e,fA g fs d vs l s=some (.err e)→e=25∨e=26)∧
 (∀fs d vs t s e,gB g fs d vs t s=some (.err e)→e=25∨e=26)∧(∀fs d vs t l v s e,i6 g fs d vs t l v s=some (.err e)→e=25∨e=26)
theorem yq:∀g,SC g
 | 0=>⟨fun _ _ _ _ _ _ h=>(by rw [d_]at h;cases h),fun _ _ _ _ _ _ _ h=>(by rw [fR]at h;cases h),fun _ _ _ _ _ _ h=>(by rw [jS]at h;cases h),fun _ _ _ _ _ _ h=>(by rw [fA]at h;cases h),fun _ _ _ _ _ _ h=>(by rw [gB]at h;cases h),fun _ _ _ _ _ _ _ _ h=>(by rw [i6]at h;cases h)⟩
 | g+1=>by
  obtain⟨hX,hK,hC,hB,hS,hW⟩:=yq g;refine⟨fun fs d vs t s e h=> ?_,fun fs d vs acc l s e h=> ?_,fun fs d f al s e h=> ?_,fun fs d vs l s e h=> ?_,fun fs d vs t s e h=> ?_,fun fs d vs t l v s e h=> ?_⟩
  ·rw [d_]at h;split at h
   ·injection h with h;injection h with h;exact .inl h.symm
   split at h
   ·cases h
   ·rename_i q;injection h with h;injection h with h;subst h;exact hK _ _ _ _ _ _ _ q
   ·repeat' split at h
    all_goals first|(cases h;done)|exact hC _ _ _ _ _ _ h
  ·cases l with
   | nil=>rw [fR]at h;cases h
   | cons t r=>
    rw [fR]at h;split at h
    ·cases h
    ·rename_i q;injection h with h;injection h with h;subst h;exact hX _ _ _ _ _ _ q
    ·exact hK _ _ _ _ _ _ _ h
  ·rw [jS]at h;split at h
   ·injection h with h;injection h with h;exact .inr h.symm
   split at h
   ·cases h
   ·rename_i q;injection h with h;injection h with h;subst h;exact hB _ _ _ _ _ _ q
   ·cases h
  ·cases l with
   | nil=>rw [fA]at h;cases h
   | cons t r=>
    rw [fA]at h;split at h
    ·cases h
    ·rename_i q;injection h with h;injection h with h;subst h;exact hS _ _ _ _ _ _ q
    ·cases h
    ·exact hB _ _ _ _ _ _ h
  ·rw [gB]at h;split at h
   ·injection h with h;injection h with h;exact .inl h.symm
   split at h
   ·cases h
   split at h
   ·cases h
   ·rename_i q;injection h with h;injection h with h;subst h;exact hX _ _ _ _ _ _ q
   split at h
   ·cases h
   split at h
   ·split at h
    ·cases h
    split at h
    ·cases h
    ·rename_i q;injection h with h;injection h with h;subst h;exact hX _ _ _ _ _ _ q
    ·cases h
   split at h
   ·exact hB _ _ _ _ _ _ h
   split at h
   ·exact hW _ _ _ _ _ _ _ _ h
   split at h
   ·cases h
   split at h<;>cases h
  ·rw [i6]at h;split at h
   ·cases h
   split at h
   ·cases h
   ·rename_i q;injection h with h;injection h with h;subst h;exact hB _ _ _ _ _ _ q
   ·cases h
   ·split at h
    ·cases h
    ·rename_i q;injection h with h;injection h with h;subst h;exact hX _ _ _ _ _ _ q
    ·exact hW _ _ _ _ _ _ _ _ h
theorem F2{fs:List Tf}{ins:List Int}{fuel:Int}{ru:Ru}(h:RunIs fs ins fuel ru)(hc:fq fs=0):ru.err=0∨ru.err=25∨ru.err=26:=by
 cases h with
 | bad h=>exact absurd hc h
 | run f g r h hf he=>
  cases r with
  | ok v s=>exact .inl rfl
  | err e=>exact .inr ((yq g).2.2.1 _ _ _ _ _ _ he)
theorem DD{c:Prop} [Decidable c]{a b:List Qi}{n:Nat}(h1:a.length≤n)(h2:b.length≤n):(if c then a else b).length≤n:=by split;exact h1;exact h2
mutual
theorem Ch:∀t:Tx,wX t+2≤11*nX t
 | .mk k n nm _ kids=>by
  have h0:=w7 kids;have h1:=y0 kids;have hs:=Cg kids;have hu:(BW nm).length≤2:=by
   unfold BW
   repeat (refine DD (by decide) ?_)
   exact Nat.zero_le _
  have ho:(AR nm).length≤5:=by
   unfold AR
   repeat (refine DD (by decide) ?_)
   exact Nat.zero_le _
  have hn:(ox n).length≤2:=by
   unfold ox;split
   ·exact Nat.le_succ 1
   ·exact Nat.le_refl 2
  show wX (.mk k n nm _ kids)+2≤11*(dU kids+1);unfold wX;split
  ·omega
  split
  ·omega
  split
  ·omega
  split
  ·omega
  split
  ·omega
  split
  ·omega
  split
  ·split<;>omega
  ·omega
theorem w7:∀l:List Tx,iG l≤11*dU l
 | []=>Nat.zero_le _
 | t::r=>by
  have:=Ch t;show wX t≤11*(nX t+dU r);omega
theorem y0:∀l:List Tx,iG l+L4 l≤11*dU l
 | []=>Nat.zero_le _
 | t::r=>by
  have:=Ch t;have:=w7 r;show wX t+iG r≤11*(nX t+dU r);omega
theorem Cg:∀l:List Tx,rc l≤11*dU l
 | []=>Nat.zero_le _
 | t::r=>by
  have:=Ch t;have:=Cg r;show wX t+(2+rc r)≤11*(nX t+dU r);omega
end
mutual
theorem L3:∀t:Ty,wY t+2*vY t≤11*nY t
 | .mk k nm ve es vb body vl els=>by
  have h0:=w7 es;have h1:=y0 es;have hb:=ta body;have he:=ta els;show wY (.mk k nm ve es vb body vl els)+2*((if k=1 then 1 else 0)+cD body+cD els)≤11*(1+dU es+cl body+cl els);have hk:(if k=1 then 1 else 0)≤1:=by split<;>omega
  have hk2:(if els.length>0 then 2 else 1)≤2:=by split<;>omega
  unfold wY;split
  ·omega
  split
  ·omega
  split
  ·omega
  split
  ·omega
  split
  ·omega
  split
  ·omega
  ·omega
theorem ta:∀l:List Ty,eC l+2*cD l≤11*cl l
 | []=>Nat.le_refl _
 | t::r=>by
  have:=L3 t;have:=ta r;show wY t+eC r+2*(vY t+cD r)≤11*(nY t+cl r);omega
end
theorem Ck:∀l:List Tf,w_ l≤17*l.length+11*l_ l
 | []=>Nat.le_refl _
 | f::r=>by
  have h1:=Ck r;have h2:=ta f.body;have h3:(cI f).2=(cD f.body:Int):=by show(gDs f.body (gP f.ps.length 0 f.ps [],0)).2=_;rw [mW];omega
  rw [List.length_cons];show wF f+w_ r≤17*(r.length+1)+11*(cl f.body+l_ r);unfold wF;omega
theorem uE(fs:List Tf):(iF fs).length=3+w_ fs:=by
 unfold iF;rw [List.length_append,oF];rfl
theorem yC{fs:List Tf}{f:Tf}(h:Fine fs f)(hn:l_ fs≤120):(iF fs).length≤1984:=by
 have h1:=Ck fs;have h2:=h.len;rw [uE];omega
theorem Hv(d:Nat)(xs ys:Array Value)(w:World):(Op.eqFields d xs ys []).run Tryz.prog w= .ok true w:=rfl
theorem wk{d:Nat}{xs ys:Array Value}{f:Field}{fs:List Field}{a b:Value}{r q:Bool}{w:World}(hn:f.name≠ "_")(h1:(part f.type xs f.offset).run Tryz.prog w= .ok a w)(h2:(part f.type ys f.offset).run Tryz.prog w= .ok b w)
  (h3:(Op.equalIn d f.type a b).run Tryz.prog w= .ok r w) (h4:(Op.eqFields d xs ys fs).run Tryz.prog w= .ok q w):(Op.eqFields d xs ys (f::fs)).run Tryz.prog w= .ok (r&&q) w:=by
 unfold Op.eqFields;rw [if_pos hn];simp only [Sem.run_bind,h1,h2,h3,Result.andThen_ok];cases r
 ·rfl
 ·exact h4
theorem QN{a b c d:Int}(w:World):(Op.equalIn 10000 53 (.agg #[.int .i64 a,.int .u32 b]) (.agg #[.int .i64 c,.int .u32 d])).run Tryz.prog w= .ok (decide (a=c)&&decide (b=d)) w:=by
 obtain⟨f0,f1,hu,n0,o0,q0,n1,o1,q1⟩:∃f0 f1:Field,Tryz.prog.underlying 53=some (.struct #[f0,f1])∧f0.name≠ "_"∧f0.offset=0∧f0.type=3∧f1.name≠ "_"∧f1.offset=1∧f1.type=41:=⟨_,_,Tryz.underlying53,by decide,rfl,rfl,by decide,rfl,rfl⟩
 have hf:Tryz.prog.fieldsOf 53= #[f0,f1]:=by unfold Program.fieldsOf;rw [hu]
 have hs:Tryz.prog.stoodInHeld 53=false:=by kernel_rfl
 rw [show(10000:Nat)=9999+1 from J,run_equalIn_struct w 9999 53 _ _ (by rw [hf];exact hu) hs,hf];have:=wk (d:=9999) (xs:= #[.int .i64 a,.int .u32 b]) (ys:= #[.int .i64 c,.int .u32 d]) (f:=f0) (fs:= [f1]) (w:=w) n0 (by rw [o0,q0];exact i_ t3 J J w) (by rw [o0,q0];exact i_ t3 J J w) (by rw [q0];exact run_equalIn_int w 9998 3 .i64 .i64 a c Tryz.underlying3)
  (wk n1 (by rw [o1,q1];exact i_ cr rfl rfl w) (by rw [o1,q1];exact i_ cr rfl rfl w) (by rw [q1];exact run_equalIn_int w 9998 41 .u32 .u32 b d Tryz.underlying41) (Hv _ _ _ w))
 rw [Bool.and_true]at this;exact this
theorem E3{a b c d:Int}:dM Tryz.prog .eql 53 (.agg #[.int .i64 a,.int .u32 b]) (.agg #[.int .i64 c,.int .u32 d]) (.bool (decide (a=c)&&decide (b=d))):=fun x y w=>by
 have hq:Tryz.prog.eqGuardType Tryz.prog.depth 53=false:=by kernel_rfl
 simp only [Sem.run_bind,run_eqGuard_agg w .eql 53 x y _ _ hq,Result.andThen_ok,run_eql_struct];rw [QN];rfl
theorem qu:∀{fs:List Tf}{i:Nat}{f:Tf}(p:Om×Qg),fs[i]?=some f→np (fs.take (i+1)) p=(dV (np (fs.take i) p).1 f.name (np (fs.take i) p).2.labs.length,(np (fs.take i) p).2.lab)
 | [],i,f,p,h=>by simp at h
 | x::r,0,f,p,h=>by cases h;rfl
 | x::r,i+1,f,p,h=>qu (fs:=r) _ h
theorem wa{st:Om}:∀{fs:List Tf}{i:Nat}{f:Tf}(s:Qg),fs[i]?=some f→qy st (fs.take (i+1)) s=gF st f (qy st (fs.take i) s)
 | [],i,f,p,h=>by simp at h
 | x::r,0,f,p,h=>by cases h;rfl
 | x::r,i+1,f,p,h=>wa (fs:=r) _ h
theorem zZ(st:Om):∀(l:List Tf)(s:Qg),s.labs.length≤(qy st l s).labs.length
 | [],s=>Nat.le_refl _
 | f::r,s=>Nat.le_trans (Ea st f s) (zZ st r _)
theorem yf(st:Om):∀(l:List Tf)(s:Qg),(∀f∈l,cl f.body≤400)→(qy st l s).sz≤s.sz+l.length*9660
 | [],s,_=>by simp [qy]
 | f::r,s,h=>by
  have h1:=Nf st f s;have h2:=yf st r (gF st f s) fun g hg=>h g (by simp [hg])
  have h3:=h f (by simp);rw [List.length_cons];show(qy st r (gF st f s)).sz≤_;omega
def BM(fs:List Tf):Int×ByteArray×Int:=if fq fs≠0 then(0,oNil,fq fs)else if(fk fs).length*4>7936 then(0,oNil,30)else(2,jY (dl (fk fs)),0)
theorem Dj{fs:List Tf}{f:Tf}(h:jI fs f=0):cl f.body≤400:=by
 obtain⟨h1,h2⟩:=bl.1 h;have hb:¬(f.ps.length>4∨f.ps.length+cD f.body>12∨cl f.body>400∨cS 1 f.body=true):=fun hb=>by
  rw [if_pos hb]at h1;exact absurd h1 (by decide)
 simp only [not_or]at hb;omega
theorem IN{fs:List Tf}(h:fq fs=0):∀f∈fs,ly f.body=true:=by
 unfold fq at h;split at h
 ·cases h
 ·rename_i h1;have h1:rP fs=true:=by simpa using h1
  intro f hf;have:=List.all_eq_true.1 h1 f hf;unfold rF at this;simp only [Bool.and_eq_true]at this;exact this.2
theorem G9(fs:List Tf):(yh fs).code≠ []:=by
 have h1:∀(st:Om)(l:List Tf)(s:Qg),s.code≠ []→(qy st l s).code≠ []:=by
  intro st l
  induction l with
  | nil=>intro s h;exact h
  | cons f r ih=>
   intro s h;refine ih _ ?_;show(_++ [qi 27 0 15 0])≠ [];simp
 exact h1 _ _ _ (by simp [Qg.emit,Qg.jump])
theorem uq(vp:SV)(fs:List Tf)(hg:GP fs):
  Spec Tryz.prog 15 [.agg #[sv vp]] [] [cm vp fs] (X:=Unit) (fun _=>True) (fun _=> .tuple #[.agg #[.int .i64 (BM fs).1,.string (BM fs).2.1],.int .i64 (BM fs).2.2]) (fun _=> []) (fun _=> []):=by
 refine aF Tryz.func15 J Tryz.ntmps15 J fun w0 M H=>aQ 0 3 J jm ?_
 have hfl:=hg.1;refine ae (aa (bN J J fun b1=>aT re J J fun b2=>aj (ag J) J (ai (ae (ae (aa (aj (aJ iZ J J J (aR (k:=1) J)) J (au (xs:= [.tmp 11]) (yF vp fs hg) Q8 [] [(false,0)] [] J J J J J J J J (fun _ _=>J) (fun _ _ _=>J) J (fun _ _=>aj (ag J) J (ai (ae ?_)))))))))));refine aa (aj (ac J) J (aj (am J J cW) J (ai (ar J (fun h1=> ?_) (fun h1=> ?_)))))
 ·(try simp only [aV]at h1)
  have hc:¬fq fs=0:=h1;rw [show BM fs=(0,oNil,fq fs)from if_pos hc];refine ae (aa (aj (aP (parts:= []) re JR J J) J (aj (ac J) J (av (k:=2) re J J J J J J (aj (ag J) J (ai (aw (aG () trivial J (F5 (aW re J J J (aR (k:=2) J)) (aH J)) J [] [] J J J))))))))
 ·(try simp only [aV]at h1)
  have hc:fq fs=0:=by omega
  obtain⟨fm,hfine⟩:=jg hg hc;have hry:=IN hc;have hnd:=zx hfine.once;have hne:fs≠ []:=fun e=>by have:=fP hfine.main;rw [e]at this;simp at this
  have hl16:=hfine.len;have hn400:∀f∈fs,cl f.body≤400:=fun f hf=>Dj (hfine.each f hf)
  have hok:=G8 hg hnd hne;refine az (ae (aa (aj (aJ iZ J J J (aR (k:=1) J)) J (kJ (Prod.fst:ByteArray×Int→ByteArray) fz vI J fun b18=>aj (aP (parts:= [(0,.tmp 17),(4,.tmp 18)]) PI MJ J J) J (bN J J fun b20=>aj (ag J) J (ai (ae (aa (aj (ac J) J (aj (ac J) J (au (xs:= [.tmp 22]) (Dd b20) Q7 [] [] [70] J J J J J J J J (fun _ _=>J) (fun _ _ _=>J) J (fun c _=> ?_))))))))))));refine aj (aq J) J (aj (ah Aq J) J (aI (k:=20) Mh J J J J J J J J (cA 21 (α:=Qi) (S:=118) (s:=5) (enc:=gC) (cA 22 (α:=Int×Int) (S:=171) (s:=2) (enc:=uD) (cA 23 (α:=Int) (S:=3) (s:=1) (enc:=eI) (tv 20 [20,21,22,23] (⟨b20,vp,b18,none,c.m,0⟩:Ga) ⟨[],[],[]⟩ bw bw bw J (by decide) (ai (ae (ae (aa (aj (ah cV J) J (aj (ak mj J J (ap (k:=1) J J)) J (aj (aO Tryz.underlying25 J (aK (k:=3) J)) J ?_)))))))))))));refine aj (ac J) J (ai (aB (bk (X:=Nat) (fun i=>i≤fs.length) (fun i=> [(1,.pointer (some ⟨b1,0,none⟩)),(2,.pointer (some ⟨b2,0,none⟩)),(3,.int .i64 0),(5,.pointer (some ⟨b20,0,none⟩)),(27,sv vp),(28,.int .i64 (fs.length:Int)),(29,.int .i64 (i:Int))]) (fun i=> [(1,aY b1 27 [sv vp]),(2,aY b2 31 [.int .i64 0,.string oNil]),(20,gA (⟨b20,vp,b18,none,c.m,0⟩:Ga) (np (fs.take i) (([],⟨[],[],[]⟩):Om×Qg)).2),(18,mp fz Prod.fst vI (some b18) (np (fs.take i) (([],⟨[],[],[]⟩):Om×Qg)).1),(70,gT b20 c)]) (fun i=> [(0,cm vp fs),(3,sl 3 iR (sv vp) fs)]) (fun i=>fs.length-i) 0 (Nat.zero_le _) J J J (fun i n1=>ae (aa (aj (am J J b_) J (ai (ae (ar J (fun h2=> ?_) (fun h2=> ?_))))))))))
  ·(try simp only [aV]at h2)
   have hi:i<fs.length:=by omega
   obtain⟨f,hf⟩:∃f,fs[i]?=some f:=⟨_,List.getElem?_eq_getElem hi⟩
   have hss:=v_ (fs.take i) (([],⟨[],[],[]⟩):Om×Qg);have hsz:(np (fs.take i) (([],⟨[],[],[]⟩):Om×Qg)).2.sz=i:=by
    rw [hss];unfold Qg.sz;simp [List.length_take];omega
   refine az (ae (aB (ae (aa (aj (aN (j:=i) Tryz.underlying25 fX J J (aK (k:=3) J) (by first|rfl|omega) (by first|omega|(simp;done)|(simp;omega))) J (aj (aJ fX J J J (bv (aK (k:=3) J) (by intro _;rfl) hf (by rfl))) J (aT fX J J fun b7=>av (k:=7) fX J J J J J J (ai ?_))))))));refine bA [33,34,35,36,37,38,39,40] _ J (aZ (V:= [(0,33,_),(1,34,_),(2,35,_),(3,36,_),(4,37,_),(5,38,_),(6,39,_)]) [0,1,2,3,4,5,6] 7 [7,6] [] (fun _=> []) J J (ad (aD J (ac J)) (ad (aD J (aq J)) (ad (aD J (ah m7 J)) (ad (aD J (ak Ct J J (nO (k:=20) J (fun _=>J) J))) (ad (aD J (ah jD J)) (ad (aD J (ak t9 J J (ap (k:=7) J J))) (ad (aD J (ac J)) ay))))))) J J J J J J J J J J J (fun _ _=>J) J (bh (xs:= [.tmp 39]) (ey (⟨b20,vp,b18,none,c.m,0⟩:Ga) (np (fs.take i) (([],⟨[],[],[]⟩):Om×Qg)).2 (by omega)) ur [20] [] [20] J J J J J J J J (fun _ _=>J) (fun _ _ _=>J)) (fun _ _=>bB [0,1,2,3,4,5] 8 [8,7,6,5,4,3,2,1,0] [] (fun _=> []) J J (ad (aD J (ac J)) (ad (aD J (aq J)) (ad (aD J (ah m7 J)) (ad (aD J (ak Ct J J (nO (k:=20) J (fun _=>J) J))) (ad (aD J (ah jD J)) (ad (aD J (ak t9 J J (ap (k:=7) J J))) ay)))))) J J J J J J J J J (fun _ _=>J) J (gU (k:=18) (α:=ByteArray×Int) (kf:=Prod.fst) (vf:=vI) (f.name,((np (fs.take i) (([],⟨[],[],[]⟩):Om×Qg)).2.labs.length:Int)) (np (fs.take (i+1)) (([],⟨[],[],[]⟩):Om×Qg)).1 Tryz.underlying105 d8 J J J J (List.Perm.of_eq (by rw [qu _ hf];rfl))) (fun _ _=>be [] J J ay J J J ?_)));refine aa (aj (am J J (aX (by first|exact aU (by omega) (by omega)|rfl))) J (aj (ac J) J (ai ?_)));refine aL (i+1) ⟨by omega,by omega⟩ J (by rw [qu _ hf];rfl) J
  ·(try simp only [aV]at h2)
   have hi:i=fs.length:=by omega
   subst hi;rw [List.take_length];have hss:=v_ fs (([],⟨[],[],[]⟩):Om×Qg);obtain⟨S0,hS0⟩:∃S0,S0=(np fs (([],⟨[],[],[]⟩):Om×Qg)).2:=⟨_,J⟩
   obtain⟨st,hst⟩:∃st,st=(np fs (([],⟨[],[],[]⟩):Om×Qg)).1:=⟨_,J⟩
   have hsz:S0.sz=fs.length:=by
    rw [hS0,hss];unfold Qg.sz;simp
   have hbd:=D6 hnd hne;rw [←hst]at hbd;have hS0l:S0.labs.length=fs.length:=by
    rw [hS0,hss];simp
   rw [←hS0,←hst];refine bn (ae (aa (aj (ac J) J (au (xs:= [.tmp 42,.const (.int .i64 16),.const (.int .i64 14),.const (.int .i64 0),.const (.int .u32 16384)]) (cB (⟨b20,vp,b18,none,c.m,0⟩:Ga) S0 (by omega) 16 14 0 16384) iJ [20] [] [20] J J J J J J J J (fun _ _=>J) (fun _ _ _=>J) J (fun _ _=>ai (ae (aa (aj (ac J) J (aj (ac J) J (aj (aq J) J (aj (ah m7 J) J (aj (ak Ct J J (nO (k:=20) J (fun _=>J) J)) J (aj (Da Tryz.underlying105 d8 t3 J J (DN (k:=18) J)) J ?_)))))))))))));refine au (xs:= [.tmp 44,.const (.int .i64 40),.const (.int .i64 15),.const (.int .i64 0),.tmp 49]) (eJ (⟨b20,vp,b18,none,c.m,0⟩:Ga) (S0.emit [qi 16 14 0 16384]) (by rw [bp];simp only [List.length_singleton];omega) 40 15 0 (bs st cx)) r4 [20] [] [20] J J J J J J J J (fun _ _=>J) (fun _ _ _=>J) J (fun _ _=>ai (ae (aa (aj (ac J) J (aj (aP (parts:= [(0,.const (.int .i64 48))]) ed lz J J) J (bq gC ⟨48,0,0,0,0⟩ Tryz.underlying106 ed J (by decide) (by decide) J J J J fun v53=>bW 53 7 J br (au (xs:= [.tmp 51,.tmp 53]) (gh (⟨b20,vp,b18,none,c.m,0⟩:Ga) ((S0.emit [qi 16 14 0 16384]).jump 40 15 0 (bs st cx)) (by rw [bG,bp];simp only [List.length_singleton];omega) v53 [⟨48,0,0,0,0⟩] (by simp)) wz [20] [(false,7)] [20] J J J J J J J J (fun _ _=>J) (fun _ _ _=>J) J (fun _ _=>ai (ae (ae (aa (aj (ah cV J) J ?_))))))))))));refine aj (ak mj J J (ap (k:=1) J J)) J (aj (aO Tryz.underlying25 J (aK (k:=3) J)) J (aj (ac J) J (ai (aB ?_))));obtain⟨S3,hS3⟩:∃S3,S3=(((S0.emit [qi 16 14 0 16384]).jump 40 15 0 (bs st cx)).emit [⟨48,0,0,0,0⟩]):=⟨_,J⟩
   have hs3:S3.sz=fs.length+4:=by
    rw [hS3,bp,bG,bp,hsz];rfl
   have hS3l:S3.labs.length=fs.length:=by rw [hS3];exact hS0l
   rw [←hS3];refine bk (X:=Nat×Option Nat×Int) (fun x=>x.1≤fs.length) (fun x=> [(1,.pointer (some ⟨b1,0,none⟩)),(2,.pointer (some ⟨b2,0,none⟩)),(3,.int .i64 0),(5,.pointer (some ⟨b20,0,none⟩)),(56,sv vp),(57,.int .i64 (fs.length:Int)),(58,.int .i64 (x.1:Int))]) (fun x=> [(1,aY b1 27 [sv vp]),(2,aY b2 31 [.int .i64 0,.string oNil]),(20,gA (⟨b20,vp,b18,x.2.1,c.m,x.2.2⟩:Ga) (qy st (fs.take x.1) S3)),(18,mp fz Prod.fst vI (some b18) st),(70,gT b20 c)]) (fun x=> [(0,cm vp fs),(3,sl 3 iR (sv vp) fs)]) (fun x=>fs.length-x.1) (0,none,0) (Nat.zero_le _) J J J (fun x hx0=>ae (aa (aj (am J J b_) J (ai (ae (ar J (fun h3=> ?_) (fun h3=> ?_)))))))
   ·(try simp only [aV]at h3)
    have hi:x.1<fs.length:=by omega
    obtain⟨f,hf⟩:∃f,fs[x.1]?=some f:=⟨_,List.getElem?_eq_getElem hi⟩
    have hfm:=List.mem_of_getElem? hf;have hfs:=yf st (fs.take x.1) S3 fun g hg=>hn400 g (List.mem_of_mem_take hg)
    have htl:=List.length_take (i:=x.1) (l:=fs);have hf4:=hn400 f hfm;refine az (ae (aB (ae (aa (aj (aN (j:=x.1) Tryz.underlying25 fX J J (aK (k:=3) J) (by first|rfl|omega) (by first|omega|(simp;done)|(simp;omega))) J (aj (aJ fX J J J (bv (aK (k:=3) J) (by intro _;rfl) hf (by rfl))) J (aT fX J J fun b9=>av (k:=9) fX J J J J J J (ai (aa (aj (ac J) J (aj (aJ fX J J J (aR (k:=9) J)) J (aQ 0 8 J (lr hfm) ?_))))))))))));refine au (xs:= [.tmp 62,.tmp 63]) (BA (⟨b20,vp,b18,x.2.1,c.m,x.2.2⟩:Ga) c st J f (hry f hfm) (hg.2 f hfm) (qy st (fs.take x.1) S3) ⟨(hbd f.name).1,by have:=zZ st (fs.take x.1) S3;have:=(hbd f.name).2;omega⟩ (by omega)) Q6 [20] [(false,8),(true,70),(true,18)] [20] J J J J J J J J (fun _ _=>J) (fun _ _ _=>J) J (fun bo _=> ?_);refine ai (aa (aj (am J J (aX (by first|exact aU (by omega) (by omega)|rfl))) J (aj (ac J) J (ai ?_))));refine aL (x.1+1,some bo,((qy st (fs.take x.1) S3).labs.length:Int)+1) ⟨by dsimp only;omega,by dsimp only;omega⟩ J (by dsimp only;rw [wa S3 hf];rfl) J
   ·(try simp only [aV]at h3)
    have hi:x.1=fs.length:=by omega
    rw [hi,List.take_length];have hfs:=yf st fs S3 hn400;have hall:yh fs=qy st fs S3:=by rw [hS3,hS0,hst];rfl
    have hcg:mV (qy st fs S3).labs (qy st fs S3).fixes (qy st fs S3).code=fk fs:=by rw [←hall];rfl
    refine bn (ae (aa (aj (ac J) J (au (xs:= [.tmp 66]) (vW (⟨b20,vp,b18,x.2.1,c.m,x.2.2⟩:Ga) (qy st fs S3) (by rw [←hall];exact hok) (by omega) (by rw [←hall];exact G9 fs)) Q5 [20] [] [] J J J J J J J J (fun _ _=>J) (fun _ _ _=>J) J (fun _ _=> ?_)))));rw [hcg];refine aj (ag J) J (ai (ae (ae (aa (aj (ac J) J (aj (cd Tryz.underlying9 J) J (aj (am J J dL) J (ai (ar J (fun h4=> ?_) (fun h4=> ?_))))))))))
    ·(try simp only [aV]at h4)
     have hbig:(fk fs).length*4>7936:=by rw [fU,eK]at h4;omega
     rw [show BM fs=(0,oNil,30)from(if_neg (by omega)).trans (if_pos hbig)];refine ae (aa (aj (aP (parts:= []) re JR J J) J (av (k:=2) re J J J J J J (aj (ag J) J (ai (aw (aG () trivial J (F5 (aW re J J J (aR (k:=2) J)) (aH J)) J [] [] J J J)))))))
    ·(try simp only [aV]at h4)
     have hbig:¬(fk fs).length*4>7936:=by rw [fU,eK]at h4;omega
     rw [show BM fs=(2,jY (dl (fk fs)),0)from(if_neg (by omega)).trans (if_neg hbig)];refine az (ae (aa (aj (ac J) J (aj (aP (parts:= [(0,.const (.int .i64 2)),(1,.tmp 72)]) re JR J J) J (av (k:=2) re J J J J J J (aj (ag J) J (ai (aw (aG () trivial J (F5 (aW re J J J (aR (k:=2) J)) (aH J)) J [] [] J J J)))))))))
theorem gj(vp:SV)(fs:List Tf)(hg:GP fs){k e:Int}{t:ByteArray}(h:BM fs=(k,t,e)):
  Spec Tryz.prog 15 [.agg #[sv vp]] [] [cm vp fs] (X:=Unit) (fun _=>True) (fun _=> .tuple #[.agg #[.int .i64 k,.string t],.int .i64 e]) (fun _=> []) (fun _=> []):=by
 have:=uq vp fs hg;rw [h]at this;exact this
theorem Fu{fs:List Tf}{f:Tf}(h:jI fs f=0):f.ps.length+cD f.body≤12:=by
 obtain⟨h1,h2⟩:=bl.1 h;have hb:¬(f.ps.length>4∨f.ps.length+cD f.body>12∨cl f.body>400∨cS 1 f.body=true):=fun hb=>by
  rw [if_pos hb]at h1;exact absurd h1 (by decide)
 simp only [not_or]at hb;omega
theorem ui{fs:List Tf}{f:Tf}(h:Fine fs f):(fs.map Tf.name).Nodup∧fs≠ []:=⟨zx h.once,fun h2=>by have:=h.main;rw [h2]at this;cases this⟩
theorem tn{code:List Qi}:∀{n:Nat}{c c':Qs},rn code n c c'→c'.out.length≤c.out.length+n
 | 0,c,c',h=>by
  have:c=c':=h;subst this;exact Nat.le_refl _
 | n+1,c,c',h=>by
  obtain⟨i,c1,-,h2,h3⟩:=h;have h4:=tn h3;have h5:c1.out.length≤c.out.length+1:=by
   by_cases ho:i.op=48
   ·rcases oJ h2 ho with⟨-,q⟩|⟨-,q⟩
    ·rw [q];show(c.out++ [c.r 1]).length≤_;rw [List.length_append];exact Nat.le_refl _
    ·rw [q];show c.out.length≤_;omega
   ·rw [(Cu h2 ho).2];omega
  omega
theorem ml{fs:List Tf}(hg:GP fs)(hc:fq fs=0)(hl:(fk fs).length≤1984)(vin:SV){ins:List Int}(hi:∀x∈ins,oW x){fuel:Int}(hf:0≤fuel∧fuel≤1000000){ru:Ru}(hr:RunIs fs ins fuel ru){most:Int}(hm:100*fuel+150<most∧most<1000000000)(h25:ru.err≠25):
  ∃t out mem,Spec Tryz.prog 25 [.string (jY (dl (fk fs))),sv vin,.int .i64 most] [] [sl 1 eU (sv vin) ins] (X:=SV×SV) (fun _=>True) (fun x=> .agg #[sv x.1,sv x.2,.int .i64 t,.int .u32 0]) (fun x=> [own 41 1 eU (sv x.1) out,own 41 1 eU (sv x.2) mem]) (fun _=> [])∧
   (out.length≤1000000000∧mem.length≤1000000000)∧(ru.err=0→t=4∧out=ru.out∧mem=ru.mem)∧(ru.err=26→t=3):=by
 obtain⟨f,hfn⟩:=jg hg hc;obtain⟨hnd,hne⟩:=ui hfn;have hz:=t7 fs hnd hne;rw [hz]at hl ⊢;have hva:=KE (Fh hg (fun f hf=>Fu (hfn.each f hf)) hl);cases hr with
 | bad h=>exact absurd hc h
 | run f2 g r h hf2 he=>
  have:f2=f:=by
   have:=hfn.main;rw [hf2]at this;exact Option.some.inj this
  subst this;have hp:=Gd hg hfn (IN hc) hl hi hf.1 (by omega) he;cases r with
  | ok v s1=>
   obtain⟨h1,k,c',h2,h3,h4,h5,h6⟩:=hp;refine⟨4,c'.out,qk c'.m 256,od hl hva vin ins hi h3 h4 (.inl J) most ⟨by omega,hm.2⟩,⟨by have:=tn h3;have e:(⟨0,fun _=>0,fun _=>0,ins,[]⟩:Qs).out.length=0:=J;omega,by rw [qj];decide⟩,fun _=>⟨J,h5,?_⟩,fun h=>absurd h (by show ¬(0:Int)=26;decide)⟩;show qk c'.m 256=(List.range 256).map s1.mem;unfold qk;exact List.map_congr_left fun i hi=>h6 i (List.mem_range.1 hi)
  | err e=>
   have he2:=(yq g).2.2.1 _ _ _ _ _ _ he;have h26:e=26:=he2.resolve_left h25;subst h26;obtain⟨k,c',h2,h3,h4⟩:=hp J;have h4:(iF fs)[c'.pc]?=some ⟨49,0,0,0,0⟩:=h4;exact⟨3,c'.out,qk c'.m 256,od hl hva vin ins hi h3 h4 (.inr J) most ⟨by omega,hm.2⟩,⟨by have:=tn h3;have e:(⟨0,fun _=>0,fun _=>0,ins,[]⟩:Qs).out.length=0:=J;omega,by rw [qj];decide⟩,fun h=>absurd h (by show ¬(26:Int)=0;decide),fun _=>J⟩
theorem vG{fs:List Tf}(hg:GP fs)(hc:fq fs=0)(hl:¬(fk fs).length≤1984):l_ fs>120:=by
 obtain⟨f,hfn⟩:=jg hg hc;obtain⟨hnd,hne⟩:=ui hfn;rw [t7 fs hnd hne]at hl;by_cases h:l_ fs≤120
 ·exact absurd (yC hfn h) hl
 ·omega
theorem HE{fs:List Tf}(hg:GP fs)(hc:fq fs=0):jY (dl (fk fs))≠oNil:=fun h=>by
 obtain⟨f,hfn⟩:=jg hg hc;obtain⟨hnd,hne⟩:=ui hfn;have h1:=congrArg ByteArray.size h;rw [fU,eK,t7 fs hnd hne,uE]at h1;have h2:oNil.size=0:=J;omega
theorem BH(vp vin:SV)(fs:List Tf)(ins:List Int)(hg:GP fs)(hc:fq fs=0)(hi:∀x∈ins,oW x)(hil:ins.length≤1000000)(hl:¬(fk fs).length≤1984):
  Spec Tryz.prog 22 [.agg #[sv vp],sv vin] [] [cm vp fs,sl 1 eU (sv vin) ins] (X:=Unit) (fun _=>True) (fun _=> .bool true) (fun _=> []) (fun _=> []):=by
 refine aF Tryz.func22 J Tryz.ntmps22 J fun w0 M H=> ?_
 have hcm:BM fs=(0,oNil,30):=by
  unfold BM;rw [if_neg (by omega),if_pos (by omega)]
 have hbig:=vG hg hc hl;refine ae (aa (bN J J fun b2=>aj (ag J) J (ai (ae (aa (aj (aJ iZ J J J (aR (k:=2) J)) J (au (xs:= [.tmp 10]) (gj vp fs hg hcm) BQ [] [(false,0)] [] J J J J J J J J (fun _ _=>J) (fun _ _ _=>J) J (fun _ _=>aj (ac J) J (aj (bV J J) J (aj (bV J J) J (aT re J J fun b5=>av (k:=5) re J J J J J J ?_)))))))))));refine aj (ag J) J (ai (ae (ae (aa (aj (ac J) J (aj (am J J aS) J (ai (ar J (fun h1=> ?_) (fun h1=> ?_)))))))))
 ·(try simp only [aV]at h1)
  refine ae (aa (aj (aJ iZ J J J (aR (k:=2) J)) J (au (xs:= [.tmp 16]) (xN vp fs hg) Rd [] [(false,0)] [] J J J J J J J J (fun _ _=>J) (fun _ _ _=>J) J (fun _ _=>aj (am J J dL) J (aj (ag J) J (ai (aw (aG () trivial J (bx (aH J)) (by first|rfl|(rw [ho3,ho4];simp;done)|(rw [decide_eq_true (by omega)];done)) [] [] J J J))))))))
 ·exact absurd h1 (by decide)
theorem Hx(vp vin:SV)(fs:List Tf)(ins:List Int)(hg:GP fs)(hc:fq fs=0)(hi:∀x∈ins,oW x)(hil:ins.length≤1000000)(hl:(fk fs).length≤1984):
  Spec Tryz.prog 22 [.agg #[sv vp],sv vin] [] [cm vp fs,sl 1 eU (sv vin) ins] (X:=Unit) (fun _=>True) (fun _=> .bool true) (fun _=> []) (fun _=> []):=by
 refine aF Tryz.func22 J Tryz.ntmps22 J fun w0 M H=> ?_
 have hcm:BM fs=(2,jY (dl (fk fs)),0):=by
  unfold BM;rw [if_neg (by omega),if_neg (by omega)]
 have hnb:(jY (dl (fk fs))=={data:= #[]})=false:=by
  rw [bR];exact decide_eq_false (HE hg hc)
 have hsz:(jY (dl (fk fs))).size≤7936:=by rw [fU,eK];omega
 obtain⟨ru,hru⟩:=CU hg (ins:=ins) (fuel:=800) hi (by decide);have here:=F2 hru hc;refine ae (aa (bN J J fun b2=>aj (ag J) J (ai (ae (aa (aj (aJ iZ J J J (aR (k:=2) J)) J (au (xs:= [.tmp 10]) (gj vp fs hg hcm) BQ [] [(false,0)] [] J J J J J J J J (fun _ _=>J) (fun _ _ _=>J) J (fun _ _=>aj (ac J) J (aj (bV J J) J (aj (bV J J) J (aT re J J fun b5=>av (k:=5) re J J J J J J ?_)))))))))));refine aj (ag J) J (ai (ae (ae (aa (aj (ac J) J (aj (am J J aS) J (ai (ar J (fun h1=> ?_) (fun h1=> ?_)))))))))
 ·exact absurd h1 (by decide)
 ·(try simp only [aV]at h1)
  refine az (ae (ae (aa (aj (ac J) J (aj (am J J cW) J (aj (ac J) J (aA [] J J trivial (fun hg2=>ah Ee J) J (aA [(22,_)] J J ⟨J,trivial⟩ (fun hg3=>ak t3 J J (ap (k:=5) J J)) J (aA [(22,_),(23,_)] J J ⟨J,J,trivial⟩ (fun hg4=>am J J cW) J (aj (aM J J J (by first|exact ax|exact aC|rfl)) J (aj (ac J) J (aA [] J J trivial (fun hg5=>ah iy J) J (aA [(27,_)] J J ⟨J,trivial⟩ (fun hg6=>ak t9 J J (ap (k:=5) J J)) J ?_)))))))))))));refine aA [(27,_),(28,_)] J J ⟨J,J,trivial⟩ (fun hg7=>am J J ci) J (aj (aM J J J (by first|exact ax|exact aC|rfl)) J (aj (ac J) J (aA [] J J trivial (fun hg8=>ah iy J) J (aA [(32,_)] J J ⟨J,trivial⟩ (fun hg9=>ak t9 J J (ap (k:=5) J J)) J (aA [(32,_),(33,_)] J J ⟨J,J,trivial⟩ (fun hg10=>cd Tryz.underlying9 J) J (aA [(32,_),(33,_),(34,_)] J J ⟨J,J,J,trivial⟩ (fun hg11=>am J J dL) J (aj (aM J J J (by first|exact ax|exact aC|rfl)) J (ai (ar J (fun h12=> ?_) (fun h12=> ?_))))))))))
  ·(exfalso;have h0:=h12;rw [hnb]at h0;simp at h0;omega)
  ·(try simp only [aV]at h12)
   refine az (ae (aa (aj (aJ iZ J J J (aR (k:=2) J)) J (aj (ac J) J (au (xs:= [.tmp 37,.tmp 38,.const (.int .i64 800)]) (Ba vp vin fs ins 800 hg hi hil (by decide) ru hru) Q2 [] [(false,0),(false,1)] [30,31] J J J J J J J J (fun _ _=>J) (fun _ _ _=>J) J (fun y _=>aT nC J J fun b7=>av (k:=7) nC J J J J J J (ai (ae (ae (aa (aj (ah Ao J) J (aj (ak ni J J (ap (k:=7) J J)) J ?_))))))))))));refine aj (am J J aS) J (ai (ar J (fun h13=> ?_) (fun h13=> ?_)))
   ·(try simp only [aV]at h13)
    skip;refine ae (aa (aj (ag J) J (ai (aw (aG () trivial J (bx (aH J)) (by first|rfl|(rw [ho3,ho4];simp;done)|(rw [decide_eq_true (by omega)];done)) [] [] J J J)))))
   ·(try simp only [aV]at h13)
    have h25:ru.err≠25:=by omega
    obtain⟨t,out,mem,hsv,⟨hol,hml⟩,ho1,ho2⟩:=ml hg hc hl vin hi (by decide) hru (most:=81010) (by decide) h25;refine az (ae (aa (aj (ah iy J) J (aj (ak t9 J J (ap (k:=5) J J)) J (aj (ac J) J (au (xs:= [.tmp 44,.tmp 45,.const (.int .i64 81010)]) hsv EJ [] [(false,1)] [32,33] J J J J J J J J (fun _ _=>J) (fun _ _ _=>J) J (fun z _=>dv (k:=32) (A':=sl 1 eU (sv z.1) out) J br (dv (k:=33) (A':=sl 1 eU (sv z.2) mem) J br (aT uP J J fun b8=>av (k:=8) uP J J J J J J (ai (ae (ae ?_))))))))))));refine aa (aj (ah Ao J) J (aj (ak ni J J (ap (k:=7) J J)) J (aj (am J J aS) J (ai (ar J (fun h14=> ?_) (fun h14=> ?_))))))
    ·(try simp only [aV]at h14)
     have ht:=ho2 (by omega);subst ht;refine ae (aa (aj (ah nP J) J (aj (dj lR J) J (aj (ak t3 J J (ap (k:=8) J J)) J (aj (am J J aS) J (aj (ag J) J (ai (aw (aG () trivial J (bx (aH J)) (by first|rfl|(rw [ho3,ho4];simp;done)|(rw [decide_eq_true (by omega)];done)) [] [] J J J)))))))))
    ·(try simp only [aV]at h14)
     obtain⟨ht,ho3,ho4⟩:=ho1 (by omega);subst ht;refine az (ae (aa (aj (ah nP J) J (aj (aJ (us:= [.int .i64 4,.int .u32 0]) wP J J J (jd (k:=8) J J)) J (aj (aP (parts:= [(0,.const (.int .i64 4))]) wP JQ J J) J (aj (am J J E3) J (aj (ac J) J (aA [] J J trivial (fun hg15=>ah nR J) J (aA [(59,_)] J J ⟨J,trivial⟩ (fun hg16=>ak oz J J (ap (k:=8) J J)) J (aA [(59,_),(60,_)] J J ⟨J,J,trivial⟩ (fun hg17=>ah Hp J) J (aA [(59,_),(60,_),(61,_)] J J ⟨J,J,J,trivial⟩ (fun hg18=>ak oz J J (ap (k:=7) J J)) J (gM [(59,_),(60,_),(61,_),(62,_)] J J ⟨J,J,J,J,trivial⟩ (fun hg19=>bh (xs:= [.tmp 60,.tmp 62]) (nG z.1 y.1 out ru.out hol) HG [] [(true,32),(true,30)] [] J J J J J J J J (fun _ _=>J) (fun _ _ _=>J)) J (aj (aM J J J (by first|exact ax|exact aC|rfl)) J ?_)))))))))))));refine aj (ac J) J (aA [] J J trivial (fun hg20=>ah nQ J) J (aA [(66,_)] J J ⟨J,trivial⟩ (fun hg21=>ak oz J J (ap (k:=8) J J)) J (aA [(66,_),(67,_)] J J ⟨J,J,trivial⟩ (fun hg22=>ah Ho J) J (aA [(66,_),(67,_),(68,_)] J J ⟨J,J,J,trivial⟩ (fun hg23=>ak oz J J (ap (k:=7) J J)) J (gM [(66,_),(67,_),(68,_),(69,_)] J J ⟨J,J,J,J,trivial⟩ (fun hg24=>bh (xs:= [.tmp 67,.tmp 69]) (nG z.2 y.2 mem ru.mem hml) HG [] [(true,33),(true,31)] [] J J J J J J J J (fun _ _=>J) (fun _ _ _=>J)) J (aj (aM J J J (by first|exact ax|exact aC|rfl)) J (aj (ag J) J (ai (aw (aG () trivial J (bx (aH J)) (by first|rfl|(rw [ho3,ho4];simp;done)|(rw [decide_eq_true (by omega)];done)) [] [] J J J))))))))))
theorem hZ(vp vin:SV)(fs:List Tf)(ins:List Int)(hg:GP fs)(hc:fq fs=0)(hi:∀x∈ins,oW x)(hil:ins.length≤1000000):
  Spec Tryz.prog 22 [.agg #[sv vp],sv vin] [] [cm vp fs,sl 1 eU (sv vin) ins] (X:=Unit) (fun _=>True) (fun _=> .bool true) (fun _=> []) (fun _=> []):=by
 by_cases hl:(fk fs).length≤1984
 ·exact Hx vp vin fs ins hg hc hi hil hl
 ·exact BH vp vin fs ins hg hc hi hil hl
def sgL:List ByteArray:= [(⟨#[60,61]⟩:ByteArray),(⟨#[62,61]⟩:ByteArray),(⟨#[61,61]⟩:ByteArray),(⟨#[33,61]⟩:ByteArray),(⟨#[60,60]⟩:ByteArray),(⟨#[62,62]⟩:ByteArray),(⟨#[40]⟩:ByteArray),(⟨#[41]⟩:ByteArray),(⟨#[91]⟩:ByteArray),(⟨#[93]⟩:ByteArray),(⟨#[123]⟩:ByteArray),(⟨#[125]⟩:ByteArray),(⟨#[44]⟩:ByteArray),(⟨#[59]⟩:ByteArray),(⟨#[61]⟩:ByteArray),(⟨#[43]⟩:ByteArray),(⟨#[45]⟩:ByteArray),(⟨#[42]⟩:ByteArray),(⟨#[47]⟩:ByteArray),(⟨#[37]⟩:ByteArray),(⟨#[38]⟩:ByteArray),(⟨#[124]⟩:ByteArray),(⟨#[94]⟩:ByteArray),(⟨#[126]⟩:ByteArray),(⟨#[33]⟩:ByteArray),(⟨#[60]⟩:ByteArray),(⟨#[62]⟩:ByteArray)]
def nq(c:Int):Bool:=decide (c=32) || decide (c=9) || decide (c=10) || decide (c=13)
def i9(t:ByteArray):List ByteArray→ByteArray
 | []=>oNil
 | s::r=>if(decide ((s.size:Int)≤(t.size:Int))&&(t.extract 0 s.size==s))=true then s else i9 t r
theorem qFS{t:ByteArray}{l:List ByteArray}{i:Nat}{s:ByteArray}(h:l[i]?=some s):i9 t (l.drop i)=if(decide ((s.size:Int)≤(t.size:Int))&&(t.extract 0 s.size==s))=true then s else i9 t (l.drop (i+1)):=by
 obtain⟨hi,rfl⟩:=List.getElem?_eq_some_iff.1 h;rw [List.drop_eq_getElem_cons hi];rfl
theorem yM(c:Int):
  Spec Tryz.prog 138 [.int .u8 c] [] [] (X:=Unit) (fun _=>True) (fun _=> .bool (nq c)) (fun _=> []) (fun _=> []):=by
 refine aF Tryz.func138 J Tryz.ntmps138 J fun w0 M H=>ae (aa (aj (ag J) J (ai (ae (aa (aj (ac J) J (aj (am J J aS) J (aj (ac J) J (aA [] J J trivial (fun hg1=>ac J) J (aA [(6,_)] J J ⟨J,trivial⟩ (fun hg2=>am J J aS) J (aj (aM J J J (by first|exact ax|exact aC|rfl)) J (aj (ac J) J ?_))))))))))))
 refine aA [] J J trivial (fun hg3=>ac J) J (aA [(10,_)] J J ⟨J,trivial⟩ (fun hg4=>am J J aS) J (aj (aM J J J (by first|exact ax|exact aC|rfl)) J (aj (ac J) J (aA [] J J trivial (fun hg5=>ac J) J (aA [(14,_)] J J ⟨J,trivial⟩ (fun hg6=>am J J aS) J (aj (aM J J J (by first|exact ax|exact aC|rfl)) J (aj (ag J) J (ai (aw (aG () trivial J (bx (aH J)) J [] [] J J J))))))))))
theorem xl:
  Spec Tryz.prog 174 [] [] [] (X:=SV) (fun _=>True) (fun u=>sv u) (fun u=> [own 9 1 eS (sv u) sgL]) (fun _=> []):=by
 refine aF Tryz.func174 J Tryz.ntmps174 J fun w0 M H=>ae (aa (aj (ag J) J (ai (ae (aa ?_)))))
 refine cu eS sgL (parts:= [(0,.const (.string (ByteArray.mk #[60,61]))),(1,.const (.string (ByteArray.mk #[62,61]))),(2,.const (.string (ByteArray.mk #[61,61]))),(3,.const (.string (ByteArray.mk #[33,61]))),(4,.const (.string (ByteArray.mk #[60,60]))),(5,.const (.string (ByteArray.mk #[62,62]))),(6,.const (.string (ByteArray.mk #[40]))),(7,.const (.string (ByteArray.mk #[41]))),(8,.const (.string (ByteArray.mk #[91]))),(9,.const (.string (ByteArray.mk #[93]))),(10,.const (.string (ByteArray.mk #[123]))),(11,.const (.string (ByteArray.mk #[125]))),(12,.const (.string (ByteArray.mk #[44]))),(13,.const (.string (ByteArray.mk #[59]))),(14,.const (.string (ByteArray.mk #[61]))),(15,.const (.string (ByteArray.mk #[43]))),(16,.const (.string (ByteArray.mk #[45]))),(17,.const (.string (ByteArray.mk #[42]))),(18,.const (.string (ByteArray.mk #[47]))),(19,.const (.string (ByteArray.mk #[37]))),(20,.const (.string (ByteArray.mk #[38]))),(21,.const (.string (ByteArray.mk #[124]))),(22,.const (.string (ByteArray.mk #[94]))),(23,.const (.string (ByteArray.mk #[126]))),(24,.const (.string (ByteArray.mk #[33]))),(25,.const (.string (ByteArray.mk #[60]))),(26,.const (.string (ByteArray.mk #[62])))]) Tryz.underlying46 t9 J (by decide) (by intro _;rfl) J (by decide) (by decide) J J J J fun v1=> ?_
 refine aj (ag J) J (ai (aw (aG v1 trivial J (bx (aH J)) J [1] [] J J J)))
theorem A8(t:ByteArray):
  Spec Tryz.prog 139 [.string t] [] [] (X:=Unit) (fun _=>True) (fun _=> .string (i9 t sgL)) (fun _=> []) (fun _=> []):=by
 refine aF Tryz.func139 J Tryz.ntmps139 J fun w0 M H=> ?_
 have hsl:sgL.length=27:=J;refine ae (aa (aj (ag J) J (ai (ae (aa (au (xs:= []) xl N1 [] [] [6] J J J J J J J J (fun _ _=>J) (fun _ _ _=>J) J (fun v6 _=>aj (ag J) J (ai (ae (ae (aa (aj (ag J) J (ai ?_)))))))))))));refine aB (bk (X:=Nat) (fun i=>i≤sgL.length∧i9 t sgL=i9 t (sgL.drop i)) (fun i=> [(0,.string t),(3,sv v6),(4,.int .i64 (i:Int))]) (fun i=> [(6,own 9 1 eS (sv v6) sgL)]) (fun i=> []) (fun i=>sgL.length-i) 0 ⟨Nat.zero_le _,J⟩ J J J (fun i n1=>ae (ae (aa (aj (ac J) J (aj (ac J) J (aj (aO Tryz.underlying46 J (bj (k:=6) J)) J (aj (am J J b_) J (ai (ar J (fun h1=> ?_) (fun h1=> ?_)))))))))))
 ·(try simp only [aV]at h1)
  have hi:i<sgL.length:=by omega
  obtain⟨s,hx⟩:∃s,sgL[i]?=some s:=⟨_,List.getElem?_eq_getElem hi⟩
  have hsx:=qFS (t:=t) hx;refine az (ae (aB (ae (aa (aj (ac J) J (aj (ac J) J (aj (aN (j:=i) Tryz.underlying46 t9 J J (bj (k:=6) J) (by first|rfl|omega) (by first|omega|(simp;done)|(simp;omega))) J (aj (ak t9 J J (bv (bj (k:=6) J) (by intro _;rfl) hx (by rfl))) J (aj (cd Tryz.underlying9 J) J (aj (ag J) J (ai (ae ?_))))))))))));refine bA [18,19,20,21,22,23,24,25,26,27,28,29,30,31] _ J (be (V:= [(0,18,_),(1,19,_),(2,20,_),(3,21,_),(4,22,_),(5,23,_),(6,24,_),(7,25,_),(8,26,_),(9,27,_),(10,28,_),(11,29,_),(12,30,_),(13,31,_)]) [0,1,2,3,4,5,6,7,8,9,10,11,12,13] J J (ad (aD J (ac J)) (ad (aD J (ac J)) (ad (aD J (cd Tryz.underlying9 J)) (ad (aD J (am J J jj)) (ad (aD J (ac J)) (ad (cK [] J J J trivial (fun hg2=>ac J)) (ad (cK [] J J J trivial (fun hg3=>ac J)) (ad (cK [(23,_),(24,_)] J J J ⟨J,J,trivial⟩ (fun hg4=>rG Tryz.underlying9 J J (by omega) (by have q:=of_decide_eq_true hg4;omega))) (ad (cK [] J J J trivial (fun hg5=>ac J)) (ad (cK [] J J J trivial (fun hg6=>ac J)) (ad (cK [(26,_),(27,_)] J J J ⟨J,J,trivial⟩ (fun hg7=>aN (j:=i) Tryz.underlying46 t9 J J (bj (k:=6) J) (by first|rfl|omega) (by first|omega|(simp;done)|(simp;omega)))) (ad (cK [(28,_)] J J J ⟨J,trivial⟩ (fun hg8=>ak t9 J J (bv (bj (k:=6) J) (by intro _;rfl) hx (by rfl)))) (ad (cK [(25,_),(29,_)] J J J ⟨J,J,trivial⟩ (fun hg9=>am J J ci)) (ad (aD J (aM J J J (by first|exact ax|exact aC|rfl))) ay)))))))))))))) J J J ?_);refine ar J (fun h10=> ?_) (fun h10=> ?_)
  ·have hq:(decide ((s.size:Int)≤(t.size:Int))&&(t.extract 0 s.size==s))=true:=h10;rw [n1.2,hsx,if_pos hq];refine ae (aa (aj (ac J) J (aj (ac J) J (aj (aN (j:=i) Tryz.underlying46 t9 J J (bj (k:=6) J) (by first|rfl|omega) (by first|omega|(simp;done)|(simp;omega))) J (aj (ak t9 J J (bv (bj (k:=6) J) (by intro _;rfl) hx (by rfl))) J (aj (ag J) J (ai (aw (aG () trivial J (bx (aH J)) J [] [] J J J)))))))))
  ·have hq:(decide ((s.size:Int)≤(t.size:Int))&&(t.extract 0 s.size==s))=false:=h10;refine az (aa (aj (ac J) J (aj (am J J (aX (by first|exact aU (by omega) (by omega)|rfl))) J (aj (ag J) J (ai ?_)))));refine aL (i+1) ⟨⟨by omega,by rw [n1.2,hsx,if_neg (by rw [hq];decide)]⟩,by omega⟩ J J J
 ·(try simp only [aV]at h1)
  have hi:i=sgL.length:=by omega
  subst hi;rw [n1.2,List.drop_length];refine bn (ae (aa (aj (ag J) J (ai (aw (aG () trivial J (bx (aH J)) J [] [] J J J))))))
structure Tk where
 k:Int
 s:ByteArray
 n:Int
 bad:Bool
 off:Int
deriving DecidableEq
def jG(t:Tk):List Value:= [.int .i64 t.k,.string t.s,.int .u32 t.n,.bool t.bad,.int .i64 t.off]
def iE(s:ByteArray)(i:Nat):Int:=(bc s).getD i 0
def nk(p:Int→Bool)(s:ByteArray):Nat→Nat→Nat
 | 0,i=>i
 | g+1,i=>if p (iE s i)=true then nk p s g (i+1)else i
theorem tk{p:Int→Bool}{s:ByteArray}:∀{g i j:Nat},i+g=s.size→i≤j→j≤s.size→(∀m,i≤m→m<j→p (iE s m)=true)→¬(j<s.size∧p (iE s j)=true)→nk p s g i=j
 | 0,i,j,hg,h1,h2,h3,h4=>by
  show i=j;omega
 | g+1,i,j,hg,h1,h2,h3,h4=>by
  unfold nk;by_cases hij:i=j
  ·subst hij;rw [if_neg (fun h=>h4 ⟨by omega,h⟩)]
  ·rw [if_pos (h3 i (Nat.le_refl _) (by omega))];exact tk (by omega) (by omega) h2 (fun m hm=>h3 m (by omega)) h4
def lN(s:ByteArray)(i:Nat):Nat→Int×Bool
 | 0=>(0,false)
 | m+1=>if 10*(lN s i m).1+(iE s (i+m)-48)≥4294967296 then(4294967296,true)else(10*(lN s i m).1+(iE s (i+m)-48),(lN s i m).2)
structure Tq where
 k:Int
 n:Int
 bad:Bool
 j:Nat
def rh(c:Int):Bool:=mN c || iB c
def fp(s:ByteArray)(i:Nat):Tq:=
 if iB (iE s i)=true then⟨1,wU (lN s i (nk iB s (s.size-i) i-i)).1,(lN s i (nk iB s (s.size-i) i-i)).2,nk iB s (s.size-i) i⟩else
 if mN (iE s i)=true then⟨if(nk rh s (s.size-i) i:Int)-(i:Int)>12 then 4 else if bX (s.extract i (nk rh s (s.size-i) i)) rO=true then 3 else 2,0,false,nk rh s (s.size-i) i⟩else
 ⟨if(i9 (s.extract i s.size) sgL).size=0 then 4 else 3,0,false,i+(i9 (s.extract i s.size) sgL).size⟩
def th(s:ByteArray)(i:Nat):Tk:=⟨(fp s i).k,s.extract i (fp s i).j,(fp s i).n,(fp s i).bad,(i:Int)⟩
def nz(s:ByteArray):Nat→Nat→List Tk→Option (List Tk)
 | 0,_,_=>none
 | g+1,i,acc=>
  if nk nq s (s.size-i) i=s.size then some (acc++ [⟨0,oNil,0,false,(s.size:Int)⟩])else
  if(fp s (nk nq s (s.size-i) i)).k=4 then some (acc++ [th s (nk nq s (s.size-i) i)])else nz s g (fp s (nk nq s (s.size-i) i)).j (acc++ [th s (nk nq s (s.size-i) i)])
theorem Et{c:Int}(h:iB c=true):48≤c∧c≤57:=by
 unfold iB at h;simp only [Bool.and_eq_true,decide_eq_true_eq]at h;omega
theorem Di(s:ByteArray)(i:Nat):∀m,(∀q,q<m→iB (iE s (i+q))=true)→0≤(lN s i m).1∧(lN s i m).1≤4294967296
 | 0,_=>⟨Int.le_refl _,by show(0:Int)≤4294967296;decide⟩
 | m+1,h=>by
  have h1:=Di s i m fun q hq=>h q (by omega)
  have h2:=Et (h m (by omega));unfold lN;split
  ·exact⟨by show(0:Int)≤4294967296;decide,Int.le_refl _⟩
  ·constructor
   ·show 0≤10*(lN s i m).1+(iE s (i+m)-48);omega
   ·show 10*(lN s i m).1+(iE s (i+m)-48)≤4294967296;omega
theorem kj(p:Int→Bool)(s:ByteArray):∀(g i:Nat),i+g=s.size→i≤nk p s g i∧nk p s g i≤s.size
 | 0,i,h=>by unfold nk;omega
 | g+1,i,h=>by
  have:=kj p s g (i+1) (by omega);unfold nk;split<;>omega
theorem CI{p:Int→Bool}{s:ByteArray}{i:Nat}(hi:i<s.size)(h:p (iE s i)=true):i<nk p s (s.size-i) i:=by
 obtain⟨g,hg⟩:∃g,s.size-i=g+1:=⟨s.size-i-1,by omega⟩
 rw [hg];unfold nk;rw [if_pos h];have:=kj p s g (i+1) (by omega);omega
theorem oL(t:ByteArray):∀l,(i9 t l).size≤t.size
 | []=>Nat.zero_le _
 | s::r=>by
  unfold i9;split
  ·rename_i h;simp only [Bool.and_eq_true,decide_eq_true_eq]at h;omega
  ·exact oL t r
theorem Jt{s:ByteArray}{i:Nat}(hi:i<s.size)(hk:(fp s i).k≠4):i<(fp s i).j∧(fp s i).j≤s.size:=by
 unfold fp at hk ⊢;by_cases h1:iB (iE s i)=true
 ·rw [if_pos h1];exact⟨CI hi h1,(kj iB s (s.size-i) i (by omega)).2⟩
 ·rw [if_neg h1]at hk ⊢;by_cases h2:mN (iE s i)=true
  ·rw [if_pos h2];exact⟨CI hi (by unfold rh;rw [h2];rfl),(kj rh s (s.size-i) i (by omega)).2⟩
  ·rw [if_neg h2]at hk ⊢;have h3:=oL (s.extract i s.size) sgL;rw [ByteArray.size_extract]at h3;have h4:¬(i9 (s.extract i s.size) sgL).size=0:=fun h=>hk (if_pos h)
   show i<i+_∧i+_≤s.size;omega
theorem y9{s:ByteArray}{i:Nat}(hi:i<s.size):i≤(fp s i).j∧(fp s i).j≤s.size:=by
 unfold fp;by_cases h1:iB (iE s i)=true
 ·rw [if_pos h1];exact kj iB s (s.size-i) i (by omega)
 ·rw [if_neg h1];by_cases h2:mN (iE s i)=true
  ·rw [if_pos h2];exact kj rh s (s.size-i) i (by omega)
  ·rw [if_neg h2];have h3:=oL (s.extract i s.size) sgL;rw [ByteArray.size_extract]at h3;show i≤i+_∧i+_≤s.size;omega
end Go.Proofs.YtedmdgbmdplifaaGreat
