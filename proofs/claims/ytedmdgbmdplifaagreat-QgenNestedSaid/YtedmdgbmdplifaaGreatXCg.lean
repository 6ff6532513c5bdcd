/-
  Part of the proof: the texts PC, PD, PE, PF, PG, PH, EL, EM, EN, EO, EQ, ER, EP, ES, ET, M3, EU, T0, T1, shortened. Conditions are with the theorems.
-/
import Derived.Test.YtedmdgbmdplifaaGreatXCa
import Derived.Test.YtedmdgbmdplifaaGreatXCb
import Derived.Test.YtedmdgbmdplifaaGreatXCc
import Derived.Test.YtedmdgbmdplifaaGreatXCd
import Derived.Test.YtedmdgbmdplifaaGreatXCe
import Derived.Test.YtedmdgbmdplifaaGreatXCf
set_option maxHeartbeats 32000000
set_option maxRecDepth 100000
namespace Go.Proofs.YtedmdgbmdplifaaGreat
set_option linter.unusedSimpArgs false
set_option linter.unusedVariables false
open Go.RowKit Tryz
theorem KO{b:Int}(hb:oW b):bits .and .u32 b 255=b%256:=by
 have h1:bits .and .u32 b 255=IntKind.u32.wrap (((BitVec.ofInt 32 b&&&BitVec.ofInt 32 255).toNat:Nat):Int):=J;have h4:=hb.1;have h5:=hb.2;have h2:(BitVec.ofInt 32 b).toNat=b.toNat:=by
  rw [BitVec.toNat_ofInt,Int.emod_eq_of_lt hb.1 (by omega)]
 have h3:(BitVec.ofInt 32 255).toNat=2^8-1:=by decide
 rw [h1,BitVec.toNat_and,h2,h3,Nat.and_two_pow_sub_one_eq_mod,bK (by omega) (by omega)];omega
structure St(d F sp:Int)(c:Qs):Prop where
 z:c.r 0=0
 d:c.r 12=d
 f:c.r 13=F
 s:c.r 14=sp
theorem St.of{d F sp:Int}{c c':Qs}(h:St d F sp c)(hk:∀k:Int,k=0∨k=12∨k=13∨k=14→c'.r k=c.r k):St d F sp c':=
 ⟨(hk 0 (by simp)).trans h.z,(hk 12 (by simp)).trans h.d,(hk 13 (by simp)).trans h.f,(hk 14 (by simp)).trans h.s⟩
theorem St.kr{d F sp:Int}{c c':Qs}{ks:List Int}(h:St d F sp c)(hk:Kr ks c c')(hn:∀k∈ks,¬(k=0∨k=12∨k=13∨k=14)):St d F sp c':=
 h.of fun k hk'=>hk.r k fun hm=>hn k hm hk'
structure pSm(c:Qs)(s:Ms):Prop where
 m:∀i:Nat,i<256→c.m (8192+4*(i:Int))=s.mem i
 i:c.inp=s.inp
 o:c.out=s.out
theorem pSm.kr{c c':Qs}{s:Ms}{ks:List Int}(h:pSm c s)(hk:Kr ks c c'):pSm c' s:=⟨fun i hi=>by rw [hk.m];exact h.m i hi,hk.i.trans h.i,hk.o.trans h.o⟩
def va(o:Om)(F:Int)(x:ByteArray):Int:=wU (F+bC o x)
structure Fs(o:Om)(N:List ByteArray)(F sp:Int):Prop where
 ok:∀x∈N,zh (va o F x)∧sp≤va o F x
 inj:∀x∈N,∀y∈N,va o F x=va o F y→x=y
def Fr(o:Om)(N:List ByteArray)(vs:Vs)(F:Int)(m:Int→Int):Prop:=∀x∈N,m (va o F x)=gM vs x
def lo(d:Nat):Int:=16384-256*d
structure Pr(o:Om)(N:List ByteArray)(vs:Vs)(d:Nat)(F sp:Int)(s:Ms)(c:Qs):Prop where
 st:St d F sp c
 fs:Fs o N F sp
 fr:Fr o N vs F c.m
 sm:pSm c s
 ok:okMs s
 vs:okVs vs
 al:sp%4=0∧sp≤16384
 fu:0≤s.fuel
 d1:1≤d∧d≤12
structure XO(fs:List Tf)(N:List ByteArray)(t:Tx):Prop where
 g:GX t
 r:rX t=true
 e:eX fs N t=0
theorem XO.kids{fs:List Tf}{N:List ByteArray}{k n:Int}{nm:ByteArray}{v:SV}{kids:List Tx}(h:XO fs N (.mk k n nm v kids)):∀u∈kids,XO fs N u:=by
 have hr:=h.r;have he:=h.e;have hg:=h.g;have hr2:(oK k nm kids.length&&(decide (k=1) || decide (n=0))&&oI kids)=true:=hr;simp only [Bool.and_eq_true]at hr2;have he2:iF fs N kids=0:=(bw.1 he).2;have hg2:GXs kids:=hg.2.2.2;clear he hr hg h;have:∀l:List Tx,GXs l→oI l=true→iF fs N l=0→∀u∈l,XO fs N u:=by
  intro l
  induction l with
  | nil=>intro _ _ _ u hu;simp at hu
  | cons t l ih=>
   intro h1 h2 h3 u hu;have h2':(rX t&&oI l)=true:=h2;rw [Bool.and_eq_true]at h2';obtain⟨h4,h5⟩:=bw.1 h3;rcases List.mem_cons.1 hu with rfl|hu
   ·exact⟨h1.1,h2'.1,h4⟩
   ·exact ih h1.2 h2'.2 h5 u hu
 exact this kids hg2 hr2.2 he2
theorem Pr.of{o:Om}{N:List ByteArray}{vs:Vs}{d:Nat}{F sp sp':Int}{s s':Ms}{c c':Qs}(h:Pr o N vs d F sp s c)(hst:St d F sp' c')(hsm:pSm c' s')(hok:okMs s')(hfu:0≤s'.fuel)(hm:∀a,sp≤a→c'.m a=c.m a)(hs:sp'≤sp)(ha:sp'%4=0):
  Pr o N vs d F sp' s' c':=
 ⟨hst,⟨fun x hx=>⟨(h.fs.ok x hx).1,Int.le_trans hs (h.fs.ok x hx).2⟩,h.fs.inj⟩,fun x hx=>(hm _ (h.fs.ok x hx).2).trans (h.fr x hx),hsm,hok,h.vs,⟨ha,by have:=h.al;omega⟩,hfu,h.d1⟩
theorem Pr.pay{o:Om}{N:List ByteArray}{vs:Vs}{d:Nat}{F sp:Int}{s:Ms}{c:Qs}(h:Pr o N vs d F sp s c)(hf:¬s.fuel≤0):Pr o N vs d F sp {s with fuel:=s.fuel-1} c:=
 ⟨h.st,h.fs,h.fr,⟨h.sm.m,h.sm.i,h.sm.o⟩,(Kp.pay h.ok hf).ok,h.vs,h.al,by dsimp only;omega,h.d1⟩
def Bk(code:List Qi)(c:Qs):Prop:=code[c.pc]?=some ⟨49,0,0,0,0⟩
def XR(code:List Qi)(p':Nat)(d:Nat)(F sp:Int)(c:Qs)(s:Ms):Re Int→Prop
 | .ok v s1=>0≤s1.fuel∧Go code (100*(s.fuel-s1.fuel)-40) c fun c'=>c'.pc=p'∧c'.r 1=v∧St d F sp c'∧pSm c' s1∧∀a,sp≤a→c'.m a=c.m a
 | .err e=>e=26→Go code (100*s.fuel+50) c (Bk code)
def KR(code:List Qi)(p':Nat)(d:Nat)(F sp:Int)(c:Qs)(s:Ms)(acc:List Int)(n:Nat):Re (List Int)→Prop
 | .ok ks s1=>0≤s1.fuel∧∃new,ks=acc++new∧new.length=n∧Go code (100*(s.fuel-s1.fuel)) c fun c'=>c'.pc=p'∧St d F (sp-4*(n:Int)) c'∧pSm c' s1∧(∀a,sp≤a→c'.m a=c.m a)∧∀(i:Nat) x,new[i]?=some x→c'.m (sp-4*((i:Int)+1))=x
 | .err e=>e=26→Go code (100*s.fuel+50) c (Bk code)
def CR(code:List Qi)(q:Nat)(d:Nat)(F sp:Int)(n:Nat)(c:Qs)(s:Ms):Re Int→Prop
 | .ok v s1=>0≤s1.fuel∧Go code (100*(s.fuel-s1.fuel)+45) c fun c'=>c'.pc=q∧c'.r 1=v∧St d F sp c'∧pSm c' s1∧∀a,sp+4*(n:Int)≤a→c'.m a=c.m a
 | .err e=>e=26→Go code (100*s.fuel+100) c (Bk code)
section
variable(code:List Qi)(fs:List Tf)(S:ByteArray→Int)
def HX(g:Nat):Prop:=∀(d:Nat) vs t s r,eo g fs d vs t s=some r→∀o N p F sp c,XO fs N t→cAt code p (zX o S t p)→p+wX t≤1984→c.pc=p→Pr o N vs d F sp s c→lo d+16*dX t≤sp→XR code (p+wX t) d F sp c s r
def HK(g:Nat):Prop:=∀(d:Nat) vs acc l s r,fY g fs d vs acc l s=some r→∀o N p F sp c,(∀u∈l,XO fs N u)→cAt code p (wI o S l p)→p+qV l≤1984→c.pc=p→Pr o N vs d F sp s c→lo d+16*ft l+4*l.length≤sp→KR code (p+qV l) d F sp c s acc l.length r
def HC(g:Nat):Prop:=∀(d:Nat) f al s r,jR g fs d f al s=some r→∀F sp c q,cm fs f.name=some f→al.length=f.ps.length→(∀a∈al,oW a)→c.pc=(S f.name).toNat→c.r 15=gU q→q<3000→St d F sp c→pSm c s→okMs s→0≤s.fuel→
 sp%4=0→sp+4*al.length≤16384→lo d≤sp→d≤12→(∀(i:Nat) x,al[i]?=some x→c.m (sp+4*((al.length:Int)-1-i))=x)→CR code q d F sp al.length c s r
end
theorem vw{g:Nat}{fs:List Tf}{d:Nat}{vs:Vs}{acc:List Int}{t:Tx}{l:List Tx}{s:Ms}{r:Re (List Int)}(h:fY g fs d vs acc (t::l) s=some r):
  ∃g' rx,g'<g∧eo g' fs d vs t s=some rx∧((∃v s1,rx= .ok v s1∧fY g' fs d vs (acc++ [v]) l s1=some r)∨∃e,rx= .err e∧r= .err e):=by
 cases g with
 | zero=>simp [fY]at h
 | succ g=>
  rw [fY]at h;cases hx:eo g fs d vs t s with
  | none=>rw [hx]at h;simp at h
  | some q=>
   rw [hx]at h;refine⟨g,q,Nat.lt_succ_self g,hx,?_⟩;cases q with
   | err e=>exact .inr ⟨e,rfl,(Option.some.inj h).symm⟩
   | ok v s1=>exact .inl ⟨v,s1,rfl,h⟩
theorem xG{g:Nat}{fs:List Tf}{d:Nat}{vs:Vs}{acc:List Int}{s:Ms}{r:Re (List Int)}(h:fY g fs d vs acc [] s=some r):r= .ok acc s:=by
 cases g with
 | zero=>simp [fY]at h
 | succ g=>rw [fY]at h;exact(Option.some.inj h).symm
section
variable{code:List Qi}{c:Qs}{p:Nat}{d F sp:Int}
theorem kL{r:Int}(hc:cAt code p (eK r))(hpc:c.pc=p)(h:St d F sp c)(hr:r≠14)(hs:8196≤sp∧sp≤16384∧sp%4=0):
  Go code 2 c fun c'=>c'.pc=p+2∧St d F (sp-4) c'∧c'.m=mw c.m (sp-4) (c.r r)∧c'.inp=c.inp∧c'.out=c.out∧∀k,k≠14→c'.r k=c.r k:=by
 refine iS hpc hc.head.1 (v:=sp-4) (by
  show some (wU (c.r 14+4294967292))=_;rw [h.s,nR];exact congrArg some (by omega)) fun c1 e1 e2 e3 e4 e5=> ?_
 have h14:c1.r 14=sp-4:=by rw [e2];exact dl (by decide)
 have hw:wU (c1.r 14+0)=sp-4:=by rw [h14,Int.add_zero,fE (by omega)]
 have hk:∀k,k≠14→c1.r k=c.r k:=fun k hk=>by rw [e2];exact cj hk
 refine xJ (d:=r) (a:=14) (x:=0) (by rw [e1];exact hc.head.2.head.1) (by rw [hw];exact⟨by omega,by omega,by omega⟩) (Go.done (by decide) ⟨by show c1.pc+1=_;rw [e1],⟨(hk 0 (by decide)).trans h.z,(hk 12 (by decide)).trans h.d,(hk 13 (by decide)).trans h.f,h14⟩,?_,e4,e5,hk⟩);show mw c1.m (wU (c1.r 14+0)) (c1.r r)=_;rw [hw,e3,hk r hr]
theorem tw{r:Int}(hc:cAt code p (j7 r))(hpc:c.pc=p)(h:c.r 14=sp)(hr:r≠14∧r≠0)(hs:zh sp):
  Go code 2 c fun c'=>c'.pc=p+2∧c'.r r=c.m sp∧c'.r 14=sp+4∧Kr [r,14] c c':=by
 have hw:wU (c.r 14+0)=sp:=by rw [h,Int.add_zero,fE ⟨by have:=hs.1;omega,by have:=hs.2.1;omega⟩]
 refine xK (d:=r) (a:=14) (x:=0) (by rw [hpc];exact hc.head.1) (by rw [hw];exact hs) ?_;rw [hw];refine iS (p:=p+1) (by rw [←hpc]) hc.head.2.head.1 (v:=sp+4) (by
  show some (wU (rp c.r r (c.m sp) 14+4))=_;rw [cj (fun e=>hr.1 e.symm),h,fE ⟨by have:=hs.1;omega,by have:=hs.2.1;omega⟩]) fun c1 e1 e2 e3 e4 e5=> ?_
 refine Go.done (by decide) ⟨e1,by rw [e2,cj hr.1];exact dl hr.2,by rw [e2];exact dl (by decide),e3,e4,e5,fun k hk=> ?_⟩;simp only [List.mem_cons,List.not_mem_nil,or_false,not_or]at hk;rw [e2,cj hk.2];exact cj hk.1
theorem Aa{r x:Int}(hc:cAt code p (rV r))(hpc:c.pc=p)(hr:r≠0)(h:c.r r=x)(hx:oW x):
  Go code 2 c fun c'=>c'.pc=p+2∧c'.r r=4*(x%256)∧Kr [r] c c':=by
 refine iS hpc hc.head.1 (v:=x%256) (by
  show some (bits .and .u32 (c.r r) 255)=_;rw [h,KO hx]) fun c1 e1 e2 e3 e4 e5=> ?_
 refine iS e1 hc.head.2.head.1 (v:=4*(x%256)) (by
  show some (wU (c1.r r*2^((2:Int)%32).toNat))=_;rw [e2,dl hr,show((2:Int)^((2:Int)%32).toNat)=4 from J,fE (by omega)];exact congrArg some (by omega)) fun c2 f1 f2 f3 f4 f5=> ?_
 refine Go.done (by decide) ⟨f1,by rw [f2];exact dl hr,f3.trans e3,f4.trans e4,f5.trans e5,fun k hk=> ?_⟩;simp only [List.mem_cons,List.not_mem_nil,or_false]at hk;rw [f2,cj hk,e2];exact cj hk
end
theorem CD{r:Int→Int}{v k:Int}:rp r 0 v k=r k:=if_neg fun h=>h.2 rfl
theorem sj{d:Nat}(h:d≤12):13312≤lo d:=by unfold lo;omega
theorem jf{m:Int→Int}{a v k:Int}(h:k≠a):mw m a v k=m k:=if_neg h
theorem n_{m:Int→Int}{a v:Int}:mw m a v a=v:=if_pos rfl
theorem pSm.push{c c':Qs}{s:Ms}{a v:Int}(h:pSm c s)(hm:c'.m=mw c.m a v)(hi:c'.inp=c.inp)(ho:c'.out=c.out)(ha:9216≤a):pSm c' s:=
 ⟨fun i hi=>by rw [hm,jf (by omega)];exact h.m i hi,hi.trans h.i,ho.trans h.o⟩
section
variable{code:List Qi}{fs:List Tf}{S:ByteArray→Int}{c:Qs}{p:Nat}{d:Nat}{F sp:Int}{o:Om}{N:List ByteArray}{vs:Vs}{s:Ms}
theorem Hs{g1 g2:Nat}{a b:Tx}{nm:ByteArray}{r1:Re Int}{w:Nat}(hF:VF fs)(h1:HX code fs S g1)(h2:HX code fs S g2)(hb:gI nm=true)(ha:eo g1 fs d vs a s=some r1)(hva:VX fs a)(hvb:VX fs b)
  (hxa:XO fs N a) (hxb:XO fs N b) (hc:cAt code p (zX o S a p++(eK 1++(zX o S b (p+(zX o S a p).length+2)++(j7 2++AA nm))))) (hw:w=wX a+(wX b+(4+(AA nm).length))) (hl:p+w≤1984) (hpc:c.pc=p) (hp:Pr o N vs d F sp s c) (hs1:lo d+16*dX a≤sp) (hs2:lo d+16*dX b+4≤sp)
  {r:Re Int} (hr:(∃v s1,r1= .ok v s1∧∃r2,eo g2 fs d vs b s1=some r2∧((∃x s2,r2= .ok x s2∧r= .ok ((nn nm v x).getD 0) s2)∨∃e,r2= .err e∧r= .err e))∨∃e,r1= .err e∧r= .err e):
  XR code (p+w) d F sp c s r:=by
 have hd:=sj hp.d1.2;obtain⟨hca,hc⟩:=hc.app;obtain⟨hcp,hc⟩:=hc.app;obtain⟨hcb,hc⟩:=hc.app;obtain⟨hcq,hco⟩:=hc.app;rw [fO]at hcp hcb hcq hco;rw [fO]at hcq hco;have hX:=h1 d vs a s r1 ha o N p F sp c hxa hca (by omega) hpc hp hs1;rcases hr with⟨v,s1,rfl,r2,hb2,hr⟩|⟨e,rfl,rfl⟩
 ·obtain⟨hv,hk1⟩:=(eB hF g1).x d vs a s v s1 hva hp.vs hp.ok ha;obtain⟨hf1,hX⟩:=hX;have mid:∀c',(c'.pc=p+wX a∧c'.r 1=v∧St d F sp c'∧pSm c' s1∧∀x,sp≤x→c'.m x=c.m x)→Go code 2 c' fun c2=>c2.pc=p+wX a+2∧Pr o N vs d F (sp-4) s1 c2∧c2.m (sp-4)=v∧∀x,sp≤x→c2.m x=c.m x:=fun c' ⟨e1,e2,e3,e4,e5⟩=>
   (kL hcp e1 e3 (by decide) ⟨by omega,hp.al.2,hp.al.1⟩).weak (fun c2 ⟨f1,f2,f3,f4,f5,f6⟩=>by
    have hm:∀x,sp≤x→c2.m x=c.m x:=fun x hx=>by rw [f3,jf (by omega)];exact e5 x hx
    exact⟨f1,hp.of f2 (e4.push f3 f4 f5 (by omega)) hk1.ok hf1 hm (by omega) (by have:=hp.al;omega),by rw [f3,n_,e2],hm⟩) (Int.le_refl _)
  have hX2:=hX.seq mid (k:=100*(s.fuel-s1.fuel)-38) (by omega);rcases hr with⟨x,s2,rfl,rfl⟩|⟨e,rfl,rfl⟩
  ·obtain⟨hx,hk2⟩:=(eB hF g2).x d vs b s1 x s2 hvb hp.vs hk1.ok hb2;obtain⟨hf2,-⟩:0≤s2.fuel∧True:=by
    obtain⟨_,c2,_,_,e1,e2,e3,e4⟩:=hX2;have:=h2 d vs b s1 _ hb2 o N (p+wX a+2) F (sp-4) c2 hxb hcb (by omega) e1 e2 (by omega);exact⟨this.1,O⟩
   refine⟨hf2,hX2.seq (m:=100*(s1.fuel-s2.fuel)-33) (fun c2 ⟨e1,e2,e3,e4⟩=> ?_) (by omega)⟩;have hX3:=(h2 d vs b s1 _ hb2 o N (p+wX a+2) F (sp-4) c2 hxb hcb (by omega) e1 e2 (by omega)).2;refine hX3.seq (m:=7) (fun c3 ⟨f1,f2,f3,f4,f5⟩=> ?_) (by omega);refine(tw (p:=p+wX a+2+wX b) (r:=2) hcq f1 f3.s (by decide) ⟨by omega,by have:=hp.al;omega,by have:=hp.al;omega⟩).seq (m:=5) (fun c4 ⟨g1,g2,g3,g4⟩=> ?_) (by omega);have h0:c4.r 0=0:=(g4.r 0 (by decide)).trans f3.z;have h2':c4.r 2=v:=by rw [g2,f5 _ (Int.le_refl _),e3]
   have h1':c4.r 1=x:=(g4.r 1 (by decide)).trans f2;refine(Mk (p:=p+wX a+2+wX b+2) hb hco (by omega) g1 h0 h2' h1' hv hx).weak (fun c5 ⟨k1,k2,k3⟩=>⟨by rw [k1];omega,k2,?_,(f4.kr g4).kr k3,fun a ha=> ?_⟩) (Int.le_refl _)
   ·exact⟨(k3.r 0 (by decide)).trans h0,((k3.r 12 (by decide)).trans (g4.r 12 (by decide))).trans f3.d,((k3.r 13 (by decide)).trans (g4.r 13 (by decide))).trans f3.f,((k3.r 14 (by decide)).trans g3).trans (by omega)⟩
   ·rw [k3.m,g4.m,f5 a (by omega),e4 a ha]
  ·intro he;refine hX2.seq (m:=100*s1.fuel+50) (fun c2 ⟨e1,e2,e3,e4⟩=> ?_) (by omega);exact h2 d vs b s1 _ hb2 o N (p+wX a+2) F (sp-4) c2 hxb hcb (by omega) e1 e2 (by omega) he
 ·exact hX
end
section
variable{code:List Qi}{fs:List Tf}{S:ByteArray→Int}
structure HA(code:List Qi)(fs:List Tf)(S:ByteArray→Int)(g:Nat):Prop where
 x:∀g'<g,HX code fs S g'
 k:∀g'<g,HK code fs S g'
 c:∀g'<g,HC code fs S g'
theorem XO.vx{N:List ByteArray}{t:Tx}(h:XO fs N t):VX fs t:=Hv t h.g h.r h.e
theorem XO.vxs{N:List ByteArray}:∀{l:List Tx},(∀u∈l,XO fs N u)→VXs fs l
 | [],_=>trivial
 | t::r,h=>⟨(h t (by simp)).vx,XO.vxs fun u hu=>h u (by simp [hu])⟩
theorem Gr{g:Nat}(hF:VF fs)(ih:HA code fs S g):HK code fs S g:=by
 intro d vs acc l s r h o N p F sp c hx hc hl hpc hp hsp;have hd:=sj hp.d1.2;cases l with
 | nil=>
  rw [xG h];refine⟨hp.fu,[],by simp,rfl,Go.done (by omega) ⟨by rw [hpc];rfl,?_,hp.sm,fun _ _=>rfl,fun i x hi=>by simp at hi⟩⟩;rw [show sp-4*(([]:List Tx).length:Int)=sp by simp];exact hp.st
 | cons t l=>
  obtain⟨g',rx,hg,hx1,hr⟩:=vw h;have hdx:ft (t::l)=max (dX t) (ft l):=J;have hw:qV (t::l)=wX t+(2+qV l):=J;have hc':cAt code p (zX o S t p++(eK 1++wI o S l (p+(zX o S t p).length+2))):=hc;obtain⟨hca,hc2⟩:=hc'.app;obtain⟨hcp,hcl⟩:=hc2.app;rw [fO]at hcp hcl;rw [List.length_cons]at hsp;have hX:=ih.x g' hg d vs t s rx hx1 o N p F sp c (hx t (by simp)) hca (by omega) hpc hp (by omega);rcases hr with⟨v,s1,rfl,h2⟩|⟨e,rfl,rfl⟩
  ·obtain⟨hv,hk1⟩:=(eB hF g').x d vs t s v s1 (hx t (by simp)).vx hp.vs hp.ok hx1;obtain⟨hf1,hX⟩:=hX;have mid:∀c',(c'.pc=p+wX t∧c'.r 1=v∧St d F sp c'∧pSm c' s1∧∀x,sp≤x→c'.m x=c.m x)→Go code 2 c' fun c2=>c2.pc=p+wX t+2∧Pr o N vs d F (sp-4) s1 c2∧c2.m (sp-4)=v∧∀x,sp≤x→c2.m x=c.m x:=fun c' ⟨e1,e2,e3,e4,e5⟩=>
    (kL hcp e1 e3 (by decide) ⟨by omega,hp.al.2,hp.al.1⟩).weak (fun c2 ⟨f1,f2,f3,f4,f5,f6⟩=>by
     have hm:∀x,sp≤x→c2.m x=c.m x:=fun x hx=>by rw [f3,jf (by omega)];exact e5 x hx
     exact⟨f1,hp.of f2 (e4.push f3 f4 f5 (by omega)) hk1.ok hf1 hm (by omega) (by have:=hp.al;omega),by rw [f3,n_,e2],hm⟩) (Int.le_refl _)
   have hX2:=hX.seq mid (k:=100*(s.fuel-s1.fuel)-38) (by omega);have next:∀c2,(c2.pc=p+wX t+2∧Pr o N vs d F (sp-4) s1 c2∧c2.m (sp-4)=v∧∀x,sp≤x→c2.m x=c.m x)→KR code (p+wX t+2+qV l) d F (sp-4) c2 s1 (acc++ [v]) l.length r:=fun c2 ⟨e1,e2,e3,e4⟩=>
    ih.k g' hg d vs (acc++ [v]) l s1 r h2 o N (p+wX t+2) F (sp-4) c2 (fun u hu=>hx u (by simp [hu])) hcl (by omega) e1 e2 (by omega)
   cases r with
   | err e=>
    intro he;exact hX2.seq (fun c2 hc2=>next c2 hc2 he) (by omega)
   | ok ks s2=>
    obtain⟨_,c2,_,hrn,hP⟩:=id hX2;obtain⟨hf2,new,hn1,hn2,-⟩:=next c2 hP
    refine⟨hf2,v::new,by rw [hn1,List.append_assoc];rfl,by rw [List.length_cons,hn2,List.length_cons],hX2.seq (m:=100*(s1.fuel-s2.fuel)) (fun c2 hP=> ?_) (by omega)⟩;obtain⟨-,new',hm1,hm2,hG⟩:=next c2 hP
    have:new'=new:=List.append_cancel_left (hm1.symm.trans hn1);subst this;obtain⟨e1,e2,e3,e4⟩:=hP;refine hG.weak (fun c3 ⟨f1,f2,f3,f4,f5⟩=>⟨by rw [f1,hw];omega,?_,f3,fun a ha=>by rw [f4 a (by omega),e4 a ha],fun i x hi=> ?_⟩) (Int.le_refl _)
    ·rw [show sp-4*((t::l).length:Int)=sp-4-4*(l.length:Int) by rw [List.length_cons];omega];exact f2
    ·cases i with
     | zero=>
      cases hi;rw [show sp-4*(((0:Nat):Int)+1)=sp-4 by omega,f4 _ (Int.le_refl _),e3]
     | succ i=>
      have:=f5 i x hi;rw [show sp-4*(((i+1:Nat):Int)+1)=sp-4-4*((i:Int)+1) by omega];exact this
  ·exact hX
theorem JK{N:List ByteArray}{k n:Int}{nm:ByteArray}{v:SV}{kids:List Tx}(h:XO fs N (.mk k n nm v kids)):oK k nm kids.length=true:=by
 have hr2:(oK k nm kids.length&&(decide (k=1) || decide (n=0))&&oI kids)=true:=h.r;simp only [Bool.and_eq_true]at hr2;exact hr2.1.1
theorem F_{N:List ByteArray}{n:Int}{nm:ByteArray}{v:SV}{kids:List Tx}(h:XO fs N (.mk 2 n nm v kids)):nm∈N:=by
 have he:=h.e;have he2:(if cg nm N=true then(0:Int)else 21)=0:=(bw.1 he).1;by_cases hm:cg nm N=true
 ·unfold cg at hm;obtain⟨q,h1,h2⟩:=List.any_eq_true.1 hm;have h2:nm=q:=by simpa using h2
  exact h2▸h1
 ·rw [if_neg hm]at he2;exact absurd he2 (by decide)
theorem BD{N:List ByteArray}{n:Int}{nm:ByteArray}{v:SV}{kids:List Tx}(h:XO fs N (.mk 3 n nm v kids)):∃f,cm fs nm=some f∧f.ps.length=kids.length:=by
 have he:=h.e;have he2:(match cm fs nm with|none=>(21:Int)|some f=>if f.ps.length=kids.length then 0 else 23)=0:=(bw.1 he).1;cases hf:cm fs nm with
 | none=>
  rw [hf]at he2;have he3:(21:Int)=0:=he2;exact absurd he3 (by decide)
 | some f=>
  rw [hf]at he2;refine⟨f,J,?_⟩;by_cases hq:f.ps.length=kids.length
  ·exact hq
  ·dsimp only at he2;rw [if_neg hq]at he2;exact absurd he2 (by decide)
theorem qA{fs:List Tf}{x:ByteArray}{f:Tf}(h:cm fs x=some f):f.name=x:=by
 have:=List.find?_some h;simpa using this
structure CP(code:List Qi)(fs:List Tf)(S:ByteArray→Int):Prop where
 pos:∀x f,cm fs x=some f→∃p:Nat,S x=(p:Int)∧p<3000
 ps:∀x f,cm fs x=some f→f.ps.length≤4
theorem Gn{g:Nat}(hF:VF fs)(hC:CP code fs S)(ih:HA code fs S g):HX code fs S g:=by
 intro d vs t s r h o N p F sp c hx hc hl hpc hp hsp;have hd:=sj hp.d1.2;cases g with
 | zero=>simp [eo]at h
 | succ g=>
  rw [eo]at h;by_cases hf:s.fuel≤0
  ·rw [if_pos hf]at h;cases h;intro e;exact absurd e (by decide)
  rw [if_neg hf]at h;have hp':=hp.pay hf;obtain⟨k,n,nm,v,kids⟩:=t;have hok:=JK hx;have hdx:dX (.mk k n nm v kids)=ft kids+1:=J;rw [hdx]at hsp;obtain⟨s',hs'⟩:∃s',s'={s with fuel:=s.fuel-1}:=⟨_,J⟩
  have hsf:s'.fuel=s.fuel-1:=by rw [hs']
  rw [←hs']at h hp';dsimp only [Tx.kids,Tx.kind,Tx.n,Tx.name]at h;have back:∀{r:Re Int}{p':Nat},XR code p' d F sp c s' r→XR code p' d F sp c s r:=fun{r p'} h=>by
   cases r with
   | ok v s1=>exact⟨h.1,h.2.weak (fun _ h=>h) (by omega)⟩
   | err e=>exact fun he=>(h he).weak (fun _ h=>h) (by omega)
  rcases sb hok with⟨rfl,hn⟩|⟨rfl,hn⟩|⟨rfl,hn⟩|rfl|⟨rfl,hn⟩|⟨rfl,hu,hn⟩|⟨rfl,hb,hn⟩
  · -- a number
   have:kids= []:=List.length_eq_zero_iff.1 hn;subst this;cases hk:fY g fs d vs [] [] s' with
   | none=>rw [hk]at h;simp at h
   | some q=>
    rw [hk]at h;have:=xG hk;subst this;cases h;have hc':cAt code p (oi n):=hc;refine⟨hp'.fu,(JN hc' hpc hp.st.z hx.g.1).weak (fun c' ⟨e1,e2,e3⟩=>⟨e1,e2,hp.st.kr e3 (by decide),hp'.sm.kr e3,fun a _=>by rw [e3.m]⟩) (by omega)⟩
  · -- an input
   have:kids= []:=List.length_eq_zero_iff.1 hn;subst this;cases hk:fY g fs d vs [] [] s' with
   | none=>rw [hk]at h;simp at h
   | some q=>
    rw [hk]at h;have:=xG hk;subst this;have hc':cAt code p [⟨48,0,0,0,2⟩]:=hc;have hgo:∀{v1:Int}{s1:Ms},s1.fuel=s'.fuel→s1.out=s'.out→s1.mem=s'.mem→c.inp.headD 0=v1→c.inp.tail=s1.inp→XR code (p+1) d F sp c s (.ok v1 s1):=fun{v1 s1} e1 e2 e3 e4 e5=>by
     refine⟨by rw [e1];exact hp'.fu,MA (by rw [hpc];exact hc'.head.1) (Go.done (by omega) ⟨by rw [hpc],by show rp c.r 1 (c.inp.headD 0) 1=v1;rw [dl (by decide),e4],hp.st.of fun k hk=>cj (by omega),⟨fun i hi=>by rw [e3];exact hp'.sm.m i hi,e5,by rw [e2];exact hp'.sm.o⟩,fun _ _=>rfl⟩)⟩
    have hin:=hp'.sm.i;cases hi:s'.inp with
    | nil=>
     rw [hi]at hin;simp only [hi]at h;cases h;exact hgo J J J (by rw [hin];rfl) (by rw [hin,hi];rfl)
    | cons a r1=>
     rw [hi]at hin;simp only [hi]at h;cases h;exact hgo J J J (by rw [hin];rfl) (by rw [hin];rfl)
  · -- a name
   have:kids= []:=List.length_eq_zero_iff.1 hn;subst this;cases hk:fY g fs d vs [] [] s' with
   | none=>rw [hk]at h;simp at h
   | some q=>
    rw [hk]at h;have:=xG hk;subst this;cases h;have hc':cAt code p [qi 23 1 13 (bC o nm)]:=hc;have hN:=F_ hx;have hva:wU (c.r 13+bC o nm)=va o F nm:=by rw [hp.st.f];rfl
    refine⟨hp'.fu,xK (d:=1) (a:=13) (x:=bC o nm) (by rw [hpc];exact hc'.head.1) (by rw [hva];exact(hp.fs.ok nm hN).1) (Go.done (by omega) ⟨by rw [hpc];rfl,?_,hp.st.of fun k hk=>cj (by omega),⟨hp'.sm.m,hp'.sm.i,hp'.sm.o⟩,fun _ _=>rfl⟩)⟩;rw [hva];show rp c.r 1 (c.m (va o F nm)) 1=_;rw [dl (by decide)];exact hp.fr nm hN
  · -- a call
   obtain⟨f,hff,hfl⟩:=BD hx;have hc':cAt code p (wI o S kids p++([qi 40 15 0 (wU (S nm-((p+(wI o S kids p).length:Nat):Int)))]++if kids.length>0 then [qi 16 14 14 (4*kids.length)]else [])):=hc;have hw:wX (.mk 3 n nm v kids)=qV kids+(1+if kids.length>0 then 1 else 0):=J;rw [hw]at hl ⊢;obtain⟨hck,hc2⟩:=hc'.app;obtain⟨hcj,hca⟩:=hc2.app;rw [ow]at hcj hca;have h4:=hC.ps nm f hff;cases hk:fY g fs d vs [] kids s' with
   | none=>rw [hk]at h;simp at h
   | some q=>
    rw [hk]at h;have hK:=ih.k g (Nat.lt_succ_self g) d vs [] kids s' q hk o N p F sp c hx.kids hck (by omega) hpc hp' (by omega);cases q with
    | err e=>
     cases h;exact fun he=>(hK he).weak (fun _ h=>h) (by omega)
    | ok ks s1=>
     obtain⟨hk1,hk2,hk3⟩:=(eB hF g).k d vs [] kids s' ks s1 (XO.vxs hx.kids) hp'.vs hp'.ok (by simp) hk;obtain⟨hf1,new,hn1,hn2,hK⟩:=hK;rw [List.nil_append]at hn1;subst hn1;dsimp only at h;have h:(match cm fs nm with|none=>none|some f=>jR g fs d f ks s1)=some r:=h;rw [hff]at h;have h:jR g fs d f ks s1=some r:=h;obtain⟨pf,hpf,hpf2⟩:=hC.pos nm f hff;have hfn:=qA hff;obtain⟨q,hq⟩:∃q,q=p+qV kids+1:=⟨_,J⟩
     have mid:∀c',(c'.pc=p+qV kids∧St d F (sp-4*(kids.length:Int)) c'∧pSm c' s1∧(∀a,sp≤a→c'.m a=c.m a)∧∀(i:Nat) x,ks[i]?=some x→c'.m (sp-4*((i:Int)+1))=x)→
       Go code 1 c' fun c2=>CR code q d F (sp-4*(kids.length:Int)) kids.length c2 s1 r∧∀a,sp≤a→c2.m a=c.m a:=fun c' ⟨e1,e2,e3,e4,e5⟩=>by
      refine qh (d:=15) (a:=0) (x:=wU (S nm-((p+qV kids:Nat):Int))) (by rw [e1];exact hcj.head.1) (Go.done (by decide) ⟨?_,e4⟩);rw [e1,lx (q:=pf) (by rw [hpf]) (by omega) (by omega)];have hR:=ih.c g (Nat.lt_succ_self g) d f ks s1 r h F (sp-4*(kids.length:Int)) ⟨pf,rp c'.r 15 (gU (p+qV kids+1)),c'.m,c'.inp,c'.out⟩ q (by rw [hfn];exact hff) (by rw [hn2,hfl]) hk1 ?_ ?_ (by omega) ?_ ⟨e3.m,e3.i,e3.o⟩ hk3.ok hf1 (by have:=hp.al;omega) (by have:=hp.al;omega) (by omega) hp.d1.2 (fun i x hi=> ?_)
      ·rw [hn2]at hR;exact hR
      ·show pf=_;rw [hfn,hpf];rfl
      ·show rp c'.r 15 (gU (p+qV kids+1)) 15=_;rw [dl (by decide),hq]
      ·exact e2.of fun k hk=>by
        show rp c'.r 15 _ k=_;exact cj (by omega)
      ·have:=e5 i x hi;show c'.m _=x;rw [←this]
       congr 1
       omega
     have hM:=hK.seq mid (k:=100*(s'.fuel-s1.fuel)+1) (by omega);have pops:∀{v1:Int}{s2:Ms}(c3:Qs),c3.pc=q→c3.r 1=v1→St d F (sp-4*(kids.length:Int)) c3→pSm c3 s2→Go code 1 c3 fun c4=>c4.pc=p+(qV kids+(1+if kids.length>0 then 1 else 0))∧c4.r 1=v1∧St d F sp c4∧pSm c4 s2∧c4.m=c3.m:=fun{v1 s2} c3 f1 f2 f3 f4=>by
      by_cases hz:kids.length>0
      ·rw [if_pos hz]at hca ⊢;refine iS (f1.trans hq) hca.head.1 (v:=sp) (by
        show some (wU (c3.r 14+4*(kids.length:Int)))=_;rw [f3.s,fE ⟨by omega,by have:=hp.al;omega⟩];exact congrArg some (by omega)) fun c4 e1 e2 e3 e4 e5=>Go.done (by decide) ⟨by rw [e1];omega,by rw [e2,cj (by decide)];exact f2,⟨?_,?_,?_,by rw [e2];exact dl (by decide)⟩,⟨fun i hi=>by rw [e3];exact f4.m i hi,e4.trans f4.i,e5.trans f4.o⟩,e3⟩
       ·rw [e2,cj (by decide)];exact f3.z
       ·rw [e2,cj (by decide)];exact f3.d
       ·rw [e2,cj (by decide)];exact f3.f
      ·rw [if_neg hz];have:(kids.length:Int)=0:=by omega
       rw [this,show sp-4*0=sp by omega]at f3;exact Go.done (by decide) ⟨by rw [f1,hq];omega,f2,f3,f4,rfl⟩
     cases r with
     | err e=>exact fun he=>hM.seq (fun c2 ⟨hR,_⟩=>hR he) (by omega)
     | ok v2 s2=>
      have hf2:0≤s2.fuel:=by
       obtain⟨_,c2,_,_,hR,_⟩:=hM;exact hR.1
      refine⟨hf2,hM.seq (m:=100*(s1.fuel-s2.fuel)+46) (fun c2 ⟨hR,hm⟩=>hR.2.seq (m:=1) (fun c3 ⟨f1,f2,f3,f4,f5⟩=>(pops c3 f1 f2 f3 f4).weak (fun c4 ⟨k1,k2,k3,k4,k5⟩=>⟨k1,k2,k3,k4,fun a ha=> ?_⟩) (Int.le_refl _)) (by omega)) (by omega)⟩;rw [k5,f5 a (by omega),hm a ha]
  · -- an element of mem
   obtain⟨a,rfl⟩:=List.length_eq_one_iff.1 hn;cases hk:fY g fs d vs [] [a] s' with
   | none=>rw [hk]at h;simp at h
   | some q=>
    rw [hk]at h;obtain⟨g',rx,hg,hx1,hr⟩:=vw hk;have hxa:=hx.kids a (by simp);have hc':cAt code p (zX o S a p++(rV 1++ [qi 23 1 1 8192])):=hc;have hw:wX (.mk 4 n nm v [a])=wX a+3:=J;rw [hw]at hl ⊢;obtain⟨hca,hc2⟩:=hc'.app;obtain⟨hce,hcl⟩:=hc2.app;rw [fO]at hce hcl;have hda:ft [a]=max (dX a) 0:=J;have hX:=ih.x g' (by omega) d vs a s' rx hx1 o N p F sp c hxa hca (by omega) hpc hp' (by omega);rcases hr with⟨x,s1,rfl,h2⟩|⟨e,rfl,rfl⟩
    ·have:=xG h2;subst this;obtain⟨hv,hk1⟩:=(eB hF g').x d vs a s' x s1 hxa.vx hp'.vs hp'.ok hx1;cases h;refine⟨hX.1,hX.2.seq (m:=3) (fun c1 ⟨e1,e2,e3,e4,e5⟩=> ?_) (by omega)⟩;refine(Aa (r:=1) hce e1 (by decide) e2 hv).seq (m:=1) (fun c2 ⟨f1,f2,f3⟩=> ?_) (by decide);have hw:wU (c2.r 1+8192)=8192+4*(((x%256).toNat:Nat):Int):=by rw [f2,fE (by omega)];omega
     refine xK (d:=1) (a:=1) (x:=8192) (by rw [f1];exact hcl.head.1) (by rw [hw];exact⟨by omega,by omega,by omega⟩) (Go.done (by decide) ⟨by show c2.pc+1=_;rw [f1];omega,?_,(e3.kr f3 (by decide)).of fun k hk=>cj (by omega),?_,fun a ha=>by rw [f3.m];exact e5 a ha⟩)
     ·rw [hw];show rp c2.r 1 (c2.m (8192+4*(((x%256).toNat:Nat):Int))) 1=_;rw [dl (by decide),f3.m,e4.m _ (by omega)];rfl
     ·have:=e4.kr f3;exact⟨this.m,this.i,this.o⟩
    ·cases h;exact back hX
  · -- a unary operator
   obtain⟨a,rfl⟩:=List.length_eq_one_iff.1 hn;cases hk:fY g fs d vs [] [a] s' with
   | none=>rw [hk]at h;simp at h
   | some q=>
    rw [hk]at h;obtain⟨g',rx,hg,hx1,hr⟩:=vw hk;have hxa:=hx.kids a (by simp);have hc':cAt code p (zX o S a p++BI nm):=hc;have hw:wX (.mk 6 n nm v [a])=wX a+(BI nm).length:=J;rw [hw]at hl ⊢;obtain⟨hca,hcu⟩:=hc'.app;rw [fO]at hcu;have hda:ft [a]=max (dX a) 0:=J;have hX:=ih.x g' (by omega) d vs a s' rx hx1 o N p F sp c hxa hca (by omega) hpc hp' (by omega);rcases hr with⟨x,s1,rfl,h2⟩|⟨e,rfl,rfl⟩
    ·have:=xG h2;subst this;obtain⟨hv,hk1⟩:=(eB hF g').x d vs a s' x s1 hxa.vx hp'.vs hp'.ok hx1;cases h;refine⟨hX.1,hX.2.seq (m:=2) (fun c1 ⟨e1,e2,e3,e4,e5⟩=> ?_) (by omega)⟩;exact(LE hu hcu e1 e3.z e2 hv).weak (fun c2 ⟨f1,f2,f3⟩=>⟨by rw [f1];omega,f2,e3.kr f3 (by decide),e4.kr f3,fun a ha=>by rw [f3.m];exact e5 a ha⟩) (Int.le_refl _)
    ·cases h;exact back hX
  · -- a binary operator
   obtain⟨a,b,rfl⟩:∃a b,kids= [a,b]:=⟨_,_,List.eq_getElem_of_length_eq_two kids hn⟩
   cases hk:fY g fs d vs [] [a,b] s' with
   | none=>rw [hk]at h;simp at h
   | some q=>
    rw [hk]at h;obtain⟨g',rx,hg,hx1,hr⟩:=vw hk;have hxa:=hx.kids a (by simp);have hxb:=hx.kids b (by simp);have hda:ft [a,b]=max (dX a) (max (dX b) 0):=J;have hw:wX (.mk 7 n nm v [a,b])=wX a+(wX b+(4+(AA nm).length)):=J;rcases hr with⟨x,s1,rfl,h2⟩|⟨e,rfl,rfl⟩
    ·obtain⟨g'',ry,hg2,hx2,hr2⟩:=vw h2;refine back (Hs (r:=r) hF (ih.x g' (by omega)) (ih.x g'' (by omega)) hb hx1 hxa.vx hxb.vx hxa hxb hc hw hl hpc hp' (by omega) (by omega) (.inl ⟨x,s1,J,ry,hx2,?_⟩));rcases hr2 with⟨y,s2,rfl,h3⟩|⟨e,rfl,rfl⟩
     ·have:=xG h3;subst this;cases h;exact .inl ⟨y,s2,J,J⟩
     ·cases h;exact .inr ⟨e,J,J⟩
    ·cases h;exact back (Hs (r:= .err e) hF (ih.x g' (by omega)) (ih.x g' (by omega)) hb hx1 hxa.vx hxb.vx hxa hxb hc hw hl hpc hp' (by omega) (by omega) (.inr ⟨e,J,J⟩))
end
mutual
def SO(fs:List Tf)(N:List ByteArray):Ty→Prop
 | .mk k nm _ es _ body _ els=>ze k nm es.length body.length els.length=true∧(∀u∈es,XO fs N u∧dX u≤8)∧(k=1∨k=2→nm∈N)∧(body.length≤1000000∧SOs fs N body)∧(els.length≤1000000∧SOs fs N els)
def SOs(fs:List Tf)(N:List ByteArray):List Ty→Prop
 | []=>True
 | t::r=>SO fs N t∧SOs fs N r
end
mutual
theorem SO.vy{fs:List Tf}{N:List ByteArray}:∀{t:Ty},SO fs N t→VY fs t
 | .mk k nm ve es vb body vl els,h=>by
  obtain⟨h1,h2,h3,⟨h4,h5⟩,h6,h7⟩:=h;have hk:=xo h1;have hes:es.length=if k=3 then 2 else 1:=hk.2.2.1
  exact⟨⟨by rw [hes];split<;>omega,by rw [hes];split<;>omega,fun h3=>by rw [hes,if_pos h3];exact Nat.le_refl _,XO.vxs fun u hu=>(h2 u hu).1⟩,⟨h4,SOs.vys h5⟩,h6,SOs.vys h7⟩
theorem SOs.vys{fs:List Tf}{N:List ByteArray}:∀{l:List Ty},SOs fs N l→VYs fs l
 | [],_=>trivial
 | t::r,h=>⟨h.1.vy,SOs.vys h.2⟩
end
def Kv(o:Om)(N:List ByteArray)(F sp:Int)(m m':Int→Int):Prop:=∀a,sp≤a→(∀x∈N,a≠va o F x)→m' a=m a
theorem Kv.trans{o:Om}{N:List ByteArray}{F sp:Int}{a b c:Int→Int}(h:Kv o N F sp a b)(h2:Kv o N F sp b c):Kv o N F sp a c:=fun x h3 h4=>(h2 x h3 h4).trans (h x h3 h4)
theorem Kv.of{o:Om}{N:List ByteArray}{F sp:Int}{a b:Int→Int}(h:∀x,sp≤x→b x=a x):Kv o N F sp a b:=fun x h3 _=>h x h3
def Ex(p' E:Nat)(q:Option Int)(c':Qs):Prop:=(q=none→c'.pc=p')∧∀v,q=some v→c'.pc=E∧c'.r 1=v
def SR(code:List Qi)(p' E:Nat)(b k:Int)(o:Om)(N:List ByteArray)(d:Nat)(F sp:Int)(c:Qs)(s:Ms):Re (Vs×Option Int)→Prop
 | .ok q s1=>0≤s1.fuel∧Go code (100*(s.fuel-s1.fuel)+k) c fun c'=>St d F sp c'∧pSm c' s1∧Fr o N q.1 F c'.m∧Kv o N F sp c.m c'.m∧Ex p' E q.2 c'
 | .err e=>e=26→Go code (100*s.fuel+b) c (Bk code)
def zW(o:Om)(S:ByteArray→Int)(E:Int)(e:Tx)(l:List Ty)(p:Nat):List Qi:=
 zX o S e p++([qi 32 1 0 (wU (((jX o S E l (p+wX e+1)).length+2:Nat):Int))]++(jX o S E l (p+wX e+1)++ [qi 40 0 0 (wU (-(((jX o S E l (p+wX e+1)).length+wX e+1:Nat):Int)))]))
section
variable(code:List Qi)(fs:List Tf)(S:ByteArray→Int)
def HB(g:Nat):Prop:=∀(d:Nat) vs l s r,fI g fs d vs l s=some r→∀o N p(E:Nat) F sp c,SOs fs N l→cAt code p (jX o S (E:Int) l p)→p+eL l≤1984→E≤1984→c.pc=p→Pr o N vs d F sp s c→lo d+132≤sp→SR code (p+eL l) E 50 0 o N d F sp c s r
def HS(g:Nat):Prop:=∀(d:Nat) vs t s r,gK g fs d vs t s=some r→∀o N p(E:Nat) F sp c,SO fs N t→cAt code p (zY o S (E:Int) t p)→p+wY t≤1984→E≤1984→c.pc=p→Pr o N vs d F sp s c→lo d+132≤sp→SR code (p+wY t) E 50 0 o N d F sp c s r
def HW(g:Nat):Prop:=∀(d:Nat) vs e l v s r,i9 g fs d vs e l v s=some r→∀o N p(E:Nat) F sp c,XO fs N e→dX e≤8→l.length≤1000000→SOs fs N l→cAt code p (zW o S (E:Int) e l p)→p+wX e+eL l+2≤1984→E≤1984→c.pc=p+wX e→c.r 1=v→Pr o N vs d F sp s c→lo d+132≤sp→
 SR code (p+wX e+eL l+2) E 60 2 o N d F sp c s r
structure HD(g:Nat):Prop extends HA code fs S g where
 b:∀g'<g,HB code fs S g'
 s:∀g'<g,HS code fs S g'
 w:∀g'<g,HW code fs S g'
end
section
variable{code:List Qi}{fs:List Tf}{S:ByteArray→Int}
theorem Pr.next{o:Om}{N:List ByteArray}{vs vs':Vs}{d:Nat}{F sp:Int}{s s':Ms}{c c':Qs}(h:Pr o N vs d F sp s c)(hst:St d F sp c')(hsm:pSm c' s')(hfr:Fr o N vs' F c'.m)(hok:okMs s')(hvs:okVs vs')(hfu:0≤s'.fuel):Pr o N vs' d F sp s' c':=
 ⟨hst,h.fs,hfr,hsm,hok,hvs,h.al,hfu,h.d1⟩
theorem Ex.none{p' E:Nat}{c':Qs}(h:c'.pc=p'):Ex p' E none c':=⟨fun _=>h,fun v hv=>by cases hv⟩
theorem SR.up{p' E:Nat}{b b' k k':Int}{o:Om}{N:List ByteArray}{d:Nat}{F sp:Int}{c0:Qs}{s s0:Ms}{r:Re (Vs×Option Int)}{n:Int}{P:Qs→Prop}(hg:Go code n c0 P)(h:∀c,P c→SR code p' E b k o N d F sp c s r)(hkv:∀c,P c→Kv o N F sp c0.m c.m)
  (h1:n+100*s.fuel+b≤100*s0.fuel+b') (h2:n+100*s.fuel+k≤100*s0.fuel+k'):SR code p' E b' k' o N d F sp c0 s0 r:=by
 cases r with
 | err e=>exact fun he=>hg.seq (fun c hc=>h c hc he) (by omega)
 | ok q s1=>
  have hf:0≤s1.fuel:=by
   obtain⟨_,c2,_,_,hP⟩:=hg;exact(h c2 hP).1
  exact⟨hf,hg.seq (fun c hc=>(h c hc).2.weak (fun c' ⟨e1,e2,e3,e4,e5⟩=>⟨e1,e2,e3,(hkv c hc).trans e4,e5⟩) (Int.le_refl _)) (by omega)⟩
theorem Gu{g:Nat}(hF:VF fs)(ih:HD code fs S g):HB code fs S g:=by
 intro d vs l s r h o N p E F sp c hx hc hl hE hpc hp hsp;cases g with
 | zero=>simp [fI]at h
 | succ g=>
  cases l with
  | nil=>
   rw [fI]at h;cases h;exact⟨hp.fu,Go.done (by omega) ⟨hp.st,hp.sm,hp.fr,Kv.of fun _ _=>J,Ex.none hpc⟩⟩
  | cons t l=>
   rw [fI]at h;have hc':cAt code p (zY o S E t p++jX o S E l (p+(zY o S E t p).length)):=hc;have hw:eL (t::l)=wY t+eL l:=J;obtain⟨hct,hcl⟩:=hc'.app;rw [wH]at hcl;cases hs:gK g fs d vs t s with
   | none=>rw [hs]at h;simp at h
   | some q=>
    rw [hs]at h;have hS:=ih.s g (Nat.lt_succ_self g) d vs t s q hs o N p E F sp c hx.1 hct (by omega) hE hpc hp hsp;cases q with
    | err e=>cases h;exact hS
    | ok q s1=>
     obtain⟨vs1,q⟩:=q;obtain⟨k1,k2,k3⟩:=(eB hF g).s d vs t s _ s1 hx.1.vy hp.vs hp.ok hs;cases q with
     | some v=>
      cases h;exact⟨hS.1,hS.2.weak (fun c' ⟨e1,e2,e3,e4,e5⟩=>⟨e1,e2,e3,e4,fun hq=>(by cases hq),e5.2⟩) (Int.le_refl _)⟩
     | none=>
      have h:fI g fs d vs1 l s1=some r:=h;rw [hw,←Nat.add_assoc];refine SR.up (s:=s1) (b:=50) (k:=0) hS.2 (fun c' ⟨e1,e2,e3,e4,e5⟩=> ?_) (fun c' ⟨e1,e2,e3,e4,e5⟩=>e4) (by omega) (by omega);exact ih.b g (Nat.lt_succ_self g) d vs1 l s1 r h o N (p+wY t) E F sp c' hx.2 hcl (by omega) hE (e5.1 J) (hp.next e1 e2 e3 k3.ok k1 hS.1) hsp
theorem pj(vs:Vs)(x y:ByteArray)(n:Int):gM (d8 vs x n) y=if x=y then n else gM vs y:=f_ vs x y n
theorem Gp{g:Nat}(hF:VF fs)(ih:HD code fs S g):HW code fs S g:=by
 intro d vs e l v s r h o N p E F sp c hxe hde hll hxl hc hl hE hpc hv hp hsp;cases g with
 | zero=>simp [i9]at h
 | succ g=>
  rw [i9]at h;unfold zW at hc;obtain⟨hce,hc2⟩:=id hc.app;obtain⟨hcb,hc3⟩:=hc2.app;obtain⟨hcl,hcj⟩:=hc3.app;rw [fO]at hcb hcl hcj;rw [eC]at hcb hcj;have hbeq:=hcb.head.1;have hz0:∀{P:Qs→Prop}{n:Int},Go code (n-1) {c with pc:=if v=0 then p+wX e+eL l+2 else p+wX e+1} P→Go code n c P:=fun{P n} hG=>by
   refine tM (d:=1) (a:=0) (x:=wU (((eL l+2:Nat):Int))) (by rw [hpc];exact hbeq) ?_;rw [hv,hp.st.z,hpc];by_cases hz:v=0
   ·rw [if_pos hz]at hG ⊢;rw [lx (q:=p+wX e+eL l+2) (by rw [show((p+wX e+eL l+2:Nat):Int)-((p+wX e:Nat):Int)=((eL l+2:Nat):Int) by omega]) (by omega) (by omega)];exact hG
   ·rw [if_neg hz]at hG ⊢;exact hG
  by_cases hz:v=0
  ·rw [if_pos hz]at h hz0;cases h;exact⟨hp.fu,hz0 (Go.done (by omega) ⟨hp.st.of fun _ _=>J,⟨hp.sm.m,hp.sm.i,hp.sm.o⟩,hp.fr,Kv.of fun _ _=>J,Ex.none J⟩)⟩
  ·rw [if_neg hz]at h hz0;obtain⟨c1,hc1⟩:∃c1:Qs,c1={c with pc:=p+wX e+1}:=⟨_,J⟩
   rw [←hc1]at hz0;have hp1:Pr o N vs d F sp s c1:=by rw [hc1];exact⟨hp.st.of fun _ _=>J,hp.fs,hp.fr,⟨hp.sm.m,hp.sm.i,hp.sm.o⟩,hp.ok,hp.vs,hp.al,hp.fu,hp.d1⟩
   have hm1:c1.m=c.m:=by rw [hc1]
   have hg1:Go code 1 c fun x=>x=c1:=hz0 (Go.done (by decide) J)
   cases hb:fI g fs d vs l s with
   | none=>rw [hb]at h;simp at h
   | some q=>
    rw [hb]at h;have hB:=ih.b g (Nat.lt_succ_self g) d vs l s q hb o N (p+wX e+1) E F sp c1 hxl hcl (by omega) hE (by rw [hc1]) hp1 hsp;cases q with
    | err z=>cases h;exact fun he=>hg1.seq (m:=100*s.fuel+50) (fun x hx=>by subst hx;exact hB he) (by omega)
    | ok q s1=>
     obtain⟨vs1,q⟩:=q;obtain⟨k1,k2,k3⟩:=(eB hF g).b d vs l s _ s1 hxl.vys hp.vs hp.ok hb;cases q with
     | some x=>
      cases h;exact⟨hB.1,hg1.seq (m:=100*(s.fuel-s1.fuel)) (fun x hx=>by subst hx;exact hB.2.weak (fun c' ⟨e1,e2,e3,e4,e5⟩=>⟨e1,e2,e3,by rw [←hm1];exact e4,fun hq=>(by cases hq),e5.2⟩) (by omega)) (by omega)⟩
     | none=>
      dsimp only at h;have hB2:Go code (100*(s.fuel-s1.fuel)+2) c fun c'=>St d F sp c'∧pSm c' s1∧Fr o N vs1 F c'.m∧Kv o N F sp c.m c'.m∧c'.pc=p:=hg1.seq (m:=100*(s.fuel-s1.fuel)+1) (fun x hx=>by
       subst hx;refine hB.2.seq (m:=1) (fun c' ⟨e1,e2,e3,e4,e5⟩=> ?_) (by omega);have e5:=e5.1 J;obtain⟨x,hxx⟩:∃x,x=wU (-(((eL l+wX e+1:Nat):Int))):=⟨_,J⟩
       have hj:=hcj.head.1;rw [←hxx]at hj;refine qh (d:=0) (a:=0) (x:=x) (by rw [e5];exact hj) (Go.done (by decide) ⟨e1.of fun k hk=>CD,⟨e2.m,e2.i,e2.o⟩,e3,by rw [←hm1];exact e4,?_⟩);show r9 (wU (gU c'.pc+4*x))=p;rw [e5,hxx];exact lx (by rw [show(p:Int)-((p+wX e+1+eL l:Nat):Int)= -((eL l+wX e+1:Nat):Int) by omega]) (by omega) (by omega)) (by omega)
      cases hx2:eo g fs d vs1 e s1 with
      | none=>rw [hx2]at h;simp at h
      | some q=>
       rw [hx2]at h;have hX:∀c',(St d F sp c'∧pSm c' s1∧Fr o N vs1 F c'.m∧Kv o N F sp c.m c'.m∧c'.pc=p)→XR code (p+wX e) d F sp c' s1 q:=fun c' ⟨e1,e2,e3,e4,e5⟩=>
        ih.x g (Nat.lt_succ_self g) d vs1 e s1 q hx2 o N p F sp c' hxe hce (by omega) e5 (hp.next e1 e2 e3 k3.ok k1 hB.1) (by omega)
       cases q with
       | err z=>cases h;exact fun he=>hB2.seq (m:=100*s1.fuel+50) (fun c' hc'=>hX c' hc' he) (by omega)
       | ok w s2=>
        obtain⟨w1,w2⟩:=(eB hF g).x d vs1 e s1 w s2 hxe.vx k1 k3.ok hx2;have h:i9 g fs d vs1 e l w s2=some r:=h;have hf2:0≤s2.fuel:=by
         obtain⟨_,c2,_,_,hP⟩:=hB2;exact(hX c2 hP).1
        have hX2:Go code (100*(s.fuel-s2.fuel)-38) c fun c'=>(St d F sp c'∧pSm c' s2∧Fr o N vs1 F c'.m∧Kv o N F sp c.m c'.m)∧c'.pc=p+wX e∧c'.r 1=w:=hB2.seq (m:=100*(s1.fuel-s2.fuel)-40) (fun c' hc'=>(hX c' hc').2.weak (fun c2 ⟨f1,f2,f3,f4,f5⟩=>by
         obtain⟨e1,e2,e3,e4,e5⟩:=hc';exact⟨⟨f3,f4,fun x hx=>(f5 _ (hp.fs.ok x hx).2).trans (e3 x hx),e4.trans (Kv.of f5)⟩,f1,f2⟩) (Int.le_refl _)) (by omega)
        refine SR.up (s:=s2) hX2 (fun c' ⟨⟨e1,e2,e3,e4⟩,e5,e6⟩=> ?_) (fun c' h=>h.1.2.2.2) (b:=60) (k:=2) (by omega) (by omega);exact ih.w g (Nat.lt_succ_self g) d vs1 e l w s2 r h o N p E F sp c' hxe hde hll hxl (by unfold zW;exact hc) hl hE e5 e6 (hp.next e1 e2 e3 w2.ok k1 hf2) hsp
end
section
variable{code:List Qi}{fs:List Tf}{S:ByteArray→Int}
theorem Kv.mw{o:Om}{N:List ByteArray}{F sp:Int}{m:Int→Int}{x:ByteArray}{v:Int}(hx:x∈N):Kv o N F sp m (mw m (va o F x) v):=fun a _ h=>jf (h x hx)
theorem Fr.put{o:Om}{N:List ByteArray}{vs:Vs}{F sp:Int}{m:Int→Int}{x:ByteArray}{v:Int}(h:Fr o N vs F m)(hf:Fs o N F sp)(hx:x∈N):Fr o N (d8 vs x v) F (mw m (va o F x) v):=fun y hy=>by
 rw [pj];by_cases e:x=y
 ·subst e;rw [if_pos J,n_]
 ·rw [if_neg e,jf fun q=>e (hf.inj x hx y hy q.symm)];exact h y hy
theorem Kk{g:Nat}{d:Nat}{vs:Vs}{k:Int}{nm:ByteArray}{ve vb vl:SV}{e:Tx}{es:List Tx}{body els:List Ty}{s s1:Ms}{v:Int}(hf:¬s.fuel≤0)(hx:eo g fs d vs e {s with fuel:=s.fuel-1}=some (.ok v s1)):
  gK (g+1) fs d vs (.mk k nm ve (e::es) vb body vl els) s=
    if k=1∨k=2 then some (.ok (d8 vs nm v,none) s1)else
    if k=3 then(match es with
     | []=>none
     | e2::_=>match eo g fs d vs e2 s1 with
      | none=>none
      | some (.err e)=>some (.err e)
      | some (.ok w s2)=>some (.ok (vs,none) {s2 with mem:=rG s2.mem (v%256).toNat w}))else
    if k=4 then fI g fs d vs (if v=0 then els else body) s1 else
    if k=5 then i9 g fs d vs e body v s1 else
    if k=6 then some (.ok (vs,some v) s1)else if k=7 then some (.ok (vs,none) {s1 with out:=s1.out++ [v]})else some (.ok (vs,none) s1):=by
 rw [gK,if_neg hf];dsimp only [Ty.es];rw [hx];rfl
theorem D2{g:Nat}{d:Nat}{vs:Vs}{k:Int}{nm:ByteArray}{ve vb vl:SV}{e:Tx}{es:List Tx}{body els:List Ty}{s:Ms}(hf:¬s.fuel≤0)(hx:eo g fs d vs e {s with fuel:=s.fuel-1}=none):
  gK (g+1) fs d vs (.mk k nm ve (e::es) vb body vl els) s=none:=by
 rw [gK,if_neg hf];dsimp only [Ty.es];rw [hx]
theorem G6{g:Nat}{d:Nat}{vs:Vs}{k:Int}{nm:ByteArray}{ve vb vl:SV}{e:Tx}{es:List Tx}{body els:List Ty}{s:Ms}{z:Int}(hf:¬s.fuel≤0)(hx:eo g fs d vs e {s with fuel:=s.fuel-1}=some (.err z)):
  gK (g+1) fs d vs (.mk k nm ve (e::es) vb body vl els) s=some (.err z):=by
 rw [gK,if_neg hf];dsimp only [Ty.es];rw [hx]
theorem Gq{g:Nat}(hF:VF fs)(ih:HD code fs S g):HS code fs S g:=by
 intro d vs t s r h o N p E F sp c hx hc hl hE hpc hp hsp;have hd:=sj hp.d1.2;cases g with
 | zero=>simp [gK]at h
 | succ g=>
  by_cases hf:s.fuel≤0
  ·rw [gK,if_pos hf]at h;cases h;intro e;exact absurd e (by decide)
  have hp':=hp.pay hf;obtain⟨k,nm,ve,es,vb,body,vl,els⟩:=t;obtain⟨hok,hes,hnm,⟨hbl,hbo⟩,hel,heo⟩:=hx;have hk:=xo hok;obtain⟨s',hs'⟩:∃s',s'={s with fuel:=s.fuel-1}:=⟨_,J⟩
  have hsf:s'.fuel=s.fuel-1:=by rw [hs']
  rw [←hs']at hp';cases es with
  | nil=>
   have:=hk.2.2.1;split at this<;>simp at this
  | cons e es=>
   have hxe:=(hes e (by simp)).1;have hde:=(hes e (by simp)).2;have hca:cAt code p (zX o S e p):=by
    have hc':=hc;unfold zY at hc';by_cases q1:k=1∨k=2
    ·rw [if_pos q1]at hc';exact hc'.app.1
    rw [if_neg q1]at hc';by_cases q3:k=3
    ·rw [if_pos q3]at hc';exact hc'.app.1
    rw [if_neg q3]at hc';by_cases q7:k=7
    ·rw [if_pos q7]at hc';exact hc'.app.1
    rw [if_neg q7]at hc';by_cases q6:k=6
    ·rw [if_pos q6]at hc';exact hc'.app.1
    rw [if_neg q6]at hc';by_cases q4:k=4
    ·rw [if_pos q4]at hc';exact hc'.app.1
    rw [if_neg q4]at hc';by_cases q5:k=5
    ·rw [if_pos q5]at hc';exact hc'.app.1
    rw [if_neg q5]at hc';exact hc'
   have hwe:wX e≤wY (.mk k nm ve (e::es) vb body vl els):=by
    unfold wY;show iL (e::es)≤_
    repeat' split
    all_goals omega
   cases hx1:eo g fs d vs e s' with
   | none=>
    rw [D2 hf (by rw [←hs'];exact hx1)]at h;cases h
   | some q=>
    have hX:=ih.x g (Nat.lt_succ_self g) d vs e s' q hx1 o N p F sp c hxe hca (by omega) hpc hp' (by omega);cases q with
    | err z=>
     rw [G6 hf (by rw [←hs'];exact hx1)]at h;cases h;exact fun he=>(hX he).weak (fun _ h=>h) (by omega)
    | ok v s1=>
     obtain⟨hv,hk1⟩:=(eB hF g).x d vs e s' v s1 hxe.vx hp'.vs hp'.ok hx1;rw [Kk hf (by rw [←hs'];exact hx1)]at h;obtain⟨hf1,hX⟩:=hX;have hX1:Go code (100*(s.fuel-s1.fuel)-140) c fun c'=>c'.pc=p+wX e∧c'.r 1=v∧(∀a,sp≤a→c'.m a=c.m a)∧Pr o N vs d F sp s1 c':=hX.weak (fun c' ⟨e1,e2,e3,e4,e5⟩=>⟨e1,e2,e5,hp.of e3 e4 hk1.ok hf1 e5 (Int.le_refl _) hp.al.1⟩) (by omega)
     by_cases q1:k=1∨k=2
     · -- a variable
      rw [if_pos q1]at h;cases h;have hc':cAt code p (zX o S e p++ [qi 25 1 13 (bC o nm)]):=by
       have hc':=hc;unfold zY at hc';rw [if_pos q1]at hc';exact hc'
      have hw:wY (.mk k nm ve (e::es) vb body vl els)=wX e+1:=by unfold wY;rw [if_pos q1];rfl
      rw [hw];have hcs:=hc'.app.2;rw [fO]at hcs;have hN:=hnm q1;refine⟨hf1,hX1.seq (m:=1) (fun c1 ⟨e1,e2,e3,e4⟩=> ?_) (by omega)⟩;have hva:wU (c1.r 13+bC o nm)=va o F nm:=by rw [e4.st.f];rfl
      refine xJ (d:=1) (a:=13) (x:=bC o nm) (by rw [e1];exact hcs.head.1) (by rw [hva];exact(hp.fs.ok nm hN).1) (Go.done (by decide) ?_);rw [hva,e2];refine⟨e4.st.of fun _ _=>J,e4.sm.push J J J (by have:=(hp.fs.ok nm hN).2;omega),e4.fr.put e4.fs hN,(Kv.of e3).trans (Kv.mw hN),Ex.none (by show c1.pc+1=_;rw [e1];rfl)⟩
     rw [if_neg q1]at h;by_cases q3:k=3
     · -- an element of mem
      rw [if_pos q3]at h;subst q3;have hn:(e::es).length=2:=by have:=hk.2.2.1;rw [if_pos J]at this;exact this
      obtain⟨e2,rfl⟩:∃e2,es= [e2]:=List.length_eq_one_iff.1 (by rw [List.length_cons]at hn;omega);have hc':cAt code p (zX o S e p++(eK 1++(zX o S e2 (p+wX e+2)++(j7 2++(rV 2++ [qi 25 1 2 8192]))))):=hc;have hw:wY (.mk 3 nm ve [e,e2] vb body vl els)=wX e+(wX e2+7):=J;rw [hw]at hl ⊢;have hxe2:=(hes e2 (by simp)).1;have hde2:=(hes e2 (by simp)).2;obtain⟨-,hc2⟩:=hc'.app;obtain⟨hcp,hc3⟩:=hc2.app;obtain⟨hcx,hc4⟩:=hc3.app;obtain⟨hcq,hc5⟩:=hc4.app;obtain⟨hce,hcs⟩:=hc5.app;rw [fO]at hcp hcx hcq hce hcs;rw [fO]at hcq hce hcs;have hX2:Go code (100*(s.fuel-s1.fuel)-138) c fun c'=>c'.pc=p+wX e+2∧Pr o N vs d F (sp-4) s1 c'∧c'.m (sp-4)=v∧∀a,sp≤a→c'.m a=c.m a:=hX1.seq (m:=2) (fun c1 ⟨e1,e2,e3,e4⟩=>(kL hcp e1 e4.st (by decide) ⟨by omega,hp.al.2,hp.al.1⟩).weak (fun c2 ⟨f1,f2,f3,f4,f5,f6⟩=>by
       have hm:∀x,sp≤x→c2.m x=c1.m x:=fun x hx=>by rw [f3,jf (by omega)]
       exact⟨f1,e4.of f2 (e4.sm.push f3 f4 f5 (by omega)) hk1.ok hf1 hm (by omega) (by have:=hp.al;omega),by rw [f3,n_,e2],fun a ha=>(hm a ha).trans (e3 a ha)⟩) (Int.le_refl _)) (by omega)
      dsimp only at h;cases hx2:eo g fs d vs e2 s1 with
      | none=>rw [hx2]at h;simp at h
      | some q=>
       rw [hx2]at h;have hY:∀c',(c'.pc=p+wX e+2∧Pr o N vs d F (sp-4) s1 c'∧c'.m (sp-4)=v∧∀a,sp≤a→c'.m a=c.m a)→XR code (p+wX e+2+wX e2) d F (sp-4) c' s1 q:=fun c' ⟨f1,f2,f3,f4⟩=>
        ih.x g (Nat.lt_succ_self g) d vs e2 s1 q hx2 o N (p+wX e+2) F (sp-4) c' hxe2 hcx (by omega) f1 f2 (by omega)
       cases q with
       | err z=>cases h;exact fun he=>hX2.seq (fun c' hc'=>hY c' hc' he) (by omega)
       | ok w s2=>
        cases h;obtain⟨hw1,hw2⟩:=(eB hF g).x d vs e2 s1 w s2 hxe2.vx hp.vs hk1.ok hx2;have hf2:0≤s2.fuel:=by
         obtain⟨_,c2,_,_,hP⟩:=hX2;exact(hY c2 hP).1
        refine⟨hf2,hX2.seq (m:=100*(s1.fuel-s2.fuel)-35) (fun c2 hc2=>(hY c2 hc2).2.seq (m:=5) (fun c3 ⟨g1,g2,g3,g4,g5⟩=> ?_) (by omega)) (by dsimp only;omega)⟩;obtain⟨f1,f2,f3,f4⟩:=hc2;refine(tw (r:=2) hcq g1 g3.s (by decide) ⟨by omega,by have:=hp.al;omega,by have:=hp.al;omega⟩).seq (m:=3) (fun c4 ⟨i1,i2,i3,i4⟩=> ?_) (by decide);have h2:c4.r 2=v:=by rw [i2,g5 _ (Int.le_refl _),f3]
        refine(Aa (r:=2) hce i1 (by decide) h2 hv).seq (m:=1) (fun c5 ⟨j1,j2,j3⟩=> ?_) (by decide);have hwa:wU (c5.r 2+8192)=8192+4*(((v%256).toNat:Nat):Int):=by rw [j2,fE (by omega)];omega
        have hst:St d F sp c5:=⟨((j3.r 0 (by decide)).trans (i4.r 0 (by decide))).trans g3.z,((j3.r 12 (by decide)).trans (i4.r 12 (by decide))).trans g3.d,((j3.r 13 (by decide)).trans (i4.r 13 (by decide))).trans g3.f,((j3.r 14 (by decide)).trans i3).trans (by omega)⟩
        have hm5:c5.m=c3.m:=j3.m.trans i4.m;have hr1:c5.r 1=w:=((j3.r 1 (by decide)).trans (i4.r 1 (by decide))).trans g2;have hsm:=(g4.kr i4).kr j3;have hkv:∀a,sp≤a→c5.m a=c.m a:=fun a ha=>by rw [hm5,g5 a (by omega),f4 a ha]
        refine xJ (d:=1) (a:=2) (x:=8192) (by rw [j1];exact hcs.head.1) (by rw [hwa];exact⟨by omega,by omega,by omega⟩) (Go.done (by decide) ?_);rw [hwa,hr1];refine⟨hst.of fun _ _=>J,⟨fun i hi=> ?_,hsm.i,hsm.o⟩,fun x hx=> ?_,fun a ha _=> ?_,Ex.none (by show c5.pc+1=_;rw [j1];simp only [eK,j7,List.length_cons,List.length_nil];omega)⟩
        ·show mw c5.m _ w _=rG s2.mem _ w i;unfold rG;by_cases hi2:i=(v%256).toNat
         ·rw [if_pos hi2,hi2,n_]
         ·rw [if_neg hi2,jf (by omega)];exact hsm.m i hi
        ·have:=(hp.fs.ok x hx).2;show mw c5.m _ w _=_;rw [jf (by omega),hkv _ this];exact hp.fr x hx
        ·show mw c5.m _ w _=_;rw [jf (by omega),hkv a ha]
     rw [if_neg q3]at h;by_cases q4:k=4
     · -- if
      rw [if_pos q4]at h;subst q4;obtain⟨je,hje⟩:∃je:Nat,je=if els.length>0 then 1 else 0:=⟨_,J⟩
      have hc':cAt code p (zX o S e p++([qi 32 1 0 (wU (((jX o S E body (p+wX e+1)).length+(if els.length>0 then 1 else 0)+1:Nat):Int))]++(jX o S E body (p+wX e+1)++
       ((if els.length>0 then [qi 40 0 0 (wU (((jX o S E els (p+wX e+1+(jX o S E body (p+wX e+1)).length+(if els.length>0 then 1 else 0))).length+1:Nat):Int))]else [])++
        jX o S E els (p+wX e+1+(jX o S E body (p+wX e+1)).length+(if els.length>0 then 1 else 0)))))):=hc
      rw [←hje]at hc';have hw:wY (.mk 4 nm ve (e::es) vb body vl els)=wX e+(eL body+(eL els+(1+je))):=by
       show iL (e::es)+(eL body+(eL els+if els.length>0 then 2 else 1))=_;rw [hje];show wX e+_=_;split<;>omega
      rw [hw]at hl ⊢;obtain⟨-,hc2⟩:=hc'.app;obtain⟨hcb,hc3⟩:=hc2.app;obtain⟨hcl,hc4⟩:=hc3.app;obtain⟨hcj,hcel⟩:=hc4.app;simp only [fO,eC]at hcb hcl hcj hcel;have hjl:(if els.length>0 then [qi 40 0 0 (wU ((eL els+1:Nat):Int))]else []).length=je:=by rw [hje];split<;>rfl
      rw [hjl]at hcel;have hbeq:=hcb.head.1;have hX3:Go code (100*(s.fuel-s1.fuel)-139) c fun c'=>c'.pc=(if v=0 then p+wX e+1+eL body+je else p+wX e+1)∧(∀a,sp≤a→c'.m a=c.m a)∧Pr o N vs d F sp s1 c':=hX1.seq (m:=1) (fun c1 ⟨e1,e2,e3,e4⟩=>by
       refine tM (d:=1) (a:=0) (x:=wU (((eL body+je+1:Nat):Int))) (by rw [e1];exact hbeq) (Go.done (by decide) ⟨?_,e3,⟨e4.st.of fun _ _=>J,e4.fs,e4.fr,⟨e4.sm.m,e4.sm.i,e4.sm.o⟩,e4.ok,e4.vs,e4.al,e4.fu,e4.d1⟩⟩);show(if c1.r 1=c1.r 0 then _ else c1.pc+1)=_;rw [e2,e4.st.z,e1];by_cases hz:v=0
       ·rw [if_pos hz,if_pos hz];exact lx (by rw [show((p+wX e+1+eL body+je:Nat):Int)-((p+wX e:Nat):Int)=((eL body+je+1:Nat):Int) by omega]) (by omega) (by omega)
       ·rw [if_neg hz,if_neg hz]) (by omega)
      by_cases hz:v=0
      ·rw [if_pos hz]at h hX3;refine SR.up (s:=s1) hX3 (fun c' ⟨e1,e2,e3⟩=> ?_) (fun c' ⟨e1,e2,e3⟩=>Kv.of e2) (b:=50) (k:=0) (by omega) (by omega);have:=ih.b g (Nat.lt_succ_self g) d vs els s1 r h o N (p+wX e+1+eL body+je) E F sp c' heo hcel (by omega) hE e1 e3 hsp;rw [show p+(wX e+(eL body+(eL els+(1+je))))=p+wX e+1+eL body+je+eL els by omega];exact this
      ·rw [if_neg hz]at h hX3;have hB:∀c',(c'.pc=p+wX e+1∧(∀a,sp≤a→c'.m a=c.m a)∧Pr o N vs d F sp s1 c')→SR code (p+wX e+1+eL body) E 50 0 o N d F sp c' s1 r:=fun c' ⟨e1,e2,e3⟩=>
        ih.b g (Nat.lt_succ_self g) d vs body s1 r h o N (p+wX e+1) E F sp c' hbo hcl (by omega) hE e1 e3 hsp
       cases r with
       | err z=>exact fun he=>hX3.seq (fun c' hc'=>hB c' hc' he) (by omega)
       | ok q s2=>
        have hf2:0≤s2.fuel:=by
         obtain⟨_,c2,_,_,hP⟩:=hX3;exact(hB c2 hP).1
        refine⟨hf2,hX3.seq (m:=100*(s1.fuel-s2.fuel)+1) (fun c2 hc2=>(hB c2 hc2).2.seq (m:=1) (fun c3 ⟨f1,f2,f3,f4,f5⟩=> ?_) (by omega)) (by omega)⟩;obtain⟨g1,g2,g3⟩:=hc2;have hkv:=(Kv.of (o:=o) (N:=N) (F:=F) g2).trans f4;obtain⟨vs2,q⟩:=q;cases q with
        | some x=>exact Go.done (by decide) ⟨f1,f2,f3,hkv,fun hq=>(by cases hq),f5.2⟩
        | none=>
         have f6:=f5.1 J;by_cases hz2:els.length>0
         ·rw [if_pos hz2]at hcj hje;refine qh (d:=0) (a:=0) (x:=wU ((eL els+1:Nat):Int)) (by rw [f6];exact hcj.head.1) (Go.done (by decide) ⟨f1.of fun k hk=>CD,⟨f2.m,f2.i,f2.o⟩,f3,hkv,Ex.none ?_⟩);show r9 _=_;rw [f6];exact lx (by rw [show((p+(wX e+(eL body+(eL els+(1+je)))):Nat):Int)-((p+wX e+1+eL body:Nat):Int)=((eL els+1:Nat):Int) by omega]) (by omega) (by omega)
         ·rw [if_neg hz2]at hje;have:els= []:=List.length_eq_zero_iff.1 (by omega);subst this;have hw0:eL []=0:=J;exact Go.done (by decide) ⟨f1,f2,f3,hkv,Ex.none (by rw [f6];omega)⟩
     rw [if_neg q4]at h;by_cases q5:k=5
     · -- while
      rw [if_pos q5]at h;subst q5;have hc':cAt code p (zW o S E e body p):=hc;have hw:wY (.mk 5 nm ve (e::es) vb body vl els)=wX e+(eL body+2):=J;rw [hw]at hl ⊢;refine SR.up (s:=s1) hX1 (fun c' ⟨e1,e2,e3,e4⟩=> ?_) (fun c' ⟨e1,e2,e3,e4⟩=>Kv.of e3) (b:=60) (k:=2) (by omega) (by omega);have:=ih.w g (Nat.lt_succ_self g) d vs e body v s1 r h o N p E F sp c' hxe hde hbl hbo hc' (by omega) hE e1 e2 e4 hsp;rw [show p+(wX e+(eL body+2))=p+wX e+eL body+2 by omega];exact this
     rw [if_neg q5]at h;by_cases q6:k=6
     · -- return
      rw [if_pos q6]at h;subst q6;cases h;have hc':cAt code p (zX o S e p++ [qi 40 0 0 (wU ((E:Int)-((p+wX e:Nat):Int)))]):=hc;have hw:wY (.mk 6 nm ve (e::es) vb body vl els)=wX e+1:=J;rw [hw]at hl ⊢;have hcs:=hc'.app.2;rw [fO]at hcs;refine⟨hf1,hX1.seq (m:=1) (fun c1 ⟨e1,e2,e3,e4⟩=> ?_) (by omega)⟩;refine qh (d:=0) (a:=0) (x:=wU ((E:Int)-((p+wX e:Nat):Int))) (by rw [e1];exact hcs.head.1) (Go.done (by decide) ⟨e4.st.of fun k hk=>CD,⟨e4.sm.m,e4.sm.i,e4.sm.o⟩,e4.fr,Kv.of e3,fun hq=>(by cases hq),fun y hy=> ?_⟩);cases hy;refine⟨?_,by show rp c1.r 0 (gU (c1.pc+1)) 1=_;rw [CD];exact e2⟩;show r9 _=_;rw [e1];exact lx J (by omega) (by omega)
     rw [if_neg q6]at h;by_cases q7:k=7
     · -- out
      rw [if_pos q7]at h;subst q7;cases h;have hc':cAt code p (zX o S e p++ [⟨48,0,0,0,1⟩]):=hc;have hw:wY (.mk 7 nm ve (e::es) vb body vl els)=wX e+1:=J;rw [hw]at hl ⊢;have hcs:=hc'.app.2;rw [fO]at hcs;refine⟨hf1,hX1.seq (m:=1) (fun c1 ⟨e1,e2,e3,e4⟩=> ?_) (by dsimp only;omega)⟩;refine J5 (by rw [e1];exact hcs.head.1) (Go.done (by decide) ⟨e4.st.of fun _ _=>J,⟨e4.sm.m,e4.sm.i,?_⟩,e4.fr,Kv.of e3,Ex.none (by show c1.pc+1=_;rw [e1];rfl)⟩);show c1.out++ [c1.r 1]=s1.out++ [v];rw [e2,e4.sm.o]
     rw [if_neg q7]at h
     -- an expression alone
     have q8:k=8:=by omega
     subst q8;cases h;have hw:wY (.mk 8 nm ve (e::es) vb body vl els)=wX e:=J;rw [hw];exact⟨hf1,hX1.weak (fun c1 ⟨e1,e2,e3,e4⟩=>⟨e4.st,e4.sm,e4.fr,Kv.of e3,Ex.none e1⟩) (by omega)⟩
end
structure pFO(fs:List Tf)(f:Tf)(N:List ByteArray):Prop where
 so:SOs fs N f.body
 ps4:f.ps.length≤4
 nv:(cT f).2.toNat≤12
 nd:f.ps.Nodup
 off:∀x∈N,(∃i:Nat,f.ps[i]?=some x∧bC (cT f).1 x=8+4*((f.ps.length:Int)-1-i))∨(x∉f.ps∧∃j:Nat,1≤j∧j≤(cT f).2.toNat∧bC (cT f).1 x=wU (-(4*(j:Int))))
 inj:∀x∈N,∀y∈N,bC (cT f).1 x=bC (cT f).1 y→x=y
structure CF(code:List Qi)(fs:List Tf)(S:ByteArray→Int):Prop where
 fn:∀x f,cm fs x=some f→∃p:Nat,S x=(p:Int)∧cAt code p (zF S f p)∧p+wF f≤1984
 ok:∀x f,cm fs x=some f→∃N,pFO fs f N
theorem CF.cp{code:List Qi}{fs:List Tf}{S:ByteArray→Int}(h:CF code fs S):CP code fs S:=
 ⟨fun x f hf=>by obtain⟨p,h1,h2,h3⟩:=h.fn x f hf;exact⟨p,h1,by omega⟩,fun x f hf=>by obtain⟨N,hN⟩:=h.ok x f hf;exact hN.ps4⟩
theorem nq:∀(ps:List ByteArray)(al:List Int)(vs:Vs)(x:ByteArray),x∉ps→gM (dM vs ps al) x=gM vs x
 | [],al,vs,x,h=>by unfold dM;rfl
 | p::ps,[],vs,x,h=>by unfold dM;rfl
 | p::ps,a::al,vs,x,h=>by
  rw [List.mem_cons,not_or]at h;show gM (dM (d8 vs p a) ps al) x=_;rw [nq ps al _ x h.2,pj,if_neg fun e=>h.1 e.symm]
theorem ux:∀(ps:List ByteArray)(al:List Int)(vs:Vs)(i:Nat)(x:ByteArray)(a:Int),ps.Nodup→ps[i]?=some x→al[i]?=some a→gM (dM vs ps al) x=a
 | [],al,vs,i,x,a,_,h,_=>by simp at h
 | p::ps,[],vs,i,x,a,_,_,h=>by simp at h
 | p::ps,b::al,vs,i,x,a,hn,h1,h2=>by
  rw [List.nodup_cons]at hn;show gM (dM (d8 vs p b) ps al) x=_;cases i with
  | zero=>
   cases h1;cases h2;rw [nq ps al _ p hn.1,pj,if_pos J]
  | succ i=>exact ux ps al _ i x a hn.2 h1 h2
section
variable{code:List Qi}{fs:List Tf}{S:ByteArray→Int}
theorem u4{d F:Int}:∀(n:Nat){p:Nat}{sp:Int}{c:Qs}{s:Ms},cAt code p (ie n)→c.pc=p→St d F sp c→9216+4*(n:Int)≤sp→sp≤16384→sp%4=0→pSm c s→
  Go code (2*(n:Int)) c fun c'=>c'.pc=p+2*n∧St d F (sp-4*(n:Int)) c'∧pSm c' s∧(∀a,sp≤a→c'.m a=c.m a)∧∀j:Nat,1≤j→j≤n→c'.m (sp-4*(j:Int))=0
 | 0,p,sp,c,s,_,hpc,h,_,_,_,hs=>Go.done (by omega) ⟨hpc,by rw [show sp-4*((0:Nat):Int)=sp by omega];exact h,hs,fun _ _=>rfl,fun j h1 h2=>by omega⟩
 | n+1,p,sp,c,s,hc,hpc,h,h1,h2,h3,hs=>by
  have hc':cAt code p (eK 0++ie n):=hc;obtain⟨hc1,hc2⟩:=hc'.app;refine(kL hc1 hpc h (by decide) ⟨by omega,h2,h3⟩).seq (m:=2*(n:Int)) (fun c1 ⟨e1,e2,e3,e4,e5,e6⟩=> ?_) (by omega);refine(u4 n (p:=p+2) (sp:=sp-4) hc2 e1 e2 (by omega) (by omega) (by omega) (hs.push e3 e4 e5 (by omega))).weak (fun c2 ⟨f1,f2,f3,f4,f5⟩=>⟨by rw [f1];omega,?_,f3,fun a ha=> ?_,fun j hj1 hj2=> ?_⟩) (Int.le_refl _)
  ·rw [show sp-4*((n+1:Nat):Int)=sp-4-4*(n:Int) by omega];exact f2
  ·rw [f4 a (by omega),e3,jf (by omega)]
  ·by_cases hj:j=1
   ·subst hj;rw [show sp-4*((1:Nat):Int)=sp-4 by omega,f4 _ (Int.le_refl _),e3,n_,h.z]
   ·have:=f5 (j-1) (by omega) (by omega);rw [show sp-4*(j:Int)=sp-4-4*((j-1:Nat):Int) by omega];exact this
theorem Gs{g:Nat}(hF:VF fs)(hC:CF code fs S)(ih:HD code fs S g):HC code fs S g:=by
 intro d f al s r h F sp c q hff hal hao hpc h15 hq hst hsm hok hfu ha hsp hlo hd hargs;have hlo':=sj hd;cases g with
 | zero=>simp [jR]at h
 | succ g=>
  rw [jR]at h;obtain⟨pf,hpf,hcf,hpl⟩:=hC.fn _ _ hff;obtain⟨N,hN⟩:=hC.ok _ _ hff;obtain⟨nv,hnv⟩:∃nv,nv=(cT f).2.toNat:=⟨_,J⟩
  obtain⟨o,ho⟩:∃o,o=(cT f).1:=⟨_,J⟩
  have hv12:=hN.nv;have h4:=hN.ps4;have hoff:=hN.off;have hinj:=hN.inj;rw [←ho,←hnv]at hoff;rw [←ho]at hinj;rw [←hnv]at hv12;have hwf:wF f=17+2*nv+eL f.body:=by rw [hnv];rfl
  have hcf':cAt code pf ([qi 16 12 12 1,qi 16 2 0 12,qi 35 2 12 2,⟨49,0,0,0,0⟩]++(eK 15++(eK 13++([q3 1 13 14 0]++(ie nv++
   (jX o S ((pf+10+2*nv+eL f.body:Nat):Int) f.body (pf+9+2*nv)++([q3 1 1 0 0,q3 1 14 13 0]++(j7 13++(j7 15++ [qi 16 12 12 4294967295,qi 27 0 15 0]))))))))):=by
   rw [hnv,ho];exact hcf
  obtain⟨hA,hcf'⟩:=hcf'.app;obtain⟨hP15,hcf'⟩:=hcf'.app;obtain⟨hP13,hcf'⟩:=hcf'.app;obtain⟨hAdd,hcf'⟩:=hcf'.app;obtain⟨hP0,hcf'⟩:=hcf'.app;obtain⟨hBody,hcf'⟩:=hcf'.app;obtain⟨hR,hcf'⟩:=hcf'.app;obtain⟨hQ13,hcf'⟩:=hcf'.app;obtain⟨hQ15,hEnd⟩:=hcf'.app;simp only [jm,eC,eK,j7,List.length_cons,List.length_nil,Nat.zero_add,Nat.reduceAdd]at hP15 hP13 hAdd hP0 hBody hR hQ13 hQ15 hEnd;have hpc0:c.pc=pf:=by rw [hpc,hpf];rfl
  have hdc:(d:Int)≤12:=by omega
  have hstart:Go code 3 c fun c3=>c3.pc=(if d=12 then pf+3 else pf+4)∧St ((d:Int)+1) F sp c3∧c3.r 15=gU q∧pSm c3 s∧c3.m=c.m:=by
   refine iS hpc0 hA.head.1 (v:=(d:Int)+1) (by
    show some (wU (c.r 12+1))=_;rw [hst.d,fE (by omega)]) fun c1 e1 e2 e3 e4 e5=> ?_
   refine iS e1 hA.head.2.head.1 (v:=12) (by
    show some (wU (c1.r 0+12))=_;rw [e2,cj (by decide),hst.z];rfl) fun c2 f1 f2 f3 f4 f5=> ?_
   refine Gw (d:=2) (a:=12) (x:=2) (by rw [f1];exact hA.head.2.head.2.head.1) (Go.done (by decide) ⟨?_,⟨?_,?_,?_,?_⟩,?_,⟨fun i hi=> ?_,(f4.trans e4).trans hsm.i,(f5.trans e5).trans hsm.o⟩,f3.trans e3⟩)
   ·show(if c2.r 2≥c2.r 12 then _ else c2.pc+1)=_;rw [f2,dl (by decide),cj (by decide),e2,dl (by decide),f1];by_cases h12:d=12
    ·rw [if_neg (by omega),if_pos h12]
    ·rw [if_pos (by omega),if_neg h12];exact lx (by rw [show((pf+4:Nat):Int)-((pf+1+1:Nat):Int)=2 by omega];rfl) (by omega) (by omega)
   ·show c2.r 0=0;rw [f2,cj (by decide),e2,cj (by decide)];exact hst.z
   ·show c2.r 12=_;rw [f2,cj (by decide),e2,dl (by decide)]
   ·show c2.r 13=_;rw [f2,cj (by decide),e2,cj (by decide)];exact hst.f
   ·show c2.r 14=_;rw [f2,cj (by decide),e2,cj (by decide)];exact hst.s
   ·show c2.r 15=_;rw [f2,cj (by decide),e2,cj (by decide)];exact h15
   ·show c2.m _=_;rw [f3,e3];exact hsm.m i hi
  by_cases h12:d=12
  ·rw [if_pos h12]at h hstart;cases h;exact fun _=>hstart.weak (fun c3 ⟨e1,_⟩=>by unfold Bk;rw [e1];exact hA.head.2.head.2.head.2.head.1) (by omega)
  rw [if_neg h12]at h hstart;have hlo1:lo d=lo (d+1)+256:=by unfold lo;omega
  have hlo2:=sj (d:=d+1) (by omega)
  -- the frame
  have hframe:Go code (8+2*(nv:Int)) c fun c'=>c'.pc=pf+9+2*nv∧Pr o N (dM [] f.ps al) (d+1) (sp-8) (sp-8-4*(nv:Int)) s c'∧c'.m (sp-8)=F∧c'.m (sp-4)=gU q∧∀a,sp≤a→c'.m a=c.m a:=by
   refine hstart.seq (m:=5+2*(nv:Int)) (fun c3 ⟨e1,e2,e3,e4,e5⟩=> ?_) (by omega);refine(kL hP15 e1 e2 (by decide) ⟨by omega,by omega,ha⟩).seq (m:=3+2*(nv:Int)) (fun c4 ⟨f1,f2,f3,f4,f5,f6⟩=> ?_) (by omega);refine(kL hP13 f1 f2 (by decide) ⟨by omega,by omega,by omega⟩).seq (m:=1+2*(nv:Int)) (fun c5 ⟨g1,g2,g3,g4,g5,g6⟩=> ?_) (by omega);refine iy g1 hAdd.head.1 (v:=sp-8) (by
    show some (wU (c5.r 14+c5.r 0))=_;rw [g2.s,g2.z,fE (by omega)];exact congrArg some (by omega)) fun c6 i1 i2 i3 i4 i5=> ?_
   have hst6:St ((d:Int)+1) (sp-8) (sp-8) c6:=⟨by rw [i2,cj (by decide)];exact g2.z,by rw [i2,cj (by decide)];exact g2.d,by rw [i2];exact dl (by decide),by rw [i2,cj (by decide),g2.s];omega⟩
   have hsm6:pSm c6 s:=by
    have h5:=(e4.push f3 f4 f5 (by omega)).push g3 g4 g5 (by omega);exact⟨fun i hi=>by rw [i3];exact h5.m i hi,i4.trans h5.i,i5.trans h5.o⟩
   have hm8:c6.m (sp-8)=F:=by
    rw [i3,g3,show sp-8=sp-4-4 by omega,n_,f6 13 (by decide)];exact e2.f
   have hm4:c6.m (sp-4)=gU q:=by
    rw [i3,g3,jf (by omega),f3,n_];exact e3
   have hmh:∀a,sp≤a→c6.m a=c.m a:=fun a ha=>by rw [i3,g3,jf (by omega),f3,jf (by omega),e5]
   refine(u4 nv (p:=pf+9) (s:=s) hP0 i1 hst6 (by omega) (by omega) (by omega) hsm6).weak (fun c7 ⟨j1,j2,j3,j4,j5⟩=>⟨j1,⟨by rw [show(((d+1:Nat):Int))=(d:Int)+1 by omega];exact j2,⟨fun x hx=> ?_,fun x hx y hy e=> ?_⟩,fun x hx=> ?_,j3,hok,?_,⟨by omega,by omega⟩,hfu,⟨by omega,by omega⟩⟩,by rw [j4 _ (Int.le_refl _)];exact hm8,by rw [j4 _ (by omega)];exact hm4,fun a ha=>by rw [j4 a (by omega)];exact hmh a ha⟩) (by omega)
   ·rcases hoff x hx with⟨i,hi,he⟩|⟨_,j,hj1,hj2,he⟩
    ·obtain⟨hil,-⟩:=List.getElem?_eq_some_iff.1 hi;have:va o (sp-8) x=sp+4*((f.ps.length:Int)-1-i):=by unfold va;rw [he,fE (by omega)];omega
     rw [this];exact⟨⟨by omega,by omega,by omega⟩,by omega⟩
    ·have:va o (sp-8) x=sp-8-4*(j:Int):=by unfold va;rw [he,nR,nR];omega
     rw [this];exact⟨⟨by omega,by omega,by omega⟩,by omega⟩
   ·refine hinj x hx y hy ?_;unfold va at e;rcases hoff x hx with⟨i,hi,he⟩|⟨_,j,hj1,hj2,he⟩<;>rcases hoff y hy with⟨i',hi',he'⟩|⟨_,j',hj1',hj2',he'⟩
    ·obtain⟨hil,-⟩:=List.getElem?_eq_some_iff.1 hi;obtain⟨hil',-⟩:=List.getElem?_eq_some_iff.1 hi';rw [he,he',nR,nR]at e;rw [he,he'];omega
    ·obtain⟨hil,-⟩:=List.getElem?_eq_some_iff.1 hi;rw [he,he',nR,nR,nR]at e;exfalso;omega
    ·obtain⟨hil',-⟩:=List.getElem?_eq_some_iff.1 hi';rw [he,he',nR,nR,nR]at e;exfalso;omega
    ·rw [he,he',nR,nR,nR,nR]at e;rw [he,he',nR,nR];omega
   ·rcases hoff x hx with⟨i,hi,he⟩|⟨hn,j,hj1,hj2,he⟩
    ·obtain⟨hil,-⟩:=List.getElem?_eq_some_iff.1 hi;have:va o (sp-8) x=sp+4*((f.ps.length:Int)-1-i):=by unfold va;rw [he,fE (by omega)];omega
     obtain⟨a,ha'⟩:∃a,al[i]?=some a:=⟨_,List.getElem?_eq_getElem (by omega)⟩
     rw [this,j4 _ (by omega),hmh _ (by omega),ux f.ps al [] i x a hN.nd hi ha',←hargs i a ha',hal]
    ·have:va o (sp-8) x=sp-8-4*(j:Int):=by unfold va;rw [he,nR,nR];omega
     rw [this,j5 j hj1 hj2,nq f.ps al [] x hn];rfl
   ·exact okVs.bind f.ps al (fun p hp=>by simp at hp) hao
  cases hb:fI g fs (d+1) (dM [] f.ps al) f.body s with
  | none=>rw [hb]at h;simp at h
  | some rb=>
   rw [hb]at h;have hB:∀c',(c'.pc=pf+9+2*nv∧Pr o N (dM [] f.ps al) (d+1) (sp-8) (sp-8-4*(nv:Int)) s c'∧c'.m (sp-8)=F∧c'.m (sp-4)=gU q∧∀a,sp≤a→c'.m a=c.m a)→
     SR code (pf+9+2*nv+eL f.body) (pf+10+2*nv+eL f.body) 50 0 o N (d+1) (sp-8) (sp-8-4*(nv:Int)) c' s rb:=fun c' ⟨e1,e2,_⟩=>
    ih.b g (Nat.lt_succ_self g) (d+1) _ f.body s rb hb o N (pf+9+2*nv) (pf+10+2*nv+eL f.body) (sp-8) (sp-8-4*(nv:Int)) c' hN.so hBody (by omega) (by omega) e1 e2 (by omega)
   cases rb with
   | err e=>cases h;exact fun he=>hframe.seq (fun c' hc'=>hB c' hc' he) (by omega)
   | ok qr s1=>
    obtain⟨vs1,qr⟩:=qr;cases h;have hf1:0≤s1.fuel:=by
     obtain⟨_,c2,_,_,hP⟩:=hframe;exact(hB c2 hP).1
    refine⟨hf1,hframe.seq (m:=100*(s.fuel-s1.fuel)+10) (fun c1 hc1=>(hB c1 hc1).2.seq (m:=9) (fun c2 ⟨e1,e2,e3,e4,e5⟩=> ?_) (by omega)) (by omega)⟩;obtain⟨k1,k2,k3,k4,k5⟩:=hc1;have hva:∀x∈N,∀a,(a=sp-8∨a=sp-4∨sp+4*(al.length:Int)≤a)→a≠va o (sp-8) x:=fun x hx a ha'=>by
     rcases hoff x hx with⟨i,hi,he⟩|⟨_,j,hj1,hj2,he⟩
     ·obtain⟨hil,-⟩:=List.getElem?_eq_some_iff.1 hi;unfold va;rw [he,fE (by omega)];omega
     ·unfold va;rw [he,nR,nR];omega
    have hm8:c2.m (sp-8)=F:=(e4 _ (by omega) fun x hx=>hva x hx _ (.inl J)).trans k3;have hm4:c2.m (sp-4)=gU q:=(e4 _ (by omega) fun x hx=>hva x hx _ (.inr (.inl J))).trans k4;have hmh:∀a,sp+4*(al.length:Int)≤a→c2.m a=c.m a:=fun a ha'=>(e4 _ (by omega) fun x hx=>hva x hx _ (.inr (.inr ha'))).trans (k5 a (by omega))
    have hend:Go code 1 c2 fun c3=>c3.pc=pf+10+2*nv+eL f.body∧c3.r 1=qr.getD 0∧St ((d:Int)+1) (sp-8) (sp-8-4*(nv:Int)) c3∧pSm c3 s1∧c3.m=c2.m:=by
     rw [show(((d+1:Nat):Int))=(d:Int)+1 by omega]at e1;cases qr with
     | some v=>exact Go.done (by decide) ⟨(e5.2 v rfl).1,(e5.2 v rfl).2,e1,e2,rfl⟩
     | none=>
      refine iy (e5.1 J) hR.head.1 (v:=0) (by
       show some (wU (c2.r 0+c2.r 0))=_;rw [e1.z];rfl) fun c3 g1 g2 g3 g4 g5=>Go.done (by decide) ⟨by rw [g1];omega,by rw [g2];exact dl (by decide),e1.of fun k hk=>by rw [g2];exact cj (by omega),⟨fun i hi=>by rw [g3];exact e2.m i hi,g4.trans e2.i,g5.trans e2.o⟩,g3⟩
    refine hend.seq (m:=8) (fun c3 ⟨f1,f2,f3,f4,f5⟩=> ?_) (by decide);refine iy f1 (by
     have:=hR.head.2.head.1;rw [show pf+10+2*nv+eL f.body=pf+9+2*nv+eL f.body+1 by omega];exact this) (v:=sp-8) (by
     show some (wU (c3.r 13+c3.r 0))=_;rw [f3.f,f3.z,Int.add_zero,fE (by omega)]) fun c4 g1 g2 g3 g4 g5=> ?_
    have h14:c4.r 14=sp-8:=by rw [g2];exact dl (by decide)
    refine(tw (r:=13) hQ13 (g1.trans (by omega)) h14 (by decide) ⟨by omega,by omega,by omega⟩).seq (m:=5) (fun c5 ⟨i1,i2,i3,i4⟩=> ?_) (by decide);refine(tw (sp:=sp-4) (r:=15) hQ15 (i1.trans (by omega)) (by rw [i3];omega) (by decide) ⟨by omega,by omega,by omega⟩).seq (m:=3) (fun c6 ⟨j1,j2,j3,j4⟩=> ?_) (by decide);have hm6:c6.m=c2.m:=by rw [j4.m,i4.m,g3,f5]
    have h13:c6.r 13=F:=by rw [j4.r 13 (by decide),i2,g3,f5];exact hm8
    have h15':c6.r 15=gU q:=by rw [j2,i4.m,g3,f5];exact hm4
    have h0:c6.r 0=0:=by rw [j4.r 0 (by decide),i4.r 0 (by decide),g2,cj (by decide)];exact f3.z
    have h1:c6.r 1=qr.getD 0:=by rw [j4.r 1 (by decide),i4.r 1 (by decide),g2,cj (by decide)];exact f2
    have h12':c6.r 12=(d:Int)+1:=by rw [j4.r 12 (by decide),i4.r 12 (by decide),g2,cj (by decide)];exact f3.d
    refine iS (p:=pf+15+2*nv+eL f.body) (j1.trans (by omega)) (by
     have:=hEnd.head.1;rw [show pf+15+2*nv+eL f.body=pf+4+2+2+1+2*nv+eL f.body+2+2+2 by omega];exact this) (v:=(d:Int)) (by
     show some (wU (c6.r 12+4294967295))=_;rw [h12',nR];exact congrArg some (by omega)) fun c7 l1 l2 l3 l4 l5=> ?_
    refine Gv (d:=0) (a:=15) (x:=0) (by
     have:=hEnd.head.2.head.1;rw [l1,show pf+15+2*nv+eL f.body+1=pf+4+2+2+1+2*nv+eL f.body+2+2+2+1 by omega];exact this) (Go.done (by decide) ⟨?_,?_,⟨?_,?_,?_,?_⟩,⟨fun i hi=> ?_,?_,?_⟩,fun a ha'=> ?_⟩)
    ·show r9 (wU (c7.r 15+0))=q;rw [l2,cj (by decide),h15'];exact FV (by omega)
    ·show rp c7.r 0 (gU (c7.pc+1)) 1=_;rw [cj (by decide),l2,cj (by decide)];exact h1
    ·show rp c7.r 0 (gU (c7.pc+1)) 0=_;rw [CD,l2,cj (by decide)];exact h0
    ·show rp c7.r 0 (gU (c7.pc+1)) 12=_;rw [cj (by decide),l2,dl (by decide)]
    ·show rp c7.r 0 (gU (c7.pc+1)) 13=_;rw [cj (by decide),l2,cj (by decide)];exact h13
    ·show rp c7.r 0 (gU (c7.pc+1)) 14=_;rw [cj (by decide),l2,cj (by decide),j3];omega
    ·show c7.m _=_;rw [l3,hm6,←f5];exact f4.m i hi
    ·exact(((l4.trans j4.i).trans i4.i).trans g4).trans f4.i
    ·exact(((l5.trans j4.o).trans i4.o).trans g5).trans f4.o
    ·show c7.m a=_;rw [l3,hm6];exact hmh a ha'
theorem J1(hF:VF fs)(hC:CF code fs S)(g:Nat):HD code fs S g:=by
 induction g with
 | zero=>exact⟨⟨fun _ h=>absurd h (Nat.not_lt_zero _),fun _ h=>absurd h (Nat.not_lt_zero _),fun _ h=>absurd h (Nat.not_lt_zero _)⟩,fun _ h=>absurd h (Nat.not_lt_zero _),fun _ h=>absurd h (Nat.not_lt_zero _),fun _ h=>absurd h (Nat.not_lt_zero _)⟩
 | succ g ih=>
  have up:∀{T:Nat→Prop},(∀g'<g,T g')→T g→∀g'<g+1,T g':=fun{T} h1 h2 g' hg=>by
   rcases Nat.lt_or_eq_of_le (Nat.le_of_lt_succ hg)with h|h
   ·exact h1 g' h
   ·exact h▸h2
  exact⟨⟨up ih.x (Gn hF hC.cp ih.toHA),up ih.k (Gr hF ih.toHA),up ih.c (Gs hF hC ih)⟩,up ih.b (Gu hF ih),up ih.s (Gq hF ih),up ih.w (Gp hF ih)⟩
end
theorem kx{x:ByteArray}{l:List ByteArray}:cg x l=true↔x∈l:=by
 unfold cg;rw [List.any_eq_true];constructor
 ·rintro ⟨y,h1,h2⟩;have h2:x=y:=by simpa using h2
  exact h2▸h1
 ·exact fun h=>⟨x,h,by simp⟩
mutual
theorem MQ{fs:List Tf}{ns N:List ByteArray}(hs:∀x∈ns,x∈N):∀t:Tx,eX fs ns t=0→eX fs N t=0
 | .mk k n nm v kids,h=>by
  obtain⟨h1,h2⟩:=bw.1 h;refine bw.2 ⟨?_,x9 hs kids h2⟩;by_cases hk:k=2
  ·rw [if_pos hk]at h1 ⊢;by_cases hm:cg nm ns=true
   ·rw [if_pos (kx.2 (hs nm (kx.1 hm)))]
   ·rw [if_neg hm]at h1;exact absurd h1 (by decide)
  ·rw [if_neg hk]at h1 ⊢;exact h1
theorem x9{fs:List Tf}{ns N:List ByteArray}(hs:∀x∈ns,x∈N):∀l:List Tx,iF fs ns l=0→iF fs N l=0
 | [],_=>rfl
 | t::r,h=>by
  obtain⟨h1,h2⟩:=bw.1 h;exact bw.2 ⟨MQ hs t h1,x9 hs r h2⟩
end
theorem XO.list{fs:List Tf}{N:List ByteArray}:∀{l:List Tx},GXs l→oI l=true→iF fs N l=0→∀u∈l,XO fs N u
 | [],_,_,_,u,hu=>by simp at hu
 | t::r,hg,hr,he,u,hu=>by
  have hr2:(rX t&&oI r)=true:=hr;rw [Bool.and_eq_true]at hr2;obtain⟨e1,e2⟩:=bw.1 he;rcases List.mem_cons.1 hu with rfl|hu
  ·exact⟨hg.1,hr2.1,e1⟩
  ·exact XO.list hg.2 hr2.2 e2 u hu
theorem Eb:∀{l:List Tx}{t:Tx},t∈l→dX t≤ft l
 | [],t,h=>by simp at h
 | a::r,t,h=>by
  show dX t≤max (dX a) (ft r);rcases List.mem_cons.1 h with rfl|h
  ·omega
  ·have:=Eb h;omega
theorem yu(fs:List Tf)(ns:List ByteArray)(k:Int)(nm:ByteArray)(ve:SV)(es:List Tx)(vb:SV)(body:List Ty)(vl:SV)(els:List Ty):bY fs ns (.mk k nm ve es vb body vl els)=
  ((cA fs (cA fs (if k=1 then ns++ [nm]else ns) body).1 els).1,fst (if k=2 then(if cg nm ns=true then 0 else 21)else 0) (fst (iF fs ns es) (fst (if k=1 then(if cg nm ns=true then 22 else 0)else 0) (fst (cA fs (if k=1 then ns++ [nm]else ns) body).2 (cA fs (cA fs (if k=1 then ns++ [nm]else ns) body).1 els).2)))):=rfl
theorem ui(fs:List Tf)(ns:List ByteArray)(t:Ty)(r:List Ty):cA fs ns (t::r)=((cA fs (bY fs ns t).1 r).1,fst (bY fs ns t).2 (cA fs (bY fs ns t).1 r).2):=rfl
mutual
theorem EN{fs:List Tf}:∀(t:Ty)(ns:List ByteArray),∀x∈ns,x∈(bY fs ns t).1
 | .mk k nm ve es vb body vl els,ns,x,hx=>by
  rw [yu];refine jK els _ x (jK body _ x ?_);split
  ·exact List.mem_append_left _ hx
  ·exact hx
theorem jK{fs:List Tf}:∀(l:List Ty)(ns:List ByteArray),∀x∈ns,x∈(cA fs ns l).1
 | [],ns,x,hx=>hx
 | t::r,ns,x,hx=>by
  rw [ui];exact jK r _ x (EN t ns x hx)
end
mutual
theorem LN{fs:List Tf}:∀(t:Ty)(ns N:List ByteArray)(d:Nat),(∀x∈(bY fs ns t).1,x∈N)→GY t→rY t=true→(bY fs ns t).2=0→BN d t=false→SO fs N t
 | .mk k nm ve es vb body vl els,ns,N,d,hN,hg,hr,he,hd=>by
  have hr2:(ze k nm es.length body.length els.length&&oI es&&lu body&&lu els)=true:=hr;simp only [Bool.and_eq_true]at hr2;obtain⟨⟨⟨h1,h2⟩,h3⟩,h4⟩:=hr2;have hd2:(decide (d>8) || decide (ft es>8) || da (d+1) body || da (d+1) els)=false:=hd;simp only [Bool.or_eq_false_iff,decide_eq_false_iff_not]at hd2;obtain⟨⟨⟨d1,d2⟩,d3⟩,d4⟩:=hd2;have hsub:=EN (fs:=fs) (.mk k nm ve es vb body vl els) ns;rw [yu]at he hN;obtain⟨e1,he⟩:=bw.1 he;obtain⟨e2,he⟩:=bw.1 he;obtain⟨e3,he⟩:=bw.1 he;obtain⟨e4,e5⟩:=bw.1 he;have hns:∀x∈ns,x∈N:=fun x hx=>hN x (hsub x hx)
  refine⟨h1,fun u hu=>⟨XO.list hg.2.1.2 h2 (x9 hns es e2) u hu,by have:=Eb hu;omega⟩,fun hk=> ?_,⟨hg.2.2.1.1,s9 body _ N (d+1) (fun x hx=>hN x (jK els _ x hx)) hg.2.2.1.2 h3 e4 d3⟩,hg.2.2.2.1,s9 els _ N (d+1) hN hg.2.2.2.2 h4 e5 d4⟩;by_cases hk1:k=1
  ·refine hN nm (jK els _ nm (jK body _ nm ?_));rw [if_pos hk1];exact List.mem_append_right _ (List.mem_singleton_self _)
  ·have hk2:k=2:=by omega
   rw [if_pos hk2]at e1;by_cases hm:cg nm ns=true
   ·exact hns nm (kx.1 hm)
   ·rw [if_neg hm]at e1;exact absurd e1 (by decide)
theorem s9{fs:List Tf}:∀(l:List Ty)(ns N:List ByteArray)(d:Nat),(∀x∈(cA fs ns l).1,x∈N)→GYs l→lu l=true→(cA fs ns l).2=0→da d l=false→SOs fs N l
 | [],_,_,_,_,_,_,_,_=>trivial
 | t::r,ns,N,d,hN,hg,hr,he,hd=>by
  have hr2:(rY t&&lu r)=true:=hr;rw [Bool.and_eq_true]at hr2;have hd2:(BN d t || da d r)=false:=hd;rw [Bool.or_eq_false_iff]at hd2;rw [ui]at he hN;obtain⟨e1,e2⟩:=bw.1 he;exact⟨LN t ns N d (fun x hx=>hN x (jK r _ x hx)) hg.1 hr2.1 e1 hd2.1,s9 r _ N d hN hg.2 hr2.2 e2 hd2.2⟩
end
structure Jo(ps ns:List ByteArray)(o:Om)(n:Int)(vs:List ByteArray):Prop where
 ens:ns=ps++vs
 nd:ns.Nodup
 en:(vs.length:Int)=n
 p:∀(i:Nat) x,ps[i]?=some x→bC o x=8+4*((ps.length:Int)-1-i)
 v:∀(j:Nat) x,vs[j]?=some x→bC o x=wU (-(4*((j:Int)+1)))
theorem Jo.add{ps ns:List ByteArray}{o:Om}{n:Int}{vs:List ByteArray}{nm:ByteArray}(h:Jo ps ns o n vs)(hn:nm∉ns):Jo ps (ns++ [nm]) (d8 o nm (wU (-(4*(n+1))))) (n+1) (vs++ [nm]):=by
 refine⟨by rw [h.ens,List.append_assoc],List.nodup_append.2 ⟨h.nd,by simp,fun a ha b hb e=> ?_⟩,by rw [List.length_append,List.length_singleton,←h.en];omega,fun i x hi=> ?_,fun j x hj=> ?_⟩
 ·rw [List.mem_singleton.1 hb]at e;exact hn (e▸ha)
 ·rw [f_,if_neg fun e=>hn (by rw [e,h.ens];exact List.mem_append_left _ (List.mem_of_getElem? hi))];exact h.p i x hi
 ·by_cases hl:j<vs.length
  ·rw [List.getElem?_append_left hl]at hj;rw [f_,if_neg fun e=>hn (by rw [e,h.ens];exact List.mem_append_right _ (List.mem_of_getElem? hj))];exact h.v j x hj
  ·rw [List.getElem?_append_right (by omega)]at hj;have:j=vs.length:=by
    have:=(List.getElem?_eq_some_iff.1 hj).1;simp at this;omega
   subst this;rw [Nat.sub_self]at hj;cases hj;rw [f_,if_pos J,h.en]
theorem xP(k:Int)(nm:ByteArray)(ve:SV)(es:List Tx)(vb:SV)(body:List Ty)(vl:SV)(els:List Ty)(p:Om×Int):gD (.mk k nm ve es vb body vl els) p=gDs els (gDs body (if k=1 then(d8 p.1 nm (wU (-(4*(p.2+1)))),p.2+1)else p)):=rfl
mutual
theorem PE{fs:List Tf}{ps:List ByteArray}:∀(t:Ty)(ns:List ByteArray)(p:Om×Int),(∃vs,Jo ps ns p.1 p.2 vs)→(bY fs ns t).2=0→∃vs,Jo ps (bY fs ns t).1 (gD t p).1 (gD t p).2 vs
 | .mk k nm ve es vb body vl els,ns,p,h,he=>by
  rw [yu]at he ⊢;obtain⟨e1,he⟩:=bw.1 he;obtain⟨e2,he⟩:=bw.1 he;obtain⟨e3,he⟩:=bw.1 he;obtain⟨e4,e5⟩:=bw.1 he;rw [xP];refine zp els _ _ (zp body _ _ ?_ e4) e5;by_cases hk:k=1
  ·rw [if_pos hk]at e3;rw [if_pos hk,if_pos hk];obtain⟨vs,hvs⟩:=h;refine⟨_,hvs.add fun hm=> ?_⟩;rw [if_pos (kx.2 hm)]at e3;exact absurd e3 (by decide)
  ·rw [if_neg hk,if_neg hk];exact h
theorem zp{fs:List Tf}{ps:List ByteArray}:∀(l:List Ty)(ns:List ByteArray)(p:Om×Int),(∃vs,Jo ps ns p.1 p.2 vs)→(cA fs ns l).2=0→∃vs,Jo ps (cA fs ns l).1 (gDs l p).1 (gDs l p).2 vs
 | [],ns,p,h,_=>h
 | t::r,ns,p,h,he=>by
  rw [ui]at he ⊢;obtain⟨e1,e2⟩:=bw.1 he;exact zp r _ _ (PE t ns p h e1) e2
end
mutual
theorem Ke:∀(t:Ty)(p:Om×Int),(gD t p).2=p.2+vY t
 | .mk k nm ve es vb body vl els,p=>by
  rw [xP,mT els,mT body,show vY (.mk k nm ve es vb body vl els)=(if k=1 then 1 else 0)+cL body+cL els from J];by_cases h:k=1
  ·rw [if_pos h,if_pos h];show p.2+1+_+_=_;omega
  ·rw [if_neg h,if_neg h];omega
theorem mT:∀(l:List Ty)(p:Om×Int),(gDs l p).2=p.2+cL l
 | [],p=>by show p.2=p.2+((0:Nat):Int);omega
 | t::r,p=>by
  show(gDs r (gD t p)).2=_;rw [mT r,Ke t,show cL (t::r)=vY t+cL r from J];omega
end
theorem DQ(n:Int):∀(l:List ByteArray)(k:Int)(o:Om),l.Nodup→(∀(i:Nat) x,l[i]?=some x→bC (gP n k l o) x=8+4*(n-1-(k+i)))∧∀x,x∉l→bC (gP n k l o) x=bC o x
 | [],k,o,_=>⟨fun i x h=>by simp at h,fun _ _=>rfl⟩
 | p::r,k,o,h=>by
  rw [List.nodup_cons]at h;obtain⟨i1,i2⟩:=DQ n r (k+1) (d8 o p (8+4*(n-1-k))) h.2;refine⟨fun i x hi=> ?_,fun x hx=> ?_⟩
  ·cases i with
   | zero=>
    cases hi;show bC (gP n (k+1) r _) p=_;rw [i2 p h.1,f_,if_pos J];show 8+4*(n-1-k)=8+4*(n-1-(k+0));rw [Int.add_zero]
   | succ i=>
    have:=i1 i x hi;show bC (gP n (k+1) r _) x=_;rw [this];omega
  ·rw [List.mem_cons,not_or]at hx;show bC (gP n (k+1) r _) x=_;rw [i2 x hx.2,f_,if_neg fun e=>hx.1 e.symm]
theorem Ea:∀(l ns:List ByteArray),ns.Nodup→qG ns l=0→(ns++l).Nodup
 | [],ns,h,_=>by rw [List.append_nil];exact h
 | x::r,ns,h,he=>by
  obtain⟨e1,e2⟩:=bw.1 he;have hx:x∉ns:=fun hm=>by rw [if_pos (kx.2 hm)]at e1;exact absurd e1 (by decide)
  have:=Ea r (ns++ [x]) (List.nodup_append.2 ⟨h,by simp,fun a ha b hb e=>hx (by rw [List.mem_singleton.1 hb]at e;exact e▸ha)⟩) e2;rw [List.append_assoc]at this;exact this
theorem MJ{fs:List Tf}{f:Tf}(hg:GF f)(hr:lu f.body=true)(h:jI fs f=0):pFO fs f (cA fs f.ps f.body).1:=by
 obtain⟨h1,h2⟩:=bw.1 h;obtain⟨h3,h4⟩:=bw.1 h2;have hb:¬(f.ps.length>4∨f.ps.length+cL f.body>12∨cw f.body>400∨da 1 f.body=true):=fun hb=>by
  rw [if_pos hb]at h1;exact absurd h1 (by decide)
 simp only [not_or,Bool.not_eq_true]at hb;obtain⟨b1,b2,b3,b4⟩:=hb;have hnd:f.ps.Nodup:=by
  have:=Ea f.ps [] (by simp) h3;exact this
 have hj0:Jo f.ps f.ps (gP f.ps.length 0 f.ps []) 0 []:=⟨by rw [List.append_nil],hnd,rfl,fun i x hi=>by
  rw [(DQ f.ps.length f.ps 0 [] hnd).1 i x hi,Int.zero_add],fun j x hj=>by simp at hj⟩
 obtain⟨vs,hj⟩:=zp (fs:=fs) f.body f.ps (gP f.ps.length 0 f.ps [],0) ⟨[],hj0⟩ h4;have hgo:cT f=gDs f.body (gP f.ps.length 0 f.ps [],0):=J;have hnv:(cT f).2=(cL f.body:Int):=by rw [hgo,mT];omega
 rw [←hgo]at hj;have hvl:=hj.en;have hns:=hj.ens;have hndN:=hj.nd;have off:∀x∈(cA fs f.ps f.body).1,(∃i:Nat,f.ps[i]?=some x∧bC (cT f).1 x=8+4*((f.ps.length:Int)-1-i))∨(x∉f.ps∧∃j:Nat,1≤j∧j≤(cT f).2.toNat∧bC (cT f).1 x=wU (-(4*(j:Int)))∧vs[j-1]?=some x):=fun x hx=>by
  rw [hns]at hx;by_cases hp:x∈f.ps
  ·obtain⟨i,hi⟩:=List.getElem?_of_mem hp;exact .inl ⟨i,hi,hj.p i x hi⟩
  ·rcases List.mem_append.1 hx with hx|hx
   ·exact absurd hx hp
   ·obtain⟨j,hjx⟩:=List.getElem?_of_mem hx;have hl:=(List.getElem?_eq_some_iff.1 hjx).1;refine .inr ⟨hp,j+1,by omega,by omega,?_,hjx⟩;rw [hj.v j x hjx];rfl
 refine⟨s9 f.body f.ps _ 1 (fun _ h=>h) hg.2.2.2.2.1 hr h4 b4,by omega,by omega,hnd,fun x hx=> ?_,fun x hx y hy e=> ?_⟩
 ·rcases off x hx with h|⟨h1,j,h2,h3,h4,_⟩
  ·exact .inl h
  ·exact .inr ⟨h1,j,h2,h3,h4⟩
 ·rcases off x hx with⟨i,hi,he⟩|⟨_,j,hj1,hj2,he,hv⟩<;>rcases off y hy with⟨i',hi',he'⟩|⟨_,j',hj1',hj2',he',hv'⟩
  ·have:i=i':=by rw [he,he']at e;omega
   subst this;exact Option.some.inj (hi.symm.trans hi')
  ·have hl:=(List.getElem?_eq_some_iff.1 hi).1;rw [he,he',nR]at e;exfalso;omega
  ·have hl:=(List.getElem?_eq_some_iff.1 hi').1;rw [he,he',nR]at e;exfalso;omega
  ·have:j=j':=by rw [he,he',nR,nR]at e;omega
   subst this;exact Option.some.inj (hv.symm.trans hv')
theorem zd{fs:List Tf}(h:∀(i:Nat)(f:Tf),fs[i]?=some f→qy fs f.name=(i:Int)):(fs.map Tf.name).Nodup:=by
 refine List.pairwise_iff_getElem.2 fun i j hi hj hij e=> ?_
 rw [List.getElem_map,List.getElem_map]at e;have hil:i<fs.length:=by simpa using hi
 have hjl:j<fs.length:=by simpa using hj
 have h1:=h i fs[i] (List.getElem?_eq_getElem hil);have h2:=h j fs[j] (List.getElem?_eq_getElem hjl);rw [e]at h1;omega
theorem BT{S:ByteArray→Int}{code:List Qi}:∀(l:List Tf)(p:Nat),cAt code p (BU S l p)→p+wP l≤1984→∀x f,cm l x=some f→∃q:Nat,gB l p x=(q:Int)∧cAt code q (zF S f q)∧q+wF f≤1984
 | [],p,_,_,x,f,hf=>by simp [cm]at hf
 | a::r,p,hc,hl,x,f,hf=>by
  have hc':cAt code p (zF S a p++BU S r (p+wF a)):=hc;have hw:wP (a::r)=wF a+wP r:=J;obtain⟨h1,h2⟩:=hc'.app;rw [wK]at h2;unfold gB;unfold cm at hf;rw [List.find?_cons]at hf;by_cases hn:a.name=x
  ·rw [decide_eq_true hn]at hf;cases hf;rw [if_pos hn];exact⟨p,J,h1,by omega⟩
  ·rw [decide_eq_false hn]at hf;rw [if_neg hn];exact BT r (p+wF a) h2 (by omega) x f hf
theorem M3{fs:List Tf}{f:Tf}(hg:GP fs)(h:Fine fs f)(hr:∀f∈fs,lu f.body=true)(hl:(iK fs).length≤1984):CF (iK fs) fs (gB fs 3):=by
 have hle:(iK fs).length=3+wP fs:=by
  unfold iK;rw [List.length_append,ox];rfl
 refine⟨fun x g hx=>BT fs 3 ?_ (by omega) x g hx,fun x g hx=> ?_⟩
 ·have:=cAt.of (a:= [qi 16 14 0 16384,qi 40 15 0 (wU (gB fs 3 cN-1)),⟨48,0,0,0,0⟩]) (l:=BU (gB fs 3) fs 3) (b:= []);rw [List.append_nil]at this;exact this
 ·have hm:=fW hx;exact⟨_,MJ (hg.2 g hm) (hr g hm) (h.each g hm)⟩
def Rq(code:List Qi)(c:Qs)(fuel:Int):Re Int→Prop
 | .ok v s1=>0≤s1.fuel∧Go code (100*(fuel-s1.fuel)+50) c fun c'=>code[c'.pc]?=some ⟨48,0,0,0,0⟩∧c'.out=s1.out∧∀i:Nat,i<256→c'.m (8192+4*(i:Int))=s1.mem i
 | .err e=>e=26→Go code (100*fuel+150) c (Bk code)
theorem FU{fs:List Tf}{f:Tf}{ins:List Int}{fuel:Int}{g:Nat}{r:Re Int}(hg:GP fs)(h:Fine fs f)(hr:∀f∈fs,lu f.body=true)(hl:(iK fs).length≤1984)(hi:∀x∈ins,oW x)(hf0:0≤fuel)(hf:fuel≤1000000000000)
  (he:jR g fs 0 f [] (zl ins fuel)=some r):Rq (iK fs) ⟨0,fun _=>0,fun _=>0,ins,[]⟩ fuel r:=by
 have hC:=M3 hg h hr hl;obtain⟨pm,hpm,hcm,hlm⟩:=hC.fn _ _ h.main;have hc:cAt (iK fs) 0 (iK fs):=fun j i hj=>by rw [Nat.zero_add];exact hj
 have hc':cAt (iK fs) 0 ([qi 16 14 0 16384,qi 40 15 0 (wU (gB fs 3 cN-1)),⟨48,0,0,0,0⟩]++BU (gB fs 3) fs 3):=hc;have h3:=hc'.app.1;have hfn:=qA h.main;have hs:Go (iK fs) 2 ⟨0,fun _=>0,fun _=>0,ins,[]⟩ fun c=>c.pc=pm∧c.r 15=gU 2∧St ((0:Nat):Int) 0 16384 c∧pSm c (zl ins fuel):=by
  refine iS (c:=⟨0,fun _=>0,fun _=>0,ins,[]⟩) (p:=0) J h3.head.1 (v:=16384) J fun c1 e1 e2 e3 e4 e5=> ?_
  refine qh (d:=15) (a:=0) (x:=wU (gB fs 3 cN-1)) (by rw [e1];exact h3.head.2.head.1) (Go.done (by decide) ⟨?_,?_,⟨?_,?_,?_,?_⟩,⟨fun i _=> ?_,e4,e5⟩⟩)
  ·show r9 (wU (gU c1.pc+_))=pm;rw [e1,hpm];exact lx J (by omega) (by omega)
  ·show rp c1.r 15 (gU (c1.pc+1)) 15=_;rw [dl (by decide),e1]
  ·show rp c1.r 15 (gU (c1.pc+1)) 0=0;rw [cj (by decide),e2];rfl
  ·show rp c1.r 15 (gU (c1.pc+1)) 12=_;rw [cj (by decide),e2];rfl
  ·show rp c1.r 15 (gU (c1.pc+1)) 13=0;rw [cj (by decide),e2];rfl
  ·show rp c1.r 15 (gU (c1.pc+1)) 14=16384;rw [cj (by decide),e2];rfl
  ·show c1.m _=0;rw [e3]
 have hR:∀c,(c.pc=pm∧c.r 15=gU 2∧St ((0:Nat):Int) 0 16384 c∧pSm c (zl ins fuel))→CR (iK fs) 2 0 0 16384 0 c (zl ins fuel) r:=fun c ⟨e1,e2,e3,e4⟩=>
  (J1 h.vf hC (g+1)).c g (Nat.lt_succ_self g) 0 f [] (zl ins fuel) r he 0 16384 c 2 (by rw [hfn];exact h.main) (by rw [h.noP];rfl) (by simp) (by rw [hfn,hpm];exact e1) e2 (by decide) e3 e4 (xz hi hf) hf0 rfl (by decide) (by decide) (by decide) (fun i x hi=>by simp at hi)
 cases r with
 | err e=>exact fun h26=>hs.seq (fun c hc=>hR c hc h26) (by show 2+(100*fuel+100)≤_;omega)
 | ok v s1=>
  have hf1:0≤s1.fuel:=by
   obtain⟨_,c2,_,_,hP⟩:=hs;exact(hR c2 hP).1
  refine⟨hf1,hs.seq (fun c hc=>(hR c hc).2.weak (fun c' ⟨e1,e2,e3,e4,e5⟩=>⟨?_,e4.o,e4.m⟩) (Int.le_refl _)) (by show 2+(100*(fuel-s1.fuel)+45)≤_;omega)⟩;rw [e1];exact h3.head.2.head.2.head.1
structure Msc(code:List Qi)(s:Mm):Prop where
 hs:MO s 64
 hb:byL s.d
 rt:∀p:Nat,p<64→s.r.getD p 0=um p
 im:∀(k:Nat)(i:Qi),code[k]?=some i→∀j:Nat,j<4→s.i[256+4*k+j]?=(eD (lD i))[j]?
 len:code.length≤1984
 va:∀(k:Nat)(i:Qi),code[k]?=some i→VQ i∧0≤i.imm∧i.imm<4294967296
structure Sim(code:List Qi)(c:Qs)(x:Int)(s:Mm):Prop where
 k:Msc code s
 mem:∀a,zh a→zo s.d a.toNat=c.m a
 h0:c.r 0=0
 hr:∀k,0≤c.r k∧c.r k<4294967296
 pc:c.pc<1984→x=gU c.pc
 xb:0≤x∧x<4294967296
 hi:∀v∈c.inp,0≤v∧v<4294967296
theorem LW{p:Nat}(h:0<p∧p<32):um p/4%2=1:=by
 unfold um;rw [if_neg (by omega),if_pos (by omega)];rfl
theorem Je{p:Nat}(h:32≤p):um p=3:=by
 unfold um;rw [if_pos h]
theorem Sim.pcl{code:List Qi}{c:Qs}{x:Int}{s:Mm}(h:Sim code c x s){i:Qi}(hc:code[c.pc]?=some i):c.pc<1984∧x=256+4*(c.pc:Int):=by
 obtain⟨h1,-⟩:=List.getElem?_eq_some_iff.1 hc;have:=h.k.len;exact⟨by omega,h.pc (by omega)⟩
theorem Sim.stx{code:List Qi}{c:Qs}{x:Int}{s:Mm}(h:Sim code c x s){i:Qi}(hc:code[c.pc]?=some i){st:Int}(hst:0≤st∧st<1000000000000000):Stx s i x c.r st:=by
 obtain⟨h1,h2⟩:=h.pcl hc;obtain⟨hv,him⟩:=h.k.va _ _ hc;have hl:=h.k.hs.d;refine⟨⟨him,hv,⟨by omega,by omega⟩,by omega,fun k h3 h4=> ?_,fun k hk=> ?_⟩,by omega,h.h0,h.hr,hst⟩
 ·unfold wD;rw [show((x+k)/256).toNat=(x+k).toNat/256 by omega,h.k.rt _ (by omega),LW (by omega),decide_eq_true (by omega)];rfl
 ·rw [show x.toNat+k=256+4*c.pc+k by omega];exact h.k.im _ _ hc k hk
theorem yU{code:List Qi}{s:Mm}(h:Msc code s){a:Int}(ha:zh a){q:Int}(hq:q=1∨q=2):∀k:Int,0≤k→k<4→wD s (IntKind.u32.wrap (a+k)) q=true:=fun k h1 h2=>by
 obtain⟨ha1,ha2,ha3⟩:=ha;have hl:=h.hs.d;rw [bK (by omega) (by omega)];unfold wD;rw [show((a+k)/256).toNat=(a+k).toNat/256 by omega,h.rt _ (by omega),Je (by omega),decide_eq_true (by omega)];rcases hq with rfl|rfl<;>rfl
theorem mP{d:List Int}{a k:Nat}{l:List Int}(h:a+l.length≤d.length):(pk d a l).getD k 0=if a≤k∧k<a+l.length then l.getD (k-a) 0 else d.getD k 0:=by
 rw [List.getD_eq_getElem?_getD,nD];by_cases h1:a≤k∧k<a+l.length
 ·rw [if_pos h1,if_pos ⟨h1.1,h1.2,by omega⟩,List.getD_eq_getElem?_getD]
 ·rw [if_neg h1,if_neg (fun h2=>h1 ⟨h2.1,h2.2.1⟩),List.getD_eq_getElem?_getD]
theorem tJ(d:List Int)(a:Nat):zo d a=((((0:Int)*256+d.getD (a+3) 0)*256+d.getD (a+2) 0)*256+d.getD (a+1) 0)*256+d.getD (a+0) 0:=rfl
theorem JX{d:List Int}{a b:Nat}{v:Int}(hv:0≤v∧v<4294967296)(ha:a+4≤d.length)(h4:a%4=0∧b%4=0):zo (pk d a (eD v)) b=if b=a then v else zo d b:=by
 have hl:(eD v).length=4:=J;rw [tJ,mP (by omega),mP (by omega),mP (by omega),mP (by omega),hl];by_cases h:b=a
 ·subst h;rw [if_pos (by omega),if_pos (by omega),if_pos (by omega),if_pos (by omega),if_pos J,show b+3-b=3 by omega,show b+2-b=2 by omega,show b+1-b=1 by omega,show b+0-b=0 by omega];show(((0*256+v/16777216%256)*256+v/65536%256)*256+v/256%256)*256+v%256=v;omega
 ·rw [if_neg (by omega),if_neg (by omega),if_neg (by omega),if_neg (by omega),if_neg h,tJ]
theorem EI{d:List Int}{a:Nat}:∀{l:List Int},byL d→byL l→byL (pk d a l):=fun{l} h1 h2 x hx=>by
 obtain⟨k,hk⟩:=List.getElem?_of_mem hx;rw [nD]at hk;split at hk
 ·exact h2 x (List.mem_of_getElem? hk)
 ·exact h1 x (List.mem_of_getElem? hk)
theorem EH(v:Int):byL (eD v):=fun x hx=>by
 have:x=v%256∨x=v/256%256∨x=v/65536%256∨x=v/16777216%256:=by
  simpa [eD]using hx
 omega
theorem C0(o:BinOp)(ho:o= .and∨o= .or∨o= .xor)(a b:Int):oW (bits o .u32 a b):=by
 rcases ho with rfl|rfl|rfl<;>exact ka _
theorem N_{op a b v:Int}(h:ww op a b=some v)(ha:0≤a∧a<4294967296)(hb:0≤b∧b<4294967296):0≤v∧v<4294967296:=by
 have key:∀z:Int,some (wU z)=some v→0≤v∧v<4294967296:=fun z hz=>by injection hz with hz;subst hz;exact ka z
 unfold ww at h;split at h
 ·exact key _ h
 split at h
 ·exact key _ h
 split at h
 ·injection h with h;subst h;exact C0 _ (by simp) _ _
 split at h
 ·injection h with h;subst h;exact C0 _ (by simp) _ _
 split at h
 ·injection h with h;subst h;exact C0 _ (by simp) _ _
 split at h
 ·exact key _ h
 split at h
 ·injection h with h;subst h;have h2:(0:Int)<2^(b%32).toNat:=Int.pow_pos (by decide);exact⟨Int.ediv_nonneg ha.1 (by omega),Int.lt_of_le_of_lt (Int.ediv_le_self _ ha.1) ha.2⟩
 split at h
 ·exact key _ h
 split at h
 ·split at h
  ·cases h
  ·injection h with h;subst h;exact⟨Int.ediv_nonneg ha.1 hb.1,Int.lt_of_le_of_lt (Int.ediv_le_self _ ha.1) ha.2⟩
 split at h
 ·injection h with h;subst h;unfold tr;split<;>decide
 ·cases h
theorem r7{r:Int→Int}{d v:Int}(h:r 0=0):rp r d v 0=0:=by
 unfold rp;rw [if_neg (fun h2=>h2.2 h2.1.symm)];exact h
theorem AZ{r:Int→Int}{d v:Int}(h:∀k,0≤r k∧r k<4294967296)(hv:0≤v∧v<4294967296)(k:Int):0≤rp r d v k∧rp r d v k<4294967296:=by
 unfold rp;split
 ·exact hv
 ·exact h k
theorem y7{y:Int}(h:r9 y<1984):256≤y∧y%4=0∧y=gU (r9 y):=by
 unfold r9 at h ⊢;by_cases h2:256≤y∧y%4=0
 ·rw [if_pos h2]at h ⊢;unfold gU;omega
 ·rw [if_neg h2]at h;omega
theorem Sim.to{code:List Qi}{c:Qs}{x:Int}{s:Mm}(h:Sim code c x s){p:Nat}{r:Int→Int}{x1:Int}(h0:r 0=0)(hr:∀k,0≤r k∧r k<4294967296)(hp:p<1984→x1=gU p)(hx:0≤x1∧x1<4294967296):
  Sim code {c with pc:=p,r:=r} x1 s:=⟨h.k,h.mem,h0,hr,hp,hx,h.hi⟩
def EV(e:Me)(x:Int)(r:Int→Int)(st:Int)(s:Mm)(x1:Int)(r1:Int→Int)(st1 t y:Int)(s1:Mm):Prop:=
 Spec prog 115 [.agg (sR x r st).toArray,.pointer (some ⟨e.m,0,none⟩)] [bj e.m 157 (mR e),own 5 1 bZ (sv e.vd) s.d,own 5 1 bZ (sv e.vi) s.i,own 3 1 eI (sv e.vr) s.r] [] (X:=Unit) (fun _=>True) (fun _=> .agg (oC x1 r1 st1 t y).toArray) (fun _=> [bj e.m 157 (mR e),own 5 1 bZ (sv e.vd) s1.d,own 5 1 bZ (sv e.vi) s1.i,own 3 1 eI (sv e.vr) s1.r]) (fun _=> [])
theorem Sim.step(e:Me){code:List Qi}{c c1:Qs}{x:Int}{s:Mm}(h:Sim code c x s){i:Qi}(hc:code[c.pc]?=some i)(h1:uG i c=some c1)(ho:i.op≠48){st:Int}(hst:0≤st∧st<1000000000000000):
  ∃x1 s1,Sim code c1 x1 s1∧c1.inp=c.inp∧c1.out=c.out∧EV e x c.r st s x1 c1.r (st+1) 0 0 s1:=by
 have hx:=h.stx hc hst;obtain⟨hp1,hp2⟩:=h.pcl hc;have hpx:x=gU c.pc:=hp2;have hx4:0≤x+4∧x+4<4294967296:=by omega
 have hn:c.pc+1<1984→x+4=gU (c.pc+1):=fun _=>by unfold gU;omega
 have hn2:x+4=gU (c.pc+1):=by unfold gU;omega
 unfold uG at h1;cases hu:ww i.op (c.r i.a) (if i.op<16 then c.r i.b else i.imm)with
 | some v=>
  rw [hu]at h1;injection h1 with h1;subst h1;exact⟨x+4,s,h.to (r7 h.h0) (AZ h.hr (N_ hu (h.hr _) (by split;exact h.hr _;exact(h.k.va _ _ hc).2))) hn hx4,J,J,Cn e s 64 h.k.hs i x c.r st hx v hu⟩
 | none=>
  rw [hu]at h1;dsimp only at h1;by_cases o1:i.op=23
  ·rw [if_pos o1]at h1;by_cases ha:zh (wU (c.r i.a+i.imm))
   ·rw [if_pos ha]at h1;injection h1 with h1;subst h1;have hl:=h.k.hs.d;have h4:wU (c.r i.a+i.imm)+4≤s.d.length:=by obtain⟨ha1,ha2,ha3⟩:=ha;omega
    have hb:=xF h.k.hb (wU (c.r i.a+i.imm)).toNat 4;have hm:=h.mem _ ha;refine⟨x+4,s,h.to (r7 h.h0) (AZ h.hr ?_) hn hx4,J,J,?_⟩
    ·rw [←hm];have h256:(256:Int)^4=4294967296:=by decide
     exact⟨hb.1,by unfold zo;omega⟩
    ·have:=Cj e s 64 h.k.hs i x c.r st hx h.k.hb o1 h4 (yU h.k ha (Or.inl J));rw [hm]at this;exact this
   ·rw [if_neg ha]at h1;cases h1
  rw [if_neg o1]at h1;by_cases o2:i.op=25
  ·rw [if_pos o2]at h1;by_cases ha:zh (wU (c.r i.a+i.imm))
   ·rw [if_pos ha]at h1;injection h1 with h1;subst h1;have hl:=h.k.hs.d;have ha':=ha;obtain⟨ha1,ha2,ha3⟩:=ha';have h4:wU (c.r i.a+i.imm)+4≤s.d.length:=by omega
    refine⟨x+4,{s with d:=pk s.d (wU (c.r i.a+i.imm)).toNat (eD (c.r i.d))},⟨⟨h.k.hs.dd (eE _ _ _),EI h.k.hb (EH _),h.k.rt,h.k.im,h.k.len,h.k.va⟩,fun a h2=> ?_,h.h0,h.hr,hn,hx4,h.hi⟩,J,J,Ch e s 64 h.k.hs i x c.r st hx o2 h4 (yU h.k ha (Or.inr J))⟩;have h3:=h2;obtain⟨h5,h6,h7⟩:=h3;show zo (pk s.d _ _) a.toNat=mw c.m _ _ a;rw [JX (h.hr _) (by omega) ⟨by omega,by omega⟩];unfold mw;by_cases h8:a=wU (c.r i.a+i.imm)
    ·rw [if_pos (by omega),if_pos h8]
    ·rw [if_neg (by omega),if_neg h8];exact h.mem a h2
   ·rw [if_neg ha]at h1;cases h1
  rw [if_neg o2]at h1;by_cases o3:i.op=27
  ·rw [if_pos o3]at h1;injection h1 with h1;subst h1;have hw:=ka (c.r i.a+i.imm);refine⟨wU (c.r i.a+i.imm)/4*4,s,h.to (r7 h.h0) (AZ h.hr (by rw [←hn2];exact hx4)) (fun hp=> ?_) (by omega),J,J,?_⟩
   ·obtain⟨q1,q2,q3⟩:=y7 hp;rw [←q3];omega
   ·have:=AO e s 64 h.k.hs i x c.r st hx o3;rw [hn2]at this;exact this
  rw [if_neg o3]at h1;by_cases o4:i.op=32
  ·rw [if_pos o4]at h1;injection h1 with h1;subst h1;have hw:=ka (x+4*i.imm);have:=Cm e s 64 h.k.hs i x c.r st hx o4;by_cases hq:c.r i.d=c.r i.a
   ·rw [if_pos hq]at this ⊢;refine⟨wU (x+4*i.imm),s,h.to h.h0 h.hr (fun hp=> ?_) hw,J,J,this⟩;obtain⟨q1,q2,q3⟩:=y7 hp;rw [←q3,hpx]
   ·rw [if_neg hq]at this ⊢;exact⟨x+4,s,h.to h.h0 h.hr hn hx4,J,J,this⟩
  rw [if_neg o4]at h1;by_cases o5:i.op=35
  ·rw [if_pos o5]at h1;injection h1 with h1;subst h1;have hw:=ka (x+4*i.imm);have:=AP e s 64 h.k.hs i x c.r st hx o5;by_cases hq:c.r i.d≥c.r i.a
   ·rw [if_pos hq]at this ⊢;refine⟨wU (x+4*i.imm),s,h.to h.h0 h.hr (fun hp=> ?_) hw,J,J,this⟩;obtain⟨q1,q2,q3⟩:=y7 hp;rw [←q3,hpx]
   ·rw [if_neg hq]at this ⊢;exact⟨x+4,s,h.to h.h0 h.hr hn hx4,J,J,this⟩
  rw [if_neg o5]at h1;by_cases o6:i.op=40
  ·rw [if_pos o6]at h1;injection h1 with h1;subst h1;have hw:=ka (x+4*i.imm);refine⟨wU (x+4*i.imm),s,h.to (r7 h.h0) (AZ h.hr (by rw [←hn2];exact hx4)) (fun hp=> ?_) hw,J,J,?_⟩
   ·obtain⟨q1,q2,q3⟩:=y7 hp;rw [←q3,hpx]
   ·have:=Ck e s 64 h.k.hs i x c.r st hx o6;rw [hn2]at this;exact this
  rw [if_neg o6]at h1;by_cases o7:i.op=41
  ·rw [if_pos o7]at h1;injection h1 with h1;subst h1;exact⟨x+4,s,h.to (r7 h.h0) (AZ h.hr (ka _)) hn hx4,J,J,Ci e s 64 h.k.hs i x c.r st hx o7⟩
  rw [if_neg o7,if_neg (fun h2=>ho h2.1),if_neg (fun h2=>ho h2.1)]at h1;cases h1
def oD(i:Qi):Int×Int:=if i.op=48 then(4,i.imm)else(3,0)
theorem Sim.trap(e:Me){code:List Qi}{c:Qs}{x:Int}{s:Mm}(h:Sim code c x s){i:Qi}(hc:code[c.pc]?=some i)(ho:i.op=48∨i.op=49){st:Int}(hst:0≤st∧st<1000000000000000):
  EV e x c.r st s x c.r st (oD i).1 (oD i).2 s:=by
 have hx:=h.stx hc hst;by_cases h1:i.op=48
 ·rw [show oD i=(4,i.imm)from if_pos h1];exact Cg e s 64 h.k.hs i x c.r st hx h1
 ·rw [show oD i=(3,0)from if_neg h1];exact Cl e s 64 h.k.hs i x c.r st hx (by omega)
def HF(code:List Qi):Nat→Qs→Qs→Prop
 | 0,c,c'=>c=c'
 | n+1,c,c'=>∃i c1,code[c.pc]?=some i∧uG i c=some c1∧i.op≠48∧HF code n c1 c'
theorem Sim.turn(e:Me){code:List Qi}{c c':Qs}{x:Int}{s:Mm}(h:Sim code c x s){n:Nat}(hn:HF code n c c'){i:Qi}(hc:code[c'.pc]?=some i)(ho:i.op=48∨i.op=49){st:Int}(hst:0≤st∧st<1000000000000000):
  ∃x1 r1 st1 t y s1,EV e x c.r st s x1 r1 st1 t y s1∧((t=0∧∃m c1,n=m+1∧r1=c1.r∧st1=st+1∧c1.inp=c.inp∧c1.out=c.out∧Sim code c1 x1 s1∧HF code m c1 c')∨(t≠0∧n=0∧c=c'∧t=(oD i).1∧y=(oD i).2∧s1=s)):=by
 cases n with
 | zero=>
  have h2:c=c':=hn;subst h2;refine⟨x,c.r,st,(oD i).1,(oD i).2,s,h.trap e hc ho hst,.inr ⟨?_,J,J,J,J,J⟩⟩;unfold oD;split
  ·show(4:Int)≠0;decide
  ·show(3:Int)≠0;decide
 | succ m=>
  obtain⟨j,c1,h2,h3,h4,h5⟩:=hn;obtain⟨x1,s1,h6,h7,h8,h9⟩:=h.step e h2 h3 h4 hst;exact⟨x1,c1.r,st+1,0,0,s1,h9,.inl ⟨J,m,c1,J,J,J,h7,h8,h6,h5⟩⟩
structure Rl where
 x:Int
 s:Mm
 c:Qs
 m:Nat
 k:Nat
theorem AY(e:Me)(cp:Nat){code:List Qi}{c c':Qs}{x:Int}{s:Mm}(h:Sim code c x s){n:Nat}(hn:HF code n c c'){i:Qi}(hc:code[c'.pc]?=some i)(ho:i.op=48∨i.op=49)(st most:Int)(hst:0≤st∧st+n<1000000000000000)(hm:(n:Int)<most):
  Spec prog 65 [.pointer (some ⟨cp,0,none⟩),.int .i64 most] [bj e.m 157 (mR e),own 5 1 bZ (sv e.vd) (s).d,own 5 1 bZ (sv e.vi) (s).i,own 3 1 eI (sv e.vr) (s).r,bj cp 93 (oe x c.r st e.m)] [] (X:=Int×Mm) (fun p=>Sim code c' p.1 p.2) (fun _=> .agg #[.int .i64 (oD i).1,.int .u32 (oD i).2]) (fun p=> [bj e.m 157 (mR e),own 5 1 bZ (sv e.vd) p.2.d,own 5 1 bZ (sv e.vi) p.2.i,own 3 1 eI (sv e.vr) p.2.r,bj cp 93 (oe p.1 c'.r (st+(n:Int)) e.m)]) (fun _=> []):=by
 refine aI func65 J ntmps65 J fun w0 M H=>tk 0 20 J J (tk 1 21 J J (tk 2 22 J J (tk 3 23 J J (tk 4 24 J J (aj (aZ wB J J fun b4=>aG J (ai J J (ac (aB ?_)))))))))
 refine bv (X:=Rl) (fun p=>Sim code p.c p.x p.s∧HF code p.m p.c c'∧p.m+p.k=n) (fun p=> [(0,.pointer (some ⟨cp,0,none⟩)),(1,.int .i64 most),(4,.pointer (some ⟨b4,0,none⟩)),(5,.int .i64 (p.k:Int))]) (fun p=> [(20,bj e.m 157 (mR e)),(21,own 5 1 bZ (sv e.vd) p.s.d),(22,own 5 1 bZ (sv e.vi) p.s.i),(23,own 3 1 eI (sv e.vr) p.s.r),(24,bj cp 93 (oe p.x p.c.r (st+(p.k:Int)) e.m)),(4,bj b4 53 [.int .i64 0,.int .u32 0])]) (fun p=> []) (fun p=>p.m) ⟨x,s,c,n,0⟩ ⟨h,hn,J⟩ J (by dsimp only;rw [show st+((0:Nat):Int)=st by omega];rfl) J (fun p hp=> ?_);obtain⟨hp1,hp2,hp3⟩:=hp;obtain⟨x1,r1,st1,t,y,s1,hS,hor⟩:=hp1.turn e hp2 hc ho (st:=st+(p.k:Int)) ⟨by omega,by omega⟩;refine aB (a_ (a_ ?_));refine bH [7,8,9,10,11,12,13,14,15,16,17,18,19,20,21,22,23,24,25] _ J (bp (V:= [(0,7,_),(1,8,_),(2,9,_),(3,10,_),(4,11,_),(5,12,_),(6,13,_),(7,14,_),(8,15,_),(9,16,_),(10,17,_),(11,18,_),(12,19,_),(13,20,_),(14,21,_),(15,22,_),(16,23,_),(17,24,_),(18,25,_)]) [0,1,2,3,4,5,6,7,8,9,10,11,12,13,14,15,16,17,18] J J (aa (aD J (am J)) (aa (aD J (aF J)) (aa (aD J (ag dG J)) (aa (aD J (ag tU J)) (aa (aD J (ah t3 J J (ay (k:=24) J J))) (aa (aD J (aT J J dV)) (aa (aD J (am J)) (aa (cV [] J J J O (fun hg1=>am J)) (aa (cV [(14,_)] J J J ⟨J,O⟩ (fun hg2=>aF J)) (aa (cV [(15,_)] J J J ⟨J,O⟩ (fun hg3=>ag dG J)) (aa (cV [(16,_)] J J J ⟨J,O⟩ (fun hg4=>ag gQ J)) (aa (cV [(17,_)] J J J ⟨J,O⟩ (fun hg5=>ah t3 J J (ay (k:=24) J J))) (aa (cV [] J J J O (fun hg6=>am J)) (aa (cV [(19,_)] J J J ⟨J,O⟩ (fun hg7=>aF J)) (aa (cV [(20,_)] J J J ⟨J,O⟩ (fun hg8=>ag dG J)) (aa (cV [(21,_)] J J J ⟨J,O⟩ (fun hg9=>ag tU J)) (aa (cV [(22,_)] J J J ⟨J,O⟩ (fun hg10=>ah t3 J J (ay (k:=24) J J))) (aa (cV [(18,_),(23,_)] J J J ⟨J,J,O⟩ (fun hg11=>aT J J fe)) (aa (aD J (aQ J J J (by first|exact av|exact aC|rfl))) aw))))))))))))))))))) J J J ?_);refine ae J (fun h12=> ?_) (fun h12=> ?_)
 ·cases h12
 ·(try simp only [be]at h12)
  refine ax (aS (ad J J (ad J J (ar J J fe J (ac (ae J (fun h13=> ?_) (fun h13=> ?_)))))))
  ·(exfalso;have h0:=h13;revert h0;simp;omega)
  ·(try simp only [be]at h13)
   refine ax (a_ ?_);refine bH [31,32,33,34,35,36,37,38,39,6] _ J (fZ (V:= [(0,31,_),(1,32,_),(2,33,_),(3,34,_),(4,35,_),(5,36,_),(6,37,_),(7,38,_)]) [0,1,2,3,4,5,6,7] J J (aa (aD J (am J)) (aa (aD J (aF J)) (aa (aD J (ag dG J)) (aa (aD J (aL (us:=sR p.x p.c.r (st+(p.k:Int))) wA J J J (jg (k:=24) J J))) (aa (aD J (am J)) (aa (aD J (aF J)) (aa (aD J (ag fh J)) (aa (aD J (ah uD J J (ay (k:=24) J J))) aw)))))))) J [8,9] J J (dF (eF 8 [8,7,6,5,4,3,2,1,0] [] (fun _=> []) J J J J J J J J J (fun _ _=>J) J (bq (xs:= [.tmp 34,.tmp 38]) hS IJ [20,21,22,23] [] [20,21,22,23] J J J J J J J J (fun _ _=>J) (fun _ _ _=>J)) (fun _ _=>bk [] 9 [9,8,7,6,5,4,3,2,1,0] [] (fun b6=> []) J J aw J J J J J J J J J J J (fun _ _=>J) J (eb lf J) (fun b6 _=>bI [] 10 [10,9,8,7,6,5,4,3,2,1,0] [] (fun _=> []) J J aw J J J J J J J J J (fun _ _=>J) J (bM (k:=6) lf J J J J J J) (fun _ _=>bp [] J J aw J J J ?_)))) (dF (eF 9 [9] [] (fun b6=> []) J J J J J J J J J (fun _ _=>J) J (eb lf J) (fun b6 _=>bk [0,1,2,3,4,5,6,7] 8 [9,8,7,6,5,4,3,2,1,0] [] (fun _=> []) J J (aa (aD J (am J)) (aa (aD J (aF J)) (aa (aD J (ag dG J)) (aa (aD J (aL (us:=sR p.x p.c.r (st+(p.k:Int))) wA J J J (jg (k:=24) J J))) (aa (aD J (am J)) (aa (aD J (aF J)) (aa (aD J (ag fh J)) (aa (aD J (ah uD J J (ay (k:=24) J J))) aw)))))))) J J J J J J J J J J J (fun _ _=>J) J (bq (xs:= [.tmp 34,.tmp 38]) hS IJ [20,21,22,23] [] [20,21,22,23] J J J J J J J J (fun _ _=>J) (fun _ _ _=>J)) (fun _ _=>bI [] 10 [10,9,8,7,6,5,4,3,2,1,0] [] (fun _=> []) J J aw J J J J J J J J J (fun _ _=>J) J (bM (k:=6) lf J J J J J J) (fun _ _=>bp [] J J aw J J J ?_)))) jv)))
   ·refine aS (az oU J J (aO (dw lS J) J (aP 6 t3 J J J J J (ar J J df J (ac (ae J (fun h14=> ?_) (fun h14=> ?_)))))))
    ·(try simp only [be]at h14)
     obtain⟨-,q2,q3,q4,q5,q6⟩:=hor.resolve_left (fun q=>h14 q.1);subst q6;obtain rfl:p.k=n:=by omega
     rw [←q4,←q5,←q3];refine aj (az oU J J (aO (aL (us:= [.int .i64 t,.int .u32 y]) wB J J J (jg (k:=6) J J)) J (aq (k:=4) wB J J J J J J (ac (au (aH (p.x,p.s) (q3▸hp1) J (bE (bh wB J J J (aX (k:=4) J))) J [20,21,22,23,24] [] J J J))))))
    ·(try simp only [be]at h14)
     obtain⟨q1,m1,c1,q2,q3,q4,qi,qo,q6,q7⟩:=hor.resolve_right (fun q=>q.1 h14);subst q3;subst q4;refine ax (aj (ad J J (az zP J J (aO (aL (us:=sR x1 c1.r (st+(p.k:Int)+1)) wA J J J (jg (k:=6) J J)) J (bG J J (az dG J J (aK (k:=24) (us:=sR x1 c1.r (st+(p.k:Int)+1)) (c':=oe x1 c1.r (st+(p.k:Int)+1) e.m) wA J J J J J J J J (ac (ap (ad J J (ar J J (bi (by first|exact bc (by omega) (by omega)|rfl)) J (ai J J (ac ?_)))))))))))));refine aM ⟨x1,s1,c1,m1,p.k+1⟩ ⟨⟨q6,q7,by show m1+(p.k+1)=n;omega⟩,by show m1<p.m;omega⟩ J (by dsimp only;rw [show st+((p.k+1:Nat):Int)=st+(p.k:Int)+1 by omega];rfl) J
   ·refine aS (az oU J J (aO (dw lS J) J (aP 6 t3 J J J J J (ar J J df J (ac (ae J (fun h15=> ?_) (fun h15=> ?_)))))))
    ·(try simp only [be]at h15)
     obtain⟨-,q2,q3,q4,q5,q6⟩:=hor.resolve_left (fun q=>h15 q.1);subst q6;obtain rfl:p.k=n:=by omega
     rw [←q4,←q5,←q3];refine aj (az oU J J (aO (aL (us:= [.int .i64 t,.int .u32 y]) wB J J J (jg (k:=6) J J)) J (aq (k:=4) wB J J J J J J (ac (au (aH (p.x,p.s) (q3▸hp1) J (bE (bh wB J J J (aX (k:=4) J))) J [20,21,22,23,24] [] J J J))))))
    ·(try simp only [be]at h15)
     obtain⟨q1,m1,c1,q2,q3,q4,qi,qo,q6,q7⟩:=hor.resolve_right (fun q=>q.1 h15);subst q3;subst q4;refine ax (aj (ad J J (az zP J J (aO (aL (us:=sR x1 c1.r (st+(p.k:Int)+1)) wA J J J (jg (k:=6) J J)) J (bG J J (az dG J J (aK (k:=24) (us:=sR x1 c1.r (st+(p.k:Int)+1)) (c':=oe x1 c1.r (st+(p.k:Int)+1) e.m) wA J J J J J J J J (ac (ap (ad J J (ar J J (bi (by first|exact bc (by omega) (by omega)|rfl)) J (ai J J (ac ?_)))))))))))));refine aM ⟨x1,s1,c1,m1,p.k+1⟩ ⟨⟨q6,q7,by show m1+(p.k+1)=n;omega⟩,by show m1<p.m;omega⟩ J (by dsimp only;rw [show st+((p.k+1:Nat):Int)=st+(p.k:Int)+1 by omega];rfl) J
theorem Ce{i:Qi}{c c1:Qs}(h:uG i c=some c1)(ho:i.op≠48):c1.inp=c.inp∧c1.out=c.out:=by
 unfold uG at h;split at h
 ·injection h with h;subst h;exact⟨rfl,rfl⟩
 split at h
 ·split at h
  ·injection h with h;subst h;exact⟨rfl,rfl⟩
  ·cases h
 split at h
 ·split at h
  ·injection h with h;subst h;exact⟨rfl,rfl⟩
  ·cases h
 split at h
 ·injection h with h;subst h;exact⟨rfl,rfl⟩
 split at h
 ·injection h with h;subst h;exact⟨rfl,rfl⟩
 split at h
 ·injection h with h;subst h;exact⟨rfl,rfl⟩
 split at h
 ·injection h with h;subst h;exact⟨rfl,rfl⟩
 split at h
 ·injection h with h;subst h;exact⟨rfl,rfl⟩
 split at h
 ·rename_i h2;exact absurd h2.1 ho
 split at h
 ·rename_i h2;exact absurd h2.1 ho
 ·cases h
theorem CG{code:List Qi}:∀{n:Nat}{c c':Qs},HF code n c c'→c'.inp=c.inp∧c'.out=c.out
 | 0,c,c',h=>by
  have:c=c':=h;subst this;exact⟨J,J⟩
 | n+1,c,c',h=>by
  obtain⟨i,c1,-,h2,h3,h4⟩:=h;obtain⟨a,b⟩:=Ce h2 h3;obtain⟨a2,b2⟩:=CG h4;exact⟨a2.trans a,b2.trans b⟩
theorem uR{code:List Qi}:∀{n:Nat}{c c':Qs},rn code n c c'→∃k c1,HF code k c c1∧((k=n∧c1=c')∨∃i c2 m,code[c1.pc]?=some i∧i.op=48∧uG i c1=some c2∧n=k+1+m∧rn code m c2 c')
 | 0,c,c',h=>⟨0,c',h,.inl ⟨rfl,rfl⟩⟩
 | n+1,c,c',h=>by
  obtain⟨i,c1,h1,h2,h3⟩:=h;by_cases ho:i.op=48
  ·exact⟨0,c,J,.inr ⟨i,c1,n,h1,ho,h2,by omega,h3⟩⟩
  ·obtain⟨k,c2,h4,h5⟩:=uR h3;refine⟨k+1,c2,⟨i,c1,h1,h2,ho,h4⟩,?_⟩;rcases h5 with⟨h6,h7⟩|⟨j,c3,m,g1,g2,g3,g4,g5⟩
   ·exact .inl ⟨by omega,h7⟩
   ·exact .inr ⟨j,c3,m,g1,g2,g3,by omega,g5⟩
theorem oE{i:Qi}{c c1:Qs}(h:uG i c=some c1)(ho:i.op=48):(i.imm=1∧c1={c with pc:=c.pc+1,out:=c.out++ [c.r 1]})∨(i.imm=2∧c1={c with pc:=c.pc+1,r:=rp c.r 1 (c.inp.headD 0),inp:=c.inp.tail}):=by
 unfold uG at h;rw [ho]at h;have e:∀a b,ww 48 a b=none:=fun a b=>J
 rw [e]at h;by_cases h1:i.imm=1
 ·rw [h1]at h;injection h with h;exact .inl ⟨h1,h.symm⟩
 ·by_cases h2:i.imm=2
  ·rw [h2]at h;injection h with h;exact .inr ⟨h2,h.symm⟩
  ·exfalso;have q1:¬((48:Int)=48∧i.imm=1):=fun q=>h1 q.2
   have q2:¬((48:Int)=48∧i.imm=2):=fun q=>h2 q.2
   have:(if(48:Int)=48∧i.imm=1 then some {c with pc:=c.pc+1,out:=c.out++ [c.r 1]}else if(48:Int)=48∧i.imm=2 then some {c with pc:=c.pc+1,r:=rp c.r 1 (c.inp.headD 0),inp:=c.inp.tail}else none)=some c1:=h;rw [if_neg q1,if_neg q2]at this;cases this
def Ii(l:List Int):Nat→Int
 | 0=>0
 | k+1=>Ii l k+l.getD k 0*256^k
theorem DD{t:ByteArray}{k:Nat}(hk:k<4):0≤Ii (bn t) k∧Ii (bn t) k+(bn t).getD k 0*256^k<4294967296∧0≤(bn t).getD k 0*256^k∧(bn t).getD k 0*256^k<4294967296:=by
 have b0:=jk t 0;have b1:=jk t 1;have b2:=jk t 2;have b3:=jk t 3;have:k=0∨k=1∨k=2∨k=3:=by omega
 rcases this with rfl|rfl|rfl|rfl
 ·show 0≤(0:Int)∧(0:Int)+(bn t).getD 0 0*256^0<4294967296∧0≤(bn t).getD 0 0*256^0∧(bn t).getD 0 0*256^0<4294967296;omega
 ·show 0≤(0:Int)+(bn t).getD 0 0*256^0∧(0:Int)+(bn t).getD 0 0*256^0+(bn t).getD 1 0*256^1<4294967296∧0≤(bn t).getD 1 0*256^1∧(bn t).getD 1 0*256^1<4294967296;omega
 ·show 0≤(0:Int)+(bn t).getD 0 0*256^0+(bn t).getD 1 0*256^1∧(0:Int)+(bn t).getD 0 0*256^0+(bn t).getD 1 0*256^1+(bn t).getD 2 0*256^2<4294967296∧0≤(bn t).getD 2 0*256^2∧(bn t).getD 2 0*256^2<4294967296;omega
 ·show 0≤(0:Int)+(bn t).getD 0 0*256^0+(bn t).getD 1 0*256^1+(bn t).getD 2 0*256^2∧(0:Int)+(bn t).getD 0 0*256^0+(bn t).getD 1 0*256^1+(bn t).getD 2 0*256^2+(bn t).getD 3 0*256^3<4294967296∧0≤(bn t).getD 3 0*256^3∧(bn t).getD 3 0*256^3<4294967296;omega
theorem PJ{t:ByteArray}{k:Nat}(hk:k<4):IntKind.u32.wrap ((bn t).getD k 0*2^(8*(k:Int)).toNat)=(bn t).getD k 0*256^k:=by
 obtain⟨-,-,h1,h2⟩:=DD (t:=t) hk;have e:(2:Int)^(8*(k:Int)).toNat=256^k:=by
  have:k=0∨k=1∨k=2∨k=3:=by omega
  rcases this with rfl|rfl|rfl|rfl<;>rfl
 rw [e];exact bK h1 h2
theorem A2(t:ByteArray)(ht:t.size=4):
  Spec prog 66 [.string t] [] [] (X:=Unit) (fun _=>True) (fun _=> .int .u32 (Ii (bn t) 4)) (fun _=> []) (fun _=> []):=by
 refine aI func66 J ntmps66 J fun w0 M H=>aj (ai J J (aG J (ai J J (ac (aS (ai J J (ac (aB (bv (X:=Nat) (fun k=>k≤4) (fun k=> [(0,.string t),(3,.int .u32 (Ii (bn t) k)),(4,.int .i64 (k:Int))]) (fun k=> []) (fun k=> []) (fun k=>4-k) 0 (Nat.zero_le _) J J J (fun k n1=>aS (ad J J ?_)))))))))))
 refine ad J J (aO (cl underlying9 J) J (ar J J ci J (ad J J (aA [] J J O (fun hg1=>am J) J (aA [(10,_)] J J ⟨J,O⟩ (fun hg2=>aT J J ci) J (aO (aQ J J J (by first|exact av|exact aC|rfl)) J (ac (ae J (fun h3=> ?_) (fun h3=> ?_)))))))))
 ·(try simp only [be]at h3)
  have hi:k<4:=by omega
  have hbk:=DD (t:=t) hi;have hb1:=jk t k;refine ax (a_ (aB (ap (ad J J (ad J J (ad J J (aO (dv (j:=k) underlying9 J J J (by omega)) J (aO (bX underlying5 underlying41 J (c:=(bn t).getD k 0) (bK (by omega) (by omega))) J (ad J J (ar J J (dr (by first|exact bc (by omega) (by omega)|rfl)) J (ar J J (gj (by omega) (by show _≤(32:Int);omega) (PJ hi)) J (ar J J (bi (c:=Ii (bn t) (k+1)) (bK (by omega) (by omega))) J (ai J J (ac (ap (ad J J (ar J J (bi (by first|exact bc (by omega) (by omega)|rfl)) J (ai J J (ac ?_)))))))))))))))))));refine aM (k+1) ⟨by omega,by omega⟩ J J J
 ·(try simp only [be]at h3)
  have hi:k=4:=by omega
  subst hi;refine bx (aj (ad J J (ai J J (ac (au (aH () O J (bE (aJ J)) J [] [] J J J))))))
theorem we:∀{l:List Qi}{k:Nat}{i:Qi},l[k]?=some i→∀{j:Nat},j<4→(dy l)[4*k+j]?=(eD (rN i))[j]?
 | [],k,i,h,j,hj=>by simp at h
 | q::r,0,i,h,j,hj=>by
  have h:q=i:=by simpa using h
  subst h;show(eD (rN q)++dy r)[4*0+j]?=_;rw [List.getElem?_append_left (by rw [show(eD (rN q)).length=4 from J];omega),show 4*0+j=j by omega]
 | q::r,k+1,i,h,j,hj=>by
  have h:r[k]?=some i:=by simpa using h
  show(eD (rN q)++dy r)[4*(k+1)+j]?=_;rw [List.getElem?_append_right (by rw [show(eD (rN q)).length=4 from J];omega),show 4*(k+1)+j-(eD (rN q)).length=4*k+j by rw [show(eD (rN q)).length=4 from J];omega];exact we h hj
theorem CT{n m a:Nat}:pk (List.replicate n 0) a (List.replicate m 0)=List.replicate n (0:Int):=by
 apply List.ext_getElem?;intro k;rw [nD];split
 ·rename_i h;have h3:k<n:=by have:=h.2.2;simpa using this
  have h4:k-a<m:=by have:=h.2.1;simp at this;omega
  rw [List.getElem?_replicate,if_pos h4,List.getElem?_replicate,if_pos h3]
 ·rfl
def tI(n:Nat):Mm:=⟨List.replicate (256*n) 0,List.replicate (256*n) 0,List.replicate n 0⟩
theorem Dd{n:Nat}(hn:n≤4096):MO (tI n) n:=⟨by show(List.replicate _ _).length=_;rw [List.length_replicate];omega,by show(List.replicate _ _).length=_;rw [List.length_replicate];omega,List.length_replicate ..,by omega,fun x hx=>by have:=List.eq_of_mem_replicate hx;subst this;decide⟩
theorem Ib(n:Nat):∀p,(gg (tI n) p).d=List.replicate (256*n) 0∧(gg (tI n) p).i=List.replicate (256*n) 0
 | 0=>⟨rfl,rfl⟩
 | p+1=>by
  obtain⟨h1,h2⟩:=Ib n p;refine⟨?_,?_⟩
  ·show pk (gg (tI n) p).d (256*p) zer=_;rw [h1,pg,CT]
  ·show pk (gg (tI n) p).i (256*p) zer=_;rw [h2,pg,CT]
theorem Ia(s:Mm):∀(p q:Nat),p≤s.r.length→(gg s p).r.getD q 0=if q<p then um q else s.r.getD q 0
 | 0,q,_=>by rw [if_neg (by omega)];rfl
 | p+1,q,h=>by
  have hl:∀p,(gg s p).r.length=s.r.length:=fun p=>by
   induction p with
   | zero=>rfl
   | succ p ih=>exact(List.length_set ..).trans ih
  show((gg s p).r.set p (um p)).getD q 0=_;rw [List.getD_eq_getElem?_getD,List.getElem?_set];by_cases h1:p=q
  ·subst h1;rw [if_pos J,if_pos (by rw [hl];omega),if_pos (by omega)];rfl
  ·rw [if_neg h1,←List.getD_eq_getElem?_getD,Ia s p q (by omega)];by_cases h2:q<p
   ·rw [if_pos h2,if_pos (by omega)]
   ·rw [if_neg h2,if_neg (by omega)]
theorem Mx(s:Mm)(p:Nat):(rI s (p+1)).i=pk (rI s p).i ((p+1)*256) (((rI s p).d.drop ((p+1)*256)).take 256):=by rw [rI]
theorem My{s:Mm}(hl:s.i.length=s.d.length)(k:Nat):∀p,(p+1)*256≤s.d.length→(rI s p).i[k]?=if 256≤k∧k<(p+1)*256 then s.d[k]? else s.i[k]?:=by
 intro p
 induction p with
 | zero=>
  intro _;rw [if_neg (by omega),rI]
 | succ p ihp=>
  intro h;have hli:∀p,(rI s p).i.length=s.i.length:=fun p=>by
   induction p with
   | zero=>rfl
   | succ p ih=>exact(eE ..).trans ih
  have h':(p+1)*256≤s.d.length:=Nat.le_trans (Nat.mul_le_mul_right 256 (Nat.le_succ (p+1))) h;have ih:=ihp h';clear ihp;rw [Mx,zn,nD,ih,hli];have hlen:(List.take 256 (List.drop ((p+1)*256) s.d)).length=256:=by
   rw [List.length_take,List.length_drop];omega
  rw [hlen];by_cases h1:(p+1)*256≤k∧k<(p+1)*256+256
  ·rw [if_pos ⟨h1.1,h1.2,by omega⟩,if_pos ⟨by omega,by omega⟩,List.getElem?_take,if_pos (by omega),List.getElem?_drop,show(p+1)*256+(k-(p+1)*256)=k by omega]
  ·rw [if_neg (fun h2=>h1 ⟨h2.1,h2.2.1⟩)];by_cases h2:256≤k∧k<(p+1)*256
   ·rw [if_pos h2,if_pos ⟨h2.1,by omega⟩]
   ·rw [if_neg h2,if_neg (fun h3=> ?_)];omega
theorem Ic(s:Mm):∀p,(rI s p).r=s.r
 | 0=>rfl
 | p+1=>Ic s p
theorem JV{code:List Qi}(hl:code.length≤1984)(hv:∀i∈code,oj i=true∧0≤i.imm∧i.imm<4294967296){ins:List Int}(hi:∀v∈ins,0≤v∧v<4294967296):
  Sim code ⟨0,fun _=>0,fun _=>0,ins,[]⟩ 256 (Ld (tI 64) (dy code)):=by
 have hb:=eV code;obtain⟨hd,hi0⟩:=Ib 64 64;have hm:=ky (Dd (n:=64) (by decide)) 64;have hD:(Ld (tI 64) (dy code)).d=pk (List.replicate (256*64) 0) 256 (dy code):=by
  show(rI _ 31).d=_;rw [zn];show pk (gg (tI 64) 64).d 256 (dy code)=_;rw [hd]
 have hDk:∀k,(pk (List.replicate (256*64) (0:Int)) 256 (dy code)).getD k 0=if 256≤k∧k<256+(dy code).length then(dy code).getD (k-256) 0 else 0:=fun k=>by
  rw [mP (by rw [List.length_replicate];omega)];split
  ·rfl
  ·rw [List.getD_eq_getElem?_getD,List.getElem?_replicate];split<;>rfl
 refine⟨⟨?_,?_,fun p hp=> ?_,fun k i hk j hj=> ?_,hl,fun k i hk=>⟨VQ.of (hv i (List.mem_of_getElem? hk)).1,(hv i (List.mem_of_getElem? hk)).2⟩⟩,fun a ha=> ?_,J,fun _=>⟨Int.le_refl _,by show(0:Int)<4294967296;decide⟩,fun _=>J,by decide,hi⟩
 ·exact xE (hm.dd (eE _ _ _)) 31
 ·rw [hD];exact EI (fun x hx=>by have:=List.eq_of_mem_replicate hx;subst this;decide) (qJ code)
 ·show(rI _ 31).r.getD p 0=_;rw [Ic];show(gg (tI 64) 64).r.getD p 0=_;rw [Ia (tI 64) 64 p (Nat.le_of_eq (by exact(List.length_replicate ..).symm)),if_pos hp]
 ·have hkl:k<code.length:=(List.getElem?_eq_some_iff.1 hk).1;show(rI {gg (tI 64) 64 with d:=pk (gg (tI 64) 64).d 256 (dy code)} 31).i[256+4*k+j]?=_;rw [My (by show(gg (tI 64) 64).i.length=(pk _ _ _).length;rw [eE,hm.i,hm.d]) _ 31 (by show _≤(pk _ _ _).length;rw [eE,hm.d];decide),if_pos ⟨by omega,by omega⟩];show(pk (gg (tI 64) 64).d 256 (dy code))[256+4*k+j]?=_;rw [nD,if_pos ⟨by omega,by omega,by rw [hm.d];omega⟩,show 256+4*k+j-256=4*k+j by omega,we hk hj,show rN i=lD i from if_pos (hv i (List.mem_of_getElem? hk)).1]
 ·obtain⟨a1,a2,a3⟩:=ha;rw [hD,tJ,hDk,hDk,hDk,hDk,if_neg (by omega),if_neg (by omega),if_neg (by omega),if_neg (by omega)];rfl
theorem FN(n:Nat)(hn:n≤4096):
  Spec prog 34 [.int .i64 (n:Int)] [] [] (X:=Nat×Me) (fun _=>True) (fun x=> .pointer (some ⟨x.1,0,none⟩)) (fun x=> [bj x.1 93 (oe 0 oJ 0 x.2.m),bj x.2.m 157 (mR x.2),own 5 1 bZ (sv x.2.vd) (tI n).d,own 5 1 bZ (sv x.2.vi) (tI n).i,own 3 1 eI (sv x.2.vr) (tI n).r]) (fun _=> []):=A1 n hn
theorem mJ(e:Me)(s:Mm)(n:Nat)(hs:MO s n)(a:Int)(ha:0≤a∧a<4294967296)(h:a<s.d.length):
  Spec prog 41 [.pointer (some ⟨e.m,0,none⟩),.int .u32 a] [bj e.m 157 (mR e),own 5 1 bZ (sv e.vd) s.d,own 5 1 bZ (sv e.vi) s.i,own 3 1 eI (sv e.vr) s.r] [] (X:=Unit) (fun _=>True) (fun _=> .int .u8 (s.d.getD a.toNat 0)) (fun _=> [bj e.m 157 (mR e),own 5 1 bZ (sv e.vd) s.d,own 5 1 bZ (sv e.vi) s.i,own 3 1 eI (sv e.vr) s.r]) (fun _=> []):=by
 have:=xA e s n hs a ha;rw [if_pos h]at this;exact this
structure Sl where
 x:Int
 s:Mm
 c:Qs
 m:Nat
 k:Nat
 v:SV
 vo:SV
def Qz(code:List Qi)(c1 c':Qs)(n k1:Nat)(i0 i:Qi):Prop:=
 (k1=n∧c1=c'∧i=i0)∨∃c2 m,i.op=48∧uG i c1=some c2∧n=k1+1+m∧rn code m c2 c'
theorem Fq{code:List Qi}{n:Nat}{c c':Qs}(h:rn code n c c'){i0:Qi}(h0:code[c'.pc]?=some i0)(ho:i0.op=48∨i0.op=49):
  ∃k1 c1 i,HF code k1 c c1∧code[c1.pc]?=some i∧(i.op=48∨i.op=49)∧k1≤n∧Qz code c1 c' n k1 i0 i:=by
 obtain⟨k,c1,h1,h2⟩:=uR h;rcases h2 with⟨h3,h4⟩|⟨i,c2,m,g1,g2,g3,g4,g5⟩
 ·exact⟨k,c1,i0,h1,by rw [h4];exact h0,ho,by omega,.inl ⟨h3,h4,rfl⟩⟩
 ·exact⟨k,c1,i,h1,g1,.inl g2,by omega,.inr ⟨c2,m,g2,g3,g4,g5⟩⟩
theorem s7{i:Qi}(h:i.op=48):oD i=(4,i.imm):=if_pos h
theorem I6{code:List Qi}{c1 c':Qs}{n k1:Nat}{i0 i:Qi}(h:Qz code c1 c' n k1 i0 i)(h2:(oD i).1≠4∨(oD i).2<1∨(oD i).2>2):k1=n∧c1=c'∧i=i0:=by
 rcases h with h|⟨c2,m,o1,o2,o3,o4⟩
 ·exact h
 ·exfalso;rw [s7 o1]at h2;have h2:(4:Int)≠4∨i.imm<1∨i.imm>2:=h2;rcases oE o2 o1 with⟨q,-⟩|⟨q,-⟩<;>omega
theorem LM{code:List Qi}{c1 c':Qs}{n k1:Nat}{i0 i:Qi}(h:Qz code c1 c' n k1 i0 i)(h0:i0=⟨48,0,0,0,0⟩∨i0=⟨49,0,0,0,0⟩)(h2:(oD i).1=4∧1≤(oD i).2∧(oD i).2≤2):∃c2 m,i.op=48∧uG i c1=some c2∧n=k1+1+m∧rn code m c2 c':=by
 rcases h with⟨-,-,h⟩|h
 ·exfalso;subst h;rcases h0 with rfl|rfl
  ·exact absurd h2 (by decide)
  ·exact absurd h2 (by decide)
 ·exact h
theorem I5{i:Qi}{c1 c2:Qs}(h:uG i c1=some c2)(ho:i.op=48)(h2:(oD i).2=1):c2={c1 with pc:=c1.pc+1,out:=c1.out++ [c1.r 1]}:=by
 rw [s7 ho]at h2;have h2:i.imm=1:=h2;rcases oE h ho with⟨-,q⟩|⟨q,-⟩
 ·exact q
 ·omega
theorem LL{i:Qi}{c1 c2:Qs}(h:uG i c1=some c2)(ho:i.op=48)(h2:¬(oD i).2=1):c2={c1 with pc:=c1.pc+1,r:=rp c1.r 1 (c1.inp.headD 0),inp:=c1.inp.tail}:=by
 rw [s7 ho]at h2;have h2:¬i.imm=1:=h2;rcases oE h ho with⟨q,-⟩|⟨-,q⟩
 ·exact absurd q h2
 ·exact q
theorem Sim.nx{code:List Qi}{c:Qs}{x:Int}{s:Mm}(h:Sim code c x s){i:Qi}(hc:code[c.pc]?=some i):(c.pc+1<1984→x+4=gU (c.pc+1))∧0≤x+4∧x+4<4294967296:=by
 obtain⟨h1,h2⟩:=h.pcl hc;refine⟨fun _=> ?_,by omega⟩;unfold gU;omega
theorem Sim.nout{code:List Qi}{c:Qs}{x:Int}{s:Mm}(h:Sim code c x s){i:Qi}(hc:code[c.pc]?=some i)(l:List Int):Sim code {c with pc:=c.pc+1,out:=l} (x+4) s:=
 ⟨h.k,h.mem,h.h0,h.hr,(h.nx hc).1,(h.nx hc).2,h.hi⟩
theorem Sim.nin{code:List Qi}{c:Qs}{x:Int}{s:Mm}(h:Sim code c x s){i:Qi}(hc:code[c.pc]?=some i):Sim code {c with pc:=c.pc+1,r:=rp c.r 1 (c.inp.headD 0),inp:=c.inp.tail} (x+4) s:=by
 refine⟨h.k,h.mem,show rp c.r 1 (c.inp.headD 0) 0=0 from r7 h.h0,AZ h.hr ?_,(h.nx hc).1,(h.nx hc).2,fun v hv=>h.hi v (List.mem_of_mem_tail hv)⟩;have:=h.hi;cases hl:c.inp with
 | nil=>exact⟨Int.le_refl _,by show(0:Int)<4294967296;decide⟩
 | cons a l=>rw [hl]at this;exact this a (by simp)
theorem J8{s:Mm}(hb:byL s.d)(a:Nat):Ii (bn (jZ [s.d.getD a 0,s.d.getD (a+1) 0,s.d.getD (a+2) 0,s.d.getD (a+3) 0])) 4=zo s.d a:=by
 rw [jJ _ (fun x hx=>by
  have b0:=hb.get a;have b1:=hb.get (a+1);have b2:=hb.get (a+2);have b3:=hb.get (a+3);simp only [List.mem_cons,List.not_mem_nil,or_false]at hx;rcases hx with rfl|rfl|rfl|rfl<;>assumption),tJ]
 show 0+s.d.getD a 0*256^0+s.d.getD (a+1) 0*256^1+s.d.getD (a+2) 0*256^2+s.d.getD (a+3) 0*256^3=_;have e:s.d.getD (a+0) 0=s.d.getD a 0:=J;rw [e];omega
def qd(m:Int→Int)(n:Nat):List Int:=(List.range n).map fun k:Nat=>m (8192+4*(k:Int))
theorem JT(m:Int→Int)(n:Nat):qd m (n+1)=qd m n++ [m (8192+4*(n:Int))]:=by
 unfold qd;rw [List.range_succ,List.map_append];rfl
theorem qb(m:Int→Int)(n:Nat):(qd m n).length=n:=by unfold qd;rw [List.length_map,List.length_range]
theorem J7{code:List Qi}{c:Qs}{x:Int}{s:Mm}(h:Sim code c x s){t:Nat}(ht:t<256):Ii (bn (jZ [s.d.getD (8192+4*(t:Int)).toNat 0,s.d.getD (8192+4*(t:Int)+1).toNat 0,s.d.getD (8192+4*(t:Int)+2).toNat 0,s.d.getD (8192+4*(t:Int)+3).toNat 0])) 4=c.m (8192+4*(t:Int)):=by
 rw [show(8192+4*(t:Int)+1).toNat=(8192+4*(t:Int)).toNat+1 by omega,show(8192+4*(t:Int)+2).toNat=(8192+4*(t:Int)).toNat+2 by omega,show(8192+4*(t:Int)+3).toNat=(8192+4*(t:Int)).toNat+3 by omega,J8 h.k.hb];exact h.mem _ ⟨by omega,by omega,by omega⟩
theorem vD{l:List Int}(h:¬(l.length:Int)>0):l.headD 0=0∧l.tail=l:=by
 cases l with
 | nil=>exact⟨rfl,rfl⟩
 | cons a l=>exact absurd (show(((a::l).length:Nat):Int)>0 by rw [List.length_cons];omega) h
theorem nW{code:List Qi}(hl:code.length≤1984)(hv:∀i∈code,oj i=true∧0≤i.imm∧i.imm<4294967296)(vin:SV)(ins:List Int)(hi:∀v∈ins,0≤v∧v<4294967296){n:Nat}{c':Qs}(hn:rn code n ⟨0,fun _=>0,fun _=>0,ins,[]⟩ c'){i0:Qi}(hc:code[c'.pc]?=some i0)(hz:i0=⟨48,0,0,0,0⟩∨i0=⟨49,0,0,0,0⟩)(most:Int)(hm:(n:Int)<most∧most<1000000000):
  Spec prog 25 [.string (jZ (dy code)),sv vin,.int .i64 most] [] [sl 1 eU (sv vin) ins] (X:=SV×SV) (fun _=>True) (fun x=> .agg #[sv x.1,sv x.2,.int .i64 (oD i0).1,.int .u32 (oD i0).2]) (fun x=> [own 41 1 eU (sv x.1) c'.out,own 41 1 eU (sv x.2) (qd c'.m 256)]) (fun _=> []):=by
 refine aI func25 J ntmps25 J fun w0 M H=> ?_
 obtain⟨most2,hmm⟩:∃z:Int,z=most:=⟨_,J⟩
 refine aj (aZ uE J J fun b6=>aG J (ak (xs:= [.const (.int .i64 64)]) (FN 64 (by decide)) Qu [] [] [24,20,21,22,23] (fun y _=>ai J J (aG J (ad J J (ad J J (ak (xs:= [.tmp 14,.tmp 15]) (xe y.1 y.2 (tI 64) 64 (Dd (by decide)) (by decide) (jZ (dy code)) (by rw [ga,eV];omega)) Qq [20,21,22,23,24] [] [20,21,22,23,24] (fun _ _=> ?_))))))));rw [jJ _ (qJ code)];refine aG J (aO (aV (cs:=(Value.agg #[sv bJ,sv bJ,.int .i64 0,.int .u32 0]).cells) (parts:= []) uE Pc J (by kernel_rfl)) J (aZ uE J J fun b8=>aq (k:=8) uE J J J J J J (ac (a_ (aB (aW 0 1 J (fun w G h _=>⟨G,h,fun _ h=>h⟩) (cJ 12 (α:=Int) (S:=41) (s:=1) (enc:=eU) (bv (X:=Sl) (fun p=>Sim code p.c p.x p.s∧rn code p.m p.c c'∧p.m+p.k=n∧p.c.out.length≤p.k) (fun p=> [(1,sv p.v),(2,.int .i64 most),(6,.pointer (some ⟨b6,0,none⟩)),(7,.pointer (some ⟨y.1,0,none⟩)),(8,.pointer (some ⟨b8,0,none⟩))]) (fun p=> [(20,bj y.2.m 157 (mR y.2)),(21,own 5 1 bZ (sv y.2.vd) p.s.d),(22,own 5 1 bZ (sv y.2.vi) p.s.i),(23,own 3 1 eI (sv y.2.vr) p.s.r),(24,bj y.1 93 (oe p.x p.c.r (p.k:Int) y.2.m)),(6,bj b6 55 [sv bJ,sv bJ,.int .i64 0,.int .u32 0]),(8,bj b8 55 [sv p.vo,sv bJ,.int .i64 0,.int .u32 0]),(12,own 41 1 eU (sv p.vo) p.c.out)]) (fun p=> [(1,sl 1 eU (sv p.v) p.c.inp)]) (fun p=>p.m) ⟨256,Ld (tI 64) (dy code),⟨0,fun _=>0,fun _=>0,ins,[]⟩,n,0,vin,bJ⟩ ⟨JV hl hv hi,hn,J,Nat.le_refl _⟩ J J J (fun p hp=> ?_)))))))));obtain⟨hp1,hp2,hp3,hp4⟩:=hp;obtain⟨k1,c1,i,hk1,hi1,hi2,hk2,hor⟩:=Fq hp2 hc (by rcases hz with rfl|rfl;exact .inl J;exact .inr J);have hio:=CG hk1;refine aB (aj (ad J J (ad J J (ad J J (bG J J (az dG J J (az gQ J J (aP 24 t3 J J J J J (ar J J (fX (bc (by omega) (by omega))) J ?_)))))))));refine d9 (xs:= [.tmp 18,.tmp 25]) (AY y.2 y.1 hp1 hk1 hi1 hi2 (p.k:Int) (most-p.k) ⟨by omega,by omega⟩ (by omega)) Qf [20,21,22,23,24] [] [20,21,22,23,24] J J J J J J J J (fun _ _=>J) (fun _ _ _=>J) J (fun q hq=> ?_)
 refine aZ wB J J fun b9=>aq (k:=9) wB J J J J J J (ac (aS (az lS J J (aP 9 t3 J J J J J (ar J J df J (ad J J (aA [] J J O (fun hg1=>ag xT J) J (aA [(31,_)] J J ⟨J,O⟩ (fun hg2=>ah cB J J (ay (k:=9) J J)) J (aA [(31,_),(32,_)] J J ⟨J,J,O⟩ (fun hg3=>aT J J ci) J (aO (aQ J J J (by first|exact av|exact aC|rfl)) J (ad J J (aA [] J J O (fun hg4=>ag xT J) J (aA [(36,_)] J J ⟨J,O⟩ (fun hg5=>ah cB J J (ay (k:=9) J J)) J (aA [(36,_),(37,_)] J J ⟨J,J,O⟩ (fun hg6=>aT J J dV) J (aO (aQ J J J (by first|exact av|exact aC|rfl)) J (ac ?_))))))))))))))))
 refine ae J (fun h7=> ?_) (fun h7=> ?_)
 ·obtain⟨e1,e2,e3⟩:=I6 hor (by have q:=h7;simp at q;omega);have e2':=e2.symm;have e3':=e3.symm;subst e2';subst e3';refine aj (aO (aL wB J J J (aX (k:=9) J)) J (az nJ J J (aK (k:=8) wB J J J J J J J J (ac (bx (aS (ai J J (ac (aB ?_)))))))));obtain⟨g,hg,hgk⟩:∃g:Sl,Sim code c' g.x g.s∧g=⟨q.1,q.2,c',0,n,p.v,p.vo⟩:=⟨⟨q.1,q.2,c',0,n,p.v,p.vo⟩,hq,J⟩
  have hgs:q.2=g.s:=by rw [hgk]
  have hgl:=hg.k.hs.d;rw [hgs];refine cJ 13 (α:=Int) (S:=41) (s:=1) (enc:=eU) (bv (X:=Nat×SV) (fun z=>z.1≤256) (fun z=> [(6,.pointer (some ⟨b6,0,none⟩)),(7,.pointer (some ⟨y.1,0,none⟩)),(8,.pointer (some ⟨b8,0,none⟩)),(10,.int .i64 (z.1:Int))]) (fun z=> [(20,bj y.2.m 157 (mR y.2)),(21,own 5 1 bZ (sv y.2.vd) g.s.d),(22,own 5 1 bZ (sv y.2.vi) g.s.i),(23,own 3 1 eI (sv y.2.vr) g.s.r),(24,bj y.1 93 (oe q.1 c'.r ((p.k:Int)+(k1:Int)) y.2.m)),(6,bj b6 55 [sv bJ,sv bJ,.int .i64 0,.int .u32 0]),(8,bj b8 55 [sv p.vo,sv z.2,.int .i64 (oD i0).1,.int .u32 (oD i0).2]),(12,own 41 1 eU (sv p.vo) c'.out),(13,own 41 1 eU (sv z.2) (qd c'.m z.1))]) (fun z=> []) (fun z=>256-z.1) (0,bJ) (Nat.zero_le _) J (by rw [hio.2];rfl) J (fun z hz1=> ?_));obtain⟨t,vm⟩:=z;have hz1:t≤256:=hz1;dsimp only;refine aS (ad J J (ar J J ci J (ac (ae J (fun h8=> ?_) (fun h8=> ?_)))))
  ·(try simp only [be]at h8)
   have hi5:t<256:=by omega
   have hml:=qb c'.m t;refine ax (a_ (aB (aj (ad J J (ar J J (dr (by first|exact bc (by omega) (by omega)|rfl)) J (ar J J (bi (by first|exact bc (by omega) (by omega)|rfl)) J (aO (bX underlying3 underlying41 J (by first|exact bK (by omega) (by omega)|rfl)) J (ai J J (ac (a_ ?_))))))))))
   refine bH [101,102,103,104,105,106,107,108,109,110,111,112,113,114,115,116,117,118,119,120,121,122,123,124,125,126,127,128,129,12] _ J (bk (V:= [(0,101,_),(1,102,_),(2,103,_),(3,104,_),(4,105,_),(6,107,_),(7,108,_),(8,109,_),(9,110,_),(10,111,_),(11,112,_),(13,114,_),(14,115,_),(15,116,_),(16,117,_),(17,118,_),(18,119,_),(20,121,_),(21,122,_),(22,123,_),(23,124,_),(24,125,_),(25,126,_)]) [0,1,2,3,4,6,7,8,9,10,11,13,14,15,16,17,18,20,21,22,23,24,25] 5 [5,4,3,2,1,0] [] (fun _=> []) J J (aa (aD J (am J)) (aa (aD J (aF J)) (aa (aD J (ag fh J)) (aa (aD J (ah uD J J (ay (k:=24) J J))) (aa (aD J (am J)) (aa (aD J (am J)) (aa (aD J (aF J)) (aa (aD J (ag fh J)) (aa (aD J (ah uD J J (ay (k:=24) J J))) (aa (aD J (am J)) (aa (aD J (aT J J (bi (c:=(8192+4*(t:Int)+1)) (bK (by omega) (by omega))))) (aa (aD J (am J)) (aa (aD J (aF J)) (aa (aD J (ag fh J)) (aa (aD J (ah uD J J (ay (k:=24) J J))) (aa (aD J (am J)) (aa (aD J (aT J J (bi (c:=(8192+4*(t:Int)+2)) (bK (by omega) (by omega))))) (aa (aD J (am J)) (aa (aD J (aF J)) (aa (aD J (ag fh J)) (aa (aD J (ah uD J J (ay (k:=24) J J))) (aa (aD J (am J)) (aa (aD J (aT J J (bi (c:=(8192+4*(t:Int)+3)) (bK (by omega) (by omega))))) aw))))))))))))))))))))))) J J J J J J J J J J J (fun _ _=>J) J (bq (xs:= [.tmp 104,.tmp 105]) (mJ y.2 g.s 64 hg.k.hs (8192+4*(t:Int)) (by omega) (by omega)) Hg [20,21,22,23] [] [20,21,22,23] J J J J J J J J (fun _ _=>J) (fun _ _ _=>J)) (fun _ _=>bk [6,7,8,9,10,11,13,14,15,16,17,18,20,21,22,23,24,25] 12 [12,11,10,9,8,7,6,5,4,3,2,1,0] [] (fun _=> []) J J (aa (aD J (am J)) (aa (aD J (aF J)) (aa (aD J (ag fh J)) (aa (aD J (ah uD J J (ay (k:=24) J J))) (aa (aD J (am J)) (aa (aD J (aT J J (bi (c:=(8192+4*(t:Int)+1)) (bK (by omega) (by omega))))) (aa (aD J (am J)) (aa (aD J (aF J)) (aa (aD J (ag fh J)) (aa (aD J (ah uD J J (ay (k:=24) J J))) (aa (aD J (am J)) (aa (aD J (aT J J (bi (c:=(8192+4*(t:Int)+2)) (bK (by omega) (by omega))))) (aa (aD J (am J)) (aa (aD J (aF J)) (aa (aD J (ag fh J)) (aa (aD J (ah uD J J (ay (k:=24) J J))) (aa (aD J (am J)) (aa (aD J (aT J J (bi (c:=(8192+4*(t:Int)+3)) (bK (by omega) (by omega))))) aw)))))))))))))))))) J J J J J J J J J J J (fun _ _=>J) J (bq (xs:= [.tmp 110,.tmp 112]) (mJ y.2 g.s 64 hg.k.hs (8192+4*(t:Int)+1) (by omega) (by omega)) Hg [20,21,22,23] [] [20,21,22,23] J J J J J J J J (fun _ _=>J) (fun _ _ _=>J)) (fun _ _=>bk [13,14,15,16,17,18,20,21,22,23,24,25] 19 [19,18,17,16,15,14,13,12,11,10,9,8,7,6,5,4,3,2,1,0] [] (fun _=> []) J J (aa (aD J (am J)) (aa (aD J (aF J)) (aa (aD J (ag fh J)) (aa (aD J (ah uD J J (ay (k:=24) J J))) (aa (aD J (am J)) (aa (aD J (aT J J (bi (c:=(8192+4*(t:Int)+2)) (bK (by omega) (by omega))))) (aa (aD J (am J)) (aa (aD J (aF J)) (aa (aD J (ag fh J)) (aa (aD J (ah uD J J (ay (k:=24) J J))) (aa (aD J (am J)) (aa (aD J (aT J J (bi (c:=(8192+4*(t:Int)+3)) (bK (by omega) (by omega))))) aw)))))))))))) J J J J J J J J J J J (fun _ _=>J) J (bq (xs:= [.tmp 117,.tmp 119]) (mJ y.2 g.s 64 hg.k.hs (8192+4*(t:Int)+2) (by omega) (by omega)) Hg [20,21,22,23] [] [20,21,22,23] J J J J J J J J (fun _ _=>J) (fun _ _ _=>J)) (fun _ _=>bk [20,21,22,23,24,25] 26 [26,25,24,23,22,21,20,19,18,17,16,15,14,13,12,11,10,9,8,7,6,5,4,3,2,1,0] [] (fun _=> []) J J (aa (aD J (am J)) (aa (aD J (aF J)) (aa (aD J (ag fh J)) (aa (aD J (ah uD J J (ay (k:=24) J J))) (aa (aD J (am J)) (aa (aD J (aT J J (bi (c:=(8192+4*(t:Int)+3)) (bK (by omega) (by omega))))) aw)))))) J J J J J J J J J J J (fun _ _=>J) J (bq (xs:= [.tmp 124,.tmp 126]) (mJ y.2 g.s 64 hg.k.hs (8192+4*(t:Int)+3) (by omega) (by omega)) Hg [20,21,22,23] [] [20,21,22,23] J J J J J J J J (fun _ _=>J) (fun _ _ _=>J)) (fun _ _=>bk [] 27 [27,26,25,24,23,22,21,20,19,18,17,16,15,14,13,12,11,10,9,8,7,6,5,4,3,2,1,0] [28,29] (fun v128=> [(28,129,_),(29,12,_)]) J J aw J J J J J J J J J J J (fun _ _=>J) J (gl bZ [g.s.d.getD (8192+4*(t:Int)).toNat 0,g.s.d.getD (8192+4*(t:Int)+1).toNat 0,g.s.d.getD (8192+4*(t:Int)+2).toNat 0,g.s.d.getD (8192+4*(t:Int)+3).toNat 0] (parts:= [(0,.tmp 106),(1,.tmp 113),(2,.tmp 120),(3,.tmp 127)]) underlying84 t5 J (by decide) (by intro _;rfl) J (by decide) (by decide) J J J) (fun v128 _=>bp [28,29] J J (aa (aD J (CX underlying84 underlying5 underlying9 J (bs (k:=128) J) (by simp))) (aa (aD J (ct J)) aw)) J J J ?_))))))
   refine bH [130,131,132,133,134,135,136] _ J (bk (V:= [(0,130,_),(1,131,_),(2,132,_)]) [0,1,2] 3 [3,2] [] (fun _=> []) J J (aa (aD J (ag nK J)) (aa (aD J (ah oo J J (ay (k:=8) J J))) (aa (aD J (am J)) aw))) J J J J J J J J J J J (fun _ _=>J) J (bq (xs:= [.tmp 132]) (A2 (jZ [g.s.d.getD (8192+4*(t:Int)).toNat 0,g.s.d.getD (8192+4*(t:Int)+1).toNat 0,g.s.d.getD (8192+4*(t:Int)+2).toNat 0,g.s.d.getD (8192+4*(t:Int)+3).toNat 0]) (by rw [ga];rfl)) Qe [] [] [] J J J J J J J J (fun _ _=>J) (fun _ _ _=>J)) (fun _ _=>bk [0,1] 4 [4,3,2] [] (fun v134=> []) J J (aa (aD J (ag nK J)) (aa (aD J (ah oo J J (ay (k:=8) J J))) aw)) J J J J J J J J J J J (fun _ _=>J) J (ef eU _ underlying48 cB J (by decide) (by decide) J J J) (fun v134 _=>bk [0,1] 5 [5,4,3,2,1,0] [6] (fun v135=> [(6,136,_)]) J J (aa (aD J (ag nK J)) (aa (aD J (ah oo J J (ay (k:=8) J J))) aw)) J J J J J J J J J J J (fun _ _=>J) J (ia 13 underlying48 cB J (by decide) (fun _=>J) (fun _=>J) J J J (bs (k:=134) J) (by first|omega|(simp;done)|(simp;omega)) (by unfold maxLen;first|omega|(simp;done)|(simp;omega))) (fun v135 _=>bI [6] 7 [7,6,5,4,3,2,1,0] [] (fun _=> []) J J (aa (aD J (ag nK J)) aw) J J J J J J J J J (fun _ _=>J) J (cH (k:=8) oo J J J J J J J J) (fun _ _=>bp [] J J aw J J J ?_)))));refine ap (ad J J (ar J J (bi (by first|exact bc (by omega) (by omega)|rfl)) J (ai J J (ac ?_))));refine aM (t+1,v135) ⟨by show t+1≤256;omega,by show 256-(t+1)<256-t;omega⟩ J (by dsimp only;rw [JT,J7 hg hi5];rfl) J
  ·(try simp only [be]at h8)
   obtain rfl:t=256:=by omega
   refine bx (aj (aO (aL uE J J J (aX (k:=8) J)) J (aq (k:=6) uE J J J J J J (ac (au (aH (p.vo,vm) O J (bE (bh uE J J J (aX (k:=6) J))) J [12,13] [] J J J))))))
 ·obtain⟨c2,m2,o1,o2,o3,o4⟩:=LM hor hz (by have q:=h7;simp at q;omega);refine ax (aS (az xT J J (aP 9 cB J J J J J (ar J J aY J (ac (ae J (fun h9=> ?_) (fun h9=> ?_)))))))
  ·obtain rfl:=I5 o2 o1 (by simpa using h9);refine bH [45,46,47,48,49,50,51,52,53,54,55] _ J (bk (V:= [(0,45,_),(1,46,_),(2,47,_),(3,48,_),(4,49,_),(5,50,_),(6,51,_),(7,52,_)]) [0,1,2,3,4,5,6,7] 8 [8,7,6,5,4,3,2] [] (fun v53=> []) J J (aa (aD J (ag nL J)) (aa (aD J (ah oo J J (ay (k:=8) J J))) (aa (aD J (am J)) (aa (aD J (aF J)) (aa (aD J (ag dG J)) (aa (aD J (ag fS J)) (aa (aD J (cO (j:=1) underlying75 cB J J (by rfl) (by decide))) (aa (aD J (ah cB J J (ay (k:=24) J J))) aw)))))))) J J J J J J J J J J J (fun _ _=>J) J (ef eU _ underlying48 cB J (by decide) (by decide) J J J) (fun v53 _=>bk [0,1] 9 [9,8,7,6,5,4,3,2,1,0] [10] (fun v54=> [(10,55,_)]) J J (aa (aD J (ag nL J)) (aa (aD J (ah oo J J (ay (k:=8) J J))) aw)) J J J J J J J J J J J (fun _ _=>J) J (ia 12 underlying48 cB J (by decide) (fun _=>J) (fun _=>J) J J J (bs (k:=53) J) (by first|omega|(simp;done)|(simp;omega)) (by unfold maxLen;first|omega|(simp;done)|(simp;omega))) (fun v54 _=>bI [10] 11 [11,10,9,8,7,6,5,4,3,2,1,0] [] (fun _=> []) J J (aa (aD J (ag nL J)) aw) J J J J J J J J J (fun _ _=>J) J (cH (k:=8) oo J J J J J J J J) (fun _ _=>bp [] J J aw J J J ?_))));refine aj (ad J J (ad J J (bG J J (az dG J J (az gS J J (aP 24 cB J J J J J (ar J J (bi (c:=q.1+4) (bK (hq.nx hi1).2.1 (hq.nx hi1).2.2)) J (bG J J (az dG J J (az gS J J (aK (k:=24) (us:= [.int .u32 (q.1+4)]) (c':=oe (q.1+4) c1.r ((p.k:Int)+(k1:Int)) y.2.m) cB J J J J J J J J (ac (ap (ad J J (bG J J (az dG J J (az gQ J J (aP 24 t3 J J J J J ?_))))))))))))))))));refine ar J J (bi (c:=(p.k:Int)+(k1:Int)+1) (bc (by omega) (by omega))) J (bG J J (az dG J J (az gQ J J (aK (k:=24) (us:= [.int .i64 ((p.k:Int)+(k1:Int)+1)]) (c':=oe (q.1+4) c1.r ((p.k:Int)+(k1:Int)+1) y.2.m) t3 J J J J J J J J (ac ?_)))))
   refine aM ⟨q.1+4,q.2,_,m2,p.k+k1+1,p.v,v54⟩ ⟨⟨hq.nout hi1 _,o4,by show m2+(p.k+k1+1)=n;omega,by show(c1.out++ [c1.r 1]).length≤p.k+k1+1;rw [List.length_append,hio.2];show _+1≤_;omega⟩,by show m2<p.m;omega⟩ J (by dsimp only;rw [hio.2,show((p.k+k1+1:Nat):Int)=(p.k:Int)+(k1:Int)+1 by omega];rfl) (by dsimp only;rw [hio.1];rfl)
  ·obtain rfl:=LL o2 o1 (by simpa using h9);refine aj (ad J J (bG J J (az dG J J (az fS J J (aO (cO (j:=1) underlying75 cB J J (by rfl) (by decide)) J (aK (k:=24) (us:= [.int .u32 0]) (c':=oe q.1 (rp c1.r 1 0) ((p.k:Int)+(k1:Int)) y.2.m) cB J J J J J J J J (aG J (ad J J (aO (aU underlying48 J (aN (k:=1) J)) J (ar J J dV J (ac (ae J (fun h10=> ?_) (fun h10=> ?_)))))))))))))
   ·(try simp only [be]at h10)
    obtain⟨a0,l0,ha0⟩:∃a l,p.c.inp=a::l:=by
     cases hl0:p.c.inp with
     | nil=>rw [hl0]at h10;exact absurd h10 (by decide)
     | cons a l=>exact⟨a,l,rfl⟩
    refine a_ ?_;refine bH [64,65,66,67,68,69,70,71] _ J (bI (V:= [(0,64,_),(1,65,_),(2,66,_),(3,67,_),(4,68,_),(5,69,_),(6,70,_),(7,71,_)]) [0,1,2,3,4,5,6,7] 8 [8,7,6,5,4,3,2,1,0] [] (fun _=> []) J J (aa (aD J (am J)) (aa (aD J (am J)) (aa (aD J (aR (j:=0) underlying48 cB J J (aN (k:=1) J) J (by rw [ha0];exact Nat.succ_pos _))) (aa (aD J (ah cB J J (bD (aN (k:=1) J) (by intro _;rfl) (show p.c.inp[0]?=some a0 by rw [ha0];rfl) (by rfl)))) (aa (aD J (aF J)) (aa (aD J (ag dG J)) (aa (aD J (ag fS J)) (aa (aD J (cO (j:=1) underlying75 cB J J (by rfl) (by decide))) aw)))))))) J J J J J J J J J (fun _ _=>J) J (cH (k:=24) (us:= [.int .u32 a0]) (c':=oe q.1 (rp c1.r 1 a0) ((p.k:Int)+(k1:Int)) y.2.m) cB J J J J J J J J) (fun _ _=>bp [] J J aw J J J ?_));refine ap (ad J J (xi (j:=1) 1 1 underlying48 cB (by intro _;rfl) J J J (by rw [ha0];exact Nat.succ_le_succ (Nat.zero_le _)) J J fun v73=>ai J J (aG J (ad J J (ad J J (bG J J (az dG J J (az gS J J (aP 24 cB J J J J J (ar J J (bi (c:=q.1+4) (bK (hq.nx hi1).2.1 (hq.nx hi1).2.2)) J (bG J J (az dG J J (az gS J J (aK (k:=24) (us:= [.int .u32 (q.1+4)]) (c':=oe (q.1+4) (rp c1.r 1 a0) ((p.k:Int)+(k1:Int)) y.2.m) cB J J J J J J J J (ac (ap ?_))))))))))))))));refine ad J J (bG J J (az dG J J (az gQ J J (aP 24 t3 J J J J J (ar J J (bi (c:=(p.k:Int)+(k1:Int)+1) (bc (by omega) (by omega))) J (bG J J (az dG J J (az gQ J J (aK (k:=24) (us:= [.int .i64 ((p.k:Int)+(k1:Int)+1)]) (c':=oe (q.1+4) (rp c1.r 1 a0) ((p.k:Int)+(k1:Int)+1) y.2.m) t3 J J J J J J J J (ac ?_))))))))));refine aM ⟨q.1+4,q.2,_,m2,p.k+k1+1,v73,p.vo⟩ ⟨⟨hq.nin hi1,o4,by show m2+(p.k+k1+1)=n;omega,by show c1.out.length≤p.k+k1+1;rw [hio.2];omega⟩,by show m2<p.m;omega⟩ J (by dsimp only;rw [hio.2,hio.1,ha0,show((p.k+k1+1:Nat):Int)=(p.k:Int)+(k1:Int)+1 by omega];rfl) (by dsimp only;rw [hio.1,ha0];rfl)
   ·(try simp only [be]at h10)
    have hin:¬(p.c.inp.length:Int)>0:=by omega
    refine ax (aj (ad J J (ad J J (bG J J (az dG J J (az gS J J (aP 24 cB J J J J J (ar J J (bi (c:=q.1+4) (bK (hq.nx hi1).2.1 (hq.nx hi1).2.2)) J (bG J J (az dG J J (az gS J J (aK (k:=24) (us:= [.int .u32 (q.1+4)]) (c':=oe (q.1+4) (rp c1.r 1 0) ((p.k:Int)+(k1:Int)) y.2.m) cB J J J J J J J J (ac (ap (ad J J (bG J J (az dG J J (az gQ J J ?_))))))))))))))))));refine aP 24 t3 J J J J J (ar J J (bi (c:=(p.k:Int)+(k1:Int)+1) (bc (by omega) (by omega))) J (bG J J (az dG J J (az gQ J J (aK (k:=24) (us:= [.int .i64 ((p.k:Int)+(k1:Int)+1)]) (c':=oe (q.1+4) (rp c1.r 1 0) ((p.k:Int)+(k1:Int)+1) y.2.m) t3 J J J J J J J J (ac ?_))))));refine aM ⟨q.1+4,q.2,_,m2,p.k+k1+1,p.v,p.vo⟩ ⟨⟨hq.nin hi1,o4,by show m2+(p.k+k1+1)=n;omega,by show c1.out.length≤p.k+k1+1;rw [hio.2];omega⟩,by show m2<p.m;omega⟩ J (by dsimp only;rw [hio.2,hio.1,(vD hin).1,show((p.k+k1+1:Nat):Int)=(p.k:Int)+(k1:Int)+1 by omega];rfl) (by dsimp only;rw [hio.1,(vD hin).2];rfl)
theorem xY(t:Tx)(ht:GX t)(hn:nX t≤1000000000000)(ih:∀u∈t.kids,nX u≤1000000000000→Spec prog 107 [xV u] [] [bS u.v u.kids] (X:=Unit) (fun _=>True) (fun _=> .int .i64 (nX u:Int)) (fun _=> []) (fun _=> [])):
  Spec prog 107 [xV t] [] [bS t.v t.kids] (X:=Unit) (fun _=>True) (fun _=> .int .i64 (nX t:Int)) (fun _=> []) (fun _=> []):=by
 refine aI func107 J ntmps107 J fun w0 M H=> ?_
 have hkl:=kF ht;have hnx:=sh t;refine aW 0 2 J eW (aj (bU J J fun b1=>ai J J (aG J (ai J J (ac (aS (ai J J (ac (aB (aW 2 1 J (fun w G h _=>⟨G,h,fun _ h=>h⟩) (bv (X:=Nat) (fun i=>i≤t.kids.length) (fun i=> [(1,.pointer (some ⟨b1,0,none⟩)),(3,.int .i64 (1+(ey (t.kids.take i):Int))),(4,.int .i64 (i:Int))]) (fun i=> [(1,bj b1 61 (dt t))]) (fun i=> [(0,bS t.v t.kids),(1,sl 4 dt (sv t.v) t.kids)]) (fun i=>t.kids.length-i) 0 (Nat.zero_le _) J J J (fun i n1=>a_ (a_ ?_)))))))))))));refine ap (ad J J (az dc J J (aP 1 ij J J J J J (aO (aU underlying59 J (aN (k:=1) J)) J (ar J J ci J (ac (ae J (fun h1=> ?_) (fun h1=> ?_))))))))
 ·(try simp only [be]at h1)
  have hi:i<t.kids.length:=by omega
  obtain⟨kid,hkid⟩:∃k,t.kids[i]?=some k:=⟨_,List.getElem?_eq_getElem hi⟩
  have hkm:=List.mem_of_getElem? hkid;have hle:=kw t.kids (i+1);rw [ea hkid]at hle;refine ax (a_ (aB (ap (ad J J (az dc J J (aP 1 ij J J J J J (ad J J (aO (aR (j:=i) underlying59 co J J (aN (k:=1) J) (by first|rfl|omega) (by first|omega|(simp;done)|(simp;omega))) J (aO (aL co J J J (bD (aN (k:=1) J) (by intro _;rfl) hkid (by rfl))) J (aW 0 8 J (cS hkm) (ak (xs:= [.tmp 17]) (ih kid hkm (by omega)) IL [] [(false,8)] [] (fun _ _=>ar J J (bi (by first|exact bc (by omega) (by omega)|rfl)) J (ai J J (ac (ap (ad J J (ar J J (bi (by first|exact bc (by omega) (by omega)|rfl)) J (ai J J (ac ?_)))))))))))))))))));refine aM (i+1) ⟨by omega,by omega⟩ (by rw [ea hkid,Int.natCast_add,←Int.add_assoc];rfl) J J
 ·(try simp only [be]at h1)
  have hi:i=t.kids.length:=by omega
  subst hi;rw [List.take_length];refine bx (aj (ad J J (ai J J (ac (au (aH () O J (bE (aJ J)) (by rw [hnx,Int.natCast_add,Int.add_comm];rfl) [] [] J J J))))))
theorem sF:∀(n:Nat)(t:Tx),SizeOf.sizeOf t<n→GX t→nX t≤1000000000000→Spec prog 107 [xV t] [] [bS t.v t.kids] (X:=Unit) (fun _=>True) (fun _=> .int .i64 (nX t:Int)) (fun _=> []) (fun _=> [])
 | 0,_,h,_,_=>absurd h (Nat.not_lt_zero _)
 | n+1,t,h,ht,hn=>xY t ht hn fun u hu h2=>sF n u (by have:=nU hu;omega) ((iY ht).mem u hu) h2
theorem xZ(t:Tx)(ht:GX t)(hn:nX t≤1000000000000):Spec prog 107 [xV t] [] [bS t.v t.kids] (X:=Unit) (fun _=>True) (fun _=> .int .i64 (nX t:Int)) (fun _=> []) (fun _=> []):=sF _ t (Nat.lt_succ_self _) ht hn
theorem w3(v:SV)(l:List Ty)(hl:l.length≤1000000)(hg:GYs l)(hn:cw l≤1000000000000)(ih:∀u∈l,cw u.body≤1000000000000→cw u.els≤1000000000000→(Spec prog 61 [sv u.vb] [] [bF u.vb u.body] (X:=Unit) (fun _=>True) (fun _=> .int .i64 (cw u.body:Int)) (fun _=> []) (fun _=> []))∧(Spec prog 61 [sv u.vl] [] [bF u.vl u.els] (X:=Unit) (fun _=>True) (fun _=> .int .i64 (cw u.els:Int)) (fun _=> []) (fun _=> []))):
  Spec prog 61 [sv v] [] [bF v l] (X:=Unit) (fun _=>True) (fun _=> .int .i64 (cw l:Int)) (fun _=> []) (fun _=> []):=by
 refine aI func61 J ntmps61 J fun w0 M H=>aW 0 1 J fQ (aj (ai J J (aG J (ad J J (aO (aU underlying62 J (aN (k:=1) J)) J (ai J J (ac (aS (ai J J (ac (aB ?_)))))))))))
 refine bv (X:=Nat) (fun i=>i≤l.length) (fun i=> [(0,sv v),(4,.int .i64 (i:Int)),(3,.int .i64 ((l.length:Int)-(i:Int)+(cw (l.take i):Int)))]) (fun i=> []) (fun i=> [(0,bF v l),(1,sl 5 eu (sv v) l)]) (fun i=>l.length-i) 0 (Nat.zero_le _) (by rw [show(l.length:Int)-((0:Nat):Int)+(cw (l.take 0):Int)=(l.length:Int) by simp [cw]];rfl) J J (fun i n1=> ?_);refine aS (ad J J (ad J J (aO (aU underlying62 J (aN (k:=1) J)) J (ar J J ci J (ac (ae J (fun h1=> ?_) (fun h1=> ?_)))))))
 ·(try simp only [be]at h1)
  have hi:i<l.length:=by omega
  obtain⟨st,hst⟩:∃k,l[i]?=some k:=⟨_,List.getElem?_eq_getElem hi⟩
  have hsm:=List.mem_of_getElem? hst;have hsy:=hg.mem st hsm;have hsg:=na hsy;have hle:=lQ l (i+1);rw [gG hst]at hle;have hny:=C6 st;refine aW 0 7 J (jn hsm) (aW 0 8 J (fF hsm) (aW 0 9 J (gt hsm) (aW 7 10 J eW (ax (a_ (aB (aS (ai J J (ac (aB ?_))))))))));refine bv (X:=Nat) (fun j=>j≤st.es.length) (fun j=> [(0,sv v),(4,.int .i64 (i:Int)),(3,.int .i64 ((l.length:Int)-(i:Int)+(cw (l.take i):Int)+(ey (st.es.take j):Int))),(5,.int .i64 (j:Int))]) (fun j=> []) (fun j=> [(0,bF v l),(1,sl 5 eu (sv v) l),(7,bS st.ve st.es),(8,bF st.vb st.body),(9,bF st.vl st.els),(10,sl 4 dt (sv st.ve) st.es)]) (fun j=>st.es.length-j) 0 (Nat.zero_le _) (by rw [show(l.length:Int)-(i:Int)+(cw (l.take i):Int)+(ey (st.es.take 0):Int)=(l.length:Int)-(i:Int)+(cw (l.take i):Int) by simp [ey]];rfl) J J (fun j n2=> ?_);refine aS (ad J J (ad J J (ad J J (aO (aR (j:=i) underlying62 dJ J J (aN (k:=1) J) (by first|rfl|omega) (by first|omega|(simp;done)|(simp;omega))) J (aO (dw e9 J) J (aO (ah ij J J (iT (aN (k:=1) J) (by intro _;rfl) hst J)) J (aO (aU underlying59 J (aN (k:=10) J)) J (ar J J ci J (ac (ae J (fun h2=> ?_) (fun h2=> ?_)))))))))))
  ·(try simp only [be]at h2)
   have hj:j<st.es.length:=by omega
   obtain⟨kid,hkid⟩:∃k,st.es[j]?=some k:=⟨_,List.getElem?_eq_getElem hj⟩
   have hkm:=List.mem_of_getElem? hkid;have hlx:=kw st.es (j+1);rw [ea hkid]at hlx;refine ax (a_ (aB (ap (ad J J (ad J J (ad J J (aO (aR (j:=i) underlying62 dJ J J (aN (k:=1) J) (by first|rfl|omega) (by first|omega|(simp;done)|(simp;omega))) J (aO (dw e9 J) J (aO (ah ij J J (iT (aN (k:=1) J) (by intro _;rfl) hst J)) J (ad J J (aO (aR (j:=j) underlying59 co J J (aN (k:=10) J) (by first|rfl|omega) (by first|omega|(simp;done)|(simp;omega))) J (aO (aL co J J J (bD (aN (k:=10) J) (by intro _;rfl) hkid (by rfl))) J (aW 7 12 J (cS hkm) (ak (xs:= [.tmp 32]) (xZ kid (hsg.2.mem kid hkm) (by omega)) IL [] [(false,12)] [] (fun _ _=>ar J J (bi (by first|exact bc (by omega) (by omega)|rfl)) J (ai J J (ac (ap (ad J J ?_)))))))))))))))))));refine ar J J (bi (by first|exact bc (by omega) (by omega)|rfl)) J (ai J J (ac ?_));refine aM (j+1) ⟨by omega,by omega⟩ (by rw [ea hkid,Int.natCast_add,←Int.add_assoc];rfl) J J
  ·(try simp only [be]at h2)
   have hj:j=st.es.length:=by omega
   subst hj;rw [List.take_length];refine bx ?_;refine bH [35,36,37,38,39,40,41,42,43,44,45,46,47,48,49] _ J (bk (V:= [(0,35,_),(1,36,_),(2,37,_),(3,38,_),(4,39,_),(5,40,_),(8,43,_),(9,44,_),(10,45,_),(11,46,_),(12,47,_)]) [0,1,2,3,4,5,8,9,10,11,12] 6 [6,5,4,3,2,1] [7] (fun _=> [(7,42,_)]) J J (aa (aD J (am J)) (aa (aD J (am J)) (aa (aD J (am J)) (aa (aD J (aR (j:=i) underlying62 dJ J J (aN (k:=1) J) (by first|rfl|omega) (by first|omega|(simp;done)|(simp;omega)))) (aa (aD J (dw fi J)) (aa (aD J (ah hQ J J (iT (aN (k:=1) J) (by intro _;rfl) hst J))) (aa (aD J (am J)) (aa (aD J (am J)) (aa (aD J (aR (j:=i) underlying62 dJ J J (aN (k:=1) J) (by first|rfl|omega) (by first|omega|(simp;done)|(simp;omega)))) (aa (aD J (dw ez J)) (aa (aD J (ah hQ J J (iT (aN (k:=1) J) (by intro _;rfl) hst J))) aw))))))))))) J J J J J J J J J J J (fun _ _=>J) J (bq (xs:= [.tmp 40]) (ih st hsm (by omega) (by omega)).1 KF [] [(false,8)] [] J J J J J J J J (fun _ _=>J) (fun _ _ _=>J)) (fun _ _=>bk [7,0,8,9,10,11,12] 13 [13,12,11,10,9,8,6,5,4,3,2,1] [14] (fun _=> [(14,49,_)]) J J (aa (aD J (aT J J (bi (by first|exact bc (by omega) (by omega)|rfl)))) (aa (aD J (am J)) (aa (aD J (am J)) (aa (aD J (am J)) (aa (aD J (aR (j:=i) underlying62 dJ J J (aN (k:=1) J) (by first|rfl|omega) (by first|omega|(simp;done)|(simp;omega)))) (aa (aD J (dw ez J)) (aa (aD J (ah hQ J J (iT (aN (k:=1) J) (by intro _;rfl) hst J))) aw))))))) J J J J J J J J J J J (fun _ _=>J) J (bq (xs:= [.tmp 47]) (ih st hsm (by omega) (by omega)).2 KF [] [(false,9)] [] J J J J J J J J (fun _ _=>J) (fun _ _ _=>J)) (fun _ _=>Cf [14,7,0] 15 [15,14,13,12,11,10,9,8,7,6,5,4,3,2,1,0] J J (aa (aD J (aT J J (bi (by first|exact bc (by omega) (by omega)|rfl)))) (aa (aD J (aT J J (bi (by first|exact bc (by omega) (by omega)|rfl)))) (aa (aD J (am J)) aw))) J J J J J J J J (ct J) ?_)));refine ap (ad J J (ar J J (bi (by first|exact bc (by omega) (by omega)|rfl)) J (ai J J (ac ?_))))
   refine aM (i+1) ⟨by omega,by omega⟩ (by rw [gG hst,show(l.length:Int)-((i+1:Nat):Int)+((cw (l.take i)+nY st:Nat):Int)=(l.length:Int)-(i:Int)+(cw (l.take i):Int)+(ey st.es:Int)+(cw st.body:Int)+(cw st.els:Int) by omega];rfl) J J
 ·(try simp only [be]at h1)
  have hi:i=l.length:=by omega
  subst hi;rw [List.take_length];refine bx (aj (ad J J (ai J J (ac (au ?_)))));refine aH () O J (bE (aJ J)) (by rw [show(l.length:Int)-(l.length:Int)+(cw l:Int)=(cw l:Int) by omega]) [] [] J J J
theorem nw:∀(n:Nat)(v:SV)(l:List Ty),SizeOf.sizeOf l<n→l.length≤1000000→GYs l→cw l≤1000000000000→Spec prog 61 [sv v] [] [bF v l] (X:=Unit) (fun _=>True) (fun _=> .int .i64 (cw l:Int)) (fun _=> []) (fun _=> [])
 | 0,_,_,h,_,_,_=>absurd h (Nat.not_lt_zero _)
 | n+1,v,l,h,hl,hg,hn=>w3 v l hl hg hn fun u hu q1 q2=>by
  have h1:=List.sizeOf_lt_of_mem hu;have h2:SizeOf.sizeOf u.body<SizeOf.sizeOf u∧SizeOf.sizeOf u.els<SizeOf.sizeOf u:=by
   cases u;simp only [Ty.mk.sizeOf_spec,Ty.body,Ty.els];omega
  have h3:=hg.mem u hu;exact⟨nw n u.vb u.body (by omega) (dY h3).1 (dY h3).2 q1,nw n u.vl u.els (by omega) (e_ h3).1 (e_ h3).2 q2⟩
theorem w4(v:SV)(l:List Ty)(hl:l.length≤1000000)(hg:GYs l)(hn:cw l≤1000000000000):Spec prog 61 [sv v] [] [bF v l] (X:=Unit) (fun _=>True) (fun _=> .int .i64 (cw l:Int)) (fun _=> []) (fun _=> []):=nw _ v l (Nat.lt_succ_self _) hl hg hn
def l9:List Tf→Nat
 | []=>0
 | f::r=>cw f.body+l9 r
theorem zk:∀(a b:List Tf),l9 (a++b)=l9 a+l9 b
 | [],b=>by simp [l9]
 | f::r,b=>by
  show cw f.body+l9 (r++b)=cw f.body+l9 r+l9 b;rw [zk r b];omega
theorem C_{l:List Tf}{i:Nat}{k:Tf}(h:l[i]?=some k):l9 (l.take (i+1))=l9 (l.take i)+cw k.body:=by rw [bT h,zk];rfl
theorem Da:∀{l:List Tf},(∀f∈l,GF f)→l9 l≤1000000*l.length
 | [],_=>Nat.zero_le _
 | f::r,h=>by
  have h1:=Da (l:=r) fun g hg=>h g (List.mem_cons_of_mem _ hg)
  have h2:=(h f (by simp)).2.2.2.2.2;rw [List.length_cons];show cw f.body+l9 r≤_;omega
theorem xt(vp:SV)(fs:List Tf)(hg:GP fs):
  Spec prog 17 [.agg #[sv vp]] [] [cx vp fs] (X:=Unit) (fun _=>True) (fun _=> .int .i64 (l9 fs:Int)) (fun _=> []) (fun _=> []):=by
 refine aI func17 J ntmps17 J fun w0 M H=> ?_
 have hfl:=hg.1;refine aW 0 1 J jo (aj (bU J J fun b1=>ai J J (aG J (ai J J (ac (aS (ai J J (ac (aB (bv (X:=Nat) (fun i=>i≤fs.length) (fun i=> [(1,.pointer (some ⟨b1,0,none⟩)),(3,.int .i64 (l9 (fs.take i):Int)),(4,.int .i64 (i:Int))]) (fun i=> [(1,bj b1 27 [sv vp])]) (fun i=> [(0,cx vp fs),(1,sl 3 iW (sv vp) fs)]) (fun i=>fs.length-i) 0 (Nat.zero_le _) J J J (fun i n1=>aS ?_)))))))))));refine ad J J (az de J J (aP 1 mh J J J J J (aO (aU underlying25 J (aN (k:=1) J)) J (ar J J ci J (ac (ae J (fun h1=> ?_) (fun h1=> ?_)))))))
 ·(try simp only [be]at h1)
  have hi:i<fs.length:=by omega
  obtain⟨f,hst⟩:∃k,fs[i]?=some k:=⟨_,List.getElem?_eq_getElem hi⟩
  have hfm:=List.mem_of_getElem? hst;have hgf:=hg.2 f hfm;have hbb:=Da (l:=fs.take i) fun g hg2=>hg.2 g (List.mem_of_mem_take hg2)
  rw [List.length_take]at hbb;have hgb:=hgf.2.2.2.2.2;refine ax (a_ (aB (ap (ad J J (az de J J (aP 1 mh J J J J J (ad J J (aO (aR (j:=i) underlying25 ge J J (aN (k:=1) J) (by first|rfl|omega) (by first|omega|(simp;done)|(simp;omega))) J (aO (dw iB J) J (aO (ah hQ J J (iT (aN (k:=1) J) (by intro _;rfl) hst J)) J (aW 0 7 J (ln hfm) (aW 7 8 J jp (ak (xs:= [.tmp 18]) (w4 f.vb f.body hgf.2.2.2.1 hgf.2.2.2.2.1 (by have:=hgf.2.2.2.2.2;omega)) KF [] [(false,8)] [] (fun _ _=>ar J J (bi (by first|exact bc (by omega) (by omega)|rfl)) J (ai J J (ac (ap (ad J J (ar J J (bi (by first|exact bc (by omega) (by omega)|rfl)) J ?_)))))))))))))))))));refine ai J J (ac ?_);refine aM (i+1) ⟨by omega,by omega⟩ (by rw [C_ hst,Int.natCast_add];rfl) J J
 ·(try simp only [be]at h1)
  have hi:i=fs.length:=by omega
  subst hi;rw [List.take_length];refine bx (aj (ad J J (ai J J (ac (au (aH () O J (bE (aJ J)) J [] [] J J J))))))
theorem nz(va vb:SV)(a b:List Int)(ha:a.length≤1000000000):
  Spec prog 44 [sv va,sv vb] [] [sl 1 eU (sv va) a,sl 1 eU (sv vb) b] (X:=Unit) (fun _=>True) (fun _=> .bool (decide (a=b))) (fun _=> []) (fun _=> []):=by
 refine aI func44 J ntmps44 J fun w0 M H=>aj (ai J J (ac (aS (ad J J (aO (aU underlying48 J (aN (k:=0) J)) J (ad J J (aO (aU underlying48 J (aN (k:=1) J)) J (ar J J df J (ac (ae J (fun h1=> ?_) (fun h1=> ?_)))))))))))
 ·(try simp only [be]at h1)
  have hne:¬a=b:=fun h=>by subst h;exact absurd J h1
  rw [decide_eq_false hne];refine aj (ai J J (ac (au (aH () O J (bE (aJ J)) J [] [] J J J))))
 ·(try simp only [be]at h1)
  have hle:a.length=b.length:=by omega
  refine ax (aS (ai J J (ac (aB (bv (X:=Nat) (fun i=>i≤a.length∧a.take i=b.take i) (fun i=> [(0,sv va),(1,sv vb),(5,.int .i64 (i:Int))]) (fun i=> []) (fun i=> [(0,sl 1 eU (sv va) a),(1,sl 1 eU (sv vb) b)]) (fun i=>a.length-i) 0 ⟨Nat.zero_le _,J⟩ J J J (fun i n1=>aS (ad J J (ad J J (aO (aU underlying48 J (aN (k:=0) J)) J (ar J J ci J (ac (ae J (fun h2=> ?_) (fun h2=> ?_)))))))))))))
  ·(try simp only [be]at h2)
   have hi:i<a.length:=by omega
   obtain⟨x,hx⟩:∃x,a[i]?=some x:=⟨_,List.getElem?_eq_getElem hi⟩
   obtain⟨y,hy⟩:∃y,b[i]?=some y:=⟨_,List.getElem?_eq_getElem (by omega)⟩
   refine ax (a_ (aB (a_ (bH [17,18,19,20,21,22,23,24,25] _ J (bp (V:= [(0,17,_),(1,18,_),(2,19,_),(3,20,_),(4,21,_),(5,22,_),(6,23,_),(7,24,_),(8,25,_)]) [0,1,2,3,4,5,6,7,8] J J (aa (aD J (am J)) (aa (aD J (am J)) (aa (aD J (aR (j:=i) underlying48 cB J J (aN (k:=0) J) (by first|rfl|omega) (by first|omega|(simp;done)|(simp;omega)))) (aa (aD J (ah cB J J (bD (aN (k:=0) J) (by intro _;rfl) hx (by rfl)))) (aa (aD J (am J)) (aa (aD J (am J)) (aa (aD J (aR (j:=i) underlying48 cB J J (aN (k:=1) J) (by first|rfl|omega) (by first|omega|(simp;done)|(simp;omega)))) (aa (aD J (ah cB J J (bD (aN (k:=1) J) (by intro _;rfl) hy (by rfl)))) (aa (aD J (aT J J df)) aw))))))))) J J J (ae J (fun h3=> ?_) (fun h3=> ?_)))))))
   ·(try simp only [be]at h3)
    have hne:¬a=b:=fun h=>by subst h;rw [hx]at hy;exact absurd (Option.some.inj hy) h3
    rw [decide_eq_false hne];refine aj (ai J J (ac (au (aH () O J (bE (aJ J)) J [] [] J J J))))
   ·(try simp only [be]at h3)
    have hxy:x=y:=by omega
    refine ax (ap (ad J J (ar J J (bi (by first|exact bc (by omega) (by omega)|rfl)) J (ai J J (ac ?_)))));refine aM (i+1) ⟨⟨by omega,by rw [bT hx,bT hy,n1.2,hxy]⟩,by omega⟩ J J J
  ·(try simp only [be]at h2)
   have hi:i=a.length:=by omega
   subst hi;have hab:a=b:=by
    have h:=n1.2
    rwa [List.take_length,hle,List.take_length]at h
   rw [decide_eq_true hab];refine bx (aj (ai J J (ac (au (aH () O J (bE (aJ J)) J [] [] J J J)))))
def ni(l:List Qi):Bool:=l.all fun q=>oj q&&(decide (0≤q.imm)&&decide (q.imm<4294967296))
theorem cy{a b:List Qi}(h1:ni a=true)(h2:ni b=true):ni (a++b)=true:=by
 unfold ni at*;rw [List.all_append,h1,h2];rfl
theorem iz:ni []=true:=rfl
theorem tN{q:Qi}(h:oj q=true)(hi:0≤q.imm∧q.imm<4294967296):ni [q]=true:=by
 show((oj q&&_)&&true)=true;rw [h,decide_eq_true hi.1,decide_eq_true hi.2];rfl
theorem J9{l:List Qi}(h:ni l=true):∀i∈l,oj i=true∧0≤i.imm∧i.imm<4294967296:=fun i hi=>by
 have:=List.all_eq_true.1 h i hi;simp only [Bool.and_eq_true,decide_eq_true_eq]at this;exact this
theorem xW{n:Int}(h:0≤n∧n<16):fk n true=true:=by
 unfold fk;simp only [Bool.or_eq_true,decide_eq_true_eq,Bool.and_eq_true,Bool.true_and];omega
theorem K0{op d a n:Int}(ho:cG op=⟨true,true,true,false,1,18,0⟩)(hd:0≤d∧d<16)(ha:0≤a∧a<16)(hn:oW n)(hf:gV n=true):ni [qi op d a n]=true:=by
 refine tN ?_ hn;unfold oj;show((cG op).k&&fk d (cG op).d&&fk a (cG op).a&&fk 0 (cG op).b&&jz (cG op) n)=true;rw [ho];show(true&&fk d true&&fk a true&&fk 0 false&&decide (wC 18 n=n))=true;rw [xW hd,xW ha,Co hn,hf];rfl
theorem LR{n:Int}(hn:oW n)(h:n<2097152∨4294967296-2097152≤n):wC 22 n=n:=by
 have h1:=hn.1;have h2:=hn.2;unfold wC wU;rw [show((32:Int)-22).toNat=10 from J];simp only [IntKind.wrap_u32,IntKind.wrap_i32];omega
theorem LC{d n:Int}(hd:0≤d∧d<16)(hn:oW n)(h:n<2097152∨4294967296-2097152≤n):ni [qi 40 d 0 n]=true:=by
 refine tN ?_ hn;unfold oj;have ho:cG 40=⟨true,true,false,false,1,22,0⟩:=by kernel_rfl
 show((cG 40).k&&fk d (cG 40).d&&fk 0 (cG 40).a&&fk 0 (cG 40).b&&jz (cG 40) n)=true;rw [ho];show(true&&fk d true&&fk 0 false&&fk 0 false&&decide (wC 22 n=n))=true;rw [xW hd,LR hn h,decide_eq_true J];rfl
theorem uv{x:Int}(h: -131072≤x∧x<131072):oW (wU x)∧gV (wU x)=true∧(wU x<2097152∨4294967296-2097152≤wU x):=by
 have e:wU x=x%4294967296:=J;unfold gV;rw [e];simp only [Bool.or_eq_true,decide_eq_true_eq];refine⟨⟨?_,?_⟩,?_,?_⟩<;>omega
theorem Mq:cG 16=⟨true,true,true,false,1,18,0⟩:=by kernel_rfl
theorem Pi:cG 23=⟨true,true,true,false,1,18,0⟩:=by kernel_rfl
theorem Ph:cG 25=⟨true,true,true,false,1,18,0⟩:=by kernel_rfl
theorem Mp:cG 32=⟨true,true,true,false,1,18,0⟩:=by kernel_rfl
theorem DG{c:Prop} [Decidable c]{a b:List Qi}(h1:ni a=true)(h2:ni b=true):ni (if c then a else b)=true:=by split;exact h1;exact h2
theorem MC:ni [⟨48,0,0,0,2⟩]=true:=by kernel_rfl
theorem IS(o:ByteArray):ni (AA o)=true:=by
 unfold AA
 repeat (refine DG (by kernel_rfl) ?_)
 exact iz
theorem IR(o:ByteArray):ni (BI o)=true:=by
 unfold BI
 repeat (refine DG (by kernel_rfl) ?_)
 exact iz
theorem EZ{n:Int}(hn:oW n):ni (oi n)=true:=by
 unfold oi;split
 ·rename_i h;exact K0 Mq (by decide) (by decide) hn h
 ·have h1:=hn.1;have h2:=hn.2;refine cy (a:= [qi 41 1 0 (n/1024)]) (b:= [qi 18 1 1 (n%1024)]) (tN ?_ ⟨by show 0≤n/1024;omega,by show n/1024<4294967296;omega⟩) (tN ?_ ⟨by show 0≤n%1024;omega,by show n%1024<4294967296;omega⟩)
  ·have ho:cG 41=⟨true,true,false,false,2,22,0⟩:=by kernel_rfl
   unfold oj;show((cG 41).k&&fk 1 (cG 41).d&&fk 0 (cG 41).a&&fk 0 (cG 41).b&&jz (cG 41) (n/1024))=true;rw [ho];show(true&&true&&true&&true&&decide (n/1024/4194304=0))=true;rw [decide_eq_true (by omega)];rfl
  ·have ho:cG 18=⟨true,true,true,false,2,18,0⟩:=by kernel_rfl
   unfold oj;show((cG 18).k&&fk 1 (cG 18).d&&fk 1 (cG 18).a&&fk 0 (cG 18).b&&jz (cG 18) (n%1024))=true;rw [ho];show(true&&true&&true&&true&&decide (n%1024/262144=0))=true;rw [decide_eq_true (by omega)];rfl
structure ZH(o:Om)(S:ByteArray→Int):Prop where
 o:∀x,oW (bC o x)∧gV (bC o x)=true
 S:∀x,0≤S x∧S x≤2000
theorem B0:∀l:List Tx,2*l.length≤qV l
 | []=>Nat.le_refl _
 | t::r=>by
  have:=B0 r;unfold qV;rw [List.length_cons];omega
theorem CO:ni (eK 1)=true:=by kernel_rfl
theorem L6:ni (j7 2)=true:=by kernel_rfl
mutual
theorem Hp{o:Om}{S:ByteArray→Int}(h:ZH o S):∀(t:Tx)(p:Nat),GX t→p+wX t≤2000→ni (zX o S t p)=true
 | .mk k n nm _ kids,p,hg,hp=>by
  obtain⟨g1,-,-,g4⟩:=hg;have h0:=fun q=>wJ h kids q g4
  have h1:=fun q=>BQ h kids q g4
  have hs:=fun q=>BP h kids q g4
  have l0:=ma o S kids p;have ls:=ow o S kids p;have lk:=B0 kids;unfold wX at hp;unfold zX;split
  ·exact EZ g1
  rename_i k1;rw [if_neg k1]at hp;split
  ·exact K0 Pi (by decide) (by decide) (h.o nm).1 (h.o nm).2
  rename_i k2;rw [if_neg k2]at hp;split
  ·exact MC
  rename_i k5;rw [if_neg k5]at hp;split
  ·rename_i k4;rw [if_pos k4]at hp;exact cy (h0 p (by omega)) (by kernel_rfl)
  rename_i k4;rw [if_neg k4]at hp;split
  ·rename_i k6;rw [if_pos k6]at hp;exact cy (h0 p (by omega)) (IR nm)
  rename_i k6;rw [if_neg k6]at hp;split
  ·rename_i k7;rw [if_pos k7]at hp;exact cy (h0 p (by omega)) (cy CO (cy (h1 _ (by omega)) (cy L6 (IS nm))))
  rename_i k7;rw [if_neg k7]at hp;split
  ·rename_i k3;rw [if_pos k3]at hp;have hS:=h.S nm;have hw:=uv (x:=S nm-((p+(wI o S kids p).length:Nat):Int)) ⟨by omega,by omega⟩;refine cy (hs p (by omega)) (cy (LC (by decide) hw.1 hw.2.2) ?_);split
   ·refine K0 Mq (by decide) (by decide) ⟨by omega,by omega⟩ ?_;unfold gV;rw [decide_eq_true (show 4*(kids.length:Int)<131072 by omega)];rfl
   ·exact iz
  ·exact iz
theorem wJ{o:Om}{S:ByteArray→Int}(h:ZH o S):∀(l:List Tx)(p:Nat),GXs l→p+iL l≤2000→ni (wz o S l p)=true
 | [],p,_,_=>iz
 | t::_,p,hg,hp=>Hp h t p hg.1 hp
theorem BQ{o:Om}{S:ByteArray→Int}(h:ZH o S):∀(l:List Tx)(p:Nat),GXs l→p+Lx l≤2000→ni (Ll o S l p)=true
 | [],p,_,_=>iz
 | _::r,p,hg,hp=>wJ h r p hg.2 hp
theorem BP{o:Om}{S:ByteArray→Int}(h:ZH o S):∀(l:List Tx)(p:Nat),GXs l→p+qV l≤2000→ni (wI o S l p)=true
 | [],p,_,_=>iz
 | t::r,p,hg,hp=>by
  have lt:=fO o S t p;unfold qV at hp;unfold wI;exact cy (Hp h t p hg.1 (by omega)) (cy CO (BP h r _ hg.2 (by omega)))
end
mutual
theorem Lk{o:Om}{S:ByteArray→Int}(h:ZH o S){E:Int}(hE:0≤E∧E≤2000):∀(t:Ty)(p:Nat),GY t→p+wY t≤2000→ni (zY o S E t p)=true
 | .mk k nm _ es _ body _ els,p,hg,hp=>by
  obtain⟨-,⟨-,g2⟩,⟨-,g3⟩,-,g4⟩:=hg;have h0:=fun q=>wJ h es q g2
  have h1:=fun q=>BQ h es q g2
  have hb:=fun q=>sV h hE body q g3
  have he:=fun q=>sV h hE els q g4
  have lb:=fun q=>eC o S E body q
  have le:=fun q=>eC o S E els q
  unfold wY at hp;unfold zY;split
  ·rename_i k1;rw [if_pos k1]at hp;exact cy (h0 p (by omega)) (K0 Ph (by decide) (by decide) (h.o nm).1 (h.o nm).2)
  rename_i k1;rw [if_neg k1]at hp;split
  ·rename_i k3;rw [if_pos k3]at hp;exact cy (h0 p (by omega)) (cy CO (cy (h1 _ (by omega)) (cy L6 (by kernel_rfl))))
  rename_i k3;rw [if_neg k3]at hp;split
  ·rename_i k7;rw [if_pos k7]at hp;exact cy (h0 p (by omega)) (by kernel_rfl)
  rename_i k7;rw [if_neg k7]at hp;split
  ·rename_i k6;rw [if_pos k6]at hp;have hw:=uv (x:=E-((p+iL es:Nat):Int)) ⟨by omega,by omega⟩;exact cy (h0 p (by omega)) (LC (by decide) hw.1 hw.2.2)
  rename_i k6;rw [if_neg k6]at hp;split
  ·rename_i k4;rw [if_pos k4]at hp;have e1:(if els.length>0 then 1 else 0)≤1:=by split<;>omega
   have e2:(if els.length>0 then 2 else 1)=(if els.length>0 then 1 else 0)+1:=by split<;>rfl
   rw [e2]at hp;generalize hq:(if els.length>0 then 1 else 0)=q at*;have hw:=uv (x:=(((jX o S E body (p+iL es+1)).length+q+1:Nat):Int)) ⟨by omega,by rw [lb];omega⟩;refine cy (h0 p (by omega)) (cy (K0 Mp (by decide) (by decide) hw.1 hw.2.1) (cy (hb _ (by omega)) (cy ?_ (he _ (by rw [lb];omega)))));split
   ·have hw2:=uv (x:=(((jX o S E els (p+iL es+1+(jX o S E body (p+iL es+1)).length+q)).length+1:Nat):Int)) ⟨by omega,by rw [le];omega⟩;exact LC (by decide) hw2.1 hw2.2.2
   ·exact iz
  rename_i k4;rw [if_neg k4]at hp;split
  ·rename_i k5;rw [if_pos k5]at hp;have hw:=uv (x:=(((jX o S E body (p+iL es+1)).length+2:Nat):Int)) ⟨by omega,by rw [lb];omega⟩;have hw2:=uv (x:= -(((jX o S E body (p+iL es+1)).length+iL es+1:Nat):Int)) ⟨by rw [lb];omega,by omega⟩;exact cy (h0 p (by omega)) (cy (K0 Mp (by decide) (by decide) hw.1 hw.2.1) (cy (hb _ (by omega)) (LC (by decide) hw2.1 hw2.2.2)))
  ·rename_i k5;rw [if_neg k5]at hp;exact h0 p (by omega)
theorem sV{o:Om}{S:ByteArray→Int}(h:ZH o S){E:Int}(hE:0≤E∧E≤2000):∀(l:List Ty)(p:Nat),GYs l→p+eL l≤2000→ni (jX o S E l p)=true
 | [],p,_,_=>iz
 | t::r,p,hg,hp=>by
  have lt:=wH o S E t p;unfold eL at hp;unfold jX;exact cy (Lk h hE t p hg.1 (by omega)) (sV h hE r _ hg.2 (by omega))
end
theorem rU:∀n,ni (ie n)=true
 | 0=>iz
 | n+1=>cy (a:=eK 0) (by kernel_rfl) (rU n)
def okV(o:Om):Prop:=∀x,oW (bC o x)∧gV (bC o x)=true
theorem okV.put{o:Om}(h:okV o)(x:ByteArray){n:Int}(hn:oW n∧gV n=true):okV (d8 o x n):=fun y=>by
 rw [f_];split
 ·exact hn
 ·exact h y
theorem okV.gP{n:Int}(hn:n≤1000):∀(l:List ByteArray)(k:Int)(o:Om),okV o→0≤k→k+l.length≤n→okV (gP n k l o)
 | [],k,o,h,_,_=>h
 | p::r,k,o,h,hk,hl=>by
  rw [List.length_cons]at hl;refine okV.gP hn r (k+1) _ (h.put p ⟨⟨by omega,by omega⟩,?_⟩) (by omega) (by omega);unfold gV;rw [decide_eq_true (show 8+4*(n-1-k)<131072 by omega)];rfl
mutual
theorem okV.gD:∀(t:Ty)(p:Om×Int),okV p.1→0≤p.2→p.2+(vY t:Int)≤1000→okV (gD t p).1
 | .mk k nm ve es vb body vl els,p,h,h0,hl=>by
  rw [show vY (.mk k nm ve es vb body vl els)=(if k=1 then 1 else 0)+cL body+cL els from J]at hl;rw [xP];by_cases hk:k=1
  ·rw [if_pos hk]at hl ⊢;have hw:=uv (x:= -(4*(p.2+1))) ⟨by omega,by omega⟩;refine okV.gDs els _ (okV.gDs body _ (h.put nm ⟨hw.1,hw.2.1⟩) (by show 0≤p.2+1;omega) (by show p.2+1+_≤1000;omega)) ?_ ?_
   ·rw [mT];show 0≤p.2+1+_;omega
   ·rw [mT];show p.2+1+_+_≤1000;omega
  ·rw [if_neg hk]at hl ⊢;refine okV.gDs els _ (okV.gDs body _ h h0 (by omega)) ?_ ?_
   ·rw [mT];omega
   ·rw [mT];omega
theorem okV.gDs:∀(l:List Ty)(p:Om×Int),okV p.1→0≤p.2→p.2+(cL l:Int)≤1000→okV (gDs l p).1
 | [],p,h,_,_=>h
 | t::r,p,h,h0,hl=>by
  rw [show cL (t::r)=vY t+cL r from J]at hl;refine okV.gDs r _ (okV.gD t p h h0 (by omega)) ?_ ?_
  ·rw [Ke];omega
  ·rw [Ke];omega
end
theorem P1:gV 0=true:=by decide
theorem Lm{S:ByteArray→Int}(hS:∀x,0≤S x∧S x≤2000){f:Tf}(hg:GF f)(hn:f.ps.length+cL f.body≤12){p:Nat}(hp:p+wF f≤2000):ni (zF S f p)=true:=by
 unfold wF at hp;have ho:okV (cT f).1:=okV.gDs f.body _ (okV.gP (by omega) f.ps 0 [] (fun _=>⟨pZ,P1⟩) (Int.le_refl _) (by omega)) (Int.le_refl _) (by show(0:Int)+_≤1000;omega);have hb:=sV (o:=(cT f).1) ⟨ho,hS⟩ (E:=((p+10+2*(cT f).2.toNat+eL f.body:Nat):Int)) ⟨by omega,by omega⟩ f.body (p+9+2*(cT f).2.toNat) hg.2.2.2.2.1 (by omega);unfold zF;exact cy (by kernel_rfl) (cy (by kernel_rfl) (cy (by kernel_rfl) (cy (by kernel_rfl) (cy (rU _) (cy hb (by kernel_rfl))))))
theorem BS{S:ByteArray→Int}(hS:∀x,0≤S x∧S x≤2000):∀(l:List Tf)(p:Nat),(∀f∈l,GF f∧f.ps.length+cL f.body≤12)→p+wP l≤2000→ni (BU S l p)=true
 | [],p,_,_=>iz
 | f::r,p,h,hp=>by
  unfold wP at hp;unfold BU;exact cy (Lm hS (h f (by simp)).1 (h f (by simp)).2 (by omega)) (BS hS r _ (fun g hg=>h g (List.mem_cons_of_mem _ hg)) (by omega))
theorem yA:∀(l:List Tf)(p:Nat)(x:ByteArray),0≤gB l p x∧gB l p x≤3+p+wP l
 | [],p,x=>by unfold gB;omega
 | f::r,p,x=>by
  have:=yA r (p+wF f) x;unfold gB wP;split
  ·omega
  ·omega
theorem E0{fs:List Tf}(hg:GP fs)(h:∀f∈fs,f.ps.length+cL f.body≤12)(hl:(iK fs).length≤1984):ni (iK fs)=true:=by
 have hlen:(iK fs).length=3+wP fs:=by
  unfold iK;rw [List.length_append,ox];rfl
 have hS:∀x,0≤gB fs 3 x∧gB fs 3 x≤2000:=fun x=>by have:=yA fs 3 x;omega
 have hm:=hS cN;have hw:=uv (x:=gB fs 3 cN-1) ⟨by omega,by omega⟩;unfold iK;refine cy ?_ (BS hS fs 3 (fun f hf=>⟨hg.2 f hf,h f hf⟩) (by omega));exact cy (a:= [qi 16 14 0 16384]) (by kernel_rfl) (cy (a:= [qi 40 15 0 (wU (gB fs 3 cN-1))]) (LC (by decide) hw.1 hw.2.2) (by kernel_rfl))
def RG(g:Nat):Prop:=
 (∀fs d vs t s e,eo g fs d vs t s=some (.err e)→e=25∨e=26)∧(∀fs d vs acc l s e,fY g fs d vs acc l s=some (.err e)→e=25∨e=26)∧
 (∀fs d f al s e,jR g fs d f al s=some (.err e)→e=25∨e=26)∧(∀fs d vs l s e,fI g fs d vs l s=some (.err e)→e=25∨e=26)∧
 (∀fs d vs t s e,gK g fs d vs t s=some (.err e)→e=25∨e=26)∧(∀fs d vs t l v s e,i9 g fs d vs t l v s=some (.err e)→e=25∨e=26)
theorem x6:∀g,RG g
 | 0=>⟨fun _ _ _ _ _ _ h=>(by rw [eo]at h;cases h),fun _ _ _ _ _ _ _ h=>(by rw [fY]at h;cases h),fun _ _ _ _ _ _ h=>(by rw [jR]at h;cases h),fun _ _ _ _ _ _ h=>(by rw [fI]at h;cases h),fun _ _ _ _ _ _ h=>(by rw [gK]at h;cases h),fun _ _ _ _ _ _ _ _ h=>(by rw [i9]at h;cases h)⟩
 | g+1=>by
  obtain⟨hX,hK,hC,hB,hS,hW⟩:=x6 g;refine⟨fun fs d vs t s e h=> ?_,fun fs d vs acc l s e h=> ?_,fun fs d f al s e h=> ?_,fun fs d vs l s e h=> ?_,fun fs d vs t s e h=> ?_,fun fs d vs t l v s e h=> ?_⟩
  ·rw [eo]at h;split at h
   ·injection h with h;injection h with h;exact .inl h.symm
   split at h
   ·cases h
   ·rename_i q;injection h with h;injection h with h;subst h;exact hK _ _ _ _ _ _ _ q
   ·repeat' split at h
    all_goals first|(cases h;done)|exact hC _ _ _ _ _ _ h
  ·cases l with
   | nil=>rw [fY]at h;cases h
   | cons t r=>
    rw [fY]at h;split at h
    ·cases h
    ·rename_i q;injection h with h;injection h with h;subst h;exact hX _ _ _ _ _ _ q
    ·exact hK _ _ _ _ _ _ _ h
  ·rw [jR]at h;split at h
   ·injection h with h;injection h with h;exact .inr h.symm
   split at h
   ·cases h
   ·rename_i q;injection h with h;injection h with h;subst h;exact hB _ _ _ _ _ _ q
   ·cases h
  ·cases l with
   | nil=>rw [fI]at h;cases h
   | cons t r=>
    rw [fI]at h;split at h
    ·cases h
    ·rename_i q;injection h with h;injection h with h;subst h;exact hS _ _ _ _ _ _ q
    ·cases h
    ·exact hB _ _ _ _ _ _ h
  ·rw [gK]at h;split at h
   ·injection h with h;injection h with h;exact .inl h.symm
   split at h
   ·cases h
   split at h
   ·cases h
   ·rename_i q;injection h with h;injection h with h;subst h;exact hX _ _ _ _ _ _ q
   split at h
   ·cases h
   split at h
   ·split at h
    ·cases h
    split at h
    ·cases h
    ·rename_i q;injection h with h;injection h with h;subst h;exact hX _ _ _ _ _ _ q
    ·cases h
   split at h
   ·exact hB _ _ _ _ _ _ h
   split at h
   ·exact hW _ _ _ _ _ _ _ _ h
   split at h
   ·cases h
   split at h<;>cases h
  ·rw [i9]at h;split at h
   ·cases h
   split at h
   ·cases h
   ·rename_i q;injection h with h;injection h with h;subst h;exact hB _ _ _ _ _ _ q
   ·cases h
   ·split at h
    ·cases h
    ·rename_i q;injection h with h;injection h with h;subst h;exact hX _ _ _ _ _ _ q
    ·exact hW _ _ _ _ _ _ _ _ h
theorem FI{fs:List Tf}{ins:List Int}{fuel:Int}{ru:Ru}(h:RunIs fs ins fuel ru)(hc:fT fs=0):ru.err=0∨ru.err=25∨ru.err=26:=by
 cases h with
 | bad h=>exact absurd hc h
 | run f g r h hf he=>
  cases r with
  | ok v s=>exact .inl rfl
  | err e=>exact .inr ((x6 g).2.2.1 _ _ _ _ _ _ he)
theorem Dm{c:Prop} [Decidable c]{a b:List Qi}{n:Nat}(h1:a.length≤n)(h2:b.length≤n):(if c then a else b).length≤n:=by split;exact h1;exact h2
mutual
theorem B2:∀t:Tx,wX t+2≤11*nX t
 | .mk k n nm _ kids=>by
  have h0:=wM kids;have h1:=yF kids;have hs:=B1 kids;have hu:(BI nm).length≤2:=by
   unfold BI
   repeat (refine Dm (by decide) ?_)
   exact Nat.zero_le _
  have ho:(AA nm).length≤5:=by
   unfold AA
   repeat (refine Dm (by decide) ?_)
   exact Nat.zero_le _
  have hn:(oi n).length≤2:=by
   unfold oi;split
   ·exact Nat.le_succ 1
   ·exact Nat.le_refl 2
  show wX (.mk k n nm _ kids)+2≤11*(ey kids+1);unfold wX;split
  ·omega
  split
  ·omega
  split
  ·omega
  split
  ·omega
  split
  ·omega
  split
  ·omega
  split
  ·split<;>omega
  ·omega
theorem wM:∀l:List Tx,iL l≤11*ey l
 | []=>Nat.zero_le _
 | t::r=>by
  have:=B2 t;show wX t≤11*(nX t+ey r);omega
theorem yF:∀l:List Tx,iL l+Lx l≤11*ey l
 | []=>Nat.zero_le _
 | t::r=>by
  have:=B2 t;have:=wM r;show wX t+iL r≤11*(nX t+ey r);omega
theorem B1:∀l:List Tx,qV l≤11*ey l
 | []=>Nat.zero_le _
 | t::r=>by
  have:=B2 t;have:=B1 r;show wX t+(2+qV r)≤11*(nX t+ey r);omega
end
mutual
theorem Lw:∀t:Ty,wY t+2*vY t≤11*nY t
 | .mk k nm ve es vb body vl els=>by
  have h0:=wM es;have h1:=yF es;have hb:=sZ body;have he:=sZ els;show wY (.mk k nm ve es vb body vl els)+2*((if k=1 then 1 else 0)+cL body+cL els)≤11*(1+ey es+cw body+cw els);have hk:(if k=1 then 1 else 0)≤1:=by split<;>omega
  have hk2:(if els.length>0 then 2 else 1)≤2:=by split<;>omega
  unfold wY;split
  ·omega
  split
  ·omega
  split
  ·omega
  split
  ·omega
  split
  ·omega
  split
  ·omega
  ·omega
theorem sZ:∀l:List Ty,eL l+2*cL l≤11*cw l
 | []=>Nat.le_refl _
 | t::r=>by
  have:=Lw t;have:=sZ r;show wY t+eL r+2*(vY t+cL r)≤11*(nY t+cw r);omega
end
theorem B5:∀l:List Tf,wP l≤17*l.length+11*l9 l
 | []=>Nat.le_refl _
 | f::r=>by
  have h1:=B5 r;have h2:=sZ f.body;have h3:(cT f).2=(cL f.body:Int):=by show(gDs f.body (gP f.ps.length 0 f.ps [],0)).2=_;rw [mT];omega
  rw [List.length_cons];show wF f+wP r≤17*(r.length+1)+11*(cw f.body+l9 r);unfold wF;omega
theorem ur(fs:List Tf):(iK fs).length=3+wP fs:=by
 unfold iK;rw [List.length_append,ox];rfl
theorem yj{fs:List Tf}{f:Tf}(h:Fine fs f)(hn:l9 fs≤120):(iK fs).length≤1984:=by
 have h1:=B5 fs;have h2:=h.len;rw [ur];omega
theorem G9(d:Nat)(xs ys:Array Value)(w:World):(Op.eqFields d xs ys []).run prog w= .ok true w:=rfl
theorem vX{d:Nat}{xs ys:Array Value}{f:Field}{fs:List Field}{a b:Value}{r q:Bool}{w:World}(hn:f.name≠ "_")(h1:(part f.type xs f.offset).run prog w= .ok a w)(h2:(part f.type ys f.offset).run prog w= .ok b w)
  (h3:(Op.equalIn d f.type a b).run prog w= .ok r w) (h4:(Op.eqFields d xs ys fs).run prog w= .ok q w):(Op.eqFields d xs ys (f::fs)).run prog w= .ok (r&&q) w:=by
 unfold Op.eqFields;rw [if_pos hn];simp only [Sem.run_bind,h1,h2,h3,Result.andThen_ok];cases r
 ·rfl
 ·exact h4
theorem P2{a b c d:Int}(w:World):(Op.equalIn 10000 53 (.agg #[.int .i64 a,.int .u32 b]) (.agg #[.int .i64 c,.int .u32 d])).run prog w= .ok (decide (a=c)&&decide (b=d)) w:=by
 obtain⟨f0,f1,hu,n0,o0,q0,n1,o1,q1⟩:∃f0 f1:Field,prog.underlying 53=some (.struct #[f0,f1])∧f0.name≠ "_"∧f0.offset=0∧f0.type=3∧f1.name≠ "_"∧f1.offset=1∧f1.type=41:=⟨_,_,underlying53,by decide,rfl,rfl,by decide,rfl,rfl⟩
 have hf:prog.fieldsOf 53= #[f0,f1]:=by unfold Program.fieldsOf;rw [hu]
 have hs:prog.stoodInHeld 53=false:=by kernel_rfl
 rw [show(10000:Nat)=9999+1 from J,run_equalIn_struct w 9999 53 _ _ (by rw [hf];exact hu) hs,hf];have:=vX (d:=9999) (xs:= #[.int .i64 a,.int .u32 b]) (ys:= #[.int .i64 c,.int .u32 d]) (f:=f0) (fs:= [f1]) (w:=w) n0 (by rw [o0,q0];exact jb t3 J J w) (by rw [o0,q0];exact jb t3 J J w) (by rw [q0];exact run_equalIn_int w 9998 3 .i64 .i64 a c underlying3)
  (vX n1 (by rw [o1,q1];exact jb cB rfl rfl w) (by rw [o1,q1];exact jb cB rfl rfl w) (by rw [q1];exact run_equalIn_int w 9998 41 .u32 .u32 b d underlying41) (G9 _ _ _ w))
 rw [Bool.and_true]at this;exact this
theorem EM{a b c d:Int}:dI prog .eql 53 (.agg #[.int .i64 a,.int .u32 b]) (.agg #[.int .i64 c,.int .u32 d]) (.bool (decide (a=c)&&decide (b=d))):=fun x y w=>by
 have hq:prog.eqGuardType prog.depth 53=false:=by kernel_rfl
 simp only [Sem.run_bind,run_eqGuard_agg w .eql 53 x y _ _ hq,Result.andThen_ok,run_eql_struct];rw [P2];rfl
theorem ql:∀{fs:List Tf}{i:Nat}{f:Tf}(p:Om×Qg),fs[i]?=some f→nj (fs.take (i+1)) p=(d8 (nj (fs.take i) p).1 f.name (nj (fs.take i) p).2.labs.length,(nj (fs.take i) p).2.lab)
 | [],i,f,p,h=>by simp at h
 | x::r,0,f,p,h=>by cases h;rfl
 | x::r,i+1,f,p,h=>ql (fs:=r) _ h
theorem vK{st:Om}:∀{fs:List Tf}{i:Nat}{f:Tf}(s:Qg),fs[i]?=some f→qs st (fs.take (i+1)) s=gF st f (qs st (fs.take i) s)
 | [],i,f,p,h=>by simp at h
 | x::r,0,f,p,h=>by cases h;rfl
 | x::r,i+1,f,p,h=>vK (fs:=r) _ h
theorem zB(st:Om):∀(l:List Tf)(s:Qg),s.labs.length≤(qs st l s).labs.length
 | [],s=>Nat.le_refl _
 | f::r,s=>Nat.le_trans (DT st f s) (zB st r _)
theorem xO(st:Om):∀(l:List Tf)(s:Qg),(∀f∈l,cw f.body≤400)→(qs st l s).sz≤s.sz+l.length*9660
 | [],s,_=>by simp [qs]
 | f::r,s,h=>by
  have h1:=MH st f s;have h2:=xO st r (gF st f s) fun g hg=>h g (by simp [hg])
  have h3:=h f (by simp);rw [List.length_cons];show(qs st r (gF st f s)).sz≤_;omega
def By(fs:List Tf):Int×ByteArray×Int:=if fT fs≠0 then(0,oNil,fT fs)else if(fv fs).length*4>7936 then(0,oNil,30)else(2,jZ (dy (fv fs)),0)
theorem C3{fs:List Tf}{f:Tf}(h:jI fs f=0):cw f.body≤400:=by
 obtain⟨h1,h2⟩:=bw.1 h;have hb:¬(f.ps.length>4∨f.ps.length+cL f.body>12∨cw f.body>400∨da 1 f.body=true):=fun hb=>by
  rw [if_pos hb]at h1;exact absurd h1 (by decide)
 simp only [not_or]at hb;omega
theorem Il{fs:List Tf}(h:fT fs=0):∀f∈fs,lu f.body=true:=by
 unfold fT at h;split at h
 ·cases h
 ·rename_i h1;have h1:rP fs=true:=by simpa using h1
  intro f hf;have:=List.all_eq_true.1 h1 f hf;unfold rF at this;simp only [Bool.and_eq_true]at this;exact this.2
theorem GC(fs:List Tf):(xQ fs).code≠ []:=by
 have h1:∀(st:Om)(l:List Tf)(s:Qg),s.code≠ []→(qs st l s).code≠ []:=by
  intro st l
  induction l with
  | nil=>intro s h;exact h
  | cons f r ih=>
   intro s h;refine ih _ ?_;show(_++ [qi 27 0 15 0])≠ [];simp
 exact h1 _ _ _ (by simp [Qg.emit,Qg.jump])
theorem uf(vp:SV)(fs:List Tf)(hg:GP fs):
  Spec prog 15 [.agg #[sv vp]] [] [cx vp fs] (X:=Unit) (fun _=>True) (fun _=> .tuple #[.agg #[.int .i64 (By fs).1,.string (By fs).2.1],.int .i64 (By fs).2.2]) (fun _=> []) (fun _=> []):=by
 refine aI func15 J ntmps15 J fun w0 M H=>aW 0 3 J jo ?_
 have hfl:=hg.1;refine aj (bU J J fun b1=>aZ qW J J fun b2=>ai J J (ac (aS (aO (aL i7 J J J (aX (k:=1) J)) J (ak (xs:= [.tmp 11]) (yn vp fs hg) Qo [] [(false,0)] [] (fun _ _=>ai J J (aG J (ad J J (ar J J df J (ac (ae J (fun h1=> ?_) (fun h1=> ?_))))))))))))
 ·(try simp only [be]at h1)
  have hc:¬fT fs=0:=h1;rw [show By fs=(0,oNil,fT fs)from if_pos hc];refine aj (aO (aV (parts:= []) qW Jp J J) J (ad J J (aq (k:=2) qW J J J J J J (ai J J (ac (au (aH () O J (FL (bh qW J J J (aX (k:=2) J)) (aJ J)) J [] [] J J J)))))))
 ·(try simp only [be]at h1)
  have hc:fT fs=0:=by omega
  obtain⟨fm,hfine⟩:=ji hg hc;have hry:=Il hc;have hnd:=zd hfine.once;have hne:fs≠ []:=fun e=>by have:=fW hfine.main;rw [e]at this;simp at this
  have hl16:=hfine.len;have hn400:∀f∈fs,cw f.body≤400:=fun f hf=>C3 (hfine.each f hf)
  have hok:=GB hg hnd hne;refine ax (aj (aO (aL i7 J J J (aX (k:=1) J)) J (kK (Prod.fst:ByteArray×Int→ByteArray) fH vI J fun b18=>aO (aV (parts:= [(0,.tmp 17),(4,.tmp 18)]) OW Mf J J) J (bU J J fun b20=>ai J J (aG J (ad J J (ad J J (ak (xs:= [.tmp 22]) (CY b20) Qn [] [] [70] (fun c _=>bG J J (az z9 J J (aK (k:=20) LK J J J J J J J J (cJ 21 (α:=Qi) (S:=118) (s:=5) (enc:=gL) (cJ 22 (α:=Int×Int) (S:=171) (s:=2) (enc:=uq) (cJ 23 (α:=Int) (S:=3) (s:=1) (enc:=eI) ?_))))))))))))));refine ti 20 [20,21,22,23] (⟨b20,vp,b18,none,c.m,0⟩:Ga) ⟨[],[],[]⟩ bJ bJ bJ J (by decide) (ac (aS (az de J J (aP 1 mh J J J J J (aO (aU underlying25 J (aN (k:=3) J)) J (ad J J (ac (aB (bv (X:=Nat) (fun i=>i≤fs.length) (fun i=> [(1,.pointer (some ⟨b1,0,none⟩)),(2,.pointer (some ⟨b2,0,none⟩)),(3,.int .i64 0),(5,.pointer (some ⟨b20,0,none⟩)),(27,sv vp),(28,.int .i64 (fs.length:Int)),(29,.int .i64 (i:Int))]) (fun i=> [(1,bj b1 27 [sv vp]),(2,bj b2 31 [.int .i64 0,.string oNil]),(20,gA (⟨b20,vp,b18,none,c.m,0⟩:Ga) (nj (fs.take i) (([],⟨[],[],[]⟩):Om×Qg)).2),(18,mp fH Prod.fst vI (some b18) (nj (fs.take i) (([],⟨[],[],[]⟩):Om×Qg)).1),(70,gZ b20 c)]) (fun i=> [(0,cx vp fs),(3,sl 3 iW (sv vp) fs)]) (fun i=>fs.length-i) 0 (Nat.zero_le _) J J J (fun i n1=>aj (ar J J ci J (ac (a_ (ae J (fun h2=> ?_) (fun h2=> ?_)))))))))))))))
  ·(try simp only [be]at h2)
   have hi:i<fs.length:=by omega
   obtain⟨f,hf⟩:∃f,fs[i]?=some f:=⟨_,List.getElem?_eq_getElem hi⟩
   have hss:=vJ (fs.take i) (([],⟨[],[],[]⟩):Om×Qg);have hsz:(nj (fs.take i) (([],⟨[],[],[]⟩):Om×Qg)).2.sz=i:=by
    rw [hss];unfold Qg.sz;simp [List.length_take];omega
   refine ax (a_ (aB (aj (aO (aR (j:=i) underlying25 ge J J (aN (k:=3) J) (by first|rfl|omega) (by first|omega|(simp;done)|(simp;omega))) J (aO (aL ge J J J (bD (aN (k:=3) J) (by intro _;rfl) hf (by rfl))) J (aZ ge J J fun b7=>aq (k:=7) ge J J J J J J (ac ?_)))))));refine bH [33,34,35,36,37,38,39,40] _ J (bk (V:= [(0,33,_),(1,34,_),(2,35,_),(3,36,_),(4,37,_),(5,38,_),(6,39,_)]) [0,1,2,3,4,5,6] 7 [7,6] [] (fun _=> []) J J (aa (aD J (am J)) (aa (aD J (aF J)) (aa (aD J (ag m4 J)) (aa (aD J (ah Cd J J (nI (k:=20) J (fun _=>J) J))) (aa (aD J (ag jD J)) (aa (aD J (ah t9 J J (ay (k:=7) J J))) (aa (aD J (am J)) aw))))))) J J J J J J J J J J J (fun _ _=>J) J (bq (xs:= [.tmp 39]) (eH (⟨b20,vp,b18,none,c.m,0⟩:Ga) (nj (fs.take i) (([],⟨[],[],[]⟩):Om×Qg)).2 (by omega)) ug [20] [] [20] J J J J J J J J (fun _ _=>J) (fun _ _ _=>J)) (fun _ _=>bI [0,1,2,3,4,5] 8 [8,7,6,5,4,3,2,1,0] [] (fun _=> []) J J (aa (aD J (am J)) (aa (aD J (aF J)) (aa (aD J (ag m4 J)) (aa (aD J (ah Cd J J (nI (k:=20) J (fun _=>J) J))) (aa (aD J (ag jD J)) (aa (aD J (ah t9 J J (ay (k:=7) J J))) aw)))))) J J J J J J J J J (fun _ _=>J) J (g8 (k:=18) (α:=ByteArray×Int) (kf:=Prod.fst) (vf:=vI) (f.name,((nj (fs.take i) (([],⟨[],[],[]⟩):Om×Qg)).2.labs.length:Int)) (nj (fs.take (i+1)) (([],⟨[],[],[]⟩):Om×Qg)).1 underlying105 eg J J J J (List.Perm.of_eq (by rw [ql _ hf];rfl))) (fun _ _=>bp [] J J aw J J J ?_)));refine ap (ar J J (bi (by first|exact bc (by omega) (by omega)|rfl)) J (ad J J (ac ?_)));refine aM (i+1) ⟨by omega,by omega⟩ J (by rw [ql _ hf];rfl) J
  ·(try simp only [be]at h2)
   have hi:i=fs.length:=by omega
   subst hi;rw [List.take_length];have hss:=vJ fs (([],⟨[],[],[]⟩):Om×Qg);obtain⟨S0,hS0⟩:∃S0,S0=(nj fs (([],⟨[],[],[]⟩):Om×Qg)).2:=⟨_,J⟩
   obtain⟨st,hst⟩:∃st,st=(nj fs (([],⟨[],[],[]⟩):Om×Qg)).1:=⟨_,J⟩
   have hsz:S0.sz=fs.length:=by
    rw [hS0,hss];unfold Qg.sz;simp
   have hbd:=DP hnd hne;rw [←hst]at hbd;have hS0l:S0.labs.length=fs.length:=by
    rw [hS0,hss];simp
   rw [←hS0,←hst];refine bx (aj (ad J J (ak (xs:= [.tmp 42,.const (.int .i64 16),.const (.int .i64 14),.const (.int .i64 0),.const (.int .u32 16384)]) (cK (⟨b20,vp,b18,none,c.m,0⟩:Ga) S0 (by omega) 16 14 0 16384) iN [20] [] [20] (fun _ _=>aG J (ad J J (ad J J (bG J J (az m4 J J (aO (ah Cd J J (nI (k:=20) J (fun _=>J) J)) J (aO (CV underlying105 eg t3 J J (Dy (k:=18) J)) J (ak (xs:= [.tmp 44,.const (.int .i64 40),.const (.int .i64 15),.const (.int .i64 0),.tmp 49]) (eT (⟨b20,vp,b18,none,c.m,0⟩:Ga) (S0.emit [qi 16 14 0 16384]) (by rw [bz];simp only [List.length_singleton];omega) 40 15 0 (bC st cN)) rS [20] [] [20] (fun _ _=>aG J (ad J J (aO (aV (parts:= [(0,.const (.int .i64 48))]) ew lw J J) J ?_))))))))))))));refine bA gL ⟨48,0,0,0,0⟩ underlying106 ew J (by decide) (by decide) J J J J fun v53=>cf 53 7 J bB (ak (xs:= [.tmp 51,.tmp 53]) (gp (⟨b20,vp,b18,none,c.m,0⟩:Ga) ((S0.emit [qi 16 14 0 16384]).jump 40 15 0 (bC st cN)) (by rw [bO,bz];simp only [List.length_singleton];omega) v53 [⟨48,0,0,0,0⟩] (by simp)) wm [20] [(false,7)] [20] (fun _ _=>ac (aS (az de J J (aP 1 mh J J J J J (aO (aU underlying25 J (aN (k:=3) J)) J (ad J J (ac (aB ?_)))))))))
   obtain⟨S3,hS3⟩:∃S3,S3=(((S0.emit [qi 16 14 0 16384]).jump 40 15 0 (bC st cN)).emit [⟨48,0,0,0,0⟩]):=⟨_,J⟩
   have hs3:S3.sz=fs.length+4:=by
    rw [hS3,bz,bO,bz,hsz];rfl
   have hS3l:S3.labs.length=fs.length:=by rw [hS3];exact hS0l
   rw [←hS3];refine bv (X:=Nat×Option Nat×Int) (fun x=>x.1≤fs.length) (fun x=> [(1,.pointer (some ⟨b1,0,none⟩)),(2,.pointer (some ⟨b2,0,none⟩)),(3,.int .i64 0),(5,.pointer (some ⟨b20,0,none⟩)),(56,sv vp),(57,.int .i64 (fs.length:Int)),(58,.int .i64 (x.1:Int))]) (fun x=> [(1,bj b1 27 [sv vp]),(2,bj b2 31 [.int .i64 0,.string oNil]),(20,gA (⟨b20,vp,b18,x.2.1,c.m,x.2.2⟩:Ga) (qs st (fs.take x.1) S3)),(18,mp fH Prod.fst vI (some b18) st),(70,gZ b20 c)]) (fun x=> [(0,cx vp fs),(3,sl 3 iW (sv vp) fs)]) (fun x=>fs.length-x.1) (0,none,0) (Nat.zero_le _) J J J (fun x hx0=>aj (ar J J ci J (ac (a_ (ae J (fun h3=> ?_) (fun h3=> ?_))))))
   ·(try simp only [be]at h3)
    have hi:x.1<fs.length:=by omega
    obtain⟨f,hf⟩:∃f,fs[x.1]?=some f:=⟨_,List.getElem?_eq_getElem hi⟩
    have hfm:=List.mem_of_getElem? hf;have hfs:=xO st (fs.take x.1) S3 fun g hg=>hn400 g (List.mem_of_mem_take hg)
    have htl:=List.length_take (i:=x.1) (l:=fs);have hf4:=hn400 f hfm;refine ax (a_ (aB (aj (aO (aR (j:=x.1) underlying25 ge J J (aN (k:=3) J) (by first|rfl|omega) (by first|omega|(simp;done)|(simp;omega))) J (aO (aL ge J J J (bD (aN (k:=3) J) (by intro _;rfl) hf (by rfl))) J (aZ ge J J fun b9=>aq (k:=9) ge J J J J J J (ac (ap (ad J J (aO (aL ge J J J (aX (k:=9) J)) J (aW 0 8 J (ln hfm) ?_)))))))))));refine d9 (xs:= [.tmp 62,.tmp 63]) (Bm (⟨b20,vp,b18,x.2.1,c.m,x.2.2⟩:Ga) c st J f (hry f hfm) (hg.2 f hfm) (qs st (fs.take x.1) S3) ⟨(hbd f.name).1,by have:=zB st (fs.take x.1) S3;have:=(hbd f.name).2;omega⟩ (by omega)) Qm [20] [(false,8),(true,70),(true,18)] [20] J J J J J J J J (fun _ _=>J) (fun _ _ _=>J) J (fun bo _=> ?_);refine ac (ap (ar J J (bi (by first|exact bc (by omega) (by omega)|rfl)) J (ad J J (ac ?_))));refine aM (x.1+1,some bo,((qs st (fs.take x.1) S3).labs.length:Int)+1) ⟨by dsimp only;omega,by dsimp only;omega⟩ J (by dsimp only;rw [vK S3 hf];rfl) J
   ·(try simp only [be]at h3)
    have hi:x.1=fs.length:=by omega
    rw [hi,List.take_length];have hfs:=xO st fs S3 hn400;have hall:xQ fs=qs st fs S3:=by rw [hS3,hS0,hst];rfl
    have hcg:mS (qs st fs S3).labs (qs st fs S3).fixes (qs st fs S3).code=fv fs:=by rw [←hall];rfl
    refine bx (aj (ad J J (ak (xs:= [.tmp 66]) (vF (⟨b20,vp,b18,x.2.1,c.m,x.2.2⟩:Ga) (qs st fs S3) (by rw [←hall];exact hok) (by omega) (by rw [←hall];exact GC fs)) Ql [20] [] [] (fun _ _=> ?_))));rw [hcg];refine ai J J (ac (aS (ad J J (aO (cl underlying9 J) J (ar J J dV J (ac (ae J (fun h4=> ?_) (fun h4=> ?_))))))))
    ·(try simp only [be]at h4)
     have hbig:(fv fs).length*4>7936:=by rw [ga,eV]at h4;omega
     rw [show By fs=(0,oNil,30)from(if_neg (by omega)).trans (if_pos hbig)];refine aj (aO (aV (parts:= []) qW Jp J J) J (aq (k:=2) qW J J J J J J (ai J J (ac (au (aH () O J (FL (bh qW J J J (aX (k:=2) J)) (aJ J)) J [] [] J J J))))))
    ·(try simp only [be]at h4)
     have hbig:¬(fv fs).length*4>7936:=by rw [ga,eV]at h4;omega
     rw [show By fs=(2,jZ (dy (fv fs)),0)from(if_neg (by omega)).trans (if_neg hbig)];refine ax (aj (ad J J (aO (aV (parts:= [(0,.const (.int .i64 2)),(1,.tmp 72)]) qW Jp J J) J (aq (k:=2) qW J J J J J J (ai J J (ac (au (aH () O J (FL (bh qW J J J (aX (k:=2) J)) (aJ J)) J [] [] J J J))))))))
theorem gq(vp:SV)(fs:List Tf)(hg:GP fs){k e:Int}{t:ByteArray}(h:By fs=(k,t,e)):
  Spec prog 15 [.agg #[sv vp]] [] [cx vp fs] (X:=Unit) (fun _=>True) (fun _=> .tuple #[.agg #[.int .i64 k,.string t],.int .i64 e]) (fun _=> []) (fun _=> []):=by
 have:=uf vp fs hg;rw [h]at this;exact this
theorem E_{fs:List Tf}{f:Tf}(h:jI fs f=0):f.ps.length+cL f.body≤12:=by
 obtain⟨h1,h2⟩:=bw.1 h;have hb:¬(f.ps.length>4∨f.ps.length+cL f.body>12∨cw f.body>400∨da 1 f.body=true):=fun hb=>by
  rw [if_pos hb]at h1;exact absurd h1 (by decide)
 simp only [not_or]at hb;omega
theorem t_{fs:List Tf}{f:Tf}(h:Fine fs f):(fs.map Tf.name).Nodup∧fs≠ []:=⟨zd h.once,fun h2=>by have:=h.main;rw [h2]at this;cases this⟩
theorem td{code:List Qi}:∀{n:Nat}{c c':Qs},rn code n c c'→c'.out.length≤c.out.length+n
 | 0,c,c',h=>by
  have:c=c':=h;subst this;exact Nat.le_refl _
 | n+1,c,c',h=>by
  obtain⟨i,c1,-,h2,h3⟩:=h;have h4:=td h3;have h5:c1.out.length≤c.out.length+1:=by
   by_cases ho:i.op=48
   ·rcases oE h2 ho with⟨-,q⟩|⟨-,q⟩
    ·rw [q];show(c.out++ [c.r 1]).length≤_;rw [List.length_append];exact Nat.le_refl _
    ·rw [q];show c.out.length≤_;omega
   ·rw [(Ce h2 ho).2];omega
  omega
theorem mi{fs:List Tf}(hg:GP fs)(hc:fT fs=0)(hl:(fv fs).length≤1984)(vin:SV){ins:List Int}(hi:∀x∈ins,oW x){fuel:Int}(hf:0≤fuel∧fuel≤1000000){ru:Ru}(hr:RunIs fs ins fuel ru){most:Int}(hm:100*fuel+150<most∧most<1000000000)(h25:ru.err≠25):
  ∃t out mem,Spec prog 25 [.string (jZ (dy (fv fs))),sv vin,.int .i64 most] [] [sl 1 eU (sv vin) ins] (X:=SV×SV) (fun _=>True) (fun x=> .agg #[sv x.1,sv x.2,.int .i64 t,.int .u32 0]) (fun x=> [own 41 1 eU (sv x.1) out,own 41 1 eU (sv x.2) mem]) (fun _=> [])∧
   (out.length≤1000000000∧mem.length≤1000000000)∧(ru.err=0→t=4∧out=ru.out∧mem=ru.mem)∧(ru.err=26→t=3):=by
 obtain⟨f,hfn⟩:=ji hg hc;obtain⟨hnd,hne⟩:=t_ hfn;have hz:=tS fs hnd hne;rw [hz]at hl ⊢;have hva:=J9 (E0 hg (fun f hf=>E_ (hfn.each f hf)) hl);cases hr with
 | bad h=>exact absurd hc h
 | run f2 g r h hf2 he=>
  have:f2=f:=by
   have:=hfn.main;rw [hf2]at this;exact Option.some.inj this
  subst this;have hp:=FU hg hfn (Il hc) hl hi hf.1 (by omega) he;cases r with
  | ok v s1=>
   obtain⟨h1,k,c',h2,h3,h4,h5,h6⟩:=hp;refine⟨4,c'.out,qd c'.m 256,nW hl hva vin ins hi h3 h4 (.inl J) most ⟨by omega,hm.2⟩,⟨by have:=td h3;have e:(⟨0,fun _=>0,fun _=>0,ins,[]⟩:Qs).out.length=0:=J;omega,by rw [qb];decide⟩,fun _=>⟨J,h5,?_⟩,fun h=>absurd h (by show ¬(0:Int)=26;decide)⟩;show qd c'.m 256=(List.range 256).map s1.mem;unfold qd;exact List.map_congr_left fun i hi=>h6 i (List.mem_range.1 hi)
  | err e=>
   have he2:=(x6 g).2.2.1 _ _ _ _ _ _ he;have h26:e=26:=he2.resolve_left h25;subst h26;obtain⟨k,c',h2,h3,h4⟩:=hp J;have h4:(iK fs)[c'.pc]?=some ⟨49,0,0,0,0⟩:=h4;exact⟨3,c'.out,qd c'.m 256,nW hl hva vin ins hi h3 h4 (.inr J) most ⟨by omega,hm.2⟩,⟨by have:=td h3;have e:(⟨0,fun _=>0,fun _=>0,ins,[]⟩:Qs).out.length=0:=J;omega,by rw [qb];decide⟩,fun h=>absurd h (by show ¬(26:Int)=0;decide),fun _=>J⟩
theorem vk{fs:List Tf}(hg:GP fs)(hc:fT fs=0)(hl:¬(fv fs).length≤1984):l9 fs>120:=by
 obtain⟨f,hfn⟩:=ji hg hc;obtain⟨hnd,hne⟩:=t_ hfn;rw [tS fs hnd hne]at hl;by_cases h:l9 fs≤120
 ·exact absurd (yj hfn h) hl
 ·omega
theorem Hd{fs:List Tf}(hg:GP fs)(hc:fT fs=0):jZ (dy (fv fs))≠oNil:=fun h=>by
 obtain⟨f,hfn⟩:=ji hg hc;obtain⟨hnd,hne⟩:=t_ hfn;have h1:=congrArg ByteArray.size h;rw [ga,eV,tS fs hnd hne,ur]at h1;have h2:oNil.size=0:=J;omega
theorem Bt(vp vin:SV)(fs:List Tf)(ins:List Int)(hg:GP fs)(hc:fT fs=0)(hi:∀x∈ins,oW x)(hil:ins.length≤1000000)(hl:¬(fv fs).length≤1984):
  Spec prog 22 [.agg #[sv vp],sv vin] [] [cx vp fs,sl 1 eU (sv vin) ins] (X:=Unit) (fun _=>True) (fun _=> .bool true) (fun _=> []) (fun _=> []):=by
 refine aI func22 J ntmps22 J fun w0 M H=> ?_
 have hcm:By fs=(0,oNil,30):=by
  unfold By;rw [if_neg (by omega),if_pos (by omega)]
 have hbig:=vk hg hc hl;refine aj (bU J J fun b2=>ai J J (aG J (aO (aL i7 J J J (aX (k:=2) J)) J (ak (xs:= [.tmp 10]) (gq vp fs hg hcm) BC [] [(false,0)] [] (fun _ _=>ad J J (aO (ce J J) J (aO (ce J J) J (aZ qW J J fun b5=>aq (k:=5) qW J J J J J J (ai J J (ac (aS (ad J J ?_))))))))))));refine ar J J aY J (ac (ae J (fun h1=> ?_) (fun h1=> ?_)))
 ·(try simp only [be]at h1)
  refine aj (aO (aL i7 J J J (aX (k:=2) J)) J (ak (xs:= [.tmp 16]) (xt vp fs hg) Qv [] [(false,0)] [] (fun _ _=>ar J J dV J (ai J J (ac (au (aH () O J (bE (aJ J)) (by first|rfl|(rw [ho3,ho4];simp;done)|(rw [decide_eq_true (by omega)];done)) [] [] J J J)))))))
 ·exact absurd h1 (by decide)
theorem Ha(vp vin:SV)(fs:List Tf)(ins:List Int)(hg:GP fs)(hc:fT fs=0)(hi:∀x∈ins,oW x)(hil:ins.length≤1000000)(hl:(fv fs).length≤1984):
  Spec prog 22 [.agg #[sv vp],sv vin] [] [cx vp fs,sl 1 eU (sv vin) ins] (X:=Unit) (fun _=>True) (fun _=> .bool true) (fun _=> []) (fun _=> []):=by
 refine aI func22 J ntmps22 J fun w0 M H=> ?_
 have hcm:By fs=(2,jZ (dy (fv fs)),0):=by
  unfold By;rw [if_neg (by omega),if_neg (by omega)]
 have hnb:(jZ (dy (fv fs))=={data:= #[]})=false:=by
  rw [b_];exact decide_eq_false (Hd hg hc)
 have hsz:(jZ (dy (fv fs))).size≤7936:=by rw [ga,eV];omega
 obtain⟨ru,hru⟩:=CB hg (ins:=ins) (fuel:=800) hi (by decide);have here:=FI hru hc;refine aj (bU J J fun b2=>ai J J (aG J (aO (aL i7 J J J (aX (k:=2) J)) J (ak (xs:= [.tmp 10]) (gq vp fs hg hcm) BC [] [(false,0)] [] (fun _ _=>ad J J (aO (ce J J) J (aO (ce J J) J (aZ qW J J fun b5=>aq (k:=5) qW J J J J J J (ai J J (ac (aS (ad J J ?_))))))))))));refine ar J J aY J (ac (ae J (fun h1=> ?_) (fun h1=> ?_)))
 ·exact absurd h1 (by decide)
 ·(try simp only [be]at h1)
  refine ax (aS (ad J J (ar J J df J (ad J J (aA [] J J O (fun hg2=>ag DX J) J (aA [(22,_)] J J ⟨J,O⟩ (fun hg3=>ah t3 J J (ay (k:=5) J J)) J (aA [(22,_),(23,_)] J J ⟨J,J,O⟩ (fun hg4=>aT J J df) J (aO (aQ J J J (by first|exact av|exact aC|rfl)) J (ad J J (aA [] J J O (fun hg5=>ag iD J) J (aA [(27,_)] J J ⟨J,O⟩ (fun hg6=>ah t9 J J (ay (k:=5) J J)) J (aA [(27,_),(28,_)] J J ⟨J,J,O⟩ (fun hg7=>aT J J cr) J (aO (aQ J J J (by first|exact av|exact aC|rfl)) J (ad J J (aA [] J J O (fun hg8=>ag iD J) J (aA [(32,_)] J J ⟨J,O⟩ (fun hg9=>ah t9 J J (ay (k:=5) J J)) J (aA [(32,_),(33,_)] J J ⟨J,J,O⟩ (fun hg10=>cl underlying9 J) J ?_)))))))))))))))));refine aA [(32,_),(33,_),(34,_)] J J ⟨J,J,J,O⟩ (fun hg11=>aT J J dV) J (aO (aQ J J J (by first|exact av|exact aC|rfl)) J (ac (ae J (fun h12=> ?_) (fun h12=> ?_))))
  ·(exfalso;have h0:=h12;rw [hnb]at h0;simp at h0;omega)
  ·(try simp only [be]at h12)
   refine ax (aj (aO (aL i7 J J J (aX (k:=2) J)) J (ad J J (ak (xs:= [.tmp 37,.tmp 38,.const (.int .i64 800)]) (AV vp vin fs ins 800 hg hi hil (by decide) ru hru) Qh [] [(false,0),(false,1)] [30,31] (fun y _=>aZ nu J J fun b7=>aq (k:=7) nu J J J J J J (ac (aS (az z7 J J (aP 7 nf J J J J J (ar J J aY J (ac (ae J (fun h13=> ?_) (fun h13=> ?_)))))))))))))
   ·(try simp only [be]at h13)
    skip;refine aj (ai J J (ac (au (aH () O J (bE (aJ J)) (by first|rfl|(rw [ho3,ho4];simp;done)|(rw [decide_eq_true (by omega)];done)) [] [] J J J))))
   ·(try simp only [be]at h13)
    have h25:ru.err≠25:=by omega
    obtain⟨t,out,mem,hsv,⟨hol,hml⟩,ho1,ho2⟩:=mi hg hc hl vin hi (by decide) hru (most:=81010) (by decide) h25;refine ax (aj (az iD J J (aP 5 t9 J J J J J (ad J J (ak (xs:= [.tmp 44,.tmp 45,.const (.int .i64 81010)]) hsv Eq [] [(false,1)] [32,33] (fun z _=>dD (k:=32) (A':=sl 1 eU (sv z.1) out) J bB (dD (k:=33) (A':=sl 1 eU (sv z.2) mem) J bB (aZ uE J J fun b8=>aq (k:=8) uE J J J J J J (ac (aS (az z7 J J (aP 7 nf J J J J J (ar J J aY J (ac (ae J (fun h14=> ?_) (fun h14=> ?_))))))))))))))))
    ·(try simp only [be]at h14)
     have ht:=ho2 (by omega);subst ht;refine aj (az nJ J J (aO (dw lS J) J (aP 8 t3 J J J J J (ar J J aY J (ai J J (ac (au (aH () O J (bE (aJ J)) (by first|rfl|(rw [ho3,ho4];simp;done)|(rw [decide_eq_true (by omega)];done)) [] [] J J J))))))))
    ·(try simp only [be]at h14)
     obtain⟨ht,ho3,ho4⟩:=ho1 (by omega);subst ht;refine ax (aj (az nJ J J (aO (aL (us:= [.int .i64 4,.int .u32 0]) wB J J J (jg (k:=8) J J)) J (aO (aV (parts:= [(0,.const (.int .i64 4))]) wB Jn J J) J (ar J J EM J (ad J J (aA [] J J O (fun hg15=>ag nL J) J (aA [(59,_)] J J ⟨J,O⟩ (fun hg16=>ah oo J J (ay (k:=8) J J)) J (aA [(59,_),(60,_)] J J ⟨J,J,O⟩ (fun hg17=>ag GZ J) J (aA [(59,_),(60,_),(61,_)] J J ⟨J,J,J,O⟩ (fun hg18=>ah oo J J (ay (k:=7) J J)) J (gT [(59,_),(60,_),(61,_),(62,_)] J J ⟨J,J,J,J,O⟩ (fun hg19=>bq (xs:= [.tmp 60,.tmp 62]) (nz z.1 y.1 out ru.out hol) Hf [] [(true,32),(true,30)] [] J J J J J J J J (fun _ _=>J) (fun _ _ _=>J)) J (aO (aQ J J J (by first|exact av|exact aC|rfl)) J (ad J J (aA [] J J O (fun hg20=>ag nK J) J (aA [(66,_)] J J ⟨J,O⟩ (fun hg21=>ah oo J J (ay (k:=8) J J)) J (aA [(66,_),(67,_)] J J ⟨J,J,O⟩ (fun hg22=>ag GW J) J (aA [(66,_),(67,_),(68,_)] J J ⟨J,J,J,O⟩ (fun hg23=>ah oo J J (ay (k:=7) J J)) J (gT [(66,_),(67,_),(68,_),(69,_)] J J ⟨J,J,J,J,O⟩ (fun hg24=>bq (xs:= [.tmp 67,.tmp 69]) (nz z.2 y.2 mem ru.mem hml) Hf [] [(true,33),(true,31)] [] J J J J J J J J (fun _ _=>J) (fun _ _ _=>J)) J ?_))))))))))))))))));refine aO (aQ J J J (by first|exact av|exact aC|rfl)) J (ai J J (ac (au (aH () O J (bE (aJ J)) (by first|rfl|(rw [ho3,ho4];simp;done)|(rw [decide_eq_true (by omega)];done)) [] [] J J J))))
theorem kZ(vp vin:SV)(fs:List Tf)(ins:List Int)(hg:GP fs)(hc:fT fs=0)(hi:∀x∈ins,oW x)(hil:ins.length≤1000000):
  Spec prog 22 [.agg #[sv vp],sv vin] [] [cx vp fs,sl 1 eU (sv vin) ins] (X:=Unit) (fun _=>True) (fun _=> .bool true) (fun _=> []) (fun _=> []):=by
 by_cases hl:(fv fs).length≤1984
 ·exact Ha vp vin fs ins hg hc hi hil hl
 ·exact Bt vp vin fs ins hg hc hi hil hl
def sgL:List ByteArray:= [(⟨#[60,61]⟩:ByteArray),(⟨#[62,61]⟩:ByteArray),(⟨#[61,61]⟩:ByteArray),(⟨#[33,61]⟩:ByteArray),(⟨#[60,60]⟩:ByteArray),(⟨#[62,62]⟩:ByteArray),(⟨#[40]⟩:ByteArray),(⟨#[41]⟩:ByteArray),(⟨#[91]⟩:ByteArray),(⟨#[93]⟩:ByteArray),(⟨#[123]⟩:ByteArray),(⟨#[125]⟩:ByteArray),(⟨#[44]⟩:ByteArray),(⟨#[59]⟩:ByteArray),(⟨#[61]⟩:ByteArray),(⟨#[43]⟩:ByteArray),(⟨#[45]⟩:ByteArray),(⟨#[42]⟩:ByteArray),(⟨#[47]⟩:ByteArray),(⟨#[37]⟩:ByteArray),(⟨#[38]⟩:ByteArray),(⟨#[124]⟩:ByteArray),(⟨#[94]⟩:ByteArray),(⟨#[126]⟩:ByteArray),(⟨#[33]⟩:ByteArray),(⟨#[60]⟩:ByteArray),(⟨#[62]⟩:ByteArray)]
def nk(c:Int):Bool:=decide (c=32) || decide (c=9) || decide (c=10) || decide (c=13)
def ja(t:ByteArray):List ByteArray→ByteArray
 | []=>oNil
 | s::r=>if(decide ((s.size:Int)≤(t.size:Int))&&(t.extract 0 s.size==s))=true then s else ja t r
theorem FA{t:ByteArray}{l:List ByteArray}{i:Nat}{s:ByteArray}(h:l[i]?=some s):ja t (l.drop i)=if(decide ((s.size:Int)≤(t.size:Int))&&(t.extract 0 s.size==s))=true then s else ja t (l.drop (i+1)):=by
 obtain⟨hi,rfl⟩:=List.getElem?_eq_some_iff.1 h;rw [List.drop_eq_getElem_cons hi];rfl
theorem yt(c:Int):
  Spec prog 138 [.int .u8 c] [] [] (X:=Unit) (fun _=>True) (fun _=> .bool (nk c)) (fun _=> []) (fun _=> []):=by
 refine aI func138 J ntmps138 J fun w0 M H=>aj (ai J J (aG J (ad J J (ar J J aY J (ad J J (aA [] J J O (fun hg1=>am J) J (aA [(6,_)] J J ⟨J,O⟩ (fun hg2=>aT J J aY) J (aO (aQ J J J (by first|exact av|exact aC|rfl)) J (ad J J (aA [] J J O (fun hg3=>am J) J (aA [(10,_)] J J ⟨J,O⟩ (fun hg4=>aT J J aY) J (aO (aQ J J J (by first|exact av|exact aC|rfl)) J (ad J J (aA [] J J O (fun hg5=>am J) J (aA [(14,_)] J J ⟨J,O⟩ (fun hg6=>aT J J aY) J ?_)))))))))))))))
 refine aO (aQ J J J (by first|exact av|exact aC|rfl)) J (ai J J (ac (au (aH () O J (bE (aJ J)) J [] [] J J J))))
theorem w7:
  Spec prog 174 [] [] [] (X:=SV) (fun _=>True) (fun u=>sv u) (fun u=> [own 9 1 eS (sv u) sgL]) (fun _=> []):=by
 refine aI func174 J ntmps174 J fun w0 M H=>aj (ai J J (aG J ?_))
 refine cD eS sgL (parts:= [(0,.const (.string (ByteArray.mk #[60,61]))),(1,.const (.string (ByteArray.mk #[62,61]))),(2,.const (.string (ByteArray.mk #[61,61]))),(3,.const (.string (ByteArray.mk #[33,61]))),(4,.const (.string (ByteArray.mk #[60,60]))),(5,.const (.string (ByteArray.mk #[62,62]))),(6,.const (.string (ByteArray.mk #[40]))),(7,.const (.string (ByteArray.mk #[41]))),(8,.const (.string (ByteArray.mk #[91]))),(9,.const (.string (ByteArray.mk #[93]))),(10,.const (.string (ByteArray.mk #[123]))),(11,.const (.string (ByteArray.mk #[125]))),(12,.const (.string (ByteArray.mk #[44]))),(13,.const (.string (ByteArray.mk #[59]))),(14,.const (.string (ByteArray.mk #[61]))),(15,.const (.string (ByteArray.mk #[43]))),(16,.const (.string (ByteArray.mk #[45]))),(17,.const (.string (ByteArray.mk #[42]))),(18,.const (.string (ByteArray.mk #[47]))),(19,.const (.string (ByteArray.mk #[37]))),(20,.const (.string (ByteArray.mk #[38]))),(21,.const (.string (ByteArray.mk #[124]))),(22,.const (.string (ByteArray.mk #[94]))),(23,.const (.string (ByteArray.mk #[126]))),(24,.const (.string (ByteArray.mk #[33]))),(25,.const (.string (ByteArray.mk #[60]))),(26,.const (.string (ByteArray.mk #[62])))]) underlying46 t9 J (by decide) (by intro _;rfl) J (by decide) (by decide) J J J J fun v1=> ?_
 refine ai J J (ac (au (aH v1 O J (bE (aJ J)) J [1] [] J J J)))
theorem AS(t:ByteArray):
  Spec prog 139 [.string t] [] [] (X:=Unit) (fun _=>True) (fun _=> .string (ja t sgL)) (fun _=> []) (fun _=> []):=by
 refine aI func139 J ntmps139 J fun w0 M H=> ?_
 have hsl:sgL.length=27:=J;refine aj (ai J J (aG J (ak (xs:= []) w7 Ns [] [] [6] (fun v6 _=>ai J J (ac (aS (ai J J (ac (aB (bv (X:=Nat) (fun i=>i≤sgL.length∧ja t sgL=ja t (sgL.drop i)) (fun i=> [(0,.string t),(3,sv v6),(4,.int .i64 (i:Int))]) (fun i=> [(6,own 9 1 eS (sv v6) sgL)]) (fun i=> []) (fun i=>sgL.length-i) 0 ⟨Nat.zero_le _,J⟩ J J J (fun i n1=>aS (ad J J ?_))))))))))));refine ad J J (aO (aU underlying46 J (bs (k:=6) J)) J (ar J J ci J (ac (ae J (fun h1=> ?_) (fun h1=> ?_)))))
 ·(try simp only [be]at h1)
  have hi:i<sgL.length:=by omega
  obtain⟨s,hx⟩:∃s,sgL[i]?=some s:=⟨_,List.getElem?_eq_getElem hi⟩
  have hsx:=FA (t:=t) hx;refine ax (a_ (aB (aj (ad J J (ad J J (aO (aR (j:=i) underlying46 t9 J J (bs (k:=6) J) (by first|rfl|omega) (by first|omega|(simp;done)|(simp;omega))) J (aO (ah t9 J J (bD (bs (k:=6) J) (by intro _;rfl) hx (by rfl))) J (aO (cl underlying9 J) J (ai J J (ac (a_ ?_)))))))))));refine bH [18,19,20,21,22,23,24,25,26,27,28,29,30,31] _ J (bp (V:= [(0,18,_),(1,19,_),(2,20,_),(3,21,_),(4,22,_),(5,23,_),(6,24,_),(7,25,_),(8,26,_),(9,27,_),(10,28,_),(11,29,_),(12,30,_),(13,31,_)]) [0,1,2,3,4,5,6,7,8,9,10,11,12,13] J J (aa (aD J (am J)) (aa (aD J (am J)) (aa (aD J (cl underlying9 J)) (aa (aD J (aT J J jl)) (aa (aD J (am J)) (aa (cV [] J J J O (fun hg2=>am J)) (aa (cV [] J J J O (fun hg3=>am J)) (aa (cV [(23,_),(24,_)] J J J ⟨J,J,O⟩ (fun hg4=>rr underlying9 J J (by omega) (by have q:=of_decide_eq_true hg4;omega))) (aa (cV [] J J J O (fun hg5=>am J)) (aa (cV [] J J J O (fun hg6=>am J)) (aa (cV [(26,_),(27,_)] J J J ⟨J,J,O⟩ (fun hg7=>aR (j:=i) underlying46 t9 J J (bs (k:=6) J) (by first|rfl|omega) (by first|omega|(simp;done)|(simp;omega)))) (aa (cV [(28,_)] J J J ⟨J,O⟩ (fun hg8=>ah t9 J J (bD (bs (k:=6) J) (by intro _;rfl) hx (by rfl)))) (aa (cV [(25,_),(29,_)] J J J ⟨J,J,O⟩ (fun hg9=>aT J J cr)) (aa (aD J (aQ J J J (by first|exact av|exact aC|rfl))) aw)))))))))))))) J J J ?_);refine ae J (fun h10=> ?_) (fun h10=> ?_)
  ·have hq:(decide ((s.size:Int)≤(t.size:Int))&&(t.extract 0 s.size==s))=true:=h10;rw [n1.2,hsx,if_pos hq];refine aj (ad J J (ad J J (aO (aR (j:=i) underlying46 t9 J J (bs (k:=6) J) (by first|rfl|omega) (by first|omega|(simp;done)|(simp;omega))) J (aO (ah t9 J J (bD (bs (k:=6) J) (by intro _;rfl) hx (by rfl))) J (ai J J (ac (au (aH () O J (bE (aJ J)) J [] [] J J J))))))))
  ·have hq:(decide ((s.size:Int)≤(t.size:Int))&&(t.extract 0 s.size==s))=false:=h10;refine ax (ap (ad J J (ar J J (bi (by first|exact bc (by omega) (by omega)|rfl)) J (ai J J (ac ?_)))));refine aM (i+1) ⟨⟨by omega,by rw [n1.2,hsx,if_neg (by rw [hq];decide)]⟩,by omega⟩ J J J
 ·(try simp only [be]at h1)
  have hi:i=sgL.length:=by omega
  subst hi;rw [n1.2,List.drop_length];refine bx (aj (ai J J (ac (au (aH () O J (bE (aJ J)) J [] [] J J J)))))
structure Tk where
 k:Int
 s:ByteArray
 n:Int
 bad:Bool
 off:Int
deriving DecidableEq
def jG(t:Tk):List Value:= [.int .i64 t.k,.string t.s,.int .u32 t.n,.bool t.bad,.int .i64 t.off]
def iJ(s:ByteArray)(i:Nat):Int:=(bn s).getD i 0
def nh(p:Int→Bool)(s:ByteArray):Nat→Nat→Nat
 | 0,i=>i
 | g+1,i=>if p (iJ s i)=true then nh p s g (i+1)else i
theorem ta{p:Int→Bool}{s:ByteArray}:∀{g i j:Nat},i+g=s.size→i≤j→j≤s.size→(∀m,i≤m→m<j→p (iJ s m)=true)→¬(j<s.size∧p (iJ s j)=true)→nh p s g i=j
 | 0,i,j,hg,h1,h2,h3,h4=>by
  show i=j;omega
 | g+1,i,j,hg,h1,h2,h3,h4=>by
  unfold nh;by_cases hij:i=j
  ·subst hij;rw [if_neg (fun h=>h4 ⟨by omega,h⟩)]
  ·rw [if_pos (h3 i (Nat.le_refl _) (by omega))];exact ta (by omega) (by omega) h2 (fun m hm=>h3 m (by omega)) h4
def lO(s:ByteArray)(i:Nat):Nat→Int×Bool
 | 0=>(0,false)
 | m+1=>if 10*(lO s i m).1+(iJ s (i+m)-48)≥4294967296 then(4294967296,true)else(10*(lO s i m).1+(iJ s (i+m)-48),(lO s i m).2)
structure Tq where
 k:Int
 n:Int
 bad:Bool
 j:Nat
def qY(c:Int):Bool:=mL c || iG c
def fA(s:ByteArray)(i:Nat):Tq:=
 if iG (iJ s i)=true then⟨1,wU (lO s i (nh iG s (s.size-i) i-i)).1,(lO s i (nh iG s (s.size-i) i-i)).2,nh iG s (s.size-i) i⟩else
 if mL (iJ s i)=true then⟨if(nh qY s (s.size-i) i:Int)-(i:Int)>12 then 4 else if cg (s.extract i (nh qY s (s.size-i) i)) rJ=true then 3 else 2,0,false,nh qY s (s.size-i) i⟩else
 ⟨if(ja (s.extract i s.size) sgL).size=0 then 4 else 3,0,false,i+(ja (s.extract i s.size) sgL).size⟩
def s8(s:ByteArray)(i:Nat):Tk:=⟨(fA s i).k,s.extract i (fA s i).j,(fA s i).n,(fA s i).bad,(i:Int)⟩
def ol(s:ByteArray):Nat→Nat→List Tk→Option (List Tk)
 | 0,_,_=>none
 | g+1,i,acc=>
  if nh nk s (s.size-i) i=s.size then some (acc++ [⟨0,oNil,0,false,(s.size:Int)⟩])else
  if(fA s (nh nk s (s.size-i) i)).k=4 then some (acc++ [s8 s (nh nk s (s.size-i) i)])else ol s g (fA s (nh nk s (s.size-i) i)).j (acc++ [s8 s (nh nk s (s.size-i) i)])
theorem D9{c:Int}(h:iG c=true):48≤c∧c≤57:=by
 unfold iG at h;simp only [Bool.and_eq_true,decide_eq_true_eq]at h;omega
theorem C2(s:ByteArray)(i:Nat):∀m,(∀q,q<m→iG (iJ s (i+q))=true)→0≤(lO s i m).1∧(lO s i m).1≤4294967296
 | 0,_=>⟨Int.le_refl _,by show(0:Int)≤4294967296;decide⟩
 | m+1,h=>by
  have h1:=C2 s i m fun q hq=>h q (by omega)
  have h2:=D9 (h m (by omega));unfold lO;split
  ·exact⟨by show(0:Int)≤4294967296;decide,Int.le_refl _⟩
  ·constructor
   ·show 0≤10*(lO s i m).1+(iJ s (i+m)-48);omega
   ·show 10*(lO s i m).1+(iJ s (i+m)-48)≤4294967296;omega
theorem kj(p:Int→Bool)(s:ByteArray):∀(g i:Nat),i+g=s.size→i≤nh p s g i∧nh p s g i≤s.size
 | 0,i,h=>by unfold nh;omega
 | g+1,i,h=>by
  have:=kj p s g (i+1) (by omega);unfold nh;split<;>omega
theorem Cr{p:Int→Bool}{s:ByteArray}{i:Nat}(hi:i<s.size)(h:p (iJ s i)=true):i<nh p s (s.size-i) i:=by
 obtain⟨g,hg⟩:∃g,s.size-i=g+1:=⟨s.size-i-1,by omega⟩
 rw [hg];unfold nh;rw [if_pos h];have:=kj p s g (i+1) (by omega);omega
theorem oG(t:ByteArray):∀l,(ja t l).size≤t.size
 | []=>Nat.zero_le _
 | s::r=>by
  unfold ja;split
  ·rename_i h;simp only [Bool.and_eq_true,decide_eq_true_eq]at h;omega
  ·exact oG t r
theorem I2{s:ByteArray}{i:Nat}(hi:i<s.size)(hk:(fA s i).k≠4):i<(fA s i).j∧(fA s i).j≤s.size:=by
 unfold fA at hk ⊢;by_cases h1:iG (iJ s i)=true
 ·rw [if_pos h1];exact⟨Cr hi h1,(kj iG s (s.size-i) i (by omega)).2⟩
 ·rw [if_neg h1]at hk ⊢;by_cases h2:mL (iJ s i)=true
  ·rw [if_pos h2];exact⟨Cr hi (by unfold qY;rw [h2];rfl),(kj qY s (s.size-i) i (by omega)).2⟩
  ·rw [if_neg h2]at hk ⊢;have h3:=oG (s.extract i s.size) sgL;rw [ByteArray.size_extract]at h3;have h4:¬(ja (s.extract i s.size) sgL).size=0:=fun h=>hk (if_pos h)
   show i<i+_∧i+_≤s.size;omega
theorem yK{s:ByteArray}{i:Nat}(hi:i<s.size):i≤(fA s i).j∧(fA s i).j≤s.size:=by
 unfold fA;by_cases h1:iG (iJ s i)=true
 ·rw [if_pos h1];exact kj iG s (s.size-i) i (by omega)
 ·rw [if_neg h1];by_cases h2:mL (iJ s i)=true
  ·rw [if_pos h2];exact kj qY s (s.size-i) i (by omega)
  ·rw [if_neg h2];have h3:=oG (s.extract i s.size) sgL;rw [ByteArray.size_extract]at h3;show i≤i+_∧i+_≤s.size;omega
end Go.Proofs.YtedmdgbmdplifaaGreat
