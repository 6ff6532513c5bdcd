/-
  A part of the proof. Conditions are with the theorems.
-/
import Derived.Test.YtedmdgbmdplifaaGreatXDa
import Derived.Test.YtedmdgbmdplifaaGreatXDb
import Derived.Test.YtedmdgbmdplifaaGreatXDc
import Derived.Test.YtedmdgbmdplifaaGreatXDd
import Derived.Test.YtedmdgbmdplifaaGreatXDe
import Derived.Test.YtedmdgbmdplifaaGreatXDf
import Derived.Test.YtedmdgbmdplifaaGreatXDg
set_option maxHeartbeats 32000000
set_option maxRecDepth 100000
set_option linter.unusedSimpArgs false
set_option linter.unusedVariables false
namespace Go.Proofs.YtedmdgbmdplifaaGreat
open Go.RowKit Tryz
structure pFO(fs:List Tf)(f:Tf)(N:List Ba):Prop where
 so:SOs fs N f.body
 ps4:f.ps.length≤4
 nv:(dF f).2.toNat≤12
 nd:f.ps.Nodup
 off:∀x∈N,(∃i:Nat,f.ps[i]?=some x∧bM (dF f).1 x=8+4*((f.ps.length:Int)-1-i))∨(x∉f.ps∧∃j:Nat,1≤j∧j≤(dF f).2.toNat∧bM (dF f).1 x=wU (-(4*(j:Int))))
 inj:∀x∈N,∀y∈N,bM (dF f).1 x=bM (dF f).1 y→x=y
structure CF(code:List Qi)(fs:List Tf)(S:Ba→Int):Prop where
 fn:∀x f,cy fs x=some f→∃p:Nat,S x=(p:Int)∧cAt code p (zF S f p)∧p+wF f≤1984
 ok:∀x f,cy fs x=some f→∃N,pFO fs f N
theorem CF.cp{code:List Qi}{fs:List Tf}{S:Ba→Int}(h:CF code fs S):CP code fs S:=
 ⟨fun x f hf=>by obtain⟨p,h1,h2,h3⟩:=h.fn x f hf;exact⟨p,h1,by omega⟩,fun x f hf=>by obtain⟨N,hN⟩:=h.ok x f hf;exact hN.ps4⟩
theorem pH:∀(ps:List Ba)(al:List Int)(vs:Vs)(x:Ba),x∉ps→jc (eG vs ps al) x=jc vs x
 | [],al,vs,x,h=>by unfold eG;rfl
 | p::ps,[],vs,x,h=>by unfold eG;rfl
 | p::ps,a::al,vs,x,h=>by
  rw [List.mem_cons,not_or]at h;show jc (eG (fc vs p a) ps al) x=_;rw [pH ps al _ x h.2,r6,ae fun e=>h.1 e.symm]
theorem xq:∀(ps:List Ba)(al:List Int)(vs:Vs)(i:Nat)(x:Ba)(a:Int),ps.Nodup→ps[i]?=some x→al[i]?=some a→jc (eG vs ps al) x=a
 | [],al,vs,i,x,a,_,h,_=>by simp at h
 | p::ps,[],vs,i,x,a,_,_,h=>by simp at h
 | p::ps,b::al,vs,i,x,a,hn,h1,h2=>by
  rw [List.nodup_cons]at hn;show jc (eG (fc vs p b) ps al) x=_;cases i with
  | zero=>
   cases h1;cases h2;rw [pH ps al _ p hn.1,r6,ar J]
  | succ i=>exact xq ps al _ i x a hn.2 h1 h2
section
variable{code:List Qi}{fs:List Tf}{S:Ba→Int}
theorem xU{d F:Int}:∀(n:Nat){p:Nat}{sp:Int}{c:Qs}{s:Ms},cAt code p (jE n)→c.pc=p→St d F sp c→9216+4*(n:Int)≤sp→sp≤16384→sp%4=0→pSm c s→
  Go code (2*(n:Int)) c fun c'=>c'.pc=p+2*n∧St d F (sp-4*(n:Int)) c'∧pSm c' s∧(∀a,sp≤a→c'.m a=c.m a)∧∀j:Nat,1≤j→j≤n→c'.m (sp-4*(j:Int))=0
 | 0,p,sp,c,s,_,hpc,h,_,_,_,hs=>Go.done (by omega) ⟨hpc,by rw [show sp-4*((0:Nat):Int)=sp by omega];exact h,hs,fun _ _=>rfl,fun j h1 h2=>by omega⟩
 | n+1,p,sp,c,s,hc,hpc,h,h1,h2,h3,hs=>by
  have hc':cAt code p (fQ 0++jE n):=hc;obtain⟨hc1,hc2⟩:=hc'.app;refine(mI hc1 hpc h (by decide) ⟨by omega,h2,h3⟩).seq (m:=2*(n:Int)) (fun c1 ⟨e1,e2,e3,e4,e5,e6⟩=> ?_) (by omega);refine(xU n (p:=p+2) (sp:=sp-4) hc2 e1 e2 (by omega) (by omega) (by omega) (hs.push e3 e4 e5 (by omega))).weak (fun c2 ⟨f1,f2,f3,f4,f5⟩=>⟨by rw [f1];omega,?_,f3,fun a ha=> ?_,fun j hj1 hj2=> ?_⟩) (Int.le_refl _)
  ·rw [show sp-4*((n+1:Nat):Int)=sp-4-4*(n:Int) by omega];exact f2
  ·rw [f4 a (by omega),e3,kO (by omega)]
  ·by_cases hj:j=1
   ·subst hj;rw [show sp-4*((1:Nat):Int)=sp-4 by omega,f4 _ (Int.le_refl _),e3,qE,h.z]
   ·have:=f5 (j-1) (by omega) (by omega);rw [show sp-4*(j:Int)=sp-4-4*((j-1:Nat):Int) by omega];exact this
theorem Jt{g:Nat}(hF:VF fs)(hC:CF code fs S)(ih:HD code fs S g):HC code fs S g:=by
 intro d f al s r h F sp c q hff hal hao hpc h15 hq hst hsm hok hfu ha hsp hlo hd hargs;have hlo':=uR hd;cases g with
 | zero=>simp [lM]at h
 | succ g=>
  rw [lM]at h;obtain⟨pf,hpf,hcf,hpl⟩:=hC.fn _ _ hff;obtain⟨N,hN⟩:=hC.ok _ _ hff;obtain⟨nv,hnv⟩:∃nv,nv=(dF f).2.toNat:=⟨_,J⟩
  obtain⟨o,ho⟩:∃o,o=(dF f).1:=⟨_,J⟩
  have hv12:=hN.nv;have h4:=hN.ps4;have hoff:=hN.off;have hinj:=hN.inj;rw [←ho,←hnv]at hoff;rw [←ho]at hinj;rw [←hnv]at hv12;have hwf:wF f=17+2*nv+fR f.body:=by rw [hnv];rfl
  have hcf':cAt code pf ([qi 16 12 12 1,qi 16 2 0 12,qi 35 2 12 2,⟨49,0,0,0,0⟩]++(fQ 15++(fQ 13++([q3 1 13 14 0]++(jE nv++
   (lS o S ((pf+10+2*nv+fR f.body:Nat):Int) f.body (pf+9+2*nv)++([q3 1 1 0 0,q3 1 14 13 0]++(lX 13++(lX 15++ [qi 16 12 12 4294967295,qi 27 0 15 0]))))))))):=by
   rw [hnv,ho];exact hcf
  obtain⟨hA,hcf'⟩:=hcf'.app;obtain⟨hP15,hcf'⟩:=hcf'.app;obtain⟨hP13,hcf'⟩:=hcf'.app;obtain⟨hAdd,hcf'⟩:=hcf'.app;obtain⟨hP0,hcf'⟩:=hcf'.app;obtain⟨hBody,hcf'⟩:=hcf'.app;obtain⟨hR,hcf'⟩:=hcf'.app;obtain⟨hQ13,hcf'⟩:=hcf'.app;obtain⟨hQ15,hEnd⟩:=hcf'.app;simp only [kX,fJ,fQ,lX,bP,bK,Nat.zero_add,Nat.reduceAdd]at hP15 hP13 hAdd hP0 hBody hR hQ13 hQ15 hEnd;have hpc0:c.pc=pf:=by rw [hpc,hpf];rfl
  have hdc:(d:Int)≤12:=by omega
  have hstart:Go code 3 c fun c3=>c3.pc=(if d=12 then pf+3 else pf+4)∧St ((d:Int)+1) F sp c3∧c3.r 15=jo q∧pSm c3 s∧c3.m=c.m:=by
   refine km hpc0 hA.head.1 (v:=(d:Int)+1) (by
    show some (wU (c.r 12+1))=_;rw [hst.d,gQ (by omega)]) fun c1 e1 e2 e3 e4 e5=> ?_
   refine km e1 hA.head.2.head.1 (v:=12) (by
    show some (wU (c1.r 0+12))=_;rw [e2,cH (by decide),hst.z];rfl) fun c2 f1 f2 f3 f4 f5=> ?_
   refine Jy (d:=2) (a:=12) (x:=2) (by rw [f1];exact hA.head.2.head.2.head.1) (Go.done (by decide) ⟨?_,⟨?_,?_,?_,?_⟩,?_,⟨fun i hi=> ?_,(f4.trans e4).trans hsm.i,(f5.trans e5).trans hsm.o⟩,f3.trans e3⟩)
   ·show(if c2.r 2≥c2.r 12 then _ else c2.pc+1)=_;rw [f2,ea (by decide),cH (by decide),e2,ea (by decide),f1];by_cases h12:d=12
    ·rw [ae (by omega),ar h12]
    ·rw [ar (by omega),ae h12];exact nt (by rw [show((pf+4:Nat):Int)-((pf+1+1:Nat):Int)=2 by omega];rfl) (by omega) (by omega)
   ·show c2.r 0=0;rw [f2,cH (by decide),e2,cH (by decide)];exact hst.z
   ·show c2.r 12=_;rw [f2,cH (by decide),e2,ea (by decide)]
   ·show c2.r 13=_;rw [f2,cH (by decide),e2,cH (by decide)];exact hst.f
   ·show c2.r 14=_;rw [f2,cH (by decide),e2,cH (by decide)];exact hst.s
   ·show c2.r 15=_;rw [f2,cH (by decide),e2,cH (by decide)];exact h15
   ·show c2.m _=_;rw [f3,e3];exact hsm.m i hi
  by_cases h12:d=12
  ·rw [ar h12]at h hstart;cases h;exact fun _=>hstart.weak (fun c3 ⟨e1,_⟩=>by unfold Bk;rw [e1];exact hA.head.2.head.2.head.2.head.1) (by omega)
  rw [ae h12]at h hstart;have hlo1:lo d=lo (d+1)+256:=by unfold lo;omega
  have hlo2:=uR (d:=d+1) (by omega)
  -- the frame
  have hframe:Go code (8+2*(nv:Int)) c fun c'=>c'.pc=pf+9+2*nv∧Pr o N (eG [] f.ps al) (d+1) (sp-8) (sp-8-4*(nv:Int)) s c'∧c'.m (sp-8)=F∧c'.m (sp-4)=jo q∧∀a,sp≤a→c'.m a=c.m a:=by
   refine hstart.seq (m:=5+2*(nv:Int)) (fun c3 ⟨e1,e2,e3,e4,e5⟩=> ?_) (by omega);refine(mI hP15 e1 e2 (by decide) ⟨by omega,by omega,ha⟩).seq (m:=3+2*(nv:Int)) (fun c4 ⟨f1,f2,f3,f4,f5,f6⟩=> ?_) (by omega);refine(mI hP13 f1 f2 (by decide) ⟨by omega,by omega,by omega⟩).seq (m:=1+2*(nv:Int)) (fun c5 ⟨g1,g2,g3,g4,g5,g6⟩=> ?_) (by omega);refine jN g1 hAdd.head.1 (v:=sp-8) (by
    show some (wU (c5.r 14+c5.r 0))=_;rw [g2.s,g2.z,gQ (by omega)];exact congrArg some (by omega)) fun c6 i1 i2 i3 i4 i5=> ?_
   have hst6:St ((d:Int)+1) (sp-8) (sp-8) c6:=⟨by rw [i2,cH (by decide)];exact g2.z,by rw [i2,cH (by decide)];exact g2.d,by rw [i2];exact ea (by decide),by rw [i2,cH (by decide),g2.s];omega⟩
   have hsm6:pSm c6 s:=by
    have h5:=(e4.push f3 f4 f5 (by omega)).push g3 g4 g5 (by omega);exact⟨fun i hi=>by rw [i3];exact h5.m i hi,i4.trans h5.i,i5.trans h5.o⟩
   have hm8:c6.m (sp-8)=F:=by
    rw [i3,g3,show sp-8=sp-4-4 by omega,qE,f6 13 (by decide)];exact e2.f
   have hm4:c6.m (sp-4)=jo q:=by
    rw [i3,g3,kO (by omega),f3,qE];exact e3
   have hmh:∀a,sp≤a→c6.m a=c.m a:=fun a ha=>by rw [i3,g3,kO (by omega),f3,kO (by omega),e5]
   refine(xU nv (p:=pf+9) (s:=s) hP0 i1 hst6 (by omega) (by omega) (by omega) hsm6).weak (fun c7 ⟨j1,j2,j3,j4,j5⟩=>⟨j1,⟨by rw [show(((d+1:Nat):Int))=(d:Int)+1 by omega];exact j2,⟨fun x hx=> ?_,fun x hx y hy e=> ?_⟩,fun x hx=> ?_,j3,hok,?_,⟨by omega,by omega⟩,hfu,⟨by omega,by omega⟩⟩,by rw [j4 _ (Int.le_refl _)];exact hm8,by rw [j4 _ (by omega)];exact hm4,fun a ha=>by rw [j4 a (by omega)];exact hmh a ha⟩) (by omega)
   ·rcases hoff x hx with⟨i,hi,he⟩|⟨_,j,hj1,hj2,he⟩
    ·obtain⟨hil,-⟩:=cJ.1 hi;have:va o (sp-8) x=sp+4*((f.ps.length:Int)-1-i):=by unfold va;rw [he,gQ (by omega)];omega
     rw [this];exact⟨⟨by omega,by omega,by omega⟩,by omega⟩
    ·have:va o (sp-8) x=sp-8-4*(j:Int):=by unfold va;rw [he,qw,qw];omega
     rw [this];exact⟨⟨by omega,by omega,by omega⟩,by omega⟩
   ·refine hinj x hx y hy ?_;unfold va at e;rcases hoff x hx with⟨i,hi,he⟩|⟨_,j,hj1,hj2,he⟩<;>rcases hoff y hy with⟨i',hi',he'⟩|⟨_,j',hj1',hj2',he'⟩
    ·obtain⟨hil,-⟩:=cJ.1 hi;obtain⟨hil',-⟩:=cJ.1 hi';rw [he,he',qw,qw]at e;rw [he,he'];omega
    ·obtain⟨hil,-⟩:=cJ.1 hi;rw [he,he',qw,qw,qw]at e;exfalso;omega
    ·obtain⟨hil',-⟩:=cJ.1 hi';rw [he,he',qw,qw,qw]at e;exfalso;omega
    ·rw [he,he',qw,qw,qw,qw]at e;rw [he,he',qw,qw];omega
   ·rcases hoff x hx with⟨i,hi,he⟩|⟨hn,j,hj1,hj2,he⟩
    ·obtain⟨hil,-⟩:=cJ.1 hi;have:va o (sp-8) x=sp+4*((f.ps.length:Int)-1-i):=by unfold va;rw [he,gQ (by omega)];omega
     obtain⟨a,ha'⟩:∃a,al[i]?=some a:=⟨_,bN (by omega)⟩
     rw [this,j4 _ (by omega),hmh _ (by omega),xq f.ps al [] i x a hN.nd hi ha',←hargs i a ha',hal]
    ·have:va o (sp-8) x=sp-8-4*(j:Int):=by unfold va;rw [he,qw,qw];omega
     rw [this,j5 j hj1 hj2,pH f.ps al [] x hn];rfl
   ·exact okVs.bind f.ps al (fun p hp=>by simp at hp) hao
  cases hb:gW g fs (d+1) (eG [] f.ps al) f.body s with
  | none=>rw [hb]at h;simp at h
  | some rb=>
   rw [hb]at h;have hB:∀c',(c'.pc=pf+9+2*nv∧Pr o N (eG [] f.ps al) (d+1) (sp-8) (sp-8-4*(nv:Int)) s c'∧c'.m (sp-8)=F∧c'.m (sp-4)=jo q∧∀a,sp≤a→c'.m a=c.m a)→
     SR code (pf+9+2*nv+fR f.body) (pf+10+2*nv+fR f.body) 50 0 o N (d+1) (sp-8) (sp-8-4*(nv:Int)) c' s rb:=fun c' ⟨e1,e2,_⟩=>
    ih.b g (Nat.lt_succ_self g) (d+1) _ f.body s rb hb o N (pf+9+2*nv) (pf+10+2*nv+fR f.body) (sp-8) (sp-8-4*(nv:Int)) c' hN.so hBody (by omega) (by omega) e1 e2 (by omega)
   cases rb with
   | err e=>cases h;exact fun he=>hframe.seq (fun c' hc'=>hB c' hc' he) (by omega)
   | ok qr s1=>
    obtain⟨vs1,qr⟩:=qr;cases h;have hf1:0≤s1.fuel:=by
     obtain⟨_,c2,_,_,hP⟩:=hframe;exact(hB c2 hP).1
    refine⟨hf1,hframe.seq (m:=100*(s.fuel-s1.fuel)+10) (fun c1 hc1=>(hB c1 hc1).2.seq (m:=9) (fun c2 ⟨e1,e2,e3,e4,e5⟩=> ?_) (by omega)) (by omega)⟩;obtain⟨k1,k2,k3,k4,k5⟩:=hc1;have hva:∀x∈N,∀a,(a=sp-8∨a=sp-4∨sp+4*(al.length:Int)≤a)→a≠va o (sp-8) x:=fun x hx a ha'=>by
     rcases hoff x hx with⟨i,hi,he⟩|⟨_,j,hj1,hj2,he⟩
     ·obtain⟨hil,-⟩:=cJ.1 hi;unfold va;rw [he,gQ (by omega)];omega
     ·unfold va;rw [he,qw,qw];omega
    have hm8:c2.m (sp-8)=F:=(e4 _ (by omega) fun x hx=>hva x hx _ (.inl J)).trans k3;have hm4:c2.m (sp-4)=jo q:=(e4 _ (by omega) fun x hx=>hva x hx _ (.inr (.inl J))).trans k4;have hmh:∀a,sp+4*(al.length:Int)≤a→c2.m a=c.m a:=fun a ha'=>(e4 _ (by omega) fun x hx=>hva x hx _ (.inr (.inr ha'))).trans (k5 a (by omega))
    have hend:Go code 1 c2 fun c3=>c3.pc=pf+10+2*nv+fR f.body∧c3.r 1=qr.getD 0∧St ((d:Int)+1) (sp-8) (sp-8-4*(nv:Int)) c3∧pSm c3 s1∧c3.m=c2.m:=by
     rw [show(((d+1:Nat):Int))=(d:Int)+1 by omega]at e1;cases qr with
     | some v=>exact Go.done (by decide) ⟨(e5.2 v rfl).1,(e5.2 v rfl).2,e1,e2,rfl⟩
     | none=>
      refine jN (e5.1 J) hR.head.1 (v:=0) (by
       show some (wU (c2.r 0+c2.r 0))=_;rw [e1.z];rfl) fun c3 g1 g2 g3 g4 g5=>Go.done (by decide) ⟨by rw [g1];omega,by rw [g2];exact ea (by decide),e1.of fun k hk=>by rw [g2];exact cH (by omega),⟨fun i hi=>by rw [g3];exact e2.m i hi,g4.trans e2.i,g5.trans e2.o⟩,g3⟩
    refine hend.seq (m:=8) (fun c3 ⟨f1,f2,f3,f4,f5⟩=> ?_) (by decide);refine jN f1 (by
     have:=hR.head.2.head.1;rw [show pf+10+2*nv+fR f.body=pf+9+2*nv+fR f.body+1 by omega];exact this) (v:=sp-8) (by
     show some (wU (c3.r 13+c3.r 0))=_;rw [f3.f,f3.z,Int.add_zero,gQ (by omega)]) fun c4 g1 g2 g3 g4 g5=> ?_
    have h14:c4.r 14=sp-8:=by rw [g2];exact ea (by decide)
    refine(wo (r:=13) hQ13 (g1.trans (by omega)) h14 (by decide) ⟨by omega,by omega,by omega⟩).seq (m:=5) (fun c5 ⟨i1,i2,i3,i4⟩=> ?_) (by decide);refine(wo (sp:=sp-4) (r:=15) hQ15 (i1.trans (by omega)) (by rw [i3];omega) (by decide) ⟨by omega,by omega,by omega⟩).seq (m:=3) (fun c6 ⟨j1,j2,j3,j4⟩=> ?_) (by decide);have hm6:c6.m=c2.m:=by rw [j4.m,i4.m,g3,f5]
    have h13:c6.r 13=F:=by rw [j4.r 13 (by decide),i2,g3,f5];exact hm8
    have h15':c6.r 15=jo q:=by rw [j2,i4.m,g3,f5];exact hm4
    have h0:c6.r 0=0:=by rw [j4.r 0 (by decide),i4.r 0 (by decide),g2,cH (by decide)];exact f3.z
    have h1:c6.r 1=qr.getD 0:=by rw [j4.r 1 (by decide),i4.r 1 (by decide),g2,cH (by decide)];exact f2
    have h12':c6.r 12=(d:Int)+1:=by rw [j4.r 12 (by decide),i4.r 12 (by decide),g2,cH (by decide)];exact f3.d
    refine km (p:=pf+15+2*nv+fR f.body) (j1.trans (by omega)) (by
     have:=hEnd.head.1;rw [show pf+15+2*nv+fR f.body=pf+4+2+2+1+2*nv+fR f.body+2+2+2 by omega];exact this) (v:=(d:Int)) (by
     show some (wU (c6.r 12+4294967295))=_;rw [h12',qw];exact congrArg some (by omega)) fun c7 l1 l2 l3 l4 l5=> ?_
    refine Jw (d:=0) (a:=15) (x:=0) (by
     have:=hEnd.head.2.head.1;rw [l1,show pf+15+2*nv+fR f.body+1=pf+4+2+2+1+2*nv+fR f.body+2+2+2+1 by omega];exact this) (Go.done (by decide) ⟨?_,?_,⟨?_,?_,?_,?_⟩,⟨fun i hi=> ?_,?_,?_⟩,fun a ha'=> ?_⟩)
    ·show uK (wU (c7.r 15+0))=q;rw [l2,cH (by decide),h15'];exact IW (by omega)
    ·show rp c7.r 0 (jo (c7.pc+1)) 1=_;rw [cH (by decide),l2,cH (by decide)];exact h1
    ·show rp c7.r 0 (jo (c7.pc+1)) 0=_;rw [Fe,l2,cH (by decide)];exact h0
    ·show rp c7.r 0 (jo (c7.pc+1)) 12=_;rw [cH (by decide),l2,ea (by decide)]
    ·show rp c7.r 0 (jo (c7.pc+1)) 13=_;rw [cH (by decide),l2,cH (by decide)];exact h13
    ·show rp c7.r 0 (jo (c7.pc+1)) 14=_;rw [cH (by decide),l2,cH (by decide),j3];omega
    ·show c7.m _=_;rw [l3,hm6,←f5];exact f4.m i hi
    ·exact(((l4.trans j4.i).trans i4.i).trans g4).trans f4.i
    ·exact(((l5.trans j4.o).trans i4.o).trans g5).trans f4.o
    ·show c7.m a=_;rw [l3,hm6];exact hmh a ha'
theorem Nb(hF:VF fs)(hC:CF code fs S)(g:Nat):HD code fs S g:=by
 induction g with
 | zero=>exact⟨⟨fun _ h=>absurd h (Nat.not_lt_zero _),fun _ h=>absurd h (Nat.not_lt_zero _),fun _ h=>absurd h (Nat.not_lt_zero _)⟩,fun _ h=>absurd h (Nat.not_lt_zero _),fun _ h=>absurd h (Nat.not_lt_zero _),fun _ h=>absurd h (Nat.not_lt_zero _)⟩
 | succ g ih=>
  have up:∀{T:Nat→Prop},(∀g'<g,T g')→T g→∀g'<g+1,T g':=fun{T} h1 h2 g' hg=>by
   rcases Nat.lt_or_eq_of_le (Nat.le_of_lt_succ hg)with h|h
   ·exact h1 g' h
   ·exact h▸h2
  exact⟨⟨up ih.x (Jn hF hC.cp ih.toHA),up ih.k (Jr hF ih.toHA),up ih.c (Jt hF hC ih)⟩,up ih.b (Jv hF ih),up ih.s (Jq hF ih),up ih.w (Jp hF ih)⟩
end
theorem fB{x:Ba}{l:List Ba}:cn x l=true↔x∈l:=by
 unfold cn;rw [List.any_eq_true];constructor
 ·rintro ⟨y,h1,h2⟩;have h2:x=y:=by simpa using h2
  exact h2▸h1
 ·exact fun h=>⟨x,h,by simp⟩
mutual
theorem P3{fs:List Tf}{ns N:List Ba}(hs:∀x∈ns,x∈N):∀t:Tx,eX fs ns t=0→eX fs N t=0
 | .mk k n nm v kids,h=>by
  obtain⟨h1,h2⟩:=bw.1 h;refine bw.2 ⟨?_,AO hs kids h2⟩;by_cases hk:k=2
  ·rw [ar hk]at h1 ⊢;by_cases hm:cn nm ns=true
   ·rw [ar (fB.2 (hs nm (fB.1 hm)))]
   ·rw [ae hm]at h1;exact absurd h1 (by decide)
  ·rw [ae hk]at h1 ⊢;exact h1
theorem AO{fs:List Tf}{ns N:List Ba}(hs:∀x∈ns,x∈N):∀l:List Tx,ir fs ns l=0→ir fs N l=0
 | [],_=>rfl
 | t::r,h=>by
  obtain⟨h1,h2⟩:=bw.1 h;exact bw.2 ⟨P3 hs t h1,AO hs r h2⟩
end
theorem XO.list{fs:List Tf}{N:List Ba}:∀{l:List Tx},GXs l→nq l=true→ir fs N l=0→∀u∈l,XO fs N u
 | [],_,_,_,u,hu=>by simp at hu
 | t::r,hg,hr,he,u,hu=>by
  have hr2:(rX t&&nq r)=true:=hr;rw [Bool.and_eq_true]at hr2;obtain⟨e1,e2⟩:=bw.1 he;rcases List.mem_cons.1 hu with rfl|hu
  ·exact⟨hg.1,hr2.1,e1⟩
  ·exact XO.list hg.2 hr2.2 e2 u hu
theorem G6:∀{l:List Tx}{t:Tx},t∈l→dX t≤f_ l
 | [],t,h=>by simp at h
 | a::r,t,h=>by
  show dX t≤max (dX a) (f_ r);rcases List.mem_cons.1 h with rfl|h
  ·omega
  ·have:=G6 h;omega
theorem A5(fs:List Tf)(ns:List Ba)(k:Int)(nm:Ba)(ve:SV)(es:List Tx)(vb:SV)(body:List Ty)(vl:SV)(els:List Ty):bY fs ns (.mk k nm ve es vb body vl els)=
  ((cV fs (cV fs (if k=1 then ns++ [nm]else ns) body).1 els).1,fst (if k=2 then(if cn nm ns=true then 0 else 21)else 0) (fst (ir fs ns es) (fst (if k=1 then(if cn nm ns=true then 22 else 0)else 0) (fst (cV fs (if k=1 then ns++ [nm]else ns) body).2 (cV fs (cV fs (if k=1 then ns++ [nm]else ns) body).1 els).2)))):=rfl
theorem xe(fs:List Tf)(ns:List Ba)(t:Ty)(r:List Ty):cV fs ns (t::r)=((cV fs (bY fs ns t).1 r).1,fst (bY fs ns t).2 (cV fs (bY fs ns t).1 r).2):=rfl
mutual
theorem HE{fs:List Tf}:∀(t:Ty)(ns:List Ba),∀x∈ns,x∈(bY fs ns t).1
 | .mk k nm ve es vb body vl els,ns,x,hx=>by
  rw [A5];refine lB els _ x (lB body _ x ?_);split
  ·exact List.mem_append_left _ hx
  ·exact hx
theorem lB{fs:List Tf}:∀(l:List Ty)(ns:List Ba),∀x∈ns,x∈(cV fs ns l).1
 | [],ns,x,hx=>hx
 | t::r,ns,x,hx=>by
  rw [xe];exact lB r _ x (HE t ns x hx)
end
mutual
theorem OW{fs:List Tf}:∀(t:Ty)(ns N:List Ba)(d:Nat),(∀x∈(bY fs ns t).1,x∈N)→GY t→rY t=true→(bY fs ns t).2=0→Eh d t=false→SO fs N t
 | .mk k nm ve es vb body vl els,ns,N,d,hN,hg,hr,he,hd=>by
  have hr2:(uf k nm es.length body.length els.length&&nq es&&lK body&&lK els)=true:=hr;simp only [Bool.and_eq_true]at hr2;obtain⟨⟨⟨h1,h2⟩,h3⟩,h4⟩:=hr2;have hd2:(decide (d>8) || decide (f_ es>8) || dC (d+1) body || dC (d+1) els)=false:=hd;simp only [Bool.or_eq_false_iff,decide_eq_false_iff_not]at hd2;obtain⟨⟨⟨d1,d2⟩,d3⟩,d4⟩:=hd2;have hsub:=HE (fs:=fs) (.mk k nm ve es vb body vl els) ns;rw [A5]at he hN;obtain⟨e1,he⟩:=bw.1 he;obtain⟨e2,he⟩:=bw.1 he;obtain⟨e3,he⟩:=bw.1 he;obtain⟨e4,e5⟩:=bw.1 he;have hns:∀x∈ns,x∈N:=fun x hx=>hN x (hsub x hx)
  refine⟨h1,fun u hu=>⟨XO.list hg.2.1.2 h2 (AO hns es e2) u hu,by have:=G6 hu;omega⟩,fun hk=> ?_,⟨hg.2.2.1.1,vT body _ N (d+1) (fun x hx=>hN x (lB els _ x hx)) hg.2.2.1.2 h3 e4 d3⟩,hg.2.2.2.1,vT els _ N (d+1) hN hg.2.2.2.2 h4 e5 d4⟩;by_cases hk1:k=1
  ·refine hN nm (lB els _ nm (lB body _ nm ?_));rw [ar hk1];exact List.mem_append_right _ (List.mem_singleton_self _)
  ·have hk2:k=2:=by omega
   rw [ar hk2]at e1;by_cases hm:cn nm ns=true
   ·exact hns nm (fB.1 hm)
   ·rw [ae hm]at e1;exact absurd e1 (by decide)
theorem vT{fs:List Tf}:∀(l:List Ty)(ns N:List Ba)(d:Nat),(∀x∈(cV fs ns l).1,x∈N)→GYs l→lK l=true→(cV fs ns l).2=0→dC d l=false→SOs fs N l
 | [],_,_,_,_,_,_,_,_=>trivial
 | t::r,ns,N,d,hN,hg,hr,he,hd=>by
  have hr2:(rY t&&lK r)=true:=hr;rw [Bool.and_eq_true]at hr2;have hd2:(Eh d t || dC d r)=false:=hd;rw [Bool.or_eq_false_iff]at hd2;rw [xe]at he hN;obtain⟨e1,e2⟩:=bw.1 he;exact⟨OW t ns N d (fun x hx=>hN x (lB r _ x hx)) hg.1 hr2.1 e1 hd2.1,vT r _ N d hN hg.2 hr2.2 e2 hd2.2⟩
end
structure Jo(ps ns:List Ba)(o:Om)(n:Int)(vs:List Ba):Prop where
 ens:ns=ps++vs
 nd:ns.Nodup
 en:(vs.length:Int)=n
 p:∀(i:Nat) x,ps[i]?=some x→bM o x=8+4*((ps.length:Int)-1-i)
 v:∀(j:Nat) x,vs[j]?=some x→bM o x=wU (-(4*((j:Int)+1)))
theorem Jo.add{ps ns:List Ba}{o:Om}{n:Int}{vs:List Ba}{nm:Ba}(h:Jo ps ns o n vs)(hn:nm∉ns):Jo ps (ns++ [nm]) (fc o nm (wU (-(4*(n+1))))) (n+1) (vs++ [nm]):=by
 refine⟨by rw [h.ens,List.append_assoc],List.nodup_append.2 ⟨h.nd,by simp,fun a ha b hb e=> ?_⟩,by rw [bG,cE,←h.en];omega,fun i x hi=> ?_,fun j x hj=> ?_⟩
 ·rw [List.mem_singleton.1 hb]at e;exact hn (e▸ha)
 ·rw [iv,ae fun e=>hn (by rw [e,h.ens];exact List.mem_append_left _ (bT hi))];exact h.p i x hi
 ·by_cases hl:j<vs.length
  ·rw [List.getElem?_append_left hl]at hj;rw [iv,ae fun e=>hn (by rw [e,h.ens];exact List.mem_append_right _ (bT hj))];exact h.v j x hj
  ·rw [List.getElem?_append_right (by omega)]at hj;have:j=vs.length:=by
    have:=(cJ.1 hj).1;simp at this;omega
   subst this;rw [Nat.sub_self]at hj;cases hj;rw [iv,ar J,h.en]
theorem AC(k:Int)(nm:Ba)(ve:SV)(es:List Tx)(vb:SV)(body:List Ty)(vl:SV)(els:List Ty)(p:Om×Int):gD (.mk k nm ve es vb body vl els) p=gDs els (gDs body (if k=1 then(fc p.1 nm (wU (-(4*(p.2+1)))),p.2+1)else p)):=rfl
mutual
theorem SD{fs:List Tf}{ps:List Ba}:∀(t:Ty)(ns:List Ba)(p:Om×Int),(∃vs,Jo ps ns p.1 p.2 vs)→(bY fs ns t).2=0→∃vs,Jo ps (bY fs ns t).1 (gD t p).1 (gD t p).2 vs
 | .mk k nm ve es vb body vl els,ns,p,h,he=>by
  rw [A5]at he ⊢;obtain⟨e1,he⟩:=bw.1 he;obtain⟨e2,he⟩:=bw.1 he;obtain⟨e3,he⟩:=bw.1 he;obtain⟨e4,e5⟩:=bw.1 he;rw [AC];refine BX els _ _ (BX body _ _ ?_ e4) e5;by_cases hk:k=1
  ·rw [ar hk]at e3;rw [ar hk,ar hk];obtain⟨vs,hvs⟩:=h;refine⟨_,hvs.add fun hm=> ?_⟩;rw [ar (fB.2 hm)]at e3;exact absurd e3 (by decide)
  ·rw [ae hk,ae hk];exact h
theorem BX{fs:List Tf}{ps:List Ba}:∀(l:List Ty)(ns:List Ba)(p:Om×Int),(∃vs,Jo ps ns p.1 p.2 vs)→(cV fs ns l).2=0→∃vs,Jo ps (cV fs ns l).1 (gDs l p).1 (gDs l p).2 vs
 | [],ns,p,h,_=>h
 | t::r,ns,p,h,he=>by
  rw [xe]at he ⊢;obtain⟨e1,e2⟩:=bw.1 he;exact BX r _ _ (SD t ns p h e1) e2
end
mutual
theorem Nr:∀(t:Ty)(p:Om×Int),(gD t p).2=p.2+vY t
 | .mk k nm ve es vb body vl els,p=>by
  rw [AC,oR els,oR body,show vY (.mk k nm ve es vb body vl els)=(if k=1 then 1 else 0)+dg body+dg els from J];by_cases h:k=1
  ·rw [ar h,ar h];show p.2+1+_+_=_;omega
  ·rw [ae h,ae h];omega
theorem oR:∀(l:List Ty)(p:Om×Int),(gDs l p).2=p.2+dg l
 | [],p=>by show p.2=p.2+((0:Nat):Int);omega
 | t::r,p=>by
  show(gDs r (gD t p)).2=_;rw [oR r,Nr t,show dg (t::r)=vY t+dg r from J];omega
end
theorem GB(n:Int):∀(l:List Ba)(k:Int)(o:Om),l.Nodup→(∀(i:Nat) x,l[i]?=some x→bM (gP n k l o) x=8+4*(n-1-(k+i)))∧∀x,x∉l→bM (gP n k l o) x=bM o x
 | [],k,o,_=>⟨fun i x h=>by simp at h,fun _ _=>rfl⟩
 | p::r,k,o,h=>by
  rw [List.nodup_cons]at h;obtain⟨i1,i2⟩:=GB n r (k+1) (fc o p (8+4*(n-1-k))) h.2;refine⟨fun i x hi=> ?_,fun x hx=> ?_⟩
  ·cases i with
   | zero=>
    cases hi;show bM (gP n (k+1) r _) p=_;rw [i2 p h.1,iv,ar J];show 8+4*(n-1-k)=8+4*(n-1-(k+0));rw [Int.add_zero]
   | succ i=>
    have:=i1 i x hi;show bM (gP n (k+1) r _) x=_;rw [this];omega
  ·rw [List.mem_cons,not_or]at hx;show bM (gP n (k+1) r _) x=_;rw [i2 x hx.2,iv,ae fun e=>hx.1 e.symm]
theorem G5:∀(l ns:List Ba),ns.Nodup→qU ns l=0→(ns++l).Nodup
 | [],ns,h,_=>by rw [List.append_nil];exact h
 | x::r,ns,h,he=>by
  obtain⟨e1,e2⟩:=bw.1 he;have hx:x∉ns:=fun hm=>by rw [ar (fB.2 hm)]at e1;exact absurd e1 (by decide)
  have:=G5 r (ns++ [x]) (List.nodup_append.2 ⟨h,by simp,fun a ha b hb e=>hx (by rw [List.mem_singleton.1 hb]at e;exact e▸ha)⟩) e2;rw [List.append_assoc]at this;exact this
theorem PX{fs:List Tf}{f:Tf}(hg:GF f)(hr:lK f.body=true)(h:kD fs f=0):pFO fs f (cV fs f.ps f.body).1:=by
 obtain⟨h1,h2⟩:=bw.1 h;obtain⟨h3,h4⟩:=bw.1 h2;have hb:¬(f.ps.length>4∨f.ps.length+dg f.body>12∨cB f.body>400∨dC 1 f.body=true):=fun hb=>by
  rw [ar hb]at h1;exact absurd h1 (by decide)
 simp only [not_or,Bool.not_eq_true]at hb;obtain⟨b1,b2,b3,b4⟩:=hb;have hnd:f.ps.Nodup:=by
  have:=G5 f.ps [] (by simp) h3;exact this
 have hj0:Jo f.ps f.ps (gP f.ps.length 0 f.ps []) 0 []:=⟨by rw [List.append_nil],hnd,rfl,fun i x hi=>by
  rw [(GB f.ps.length f.ps 0 [] hnd).1 i x hi,Int.zero_add],fun j x hj=>by simp at hj⟩
 obtain⟨vs,hj⟩:=BX (fs:=fs) f.body f.ps (gP f.ps.length 0 f.ps [],0) ⟨[],hj0⟩ h4;have hgo:dF f=gDs f.body (gP f.ps.length 0 f.ps [],0):=J;have hnv:(dF f).2=(dg f.body:Int):=by rw [hgo,oR];omega
 rw [←hgo]at hj;have hvl:=hj.en;have hns:=hj.ens;have hndN:=hj.nd;have off:∀x∈(cV fs f.ps f.body).1,(∃i:Nat,f.ps[i]?=some x∧bM (dF f).1 x=8+4*((f.ps.length:Int)-1-i))∨(x∉f.ps∧∃j:Nat,1≤j∧j≤(dF f).2.toNat∧bM (dF f).1 x=wU (-(4*(j:Int)))∧vs[j-1]?=some x):=fun x hx=>by
  rw [hns]at hx;by_cases hp:x∈f.ps
  ·obtain⟨i,hi⟩:=List.getElem?_of_mem hp;exact .inl ⟨i,hi,hj.p i x hi⟩
  ·rcases List.mem_append.1 hx with hx|hx
   ·exact absurd hx hp
   ·obtain⟨j,hjx⟩:=List.getElem?_of_mem hx;have hl:=(cJ.1 hjx).1;refine .inr ⟨hp,j+1,by omega,by omega,?_,hjx⟩;rw [hj.v j x hjx];rfl
 refine⟨vT f.body f.ps _ 1 (fun _ h=>h) hg.2.2.2.2.1 hr h4 b4,by omega,by omega,hnd,fun x hx=> ?_,fun x hx y hy e=> ?_⟩
 ·rcases off x hx with h|⟨h1,j,h2,h3,h4,_⟩
  ·exact .inl h
  ·exact .inr ⟨h1,j,h2,h3,h4⟩
 ·rcases off x hx with⟨i,hi,he⟩|⟨_,j,hj1,hj2,he,hv⟩<;>rcases off y hy with⟨i',hi',he'⟩|⟨_,j',hj1',hj2',he',hv'⟩
  ·have:i=i':=by rw [he,he']at e;omega
   subst this;exact cf (hi.symm.trans hi')
  ·have hl:=(cJ.1 hi).1;rw [he,he',qw]at e;exfalso;omega
  ·have hl:=(cJ.1 hi').1;rw [he,he',qw]at e;exfalso;omega
  ·have:j=j':=by rw [he,he',qw,qw]at e;omega
   subst this;exact cf (hv.symm.trans hv')
theorem BJ{fs:List Tf}(h:∀(i:Nat)(f:Tf),fs[i]?=some f→ti fs f.name=(i:Int)):(fs.map Tf.name).Nodup:=by
 refine List.pairwise_iff_getElem.2 fun i j hi hj hij e=> ?_
 rw [List.getElem_map,List.getElem_map]at e;have hil:i<fs.length:=by simpa using hi
 have hjl:j<fs.length:=by simpa using hj
 have h1:=h i fs[i] (bN hil);have h2:=h j fs[j] (bN hjl);rw [e]at h1;omega
theorem Ep{S:Ba→Int}{code:List Qi}:∀(l:List Tf)(p:Nat),cAt code p (Eq S l p)→p+zo l≤1984→∀x f,cy l x=some f→∃q:Nat,iU l p x=(q:Int)∧cAt code q (zF S f q)∧q+wF f≤1984
 | [],p,_,_,x,f,hf=>by simp [cy]at hf
 | a::r,p,hc,hl,x,f,hf=>by
  have hc':cAt code p (zF S a p++Eq S r (p+wF a)):=hc;have hw:zo (a::r)=wF a+zo r:=J;obtain⟨h1,h2⟩:=hc'.app;rw [zj]at h2;unfold iU;unfold cy at hf;rw [List.find?_cons]at hf;by_cases hn:a.name=x
  ·rw [decide_eq_true hn]at hf;cases hf;rw [ar hn];exact⟨p,J,h1,by omega⟩
  ·rw [decide_eq_false hn]at hf;rw [ae hn];exact Ep r (p+wF a) h2 (by omega) x f hf
theorem Qb{fs:List Tf}{f:Tf}(hg:GP fs)(h:Fine fs f)(hr:∀f∈fs,lK f.body=true)(hl:(jY fs).length≤1984):CF (jY fs) fs (iU fs 3):=by
 have hle:(jY fs).length=3+zo fs:=by
  unfold jY;rw [bG,qW];rfl
 refine⟨fun x g hx=>Ep fs 3 ?_ (by omega) x g hx,fun x g hx=> ?_⟩
 ·have:=cAt.of (a:= [qi 16 14 0 16384,qi 40 15 0 (wU (iU fs 3 dM-1)),⟨48,0,0,0,0⟩]) (l:=Eq (iU fs 3) fs 3) (b:= []);rw [List.append_nil]at this;exact this
 ·have hm:=io hx;exact⟨_,PX (hg.2 g hm) (hr g hm) (h.each g hm)⟩
def Uv(code:List Qi)(c:Qs)(fuel:Int):Re Int→Prop
 | .ok v s1=>0≤s1.fuel∧Go code (100*(fuel-s1.fuel)+50) c fun c'=>code[c'.pc]?=some ⟨48,0,0,0,0⟩∧c'.out=s1.out∧∀i:Nat,i<256→c'.m (8192+4*(i:Int))=s1.mem i
 | .err e=>e=26→Go code (100*fuel+150) c (Bk code)
theorem IT{fs:List Tf}{f:Tf}{ins:List Int}{fuel:Int}{g:Nat}{r:Re Int}(hg:GP fs)(h:Fine fs f)(hr:∀f∈fs,lK f.body=true)(hl:(jY fs).length≤1984)(hi:∀x∈ins,oW x)(hf0:0≤fuel)(hf:fuel≤1000000000000)
  (he:lM g fs 0 f [] (BR ins fuel)=some r):Uv (jY fs) ⟨0,fun _=>0,fun _=>0,ins,[]⟩ fuel r:=by
 have hC:=Qb hg h hr hl;obtain⟨pm,hpm,hcm,hlm⟩:=hC.fn _ _ h.main;have hc:cAt (jY fs) 0 (jY fs):=fun j i hj=>by rw [Nat.zero_add];exact hj
 have hc':cAt (jY fs) 0 ([qi 16 14 0 16384,qi 40 15 0 (wU (iU fs 3 dM-1)),⟨48,0,0,0,0⟩]++Eq (iU fs 3) fs 3):=hc;have h3:=hc'.app.1;have hfn:=tk h.main;have hs:Go (jY fs) 2 ⟨0,fun _=>0,fun _=>0,ins,[]⟩ fun c=>c.pc=pm∧c.r 15=jo 2∧St ((0:Nat):Int) 0 16384 c∧pSm c (BR ins fuel):=by
  refine km (c:=⟨0,fun _=>0,fun _=>0,ins,[]⟩) (p:=0) J h3.head.1 (v:=16384) J fun c1 e1 e2 e3 e4 e5=> ?_
  refine sT (d:=15) (a:=0) (x:=wU (iU fs 3 dM-1)) (by rw [e1];exact h3.head.2.head.1) (Go.done (by decide) ⟨?_,?_,⟨?_,?_,?_,?_⟩,⟨fun i _=> ?_,e4,e5⟩⟩)
  ·show uK (wU (jo c1.pc+_))=pm;rw [e1,hpm];exact nt J (by omega) (by omega)
  ·show rp c1.r 15 (jo (c1.pc+1)) 15=_;rw [ea (by decide),e1]
  ·show rp c1.r 15 (jo (c1.pc+1)) 0=0;rw [cH (by decide),e2];rfl
  ·show rp c1.r 15 (jo (c1.pc+1)) 12=_;rw [cH (by decide),e2];rfl
  ·show rp c1.r 15 (jo (c1.pc+1)) 13=0;rw [cH (by decide),e2];rfl
  ·show rp c1.r 15 (jo (c1.pc+1)) 14=16384;rw [cH (by decide),e2];rfl
  ·show c1.m _=0;rw [e3]
 have hR:∀c,(c.pc=pm∧c.r 15=jo 2∧St ((0:Nat):Int) 0 16384 c∧pSm c (BR ins fuel))→CR (jY fs) 2 0 0 16384 0 c (BR ins fuel) r:=fun c ⟨e1,e2,e3,e4⟩=>
  (Nb h.vf hC (g+1)).c g (Nat.lt_succ_self g) 0 f [] (BR ins fuel) r he 0 16384 c 2 (by rw [hfn];exact h.main) (by rw [h.noP];rfl) (by simp) (by rw [hfn,hpm];exact e1) e2 (by decide) e3 e4 (Af hi hf) hf0 rfl (by decide) (by decide) (by decide) (fun i x hi=>by simp at hi)
 cases r with
 | err e=>exact fun h26=>hs.seq (fun c hc=>hR c hc h26) (by show 2+(100*fuel+100)≤_;omega)
 | ok v s1=>
  have hf1:0≤s1.fuel:=by
   obtain⟨_,c2,_,_,hP⟩:=hs;exact(hR c2 hP).1
  refine⟨hf1,hs.seq (fun c hc=>(hR c hc).2.weak (fun c' ⟨e1,e2,e3,e4,e5⟩=>⟨?_,e4.o,e4.m⟩) (Int.le_refl _)) (by show 2+(100*(fuel-s1.fuel)+45)≤_;omega)⟩;rw [e1];exact h3.head.2.head.2.head.1
structure Msc(code:List Qi)(s:Mm):Prop where
 hs:MO s 64
 hb:byL s.d
 rt:∀p:Nat,p<64→s.r.getD p 0=xi p
 im:∀(k:Nat)(i:Qi),code[k]?=some i→∀j:Nat,j<4→s.i[256+4*k+j]?=(fK (nw i))[j]?
 len:code.length≤1984
 va:∀(k:Nat)(i:Qi),code[k]?=some i→VQ i∧0≤i.imm∧i.imm<4294967296
structure Sim(code:List Qi)(c:Qs)(x:Int)(s:Mm):Prop where
 k:Msc code s
 mem:∀a,BM a→BV s.d a.toNat=c.m a
 h0:c.r 0=0
 hr:∀k,0≤c.r k∧c.r k<4294967296
 pc:c.pc<1984→x=jo c.pc
 xb:0≤x∧x<4294967296
 hi:∀v∈c.inp,0≤v∧v<4294967296
theorem O4{p:Nat}(h:0<p∧p<32):xi p/4%2=1:=by
 unfold xi;rw [ae (by omega),ar (by omega)];rfl
theorem Ml{p:Nat}(h:32≤p):xi p=3:=by
 unfold xi;rw [ar h]
theorem Sim.pcl{code:List Qi}{c:Qs}{x:Int}{s:Mm}(h:Sim code c x s){i:Qi}(hc:code[c.pc]?=some i):c.pc<1984∧x=256+4*(c.pc:Int):=by
 obtain⟨h1,-⟩:=cJ.1 hc;have:=h.k.len;exact⟨by omega,h.pc (by omega)⟩
theorem Sim.stx{code:List Qi}{c:Qs}{x:Int}{s:Mm}(h:Sim code c x s){i:Qi}(hc:code[c.pc]?=some i){st:Int}(hst:0≤st∧st<1000000000000000):Stx s i x c.r st:=by
 obtain⟨h1,h2⟩:=h.pcl hc;obtain⟨hv,him⟩:=h.k.va _ _ hc;have hl:=h.k.hs.d;refine⟨⟨him,hv,⟨by omega,by omega⟩,by omega,fun k h3 h4=> ?_,fun k hk=> ?_⟩,by omega,h.h0,h.hr,hst⟩
 ·unfold zc;rw [show((x+k)/256).toNat=(x+k).toNat/256 by omega,h.k.rt _ (by omega),O4 (by omega),decide_eq_true (by omega)];rfl
 ·rw [show x.toNat+k=256+4*c.pc+k by omega];exact h.k.im _ _ hc k hk
theorem Bv{code:List Qi}{s:Mm}(h:Msc code s){a:Int}(ha:BM a){q:Int}(hq:q=1∨q=2):∀k:Int,0≤k→k<4→zc s (IntKind.u32.wrap (a+k)) q=true:=fun k h1 h2=>by
 obtain⟨ha1,ha2,ha3⟩:=ha;have hl:=h.hs.d;rw [cd (by omega)];unfold zc;rw [show((a+k)/256).toNat=(a+k).toNat/256 by omega,h.rt _ (by omega),Ml (by omega),decide_eq_true (by omega)];rcases hq with rfl|rfl<;>rfl
theorem oM{d:List Int}{a k:Nat}{l:List Int}(h:a+l.length≤d.length):(pk d a l).getD k 0=if a≤k∧k<a+l.length then l.getD (k-a) 0 else d.getD k 0:=by
 rw [List.getD_eq_getElem?_getD,pY];by_cases h1:a≤k∧k<a+l.length
 ·rw [ar h1,ar ⟨h1.1,h1.2,by omega⟩,List.getD_eq_getElem?_getD]
 ·rw [ae h1,ae (fun h2=>h1 ⟨h2.1,h2.2.1⟩),List.getD_eq_getElem?_getD]
theorem wA(d:List Int)(a:Nat):BV d a=((((0:Int)*256+d.getD (a+3) 0)*256+d.getD (a+2) 0)*256+d.getD (a+1) 0)*256+d.getD (a+0) 0:=rfl
theorem M7{d:List Int}{a b:Nat}{v:Int}(hv:0≤v∧v<4294967296)(ha:a+4≤d.length)(h4:a%4=0∧b%4=0):BV (pk d a (fK v)) b=if b=a then v else BV d b:=by
 have hl:(fK v).length=4:=J;rw [wA,oM (by omega),oM (by omega),oM (by omega),oM (by omega),hl];by_cases h:b=a
 ·subst h;rw [ar (by omega),ar (by omega),ar (by omega),ar (by omega),ar J,show b+3-b=3 by omega,show b+2-b=2 by omega,show b+1-b=1 by omega,show b+0-b=0 by omega];show(((0*256+v/16777216%256)*256+v/65536%256)*256+v/256%256)*256+v%256=v;omega
 ·rw [ae (by omega),ae (by omega),ae (by omega),ae (by omega),ae h,wA]
theorem Hw{d:List Int}{a:Nat}:∀{l:List Int},byL d→byL l→byL (pk d a l):=fun{l} h1 h2 x hx=>by
 obtain⟨k,hk⟩:=List.getElem?_of_mem hx;rw [pY]at hk;split at hk
 ·exact h2 x (bT hk)
 ·exact h1 x (bT hk)
theorem Hv(v:Int):byL (fK v):=fun x hx=>by
 have:x=v%256∨x=v/256%256∨x=v/65536%256∨x=v/16777216%256:=by
  simpa [fK]using hx
 omega
theorem FF(o:BinOp)(ho:o= .and∨o= .or∨o= .xor)(a b:Int):oW (bits o .u32 a b):=by
 rcases ho with rfl|rfl|rfl<;>exact l7 _
theorem Rx{op a b v:Int}(h:y6 op a b=some v)(ha:0≤a∧a<4294967296)(hb:0≤b∧b<4294967296):0≤v∧v<4294967296:=by
 have key:∀z:Int,some (wU z)=some v→0≤v∧v<4294967296:=fun z hz=>by injection hz with hz;subst hz;exact l7 z
 unfold y6 at h;split at h
 ·exact key _ h
 split at h
 ·exact key _ h
 split at h
 ·injection h with h;subst h;exact FF _ (by simp) _ _
 split at h
 ·injection h with h;subst h;exact FF _ (by simp) _ _
 split at h
 ·injection h with h;subst h;exact FF _ (by simp) _ _
 split at h
 ·exact key _ h
 split at h
 ·injection h with h;subst h;have h2:(0:Int)<2^(b%32).toNat:=Int.pow_pos (by decide);exact⟨Int.ediv_nonneg ha.1 (by omega),Int.lt_of_le_of_lt (Int.ediv_le_self _ ha.1) ha.2⟩
 split at h
 ·exact key _ h
 split at h
 ·split at h
  ·cases h
  ·injection h with h;subst h;exact⟨Int.ediv_nonneg ha.1 hb.1,Int.lt_of_le_of_lt (Int.ediv_le_self _ ha.1) ha.2⟩
 split at h
 ·injection h with h;subst h;unfold tr;split<;>decide
 ·cases h
theorem uH{r:Int→Int}{d v:Int}(h:r 0=0):rp r d v 0=0:=by
 unfold rp;rw [ae (fun h2=>h2.2 h2.1.symm)];exact h
theorem Do{r:Int→Int}{d v:Int}(h:∀k,0≤r k∧r k<4294967296)(hv:0≤v∧v<4294967296)(k:Int):0≤rp r d v k∧rp r d v k<4294967296:=by
 unfold rp;split
 ·exact hv
 ·exact h k
theorem BD{y:Int}(h:uK y<1984):256≤y∧y%4=0∧y=jo (uK y):=by
 unfold uK at h ⊢;by_cases h2:256≤y∧y%4=0
 ·rw [ar h2]at h ⊢;unfold jo;omega
 ·rw [ae h2]at h;omega
theorem Sim.to{code:List Qi}{c:Qs}{x:Int}{s:Mm}(h:Sim code c x s){p:Nat}{r:Int→Int}{x1:Int}(h0:r 0=0)(hr:∀k,0≤r k∧r k<4294967296)(hp:p<1984→x1=jo p)(hx:0≤x1∧x1<4294967296):
  Sim code {c with pc:=p,r:=r} x1 s:=⟨h.k,h.mem,h0,hr,hp,hx,h.hi⟩
def HN(e:Me)(x:Int)(r:Int→Int)(st:Int)(s:Mm)(x1:Int)(r1:Int→Int)(st1 t y:Int)(s1:Mm):Prop:=
 bi prog 115 [.agg (sR x r st).toArray,Pt e.m] [bh e.m 157 (mR e),own 5 1 co (sv e.vd) s.d,own 5 1 co (sv e.vi) s.i,own 3 1 eI (sv e.vr) s.r] [] (.agg (oC x1 r1 st1 t y).toArray) [bh e.m 157 (mR e),own 5 1 co (sv e.vd) s1.d,own 5 1 co (sv e.vi) s1.i,own 3 1 eI (sv e.vr) s1.r]
theorem Sim.step(e:Me){code:List Qi}{c c1:Qs}{x:Int}{s:Mm}(h:Sim code c x s){i:Qi}(hc:code[c.pc]?=some i)(h1:xA i c=some c1)(ho:i.op≠48){st:Int}(hst:0≤st∧st<1000000000000000):
  ∃x1 s1,Sim code c1 x1 s1∧c1.inp=c.inp∧c1.out=c.out∧HN e x c.r st s x1 c1.r (st+1) 0 0 s1:=by
 have hx:=h.stx hc hst;obtain⟨hp1,hp2⟩:=h.pcl hc;have hpx:x=jo c.pc:=hp2;have hx4:0≤x+4∧x+4<4294967296:=by omega
 have hn:c.pc+1<1984→x+4=jo (c.pc+1):=fun _=>by unfold jo;omega
 have hn2:x+4=jo (c.pc+1):=by unfold jo;omega
 unfold xA at h1;cases hu:y6 i.op (c.r i.a) (if i.op<16 then c.r i.b else i.imm)with
 | some v=>
  rw [hu]at h1;injection h1 with h1;subst h1;exact⟨x+4,s,h.to (uH h.h0) (Do h.hr (Rx hu (h.hr _) (by split;exact h.hr _;exact(h.k.va _ _ hc).2))) hn hx4,J,J,EX e s 64 h.k.hs i x c.r st hx v hu⟩
 | none=>
  rw [hu]at h1;dsimp only at h1;by_cases o1:i.op=23
  ·rw [ar o1]at h1;by_cases ha:BM (wU (c.r i.a+i.imm))
   ·rw [ar ha]at h1;injection h1 with h1;subst h1;have hl:=h.k.hs.d;have h4:wU (c.r i.a+i.imm)+4≤s.d.length:=by obtain⟨ha1,ha2,ha3⟩:=ha;omega
    have hb:=Ak h.k.hb (wU (c.r i.a+i.imm)).toNat 4;have hm:=h.mem _ ha;refine⟨x+4,s,h.to (uH h.h0) (Do h.hr ?_) hn hx4,J,J,?_⟩
    ·rw [←hm];have h256:(256:Int)^4=4294967296:=by decide
     exact⟨hb.1,by unfold BV;omega⟩
    ·have:=ET e s 64 h.k.hs i x c.r st hx h.k.hb o1 h4 (Bv h.k ha (Or.inl J));rw [hm]at this;exact this
   ·rw [ae ha]at h1;cases h1
  rw [ae o1]at h1;by_cases o2:i.op=25
  ·rw [ar o2]at h1;by_cases ha:BM (wU (c.r i.a+i.imm))
   ·rw [ar ha]at h1;injection h1 with h1;subst h1;have hl:=h.k.hs.d;have ha':=ha;obtain⟨ha1,ha2,ha3⟩:=ha';have h4:wU (c.r i.a+i.imm)+4≤s.d.length:=by omega
    refine⟨x+4,{s with d:=pk s.d (wU (c.r i.a+i.imm)).toNat (fK (c.r i.d))},⟨⟨h.k.hs.dd (fL _ _ _),Hw h.k.hb (Hv _),h.k.rt,h.k.im,h.k.len,h.k.va⟩,fun a h2=> ?_,h.h0,h.hr,hn,hx4,h.hi⟩,J,J,ER e s 64 h.k.hs i x c.r st hx o2 h4 (Bv h.k ha (Or.inr J))⟩;have h3:=h2;obtain⟨h5,h6,h7⟩:=h3;show BV (pk s.d _ _) a.toNat=mw c.m _ _ a;rw [M7 (h.hr _) (by omega) ⟨by omega,by omega⟩];unfold mw;by_cases h8:a=wU (c.r i.a+i.imm)
    ·rw [ar (by omega),ar h8]
    ·rw [ae (by omega),ae h8];exact h.mem a h2
   ·rw [ae ha]at h1;cases h1
  rw [ae o2]at h1;by_cases o3:i.op=27
  ·rw [ar o3]at h1;injection h1 with h1;subst h1;have hw:=l7 (c.r i.a+i.imm);refine⟨wU (c.r i.a+i.imm)/4*4,s,h.to (uH h.h0) (Do h.hr (by rw [←hn2];exact hx4)) (fun hp=> ?_) (by omega),J,J,?_⟩
   ·obtain⟨q1,q2,q3⟩:=BD hp;rw [←q3];omega
   ·have:=Dd e s 64 h.k.hs i x c.r st hx o3;rw [hn2]at this;exact this
  rw [ae o3]at h1;by_cases o4:i.op=32
  ·rw [ar o4]at h1;injection h1 with h1;subst h1;have hw:=l7 (x+4*i.imm);have:=EW e s 64 h.k.hs i x c.r st hx o4;by_cases hq:c.r i.d=c.r i.a
   ·rw [ar hq]at this ⊢;refine⟨wU (x+4*i.imm),s,h.to h.h0 h.hr (fun hp=> ?_) hw,J,J,this⟩;obtain⟨q1,q2,q3⟩:=BD hp;rw [←q3,hpx]
   ·rw [ae hq]at this ⊢;exact⟨x+4,s,h.to h.h0 h.hr hn hx4,J,J,this⟩
  rw [ae o4]at h1;by_cases o5:i.op=35
  ·rw [ar o5]at h1;injection h1 with h1;subst h1;have hw:=l7 (x+4*i.imm);have:=De e s 64 h.k.hs i x c.r st hx o5;by_cases hq:c.r i.d≥c.r i.a
   ·rw [ar hq]at this ⊢;refine⟨wU (x+4*i.imm),s,h.to h.h0 h.hr (fun hp=> ?_) hw,J,J,this⟩;obtain⟨q1,q2,q3⟩:=BD hp;rw [←q3,hpx]
   ·rw [ae hq]at this ⊢;exact⟨x+4,s,h.to h.h0 h.hr hn hx4,J,J,this⟩
  rw [ae o5]at h1;by_cases o6:i.op=40
  ·rw [ar o6]at h1;injection h1 with h1;subst h1;have hw:=l7 (x+4*i.imm);refine⟨wU (x+4*i.imm),s,h.to (uH h.h0) (Do h.hr (by rw [←hn2];exact hx4)) (fun hp=> ?_) hw,J,J,?_⟩
   ·obtain⟨q1,q2,q3⟩:=BD hp;rw [←q3,hpx]
   ·have:=EU e s 64 h.k.hs i x c.r st hx o6;rw [hn2]at this;exact this
  rw [ae o6]at h1;by_cases o7:i.op=41
  ·rw [ar o7]at h1;injection h1 with h1;subst h1;exact⟨x+4,s,h.to (uH h.h0) (Do h.hr (l7 _)) hn hx4,J,J,ES e s 64 h.k.hs i x c.r st hx o7⟩
  rw [ae o7,ae (fun h2=>ho h2.1),ae (fun h2=>ho h2.1)]at h1;cases h1
def q_(i:Qi):Int×Int:=if i.op=48 then(4,i.imm)else(3,0)
theorem Sim.trap(e:Me){code:List Qi}{c:Qs}{x:Int}{s:Mm}(h:Sim code c x s){i:Qi}(hc:code[c.pc]?=some i)(ho:i.op=48∨i.op=49){st:Int}(hst:0≤st∧st<1000000000000000):
  HN e x c.r st s x c.r st (q_ i).1 (q_ i).2 s:=by
 have hx:=h.stx hc hst;by_cases h1:i.op=48
 ·rw [show q_ i=(4,i.imm)from ar h1];exact EQ e s 64 h.k.hs i x c.r st hx h1
 ·rw [show q_ i=(3,0)from ae h1];exact EV e s 64 h.k.hs i x c.r st hx (by omega)
def KI(code:List Qi):Nat→Qs→Qs→Prop
 | 0,c,c'=>c=c'
 | n+1,c,c'=>∃i c1,code[c.pc]?=some i∧xA i c=some c1∧i.op≠48∧KI code n c1 c'
theorem Sim.turn(e:Me){code:List Qi}{c c':Qs}{x:Int}{s:Mm}(h:Sim code c x s){n:Nat}(hn:KI code n c c'){i:Qi}(hc:code[c'.pc]?=some i)(ho:i.op=48∨i.op=49){st:Int}(hst:0≤st∧st<1000000000000000):
  ∃x1 r1 st1 t y s1,HN e x c.r st s x1 r1 st1 t y s1∧((t=0∧∃m c1,n=m+1∧r1=c1.r∧st1=st+1∧c1.inp=c.inp∧c1.out=c.out∧Sim code c1 x1 s1∧KI code m c1 c')∨(t≠0∧n=0∧c=c'∧t=(q_ i).1∧y=(q_ i).2∧s1=s)):=by
 cases n with
 | zero=>
  have h2:c=c':=hn;subst h2;refine⟨x,c.r,st,(q_ i).1,(q_ i).2,s,h.trap e hc ho hst,.inr ⟨?_,J,J,J,J,J⟩⟩;unfold q_;split
  ·show(4:Int)≠0;decide
  ·show(3:Int)≠0;decide
 | succ m=>
  obtain⟨j,c1,h2,h3,h4,h5⟩:=hn;obtain⟨x1,s1,h6,h7,h8,h9⟩:=h.step e h2 h3 h4 hst;exact⟨x1,c1.r,st+1,0,0,s1,h9,.inl ⟨J,m,c1,J,J,J,h7,h8,h6,h5⟩⟩
structure Rl where
 x:Int
 s:Mm
 c:Qs
 m:Nat
 k:Nat
theorem Dn(e:Me)(cp:Nat){code:List Qi}{c c':Qs}{x:Int}{s:Mm}(h:Sim code c x s){n:Nat}(hn:KI code n c c'){i:Qi}(hc:code[c'.pc]?=some i)(ho:i.op=48∨i.op=49)(st most:Int)(hst:0≤st∧st+n<1000000000000000)(hm:(n:Int)<most):
  Spec prog 65 [Pt cp,I6 most] [bh e.m 157 (mR e),own 5 1 co (sv e.vd) (s).d,own 5 1 co (sv e.vi) (s).i,own 3 1 eI (sv e.vr) (s).r,bh cp 93 (qL x c.r st e.m)] [] (X:=Int×Mm) (fun p=>Sim code c' p.1 p.2) (fun _=> .agg #[I6 (q_ i).1,I3 (q_ i).2]) (fun p=> [bh e.m 157 (mR e),own 5 1 co (sv e.vd) p.2.d,own 5 1 co (sv e.vi) p.2.i,own 3 1 eI (sv e.vr) p.2.r,bh cp 93 (qL p.1 c'.r (st+(n:Int)) e.m)]) (fun _=> []):=by
 refine aI func65 J ntmps65 J fun w0 M H=>wg 0 20 J J (wg 1 21 J J (wg 2 22 J J (wg 3 23 J J (wg 4 24 J J (ap (aY za J J fun b4=>aF J (ak J (aa (aB ?_)))))))))
 refine bC (X:=Rl) (fun p=>Sim code p.c p.x p.s∧KI code p.m p.c c'∧p.m+p.k=n) (fun p=> [(0,Pt cp),(1,I6 most),(4,Pt b4),(5,I6 (p.k:Int))]) (fun p=> [(20,bh e.m 157 (mR e)),(21,own 5 1 co (sv e.vd) p.s.d),(22,own 5 1 co (sv e.vi) p.s.i),(23,own 3 1 eI (sv e.vr) p.s.r),(24,bh cp 93 (qL p.x p.c.r (st+(p.k:Int)) e.m)),(4,bh b4 53 [I6 0,I3 0])]) (fun p=> []) (fun p=>p.m) ⟨x,s,c,n,0⟩ ⟨h,hn,J⟩ J (by dsimp only;rw [show st+((0:Nat):Int)=st by omega];rfl) J (fun p hp=> ?_);obtain⟨hp1,hp2,hp3⟩:=hp;obtain⟨x1,r1,st1,t,y,s1,hS,hor⟩:=hp1.turn e hp2 hc ho (st:=st+(p.k:Int)) ⟨by omega,by omega⟩;refine aB (a_ (a_ ?_));refine bJ [7,8,9,10,11,12,13,14,15,16,17,18,19,20,21,22,23,24,25] _ J (bl (V:= [(0,7,_),(1,8,_),(2,9,_),(3,10,_),(4,11,_),(5,12,_),(6,13,_),(7,14,_),(8,15,_),(9,16,_),(10,17,_),(11,18,_),(12,19,_),(13,20,_),(14,21,_),(15,22,_),(16,23,_),(17,24,_),(18,25,_)]) [0,1,2,3,4,5,6,7,8,9,10,11,12,13,14,15,16,17,18] J J (aD J J (ac J (au J) (ac J (ag eA J) (ac J (ag wO J) (ac J (ah t3 J J (ay (k:=24) J J)) (ac J (aR J J ec) (aD J J (bp (bZ [] J J J O (fun hg1=>bc J)) (bp (bZ [(14,_)] J J J ⟨J,O⟩ (fun hg2=>au J)) (bp (bZ [(15,_)] J J J ⟨J,O⟩ (fun hg3=>ag eA J)) (bp (bZ [(16,_)] J J J ⟨J,O⟩ (fun hg4=>ag jj J)) (bp (bZ [(17,_)] J J J ⟨J,O⟩ (fun hg5=>ah t3 J J (ay (k:=24) J J))) (bp (bZ [] J J J O (fun hg6=>bc J)) (bp (bZ [(19,_)] J J J ⟨J,O⟩ (fun hg7=>au J)) (bp (bZ [(20,_)] J J J ⟨J,O⟩ (fun hg8=>ag eA J)) (bp (bZ [(21,_)] J J J ⟨J,O⟩ (fun hg9=>ag wO J)) (bp (bZ [(22,_)] J J J ⟨J,O⟩ (fun hg10=>ah t3 J J (ay (k:=24) J J))) (bp (bZ [(18,_),(23,_)] J J J ⟨J,J,O⟩ (fun hg11=>aR J J gI)) (ac J (bH J J J) av))))))))))))))))))) J J J ?_);refine ai J (fun h12=> ?_) (fun h12=> ?_)
 ·cases h12
 ·(try simp only [bj]at h12);refine az (aT (ad J (ad J (aw J J gI (aa (ai J (fun h13=> ?_) (fun h13=> ?_)))))))
  ·(exfalso;have h0:=h13;revert h0;simp;omega)
  ·(try simp only [bj]at h13);refine az (a_ ?_);refine bJ [31,32,33,34,35,36,37,38,39,6] _ J (fe (V:= [(0,31,_),(1,32,_),(2,33,_),(3,34,_),(4,35,_),(5,36,_),(6,37,_),(7,38,_)]) [0,1,2,3,4,5,6,7] J J (aD J J (ac J (au J) (ac J (ag eA J) (ac J (aM (us:=sR p.x p.c.r (st+(p.k:Int))) y_ J J J (kQ (k:=24) J J)) (aD J J (ac J (au J) (ac J (ag gq J) (ac J (ah xz J J (ay (k:=24) J J)) av)))))))) J [8,9] J J (df (dQ 8 [8,7,6,5,4,3,2,1,0] [] (fun _=> []) J J J J J J J J J (fun _ _=>J) J (bB (xs:= [.tmp 34,.tmp 38]) hS LG [20,21,22,23] [] [20,21,22,23]) (fun _ _=>aW [] 9 [9,8,7,6,5,4,3,2,1,0] [] (fun b6=> []) J J av J J J J J J J J J J J (fun _ _=>J) J (dV m8 J) (fun b6 _=>bE [] 10 [10,9,8,7,6,5,4,3,2,1,0] [] (fun _=> []) J J av J J J J J J J J J (fun _ _=>J) J (bD (k:=6) m8 J J J J J J) (fun _ _=>bl [] J J av J J J ?_)))) (df (dQ 9 [9] [] (fun b6=> []) J J J J J J J J J (fun _ _=>J) J (dV m8 J) (fun b6 _=>aW [0,1,2,3,4,5,6,7] 8 [9,8,7,6,5,4,3,2,1,0] [] (fun _=> []) J J (aD J J (ac J (au J) (ac J (ag eA J) (ac J (aM (us:=sR p.x p.c.r (st+(p.k:Int))) y_ J J J (kQ (k:=24) J J)) (aD J J (ac J (au J) (ac J (ag gq J) (ac J (ah xz J J (ay (k:=24) J J)) av)))))))) J J J J J J J J J J J (fun _ _=>J) J (bB (xs:= [.tmp 34,.tmp 38]) hS LG [20,21,22,23] [] [20,21,22,23]) (fun _ _=>bE [] 10 [10,9,8,7,6,5,4,3,2,1,0] [] (fun _=> []) J J av J J J J J J J J J (fun _ _=>J) J (bD (k:=6) m8 J J J J J J) (fun _ _=>bl [] J J av J J J ?_)))) ix)))
   ·refine aT (aC rG J (aP (ek qg J) (aQ 6 t3 J J J J (aw J J eD (aa (ai J (fun h14=> ?_) (fun h14=> ?_)))))))
    ·(try simp only [bj]at h14);obtain⟨-,q2,q3,q4,q5,q6⟩:=hor.resolve_left (fun q=>h14 q.1);subst q6;obtain rfl:p.k=n:=by omega
     rw [←q4,←q5,←q3];refine ap (aC rG J (aP (aM (us:= [I6 t,I3 y]) za J J J (kQ (k:=6) J J)) (aq (k:=4) za J J J J J J (aa (ax (aH (p.x,p.s) (q3▸hp1) J (bQ (aV za J J J (aX (k:=4) J))) J [20,21,22,23,24] [] J J J))))))
    ·(try simp only [bj]at h14);obtain⟨q1,m1,c1,q2,q3,q4,qi,qo,q6,q7⟩:=hor.resolve_right (fun q=>q.1 h14);subst q3;subst q4;refine az (ap (ad J (aC Cn J (aP (aM (us:=sR x1 c1.r (st+(p.k:Int)+1)) y_ J J J (kQ (k:=6) J J)) (bI J (aC eA J (aA (k:=24) (us:=sR x1 c1.r (st+(p.k:Int)+1)) (c':=qL x1 c1.r (st+(p.k:Int)+1) e.m) y_ J J J J J J J J (aa (am (ad J (aw J J aO (ak J (aa ?_)))))))))))));refine aJ ⟨x1,s1,c1,m1,p.k+1⟩ ⟨⟨q6,q7,by show m1+(p.k+1)=n;omega⟩,by show m1<p.m;omega⟩ J (by dsimp only;rw [show st+((p.k+1:Nat):Int)=st+(p.k:Int)+1 by omega];rfl) J
   ·refine aT (aC rG J (aP (ek qg J) (aQ 6 t3 J J J J (aw J J eD (aa (ai J (fun h15=> ?_) (fun h15=> ?_)))))))
    ·(try simp only [bj]at h15);obtain⟨-,q2,q3,q4,q5,q6⟩:=hor.resolve_left (fun q=>h15 q.1);subst q6;obtain rfl:p.k=n:=by omega
     rw [←q4,←q5,←q3];refine ap (aC rG J (aP (aM (us:= [I6 t,I3 y]) za J J J (kQ (k:=6) J J)) (aq (k:=4) za J J J J J J (aa (ax (aH (p.x,p.s) (q3▸hp1) J (bQ (aV za J J J (aX (k:=4) J))) J [20,21,22,23,24] [] J J J))))))
    ·(try simp only [bj]at h15);obtain⟨q1,m1,c1,q2,q3,q4,qi,qo,q6,q7⟩:=hor.resolve_right (fun q=>q.1 h15);subst q3;subst q4;refine az (ap (ad J (aC Cn J (aP (aM (us:=sR x1 c1.r (st+(p.k:Int)+1)) y_ J J J (kQ (k:=6) J J)) (bI J (aC eA J (aA (k:=24) (us:=sR x1 c1.r (st+(p.k:Int)+1)) (c':=qL x1 c1.r (st+(p.k:Int)+1) e.m) y_ J J J J J J J J (aa (am (ad J (aw J J aO (ak J (aa ?_)))))))))))));refine aJ ⟨x1,s1,c1,m1,p.k+1⟩ ⟨⟨q6,q7,by show m1+(p.k+1)=n;omega⟩,by show m1<p.m;omega⟩ J (by dsimp only;rw [show st+((p.k+1:Nat):Int)=st+(p.k:Int)+1 by omega];rfl) J
theorem EN{i:Qi}{c c1:Qs}(h:xA i c=some c1)(ho:i.op≠48):c1.inp=c.inp∧c1.out=c.out:=by
 unfold xA at h;split at h
 ·injection h with h;subst h;exact⟨rfl,rfl⟩
 split at h
 ·split at h
  ·injection h with h;subst h;exact⟨rfl,rfl⟩
  ·cases h
 split at h
 ·split at h
  ·injection h with h;subst h;exact⟨rfl,rfl⟩
  ·cases h
 split at h
 ·injection h with h;subst h;exact⟨rfl,rfl⟩
 split at h
 ·injection h with h;subst h;exact⟨rfl,rfl⟩
 split at h
 ·injection h with h;subst h;exact⟨rfl,rfl⟩
 split at h
 ·injection h with h;subst h;exact⟨rfl,rfl⟩
 split at h
 ·injection h with h;subst h;exact⟨rfl,rfl⟩
 split at h
 ·rename_i h2;exact absurd h2.1 ho
 split at h
 ·rename_i h2;exact absurd h2.1 ho
 ·cases h
theorem Fg{code:List Qi}:∀{n:Nat}{c c':Qs},KI code n c c'→c'.inp=c.inp∧c'.out=c.out
 | 0,c,c',h=>by
  have:c=c':=h;subst this;exact⟨J,J⟩
 | n+1,c,c',h=>by
  obtain⟨i,c1,-,h2,h3,h4⟩:=h;obtain⟨a,b⟩:=EN h2 h3;obtain⟨a2,b2⟩:=Fg h4;exact⟨a2.trans a,b2.trans b⟩
theorem xN{code:List Qi}:∀{n:Nat}{c c':Qs},rn code n c c'→∃k c1,KI code k c c1∧((k=n∧c1=c')∨∃i c2 m,code[c1.pc]?=some i∧i.op=48∧xA i c1=some c2∧n=k+1+m∧rn code m c2 c')
 | 0,c,c',h=>⟨0,c',h,.inl ⟨rfl,rfl⟩⟩
 | n+1,c,c',h=>by
  obtain⟨i,c1,h1,h2,h3⟩:=h;by_cases ho:i.op=48
  ·exact⟨0,c,J,.inr ⟨i,c1,n,h1,ho,h2,by omega,h3⟩⟩
  ·obtain⟨k,c2,h4,h5⟩:=xN h3;refine⟨k+1,c2,⟨i,c1,h1,h2,ho,h4⟩,?_⟩;rcases h5 with⟨h6,h7⟩|⟨j,c3,m,g1,g2,g3,g4,g5⟩
   ·exact .inl ⟨by omega,h7⟩
   ·exact .inr ⟨j,c3,m,g1,g2,g3,by omega,g5⟩
theorem re{i:Qi}{c c1:Qs}(h:xA i c=some c1)(ho:i.op=48):(i.imm=1∧c1={c with pc:=c.pc+1,out:=c.out++ [c.r 1]})∨(i.imm=2∧c1={c with pc:=c.pc+1,r:=rp c.r 1 (c.inp.headD 0),inp:=c.inp.tail}):=by
 unfold xA at h;rw [ho]at h;have e:∀a b,y6 48 a b=none:=fun a b=>J
 rw [e]at h;by_cases h1:i.imm=1
 ·rw [h1]at h;injection h with h;exact .inl ⟨h1,h.symm⟩
 ·by_cases h2:i.imm=2
  ·rw [h2]at h;injection h with h;exact .inr ⟨h2,h.symm⟩
  ·exfalso;have q1:¬((48:Int)=48∧i.imm=1):=fun q=>h1 q.2
   have q2:¬((48:Int)=48∧i.imm=2):=fun q=>h2 q.2
   have:(if(48:Int)=48∧i.imm=1 then some {c with pc:=c.pc+1,out:=c.out++ [c.r 1]}else if(48:Int)=48∧i.imm=2 then some {c with pc:=c.pc+1,r:=rp c.r 1 (c.inp.headD 0),inp:=c.inp.tail}else none)=some c1:=h;rw [ae q1,ae q2]at this;cases this
def Lc(l:List Int):Nat→Int
 | 0=>0
 | k+1=>Lc l k+l.getD k 0*256^k
theorem Gm{t:Ba}{k:Nat}(hk:k<4):0≤Lc (bv t) k∧Lc (bv t) k+(bv t).getD k 0*256^k<4294967296∧0≤(bv t).getD k 0*256^k∧(bv t).getD k 0*256^k<4294967296:=by
 have b0:=kV t 0;have b1:=kV t 1;have b2:=kV t 2;have b3:=kV t 3;have:k=0∨k=1∨k=2∨k=3:=by omega
 rcases this with rfl|rfl|rfl|rfl
 ·show 0≤(0:Int)∧(0:Int)+(bv t).getD 0 0*256^0<4294967296∧0≤(bv t).getD 0 0*256^0∧(bv t).getD 0 0*256^0<4294967296;omega
 ·show 0≤(0:Int)+(bv t).getD 0 0*256^0∧(0:Int)+(bv t).getD 0 0*256^0+(bv t).getD 1 0*256^1<4294967296∧0≤(bv t).getD 1 0*256^1∧(bv t).getD 1 0*256^1<4294967296;omega
 ·show 0≤(0:Int)+(bv t).getD 0 0*256^0+(bv t).getD 1 0*256^1∧(0:Int)+(bv t).getD 0 0*256^0+(bv t).getD 1 0*256^1+(bv t).getD 2 0*256^2<4294967296∧0≤(bv t).getD 2 0*256^2∧(bv t).getD 2 0*256^2<4294967296;omega
 ·show 0≤(0:Int)+(bv t).getD 0 0*256^0+(bv t).getD 1 0*256^1+(bv t).getD 2 0*256^2∧(0:Int)+(bv t).getD 0 0*256^0+(bv t).getD 1 0*256^1+(bv t).getD 2 0*256^2+(bv t).getD 3 0*256^3<4294967296∧0≤(bv t).getD 3 0*256^3∧(bv t).getD 3 0*256^3<4294967296;omega
theorem SI{t:Ba}{k:Nat}(hk:k<4):IntKind.u32.wrap ((bv t).getD k 0*2^(8*(k:Int)).toNat)=(bv t).getD k 0*256^k:=by
 obtain⟨-,-,h1,h2⟩:=Gm (t:=t) hk;have e:(2:Int)^(8*(k:Int)).toNat=256^k:=by
  have:k=0∨k=1∨k=2∨k=3:=by omega
  rcases this with rfl|rfl|rfl|rfl<;>rfl
 rw [e];exact kH h1 h2
theorem Dr(t:Ba)(ht:t.size=4):
  bi prog 66 [Sg t] [] [] (I3 (Lc (bv t) 4)) []:=by
 refine aI func66 J ntmps66 J fun w0 M H=>ap (ak J (aF J (ak J (aa (aT (ak J (aa (aB (bC (X:=Nat) (fun k=>k≤4) (fun k=> [(0,Sg t),(3,I3 (Lc (bv t) k)),(4,I6 (k:Int))]) (fun k=> []) (fun k=> []) (fun k=>4-k) 0 (br _) J J J (fun k n1=>aT (ad J ?_)))))))))))
 refine ad J (aP (cT underlying9 J) (aw J J cr (ad J (aG [] J J O (fun hg1=>bc J) J (aG [(10,_)] J J ⟨J,O⟩ (fun hg2=>aR J J cr) J (aP (bH J J J) (aa (ai J (fun h3=> ?_) (fun h3=> ?_)))))))))
 ·(try simp only [bj]at h3);have hi:k<4:=by omega
  have hbk:=Gm (t:=t) hi;have hb1:=kV t k;refine az (a_ (aB (am (ad J (ad J (ad J (aP (eg (j:=k) underlying9 J J J (by omega)) (aP (cC underlying5 underlying41 J (c:=(bv t).getD k 0) (cd (by omega))) (ad J (aw J J kW (aw J J (jb (by omega) (by show _≤(32:Int);omega) (SI hi)) (aw J J (cw (c:=Lc (bv t) (k+1)) (cd (by omega))) (ak J (aa (am (ad J (aw J J aO (ak J (aa ?_)))))))))))))))))));refine aJ (k+1) ⟨by omega,by omega⟩ J J J
 ·(try simp only [bj]at h3);have hi:k=4:=by omega
  subst hi;refine bF (ap (ad J (ak J (aa (ax (aH () O J (bQ (aL J)) J [] [] J J J))))))
theorem yJ:∀{l:List Qi}{k:Nat}{i:Qi},l[k]?=some i→∀{j:Nat},j<4→(eo l)[4*k+j]?=(fK (ur i))[j]?
 | [],k,i,h,j,hj=>by simp at h
 | q::r,0,i,h,j,hj=>by
  have h:q=i:=by simpa using h
  subst h;show(fK (ur q)++eo r)[4*0+j]?=_;rw [List.getElem?_append_left (by rw [show(fK (ur q)).length=4 from J];omega),show 4*0+j=j by omega]
 | q::r,k+1,i,h,j,hj=>by
  have h:r[k]?=some i:=by simpa using h
  show(fK (ur q)++eo r)[4*(k+1)+j]?=_;rw [List.getElem?_append_right (by rw [show(fK (ur q)).length=4 from J];omega),show 4*(k+1)+j-(fK (ur q)).length=4*k+j by rw [show(fK (ur q)).length=4 from J];omega];exact yJ h hj
theorem Fu{n m a:Nat}:pk (List.replicate n 0) a (List.replicate m 0)=List.replicate n (0:Int):=by
 apply List.ext_getElem?;intro k;rw [pY];split
 ·rename_i h;have h3:k<n:=by have:=h.2.2;simpa using this
  have h4:k-a<m:=by have:=h.2.1;simp at this;omega
  rw [List.getElem?_replicate,ar h4,List.getElem?_replicate,ar h3]
 ·rfl
def wy(n:Nat):Mm:=⟨List.replicate (256*n) 0,List.replicate (256*n) 0,List.replicate n 0⟩
theorem FW{n:Nat}(hn:n≤4096):MO (wy n) n:=⟨by show(List.replicate _ _).length=_;rw [List.length_replicate];omega,by show(List.replicate _ _).length=_;rw [List.length_replicate];omega,List.length_replicate ..,by omega,fun x hx=>by have:=List.eq_of_mem_replicate hx;subst this;decide⟩
theorem K4(n:Nat):∀p,(iD (wy n) p).d=List.replicate (256*n) 0∧(iD (wy n) p).i=List.replicate (256*n) 0
 | 0=>⟨rfl,rfl⟩
 | p+1=>by
  obtain⟨h1,h2⟩:=K4 n p;refine⟨?_,?_⟩
  ·show pk (iD (wy n) p).d (256*p) zer=_;rw [h1,rZ,Fu]
  ·show pk (iD (wy n) p).i (256*p) zer=_;rw [h2,rZ,Fu]
theorem K3(s:Mm):∀(p q:Nat),p≤s.r.length→(iD s p).r.getD q 0=if q<p then xi q else s.r.getD q 0
 | 0,q,_=>by rw [ae (by omega)];rfl
 | p+1,q,h=>by
  have hl:∀p,(iD s p).r.length=s.r.length:=fun p=>by
   induction p with
   | zero=>rfl
   | succ p ih=>exact(List.length_set ..).trans ih
  show((iD s p).r.set p (xi p)).getD q 0=_;rw [List.getD_eq_getElem?_getD,List.getElem?_set];by_cases h1:p=q
  ·subst h1;rw [ar J,ar (by rw [hl];omega),ar (by omega)];rfl
  ·rw [ae h1,←List.getD_eq_getElem?_getD,K3 s p q (by omega)];by_cases h2:q<p
   ·rw [ar h2,ar (by omega)]
   ·rw [ae h2,ae (by omega)]
theorem PI(s:Mm)(p:Nat):(uk s (p+1)).i=pk (uk s p).i ((p+1)*256) (((uk s p).d.drop ((p+1)*256)).take 256):=by rw [uk]
theorem PJ{s:Mm}(hl:s.i.length=s.d.length)(k:Nat):∀p,(p+1)*256≤s.d.length→(uk s p).i[k]?=if 256≤k∧k<(p+1)*256 then s.d[k]? else s.i[k]?:=by
 intro p
 induction p with
 | zero=>
  intro _;rw [ae (by omega),uk]
 | succ p ihp=>
  intro h;have hli:∀p,(uk s p).i.length=s.i.length:=fun p=>by
   induction p with
   | zero=>rfl
   | succ p ih=>exact(fL ..).trans ih
  have h':(p+1)*256≤s.d.length:=Nat.le_trans (Nat.mul_le_mul_right 256 (Nat.le_succ (p+1))) h;have ih:=ihp h';clear ihp;rw [PI,BU,pY,ih,hli];have hlen:(List.take 256 (List.drop ((p+1)*256) s.d)).length=256:=by
   rw [List.length_take,List.length_drop];omega
  rw [hlen];by_cases h1:(p+1)*256≤k∧k<(p+1)*256+256
  ·rw [ar ⟨h1.1,h1.2,by omega⟩,ar ⟨by omega,by omega⟩,List.getElem?_take,ar (by omega),List.getElem?_drop,show(p+1)*256+(k-(p+1)*256)=k by omega]
  ·rw [ae (fun h2=>h1 ⟨h2.1,h2.2.1⟩)];by_cases h2:256≤k∧k<(p+1)*256
   ·rw [ar h2,ar ⟨h2.1,by omega⟩]
   ·rw [ae h2,ae (fun h3=> ?_)];omega
theorem K5(s:Mm):∀p,(uk s p).r=s.r
 | 0=>rfl
 | p+1=>K5 s p
theorem M5{code:List Qi}(hl:code.length≤1984)(hv:∀i∈code,qQ i=true∧0≤i.imm∧i.imm<4294967296){ins:List Int}(hi:∀v∈ins,0≤v∧v<4294967296):
  Sim code ⟨0,fun _=>0,fun _=>0,ins,[]⟩ 256 (Oj (wy 64) (eo code)):=by
 have hb:=ga code;obtain⟨hd,hi0⟩:=K4 64 64;have hm:=mr (FW (n:=64) (by decide)) 64;have hD:(Oj (wy 64) (eo code)).d=pk (List.replicate (256*64) 0) 256 (eo code):=by
  show(uk _ 31).d=_;rw [BU];show pk (iD (wy 64) 64).d 256 (eo code)=_;rw [hd]
 have hDk:∀k,(pk (List.replicate (256*64) (0:Int)) 256 (eo code)).getD k 0=if 256≤k∧k<256+(eo code).length then(eo code).getD (k-256) 0 else 0:=fun k=>by
  rw [oM (by rw [List.length_replicate];omega)];split
  ·rfl
  ·rw [List.getD_eq_getElem?_getD,List.getElem?_replicate];split<;>rfl
 refine⟨⟨?_,?_,fun p hp=> ?_,fun k i hk j hj=> ?_,hl,fun k i hk=>⟨VQ.of (hv i (bT hk)).1,(hv i (bT hk)).2⟩⟩,fun a ha=> ?_,J,fun _=>⟨Int.le_refl _,by show(0:Int)<4294967296;decide⟩,fun _=>J,by decide,hi⟩
 ·exact Aj (hm.dd (fL _ _ _)) 31
 ·rw [hD];exact Hw (fun x hx=>by have:=List.eq_of_mem_replicate hx;subst this;decide) (tB code)
 ·show(uk _ 31).r.getD p 0=_;rw [K5];show(iD (wy 64) 64).r.getD p 0=_;rw [K3 (wy 64) 64 p (Nat.le_of_eq (by exact(List.length_replicate ..).symm)),ar hp]
 ·have hkl:k<code.length:=(cJ.1 hk).1;show(uk {iD (wy 64) 64 with d:=pk (iD (wy 64) 64).d 256 (eo code)} 31).i[256+4*k+j]?=_;rw [PJ (by show(iD (wy 64) 64).i.length=(pk _ _ _).length;rw [fL,hm.i,hm.d]) _ 31 (by show _≤(pk _ _ _).length;rw [fL,hm.d];decide),ar ⟨by omega,by omega⟩];show(pk (iD (wy 64) 64).d 256 (eo code))[256+4*k+j]?=_;rw [pY,ar ⟨by omega,by omega,by rw [hm.d];omega⟩,show 256+4*k+j-256=4*k+j by omega,yJ hk hj,show ur i=nw i from ar (hv i (bT hk)).1]
 ·obtain⟨a1,a2,a3⟩:=ha;rw [hD,wA,hDk,hDk,hDk,hDk,ae (by omega),ae (by omega),ae (by omega),ae (by omega)];rfl
theorem qIO(n:Nat)(hn:n≤4096):
  Spec prog 34 [I6 (n:Int)] [] [] (X:=Nat×Me) (fun _=>True) (fun x=>Pt x.1) (fun x=> [bh x.1 93 (qL 0 rj 0 x.2.m),bh x.2.m 157 (mR x.2),own 5 1 co (sv x.2.vd) (wy n).d,own 5 1 co (sv x.2.vi) (wy n).i,own 3 1 eI (sv x.2.vr) (wy n).r]) (fun _=> []):=Dq n hn
theorem oG(e:Me)(s:Mm)(n:Nat)(hs:MO s n)(a:Int)(ha:0≤a∧a<4294967296)(h:a<s.d.length):
  bi prog 41 [Pt e.m,I3 a] [bh e.m 157 (mR e),own 5 1 co (sv e.vd) s.d,own 5 1 co (sv e.vi) s.i,own 3 1 eI (sv e.vr) s.r] [] (.int .u8 (s.d.getD a.toNat 0)) [bh e.m 157 (mR e),own 5 1 co (sv e.vd) s.d,own 5 1 co (sv e.vi) s.i,own 3 1 eI (sv e.vr) s.r]:=by
 have:=Ag e s n hs a ha;rw [ar h]at this;exact this
structure Sl where
 x:Int
 s:Mm
 c:Qs
 m:Nat
 k:Nat
 v:SV
 vo:SV
def TH(code:List Qi)(c1 c':Qs)(n k1:Nat)(i0 i:Qi):Prop:=
 (k1=n∧c1=c'∧i=i0)∨∃c2 m,i.op=48∧xA i c1=some c2∧n=k1+1+m∧rn code m c2 c'
theorem Iu{code:List Qi}{n:Nat}{c c':Qs}(h:rn code n c c'){i0:Qi}(h0:code[c'.pc]?=some i0)(ho:i0.op=48∨i0.op=49):
  ∃k1 c1 i,KI code k1 c c1∧code[c1.pc]?=some i∧(i.op=48∨i.op=49)∧k1≤n∧TH code c1 c' n k1 i0 i:=by
 obtain⟨k,c1,h1,h2⟩:=xN h;rcases h2 with⟨h3,h4⟩|⟨i,c2,m,g1,g2,g3,g4,g5⟩
 ·exact⟨k,c1,i0,h1,by rw [h4];exact h0,ho,by omega,.inl ⟨h3,h4,rfl⟩⟩
 ·exact⟨k,c1,i,h1,g1,.inl g2,by omega,.inr ⟨c2,m,g2,g3,g4,g5⟩⟩
theorem vR{i:Qi}(h:i.op=48):q_ i=(4,i.imm):=ar h
theorem Mc{code:List Qi}{c1 c':Qs}{n k1:Nat}{i0 i:Qi}(h:TH code c1 c' n k1 i0 i)(h2:(q_ i).1≠4∨(q_ i).2<1∨(q_ i).2>2):k1=n∧c1=c'∧i=i0:=by
 rcases h with h|⟨c2,m,o1,o2,o3,o4⟩
 ·exact h
 ·exfalso;rw [vR o1]at h2;have h2:(4:Int)≠4∨i.imm<1∨i.imm>2:=h2;rcases re o2 o1 with⟨q,-⟩|⟨q,-⟩<;>omega
theorem OV{code:List Qi}{c1 c':Qs}{n k1:Nat}{i0 i:Qi}(h:TH code c1 c' n k1 i0 i)(h0:i0=⟨48,0,0,0,0⟩∨i0=⟨49,0,0,0,0⟩)(h2:(q_ i).1=4∧1≤(q_ i).2∧(q_ i).2≤2):∃c2 m,i.op=48∧xA i c1=some c2∧n=k1+1+m∧rn code m c2 c':=by
 rcases h with⟨-,-,h⟩|h
 ·exfalso;subst h;rcases h0 with rfl|rfl
  ·exact absurd h2 (by decide)
  ·exact absurd h2 (by decide)
 ·exact h
theorem Mb{i:Qi}{c1 c2:Qs}(h:xA i c1=some c2)(ho:i.op=48)(h2:(q_ i).2=1):c2={c1 with pc:=c1.pc+1,out:=c1.out++ [c1.r 1]}:=by
 rw [vR ho]at h2;have h2:i.imm=1:=h2;rcases re h ho with⟨-,q⟩|⟨q,-⟩
 ·exact q
 ·omega
theorem OU{i:Qi}{c1 c2:Qs}(h:xA i c1=some c2)(ho:i.op=48)(h2:¬(q_ i).2=1):c2={c1 with pc:=c1.pc+1,r:=rp c1.r 1 (c1.inp.headD 0),inp:=c1.inp.tail}:=by
 rw [vR ho]at h2;have h2:¬i.imm=1:=h2;rcases re h ho with⟨q,-⟩|⟨-,q⟩
 ·exact absurd q h2
 ·exact q
theorem Sim.nx{code:List Qi}{c:Qs}{x:Int}{s:Mm}(h:Sim code c x s){i:Qi}(hc:code[c.pc]?=some i):(c.pc+1<1984→x+4=jo (c.pc+1))∧0≤x+4∧x+4<4294967296:=by
 obtain⟨h1,h2⟩:=h.pcl hc;refine⟨fun _=> ?_,by omega⟩;unfold jo;omega
theorem Sim.nout{code:List Qi}{c:Qs}{x:Int}{s:Mm}(h:Sim code c x s){i:Qi}(hc:code[c.pc]?=some i)(l:List Int):Sim code {c with pc:=c.pc+1,out:=l} (x+4) s:=
 ⟨h.k,h.mem,h.h0,h.hr,(h.nx hc).1,(h.nx hc).2,h.hi⟩
theorem Sim.nin{code:List Qi}{c:Qs}{x:Int}{s:Mm}(h:Sim code c x s){i:Qi}(hc:code[c.pc]?=some i):Sim code {c with pc:=c.pc+1,r:=rp c.r 1 (c.inp.headD 0),inp:=c.inp.tail} (x+4) s:=by
 refine⟨h.k,h.mem,show rp c.r 1 (c.inp.headD 0) 0=0 from uH h.h0,Do h.hr ?_,(h.nx hc).1,(h.nx hc).2,fun v hv=>h.hi v (List.mem_of_mem_tail hv)⟩;have:=h.hi;cases hl:c.inp with
 | nil=>exact⟨Int.le_refl _,by show(0:Int)<4294967296;decide⟩
 | cons a l=>rw [hl]at this;exact this a (by simp)
theorem Nj{s:Mm}(hb:byL s.d)(a:Nat):Lc (bv (lT [s.d.getD a 0,s.d.getD (a+1) 0,s.d.getD (a+2) 0,s.d.getD (a+3) 0])) 4=BV s.d a:=by
 rw [lA _ (fun x hx=>by
  have b0:=hb.get a;have b1:=hb.get (a+1);have b2:=hb.get (a+2);have b3:=hb.get (a+3);simp only [List.mem_cons,List.not_mem_nil,or_false]at hx;rcases hx with rfl|rfl|rfl|rfl<;>assumption),wA]
 show 0+s.d.getD a 0*256^0+s.d.getD (a+1) 0*256^1+s.d.getD (a+2) 0*256^2+s.d.getD (a+3) 0*256^3=_;have e:s.d.getD (a+0) 0=s.d.getD a 0:=J;rw [e];omega
def sO(m:Int→Int)(n:Nat):List Int:=(List.range n).map fun k:Nat=>m (8192+4*(k:Int))
theorem M2(m:Int→Int)(n:Nat):sO m (n+1)=sO m n++ [m (8192+4*(n:Int))]:=by
 unfold sO;rw [List.range_succ,List.map_append];rfl
theorem sN(m:Int→Int)(n:Nat):(sO m n).length=n:=by unfold sO;rw [List.length_map,List.length_range]
theorem Ni{code:List Qi}{c:Qs}{x:Int}{s:Mm}(h:Sim code c x s){t:Nat}(ht:t<256):Lc (bv (lT [s.d.getD (8192+4*(t:Int)).toNat 0,s.d.getD (8192+4*(t:Int)+1).toNat 0,s.d.getD (8192+4*(t:Int)+2).toNat 0,s.d.getD (8192+4*(t:Int)+3).toNat 0])) 4=c.m (8192+4*(t:Int)):=by
 rw [show(8192+4*(t:Int)+1).toNat=(8192+4*(t:Int)).toNat+1 by omega,show(8192+4*(t:Int)+2).toNat=(8192+4*(t:Int)).toNat+2 by omega,show(8192+4*(t:Int)+3).toNat=(8192+4*(t:Int)).toNat+3 by omega,Nj h.k.hb];exact h.mem _ ⟨by omega,by omega,by omega⟩
theorem yp{l:List Int}(h:¬(l.length:Int)>0):l.headD 0=0∧l.tail=l:=by
 cases l with
 | nil=>exact⟨rfl,rfl⟩
 | cons a l=>exact absurd (show(((a::l).length:Nat):Int)>0 by rw [bP];omega) h
theorem qA{code:List Qi}(hl:code.length≤1984)(hv:∀i∈code,qQ i=true∧0≤i.imm∧i.imm<4294967296)(vin:SV)(ins:List Int)(hi:∀v∈ins,0≤v∧v<4294967296){n:Nat}{c':Qs}(hn:rn code n ⟨0,fun _=>0,fun _=>0,ins,[]⟩ c'){i0:Qi}(hc:code[c'.pc]?=some i0)(hz:i0=⟨48,0,0,0,0⟩∨i0=⟨49,0,0,0,0⟩)(most:Int)(hm:(n:Int)<most∧most<1000000000):
  Spec prog 25 [Sg (lT (eo code)),sv vin,I6 most] [] [sl 1 eU (sv vin) ins] (X:=SV×SV) (fun _=>True) (fun x=> .agg #[sv x.1,sv x.2,I6 (q_ i0).1,I3 (q_ i0).2]) (fun x=> [own 41 1 eU (sv x.1) c'.out,own 41 1 eU (sv x.2) (sO c'.m 256)]) (fun _=> []):=by
 refine aI func25 J ntmps25 J fun w0 M H=> ?_
 obtain⟨most2,hmm⟩:∃z:Int,z=most:=⟨_,J⟩
 refine ap (aY zw J J fun b6=>aF J (aj (xs:= [.const (I6 64)]) (qIO 64 (by decide)) TB [] [] [24,20,21,22,23] (fun y _=>ak J (aF J (ad J (ad J (aj (xs:= [.tmp 14,.tmp 15]) (zM y.1 y.2 (wy 64) 64 (FW (by decide)) (by decide) (lT (eo code)) (by rw [iw,ga];omega)) Tw [20,21,22,23,24] [] [20,21,22,23,24] (fun _ _=> ?_))))))));rw [lA _ (tB code)];refine aF J (aP (aU (cs:=(Value.agg #[sv bk,sv bk,I6 0,I3 0]).cells) (parts:= []) zw So J (by kernel_rfl)) (aY zw J J fun b8=>aq (k:=8) zw J J J J J J (aa (a_ (aB (aZ 0 1 J (fun w G h _=>⟨G,h,fun _ h=>h⟩) (cZ 12 (α:=Int) (S:=41) (s:=1) (enc:=eU) (bC (X:=Sl) (fun p=>Sim code p.c p.x p.s∧rn code p.m p.c c'∧p.m+p.k=n∧p.c.out.length≤p.k) (fun p=> [(1,sv p.v),(2,I6 most),(6,Pt b6),(7,Pt y.1),(8,Pt b8)]) (fun p=> [(20,bh y.2.m 157 (mR y.2)),(21,own 5 1 co (sv y.2.vd) p.s.d),(22,own 5 1 co (sv y.2.vi) p.s.i),(23,own 3 1 eI (sv y.2.vr) p.s.r),(24,bh y.1 93 (qL p.x p.c.r (p.k:Int) y.2.m)),(6,bh b6 55 [sv bk,sv bk,I6 0,I3 0]),(8,bh b8 55 [sv p.vo,sv bk,I6 0,I3 0]),(12,own 41 1 eU (sv p.vo) p.c.out)]) (fun p=> [(1,sl 1 eU (sv p.v) p.c.inp)]) (fun p=>p.m) ⟨256,Oj (wy 64) (eo code),⟨0,fun _=>0,fun _=>0,ins,[]⟩,n,0,vin,bk⟩ ⟨M5 hl hv hi,hn,J,bX _⟩ J J J (fun p hp=> ?_)))))))));obtain⟨hp1,hp2,hp3,hp4⟩:=hp;obtain⟨k1,c1,i,hk1,hi1,hi2,hk2,hor⟩:=Iu hp2 hc (by rcases hz with rfl|rfl;exact .inl J;exact .inr J);have hio:=Fg hk1;refine aB (ap (ad J (ad J (ad J (bI J (aC eA J (aC jj J (aQ 24 t3 J J J J (aw J J (gu (bU (by omega))) ?_)))))))));refine dh (xs:= [.tmp 18,.tmp 25]) (Dn y.2 y.1 hp1 hk1 hi1 hi2 (p.k:Int) (most-p.k) ⟨by omega,by omega⟩ (by omega)) Tm [20,21,22,23,24] [] [20,21,22,23,24] J J J J J J J J (fun _ _=>J) (fun _ _ _=>J) J (fun q hq=> ?_)
 refine aY za J J fun b9=>aq (k:=9) za J J J J J J (aa (aT (aC qg J (aQ 9 t3 J J J J (aw J J eD (ad J (aG [] J J O (fun hg1=>ag AF J) J (aG [(31,_)] J J ⟨J,O⟩ (fun hg2=>ah dm J J (ay (k:=9) J J)) J (aG [(31,_),(32,_)] J J ⟨J,J,O⟩ (fun hg3=>aR J J cr) J (aP (bH J J J) (ad J (aG [] J J O (fun hg4=>ag AF J) J (aG [(36,_)] J J ⟨J,O⟩ (fun hg5=>ah dm J J (ay (k:=9) J J)) J (aG [(36,_),(37,_)] J J ⟨J,J,O⟩ (fun hg6=>aR J J ec) J (aP (bH J J J) (aa ?_))))))))))))))))
 refine ai J (fun h7=> ?_) (fun h7=> ?_)
 ·obtain⟨e1,e2,e3⟩:=Mc hor (by have q:=h7;simp at q;omega);have e2':=e2.symm;have e3':=e3.symm;subst e2';subst e3';refine ap (aP (aM za J J J (aX (k:=9) J)) (aC td J (aA (k:=8) za J J J J J J J J (aa (bF (aT (ak J (aa (aB ?_)))))))));obtain⟨g,hg,hgk⟩:∃g:Sl,Sim code c' g.x g.s∧g=⟨q.1,q.2,c',0,n,p.v,p.vo⟩:=⟨⟨q.1,q.2,c',0,n,p.v,p.vo⟩,hq,J⟩
  have hgs:q.2=g.s:=by rw [hgk]
  have hgl:=hg.k.hs.d;rw [hgs];refine cZ 13 (α:=Int) (S:=41) (s:=1) (enc:=eU) (bC (X:=Nat×SV) (fun z=>z.1≤256) (fun z=> [(6,Pt b6),(7,Pt y.1),(8,Pt b8),(10,I6 (z.1:Int))]) (fun z=> [(20,bh y.2.m 157 (mR y.2)),(21,own 5 1 co (sv y.2.vd) g.s.d),(22,own 5 1 co (sv y.2.vi) g.s.i),(23,own 3 1 eI (sv y.2.vr) g.s.r),(24,bh y.1 93 (qL q.1 c'.r ((p.k:Int)+(k1:Int)) y.2.m)),(6,bh b6 55 [sv bk,sv bk,I6 0,I3 0]),(8,bh b8 55 [sv p.vo,sv z.2,I6 (q_ i0).1,I3 (q_ i0).2]),(12,own 41 1 eU (sv p.vo) c'.out),(13,own 41 1 eU (sv z.2) (sO c'.m z.1))]) (fun z=> []) (fun z=>256-z.1) (0,bk) (br _) J (by rw [hio.2];rfl) J (fun z hz1=> ?_));obtain⟨t,vm⟩:=z;have hz1:t≤256:=hz1;dsimp only;refine aT (ad J (aw J J cr (aa (ai J (fun h8=> ?_) (fun h8=> ?_)))))
  ·(try simp only [bj]at h8);have hi5:t<256:=by omega
   have hml:=sN c'.m t;refine az (a_ (aB (ap (ad J (aw J J kW (aw J J aO (aP (cC underlying3 underlying41 J (by first|exact cd (by omega)|rfl)) (ak J (aa (a_ ?_))))))))))
   refine bJ [101,102,103,104,105,106,107,108,109,110,111,112,113,114,115,116,117,118,119,120,121,122,123,124,125,126,127,128,129,12] _ J (aW (V:= [(0,101,_),(1,102,_),(2,103,_),(3,104,_),(4,105,_),(6,107,_),(7,108,_),(8,109,_),(9,110,_),(10,111,_),(11,112,_),(13,114,_),(14,115,_),(15,116,_),(16,117,_),(17,118,_),(18,119,_),(20,121,_),(21,122,_),(22,123,_),(23,124,_),(24,125,_),(25,126,_)]) [0,1,2,3,4,6,7,8,9,10,11,13,14,15,16,17,18,20,21,22,23,24,25] 5 [5,4,3,2,1,0] [] (fun _=> []) J J (aD J J (ac J (au J) (ac J (ag gq J) (ac J (ah xz J J (ay (k:=24) J J)) (aD J J (aD J J (ac J (au J) (ac J (ag gq J) (ac J (ah xz J J (ay (k:=24) J J)) (aD J J (ac J (aR J J (cw (c:=(8192+4*(t:Int)+1)) (cd (by omega)))) (aD J J (ac J (au J) (ac J (ag gq J) (ac J (ah xz J J (ay (k:=24) J J)) (aD J J (ac J (aR J J (cw (c:=(8192+4*(t:Int)+2)) (cd (by omega)))) (aD J J (ac J (au J) (ac J (ag gq J) (ac J (ah xz J J (ay (k:=24) J J)) (aD J J (ac J (aR J J (cw (c:=(8192+4*(t:Int)+3)) (cd (by omega)))) av))))))))))))))))))))))) J J J J J J J J J J J (fun _ _=>J) J (bB (xs:= [.tmp 104,.tmp 105]) (oG y.2 g.s 64 hg.k.hs (8192+4*(t:Int)) (by omega) (by omega)) Ke [20,21,22,23] [] [20,21,22,23]) (fun _ _=>aW [6,7,8,9,10,11,13,14,15,16,17,18,20,21,22,23,24,25] 12 [12,11,10,9,8,7,6,5,4,3,2,1,0] [] (fun _=> []) J J (aD J J (ac J (au J) (ac J (ag gq J) (ac J (ah xz J J (ay (k:=24) J J)) (aD J J (ac J (aR J J (cw (c:=(8192+4*(t:Int)+1)) (cd (by omega)))) (aD J J (ac J (au J) (ac J (ag gq J) (ac J (ah xz J J (ay (k:=24) J J)) (aD J J (ac J (aR J J (cw (c:=(8192+4*(t:Int)+2)) (cd (by omega)))) (aD J J (ac J (au J) (ac J (ag gq J) (ac J (ah xz J J (ay (k:=24) J J)) (aD J J (ac J (aR J J (cw (c:=(8192+4*(t:Int)+3)) (cd (by omega)))) av)))))))))))))))))) J J J J J J J J J J J (fun _ _=>J) J (bB (xs:= [.tmp 110,.tmp 112]) (oG y.2 g.s 64 hg.k.hs (8192+4*(t:Int)+1) (by omega) (by omega)) Ke [20,21,22,23] [] [20,21,22,23]) (fun _ _=>aW [13,14,15,16,17,18,20,21,22,23,24,25] 19 [19,18,17,16,15,14,13,12,11,10,9,8,7,6,5,4,3,2,1,0] [] (fun _=> []) J J (aD J J (ac J (au J) (ac J (ag gq J) (ac J (ah xz J J (ay (k:=24) J J)) (aD J J (ac J (aR J J (cw (c:=(8192+4*(t:Int)+2)) (cd (by omega)))) (aD J J (ac J (au J) (ac J (ag gq J) (ac J (ah xz J J (ay (k:=24) J J)) (aD J J (ac J (aR J J (cw (c:=(8192+4*(t:Int)+3)) (cd (by omega)))) av)))))))))))) J J J J J J J J J J J (fun _ _=>J) J (bB (xs:= [.tmp 117,.tmp 119]) (oG y.2 g.s 64 hg.k.hs (8192+4*(t:Int)+2) (by omega) (by omega)) Ke [20,21,22,23] [] [20,21,22,23]) (fun _ _=>aW [20,21,22,23,24,25] 26 [26,25,24,23,22,21,20,19,18,17,16,15,14,13,12,11,10,9,8,7,6,5,4,3,2,1,0] [] (fun _=> []) J J (aD J J (ac J (au J) (ac J (ag gq J) (ac J (ah xz J J (ay (k:=24) J J)) (aD J J (ac J (aR J J (cw (c:=(8192+4*(t:Int)+3)) (cd (by omega)))) av)))))) J J J J J J J J J J J (fun _ _=>J) J (bB (xs:= [.tmp 124,.tmp 126]) (oG y.2 g.s 64 hg.k.hs (8192+4*(t:Int)+3) (by omega) (by omega)) Ke [20,21,22,23] [] [20,21,22,23]) (fun _ _=>aW [] 27 [27,26,25,24,23,22,21,20,19,18,17,16,15,14,13,12,11,10,9,8,7,6,5,4,3,2,1,0] [28,29] (fun v128=> [(28,129,_),(29,12,_)]) J J av J J J J J J J J J J J (fun _ _=>J) J (fX co [g.s.d.getD (8192+4*(t:Int)).toNat 0,g.s.d.getD (8192+4*(t:Int)+1).toNat 0,g.s.d.getD (8192+4*(t:Int)+2).toNat 0,g.s.d.getD (8192+4*(t:Int)+3).toNat 0] (parts:= [(0,.tmp 106),(1,.tmp 113),(2,.tmp 120),(3,.tmp 127)]) underlying84 t5 J (by decide) (by intro _;rfl) J (by decide) (by decide) J J J) (fun v128 _=>bl [28,29] J J (ac J (FA underlying84 underlying5 underlying9 J (be (k:=128) J) (by simp)) (ac J (cA J) av)) J J J ?_))))))
   refine bJ [130,131,132,133,134,135,136] _ J (aW (V:= [(0,130,_),(1,131,_),(2,132,_)]) [0,1,2] 3 [3,2] [] (fun _=> []) J J (ac J (ag qe J) (ac J (ah qS J J (ay (k:=8) J J)) (aD J J av))) J J J J J J J J J J J (fun _ _=>J) J (bB (xs:= [.tmp 132]) (Dr (lT [g.s.d.getD (8192+4*(t:Int)).toNat 0,g.s.d.getD (8192+4*(t:Int)+1).toNat 0,g.s.d.getD (8192+4*(t:Int)+2).toNat 0,g.s.d.getD (8192+4*(t:Int)+3).toNat 0]) (by rw [iw];rfl)) Tl [] [] []) (fun _ _=>aW [0,1] 4 [4,3,2] [] (fun v134=> []) J J (ac J (ag qe J) (ac J (ah qS J J (ay (k:=8) J J)) av)) J J J J J J J J J J J (fun _ _=>J) J (dH eU _ underlying48 dm J (by decide) (by decide) J J J) (fun v134 _=>aW [0,1] 5 [5,4,3,2,1,0] [6] (fun v135=> [(6,136,_)]) J J (ac J (ag qe J) (ac J (ah qS J J (ay (k:=8) J J)) av)) J J J J J J J J J J J (fun _ _=>J) J (gC 13 underlying48 dm J (by decide) (fun _=>J) (fun _=>J) J J J (be (k:=134) J) (by first|omega|(simp;done)|(simp;omega)) (by unfold maxLen;first|omega|(simp;done)|(simp;omega))) (fun v135 _=>bE [6] 7 [7,6,5,4,3,2,1,0] [] (fun _=> []) J J (ac J (ag qe J) av) J J J J J J J J J (fun _ _=>J) J (c9 (k:=8) qS J J J J J J J J) (fun _ _=>bl [] J J av J J J ?_)))));refine am (ad J (aw J J aO (ak J (aa ?_))));refine aJ (t+1,v135) ⟨by show t+1≤256;omega,by show 256-(t+1)<256-t;omega⟩ J (by dsimp only;rw [M2,Ni hg hi5];rfl) J
  ·(try simp only [bj]at h8);obtain rfl:t=256:=by omega
   refine bF (ap (aP (aM zw J J J (aX (k:=8) J)) (aq (k:=6) zw J J J J J J (aa (ax (aH (p.vo,vm) O J (bQ (aV zw J J J (aX (k:=6) J))) J [12,13] [] J J J))))))
 ·obtain⟨c2,m2,o1,o2,o3,o4⟩:=OV hor hz (by have q:=h7;simp at q;omega);refine az (aT (aC AF J (aQ 9 dm J J J J (aw J J bn (aa (ai J (fun h9=> ?_) (fun h9=> ?_)))))))
  ·obtain rfl:=Mb o2 o1 (by simpa using h9);refine bJ [45,46,47,48,49,50,51,52,53,54,55] _ J (aW (V:= [(0,45,_),(1,46,_),(2,47,_),(3,48,_),(4,49,_),(5,50,_),(6,51,_),(7,52,_)]) [0,1,2,3,4,5,6,7] 8 [8,7,6,5,4,3,2] [] (fun v53=> []) J J (ac J (ag qf J) (ac J (ah qS J J (ay (k:=8) J J)) (aD J J (ac J (au J) (ac J (ag eA J) (ac J (ag ig J) (ac J (dz (j:=1) underlying75 dm J J (by rfl) (by decide)) (ac J (ah dm J J (ay (k:=24) J J)) av)))))))) J J J J J J J J J J J (fun _ _=>J) J (dH eU _ underlying48 dm J (by decide) (by decide) J J J) (fun v53 _=>aW [0,1] 9 [9,8,7,6,5,4,3,2,1,0] [10] (fun v54=> [(10,55,_)]) J J (ac J (ag qf J) (ac J (ah qS J J (ay (k:=8) J J)) av)) J J J J J J J J J J J (fun _ _=>J) J (gC 12 underlying48 dm J (by decide) (fun _=>J) (fun _=>J) J J J (be (k:=53) J) (by first|omega|(simp;done)|(simp;omega)) (by unfold maxLen;first|omega|(simp;done)|(simp;omega))) (fun v54 _=>bE [10] 11 [11,10,9,8,7,6,5,4,3,2,1,0] [] (fun _=> []) J J (ac J (ag qf J) av) J J J J J J J J J (fun _ _=>J) J (c9 (k:=8) qS J J J J J J J J) (fun _ _=>bl [] J J av J J J ?_))));refine ap (ad J (ad J (bI J (aC eA J (aC jk J (aQ 24 dm J J J J (aw J J (cw (c:=q.1+4) (kH (hq.nx hi1).2.1 (hq.nx hi1).2.2)) (bI J (aC eA J (aC jk J (aA (k:=24) (us:= [I3 (q.1+4)]) (c':=qL (q.1+4) c1.r ((p.k:Int)+(k1:Int)) y.2.m) dm J J J J J J J J (aa (am (ad J (bI J (aC eA J (aC jj J (aQ 24 t3 J J J J ?_))))))))))))))))));refine aw J J (cw (c:=(p.k:Int)+(k1:Int)+1) (bU (by omega))) (bI J (aC eA J (aC jj J (aA (k:=24) (us:= [I6 ((p.k:Int)+(k1:Int)+1)]) (c':=qL (q.1+4) c1.r ((p.k:Int)+(k1:Int)+1) y.2.m) t3 J J J J J J J J (aa ?_)))));refine aJ ⟨q.1+4,q.2,_,m2,p.k+k1+1,p.v,v54⟩ ⟨⟨hq.nout hi1 _,o4,by show m2+(p.k+k1+1)=n;omega,by show(c1.out++ [c1.r 1]).length≤p.k+k1+1;rw [bG,hio.2];show _+1≤_;omega⟩,by show m2<p.m;omega⟩ J (by dsimp only;rw [hio.2,show((p.k+k1+1:Nat):Int)=(p.k:Int)+(k1:Int)+1 by omega];rfl) (by dsimp only;rw [hio.1];rfl)
  ·obtain rfl:=OU o2 o1 (by simpa using h9);refine ap (ad J (bI J (aC eA J (aC ig J (aP (dz (j:=1) underlying75 dm J J (by rfl) (by decide)) (aA (k:=24) (us:= [I3 0]) (c':=qL q.1 (rp c1.r 1 0) ((p.k:Int)+(k1:Int)) y.2.m) dm J J J J J J J J (aF J (ad J (aP (aS underlying48 J (aK (k:=1) J)) (aw J J ec (aa (ai J (fun h10=> ?_) (fun h10=> ?_)))))))))))))
   ·(try simp only [bj]at h10);obtain⟨a0,l0,ha0⟩:∃a l,p.c.inp=a::l:=by
     cases hl0:p.c.inp with
     | nil=>rw [hl0]at h10;exact absurd h10 (by decide)
     | cons a l=>exact⟨a,l,rfl⟩
    refine a_ ?_;refine bJ [64,65,66,67,68,69,70,71] _ J (bE (V:= [(0,64,_),(1,65,_),(2,66,_),(3,67,_),(4,68,_),(5,69,_),(6,70,_),(7,71,_)]) [0,1,2,3,4,5,6,7] 8 [8,7,6,5,4,3,2,1,0] [] (fun _=> []) J J (aD J J (aD J J (ac J (aN (j:=0) underlying48 dm J J (aK (k:=1) J) J (by rw [ha0];exact Nat.succ_pos _)) (ac J (ah dm J J (bA (aK (k:=1) J) (by intro _;rfl) (show p.c.inp[0]?=some a0 by rw [ha0];rfl) (by rfl))) (ac J (au J) (ac J (ag eA J) (ac J (ag ig J) (ac J (dz (j:=1) underlying75 dm J J (by rfl) (by decide)) av)))))))) J J J J J J J J J (fun _ _=>J) J (c9 (k:=24) (us:= [I3 a0]) (c':=qL q.1 (rp c1.r 1 a0) ((p.k:Int)+(k1:Int)) y.2.m) dm J J J J J J J J) (fun _ _=>bl [] J J av J J J ?_));refine am (ad J (zQ (j:=1) 1 1 underlying48 dm (by intro _;rfl) J J J (by rw [ha0];exact Nat.succ_le_succ (br _)) J J fun v73=>ak J (aF J (ad J (ad J (bI J (aC eA J (aC jk J (aQ 24 dm J J J J (aw J J (cw (c:=q.1+4) (kH (hq.nx hi1).2.1 (hq.nx hi1).2.2)) (bI J (aC eA J (aC jk J (aA (k:=24) (us:= [I3 (q.1+4)]) (c':=qL (q.1+4) (rp c1.r 1 a0) ((p.k:Int)+(k1:Int)) y.2.m) dm J J J J J J J J (aa (am ?_))))))))))))))));refine ad J (bI J (aC eA J (aC jj J (aQ 24 t3 J J J J (aw J J (cw (c:=(p.k:Int)+(k1:Int)+1) (bU (by omega))) (bI J (aC eA J (aC jj J (aA (k:=24) (us:= [I6 ((p.k:Int)+(k1:Int)+1)]) (c':=qL (q.1+4) (rp c1.r 1 a0) ((p.k:Int)+(k1:Int)+1) y.2.m) t3 J J J J J J J J (aa ?_))))))))));refine aJ ⟨q.1+4,q.2,_,m2,p.k+k1+1,v73,p.vo⟩ ⟨⟨hq.nin hi1,o4,by show m2+(p.k+k1+1)=n;omega,by show c1.out.length≤p.k+k1+1;rw [hio.2];omega⟩,by show m2<p.m;omega⟩ J (by dsimp only;rw [hio.2,hio.1,ha0,show((p.k+k1+1:Nat):Int)=(p.k:Int)+(k1:Int)+1 by omega];rfl) (by dsimp only;rw [hio.1,ha0];rfl)
   ·(try simp only [bj]at h10);have hin:¬(p.c.inp.length:Int)>0:=by omega
    refine az (ap (ad J (ad J (bI J (aC eA J (aC jk J (aQ 24 dm J J J J (aw J J (cw (c:=q.1+4) (kH (hq.nx hi1).2.1 (hq.nx hi1).2.2)) (bI J (aC eA J (aC jk J (aA (k:=24) (us:= [I3 (q.1+4)]) (c':=qL (q.1+4) (rp c1.r 1 0) ((p.k:Int)+(k1:Int)) y.2.m) dm J J J J J J J J (aa (am (ad J (bI J (aC eA J (aC jj J ?_))))))))))))))))));refine aQ 24 t3 J J J J (aw J J (cw (c:=(p.k:Int)+(k1:Int)+1) (bU (by omega))) (bI J (aC eA J (aC jj J (aA (k:=24) (us:= [I6 ((p.k:Int)+(k1:Int)+1)]) (c':=qL (q.1+4) (rp c1.r 1 0) ((p.k:Int)+(k1:Int)+1) y.2.m) t3 J J J J J J J J (aa ?_))))));refine aJ ⟨q.1+4,q.2,_,m2,p.k+k1+1,p.v,p.vo⟩ ⟨⟨hq.nin hi1,o4,by show m2+(p.k+k1+1)=n;omega,by show c1.out.length≤p.k+k1+1;rw [hio.2];omega⟩,by show m2<p.m;omega⟩ J (by dsimp only;rw [hio.2,hio.1,(yp hin).1,show((p.k+k1+1:Nat):Int)=(p.k:Int)+(k1:Int)+1 by omega];rfl) (by dsimp only;rw [hio.1,(yp hin).2];rfl)
theorem AJ(t:Tx)(ht:GX t)(hn:nX t≤1000000000000)(ih:∀u∈t.kids,nX u≤1000000000000→Spec prog 107 [xV u] [] [ce u.v u.kids] (X:=Unit) (fun _=>True) (fun _=>I6 (nX u:Int)) (fun _=> []) (fun _=> [])):
  bi prog 107 [xV t] [] [ce t.v t.kids] (I6 (nX t:Int)) []:=by
 refine aI func107 J ntmps107 J fun w0 M H=> ?_
 have hkl:=mC ht;have hnx:=uO t;refine aZ 0 2 J gd (ap (ck J J fun b1=>ak J (aF J (ak J (aa (aT (ak J (aa (aB (aZ 2 1 J (fun w G h _=>⟨G,h,fun _ h=>h⟩) (bC (X:=Nat) (fun i=>i≤t.kids.length) (fun i=> [(1,Pt b1),(3,I6 (1+(dW (t.kids.take i):Int))),(4,I6 (i:Int))]) (fun i=> [(1,bh b1 61 (dT t))]) (fun i=> [(0,ce t.v t.kids),(1,sl 4 dT (sv t.v) t.kids)]) (fun i=>t.kids.length-i) 0 (br _) J J J (fun i n1=>a_ (a_ ?_)))))))))))));refine am (ad J (aC dx J (aQ 1 jh J J J J (aP (aS underlying59 J (aK (k:=1) J)) (aw J J cr (aa (ai J (fun h1=> ?_) (fun h1=> ?_))))))))
 ·(try simp only [bj]at h1);have hi:i<t.kids.length:=by omega
  obtain⟨kid,hkid⟩:∃k,t.kids[i]?=some k:=⟨_,bN hi⟩
  have hkm:=bT hkid;have hle:=mn t.kids (i+1);rw [fg hkid]at hle;refine az (a_ (aB (am (ad J (aC dx J (aQ 1 jh J J J J (ad J (aP (aN (j:=i) underlying59 cl J J (aK (k:=1) J) (by first|rfl|omega) (by first|omega|(simp;done)|(simp;omega))) (aP (aM cl J J J (bA (aK (k:=1) J) (by intro _;rfl) hkid (by rfl))) (aZ 0 8 J (dD hkm) (aj (xs:= [.tmp 17]) (ih kid hkm (by omega)) LI [] [(false,8)] [] (fun _ _=>aw J J aO (ak J (aa (am (ad J (aw J J aO (ak J (aa ?_)))))))))))))))))));refine aJ (i+1) ⟨by omega,by omega⟩ (by rw [fg hkid,Int.natCast_add,←Int.add_assoc];rfl) J J
 ·(try simp only [bj]at h1);have hi:i=t.kids.length:=by omega
  subst hi;rw [cS];refine bF (ap (ad J (ak J (aa (ax (aH () O J (bQ (aL J)) (by rw [hnx,Int.natCast_add,Int.add_comm];rfl) [] [] J J J))))))
theorem u5:∀(n:Nat)(t:Tx),SizeOf.sizeOf t<n→GX t→nX t≤1000000000000→bi prog 107 [xV t] [] [ce t.v t.kids] (I6 (nX t:Int)) []
 | 0,_,h,_,_=>absurd h (Nat.not_lt_zero _)
 | n+1,t,h,ht,hn=>AJ t ht hn fun u hu h2=>u5 n u (by have:=qy hu;omega) ((kx ht).mem u hu) h2
theorem AK(t:Tx)(ht:GX t)(hn:nX t≤1000000000000):bi prog 107 [xV t] [] [ce t.v t.kids] (I6 (nX t:Int)) []:=u5 _ t (Nat.lt_succ_self _) ht hn
theorem zz(v:SV)(l:List Ty)(hl:l.length≤1000000)(hg:GYs l)(hn:cB l≤1000000000000)(ih:∀u∈l,cB u.body≤1000000000000→cB u.els≤1000000000000→(Spec prog 61 [sv u.vb] [] [bV u.vb u.body] (X:=Unit) (fun _=>True) (fun _=>I6 (cB u.body:Int)) (fun _=> []) (fun _=> []))∧(Spec prog 61 [sv u.vl] [] [bV u.vl u.els] (X:=Unit) (fun _=>True) (fun _=>I6 (cB u.els:Int)) (fun _=> []) (fun _=> []))):
  bi prog 61 [sv v] [] [bV v l] (I6 (cB l:Int)) []:=by
 refine aI func61 J ntmps61 J fun w0 M H=>aZ 0 1 J ic (ap (ak J (aF J (ad J (aP (aS underlying62 J (aK (k:=1) J)) (ak J (aa (aT (ak J (aa (aB ?_)))))))))))
 refine bC (X:=Nat) (fun i=>i≤l.length) (fun i=> [(0,sv v),(4,I6 (i:Int)),(3,I6 ((l.length:Int)-(i:Int)+(cB (l.take i):Int)))]) (fun i=> []) (fun i=> [(0,bV v l),(1,sl 5 eE (sv v) l)]) (fun i=>l.length-i) 0 (br _) (by rw [show(l.length:Int)-((0:Nat):Int)+(cB (l.take 0):Int)=(l.length:Int) by simp [cB]];rfl) J J (fun i n1=> ?_);refine aT (ad J (ad J (aP (aS underlying62 J (aK (k:=1) J)) (aw J J cr (aa (ai J (fun h1=> ?_) (fun h1=> ?_)))))))
 ·(try simp only [bj]at h1);have hi:i<l.length:=by omega
  obtain⟨st,hst⟩:∃k,l[i]?=some k:=⟨_,bN hi⟩
  have hsm:=bT hst;have hsy:=hg.mem st hsm;have hsg:=pn hsy;have hle:=nK l (i+1);rw [iW hst]at hle;have hny:=FL st;refine aZ 0 7 J (kZ hsm) (aZ 0 8 J (gS hsm) (aZ 0 9 J (iO hsm) (aZ 7 10 J gd (az (a_ (aB (aT (ak J (aa (aB ?_))))))))));refine bC (X:=Nat) (fun j=>j≤st.es.length) (fun j=> [(0,sv v),(4,I6 (i:Int)),(3,I6 ((l.length:Int)-(i:Int)+(cB (l.take i):Int)+(dW (st.es.take j):Int))),(5,I6 (j:Int))]) (fun j=> []) (fun j=> [(0,bV v l),(1,sl 5 eE (sv v) l),(7,ce st.ve st.es),(8,bV st.vb st.body),(9,bV st.vl st.els),(10,sl 4 dT (sv st.ve) st.es)]) (fun j=>st.es.length-j) 0 (br _) (by rw [show(l.length:Int)-(i:Int)+(cB (l.take i):Int)+(dW (st.es.take 0):Int)=(l.length:Int)-(i:Int)+(cB (l.take i):Int) by simp [dW]];rfl) J J (fun j n2=> ?_);refine aT (ad J (ad J (ad J (aP (aN (j:=i) underlying62 dK J J (aK (k:=1) J) (by first|rfl|omega) (by first|omega|(simp;done)|(simp;omega))) (aP (ek gj J) (aP (ah jh J J (ko (aK (k:=1) J) (by intro _;rfl) hst J)) (aP (aS underlying59 J (aK (k:=10) J)) (aw J J cr (aa (ai J (fun h2=> ?_) (fun h2=> ?_)))))))))))
  ·(try simp only [bj]at h2);have hj:j<st.es.length:=by omega
   obtain⟨kid,hkid⟩:∃k,st.es[j]?=some k:=⟨_,bN hj⟩
   have hkm:=bT hkid;have hlx:=mn st.es (j+1);rw [fg hkid]at hlx;refine az (a_ (aB (am (ad J (ad J (ad J (aP (aN (j:=i) underlying62 dK J J (aK (k:=1) J) (by first|rfl|omega) (by first|omega|(simp;done)|(simp;omega))) (aP (ek gj J) (aP (ah jh J J (ko (aK (k:=1) J) (by intro _;rfl) hst J)) (ad J (aP (aN (j:=j) underlying59 cl J J (aK (k:=10) J) (by first|rfl|omega) (by first|omega|(simp;done)|(simp;omega))) (aP (aM cl J J J (bA (aK (k:=10) J) (by intro _;rfl) hkid (by rfl))) (aZ 7 12 J (dD hkm) (aj (xs:= [.tmp 32]) (AK kid (hsg.2.mem kid hkm) (by omega)) LI [] [(false,12)] [] (fun _ _=>aw J J aO (ak J (aa (am (ad J ?_)))))))))))))))))));refine aw J J aO (ak J (aa ?_));refine aJ (j+1) ⟨by omega,by omega⟩ (by rw [fg hkid,Int.natCast_add,←Int.add_assoc];rfl) J J
  ·(try simp only [bj]at h2);have hj:j=st.es.length:=by omega
   subst hj;rw [cS];refine bF ?_;refine bJ [35,36,37,38,39,40,41,42,43,44,45,46,47,48,49] _ J (aW (V:= [(0,35,_),(1,36,_),(2,37,_),(3,38,_),(4,39,_),(5,40,_),(8,43,_),(9,44,_),(10,45,_),(11,46,_),(12,47,_)]) [0,1,2,3,4,5,8,9,10,11,12] 6 [6,5,4,3,2,1] [7] (fun _=> [(7,42,_)]) J J (aD J J (aD J J (aD J J (ac J (aN (j:=i) underlying62 dK J J (aK (k:=1) J) (by first|rfl|omega) (by first|omega|(simp;done)|(simp;omega))) (ac J (ek ft J) (ac J (ah iP J J (ko (aK (k:=1) J) (by intro _;rfl) hst J)) (aD J J (aD J J (ac J (aN (j:=i) underlying62 dK J J (aK (k:=1) J) (by first|rfl|omega) (by first|omega|(simp;done)|(simp;omega))) (ac J (ek fq J) (ac J (ah iP J J (ko (aK (k:=1) J) (by intro _;rfl) hst J)) av))))))))))) J J J J J J J J J J J (fun _ _=>J) J (bB (xs:= [.tmp 40]) (ih st hsm (by omega) (by omega)).1 NS [] [(false,8)] []) (fun _ _=>aW [7,0,8,9,10,11,12] 13 [13,12,11,10,9,8,6,5,4,3,2,1] [14] (fun _=> [(14,49,_)]) J J (ac J (aR J J aO) (aD J J (aD J J (aD J J (ac J (aN (j:=i) underlying62 dK J J (aK (k:=1) J) (by first|rfl|omega) (by first|omega|(simp;done)|(simp;omega))) (ac J (ek fq J) (ac J (ah iP J J (ko (aK (k:=1) J) (by intro _;rfl) hst J)) av))))))) J J J J J J J J J J J (fun _ _=>J) J (bB (xs:= [.tmp 47]) (ih st hsm (by omega) (by omega)).2 NS [] [(false,9)] []) (fun _ _=>xD [14,7,0] 15 [15,14,13,12,11,10,9,8,7,6,5,4,3,2,1,0] J J (ac J (aR J J aO) (ac J (aR J J aO) (aD J J av))) J J J J J J J J (cA J) ?_)));refine am (ad J (aw J J aO (ak J (aa ?_))));refine aJ (i+1) ⟨by omega,by omega⟩ (by rw [iW hst,show(l.length:Int)-((i+1:Nat):Int)+((cB (l.take i)+nY st:Nat):Int)=(l.length:Int)-(i:Int)+(cB (l.take i):Int)+(dW st.es:Int)+(cB st.body:Int)+(cB st.els:Int) by omega];rfl) J J
 ·(try simp only [bj]at h1);have hi:i=l.length:=by omega
  subst hi;rw [cS];refine bF (ap (ad J (ak J (aa (ax ?_)))));refine aH () O J (bQ (aL J)) (by rw [show(l.length:Int)-(l.length:Int)+(cB l:Int)=(cB l:Int) by omega]) [] [] J J J
theorem pK:∀(n:Nat)(v:SV)(l:List Ty),SizeOf.sizeOf l<n→l.length≤1000000→GYs l→cB l≤1000000000000→bi prog 61 [sv v] [] [bV v l] (I6 (cB l:Int)) []
 | 0,_,_,h,_,_,_=>absurd h (Nat.not_lt_zero _)
 | n+1,v,l,h,hl,hg,hn=>zz v l hl hg hn fun u hu q1 q2=>by
  have h1:=List.sizeOf_lt_of_mem hu;have h2:SizeOf.sizeOf u.body<SizeOf.sizeOf u∧SizeOf.sizeOf u.els<SizeOf.sizeOf u:=by
   cases u;simp only [Ty.mk.sizeOf_spec,Ty.body,Ty.els];omega
  have h3:=hg.mem u hu;exact⟨pK n u.vb u.body (by omega) (eW h3).1 (eW h3).2 q1,pK n u.vl u.els (by omega) (gk h3).1 (gk h3).2 q2⟩
theorem zA(v:SV)(l:List Ty)(hl:l.length≤1000000)(hg:GYs l)(hn:cB l≤1000000000000):bi prog 61 [sv v] [] [bV v l] (I6 (cB l:Int)) []:=pK _ v l (Nat.lt_succ_self _) hl hg hn
def lh:List Tf→Nat
 | []=>0
 | f::r=>cB f.body+lh r
theorem BQ:∀(a b:List Tf),lh (a++b)=lh a+lh b
 | [],b=>by simp [lh]
 | f::r,b=>by
  show cB f.body+lh (r++b)=cB f.body+lh r+lh b;rw [BQ r b];omega
theorem FQ{l:List Tf}{i:Nat}{k:Tf}(h:l[i]?=some k):lh (l.take (i+1))=lh (l.take i)+cB k.body:=by rw [cj h,BQ];rfl
theorem qFS:∀{l:List Tf},(∀f∈l,GF f)→lh l≤1000000*l.length
 | [],_=>br _
 | f::r,h=>by
  have h1:=qFS (l:=r) fun g hg=>h g (List.mem_cons_of_mem _ hg)
  have h2:=(h f (by simp)).2.2.2.2.2;rw [bP];show cB f.body+lh r≤_;omega
theorem sL(vp:SV)(fs:List Tf)(hg:GP fs):
  bi prog 17 [.agg #[sv vp]] [] [cx vp fs] (I6 (lh fs:Int)) []:=by
 refine aI func17 J ntmps17 J fun w0 M H=> ?_
 have hfl:=hg.1;refine aZ 0 1 J jG (ap (ck J J fun b1=>ak J (aF J (ak J (aa (aT (ak J (aa (aB (bC (X:=Nat) (fun i=>i≤fs.length) (fun i=> [(1,Pt b1),(3,I6 (lh (fs.take i):Int)),(4,I6 (i:Int))]) (fun i=> [(1,bh b1 27 [sv vp])]) (fun i=> [(0,cx vp fs),(1,sl 3 ip (sv vp) fs)]) (fun i=>fs.length-i) 0 (br _) J J J (fun i n1=>aT ?_)))))))))));refine ad J (aC dJ J (aQ 1 iB J J J J (aP (aS underlying25 J (aK (k:=1) J)) (aw J J cr (aa (ai J (fun h1=> ?_) (fun h1=> ?_)))))))
 ·(try simp only [bj]at h1);have hi:i<fs.length:=by omega
  obtain⟨f,hst⟩:∃k,fs[i]?=some k:=⟨_,bN hi⟩
  have hfm:=bT hst;have hgf:=hg.2 f hfm;have hbb:=qFS (l:=fs.take i) fun g hg2=>hg.2 g (List.mem_of_mem_take hg2)
  rw [List.length_take]at hbb;have hgb:=hgf.2.2.2.2.2;refine az (a_ (aB (am (ad J (aC dJ J (aQ 1 iB J J J J (ad J (aP (aN (j:=i) underlying25 fj J J (aK (k:=1) J) (by first|rfl|omega) (by first|omega|(simp;done)|(simp;omega))) (aP (ek jl J) (aP (ah iP J J (ko (aK (k:=1) J) (by intro _;rfl) hst J)) (aZ 0 7 J (l_ hfm) (aZ 7 8 J k8 (aj (xs:= [.tmp 18]) (zA f.vb f.body hgf.2.2.2.1 hgf.2.2.2.2.1 (by have:=hgf.2.2.2.2.2;omega)) NS [] [(false,8)] [] (fun _ _=>aw J J aO (ak J (aa (am (ad J (aw J J aO ?_)))))))))))))))))));refine ak J (aa ?_);refine aJ (i+1) ⟨by omega,by omega⟩ (by rw [FQ hst,Int.natCast_add];rfl) J J
 ·(try simp only [bj]at h1);have hi:i=fs.length:=by omega
  subst hi;rw [cS];refine bF (ap (ad J (ak J (aa (ax (aH () O J (bQ (aL J)) J [] [] J J J))))))
theorem pN(va vb:SV)(a b:List Int)(ha:a.length≤1000000000):
  bi prog 44 [sv va,sv vb] [] [sl 1 eU (sv va) a,sl 1 eU (sv vb) b] (.bool (decide (a=b))) []:=by
 refine aI func44 J ntmps44 J fun w0 M H=>ap (ak J (aa (aT (ad J (aP (aS underlying48 J (aK (k:=0) J)) (ad J (aP (aS underlying48 J (aK (k:=1) J)) (aw J J eD (aa (ai J (fun h1=> ?_) (fun h1=> ?_)))))))))))
 ·(try simp only [bj]at h1);have hne:¬a=b:=fun h=>by subst h;exact absurd J h1
  rw [decide_eq_false hne];refine ap (ak J (aa (ax (aH () O J (bQ (aL J)) J [] [] J J J))))
 ·(try simp only [bj]at h1);have hle:a.length=b.length:=by omega
  refine az (aT (ak J (aa (aB (bC (X:=Nat) (fun i=>i≤a.length∧a.take i=b.take i) (fun i=> [(0,sv va),(1,sv vb),(5,I6 (i:Int))]) (fun i=> []) (fun i=> [(0,sl 1 eU (sv va) a),(1,sl 1 eU (sv vb) b)]) (fun i=>a.length-i) 0 ⟨br _,J⟩ J J J (fun i n1=>aT (ad J (ad J (aP (aS underlying48 J (aK (k:=0) J)) (aw J J cr (aa (ai J (fun h2=> ?_) (fun h2=> ?_)))))))))))))
  ·(try simp only [bj]at h2);have hi:i<a.length:=by omega
   obtain⟨x,hx⟩:∃x,a[i]?=some x:=⟨_,bN hi⟩
   obtain⟨y,hy⟩:∃y,b[i]?=some y:=⟨_,bN (by omega)⟩
   refine az (a_ (aB (a_ (bJ [17,18,19,20,21,22,23,24,25] _ J (bl (V:= [(0,17,_),(1,18,_),(2,19,_),(3,20,_),(4,21,_),(5,22,_),(6,23,_),(7,24,_),(8,25,_)]) [0,1,2,3,4,5,6,7,8] J J (aD J J (aD J J (ac J (aN (j:=i) underlying48 dm J J (aK (k:=0) J) (by first|rfl|omega) (by first|omega|(simp;done)|(simp;omega))) (ac J (ah dm J J (bA (aK (k:=0) J) (by intro _;rfl) hx (by rfl))) (aD J J (aD J J (ac J (aN (j:=i) underlying48 dm J J (aK (k:=1) J) (by first|rfl|omega) (by first|omega|(simp;done)|(simp;omega))) (ac J (ah dm J J (bA (aK (k:=1) J) (by intro _;rfl) hy (by rfl))) (ac J (aR J J eD) av))))))))) J J J (ai J (fun h3=> ?_) (fun h3=> ?_)))))))
   ·(try simp only [bj]at h3);have hne:¬a=b:=fun h=>by subst h;rw [hx]at hy;exact absurd (cf hy) h3
    rw [decide_eq_false hne];refine ap (ak J (aa (ax (aH () O J (bQ (aL J)) J [] [] J J J))))
   ·(try simp only [bj]at h3);have hxy:x=y:=by omega
    refine az (am (ad J (aw J J aO (ak J (aa ?_)))));refine aJ (i+1) ⟨⟨by omega,by rw [cj hx,cj hy,n1.2,hxy]⟩,by omega⟩ J J J
  ·(try simp only [bj]at h2);have hi:i=a.length:=by omega
   subst hi;have hab:a=b:=by
    have h:=n1.2
    rwa [cS,hle,cS]at h
   rw [decide_eq_true hab];refine bF (ap (ak J (aa (ax (aH () O J (bQ (aL J)) J [] [] J J J)))))
def px(l:List Qi):Bool:=l.all fun q=>qQ q&&(decide (0≤q.imm)&&decide (q.imm<4294967296))
theorem de{a b:List Qi}(h1:px a=true)(h2:px b=true):px (a++b)=true:=by
 unfold px at*;rw [List.all_append,h1,h2];rfl
theorem jO:px []=true:=rfl
theorem wH{q:Qi}(h:qQ q=true)(hi:0≤q.imm∧q.imm<4294967296):px [q]=true:=by
 show((qQ q&&_)&&true)=true;rw [h,decide_eq_true hi.1,decide_eq_true hi.2];rfl
theorem Nk{l:List Qi}(h:px l=true):∀i∈l,qQ i=true∧0≤i.imm∧i.imm<4294967296:=fun i hi=>by
 have:=List.all_eq_true.1 h i hi;simp only [Bool.and_eq_true,decide_eq_true_eq]at this;exact this
theorem AH{n:Int}(h:0≤n∧n<16):gr n true=true:=by
 unfold gr;simp only [Bool.or_eq_true,decide_eq_true_eq,Bool.and_eq_true,Bool.true_and];omega
theorem Ob{op d a n:Int}(ho:dl op=⟨true,true,true,false,1,18,0⟩)(hd:0≤d∧d<16)(ha:0≤a∧a<16)(hn:oW n)(hf:jr n=true):px [qi op d a n]=true:=by
 refine wH ?_ hn;unfold qQ;show((dl op).k&&gr d (dl op).d&&gr a (dl op).a&&gr 0 (dl op).b&&lm (dl op) n)=true;rw [ho];show(true&&gr d true&&gr a true&&gr 0 false&&decide (zb 18 n=n))=true;rw [AH hd,AH ha,E0 hn,hf];rfl
theorem OZ{n:Int}(hn:oW n)(h:n<2097152∨4294967296-2097152≤n):zb 22 n=n:=by
 have h1:=hn.1;have h2:=hn.2;unfold zb wU;rw [show((32:Int)-22).toNat=10 from J];simp only [IntKind.wrap_u32,IntKind.wrap_i32];omega
theorem OL{d n:Int}(hd:0≤d∧d<16)(hn:oW n)(h:n<2097152∨4294967296-2097152≤n):px [qi 40 d 0 n]=true:=by
 refine wH ?_ hn;unfold qQ;have ho:dl 40=⟨true,true,false,false,1,22,0⟩:=by kernel_rfl
 show((dl 40).k&&gr d (dl 40).d&&gr 0 (dl 40).a&&gr 0 (dl 40).b&&lm (dl 40) n)=true;rw [ho];show(true&&gr d true&&gr 0 false&&gr 0 false&&decide (zb 22 n=n))=true;rw [AH hd,OZ hn h,decide_eq_true J];rfl
theorem xo{x:Int}(h: -131072≤x∧x<131072):oW (wU x)∧jr (wU x)=true∧(wU x<2097152∨4294967296-2097152≤wU x):=by
 have e:wU x=x%4294967296:=J;unfold jr;rw [e];simp only [Bool.or_eq_true,decide_eq_true_eq];refine⟨⟨?_,?_⟩,?_,?_⟩<;>omega
theorem PA:dl 16=⟨true,true,true,false,1,18,0⟩:=by kernel_rfl
theorem Ss:dl 23=⟨true,true,true,false,1,18,0⟩:=by kernel_rfl
theorem Sr:dl 25=⟨true,true,true,false,1,18,0⟩:=by kernel_rfl
theorem Pz:dl 32=⟨true,true,true,false,1,18,0⟩:=by kernel_rfl
theorem Gq{c:Prop} [Decidable c]{a b:List Qi}(h1:px a=true)(h2:px b=true):px (if c then a else b)=true:=by split;exact h1;exact h2
theorem PO:px [⟨48,0,0,0,2⟩]=true:=by kernel_rfl
theorem LQ(o:Ba):px (C0 o)=true:=by
 unfold C0
 repeat (refine Gq (by kernel_rfl) ?_)
 exact jO
theorem LP(o:Ba):px (Eb o)=true:=by
 unfold Eb
 repeat (refine Gq (by kernel_rfl) ?_)
 exact jO
theorem HR{n:Int}(hn:oW n):px (qP n)=true:=by
 unfold qP;split
 ·rename_i h;exact Ob PA (by decide) (by decide) hn h
 ·have h1:=hn.1;have h2:=hn.2;refine de (a:= [qi 41 1 0 (n/1024)]) (b:= [qi 18 1 1 (n%1024)]) (wH ?_ ⟨by show 0≤n/1024;omega,by show n/1024<4294967296;omega⟩) (wH ?_ ⟨by show 0≤n%1024;omega,by show n%1024<4294967296;omega⟩)
  ·have ho:dl 41=⟨true,true,false,false,2,22,0⟩:=by kernel_rfl
   unfold qQ;show((dl 41).k&&gr 1 (dl 41).d&&gr 0 (dl 41).a&&gr 0 (dl 41).b&&lm (dl 41) (n/1024))=true;rw [ho];show(true&&true&&true&&true&&decide (n/1024/4194304=0))=true;rw [decide_eq_true (by omega)];rfl
  ·have ho:dl 18=⟨true,true,true,false,2,18,0⟩:=by kernel_rfl
   unfold qQ;show((dl 18).k&&gr 1 (dl 18).d&&gr 1 (dl 18).a&&gr 0 (dl 18).b&&lm (dl 18) (n%1024))=true;rw [ho];show(true&&true&&true&&true&&decide (n%1024/262144=0))=true;rw [decide_eq_true (by omega)];rfl
structure ZH(o:Om)(S:Ba→Int):Prop where
 o:∀x,oW (bM o x)∧jr (bM o x)=true
 S:∀x,0≤S x∧S x≤2000
theorem Ew:∀l:List Tx,2*l.length≤tP l
 | []=>bX _
 | t::r=>by
  have:=Ew r;unfold tP;rw [bP];omega
theorem Fp:px (fQ 1)=true:=by kernel_rfl
theorem O_:px (lX 2)=true:=by kernel_rfl
mutual
theorem Ks{o:Om}{S:Ba→Int}(h:ZH o S):∀(t:Tx)(p:Nat),GX t→p+wX t≤2000→px (zX o S t p)=true
 | .mk k n nm _ kids,p,hg,hp=>by
  obtain⟨g1,-,-,g4⟩:=hg;have h0:=fun q=>zh h kids q g4
  have h1:=fun q=>El h kids q g4
  have hs:=fun q=>Ek h kids q g4
  have l0:=oa o S kids p;have ls:=qV o S kids p;have lk:=Ew kids;unfold wX at hp;unfold zX;split
  ·exact HR g1
  rename_i k1;rw [ae k1]at hp;split
  ·exact Ob Ss (by decide) (by decide) (h.o nm).1 (h.o nm).2
  rename_i k2;rw [ae k2]at hp;split
  ·exact PO
  rename_i k5;rw [ae k5]at hp;split
  ·rename_i k4;rw [ar k4]at hp;exact de (h0 p (by omega)) (by kernel_rfl)
  rename_i k4;rw [ae k4]at hp;split
  ·rename_i k6;rw [ar k6]at hp;exact de (h0 p (by omega)) (LP nm)
  rename_i k6;rw [ae k6]at hp;split
  ·rename_i k7;rw [ar k7]at hp;exact de (h0 p (by omega)) (de Fp (de (h1 _ (by omega)) (de O_ (LQ nm))))
  rename_i k7;rw [ae k7]at hp;split
  ·rename_i k3;rw [ar k3]at hp;have hS:=h.S nm;have hw:=xo (x:=S nm-((p+(zg o S kids p).length:Nat):Int)) ⟨by omega,by omega⟩;refine de (hs p (by omega)) (de (OL (by decide) hw.1 hw.2.2) ?_);split
   ·refine Ob PA (by decide) (by decide) ⟨by omega,by omega⟩ ?_;unfold jr;rw [decide_eq_true (show 4*(kids.length:Int)<131072 by omega)];rfl
   ·exact jO
  ·exact jO
theorem zh{o:Om}{S:Ba→Int}(h:ZH o S):∀(l:List Tx)(p:Nat),GXs l→p+jZ l≤2000→px (y9 o S l p)=true
 | [],p,_,_=>jO
 | t::_,p,hg,hp=>Ks h t p hg.1 hp
theorem El{o:Om}{S:Ba→Int}(h:ZH o S):∀(l:List Tx)(p:Nat),GXs l→p+OH l≤2000→px (Oy o S l p)=true
 | [],p,_,_=>jO
 | _::r,p,hg,hp=>zh h r p hg.2 hp
theorem Ek{o:Om}{S:Ba→Int}(h:ZH o S):∀(l:List Tx)(p:Nat),GXs l→p+tP l≤2000→px (zg o S l p)=true
 | [],p,_,_=>jO
 | t::r,p,hg,hp=>by
  have lt:=ia o S t p;unfold tP at hp;unfold zg;exact de (Ks h t p hg.1 (by omega)) (de Fp (Ek h r _ hg.2 (by omega)))
end
mutual
theorem Ox{o:Om}{S:Ba→Int}(h:ZH o S){E:Int}(hE:0≤E∧E≤2000):∀(t:Ty)(p:Nat),GY t→p+wY t≤2000→px (zY o S E t p)=true
 | .mk k nm _ es _ body _ els,p,hg,hp=>by
  obtain⟨-,⟨-,g2⟩,⟨-,g3⟩,-,g4⟩:=hg;have h0:=fun q=>zh h es q g2
  have h1:=fun q=>El h es q g2
  have hb:=fun q=>vD h hE body q g3
  have he:=fun q=>vD h hE els q g4
  have lb:=fun q=>fJ o S E body q
  have le:=fun q=>fJ o S E els q
  unfold wY at hp;unfold zY;split
  ·rename_i k1;rw [ar k1]at hp;exact de (h0 p (by omega)) (Ob Sr (by decide) (by decide) (h.o nm).1 (h.o nm).2)
  rename_i k1;rw [ae k1]at hp;split
  ·rename_i k3;rw [ar k3]at hp;exact de (h0 p (by omega)) (de Fp (de (h1 _ (by omega)) (de O_ (by kernel_rfl))))
  rename_i k3;rw [ae k3]at hp;split
  ·rename_i k7;rw [ar k7]at hp;exact de (h0 p (by omega)) (by kernel_rfl)
  rename_i k7;rw [ae k7]at hp;split
  ·rename_i k6;rw [ar k6]at hp;have hw:=xo (x:=E-((p+jZ es:Nat):Int)) ⟨by omega,by omega⟩;exact de (h0 p (by omega)) (OL (by decide) hw.1 hw.2.2)
  rename_i k6;rw [ae k6]at hp;split
  ·rename_i k4;rw [ar k4]at hp;have e1:(if els.length>0 then 1 else 0)≤1:=by split<;>omega
   have e2:(if els.length>0 then 2 else 1)=(if els.length>0 then 1 else 0)+1:=by split<;>rfl
   rw [e2]at hp;generalize hq:(if els.length>0 then 1 else 0)=q at*;have hw:=xo (x:=(((lS o S E body (p+jZ es+1)).length+q+1:Nat):Int)) ⟨by omega,by rw [lb];omega⟩;refine de (h0 p (by omega)) (de (Ob Pz (by decide) (by decide) hw.1 hw.2.1) (de (hb _ (by omega)) (de ?_ (he _ (by rw [lb];omega)))));split
   ·have hw2:=xo (x:=(((lS o S E els (p+jZ es+1+(lS o S E body (p+jZ es+1)).length+q)).length+1:Nat):Int)) ⟨by omega,by rw [le];omega⟩;exact OL (by decide) hw2.1 hw2.2.2
   ·exact jO
  rename_i k4;rw [ae k4]at hp;split
  ·rename_i k5;rw [ar k5]at hp;have hw:=xo (x:=(((lS o S E body (p+jZ es+1)).length+2:Nat):Int)) ⟨by omega,by rw [lb];omega⟩;have hw2:=xo (x:= -(((lS o S E body (p+jZ es+1)).length+jZ es+1:Nat):Int)) ⟨by rw [lb];omega,by omega⟩;exact de (h0 p (by omega)) (de (Ob Pz (by decide) (by decide) hw.1 hw.2.1) (de (hb _ (by omega)) (OL (by decide) hw2.1 hw2.2.2)))
  ·rename_i k5;rw [ae k5]at hp;exact h0 p (by omega)
theorem vD{o:Om}{S:Ba→Int}(h:ZH o S){E:Int}(hE:0≤E∧E≤2000):∀(l:List Ty)(p:Nat),GYs l→p+fR l≤2000→px (lS o S E l p)=true
 | [],p,_,_=>jO
 | t::r,p,hg,hp=>by
  have lt:=zf o S E t p;unfold fR at hp;unfold lS;exact de (Ox h hE t p hg.1 (by omega)) (vD h hE r _ hg.2 (by omega))
end
theorem ux:∀n,px (jE n)=true
 | 0=>jO
 | n+1=>de (a:=fQ 0) (by kernel_rfl) (ux n)
def okV(o:Om):Prop:=∀x,oW (bM o x)∧jr (bM o x)=true
theorem okV.put{o:Om}(h:okV o)(x:Ba){n:Int}(hn:oW n∧jr n=true):okV (fc o x n):=fun y=>by
 rw [iv];split
 ·exact hn
 ·exact h y
theorem okV.gP{n:Int}(hn:n≤1000):∀(l:List Ba)(k:Int)(o:Om),okV o→0≤k→k+l.length≤n→okV (gP n k l o)
 | [],k,o,h,_,_=>h
 | p::r,k,o,h,hk,hl=>by
  rw [bP]at hl;refine okV.gP hn r (k+1) _ (h.put p ⟨⟨by omega,by omega⟩,?_⟩) (by omega) (by omega);unfold jr;rw [decide_eq_true (show 8+4*(n-1-k)<131072 by omega)];rfl
mutual
theorem okV.gD:∀(t:Ty)(p:Om×Int),okV p.1→0≤p.2→p.2+(vY t:Int)≤1000→okV (gD t p).1
 | .mk k nm ve es vb body vl els,p,h,h0,hl=>by
  rw [show vY (.mk k nm ve es vb body vl els)=(if k=1 then 1 else 0)+dg body+dg els from J]at hl;rw [AC];by_cases hk:k=1
  ·rw [ar hk]at hl ⊢;have hw:=xo (x:= -(4*(p.2+1))) ⟨by omega,by omega⟩;refine okV.gDs els _ (okV.gDs body _ (h.put nm ⟨hw.1,hw.2.1⟩) (by show 0≤p.2+1;omega) (by show p.2+1+_≤1000;omega)) ?_ ?_
   ·rw [oR];show 0≤p.2+1+_;omega
   ·rw [oR];show p.2+1+_+_≤1000;omega
  ·rw [ae hk]at hl ⊢;refine okV.gDs els _ (okV.gDs body _ h h0 (by omega)) ?_ ?_
   ·rw [oR];omega
   ·rw [oR];omega
theorem okV.gDs:∀(l:List Ty)(p:Om×Int),okV p.1→0≤p.2→p.2+(dg l:Int)≤1000→okV (gDs l p).1
 | [],p,h,_,_=>h
 | t::r,p,h,h0,hl=>by
  rw [show dg (t::r)=vY t+dg r from J]at hl;refine okV.gDs r _ (okV.gD t p h h0 (by omega)) ?_ ?_
  ·rw [Nr];omega
  ·rw [Nr];omega
end
theorem S6:jr 0=true:=by decide
theorem Oz{S:Ba→Int}(hS:∀x,0≤S x∧S x≤2000){f:Tf}(hg:GF f)(hn:f.ps.length+dg f.body≤12){p:Nat}(hp:p+wF f≤2000):px (zF S f p)=true:=by
 unfold wF at hp;have ho:okV (dF f).1:=okV.gDs f.body _ (okV.gP (by omega) f.ps 0 [] (fun _=>⟨m_,S6⟩) (Int.le_refl _) (by omega)) (Int.le_refl _) (by show(0:Int)+_≤1000;omega);have hb:=vD (o:=(dF f).1) ⟨ho,hS⟩ (E:=((p+10+2*(dF f).2.toNat+fR f.body:Nat):Int)) ⟨by omega,by omega⟩ f.body (p+9+2*(dF f).2.toNat) hg.2.2.2.2.1 (by omega);unfold zF;exact de (by kernel_rfl) (de (by kernel_rfl) (de (by kernel_rfl) (de (by kernel_rfl) (de (ux _) (de hb (by kernel_rfl))))))
theorem Eo{S:Ba→Int}(hS:∀x,0≤S x∧S x≤2000):∀(l:List Tf)(p:Nat),(∀f∈l,GF f∧f.ps.length+dg f.body≤12)→p+zo l≤2000→px (Eq S l p)=true
 | [],p,_,_=>jO
 | f::r,p,h,hp=>by
  unfold zo at hp;unfold Eq;exact de (Oz hS (h f (by simp)).1 (h f (by simp)).2 (by omega)) (Eo hS r _ (fun g hg=>h g (List.mem_cons_of_mem _ hg)) (by omega))
theorem Bb:∀(l:List Tf)(p:Nat)(x:Ba),0≤iU l p x∧iU l p x≤3+p+zo l
 | [],p,x=>by unfold iU;omega
 | f::r,p,x=>by
  have:=Bb r (p+wF f) x;unfold iU zo;split
  ·omega
  ·omega
theorem HT{fs:List Tf}(hg:GP fs)(h:∀f∈fs,f.ps.length+dg f.body≤12)(hl:(jY fs).length≤1984):px (jY fs)=true:=by
 have hlen:(jY fs).length=3+zo fs:=by
  unfold jY;rw [bG,qW];rfl
 have hS:∀x,0≤iU fs 3 x∧iU fs 3 x≤2000:=fun x=>by have:=Bb fs 3 x;omega
 have hm:=hS dM;have hw:=xo (x:=iU fs 3 dM-1) ⟨by omega,by omega⟩;unfold jY;refine de ?_ (Eo hS fs 3 (fun f hf=>⟨hg.2 f hf,h f hf⟩) (by omega));exact de (a:= [qi 16 14 0 16384]) (by kernel_rfl) (de (a:= [qi 40 15 0 (wU (iU fs 3 dM-1))]) (OL (by decide) hw.1 hw.2.2) (by kernel_rfl))
def UI(g:Nat):Prop:=
 (∀fs d vs t s e,fw g fs d vs t s=some (.err e)→e=25∨e=26)∧(∀fs d vs acc l s e,iq g fs d vs acc l s=some (.err e)→e=25∨e=26)∧
 (∀fs d f al s e,lM g fs d f al s=some (.err e)→e=25∨e=26)∧(∀fs d vs l s e,gW g fs d vs l s=some (.err e)→e=25∨e=26)∧
 (∀fs d vs t s e,i_ g fs d vs t s=some (.err e)→e=25∨e=26)∧(∀fs d vs t l v s e,kF g fs d vs t l v s=some (.err e)→e=25∨e=26)
theorem AL:∀g,UI g
 | 0=>⟨fun _ _ _ _ _ _ h=>(by rw [fw]at h;cases h),fun _ _ _ _ _ _ _ h=>(by rw [iq]at h;cases h),fun _ _ _ _ _ _ h=>(by rw [lM]at h;cases h),fun _ _ _ _ _ _ h=>(by rw [gW]at h;cases h),fun _ _ _ _ _ _ h=>(by rw [i_]at h;cases h),fun _ _ _ _ _ _ _ _ h=>(by rw [kF]at h;cases h)⟩
 | g+1=>by
  obtain⟨hX,hK,hC,hB,hS,hW⟩:=AL g;refine⟨fun fs d vs t s e h=> ?_,fun fs d vs acc l s e h=> ?_,fun fs d f al s e h=> ?_,fun fs d vs l s e h=> ?_,fun fs d vs t s e h=> ?_,fun fs d vs t l v s e h=> ?_⟩
  ·rw [fw]at h;split at h
   ·injection h with h;injection h with h;exact .inl h.symm
   split at h
   ·cases h
   ·rename_i q;injection h with h;injection h with h;subst h;exact hK _ _ _ _ _ _ _ q
   ·repeat' split at h
    all_goals first|(cases h;done)|exact hC _ _ _ _ _ _ h
  ·cases l with
   | nil=>rw [iq]at h;cases h
   | cons t r=>
    rw [iq]at h;split at h
    ·cases h
    ·rename_i q;injection h with h;injection h with h;subst h;exact hX _ _ _ _ _ _ q
    ·exact hK _ _ _ _ _ _ _ h
  ·rw [lM]at h;split at h
   ·injection h with h;injection h with h;exact .inr h.symm
   split at h
   ·cases h
   ·rename_i q;injection h with h;injection h with h;subst h;exact hB _ _ _ _ _ _ q
   ·cases h
  ·cases l with
   | nil=>rw [gW]at h;cases h
   | cons t r=>
    rw [gW]at h;split at h
    ·cases h
    ·rename_i q;injection h with h;injection h with h;subst h;exact hS _ _ _ _ _ _ q
    ·cases h
    ·exact hB _ _ _ _ _ _ h
  ·rw [i_]at h;split at h
   ·injection h with h;injection h with h;exact .inl h.symm
   split at h
   ·cases h
   split at h
   ·cases h
   ·rename_i q;injection h with h;injection h with h;subst h;exact hX _ _ _ _ _ _ q
   split at h
   ·cases h
   split at h
   ·split at h
    ·cases h
    split at h
    ·cases h
    ·rename_i q;injection h with h;injection h with h;subst h;exact hX _ _ _ _ _ _ q
    ·cases h
   split at h
   ·exact hB _ _ _ _ _ _ h
   split at h
   ·exact hW _ _ _ _ _ _ _ _ h
   split at h
   ·cases h
   split at h<;>cases h
  ·rw [kF]at h;split at h
   ·cases h
   split at h
   ·cases h
   ·rename_i q;injection h with h;injection h with h;subst h;exact hB _ _ _ _ _ _ q
   ·cases h
   ·split at h
    ·cases h
    ·rename_i q;injection h with h;injection h with h;subst h;exact hX _ _ _ _ _ _ q
    ·exact hW _ _ _ _ _ _ _ _ h
theorem IJ{fs:List Tf}{ins:List Int}{fuel:Int}{ru:Ru}(h:RunIs fs ins fuel ru)(hc:iA fs=0):ru.err=0∨ru.err=25∨ru.err=26:=by
 cases h with
 | bad h=>exact absurd hc h
 | run f g r h hf he=>
  cases r with
  | ok v s=>exact .inl rfl
  | err e=>exact .inr ((AL g).2.2.1 _ _ _ _ _ _ he)
theorem F1{c:Prop} [Decidable c]{a b:List Qi}{n:Nat}(h1:a.length≤n)(h2:b.length≤n):(if c then a else b).length≤n:=by split;exact h1;exact h2
mutual
theorem Ez:∀t:Tx,wX t+2≤11*nX t
 | .mk k n nm _ kids=>by
  have h0:=zl kids;have h1:=Bf kids;have hs:=Ey kids;have hu:(Eb nm).length≤2:=by
   unfold Eb
   repeat (refine F1 (by decide) ?_)
   exact br _
  have ho:(C0 nm).length≤5:=by
   unfold C0
   repeat (refine F1 (by decide) ?_)
   exact br _
  have hn:(qP n).length≤2:=by
   unfold qP;split
   ·exact Nat.le_succ 1
   ·exact bX 2
  show wX (.mk k n nm _ kids)+2≤11*(dW kids+1);unfold wX;split
  ·omega
  split
  ·omega
  split
  ·omega
  split
  ·omega
  split
  ·omega
  split
  ·omega
  split
  ·split<;>omega
  ·omega
theorem zl:∀l:List Tx,jZ l≤11*dW l
 | []=>br _
 | t::r=>by
  have:=Ez t;show wX t≤11*(nX t+dW r);omega
theorem Bf:∀l:List Tx,jZ l+OH l≤11*dW l
 | []=>br _
 | t::r=>by
  have:=Ez t;have:=zl r;show wX t+jZ r≤11*(nX t+dW r);omega
theorem Ey:∀l:List Tx,tP l≤11*dW l
 | []=>br _
 | t::r=>by
  have:=Ez t;have:=Ey r;show wX t+(2+tP r)≤11*(nX t+dW r);omega
end
mutual
theorem OG:∀t:Ty,wY t+2*vY t≤11*nY t
 | .mk k nm ve es vb body vl els=>by
  have h0:=zl es;have h1:=Bf es;have hb:=vH body;have he:=vH els;show wY (.mk k nm ve es vb body vl els)+2*((if k=1 then 1 else 0)+dg body+dg els)≤11*(1+dW es+cB body+cB els);have hk:(if k=1 then 1 else 0)≤1:=by split<;>omega
  have hk2:(if els.length>0 then 2 else 1)≤2:=by split<;>omega
  unfold wY;split
  ·omega
  split
  ·omega
  split
  ·omega
  split
  ·omega
  split
  ·omega
  split
  ·omega
  ·omega
theorem vH:∀l:List Ty,fR l+2*dg l≤11*cB l
 | []=>bX _
 | t::r=>by
  have:=OG t;have:=vH r;show wY t+fR r+2*(vY t+dg r)≤11*(nY t+cB r);omega
end
theorem EC:∀l:List Tf,zo l≤17*l.length+11*lh l
 | []=>bX _
 | f::r=>by
  have h1:=EC r;have h2:=vH f.body;have h3:(dF f).2=(dg f.body:Int):=by show(gDs f.body (gP f.ps.length 0 f.ps [],0)).2=_;rw [oR];omega
  rw [bP];show wF f+zo r≤17*(r.length+1)+11*(cB f.body+lh r);unfold wF;omega
theorem xk(fs:List Tf):(jY fs).length=3+zo fs:=by
 unfold jY;rw [bG,qW];rfl
theorem AV{fs:List Tf}{f:Tf}(h:Fine fs f)(hn:lh fs≤120):(jY fs).length≤1984:=by
 have h1:=EC fs;have h2:=h.len;rw [xk];omega
theorem J6(d:Nat)(xs ys:Array Value)(w:World):(Op.eqFields d xs ys []).run prog w= .ok true w:=rfl
theorem yF{d:Nat}{xs ys:Array Value}{f:Field}{fs:List Field}{a b:Value}{r q:Bool}{w:World}(hn:f.name≠ "_")(h1:(part f.type xs f.offset).run prog w= .ok a w)(h2:(part f.type ys f.offset).run prog w= .ok b w)
  (h3:(Op.equalIn d f.type a b).run prog w= .ok r w) (h4:(Op.eqFields d xs ys fs).run prog w= .ok q w):(Op.eqFields d xs ys (f::fs)).run prog w= .ok (r&&q) w:=by
 unfold Op.eqFields;rw [ar hn];simp only [Sem.run_bind,h1,h2,h3,Result.andThen_ok];cases r
 ·rfl
 ·exact h4
theorem S7{a b c d:Int}(w:World):(Op.equalIn 10000 53 (.agg #[I6 a,I3 b]) (.agg #[I6 c,I3 d])).run prog w= .ok (decide (a=c)&&decide (b=d)) w:=by
 obtain⟨f0,f1,hu,n0,o0,q0,n1,o1,q1⟩:∃f0 f1:Field,prog.underlying 53=some (.struct #[f0,f1])∧f0.name≠ "_"∧f0.offset=0∧f0.type=3∧f1.name≠ "_"∧f1.offset=1∧f1.type=41:=⟨_,_,underlying53,by decide,rfl,rfl,by decide,rfl,rfl⟩
 have hf:prog.fieldsOf 53= #[f0,f1]:=by unfold Program.fieldsOf;rw [hu]
 have hs:prog.stoodInHeld 53=false:=by kernel_rfl
 rw [show(10000:Nat)=9999+1 from J,run_equalIn_struct w 9999 53 _ _ (by rw [hf];exact hu) hs,hf];have:=yF (d:=9999) (xs:= #[I6 a,I3 b]) (ys:= #[I6 c,I3 d]) (f:=f0) (fs:= [f1]) (w:=w) n0 (by rw [o0,q0];exact kM t3 J J w) (by rw [o0,q0];exact kM t3 J J w) (by rw [q0];exact run_equalIn_int w 9998 3 .i64 .i64 a c underlying3)
  (yF n1 (by rw [o1,q1];exact kM dm rfl rfl w) (by rw [o1,q1];exact kM dm rfl rfl w) (by rw [q1];exact run_equalIn_int w 9998 41 .u32 .u32 b d underlying41) (J6 _ _ _ w))
 rw [Bool.and_true]at this;exact this
theorem Hz{a b c d:Int}:dU prog .eql 53 (.agg #[I6 a,I3 b]) (.agg #[I6 c,I3 d]) (.bool (decide (a=c)&&decide (b=d))):=fun x y w=>by
 have hq:prog.eqGuardType prog.depth 53=false:=by kernel_rfl
 simp only [Sem.run_bind,run_eqGuard_agg w .eql 53 x y _ _ hq,Result.andThen_ok,run_eql_struct];rw [S7];rfl
theorem sY:∀{fs:List Tf}{i:Nat}{f:Tf}(p:Om×Qg),fs[i]?=some f→pz (fs.take (i+1)) p=(fc (pz (fs.take i) p).1 f.name (pz (fs.take i) p).2.labs.length,(pz (fs.take i) p).2.lab)
 | [],i,f,p,h=>by simp at h
 | x::r,0,f,p,h=>by cases h;rfl
 | x::r,i+1,f,p,h=>sY (fs:=r) _ h
theorem yx{st:Om}:∀{fs:List Tf}{i:Nat}{f:Tf}(s:Qg),fs[i]?=some f→s_ st (fs.take (i+1)) s=gF st f (s_ st (fs.take i) s)
 | [],i,f,p,h=>by simp at h
 | x::r,0,f,p,h=>by cases h;rfl
 | x::r,i+1,f,p,h=>yx (fs:=r) _ h
theorem B_(st:Om):∀(l:List Tf)(s:Qg),s.labs.length≤(s_ st l s).labs.length
 | [],s=>bX _
 | f::r,s=>Nat.le_trans (GG st f s) (B_ st r _)
theorem AB(st:Om):∀(l:List Tf)(s:Qg),(∀f∈l,cB f.body≤400)→(s_ st l s).sz≤s.sz+l.length*9660
 | [],s,_=>by simp [s_]
 | f::r,s,h=>by
  have h1:=PV st f s;have h2:=AB st r (gF st f s) fun g hg=>h g (by simp [hg])
  have h3:=h f (by simp);rw [bP];show(s_ st r (gF st f s)).sz≤_;omega
def D3(fs:List Tf):Int×Ba×Int:=if iA fs≠0 then(0,oNil,iA fs)else if(gJ fs).length*4>7936 then(0,oNil,30)else(2,lT (eo (gJ fs)),0)
theorem FI{fs:List Tf}{f:Tf}(h:kD fs f=0):cB f.body≤400:=by
 obtain⟨h1,h2⟩:=bw.1 h;have hb:¬(f.ps.length>4∨f.ps.length+dg f.body>12∨cB f.body>400∨dC 1 f.body=true):=fun hb=>by
  rw [ar hb]at h1;exact absurd h1 (by decide)
 simp only [not_or]at hb;omega
theorem Lf{fs:List Tf}(h:iA fs=0):∀f∈fs,lK f.body=true:=by
 unfold iA at h;split at h
 ·cases h
 ·rename_i h1;have h1:rP fs=true:=by simpa using h1
  intro f hf;have:=List.all_eq_true.1 h1 f hf;unfold rF at this;simp only [Bool.and_eq_true]at this;exact this.2
theorem JH(fs:List Tf):(AD fs).code≠ []:=by
 have h1:∀(st:Om)(l:List Tf)(s:Qg),s.code≠ []→(s_ st l s).code≠ []:=by
  intro st l
  induction l with
  | nil=>intro s h;exact h
  | cons f r ih=>
   intro s h;refine ih _ ?_;show(_++ [qi 27 0 15 0])≠ [];simp
 exact h1 _ _ _ (by simp [Qg.emit,Qg.jump])
theorem xa(vp:SV)(fs:List Tf)(hg:GP fs):
  bi prog 15 [.agg #[sv vp]] [] [cx vp fs] (.tuple #[.agg #[I6 (D3 fs).1,Sg (D3 fs).2.1],I6 (D3 fs).2.2]) []:=by
 refine aI func15 J ntmps15 J fun w0 M H=>aZ 0 3 J jG ?_
 have hfl:=hg.1;refine ap (ck J J fun b1=>aY uD J J fun b2=>ak J (aa (aT (aP (aM jB J J J (aX (k:=1) J)) (aj (xs:= [.tmp 11]) (AY vp fs hg) Tu [] [(false,0)] [] (fun _ _=>ak J (aF J (ad J (aw J J eD (aa (ai J (fun h1=> ?_) (fun h1=> ?_))))))))))))
 ·(try simp only [bj]at h1);have hc:¬iA fs=0:=h1;rw [show D3 fs=(0,oNil,iA fs)from ar hc];refine ap (aP (aU (parts:= []) uD My J J) (ad J (aq (k:=2) uD J J J J J J (ak J (aa (ax (aH () O J (IM (aV uD J J J (aX (k:=2) J)) (aL J)) J [] [] J J J)))))))
 ·(try simp only [bj]at h1);have hc:iA fs=0:=by omega
  obtain⟨fm,hfine⟩:=kS hg hc;have hry:=Lf hc;have hnd:=BJ hfine.once;have hne:fs≠ []:=fun e=>by have:=io hfine.main;rw [e]at this;simp at this
  have hl16:=hfine.len;have hn400:∀f∈fs,cB f.body≤400:=fun f hf=>FI (hfine.each f hf)
  have hok:=JG hg hnd hne;refine az (ap (aP (aM jB J J J (aX (k:=1) J)) (mH (Prod.fst:Ba×Int→Ba) gV vI J fun b18=>aP (aU (parts:= [(0,.tmp 17),(4,.tmp 18)]) R4 Pj J J) (ck J J fun b20=>ak J (aF J (ad J (ad J (aj (xs:= [.tmp 22]) (FC b20) Tt [] [] [70] (fun c _=>bI J (aC Cw J (aA (k:=20) OT J J J J J J J J (cZ 21 (α:=Qi) (S:=118) (s:=5) (enc:=ja) (cZ 22 (α:=Int×Int) (S:=171) (s:=2) (enc:=xj) (cZ 23 (α:=Int) (S:=3) (s:=1) (enc:=eI) ?_))))))))))))));refine wd 20 [20,21,22,23] (⟨b20,vp,b18,none,c.m,0⟩:Ga) ⟨[],[],[]⟩ bk bk bk J (by decide) (aa (aT (aC dJ J (aQ 1 iB J J J J (aP (aS underlying25 J (aK (k:=3) J)) (ad J (aa (aB (bC (X:=Nat) (fun i=>i≤fs.length) (fun i=> [(1,Pt b1),(2,Pt b2),(3,I6 0),(5,Pt b20),(27,sv vp),(28,I6 (fs.length:Int)),(29,I6 (i:Int))]) (fun i=> [(1,bh b1 27 [sv vp]),(2,bh b2 31 [I6 0,Sg oNil]),(20,gA (⟨b20,vp,b18,none,c.m,0⟩:Ga) (pz (fs.take i) (([],⟨[],[],[]⟩):Om×Qg)).2),(18,mp gV Prod.fst vI (some b18) (pz (fs.take i) (([],⟨[],[],[]⟩):Om×Qg)).1),(70,jv b20 c)]) (fun i=> [(0,cx vp fs),(3,sl 3 ip (sv vp) fs)]) (fun i=>fs.length-i) 0 (br _) J J J (fun i n1=>ap (aw J J cr (aa (a_ (ai J (fun h2=> ?_) (fun h2=> ?_)))))))))))))))
  ·(try simp only [bj]at h2);have hi:i<fs.length:=by omega
   obtain⟨f,hf⟩:∃f,fs[i]?=some f:=⟨_,bN hi⟩
   have hss:=yw (fs.take i) (([],⟨[],[],[]⟩):Om×Qg);have hsz:(pz (fs.take i) (([],⟨[],[],[]⟩):Om×Qg)).2.sz=i:=by
    rw [hss];unfold Qg.sz;simp [List.length_take];omega
   refine az (a_ (aB (ap (aP (aN (j:=i) underlying25 fj J J (aK (k:=3) J) (by first|rfl|omega) (by first|omega|(simp;done)|(simp;omega))) (aP (aM fj J J J (bA (aK (k:=3) J) (by intro _;rfl) hf (by rfl))) (aY fj J J fun b7=>aq (k:=7) fj J J J J J J (aa ?_)))))));refine bJ [33,34,35,36,37,38,39,40] _ J (aW (V:= [(0,33,_),(1,34,_),(2,35,_),(3,36,_),(4,37,_),(5,38,_),(6,39,_)]) [0,1,2,3,4,5,6] 7 [7,6] [] (fun _=> []) J J (aD J J (ac J (au J) (ac J (ag oZ J) (ac J (ah EM J J (qb (k:=20) J (fun _=>J) J)) (ac J (ag kC J) (ac J (ah t9 J J (ay (k:=7) J J)) (aD J J av))))))) J J J J J J J J J J J (fun _ _=>J) J (bB (xs:= [.tmp 39]) (fO (⟨b20,vp,b18,none,c.m,0⟩:Ga) (pz (fs.take i) (([],⟨[],[],[]⟩):Om×Qg)).2 (by omega)) xd [20] [] [20]) (fun _ _=>bE [0,1,2,3,4,5] 8 [8,7,6,5,4,3,2,1,0] [] (fun _=> []) J J (aD J J (ac J (au J) (ac J (ag oZ J) (ac J (ah EM J J (qb (k:=20) J (fun _=>J) J)) (ac J (ag kC J) (ac J (ah t9 J J (ay (k:=7) J J)) av)))))) J J J J J J J J J (fun _ _=>J) J (jw (k:=18) (α:=Ba×Int) (kf:=Prod.fst) (vf:=vI) (f.name,((pz (fs.take i) (([],⟨[],[],[]⟩):Om×Qg)).2.labs.length:Int)) (pz (fs.take (i+1)) (([],⟨[],[],[]⟩):Om×Qg)).1 underlying105 fp J J J J (List.Perm.of_eq (by rw [sY _ hf];rfl))) (fun _ _=>bl [] J J av J J J ?_)));refine am (aw J J aO (ad J (aa ?_)));refine aJ (i+1) ⟨by omega,by omega⟩ J (by rw [sY _ hf];rfl) J
  ·(try simp only [bj]at h2);have hi:i=fs.length:=by omega
   subst hi;rw [cS];have hss:=yw fs (([],⟨[],[],[]⟩):Om×Qg);obtain⟨S0,hS0⟩:∃S0,S0=(pz fs (([],⟨[],[],[]⟩):Om×Qg)).2:=⟨_,J⟩
   obtain⟨st,hst⟩:∃st,st=(pz fs (([],⟨[],[],[]⟩):Om×Qg)).1:=⟨_,J⟩
   have hsz:S0.sz=fs.length:=by
    rw [hS0,hss];unfold Qg.sz;simp
   have hbd:=GA hnd hne;rw [←hst]at hbd;have hS0l:S0.labs.length=fs.length:=by
    rw [hS0,hss];simp
   rw [←hS0,←hst];refine bF (ap (ad J (aj (xs:= [.tmp 42,.const (I6 16),.const (I6 14),.const (I6 0),.const (I3 16384)]) (dw (⟨b20,vp,b18,none,c.m,0⟩:Ga) S0 (by omega) 16 14 0 16384) kb [20] [] [20] (fun _ _=>aF J (ad J (ad J (bI J (aC oZ J (aP (ah EM J J (qb (k:=20) J (fun _=>J) J)) (aP (Fy underlying105 fp t3 J J (Gd (k:=18) J)) (aj (xs:= [.tmp 44,.const (I6 40),.const (I6 15),.const (I6 0),.tmp 49]) (fZ (⟨b20,vp,b18,none,c.m,0⟩:Ga) (S0.emit [qi 16 14 0 16384]) (by rw [bL];simp only [cE];omega) 40 15 0 (bM st dM)) uv [20] [] [20] (fun _ _=>aF J (ad J (aP (aU (parts:= [(0,.const (I6 48))]) fA nr J J) ?_))))))))))))));refine bq ja ⟨48,0,0,0,0⟩ underlying106 fA J (by decide) (by decide) J J J J fun v53=>cQ 53 7 J bO (aj (xs:= [.tmp 51,.tmp 53]) (iM (⟨b20,vp,b18,none,c.m,0⟩:Ga) ((S0.emit [qi 16 14 0 16384]).jump 40 15 0 (bM st dM)) (by rw [ca,bL];simp only [cE];omega) v53 [⟨48,0,0,0,0⟩] (by simp)) yR [20] [(false,7)] [20] (fun _ _=>aa (aT (aC dJ J (aQ 1 iB J J J J (aP (aS underlying25 J (aK (k:=3) J)) (ad J (aa (aB ?_)))))))))
   obtain⟨S3,hS3⟩:∃S3,S3=(((S0.emit [qi 16 14 0 16384]).jump 40 15 0 (bM st dM)).emit [⟨48,0,0,0,0⟩]):=⟨_,J⟩
   have hs3:S3.sz=fs.length+4:=by
    rw [hS3,bL,ca,bL,hsz];rfl
   have hS3l:S3.labs.length=fs.length:=by rw [hS3];exact hS0l
   rw [←hS3];refine bC (X:=Nat×Option Nat×Int) (fun x=>x.1≤fs.length) (fun x=> [(1,Pt b1),(2,Pt b2),(3,I6 0),(5,Pt b20),(56,sv vp),(57,I6 (fs.length:Int)),(58,I6 (x.1:Int))]) (fun x=> [(1,bh b1 27 [sv vp]),(2,bh b2 31 [I6 0,Sg oNil]),(20,gA (⟨b20,vp,b18,x.2.1,c.m,x.2.2⟩:Ga) (s_ st (fs.take x.1) S3)),(18,mp gV Prod.fst vI (some b18) st),(70,jv b20 c)]) (fun x=> [(0,cx vp fs),(3,sl 3 ip (sv vp) fs)]) (fun x=>fs.length-x.1) (0,none,0) (br _) J J J (fun x hx0=>ap (aw J J cr (aa (a_ (ai J (fun h3=> ?_) (fun h3=> ?_))))))
   ·(try simp only [bj]at h3);have hi:x.1<fs.length:=by omega
    obtain⟨f,hf⟩:∃f,fs[x.1]?=some f:=⟨_,bN hi⟩
    have hfm:=bT hf;have hfs:=AB st (fs.take x.1) S3 fun g hg=>hn400 g (List.mem_of_mem_take hg)
    have htl:=List.length_take (i:=x.1) (l:=fs);have hf4:=hn400 f hfm;refine az (a_ (aB (ap (aP (aN (j:=x.1) underlying25 fj J J (aK (k:=3) J) (by first|rfl|omega) (by first|omega|(simp;done)|(simp;omega))) (aP (aM fj J J J (bA (aK (k:=3) J) (by intro _;rfl) hf (by rfl))) (aY fj J J fun b9=>aq (k:=9) fj J J J J J J (aa (am (ad J (aP (aM fj J J J (aX (k:=9) J)) (aZ 0 8 J (l_ hfm) ?_)))))))))));refine dh (xs:= [.tmp 62,.tmp 63]) (DP (⟨b20,vp,b18,x.2.1,c.m,x.2.2⟩:Ga) c st J f (hry f hfm) (hg.2 f hfm) (s_ st (fs.take x.1) S3) ⟨(hbd f.name).1,by have:=B_ st (fs.take x.1) S3;have:=(hbd f.name).2;omega⟩ (by omega)) Ts [20] [(false,8),(true,70),(true,18)] [20] J J J J J J J J (fun _ _=>J) (fun _ _ _=>J) J (fun bo _=> ?_);refine aa (am (aw J J aO (ad J (aa ?_))));refine aJ (x.1+1,some bo,((s_ st (fs.take x.1) S3).labs.length:Int)+1) ⟨by dsimp only;omega,by dsimp only;omega⟩ J (by dsimp only;rw [yx S3 hf];rfl) J
   ·(try simp only [bj]at h3);have hi:x.1=fs.length:=by omega
    rw [hi,cS];have hfs:=AB st fs S3 hn400;have hall:AD fs=s_ st fs S3:=by rw [hS3,hS0,hst];rfl
    have hcg:oQ (s_ st fs S3).labs (s_ st fs S3).fixes (s_ st fs S3).code=gJ fs:=by rw [←hall];rfl
    refine bF (ap (ad J (aj (xs:= [.tmp 66]) (yt (⟨b20,vp,b18,x.2.1,c.m,x.2.2⟩:Ga) (s_ st fs S3) (by rw [←hall];exact hok) (by omega) (by rw [←hall];exact JH fs)) Tr [20] [] [] (fun _ _=> ?_))));rw [hcg];refine ak J (aa (aT (ad J (aP (cT underlying9 J) (aw J J ec (aa (ai J (fun h4=> ?_) (fun h4=> ?_))))))))
    ·(try simp only [bj]at h4);have hbig:(gJ fs).length*4>7936:=by rw [iw,ga]at h4;omega
     rw [show D3 fs=(0,oNil,30)from(ae (by omega)).trans (ar hbig)];refine ap (aP (aU (parts:= []) uD My J J) (aq (k:=2) uD J J J J J J (ak J (aa (ax (aH () O J (IM (aV uD J J J (aX (k:=2) J)) (aL J)) J [] [] J J J))))))
    ·(try simp only [bj]at h4);have hbig:¬(gJ fs).length*4>7936:=by rw [iw,ga]at h4;omega
     rw [show D3 fs=(2,lT (eo (gJ fs)),0)from(ae (by omega)).trans (ae hbig)];refine az (ap (ad J (aP (aU (parts:= [(0,.const (I6 2)),(1,.tmp 72)]) uD My J J) (aq (k:=2) uD J J J J J J (ak J (aa (ax (aH () O J (IM (aV uD J J J (aX (k:=2) J)) (aL J)) J [] [] J J J))))))))
theorem jU(vp:SV)(fs:List Tf)(hg:GP fs){k e:Int}{t:Ba}(h:D3 fs=(k,t,e)):
  bi prog 15 [.agg #[sv vp]] [] [cx vp fs] (.tuple #[.agg #[I6 k,Sg t],I6 e]) []:=by
 have:=xa vp fs hg;rw [h]at this;exact this
theorem Id{fs:List Tf}{f:Tf}(h:kD fs f=0):f.ps.length+dg f.body≤12:=by
 obtain⟨h1,h2⟩:=bw.1 h;have hb:¬(f.ps.length>4∨f.ps.length+dg f.body>12∨cB f.body>400∨dC 1 f.body=true):=fun hb=>by
  rw [ar hb]at h1;exact absurd h1 (by decide)
 simp only [not_or]at hb;omega
theorem w3{fs:List Tf}{f:Tf}(h:Fine fs f):(fs.map Tf.name).Nodup∧fs≠ []:=⟨BJ h.once,fun h2=>by have:=h.main;rw [h2]at this;cases this⟩
theorem vZ{code:List Qi}:∀{n:Nat}{c c':Qs},rn code n c c'→c'.out.length≤c.out.length+n
 | 0,c,c',h=>by
  have:c=c':=h;subst this;exact bX _
 | n+1,c,c',h=>by
  obtain⟨i,c1,-,h2,h3⟩:=h;have h4:=vZ h3;have h5:c1.out.length≤c.out.length+1:=by
   by_cases ho:i.op=48
   ·rcases re h2 ho with⟨-,q⟩|⟨-,q⟩
    ·rw [q];show(c.out++ [c.r 1]).length≤_;rw [bG];exact bX _
    ·rw [q];show c.out.length≤_;omega
   ·rw [(EN h2 ho).2];omega
  omega
theorem rc{fs:List Tf}(hg:GP fs)(hc:iA fs=0)(hl:(gJ fs).length≤1984)(vin:SV){ins:List Int}(hi:∀x∈ins,oW x){fuel:Int}(hf:0≤fuel∧fuel≤1000000){ru:Ru}(hr:RunIs fs ins fuel ru){most:Int}(hm:100*fuel+150<most∧most<1000000000)(h25:ru.err≠25):
  ∃t out mem,Spec prog 25 [Sg (lT (eo (gJ fs))),sv vin,I6 most] [] [sl 1 eU (sv vin) ins] (X:=SV×SV) (fun _=>True) (fun x=> .agg #[sv x.1,sv x.2,I6 t,I3 0]) (fun x=> [own 41 1 eU (sv x.1) out,own 41 1 eU (sv x.2) mem]) (fun _=> [])∧
   (out.length≤1000000000∧mem.length≤1000000000)∧(ru.err=0→t=4∧out=ru.out∧mem=ru.mem)∧(ru.err=26→t=3):=by
 obtain⟨f,hfn⟩:=kS hg hc;obtain⟨hnd,hne⟩:=w3 hfn;have hz:=wM fs hnd hne;rw [hz]at hl ⊢;have hva:=Nk (HT hg (fun f hf=>Id (hfn.each f hf)) hl);cases hr with
 | bad h=>exact absurd hc h
 | run f2 g r h hf2 he=>
  have:f2=f:=by
   have:=hfn.main;rw [hf2]at this;exact cf this
  subst this;have hp:=IT hg hfn (Lf hc) hl hi hf.1 (by omega) he;cases r with
  | ok v s1=>
   obtain⟨h1,k,c',h2,h3,h4,h5,h6⟩:=hp;refine⟨4,c'.out,sO c'.m 256,qA hl hva vin ins hi h3 h4 (.inl J) most ⟨by omega,hm.2⟩,⟨by have:=vZ h3;have e:(⟨0,fun _=>0,fun _=>0,ins,[]⟩:Qs).out.length=0:=J;omega,by rw [sN];decide⟩,fun _=>⟨J,h5,?_⟩,fun h=>absurd h (by show ¬(0:Int)=26;decide)⟩;show sO c'.m 256=(List.range 256).map s1.mem;unfold sO;exact List.map_congr_left fun i hi=>h6 i (List.mem_range.1 hi)
  | err e=>
   have he2:=(AL g).2.2.1 _ _ _ _ _ _ he;have h26:e=26:=he2.resolve_left h25;subst h26;obtain⟨k,c',h2,h3,h4⟩:=hp J;have h4:(jY fs)[c'.pc]?=some ⟨49,0,0,0,0⟩:=h4;exact⟨3,c'.out,sO c'.m 256,qA hl hva vin ins hi h3 h4 (.inr J) most ⟨by omega,hm.2⟩,⟨by have:=vZ h3;have e:(⟨0,fun _=>0,fun _=>0,ins,[]⟩:Qs).out.length=0:=J;omega,by rw [sN];decide⟩,fun h=>absurd h (by show ¬(26:Int)=0;decide),fun _=>J⟩
theorem yd{fs:List Tf}(hg:GP fs)(hc:iA fs=0)(hl:¬(gJ fs).length≤1984):lh fs>120:=by
 obtain⟨f,hfn⟩:=kS hg hc;obtain⟨hnd,hne⟩:=w3 hfn;rw [wM fs hnd hne]at hl;by_cases h:lh fs≤120
 ·exact absurd (AV hfn h) hl
 ·omega
theorem Ka{fs:List Tf}(hg:GP fs)(hc:iA fs=0):lT (eo (gJ fs))≠oNil:=fun h=>by
 obtain⟨f,hfn⟩:=kS hg hc;obtain⟨hnd,hne⟩:=w3 hfn;have h1:=congrArg ByteArray.size h;rw [iw,ga,wM fs hnd hne,xk]at h1;have h2:oNil.size=0:=J;omega
theorem DY(vp vin:SV)(fs:List Tf)(ins:List Int)(hg:GP fs)(hc:iA fs=0)(hi:∀x∈ins,oW x)(hil:ins.length≤1000000)(hl:¬(gJ fs).length≤1984):
  bi prog 22 [.agg #[sv vp],sv vin] [] [cx vp fs,sl 1 eU (sv vin) ins] (.bool true) []:=by
 refine aI func22 J ntmps22 J fun w0 M H=> ?_
 have hcm:D3 fs=(0,oNil,30):=by
  unfold D3;rw [ae (by omega),ar (by omega)]
 have hbig:=yd hg hc hl;refine ap (ck J J fun b2=>ak J (aF J (aP (aM jB J J J (aX (k:=2) J)) (aj (xs:= [.tmp 10]) (jU vp fs hg hcm) Hk [] [(false,0)] [] (fun _ _=>ad J (aP (cG J J) (aP (cG J J) (aY uD J J fun b5=>aq (k:=5) uD J J J J J J (ak J (aa (aT (ad J ?_))))))))))));refine aw J J bn (aa (ai J (fun h1=> ?_) (fun h1=> ?_)))
 ·(try simp only [bj]at h1);refine ap (aP (aM jB J J J (aX (k:=2) J)) (aj (xs:= [.tmp 16]) (sL vp fs hg) QK [] [(false,0)] [] (fun _ _=>aw J J ec (ak J (aa (ax (aH () O J (bQ (aL J)) (by first|rfl|(rw [ho3,ho4];simp;done)|(rw [decide_eq_true (by omega)];done)) [] [] J J J)))))))
 ·exact absurd h1 (by decide)
theorem J8(vp vin:SV)(fs:List Tf)(ins:List Int)(hg:GP fs)(hc:iA fs=0)(hi:∀x∈ins,oW x)(hil:ins.length≤1000000)(hl:(gJ fs).length≤1984):
  bi prog 22 [.agg #[sv vp],sv vin] [] [cx vp fs,sl 1 eU (sv vin) ins] (.bool true) []:=by
 refine aI func22 J ntmps22 J fun w0 M H=> ?_
 have hcm:D3 fs=(2,lT (eo (gJ fs)),0):=by
  unfold D3;rw [ae (by omega),ae (by omega)]
 have hnb:(lT (eo (gJ fs))=={data:= #[]})=false:=by
  rw [cq];exact decide_eq_false (Ka hg hc)
 have hsz:(lT (eo (gJ fs))).size≤7936:=by rw [iw,ga];omega
 obtain⟨ru,hru⟩:=Fc hg (ins:=ins) (fuel:=800) hi (by decide);have here:=IJ hru hc;refine ap (ck J J fun b2=>ak J (aF J (aP (aM jB J J J (aX (k:=2) J)) (aj (xs:= [.tmp 10]) (jU vp fs hg hcm) Hk [] [(false,0)] [] (fun _ _=>ad J (aP (cG J J) (aP (cG J J) (aY uD J J fun b5=>aq (k:=5) uD J J J J J J (ak J (aa (aT (ad J ?_))))))))))));refine aw J J bn (aa (ai J (fun h1=> ?_) (fun h1=> ?_)))
 ·exact absurd h1 (by decide)
 ·(try simp only [bj]at h1);refine az (aT (ad J (aw J J eD (ad J (aG [] J J O (fun hg2=>ag GK J) J (aG [(22,_)] J J ⟨J,O⟩ (fun hg3=>ah t3 J J (ay (k:=5) J J)) J (aG [(22,_),(23,_)] J J ⟨J,J,O⟩ (fun hg4=>aR J J eD) J (aP (bH J J J) (ad J (aG [] J J O (fun hg5=>ag lu J) J (aG [(27,_)] J J ⟨J,O⟩ (fun hg6=>ah t9 J J (ay (k:=5) J J)) J (aG [(27,_),(28,_)] J J ⟨J,J,O⟩ (fun hg7=>aR J J cW) J (aP (bH J J J) (ad J (aG [] J J O (fun hg8=>ag lu J) J (aG [(32,_)] J J ⟨J,O⟩ (fun hg9=>ah t9 J J (ay (k:=5) J J)) J (aG [(32,_),(33,_)] J J ⟨J,J,O⟩ (fun hg10=>cT underlying9 J) J ?_)))))))))))))))));refine aG [(32,_),(33,_),(34,_)] J J ⟨J,J,J,O⟩ (fun hg11=>aR J J ec) J (aP (bH J J J) (aa (ai J (fun h12=> ?_) (fun h12=> ?_))))
  ·(exfalso;have h0:=h12;rw [hnb]at h0;simp at h0;omega)
  ·(try simp only [bj]at h12);refine az (ap (aP (aM jB J J J (aX (k:=2) J)) (ad J (aj (xs:= [.tmp 37,.tmp 38,.const (I6 800)]) (Dk vp vin fs ins 800 hg hi hil (by decide) ru hru) Tn [] [(false,0),(false,1)] [30,31] (fun y _=>aY pJ J J fun b7=>aq (k:=7) pJ J J J J J J (aa (aT (aC Ct J (aQ 7 pr J J J J (aw J J bn (aa (ai J (fun h13=> ?_) (fun h13=> ?_)))))))))))))
   ·(try simp only [bj]at h13);skip;refine ap (ak J (aa (ax (aH () O J (bQ (aL J)) (by first|rfl|(rw [ho3,ho4];simp;done)|(rw [decide_eq_true (by omega)];done)) [] [] J J J))))
   ·(try simp only [bj]at h13);have h25:ru.err≠25:=by omega
    obtain⟨t,out,mem,hsv,⟨hol,hml⟩,ho1,ho2⟩:=rc hg hc hl vin hi (by decide) hru (most:=81010) (by decide) h25;refine az (ap (aC lu J (aQ 5 t9 J J J J (ad J (aj (xs:= [.tmp 44,.tmp 45,.const (I6 81010)]) hsv Kg [] [(false,1)] [32,33] (fun z _=>d7 (k:=32) (A':=sl 1 eU (sv z.1) out) J bO (d7 (k:=33) (A':=sl 1 eU (sv z.2) mem) J bO (aY zw J J fun b8=>aq (k:=8) zw J J J J J J (aa (aT (aC Ct J (aQ 7 pr J J J J (aw J J bn (aa (ai J (fun h14=> ?_) (fun h14=> ?_))))))))))))))))
    ·(try simp only [bj]at h14);have ht:=ho2 (by omega);subst ht;refine ap (aC td J (aP (ek qg J) (aQ 8 t3 J J J J (aw J J bn (ak J (aa (ax (aH () O J (bQ (aL J)) (by first|rfl|(rw [ho3,ho4];simp;done)|(rw [decide_eq_true (by omega)];done)) [] [] J J J))))))))
    ·(try simp only [bj]at h14);obtain⟨ht,ho3,ho4⟩:=ho1 (by omega);subst ht;refine az (ap (aC td J (aP (aM (us:= [I6 4,I3 0]) za J J J (kQ (k:=8) J J)) (aP (aU (parts:= [(0,.const (I6 4))]) za Mx J J) (aw J J Hz (ad J (aG [] J J O (fun hg15=>ag qf J) J (aG [(59,_)] J J ⟨J,O⟩ (fun hg16=>ah qS J J (ay (k:=8) J J)) J (aG [(59,_),(60,_)] J J ⟨J,J,O⟩ (fun hg17=>ag J0 J) J (aG [(59,_),(60,_),(61,_)] J J ⟨J,J,J,O⟩ (fun hg18=>ah qS J J (ay (k:=7) J J)) J (jm [(59,_),(60,_),(61,_),(62,_)] J J ⟨J,J,J,J,O⟩ (fun hg19=>bB (xs:= [.tmp 60,.tmp 62]) (pN z.1 y.1 out ru.out hol) Kd [] [(true,32),(true,30)] []) J (aP (bH J J J) (ad J (aG [] J J O (fun hg20=>ag qe J) J (aG [(66,_)] J J ⟨J,O⟩ (fun hg21=>ah qS J J (ay (k:=8) J J)) J (aG [(66,_),(67,_)] J J ⟨J,J,O⟩ (fun hg22=>ag JZ J) J (aG [(66,_),(67,_),(68,_)] J J ⟨J,J,J,O⟩ (fun hg23=>ah qS J J (ay (k:=7) J J)) J (jm [(66,_),(67,_),(68,_),(69,_)] J J ⟨J,J,J,J,O⟩ (fun hg24=>bB (xs:= [.tmp 67,.tmp 69]) (pN z.2 y.2 mem ru.mem hml) Kd [] [(true,33),(true,31)] []) J ?_))))))))))))))))));refine aP (bH J J J) (ak J (aa (ax (aH () O J (bQ (aL J)) (by first|rfl|(rw [ho3,ho4];simp;done)|(rw [decide_eq_true (by omega)];done)) [] [] J J J))))
theorem DX(vp vin:SV)(fs:List Tf)(ins:List Int)(hg:GP fs)(hc:iA fs=0)(hi:∀x∈ins,oW x)(hil:ins.length≤1000000):
  bi prog 22 [.agg #[sv vp],sv vin] [] [cx vp fs,sl 1 eU (sv vin) ins] (.bool true) []:=by
 by_cases hl:(gJ fs).length≤1984
 ·exact J8 vp vin fs ins hg hc hi hil hl
 ·exact DY vp vin fs ins hg hc hi hil hl
def sgL:List Ba:= [(⟨#[60,61]⟩:Ba),(⟨#[62,61]⟩:Ba),(⟨#[61,61]⟩:Ba),(⟨#[33,61]⟩:Ba),(⟨#[60,60]⟩:Ba),(⟨#[62,62]⟩:Ba),(⟨#[40]⟩:Ba),(⟨#[41]⟩:Ba),(⟨#[91]⟩:Ba),(⟨#[93]⟩:Ba),(⟨#[123]⟩:Ba),(⟨#[125]⟩:Ba),(⟨#[44]⟩:Ba),(⟨#[59]⟩:Ba),(⟨#[61]⟩:Ba),(⟨#[43]⟩:Ba),(⟨#[45]⟩:Ba),(⟨#[42]⟩:Ba),(⟨#[47]⟩:Ba),(⟨#[37]⟩:Ba),(⟨#[38]⟩:Ba),(⟨#[124]⟩:Ba),(⟨#[94]⟩:Ba),(⟨#[126]⟩:Ba),(⟨#[33]⟩:Ba),(⟨#[60]⟩:Ba),(⟨#[62]⟩:Ba)]
def pD(c:Int):Bool:=decide (c=32) || decide (c=9) || decide (c=10) || decide (c=13)
def kL(t:Ba):List Ba→Ba
 | []=>oNil
 | s::r=>if(decide ((s.size:Int)≤(t.size:Int))&&(t.extract 0 s.size==s))=true then s else kL t r
theorem IB{t:Ba}{l:List Ba}{i:Nat}{s:Ba}(h:l[i]?=some s):kL t (l.drop i)=if(decide ((s.size:Int)≤(t.size:Int))&&(t.extract 0 s.size==s))=true then s else kL t (l.drop (i+1)):=by
 obtain⟨hi,rfl⟩:=cJ.1 h;rw [List.drop_eq_getElem_cons hi];rfl
theorem A3(c:Int):
  bi prog 138 [.int .u8 c] [] [] (.bool (pD c)) []:=by
 refine aI func138 J ntmps138 J fun w0 M H=>ap (ak J (aF J (ad J (aw J J bn (ad J (aG [] J J O (fun hg1=>bc J) J (aG [(6,_)] J J ⟨J,O⟩ (fun hg2=>aR J J bn) J (aP (bH J J J) (ad J (aG [] J J O (fun hg3=>bc J) J (aG [(10,_)] J J ⟨J,O⟩ (fun hg4=>aR J J bn) J (aP (bH J J J) (ad J (aG [] J J O (fun hg5=>bc J) J (aG [(14,_)] J J ⟨J,O⟩ (fun hg6=>aR J J bn) J ?_)))))))))))))))
 refine aP (bH J J J) (ak J (aa (ax (aH () O J (bQ (aL J)) J [] [] J J J))))
theorem zD:
  Spec prog 174 [] [] [] (X:=SV) (fun _=>True) (fun u=>sv u) (fun u=> [own 9 1 eS (sv u) sgL]) (fun _=> []):=by
 refine aI func174 J ntmps174 J fun w0 M H=>ap (ak J (aF J ?_))
 refine dv eS sgL (parts:= [(0,.const (Sg (ByteArray.mk #[60,61]))),(1,.const (Sg (ByteArray.mk #[62,61]))),(2,.const (Sg (ByteArray.mk #[61,61]))),(3,.const (Sg (ByteArray.mk #[33,61]))),(4,.const (Sg (ByteArray.mk #[60,60]))),(5,.const (Sg (ByteArray.mk #[62,62]))),(6,.const (Sg (ByteArray.mk #[40]))),(7,.const (Sg (ByteArray.mk #[41]))),(8,.const (Sg (ByteArray.mk #[91]))),(9,.const (Sg (ByteArray.mk #[93]))),(10,.const (Sg (ByteArray.mk #[123]))),(11,.const (Sg (ByteArray.mk #[125]))),(12,.const (Sg (ByteArray.mk #[44]))),(13,.const (Sg (ByteArray.mk #[59]))),(14,.const (Sg (ByteArray.mk #[61]))),(15,.const (Sg (ByteArray.mk #[43]))),(16,.const (Sg (ByteArray.mk #[45]))),(17,.const (Sg (ByteArray.mk #[42]))),(18,.const (Sg (ByteArray.mk #[47]))),(19,.const (Sg (ByteArray.mk #[37]))),(20,.const (Sg (ByteArray.mk #[38]))),(21,.const (Sg (ByteArray.mk #[124]))),(22,.const (Sg (ByteArray.mk #[94]))),(23,.const (Sg (ByteArray.mk #[126]))),(24,.const (Sg (ByteArray.mk #[33]))),(25,.const (Sg (ByteArray.mk #[60]))),(26,.const (Sg (ByteArray.mk #[62])))]) underlying46 t9 J (by decide) (by intro _;rfl) J (by decide) (by decide) J J J J fun v1=> ?_
 refine ak J (aa (ax (aH v1 O J (bQ (aL J)) J [1] [] J J J)))
theorem Dh(t:Ba):
  bi prog 139 [Sg t] [] [] (Sg (kL t sgL)) []:=by
 refine aI func139 J ntmps139 J fun w0 M H=> ?_
 have hsl:sgL.length=27:=J;refine ap (ak J (aF J (aj (xs:= []) zD QG [] [] [6] (fun v6 _=>ak J (aa (aT (ak J (aa (aB (bC (X:=Nat) (fun i=>i≤sgL.length∧kL t sgL=kL t (sgL.drop i)) (fun i=> [(0,Sg t),(3,sv v6),(4,I6 (i:Int))]) (fun i=> [(6,own 9 1 eS (sv v6) sgL)]) (fun i=> []) (fun i=>sgL.length-i) 0 ⟨br _,J⟩ J J J (fun i n1=>aT (ad J ?_))))))))))));refine ad J (aP (aS underlying46 J (be (k:=6) J)) (aw J J cr (aa (ai J (fun h1=> ?_) (fun h1=> ?_)))))
 ·(try simp only [bj]at h1);have hi:i<sgL.length:=by omega
  obtain⟨s,hx⟩:∃s,sgL[i]?=some s:=⟨_,bN hi⟩
  have hsx:=IB (t:=t) hx;refine az (a_ (aB (ap (ad J (ad J (aP (aN (j:=i) underlying46 t9 J J (be (k:=6) J) (by first|rfl|omega) (by first|omega|(simp;done)|(simp;omega))) (aP (ah t9 J J (bA (be (k:=6) J) (by intro _;rfl) hx (by rfl))) (aP (cT underlying9 J) (ak J (aa (a_ ?_)))))))))));refine bJ [18,19,20,21,22,23,24,25,26,27,28,29,30,31] _ J (bl (V:= [(0,18,_),(1,19,_),(2,20,_),(3,21,_),(4,22,_),(5,23,_),(6,24,_),(7,25,_),(8,26,_),(9,27,_),(10,28,_),(11,29,_),(12,30,_),(13,31,_)]) [0,1,2,3,4,5,6,7,8,9,10,11,12,13] J J (aD J J (aD J J (ac J (cT underlying9 J) (ac J (aR J J lR) (aD J J (bp (bZ [] J J J O (fun hg2=>bc J)) (bp (bZ [] J J J O (fun hg3=>bc J)) (bp (bZ [(23,_),(24,_)] J J J ⟨J,J,O⟩ (fun hg4=>ud underlying9 J J (by omega) (by have q:=bW hg4;omega))) (bp (bZ [] J J J O (fun hg5=>bc J)) (bp (bZ [] J J J O (fun hg6=>bc J)) (bp (bZ [(26,_),(27,_)] J J J ⟨J,J,O⟩ (fun hg7=>aN (j:=i) underlying46 t9 J J (be (k:=6) J) (by first|rfl|omega) (by first|omega|(simp;done)|(simp;omega)))) (bp (bZ [(28,_)] J J J ⟨J,O⟩ (fun hg8=>ah t9 J J (bA (be (k:=6) J) (by intro _;rfl) hx (by rfl)))) (bp (bZ [(25,_),(29,_)] J J J ⟨J,J,O⟩ (fun hg9=>aR J J cW)) (ac J (bH J J J) av)))))))))))))) J J J ?_);refine ai J (fun h10=> ?_) (fun h10=> ?_)
  ·have hq:(decide ((s.size:Int)≤(t.size:Int))&&(t.extract 0 s.size==s))=true:=h10;rw [n1.2,hsx,ar hq];refine ap (ad J (ad J (aP (aN (j:=i) underlying46 t9 J J (be (k:=6) J) (by first|rfl|omega) (by first|omega|(simp;done)|(simp;omega))) (aP (ah t9 J J (bA (be (k:=6) J) (by intro _;rfl) hx (by rfl))) (ak J (aa (ax (aH () O J (bQ (aL J)) J [] [] J J J))))))))
  ·have hq:(decide ((s.size:Int)≤(t.size:Int))&&(t.extract 0 s.size==s))=false:=h10;refine az (am (ad J (aw J J aO (ak J (aa ?_)))));refine aJ (i+1) ⟨⟨by omega,by rw [n1.2,hsx,ae (by rw [hq];decide)]⟩,by omega⟩ J J J
 ·(try simp only [bj]at h1);have hi:i=sgL.length:=by omega
  subst hi;rw [n1.2,List.drop_length];refine bF (ap (ak J (aa (ax (aH () O J (bQ (aL J)) J [] [] J J J)))))
structure Tk where
 k:Int
 s:Ba
 n:Int
 bad:Bool
 off:Int
deriving DecidableEq
def ly(t:Tk):List Value:= [I6 t.k,Sg t.s,I3 t.n,.bool t.bad,I6 t.off]
def jX(s:Ba)(i:Nat):Int:=(bv s).getD i 0
def pw(p:Int→Bool)(s:Ba):Nat→Nat→Nat
 | 0,i=>i
 | g+1,i=>if p (jX s i)=true then pw p s g (i+1)else i
theorem vW{p:Int→Bool}{s:Ba}:∀{g i j:Nat},i+g=s.size→i≤j→j≤s.size→(∀m,i≤m→m<j→p (jX s m)=true)→¬(j<s.size∧p (jX s j)=true)→pw p s g i=j
 | 0,i,j,hg,h1,h2,h3,h4=>by
  show i=j;omega
 | g+1,i,j,hg,h1,h2,h3,h4=>by
  unfold pw;by_cases hij:i=j
  ·subst hij;rw [ae (fun h=>h4 ⟨by omega,h⟩)]
  ·rw [ar (h3 i (bX _) (by omega))];exact vW (by omega) (by omega) h2 (fun m hm=>h3 m (by omega)) h4
def nI(s:Ba)(i:Nat):Nat→Int×Bool
 | 0=>(0,false)
 | m+1=>if 10*(nI s i m).1+(jX s (i+m)-48)≥4294967296 then(4294967296,true)else(10*(nI s i m).1+(jX s (i+m)-48),(nI s i m).2)
structure Tq where
 k:Int
 n:Int
 bad:Bool
 j:Nat
def tT(c:Int):Bool:=oH c || jT c
def gM(s:Ba)(i:Nat):Tq:=
 if jT (jX s i)=true then⟨1,wU (nI s i (pw jT s (s.size-i) i-i)).1,(nI s i (pw jT s (s.size-i) i-i)).2,pw jT s (s.size-i) i⟩else
 if oH (jX s i)=true then⟨if(pw tT s (s.size-i) i:Int)-(i:Int)>12 then 4 else if cn (s.extract i (pw tT s (s.size-i) i)) ul=true then 3 else 2,0,false,pw tT s (s.size-i) i⟩else
 ⟨if(kL (s.extract i s.size) sgL).size=0 then 4 else 3,0,false,i+(kL (s.extract i s.size) sgL).size⟩
def vS(s:Ba)(i:Nat):Tk:=⟨(gM s i).k,s.extract i (gM s i).j,(gM s i).n,(gM s i).bad,(i:Int)⟩
def tV(s:Ba):Nat→Nat→List Tk→Option (List Tk)
 | 0,_,_=>none
 | g+1,i,acc=>
  if pw pD s (s.size-i) i=s.size then some (acc++ [⟨0,oNil,0,false,(s.size:Int)⟩])else
  if(gM s (pw pD s (s.size-i) i)).k=4 then some (acc++ [vS s (pw pD s (s.size-i) i)])else tV s g (gM s (pw pD s (s.size-i) i)).j (acc++ [vS s (pw pD s (s.size-i) i)])
theorem G3{c:Int}(h:jT c=true):48≤c∧c≤57:=by
 unfold jT at h;simp only [Bool.and_eq_true,decide_eq_true_eq]at h;omega
theorem FH(s:Ba)(i:Nat):∀m,(∀q,q<m→jT (jX s (i+q))=true)→0≤(nI s i m).1∧(nI s i m).1≤4294967296
 | 0,_=>⟨Int.le_refl _,by show(0:Int)≤4294967296;decide⟩
 | m+1,h=>by
  have h1:=FH s i m fun q hq=>h q (by omega)
  have h2:=G3 (h m (by omega));unfold nI;split
  ·exact⟨by show(0:Int)≤4294967296;decide,Int.le_refl _⟩
  ·constructor
   ·show 0≤10*(nI s i m).1+(jX s (i+m)-48);omega
   ·show 10*(nI s i m).1+(jX s (i+m)-48)≤4294967296;omega
theorem mi(p:Int→Bool)(s:Ba):∀(g i:Nat),i+g=s.size→i≤pw p s g i∧pw p s g i≤s.size
 | 0,i,h=>by unfold pw;omega
 | g+1,i,h=>by
  have:=mi p s g (i+1) (by omega);unfold pw;split<;>omega
theorem E4{p:Int→Bool}{s:Ba}{i:Nat}(hi:i<s.size)(h:p (jX s i)=true):i<pw p s (s.size-i) i:=by
 obtain⟨g,hg⟩:∃g,s.size-i=g+1:=⟨s.size-i-1,by omega⟩
 rw [hg];unfold pw;rw [ar h];have:=mi p s g (i+1) (by omega);omega
theorem rh(t:Ba):∀l,(kL t l).size≤t.size
 | []=>br _
 | s::r=>by
  unfold kL;split
  ·rename_i h;simp only [Bool.and_eq_true,decide_eq_true_eq]at h;omega
  ·exact rh t r
theorem L5{s:Ba}{i:Nat}(hi:i<s.size)(hk:(gM s i).k≠4):i<(gM s i).j∧(gM s i).j≤s.size:=by
 unfold gM at hk ⊢;by_cases h1:jT (jX s i)=true
 ·rw [ar h1];exact⟨E4 hi h1,(mi jT s (s.size-i) i (by omega)).2⟩
 ·rw [ae h1]at hk ⊢;by_cases h2:oH (jX s i)=true
  ·rw [ar h2];exact⟨E4 hi (by unfold tT;rw [h2];rfl),(mi tT s (s.size-i) i (by omega)).2⟩
  ·rw [ae h2]at hk ⊢;have h3:=rh (s.extract i s.size) sgL;rw [ByteArray.size_extract]at h3;have h4:¬(kL (s.extract i s.size) sgL).size=0:=fun h=>hk (ar h)
   show i<i+_∧i+_≤s.size;omega
theorem Bm{s:Ba}{i:Nat}(hi:i<s.size):i≤(gM s i).j∧(gM s i).j≤s.size:=by
 unfold gM;by_cases h1:jT (jX s i)=true
 ·rw [ar h1];exact mi jT s (s.size-i) i (by omega)
 ·rw [ae h1];by_cases h2:oH (jX s i)=true
  ·rw [ar h2];exact mi tT s (s.size-i) i (by omega)
  ·rw [ae h2];have h3:=rh (s.extract i s.size) sgL;rw [ByteArray.size_extract]at h3;show i≤i+_∧i+_≤s.size;omega
theorem HI{p:Prop} [Decidable p]{b:Bool}(h:(decide p&&b)=true):p∧b=true:=by
 rw [Bool.and_eq_true,decide_eq_true_eq]at h;exact h
theorem HJ{p:Prop} [Decidable p]{b:Bool}(h:(decide p&&b)=false):¬(p∧b=true):=fun q=>by
 rw [decide_eq_true q.1,q.2]at h;cases h
theorem KX{s:Ba}{i m:Nat}(h:10*(nI s i m).1+(jX s (i+m)-48)≥4294967296):nI s i (m+1)=(4294967296,true):=ar h
theorem KY{s:Ba}{i m:Nat}(h:¬10*(nI s i m).1+(jX s (i+m)-48)≥4294967296):nI s i (m+1)=(10*(nI s i m).1+(jX s (i+m)-48),(nI s i m).2):=ae h
theorem Ik{s:Ba}{i m:Nat}(h:jT (jX s i)=true)(hs:pw jT s (s.size-i) i=i+m):gM s i=⟨1,wU (nI s i m).1,(nI s i m).2,i+m⟩:=by
 unfold gM;rw [ar h,hs,Nat.add_sub_cancel_left]
theorem EJ{s:Ba}{i j:Nat}(h:¬jT (jX s i)=true)(h2:oH (jX s i)=true)(hs:pw tT s (s.size-i) i=j):gM s i=⟨if(j:Int)-(i:Int)>12 then 4 else if cn (s.extract i j) ul=true then 3 else 2,0,false,j⟩:=by
 unfold gM;rw [ae h,ar h2,hs]
theorem EI{s:Ba}{i:Nat}(h:¬jT (jX s i)=true)(h2:¬oH (jX s i)=true):gM s i=⟨if(kL (s.extract i s.size) sgL).size=0 then 4 else 3,0,false,i+(kL (s.extract i s.size) sgL).size⟩:=by
 unfold gM;rw [ae h,ae h2]
theorem Il{s:Ba}{g i j:Nat}{acc r:List Tk}(h:tV s g i acc=some r)(hj:pw pD s (s.size-i) i=j)(he:j=s.size):r=acc++ [⟨0,oNil,0,false,(s.size:Int)⟩]:=by
 cases g with
 | zero=>cases h
 | succ g=>
  unfold tV at h;rw [hj,ar he]at h;exact(cf h).symm
theorem Im{s:Ba}{g i j:Nat}{acc r:List Tk}(h:tV s g i acc=some r)(hj:pw pD s (s.size-i) i=j)(he:¬j=s.size)(hk:(gM s j).k=4):r=acc++ [vS s j]:=by
 cases g with
 | zero=>cases h
 | succ g=>
  unfold tV at h;rw [hj,ae he,ar hk]at h;exact(cf h).symm
theorem L6{s:Ba}{g i j:Nat}{acc r:List Tk}(h:tV s g i acc=some r)(hj:pw pD s (s.size-i) i=j)(he:¬j=s.size)(hk:¬(gM s j).k=4):∃g',tV s g' (gM s j).j (acc++ [vS s j])=some r:=by
 cases g with
 | zero=>cases h
 | succ g=>
  unfold tV at h;rw [hj,ae he,ae hk]at h;exact⟨g,h⟩
theorem xy(s:Ba)(hs:s.size≤16384)(g0:Nat)(r:List Tk)(hr:tV s g0 0 []=some r):
  Spec prog 108 [Sg s] [] [] (X:=SV) (fun _=>True) (fun v=>sv v) (fun v=> [own 197 5 ly (sv v) r]) (fun _=> []):=by
 refine aI func108 J ntmps108 J fun w0 M H=>ap (ak J (aF J (ak J (aF J (ak J (aa (aB (cZ 40 (α:=Tk) (S:=197) (s:=5) (enc:=ly) (bC (X:=Nat×List Tk×SV) (fun x=>(∃g,tV s g x.1 x.2.1=some r)∧x.1≤s.size∧x.2.1.length≤x.1) (fun x=> [(0,Sg s),(3,sv x.2.2),(4,I6 (x.1:Int))]) (fun x=> [(40,own 197 5 ly (sv x.2.2) x.2.1)]) (fun x=> []) (fun x=>s.size-x.1) (0,[],bk) ⟨⟨g0,hr⟩,br _,bX _⟩ J J J (fun x hx=> ?_))))))))))
 obtain⟨i,acc,v⟩:=x;obtain⟨⟨g,hg⟩,hi1,hal⟩:=hx;dsimp only at hg hi1 hal;refine aB (a_ (aB ?_));refine bC (X:=Nat) (fun j=>i≤j∧j≤s.size∧∀q,i≤q→q<j→pD (jX s q)=true) (fun j=> [(0,Sg s),(3,sv v),(4,I6 (j:Int))]) (fun j=> [(40,own 197 5 ly (sv v) acc)]) (fun j=> []) (fun j=>s.size-j) i ⟨bX _,hi1,fun q h1 h2=>by omega⟩ J J J (fun j n2=> ?_);refine aT (ad J (ad J (aP (cT underlying9 J) (aw J J cr (ad J (aG [] J J O (fun hg1=>bc J) J (aG [(14,_)] J J ⟨J,O⟩ (fun hg2=>bc J) J (aG [(14,_),(15,_)] J J ⟨J,J,O⟩ (fun hg3=>eg (j:=j) underlying9 J J J (by have q:=bW hg3;omega)) J (jm [(14,_),(15,_),(16,_)] J J ⟨J,J,J,O⟩ (fun hg4=>fh (xs:= [.tmp 16]) (A3 _) Q3 [] [] [] J J J) J (aP (bH J J J) (aa (ai J (fun h5=> ?_) (fun h5=> ?_)))))))))))))
 ·obtain⟨hj0,hbk⟩:=HI h5;refine az (aB (am (ad J (aw J J aO (ak J (aa ?_))))));refine aJ (j+1) ⟨⟨by omega,by omega,fun q h1 h2=>by
   by_cases hq:q=j
   ·subst hq;exact hbk
   ·exact n2.2.2 q h1 (by omega)⟩,by omega⟩ rfl rfl rfl
 ·have hjx:¬(j<s.size∧pD (jX s j)=true):=fun q=>HJ h5 ⟨by omega,q.2⟩
  obtain⟨i2,hi2⟩:∃i2,i2=j:=⟨_,J⟩
  subst hi2;have hsb:=vW (g:=s.size-i) (by omega) n2.1 n2.2.1 n2.2.2 hjx;refine bF (aT (ad J (ad J (aP (cT underlying9 J) (aw J J bn (aa (ai J (fun h6=> ?_) (fun h6=> ?_))))))))
  ·(try simp only [bj]at h6);have he:i2=s.size:=by omega
   have hrr:=Il hg hsb he;rw [←he]at hrr;subst hrr;refine ap (ad J (ad J (aP (aU (cs:=(ly ⟨0,oNil,0,false,(i2:Int)⟩).toArray) (parts:= [(4,.tmp 26)]) eZ KN J (by kernel_rfl)) (bq ly (⟨0,oNil,0,false,(i2:Int)⟩:Tk) underlying192 eZ J (by decide) (by decide) J J J J fun v28=>cM 40 underlying192 eZ J (by decide) (fun _=>J) (fun _=>J) J J J (be (k:=28) J) (by first|omega|(simp;done)|(simp;omega)) (by unfold maxLen;first|omega|(simp;done)|(simp;omega)) J fun v29=>ak J (aa (ax (aH v29 O J (bQ (aL J)) J [40] [] J J J)))))))
  ·(try simp only [bj]at h6);have he:¬i2=s.size:=by omega
   have hi3:i2<s.size:=by omega
   have hj2:=Bm hi3;refine az (ap (ad J (aP (aU (cs:=(ly ⟨0,oNil,0,false,(i2:Int)⟩).toArray) (parts:= [(4,.tmp 30)]) eZ KN J (by kernel_rfl)) (aY eZ J J fun b5=>aq (k:=5) eZ J J J J J J (aF J (ad J (ak J (aa (bx (X:=Unit) (fun _=>True) (fun _=> [(0,Sg s),(3,sv v),(4,I6 (i2:Int)),(5,Pt b5),(6,I6 ((gM s i2).j:Int))]) (fun _=> [(40,own 197 5 ly (sv v) acc),(5,bh b5 197 [I6 (gM s i2).k,Sg oNil,I3 ((gM s i2).n),.bool ((gM s i2).bad),I6 (i2:Int)])]) (fun _=> []) ?_ (fun _ _=> ?_))))))))))
   ·refine aB (ap (ad J (ad J (aP (eg (j:=i2) underlying9 J J J (by omega)) (db (xs:= [.tmp 48]) (mZ _) CM [] [] [] J J J (fun _ _=>ak J (aa (ai J (fun h7=> ?_) (fun h7=> ?_)))))))))
    ·have Au:jT (jX s i2)=true:=h7;refine ap (aC eC J (aA (k:=5) t3 J J J J J J J J (aF J (ak J (aa (a_ (aB ?_)))))));refine bC (X:=Nat) (fun m=>i2+m≤s.size∧∀q,q<m→jT (jX s (i2+q))=true) (fun m=> [(0,Sg s),(3,sv v),(4,I6 (i2:Int)),(5,Pt b5),(6,I6 ((i2+m:Nat):Int)),(7,.int .u64 (nI s i2 m).1)]) (fun m=> [(40,own 197 5 ly (sv v) acc),(5,bh b5 197 [I6 1,Sg oNil,I3 (0),.bool ((nI s i2 m).2),I6 (i2:Int)])]) (fun m=> []) (fun m=>s.size-(i2+m)) 0 ⟨by omega,fun q h=>by omega⟩ J J J (fun m n3=> ?_);refine aT (ad J (ad J (aP (cT underlying9 J) (aw J J cr (ad J (aG [] J J O (fun hg8=>bc J) J (aG [(56,_)] J J ⟨J,O⟩ (fun hg9=>bc J) J (aG [(56,_),(57,_)] J J ⟨J,J,O⟩ (fun hg10=>eg (j:=i2+m) underlying9 J J J (by have q:=bW hg10;omega)) J (jm [(56,_),(57,_),(58,_)] J J ⟨J,J,J,O⟩ (fun hg11=>fh (xs:= [.tmp 58]) (mZ _) CM [] [] [] J J J) J (aP (bH J J J) (aa (ai J (fun h12=> ?_) (fun h12=> ?_)))))))))))))
     ·obtain⟨hm0,hmd⟩:=HI h12;have hmd:jT (jX s (i2+m))=true:=hmd;have hmb:=G3 hmd;have hnb:=FH s i2 m n3.2;refine az (aB (ap (ad J (aw J J (fG (c:=10*(nI s i2 m).1) (Be (by omega) (by omega))) (ad J (ad J (aP (eg (j:=i2+m) underlying9 J J J (by omega)) (aw J J (gu (c:=jX s (i2+m)-48) (show IntKind.u8.wrap (jX s (i2+m)-48)=_ from Eu (by omega) (by omega))) (aP (cC underlying5 underlying225 J (c:=jX s (i2+m)-48) (Be (by omega) (by omega))) (aw J J (cw (c:=10*(nI s i2 m).1+(jX s (i2+m)-48)) (Be (by omega) (by omega))) (ak J (aa (bx (X:=Unit) (fun _=>True) (fun _=> [(0,Sg s),(3,sv v),(4,I6 (i2:Int)),(5,Pt b5),(6,I6 ((i2+m:Nat):Int)),(7,.int .u64 (nI s i2 (m+1)).1)]) (fun _=> [(40,own 197 5 ly (sv v) acc),(5,bh b5 197 [I6 1,Sg oNil,I3 (0),.bool ((nI s i2 (m+1)).2),I6 (i2:Int)])]) (fun _=> []) ?_ (fun _ _=> ?_))))))))))))))
      ·refine ap (ad J (aw J J gI (aa (ai J (fun h13=> ?_) (fun h13=> ?_)))))
       ·(try simp only [bj]at h13);have hge:10*(nI s i2 m).1+(jX s (i2+m)-48)≥4294967296:=h13;refine ap (aC Cp J (aA (k:=5) t4 J J J J J J J J (aa (am (ak J (aa (aJ () O (by rw [KX hge];rfl) (by rw [KX hge];rfl) J)))))))
       ·(try simp only [bj]at h13);have hge:¬10*(nI s i2 m).1+(jX s (i2+m)-48)≥4294967296:=by omega
        refine az (aJ () O (by rw [KY hge];rfl) (by rw [KY hge];rfl) J)
      ·refine am (ad J (aw J J aO (ak J (aa ?_))));refine aJ (m+1) ⟨⟨by omega,fun q h=>by
        by_cases hq:q=m
        ·subst hq;exact hmd
        ·exact n3.2 q (by omega)⟩,by omega⟩ rfl rfl rfl
     ·have hmx:¬(i2+m<s.size∧jT (jX s (i2+m))=true):=fun q=>HJ h12 ⟨by omega,q.2⟩
      have hsd:=vW (p:=jT) (s:=s) (i:=i2) (g:=s.size-i2) (j:=i2+m) (by omega) (by omega) n3.1 (fun q h1 h2=>by have:=n3.2 (q-i2) (by omega);rwa [show i2+(q-i2)=q by omega]at this) hmx;refine bF (am (ad J (aP (cC underlying225 underlying41 J (c:=wU (nI s i2 m).1) J) (aC Cq J (aA (k:=5) dm J J J J J J J J (aa ?_))))));have htk:=Ik Au hsd;refine aJ () O (by rw [htk];rfl) (by rw [htk];rfl) J
    ·have Au:jT (jX s i2)=false:=h7;refine ap (ad J (ad J (aP (eg (j:=i2) underlying9 J J J (by omega)) (db (xs:= [.tmp 80]) (mN _) CN [] [] [] J J J (fun _ _=>ak J (aa (ai J (fun h14=> ?_) (fun h14=> ?_))))))))
     ·have hl1:oH (jX s i2)=true:=h14;refine a_ (aB ?_);refine bC (X:=Nat) (fun j2=>i2≤j2∧j2≤s.size∧∀q,i2≤q→q<j2→tT (jX s q)=true) (fun j2=> [(0,Sg s),(3,sv v),(4,I6 (i2:Int)),(5,Pt b5),(6,I6 (j2:Int))]) (fun j2=> [(40,own 197 5 ly (sv v) acc),(5,bh b5 197 [I6 0,Sg oNil,I3 (0),.bool (false),I6 (i2:Int)])]) (fun j2=> []) (fun j2=>s.size-j2) i2 ⟨bX _,by omega,fun q h1 h2=>by omega⟩ J J J (fun j2 n4=> ?_);refine aT (ad J (ad J (aP (cT underlying9 J) (aw J J cr (ad J (aG [] J J O (fun hg15=>bc J) J (aG [(87,_)] J J ⟨J,O⟩ (fun hg16=>bc J) J (aG [(87,_),(88,_)] J J ⟨J,J,O⟩ (fun hg17=>eg (j:=j2) underlying9 J J J (by have q:=bW hg17;omega)) J (jm [(87,_),(88,_),(89,_)] J J ⟨J,J,J,O⟩ (fun hg18=>fh (xs:= [.tmp 89]) (mN _) CN [] [] [] J J J) J (aG [(87,_),(88,_),(89,_),(90,_)] J J ⟨J,J,J,J,O⟩ (fun hg19=>bc J) J (cD [] [(87,_),(88,_),(89,_),(90,_),(91,_)] J J O ⟨J,J,J,J,J,O⟩ (fun hg20 hg20'=>bc J) J (cD [(92,_)] [(87,_),(88,_),(89,_),(90,_),(91,_)] J J ⟨J,O⟩ ⟨J,J,J,J,J,O⟩ (fun hg21 hg21'=>bc J) J (cD [(92,_),(93,_)] [(87,_),(88,_),(89,_),(90,_),(91,_)] J J ⟨J,J,O⟩ ⟨J,J,J,J,J,O⟩ (fun hg22 hg22'=>eg (j:=j2) underlying9 J J J (by have q:=bW hg22;omega)) J (Fj [(92,_),(93,_),(94,_)] [(87,_),(88,_),(89,_),(90,_),(91,_)] J J ⟨J,J,J,O⟩ ⟨J,J,J,J,J,O⟩ (fun hg23 hg23'=>fh (xs:= [.tmp 94]) (mZ _) CM [] [] [] J J J) J (aG [(87,_),(88,_),(89,_),(90,_),(91,_)] J J ⟨J,J,J,J,J,O⟩ (fun hg24=>eL J J J (by first|exact dL|exact ef|exact dc hg24|exact dA hg24|rfl)) J (aP (bH J J J) (aa ?_)))))))))))))))));refine ai J (fun h25=> ?_) (fun h25=> ?_)
      ·obtain⟨hm0,hmd⟩:=HI h25;have hmd:tT (jX s j2)=true:=hmd;refine az (aB (am (ad J (aw J J aO (ak J (aa ?_))))));refine aJ (j2+1) ⟨⟨by omega,by omega,fun q h1 h2=>by
        by_cases hq:q=j2
        ·subst hq;exact hmd
        ·exact n4.2.2 q h1 (by omega)⟩,by omega⟩ rfl rfl rfl
      ·have hmx:¬(j2<s.size∧tT (jX s j2)=true):=fun q=>HJ h25 ⟨by omega,q.2⟩
       have hsl:=vW (p:=tT) (s:=s) (i:=i2) (g:=s.size-i2) (j:=j2) (by omega) n4.1 n4.2.1 n4.2.2 hmx;refine bF (ap (aC eC J (aA (k:=5) t3 J J J J J J J J (aa (a_ (bJ [101,102,103,104,105,106,8] _ J (aW (V:= [(0,101,_),(1,102,_),(2,103,_),(3,104,_)]) [0,1,2,3] 4 [4] [] (fun v105=> []) J J (aD J J (aD J J (aD J J (ac J (kz underlying9 J J J (by omega) (by omega) (by omega)) av)))) J J J J J J J J J J J (fun _ _=>J) J (bB (xs:= []) yh LC [] [] [105]) (fun v105 _=>aW [0,1,2,3] 5 [5,4,3,2,1,0] [6] (fun _=> [(6,8,_)]) J J (aD J J (aD J J (aD J J (ac J (kz underlying9 J J J (by omega) (by omega) (by omega)) av)))) J J J J J J J J J J J (fun _ _=>J) J (fh (xs:= [.tmp 104,.tmp 105]) (m7 _ v105 ul (by decide)) A2 [] [(true,105)] [] J J J) (fun _ _=>bl [6] J J (ac J (cA J) av) J J J (bx (X:=Unit) (fun _=>True) (fun _=> [(0,Sg s),(3,sv v),(4,I6 (i2:Int)),(5,Pt b5),(6,I6 (j2:Int))]) (fun _=> [(40,own 197 5 ly (sv v) acc),(5,bh b5 197 [I6 (if cn (s.extract i2 j2) ul=true then 3 else 2),Sg oNil,I3 (0),.bool (false),I6 (i2:Int)])]) (fun _=> []) ?_ (fun _ _=> ?_)))))))))))
       ·refine ap (ad J (aa (ai J (fun h26=> ?_) (fun h26=> ?_))))
        ·have hkw:cn (s.extract i2 j2) ul=true:=h26;refine am (aC eC J (aA (k:=5) t3 J J J J J J J J (aa (aJ () O J (by rw [ar hkw];rfl) J))))
        ·have hkw:¬cn (s.extract i2 j2) ul=true:=by have q:cn (s.extract i2 j2) ul=false:=h26;rw [q];decide
         refine az (aJ () O J (by rw [ae hkw];rfl) J)
       ·refine ap (ad J (ad J (aw J J ew (aw J J ec (aa (ai J (fun h27=> ?_) (fun h27=> ?_)))))))
        ·(try simp only [bj]at h27);have hlong:(j2:Int)-(i2:Int)>12:=h27;refine am (aC eC J (aA (k:=5) t3 J J J J J J J J (aa ?_)));have htk:=EJ (by rw [Au];decide) hl1 hsl;rw [ar hlong]at htk;refine aJ () O (by rw [htk];rfl) (by rw [htk];rfl) J
        ·(try simp only [bj]at h27);have hlong:¬(j2:Int)-(i2:Int)>12:=by omega
         refine az ?_;have htk:=EJ (by rw [Au];decide) hl1 hsl;rw [ae hlong]at htk;refine aJ () O (by rw [htk];rfl) (by rw [htk];rfl) J
     ·have hl1:oH (jX s i2)=false:=h14;have hsg:=rh (s.extract i2 s.size) sgL;rw [ByteArray.size_extract]at hsg;refine ap (aC eC J (aA (k:=5) t3 J J J J J J J J (aF J (ad J (ad J (ad J (aP (uc underlying9 J J (by omega) (by omega)) (db (xs:= [.tmp 37]) (Dh _) Q1 [] [] [] J J J (fun _ _=>aP (cT underlying9 J) ?_)))))))));refine sE (aR J J (cw (c:=((i2+(kL (s.extract i2 s.size) sgL).size:Nat):Int)) (show IntKind.i64.wrap ((i2:Int)+((kL (s.extract i2 s.size) sgL).size:Int))=_ from by rw [bU (by omega)];omega))) J ?_;refine ak J (aF J (ad J (ad J (aw J J bn (aa (ai J (fun h28=> ?_) (fun h28=> ?_)))))))
      ·(try simp only [bj]at h28);have hsz:(kL (s.extract i2 s.size) sgL).size=0:=by omega
       refine am (aC eC J (aA (k:=5) t3 J J J J J J J J (aa ?_)));have htk:=EI (by rw [Au];decide) (by rw [hl1];decide);rw [ar hsz]at htk;refine aJ () O (by rw [htk];rfl) (by rw [htk];rfl) J
      ·(try simp only [bj]at h28);have hsz:¬(kL (s.extract i2 s.size) sgL).size=0:=by omega
       refine az ?_;have htk:=EI (by rw [Au];decide) (by rw [hl1];decide);rw [ae hsz]at htk;refine aJ () O (by rw [htk];rfl) (by rw [htk];rfl) J
   ·refine ap (ad J (ad J (ad J (aP (kz underlying9 J J J (by omega) (by omega) (by omega)) (aC el J (aA (k:=5) t9 J J J J J J J J (aF J (ad J (aP (aM eZ J J J (aX (k:=5) J)) (bq ly (vS s i2) underlying192 eZ J (by decide) (by decide) J J J J fun v121=>cM 40 underlying192 eZ J (by decide) (fun _=>J) (fun _=>J) J J J (be (k:=121) J) (by first|omega|(simp;done)|(simp;omega)) (by unfold maxLen;first|omega|(simp;done)|(simp;omega)) J fun v122=>ak J (aa (aT ?_))))))))))));refine aC eC J (aQ 5 t3 J J J J (aw J J bn (aa (ai J (fun h29=> ?_) (fun h29=> ?_)))))
    ·(try simp only [bj]at h29);have hrr:=Im hg hsb he h29;subst hrr;refine ap (ad J (ak J (aa (ax (aH v122 O J (bQ (aL J)) J [40] [] J J J)))))
    ·(try simp only [bj]at h29);have hk4:¬(gM s i2).k=4:=h29;obtain⟨g1,hg1⟩:=L6 hg hsb he hk4;have htj:=L5 hi3 hk4;refine az (am (ad J (ak J (aa ?_))));refine aJ ((gM s i2).j,acc++ [vS s i2],v122) ⟨⟨⟨g1,hg1⟩,htj.2,by rw [bG];show acc.length+1≤(gM s i2).j;omega⟩,by show s.size-(gM s i2).j<s.size-i;omega⟩ J J J
def rR(vt:SV)(i:Nat):List Value:= [sv vt,I6 (i:Int),I6 0,I6 0]
def eH(t:Tk)(x:Ba):Bool:=decide (t.k=3)&&(t.s==x)
theorem fY{α:Type}{l:List α}{i:Nat}{x:α}(h:l[i]?=some x):i<l.length:=(cJ.1 h).1
theorem xO(rd:Nat)(vt:SV)(ts:List Tk)(hts:ts.length≤20000)(i:Nat)(t:Tk)(hx:ts[i]?=some t)(x:Ba):
  bi prog 141 [Pt rd,Sg x] [bh rd 195 (rR vt (i))] [sl 5 ly (sv vt) ts] (.bool (eH t x)) [bh rd 195 (rR vt (i))]:=by
 refine aI func141 J ntmps141 J fun w0 M H=> ?_
 have hil:=fY hx;refine ap (ak J (aa (a_ ?_)));refine bJ [6,7,8,9,10,11,12,13,14,15,5] _ J (aW (V:= [(0,6,_),(1,7,_),(2,8,_),(3,9,_),(4,10,_),(5,11,_),(6,12,_),(7,13,_),(8,14,_),(9,15,_)]) [0,1,2,3,4,5,6,7,8,9] 10 [10] [] (fun b5=> []) J J (aD J J (ac J (au J) (ac J (ag gH J) (ac J (ah pI J J (ay (k:=0) J J)) (aD J J (ac J (au J) (ac J (ag ch J) (ac J (ah t3 J J (ay (k:=0) J J)) (ac J (aN (j:=i) underlying192 eZ J J (aK (k:=0) J) (by first|rfl|omega) (by first|omega|(simp;done)|(simp;omega))) (ac J (aM eZ J J J (bA (aK (k:=0) J) (by intro _;rfl) hx (by rfl))) av)))))))))) J J J J J J J J J J J (fun _ _=>J) J (dV eZ J) (fun b5 _=>bE [0,1,2,3,4,5,6,7,8,9] 11 [11,10,9,8,7,6,5,4,3,2,1,0] [] (fun _=> []) J J (aD J J (ac J (au J) (ac J (ag gH J) (ac J (ah pI J J (ay (k:=0) J J)) (aD J J (ac J (au J) (ac J (ag ch J) (ac J (ah t3 J J (ay (k:=0) J J)) (ac J (aN (j:=i) underlying192 eZ J J (aK (k:=0) J) (by first|rfl|omega) (by first|omega|(simp;done)|(simp;omega))) (ac J (aM eZ J J J (bA (aK (k:=0) J) (by intro _;rfl) hx (by rfl))) av)))))))))) J J J J J J J J J (fun _ _=>J) J (bD (k:=5) eZ J J J J J J) (fun _ _=>bl [] J J av J J J ?_)));refine ap (ad J (bI J (aC iS J (aQ 0 pr J J J J (aw J J bn (ad J (aG [] J J O (fun hg1=>ag eC J) J (aG [(22,_)] J J ⟨J,O⟩ (fun hg2=>ah t3 J J (ay (k:=5) J J)) J (aG [(22,_),(23,_)] J J ⟨J,J,O⟩ (fun hg3=>aR J J bn) J (aP (bH J J J) (ad J (aG [] J J O (fun hg4=>ag el J) J (aG [(27,_)] J J ⟨J,O⟩ (fun hg5=>ah t9 J J (ay (k:=5) J J)) J (aG [(27,_),(28,_)] J J ⟨J,J,O⟩ (fun hg6=>bc J) J (aG [(27,_),(28,_),(29,_)] J J ⟨J,J,J,O⟩ (fun hg7=>aR J J cW) J (aP (bH J J J) (ak J (aa ?_))))))))))))))))));refine ax (aH () O J (bQ (aL J)) J [0] [] J J J)
theorem gp(rd:Nat)(vt:SV)(ts:List Tk)(hts:ts.length≤20000)(i:Nat)(t:Tk)(hx:ts[i]?=some t)(x:Ba):
  bi prog 111 [Pt rd,Sg x] [bh rd 195 (rR vt (i))] [sl 5 ly (sv vt) ts] (.bool (eH t x)) [bh rd 195 (rR vt (if eH t x=true then i+1 else i))]:=by
 refine aI func111 J ntmps111 J fun w0 M H=> ?_
 have hil:=fY hx;refine ap (ak J (aF J (ad J (ad J (aj (xs:= [.tmp 6,.tmp 7]) (xO rd vt ts hts i t hx x) Lz [0] [(false,0)] [0] (fun _ _=>ak J (aa (aT (ad J (aa (ai J (fun h1=> ?_) (fun h1=> ?_))))))))))))
 ·have hq:eH t x=true:=h1;rw [ar hq];refine am (ad J (bI J (aC ch J (aQ 0 t3 J J J J (aw J J (cw (c:=((i+1:Nat):Int)) (by rw [bU (by omega)];omega)) (bI J (aC ch J (aA (k:=0) (us:= [I6 ((i+1:Nat):Int)]) (c':=rR vt (i+1)) t3 J J J J J J J J (aF J (ad J (ak J (aa (ax (aH () O J (bQ (aL J)) J [0] [] J J J))))))))))))))
 ·have hq:¬eH t x=true:=by have q:eH t x=false:=h1;rw [q];decide
  rw [ae hq];refine az (ap (ad J (ak J (aa (ax (aH () O J (bQ (aL J)) J [0] [] J J J))))))
theorem dP(rd:Nat)(vt:SV)(ts:List Tk)(hts:ts.length≤20000)(i:Nat)(t:Tk)(hx:ts[i]?=some t)(x:Ba)(hm:eH t x=true):
  bi prog 109 [Pt rd,Sg x] [bh rd 195 (rR vt (i))] [sl 5 ly (sv vt) ts] (.tuple #[]) [bh rd 195 (rR vt (i+1))]:=by
 refine aI func109 J ntmps109 J fun w0 M H=>ap (ad J (ad J (aj (xs:= [.tmp 5,.tmp 6]) (gp rd vt ts hts i t hx x) qN [0] [(false,0)] [0] (fun _ _=> ?_))))
 rw [ar hm];refine ak J (aF J (ad J (aP (cz J) (aa (ai J (fun h1=> ?_) (fun h1=> ?_))))))
 ·(have q:=h1;rw [hm]at q;cases q)
 ·(try simp only [bj]at h1);refine az (cm () O J gn J [0] [] J J J)
theorem nF(rd:Nat)(vt:SV)(ts:List Tk)(hts:ts.length≤20000)(i:Nat)(t:Tk)(hx:ts[i]?=some t)(hk:t.k=2):
  bi prog 110 [Pt rd] [bh rd 195 (rR vt (i))] [sl 5 ly (sv vt) ts] (Sg t.s) [bh rd 195 (rR vt (i+1))]:=by
 refine aI func110 J ntmps110 J fun w0 M H=> ?_
 have hil:=fY hx;refine ap (ak J (aa (a_ ?_)));refine bJ [4,5,6,7,8,9,10,11,12,13,3] _ J (aW (V:= [(0,4,_),(1,5,_),(2,6,_),(3,7,_),(4,8,_),(5,9,_),(6,10,_),(7,11,_),(8,12,_),(9,13,_)]) [0,1,2,3,4,5,6,7,8,9] 10 [10] [] (fun b3=> []) J J (aD J J (ac J (au J) (ac J (ag gH J) (ac J (ah pI J J (ay (k:=0) J J)) (aD J J (ac J (au J) (ac J (ag ch J) (ac J (ah t3 J J (ay (k:=0) J J)) (ac J (aN (j:=i) underlying192 eZ J J (aK (k:=0) J) (by first|rfl|omega) (by first|omega|(simp;done)|(simp;omega))) (ac J (aM eZ J J J (bA (aK (k:=0) J) (by intro _;rfl) hx (by rfl))) av)))))))))) J J J J J J J J J J J (fun _ _=>J) J (dV eZ J) (fun b3 _=>bE [0,1,2,3,4,5,6,7,8,9] 11 [11,10,9,8,7,6,5,4,3,2,1,0] [] (fun _=> []) J J (aD J J (ac J (au J) (ac J (ag gH J) (ac J (ah pI J J (ay (k:=0) J J)) (aD J J (ac J (au J) (ac J (ag ch J) (ac J (ah t3 J J (ay (k:=0) J J)) (ac J (aN (j:=i) underlying192 eZ J J (aK (k:=0) J) (by first|rfl|omega) (by first|omega|(simp;done)|(simp;omega))) (ac J (aM eZ J J J (bA (aK (k:=0) J) (by intro _;rfl) hx (by rfl))) av)))))))))) J J J J J J J J J (fun _ _=>J) J (bD (k:=3) eZ J J J J J J) (fun _ _=>bl [] J J av J J J ?_)));refine aT (ad J (bI J (aC iS J (aQ 0 pr J J J J (aw J J eD (ad J (aG [] J J O (fun hg1=>ag eC J) J (aG [(20,_)] J J ⟨J,O⟩ (fun hg2=>ah t3 J J (ay (k:=3) J J)) J (aG [(20,_),(21,_)] J J ⟨J,J,O⟩ (fun hg3=>aR J J eD) J (aP (bH J J J) (aa (ai J (fun h4=> ?_) (fun h4=> ?_)))))))))))))
 ·(exfalso;have q:=h4;rw [hk]at q;revert q;decide)
 ·(try simp only [bj]at h4);refine az (ap (ad J (bI J (aC ch J (aQ 0 t3 J J J J (aw J J (cw (c:=((i+1:Nat):Int)) (by rw [bU (by omega)];omega)) (bI J (aC ch J (aA (k:=0) (us:= [I6 ((i+1:Nat):Int)]) (c':=rR vt (i+1)) t3 J J J J J J J J (aF J (aC el J (aQ 3 t9 J J J J (ak J (aa (ax (aH () O J (bQ (aL J)) J [0] [] J J J))))))))))))))))
abbrev lvT:List (List Ba):=rlv
def Ee:Ba:=⟨#[40]⟩
def lQ:Ba:=⟨#[41]⟩
def Sw:Ba:=⟨#[91]⟩
def Su:Ba:=⟨#[93]⟩
def Of:Ba:=⟨#[44]⟩
def tU:Ba:=⟨#[109,101,109]⟩
def OJ:Ba:=⟨#[105,110]⟩
def oB(t:Tk)(k:Nat):Bool:=decide (t.k=3)&&cn t.s (lvT.getD k [])
def uB(t:Tk):Bool:=decide (t.k=3)&&((t.s==dR) || (t.s==sK) || (t.s==ug))
def nB(t:Tk):Bool:=decide (t.k=1)&& !t.bad
def ze(ts:List Tk)(i:Nat)(x:Ba):Bool:=match ts[i]? with
 | none=>false
 | some t=>eH t x
mutual
def pL(ts:List Tk):Nat→Nat→Nat→Option (Px×Nat)
 | 0,_,_=>none
 | g+1,k,i=>if k=8 then pU ts g i else match pL ts g (k+1) i with
  | none=>none
  | some (p,j)=>pO ts g k p j
def pO(ts:List Tk):Nat→Nat→Px→Nat→Option (Px×Nat)
 | 0,_,_,_=>none
 | g+1,k,p,i=>match ts[i]? with
  | none=>none
  | some t=>if oB t k=true then(match pL ts g (k+1) (i+1)with
   | none=>none
   | some (q,j)=>pO ts g k (.mk 7 0 t.s [p,q]) j)else some (p,i)
def pU(ts:List Tk):Nat→Nat→Option (Px×Nat)
 | 0,_=>none
 | g+1,i=>match ts[i]? with
  | none=>none
  | some t=>if uB t=true then(match pU ts g (i+1)with
   | none=>none
   | some (p,j)=>some (.mk 6 0 t.s [p],j))else pR ts g i
def pR(ts:List Tk):Nat→Nat→Option (Px×Nat)
 | 0,_=>none
 | g+1,i=>match ts[i]? with
  | none=>none
  | some t=>if nB t=true then some (.mk 1 t.n oNil [],i+1)else
   if t.k=2 then(match ts[i+1]? with
    | none=>none
    | some u=>if eH u Ee=true then(match pA ts g (i+2)with
     | none=>none
     | some (ps,j)=>some (.mk 3 0 t.s ps,j))else some (.mk 2 0 t.s [],i+1))else
   if eH t tU=true then(if ze ts (i+1) Sw=true then(match pL ts g 0 (i+2)with
    | none=>none
    | some (p,j)=>if ze ts j Su=true then some (.mk 4 0 oNil [p],j+1)else none)else none)else
   if eH t OJ=true then some (.mk 5 0 oNil [],i+1)else
   if eH t Ee=true then(match pL ts g 0 (i+1)with
    | none=>none
    | some (p,j)=>if ze ts j lQ=true then some (p,j+1)else none)else none
def pA(ts:List Tk):Nat→Nat→Option (List Px×Nat)
 | 0,_=>none
 | g+1,i=>match ts[i]? with
  | none=>none
  | some t=>if eH t lQ=true then some ([],i+1)else pE ts g [] i
def pE(ts:List Tk):Nat→List Px→Nat→Option (List Px×Nat)
 | 0,_,_=>none
 | g+1,acc,i=>match pL ts g 0 i with
  | none=>none
  | some (p,j)=>match ts[j]? with
   | none=>none
   | some t=>if eH t lQ=true then some (acc++ [p],j+1)else if eH t Of=true then pE ts g (acc++ [p]) (j+1)else none
end
section
variable(rd:Nat)(vt:SV)(ts:List Tk)
def RB(g:Nat):Prop:=∀(k i:Nat)(p:Px)(j:Nat),k≤8→pL ts g k i=some (p,j)→Spec prog 175 [Pt rd,I6 (k:Int)] [bh rd 195 (rR vt i)] [sl 5 ly (sv vt) ts] (X:=Tx) (fun x=>lW x=p) (fun x=>xV x) (fun x=> [bh rd 195 (rR vt j),ce x.v x.kids]) (fun _=> [])
def TJ(g:Nat):Prop:=∀(i:Nat)(p:Px)(j:Nat),pU ts g i=some (p,j)→Spec prog 192 [Pt rd] [bh rd 195 (rR vt i)] [sl 5 ly (sv vt) ts] (X:=Tx) (fun x=>lW x=p) (fun x=>xV x) (fun x=> [bh rd 195 (rR vt j),ce x.v x.kids]) (fun _=> [])
def T8(g:Nat):Prop:=∀(i:Nat)(p:Px)(j:Nat),pR ts g i=some (p,j)→Spec prog 205 [Pt rd] [bh rd 195 (rR vt i)] [sl 5 ly (sv vt) ts] (X:=Tx) (fun x=>lW x=p) (fun x=>xV x) (fun x=> [bh rd 195 (rR vt j),ce x.v x.kids]) (fun _=> [])
def T9(g:Nat):Prop:=∀(i:Nat)(ps:List Px)(j:Nat),pA ts g i=some (ps,j)→Spec prog 210 [Pt rd] [bh rd 195 (rR vt i)] [sl 5 ly (sv vt) ts] (X:=SV×List Tx) (fun x=>g8 x.2=ps) (fun x=>sv x.1) (fun x=> [bh rd 195 (rR vt j),ce x.1 x.2]) (fun _=> [])
end
theorem MB{ts:List Tk}{g i j:Nat}{p:Px}(h:pU ts (g+1) i=some (p,j)):∃t,ts[i]?=some t∧(uB t=true→∃q,pU ts g (i+1)=some (q,j)∧p= .mk 6 0 t.s [q])∧(uB t=false→pR ts g i=some (p,j)):=by
 unfold pU at h;cases hx:ts[i]? with
 | none=>rw [hx]at h;cases h
 | some t=>
  rw [hx]at h;dsimp only at h;refine⟨t,J,fun hu=> ?_,fun hu=> ?_⟩
  ·rw [ar hu]at h;split at h
   ·cases h
   ·rename_i q j' hq;injection h with h;injection h with h1 h2;subst h2;exact⟨q,hq,h1.symm⟩
  ·rw [ae (by rw [hu];decide)]at h;exact h
theorem zt(rd:Nat)(vt:SV)(ts:List Tk)(hts:ts.length≤20000)(g:Nat)(hU:TJ rd vt ts g)(hR:T8 rd vt ts g)(i:Nat)(p:Px)(j:Nat)(h:pU ts (g+1) i=some (p,j)):
  Spec prog 192 [Pt rd] [bh rd 195 (rR vt (i))] [sl 5 ly (sv vt) ts] (X:=Tx) (fun x=>lW x=p) (fun x=>xV x) (fun x=> [bh rd 195 (rR vt (j)),ce x.v x.kids]) (fun _=> []):=by
 refine aI func192 J ntmps192 J fun w0 M H=> ?_
 obtain⟨t,hx,hT,hF⟩:=MB h;have hil:=fY hx;refine ap (aY cl J J fun b2=>aa (a_ ?_));refine bJ [4,5,6,7,8,9,10,11,12,13,3] _ J (aW (V:= [(0,4,_),(1,5,_),(2,6,_),(3,7,_),(4,8,_),(5,9,_),(6,10,_),(7,11,_),(8,12,_),(9,13,_)]) [0,1,2,3,4,5,6,7,8,9] 10 [10] [] (fun b3=> []) J J (aD J J (ac J (au J) (ac J (ag gH J) (ac J (ah pI J J (ay (k:=0) J J)) (aD J J (ac J (au J) (ac J (ag ch J) (ac J (ah t3 J J (ay (k:=0) J J)) (ac J (aN (j:=i) underlying192 eZ J J (aK (k:=0) J) (by first|rfl|omega) (by first|omega|(simp;done)|(simp;omega))) (ac J (aM eZ J J J (bA (aK (k:=0) J) (by intro _;rfl) hx (by rfl))) av)))))))))) J J J J J J J J J J J (fun _ _=>J) J (dV eZ J) (fun b3 _=>bE [0,1,2,3,4,5,6,7,8,9] 11 [11,10,9,8,7,6,5,4,3,2,1,0] [] (fun _=> []) J J (aD J J (ac J (au J) (ac J (ag gH J) (ac J (ah pI J J (ay (k:=0) J J)) (aD J J (ac J (au J) (ac J (ag ch J) (ac J (ah t3 J J (ay (k:=0) J J)) (ac J (aN (j:=i) underlying192 eZ J J (aK (k:=0) J) (by first|rfl|omega) (by first|omega|(simp;done)|(simp;omega))) (ac J (aM eZ J J J (bA (aK (k:=0) J) (by intro _;rfl) hx (by rfl))) av)))))))))) J J J J J J J J J (fun _ _=>J) J (bD (k:=3) eZ J J J J J J) (fun _ _=>bl [] J J av J J J ?_)));refine aT (ad J (bI J (aC iS J (aQ 0 pr J J J J (aw J J bn (ad J (aG [] J J O (fun hg1=>ag eC J) J (aG [(20,_)] J J ⟨J,O⟩ (fun hg2=>ah t3 J J (ay (k:=3) J J)) J (aG [(20,_),(21,_)] J J ⟨J,J,O⟩ (fun hg3=>aR J J bn) J (aP (bH J J J) (ad J (aG [] J J O (fun hg4=>ag el J) J (aG [(25,_)] J J ⟨J,O⟩ (fun hg5=>ah t9 J J (ay (k:=3) J J)) J (aG [(25,_),(26,_)] J J ⟨J,J,O⟩ (fun hg6=>aR J J cW) J (aG [(25,_),(26,_),(27,_)] J J ⟨J,J,J,O⟩ (fun hg7=>bc J) J (cD [] [(25,_),(26,_),(27,_),(28,_)] J J O ⟨J,J,J,J,O⟩ (fun hg8 hg8'=>ag el J) J (cD [(29,_)] [(25,_),(26,_),(27,_),(28,_)] J J ⟨J,O⟩ ⟨J,J,J,J,O⟩ (fun hg9 hg9'=>ah t9 J J (ay (k:=3) J J)) J ?_)))))))))))))))))
 refine cD [(29,_),(30,_)] [(25,_),(26,_),(27,_),(28,_)] J J ⟨J,J,O⟩ ⟨J,J,J,J,O⟩ (fun hg10 hg10'=>aR J J cW) J (aG [(25,_),(26,_),(27,_),(28,_)] J J ⟨J,J,J,J,O⟩ (fun hg11=>eL J J J (by first|exact dL|exact ef|exact dc hg11|exact dA hg11|rfl)) J (aG [(25,_),(26,_),(27,_),(28,_),(32,_)] J J ⟨J,J,J,J,J,O⟩ (fun hg12=>bc J) J (cD [] [(25,_),(26,_),(27,_),(28,_),(32,_),(33,_)] J J O ⟨J,J,J,J,J,J,O⟩ (fun hg13 hg13'=>ag el J) J (cD [(34,_)] [(25,_),(26,_),(27,_),(28,_),(32,_),(33,_)] J J ⟨J,O⟩ ⟨J,J,J,J,J,J,O⟩ (fun hg14 hg14'=>ah t9 J J (ay (k:=3) J J)) J (cD [(34,_),(35,_)] [(25,_),(26,_),(27,_),(28,_),(32,_),(33,_)] J J ⟨J,J,O⟩ ⟨J,J,J,J,J,J,O⟩ (fun hg15 hg15'=>aR J J cW) J (aG [(25,_),(26,_),(27,_),(28,_),(32,_),(33,_)] J J ⟨J,J,J,J,J,J,O⟩ (fun hg16=>eL J J J (by first|exact dL|exact ef|exact dc hg16|exact dA hg16|rfl)) J (aP (bH J J J) (aa (ai J (fun h17=> ?_) (fun h17=> ?_))))))))))
 ·have hq:uB t=true:=h17;obtain⟨pq,hu2,hpe⟩:=hT hq;refine ap (ad J (bI J (aC ch J (aQ 0 t3 J J J J (aw J J aO (bI J (aC ch J (aA (k:=0) (us:= [I6 ((i+1:Nat):Int)]) (c':=rR vt (i+1)) t3 J J J J J J J J (aa (a_ ?_))))))))));refine bJ [46,47,48,49,50,51] _ J (aW (V:= [(0,46,_),(1,47,_),(2,48,_)]) [0,1,2] 3 [3,2] [] (fun q=> []) J J (ac J (ag el J) (ac J (ah t9 J J (ay (k:=3) J J)) (aD J J av))) J J J J J J J J J J J (fun _ _=>J) J (fh (xs:= [.tmp 48]) (hU _ _ _ hu2) Li [0] [(false,0)] [0,49] J J J) (fun q hq=>aW [0,1] 4 [4,3,2] [5] (fun v50=> [(5,51,_)]) J J (ac J (ag el J) (ac J (ah t9 J J (ay (k:=3) J J)) av)) J J J J J J J J J J J (fun _ _=>J) J (dH dT q underlying59 cl J (by decide) (by decide) J J J) (fun v50 _=>bE [5,0,1] 6 [6,5,4,3,2,1,0] [] (fun _=> []) J J (ac J (aU (cs:=(dT (.mk 6 0 t.s v50 [q])).toArray) (parts:= [(0,.const (I6 6)),(2,.tmp 47),(3,.tmp 50)]) cl ky J (by kernel_rfl)) (ac J (ag el J) (ac J (ah t9 J J (ay (k:=3) J J)) av))) J J J J J J J J J (fun _ _=>J) J (bD (k:=2) cl J J J J J J) (fun _ _=>bl [] J J av J J J ?_))));refine ax (bz 60 [50,49] J ld (aH (.mk 6 0 t.s v50 [q]) (by rw [hpe,←hq];rfl) J (bQ (aV cl J J J (aX (k:=2) J))) J [0,60] [] J J J))
 ·have hq:uB t=false:=h17;refine az (ap (ad J (db (xs:= [.tmp 52]) (hR _ _ _ (hF hq)) Qq [0] [(false,0)] [0,53] J J J (fun q hq2=>aq (k:=2) cl J J J J J J (aa (ax (aH q hq2 J (bQ (aV cl J J J (aX (k:=2) J))) J [0,53] [] J J J)))))))
end Go.Proofs.YtedmdgbmdplifaaGreat
