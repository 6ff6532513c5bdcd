/-
  A part of the proof. Conditions are with the theorems.
-/
import Derived.Test.YtedmdgbmdplifaaGreatXFa
import Derived.Test.YtedmdgbmdplifaaGreatXFb
import Derived.Test.YtedmdgbmdplifaaGreatXFc
import Derived.Test.YtedmdgbmdplifaaGreatXFd
import Derived.Test.YtedmdgbmdplifaaGreatXFe
set_option maxHeartbeats 32000000
set_option maxRecDepth 100000
set_option linter.unusedSimpArgs false
set_option linter.unusedVariables false
namespace Go.Proofs.YtedmdgbmdplifaaGreat
open Go.RowKit Tryz
theorem Cz{e:Ge}(he:Gfine e):∀lev,lev≤3→U4 e lev
 | 0,h=>fun s vn hi=>rC e he 0 h (fun k hk=>by omega) s vn hi
 | lev+1,h=>fun s vn hi=>rC e he (lev+1) h (fun k hk=>(show lev=k by omega)▸Cz he lev (by omega)) s vn hi
theorem jc{t:Tx}{k n:Int}{nm:Ba}{ps:List Px}(h:iD t= .mk k n nm ps):∃v kids,t= .mk k n nm v kids∧gE kids=ps:=by
 cases t with
 | mk k2 n2 nm2 v kids=>
  rw [iD]at h;injection h with h1 h2 h3 h4;subst h1;subst h2;subst h3;exact⟨v,kids,J,h4⟩
theorem iS{ts:List Tx}(h:gE ts= []):ts= []:=by
 cases ts with
 | nil=>rfl
 | cons t r=>rw [gE]at h;cases h
theorem qU{ts:List Tx}{p:Px}{ps:List Px}(h:gE ts=p::ps):∃t r,ts=t::r∧iD t=p∧gE r=ps:=by
 cases ts with
 | nil=>rw [gE]at h;cases h
 | cons t r=>rw [gE]at h;injection h with h1 h2;exact⟨t,r,rfl,h1,h2⟩
theorem fJ{ts:List Tx}{p:Px}(h:gE ts= [p]):∃t,ts= [t]∧iD t=p:=by
 obtain⟨t,r,rfl,h1,h2⟩:=qU h;rw [iS h2];exact⟨t,J,h1⟩
theorem t8{ts:List Tx}{p q:Px}(h:gE ts= [p,q]):∃t u,ts= [t,u]∧iD t=p∧iD u=q:=by
 obtain⟨t,r,rfl,h1,h2⟩:=qU h;obtain⟨u,rfl,h3⟩:=fJ h2;exact⟨t,u,J,h1,h3⟩
theorem kA{t:Ty}{k:Int}{nm:Ba}{es:List Px}{bs ls:List Py}(h:C5 t= .mk k nm es bs ls):∃v xs vb b vl l,t= .mk k nm v xs vb b vl l∧gE xs=es∧dV b=bs∧dV l=ls:=by
 cases t with
 | mk k2 nm2 v xs vb b vl l=>
  rw [C5]at h;injection h with h1 h2 h3 h4 h5;subst h1;subst h2;exact⟨v,xs,vb,b,vl,l,J,h3,h4,h5⟩
theorem dG{ts:List Ty}(h:dV ts= []):ts= []:=by
 cases ts with
 | nil=>rfl
 | cons t r=>rw [dV]at h;cases h
theorem qT{ts:List Ty}{p:Py}{ps:List Py}(h:dV ts=p::ps):∃t r,ts=t::r∧C5 t=p∧dV r=ps:=by
 cases ts with
 | nil=>rw [dV]at h;cases h
 | cons t r=>rw [dV]at h;injection h with h1 h2;exact⟨t,r,rfl,h1,h2⟩
theorem ij{ts:List Ty}{p:Py}(h:dV ts= [p]):∃t,ts= [t]∧C5 t=p:=by
 obtain⟨t,r,rfl,h1,h2⟩:=qT h;rw [dG h2];exact⟨t,J,h1⟩
theorem oK:∀{a:List Py}{b:List Py}{ts:List Ty},dV ts=a++b→∃u v,ts=u++v∧dV u=a∧dV v=b
 | [],b,ts,h=>⟨[],ts,rfl,by rw [dV],h⟩
 | x::a,b,ts,h=>by
  obtain⟨t,r,rfl,h1,h2⟩:=qT h;obtain⟨u,v,rfl,h3,h4⟩:=oK h2;exact⟨t::u,v,J,by rw [dV,h1,h3],h4⟩
theorem xN:∀{a b:List Ty},GYs a→GYs b→GYs (a++b)
 | [],_,_,hb=>hb
 | _::_,_,ha,hb=>⟨ha.1,xN ha.2 hb⟩
theorem w7{k n:Int}{nm:Ba}{v:SV}(d:Nat)(hn:oW n)(hm:qz nm):GX (.mk k n nm v [])∧nX (.mk k n nm v [])≤5^(d+1):=
 ⟨⟨hn,hm,bn _,trivial⟩,by rw [nX,dD];exact Nat.one_le_pow _ _ (by decide)⟩
theorem Jk(d:Nat):5^(d+1+1)=5*5^(d+1)∧5≤5^(d+1):=by
 have h1:1≤5^d:=Nat.one_le_pow _ _ (by decide);have h2:5^(d+1)=5^d*5:=Nat.pow_succ ..;have h3:5^(d+1+1)=5^(d+1)*5:=Nat.pow_succ ..;omega
theorem F_{k n:Int}{nm:Ba}{v:SV}{d:Nat}{t:Tx}(hn:oW n)(hm:qz nm)(h:GX t∧nX t≤5^(d+1)):GX (.mk k n nm v [t])∧nX (.mk k n nm v [t])≤5^(d+1+1):=
 ⟨⟨hn,hm,by show 1≤1000000;decide,h.1,trivial⟩,by rw [nX,dD,dD];have:=Jk d;have:=h.2;omega⟩
theorem Mq{k n:Int}{nm:Ba}{v:SV}{d:Nat}{t u:Tx}(hn:oW n)(hm:qz nm)(h:GX t∧nX t≤5^(d+1))(h2:GX u∧nX u≤5^(d+1)):GX (.mk k n nm v [t,u])∧nX (.mk k n nm v [t,u])≤5^(d+1+1):=
 ⟨⟨hn,hm,by show 2≤1000000;decide,h.1,h2.1,trivial⟩,by rw [nX,dD,dD,dD];have:=Jk d;have:=h.2;have:=h2.2;omega⟩
theorem RO{x:Int}{j:Nat}(h:cL[j]?=some x):oW x:=by
 have h1:=bV h;simp only [cL,List.mem_cons,List.not_mem_nil,or_false]at h1;rcases h1 with rfl|rfl|rfl|rfl|rfl|rfl|rfl|rfl|rfl|rfl|rfl|rfl|rfl|rfl|rfl<;>decide
theorem Mo{x:Ba}{j:Nat}(h:rf[j]?=some x):qz x:=by
 have h1:=bV h;simp only [rf,List.mem_cons,List.not_mem_nil,or_false]at h1;rcases h1 with rfl|rfl|rfl<;>exact gt J
theorem Oo{x:Ba}{j:Nat}(h:biL[j]?=some x):qz x:=by
 have h1:=bV h;simp only [biL,List.mem_cons,List.not_mem_nil,or_false]at h1;rcases h1 with rfl|rfl|rfl|rfl|rfl|rfl|rfl|rfl|rfl|rfl|rfl|rfl|rfl|rfl|rfl|rfl<;>exact gt J
theorem tR{x:Ba}{j:Nat}(h:freshL[j]?=some x):qz x:=by
 have h1:=bV h;simp only [freshL,List.mem_cons,List.not_mem_nil,or_false]at h1;rcases h1 with rfl|rfl|rfl|rfl|rfl|rfl|rfl|rfl<;>exact gt J
def Nm(s:Gs):Prop:=∀x∈s.names,qz x
theorem Nm.same{s s':Gs}(h:Nm s)(k:s'.names=s.names):Nm s':=by unfold Nm;rw [k];exact h
def OX(c:Gc):Prop:=∀f∈c.fs,qz f.1∧f.2.length≤4
mutual
theorem GXr.gx{c:Gc}(hc:OX c):∀{d:Nat}{s s':Gs}{p:Px},GXr c d s p s'→Nm s→∀t,iD t=p→GX t∧nX t≤5^(d+1)
 | d,s,_,_,.nam hk h hn hj hx,hs,t,ht=>by
  obtain⟨v,kids,rfl,hkk⟩:=jc ht;cases iS hkk;exact w7 d nN (hs _ ((jv hk).1▸bV hx))
 | d,s,_,_,.inp hk,hs,t,ht=>by
  obtain⟨v,kids,rfl,hkk⟩:=jc ht;cases iS hkk;exact w7 d nN (gt J)
 | _,s,_,_,.mem hk h hp,hs,t,ht=>by
  obtain⟨v,kids,rfl,hkk⟩:=jc ht;obtain⟨t1,rfl,h1⟩:=fJ hkk;exact F_ nN (gt J) (hp.gx hc (hs.same (jv hk).1) t1 h1)
 | _,s,_,_,.una hk hj hx hp,hs,t,ht=>by
  obtain⟨v,kids,rfl,hkk⟩:=jc ht;obtain⟨t1,rfl,h1⟩:=fJ hkk;exact F_ nN (Mo hx) (hp.gx hc ((hs.same (jv hk).1).same (bN hj).1) t1 h1)
 | d+1,s,_,_,.call hk h hj hx hp,hs,t,ht=>by
  obtain⟨v,kids,rfl,hkk⟩:=jc ht;have hf:=hc _ (bV hx);obtain⟨h1,h2,h3⟩:=hp.gx hc ((hs.same (jv hk).1).same (bN hj).1) kids hkk;refine⟨⟨nN,hf.1,by omega,h1⟩,?_⟩;rw [nX];have:=Jk d;have h4:_*5^(d+1)≤4*5^(d+1):=Nat.mul_le_mul_right _ hf.2;omega
 | _,s,_,_,.bin hk h hj hx hp hq,hs,t,ht=>by
  obtain⟨v,kids,rfl,hkk⟩:=jc ht;obtain⟨t1,t2,rfl,h1,h2⟩:=t8 hkk;have hs2:=(hs.same (jv hk).1).same (bN hj).1;exact Mq nN (Oo hx) (hp.gx hc hs2 t1 h1) (hq.gx hc (hs2.same hp.keep.1) t2 h2)
 | d,s,_,_,.con hk h1 h3 h4 h5 h6 h7 h8 hj hx,hs,t,ht=>by
  obtain⟨v,kids,rfl,hkk⟩:=jc ht;cases iS hkk;exact w7 d (RO hx) (gt J)
theorem GKr.gx{c:Gc}(hc:OX c):∀{d n:Nat}{s s':Gs}{ps:List Px},GKr c d n s ps s'→Nm s→∀ts,gE ts=ps→GXs ts∧dD ts≤n*5^(d+1)∧ts.length=n
 | d,_,s,_,_,.nil,hs,ts,ht=>by
  cases iS ht;exact⟨O,by rw [dD];exact bn _,J⟩
 | d,n+1,s,_,_,.cons hp hq,hs,ts,ht=>by
  obtain⟨t,r,rfl,h1,h2⟩:=qU ht;obtain⟨a1,a2⟩:=hp.gx hc hs t h1;obtain⟨b1,b2,b3⟩:=hq.gx hc (hs.same hp.keep.1) r h2;refine⟨⟨a1,b1⟩,?_,by rw [aY,b3]⟩;rw [dD,Nat.succ_mul];omega
end
theorem GCr.gx{c:Gc}(hc:OX c){d:Nat}{f:Ba×List Ba}{s s':Gs}{p:Px}(hf:f∈c.fs)(h:GCr c d f s p s')(hs:Nm s)(t:Tx)(ht:iD t=p):GX t∧nX t≤5^(d+1+1):=by
 obtain⟨ps,h1,rfl⟩:=h;obtain⟨v,kids,rfl,hkk⟩:=jc ht;obtain⟨h1,h2,h3⟩:=h1.gx hc hs kids hkk;have h5:=hc f hf;refine⟨⟨nN,h5.1,by omega,h1⟩,?_⟩;rw [nX];have:=Jk d;have h4:f.2.length*5^(d+1)≤4*5^(d+1):=Nat.mul_le_mul_right _ h5.2;omega
def Se(s s':Gs)(m:Int)(ts:List Ty):Prop:=GYs ts∧(cv ts:Int)≤4000*(s.left-s'.left)+m∧Nm s'
theorem t7{k:Int}{nm:Ba}{v:SV}{t:Tx}{d:Nat}(hm:qz nm)(h:GX t∧nX t≤5^(d+1))(hd:d≤3){vb vl:SV}:GY (.mk k nm v [t] vb [] vl [])∧nY (.mk k nm v [t] vb [] vl [])≤626:=by
 refine⟨⟨hm,⟨by show 1≤1000000;decide,h.1,trivial⟩,⟨bn _,O⟩,bn _,O⟩,?_⟩;rw [nY,dD,dD,cv];have h5:5^(d+1)≤5^4:=Nat.pow_le_pow_right (by decide) (by omega);have:=h.2;omega
theorem no{s s':Gs}{t:Ty}(h:GY t∧nY t≤2000)(hl:s'.left≤s.left)(hn:Nm s'):Se s s' 4000 [t]:=by
 refine⟨⟨h.1,O⟩,?_,hn⟩;rw [cv,cv];have:=h.2;omega
mutual
theorem GYr.gy{c:Gc}(hc:OX c):∀{e:Nat}{s s':Gs}{o:List Py},GYr c e s o s'→GInv s→Nm s→∀ts,dV ts=o→Se s s' 0 ts∧ts.length≤10
 | _,s,s',_,.mk (s1:=s1) hj h,hi,hs,ts,ht=>by
  have k:=bN hj;obtain⟨⟨h1,h2,h3⟩,h4⟩:=h.gy hc (hi.same k) (hs.same k.1) ts ht;have:=pY (by decide) hj;exact⟨⟨h1,by rw [←k.2.1];exact h2,h3⟩,by omega⟩
theorem GLr.gy{c:Gc}(hc:OX c):∀{e n:Nat}{s s':Gs}{o:List Py},GLr c e n s o s'→GInv s→Nm s→∀ts,dV ts=o→Se s s' 0 ts∧ts.length≤2*n
 | _,_,s,_,_,.zero,hi,hs,ts,ht=>by
  cases dG ht;exact⟨⟨O,by rw [cv];omega,hs⟩,bn _⟩
 | _,_,s,_,_,.stop _,hi,hs,ts,ht=>by
  cases dG ht;exact⟨⟨O,by rw [cv];omega,hs⟩,bn _⟩
 | _,n+1,s,s3,_,.step (s1:=s1) (s2:=s2) hl hk h1 h2,hi,hs,ts,ht=>by
  obtain⟨u,v,rfl,hu,hv⟩:=oK ht;have hi2:GInv {s with left:=s.left-1}:=⟨hi.v0,hi.v8,hi.nm,by show s.left-1≤1000;have:=hi.lf;omega⟩
  have k:=bN hk;have hi3:=hi2.same k;have hs3:Nm s1:=Nm.same (s:={s with left:=s.left-1}) hs k.1;obtain⟨⟨a1,a2,a3⟩,a4⟩:=h1.gy hc hi3 hs3 u hu;obtain⟨⟨b1,b2,b3⟩,b4⟩:=h2.gy hc (h1.inv hi3).inv a3 v hv;refine⟨⟨xN a1 b1,?_,b3⟩,?_⟩
  ·rw [kS];have k2:s1.left=s.left-1:=k.2.1;omega
  ·rw [bD];omega
theorem G1r.gy{c:Gc}(hc:OX c):∀{e:Nat}{k:Int}{s s':Gs}{o:List Py},G1r c e k s o s'→GInv s→Nm s→∀ts,dV ts=o→Se s s' 4000 ts∧ts.length≤2
 | _,_,s,_,_,.var (s1:=s1) (x:=x) _ hx hv hp,hi,hs,ts,ht=>by
  obtain⟨t,rfl,hty⟩:=ij ht;obtain⟨v,xs,vb,b,vl,l,rfl,h1,h2,h3⟩:=kA hty;obtain⟨t1,rfl,e1⟩:=fJ h1;cases dG h2;cases dG h3;have hg:=hp.gx hc (s:={s with vars:=s.vars+1}) hs t1 e1;have hk:=hp.keep;have hy:=t7 (k:=1) (v:=v) (vb:=vb) (vl:=vl) (tR hx) hg (by decide);refine⟨no ⟨hy.1,by have:=hy.2;omega⟩ (by show s1.left≤s.left;rw [hk.2.1];exact Int.le_refl _) ?_,by show 1≤2;decide⟩;intro y hy;rcases List.mem_append.1 hy with hy|hy
  ·exact hs _ (hk.1▸hy)
  ·rw [List.mem_singleton.1 hy];exact tR hx
 | _,_,s,_,_,.set hn hj hx hp,hi,hs,ts,ht=>by
  obtain⟨t,rfl,hty⟩:=ij ht;obtain⟨v,xs,vb,b,vl,l,rfl,h1,h2,h3⟩:=kA hty;obtain⟨t1,rfl,e1⟩:=fJ h1;cases dG h2;cases dG h3;have kj:=bN hj;have hs1:=hs.same kj.1;have hg:=hp.gx hc hs1 t1 e1;have hk:=eb kj hp.keep;have hy:=t7 (k:=2) (v:=v) (vb:=vb) (vl:=vl) (hs _ (bV hx)) hg (by decide);exact⟨no ⟨hy.1,by have:=hy.2;omega⟩ (by rw [hk.2.1];exact Int.le_refl _) (hs.same hk.1),by show 1≤2;decide⟩
 | _,_,s,_,_,.put hk hp hq,hi,hs,ts,ht=>by
  obtain⟨t,rfl,hty⟩:=ij ht;obtain⟨v,xs,vb,b,vl,l,rfl,h1,h2,h3⟩:=kA hty;obtain⟨t1,t2,rfl,e1,h4⟩:=t8 h1;cases dG h2;cases dG h3;have hg1:=hp.gx hc hs t1 e1;have hg2:=hq.gx hc (hs.same hp.keep.1) t2 h4;have hk:=eb hp.keep hq.keep;refine⟨no ⟨⟨gt J,⟨by show 2≤1000000;decide,hg1.1,hg2.1,trivial⟩,⟨bn _,O⟩,bn _,O⟩,?_⟩ (by rw [hk.2.1];exact Int.le_refl _) (hs.same hk.1),by show 1≤2;decide⟩;rw [nY,dD,dD,dD,cv];have:=hg1.2;have:=hg2.2;omega
 | _,_,s,s4,_,.iff1 (s1:=s1) (s2:=s2) (s3:=s3) hp ha hj hb,hi,hs,ts,ht=>by
  obtain⟨t,rfl,hty⟩:=ij ht;obtain⟨v,xs,vb,b,vl,l,rfl,h1,h2,h3⟩:=kA hty;obtain⟨t1,rfl,e1⟩:=fJ h1;have hg1:=hp.gx hc hs t1 e1;have hi1:=hi.same hp.keep;have hs1:=hs.same hp.keep.1;obtain⟨⟨a1,a2,a3⟩,a4⟩:=ha.gy hc hi1 hs1 b h2;have kj:=bN hj;have hi2:=(ha.inv hi1).inv;have hi3:=hi2.same kj;obtain⟨⟨b1,b2,b3⟩,b4⟩:=hb.gy hc hi3 (a3.same kj.1) l h3;refine⟨⟨⟨⟨gt J,⟨by show 1≤1000000;decide,hg1.1,trivial⟩,⟨by omega,a1⟩,by omega,b1⟩,O⟩,?_,b3⟩,by show 1≤2;decide⟩;rw [cv,cv,nY,dD,dD];have:=hg1.2;have:=hp.keep.2.1;have:=kj.2.1;omega
 | _,_,s,s4,_,.iff0 (s1:=s1) (s2:=s2) hp ha hj _,hi,hs,ts,ht=>by
  obtain⟨t,rfl,hty⟩:=ij ht;obtain⟨v,xs,vb,b,vl,l,rfl,h1,h2,h3⟩:=kA hty;obtain⟨t1,rfl,e1⟩:=fJ h1;cases dG h3;have hg1:=hp.gx hc hs t1 e1;have hi1:=hi.same hp.keep;have hs1:=hs.same hp.keep.1;obtain⟨⟨a1,a2,a3⟩,a4⟩:=ha.gy hc hi1 hs1 b h2;have kj:=bN hj;refine⟨⟨⟨⟨gt J,⟨by show 1≤1000000;decide,hg1.1,trivial⟩,⟨by omega,a1⟩,bn _,O⟩,O⟩,?_,a3.same kj.1⟩,by show 1≤2;decide⟩;rw [cv,cv,nY,dD,dD,cv];have:=hg1.2;have:=hp.keep.2.1;have:=kj.2.1;omega
 | _,_,s,_,_,.whi (s1:=s1) (s2:=s2) (x:=x) (j:=j) hx hv hj ha,hi,hs,ts,ht=>by
  obtain⟨t,r,rfl,hty,hr⟩:=qT ht;obtain⟨u,rfl,hu⟩:=ij hr;obtain⟨v,xs,vb,b,vl,l,rfl,h1,h2,h3⟩:=kA hty;obtain⟨t1,rfl,e1⟩:=fJ h1;cases dG h2;cases dG h3;obtain⟨v',xs',vb',b',vl',l',rfl,h1',h2',h3'⟩:=kA hu;obtain⟨t1',rfl,e1'⟩:=fJ h1';cases dG h3';obtain⟨b1,b2,rfl,hb1,hb2⟩:=oK h2';obtain⟨t2,rfl,eb2⟩:=ij hb2;obtain⟨v3,xs3,vb3,b3,vl3,l3,rfl,g1,g2,g3⟩:=kA eb2;obtain⟨t3,rfl,eg1⟩:=fJ g1;cases dG g2;cases dG g3;obtain⟨v4,kids4,rfl,g4⟩:=jc eg1;obtain⟨t5,t6,rfl,g5,g6⟩:=t8 g4;obtain⟨v5,kids5,rfl,eg5⟩:=jc g5;cases iS eg5;obtain⟨v6,kids6,rfl,eg6⟩:=jc g6;cases iS eg6;obtain⟨v7,kids7,rfl,e7⟩:=jc e1;cases iS e7;obtain⟨v8,kids8,rfl,e8⟩:=jc e1';cases iS e8;have hm:=tR hx;have kj:=bN hj;have hjb:=pY (by decide) hj;have hi1:=hi.var hv;have hi2:=hi1.same kj;have hs2:Nm s1:=Nm.same (s:={s with vars:=s.vars+1}) hs kj.1;obtain⟨⟨a1,a2,a3⟩,a4⟩:=ha.gy hc hi2 hs2 b1 hb1;have hj0:oW j:=⟨hjb.1,by omega⟩
  have hn:GX (.mk 2 0 x v8 []):=⟨nN,hm,bn _,O⟩
  have hn5:GX (.mk 2 0 x v5 []):=⟨nN,hm,bn _,O⟩
  have hn6:GX (.mk 1 1 oNil v6 []):=⟨by decide,gt rfl,bn _,trivial⟩
  have hd:GX (.mk 7 0 dU v4 [.mk 2 0 x v5 [],.mk 1 1 oNil v6 []]):=⟨nN,gt J,by show 2≤1000000;decide,hn5,hn6,trivial⟩
  have hdy:GY (.mk 2 x v3 [.mk 7 0 dU v4 [.mk 2 0 x v5 [],.mk 1 1 oNil v6 []]] vb3 [] vl3 []):=⟨hm,⟨by show 1≤1000000;decide,hd,trivial⟩,⟨bn _,O⟩,bn _,O⟩
  refine⟨⟨⟨⟨hm,⟨by show 1≤1000000;decide,⟨hj0,gt rfl,bn _,trivial⟩,trivial⟩,⟨bn _,O⟩,bn _,O⟩,⟨gt J,⟨by show 1≤1000000;decide,hn,trivial⟩,⟨by rw [bD,dk];omega,xN a1 ⟨hdy,trivial⟩⟩,bn _,O⟩,O⟩,?_,?_⟩,by show 2≤2;decide⟩
  ·simp only [cv,nY,dD,nX,kS];have k1:s1.left=s.left:=kj.2.1;show _≤4000*(s.left-s2.left)+4000;omega
  ·intro y hy;rcases List.mem_append.1 hy with hy|hy
   ·exact a3 _ hy
   ·rw [List.mem_singleton.1 hy];exact hm
 | _,_,s,_,_,.ret hj hp,hi,hs,ts,ht=>by
  obtain⟨t,rfl,hty⟩:=ij ht;obtain⟨v,xs,vb,b,vl,l,rfl,h1,h2,h3⟩:=kA hty;obtain⟨t1,rfl,e1⟩:=fJ h1;cases dG h2;cases dG h3;have kj:=bN hj;have hg:=hp.gx hc (hs.same kj.1) t1 e1;have hk:=eb kj hp.keep;have hy:=t7 (k:=6) (v:=v) (vb:=vb) (vl:=vl) (nm:=oNil) (gt J) hg (by decide);exact⟨no ⟨hy.1,by have:=hy.2;omega⟩ (by rw [hk.2.1];exact Int.le_refl _) (hs.same hk.1),by show 1≤2;decide⟩
 | _,_,s,_,_,.dos (s2:=s2) (s3:=s3) (f:=f) h hj hj2 hf hp,hi,hs,ts,ht=>by
  obtain⟨t,rfl,hty⟩:=ij ht;obtain⟨v,xs,vb,b,vl,l,rfl,h1,h2,h3⟩:=kA hty;obtain⟨t1,rfl,e1⟩:=fJ h1;cases dG h2;cases dG h3;have k1:s3.names=s2.names∧s3.left=s2.left∧s3.vars=s2.vars:=by
   rcases hf with⟨_,_,h⟩|⟨_,j3,h,_⟩
   ·rw [h];exact⟨J,J,J⟩
   ·exact bN h
  have hfm:f∈c.fs:=by
   rcases hf with⟨_,h,_⟩|⟨_,j3,_,h⟩<;>exact bV h
  have kj:=eb (eb (bN hj) (bN hj2)) k1;have hg:=hp.gx hc hfm (hs.same kj.1) t1 e1;have hk:=eb kj hp.keep;have hy:=t7 (k:=8) (v:=v) (vb:=vb) (vl:=vl) (nm:=oNil) (d:=2) (gt J) hg (by decide);exact⟨no ⟨hy.1,by have:=hy.2;omega⟩ (by rw [hk.2.1];exact Int.le_refl _) (hs.same hk.1),by show 1≤2;decide⟩
 | _,_,s,_,_,.out (s1:=s1) _ _ _ _ _ _ h8 _ hp,hi,hs,ts,ht=>by
  obtain⟨t,rfl,hty⟩:=ij ht;obtain⟨v,xs,vb,b,vl,l,rfl,h1,h2,h3⟩:=kA hty;obtain⟨t1,rfl,e1⟩:=fJ h1;cases dG h2;cases dG h3;have k1:s1.names=s.names∧s1.left=s.left∧s1.vars=s.vars:=by
   rcases h8 with⟨_,h⟩|⟨_,j,_,h⟩
   ·rw [h];exact⟨J,J,J⟩
   ·exact bN h
  have hg:=hp.gx hc (hs.same k1.1) t1 e1;have hk:=eb k1 hp.keep;have hy:=t7 (k:=7) (v:=v) (vb:=vb) (vl:=vl) (nm:=oNil) (gt J) hg (by decide);exact⟨no ⟨hy.1,by have:=hy.2;omega⟩ (by rw [hk.2.1];exact Int.le_refl _) (hs.same hk.1),by show 1≤2;decide⟩
end
mutual
theorem GYr.left0{c:Gc}:∀{e:Nat}{s s':Gs}{o:List Py},GYr c e s o s'→0≤s.left→0≤s'.left
 | _,_,_,_,.mk hj h,hi=>h.left0 (by rw [(bN hj).2.1];exact hi)
theorem GLr.left0{c:Gc}:∀{e n:Nat}{s s':Gs}{o:List Py},GLr c e n s o s'→0≤s.left→0≤s'.left
 | _,_,_,_,_,.zero,hi=>hi
 | _,_,_,_,_,.stop _,hi=>hi
 | _,_,s,_,_,.step hl hk h1 h2,hi=>h2.left0 (h1.left0 (by rw [(bN hk).2.1];show 0≤s.left-1;omega))
theorem G1r.left0{c:Gc}:∀{e:Nat}{k:Int}{s s':Gs}{o:List Py},G1r c e k s o s'→0≤s.left→0≤s'.left
 | _,_,s,_,_,.var (s1:=s1) _ _ _ hp,hi=>by show 0≤s1.left;rw [hp.keep.2.1];exact hi
 | _,_,_,_,_,.set _ hj _ hp,hi=>by rw [(eb (bN hj) hp.keep).2.1];exact hi
 | _,_,_,_,_,.put _ hp hq,hi=>by rw [(eb hp.keep hq.keep).2.1];exact hi
 | _,_,_,_,_,.iff1 hp ha hj hb,hi=>hb.left0 (by rw [(bN hj).2.1];exact ha.left0 (by rw [hp.keep.2.1];exact hi))
 | _,_,_,_,_,.iff0 hp ha hj _,hi=>by rw [(bN hj).2.1];exact ha.left0 (by rw [hp.keep.2.1];exact hi)
 | _,_,s,_,_,.whi (s2:=s2) _ _ hj ha,hi=>by show 0≤s2.left;exact ha.left0 (by rw [(bN hj).2.1];exact hi)
 | _,_,_,_,_,.ret hj hp,hi=>by rw [(eb (bN hj) hp.keep).2.1];exact hi
 | _,_,s,_,_,.dos (s2:=s2) (s3:=s3) _ hj hj2 hf hp,hi=>by
  have k1:s3.names=s2.names∧s3.left=s2.left∧s3.vars=s2.vars:=by
   rcases hf with⟨_,_,h⟩|⟨_,j3,h,_⟩
   ·rw [h];exact⟨J,J,J⟩
   ·exact bN h
  rw [(eb (eb (eb (bN hj) (bN hj2)) k1) hp.keep).2.1];exact hi
 | _,_,s,_,_,.out (s1:=s1) _ _ _ _ _ _ h8 _ hp,hi=>by
  have k1:s1.names=s.names∧s1.left=s.left∧s1.vars=s.vars:=by
   rcases h8 with⟨_,h⟩|⟨_,j,_,h⟩
   ·rw [h];exact⟨J,J,J⟩
   ·exact bN h
  rw [(eb k1 hp.keep).2.1];exact hi
end
def hNames:List Ba:= [eq,⟨#[102]⟩,⟨#[103]⟩,⟨#[116,119,101,108,118,101,108,101,116,116,101,114]⟩]
def pNames:List Ba:= [⟨#[112]⟩,⟨#[113]⟩,⟨#[114]⟩,⟨#[115]⟩]
def GR(l:List Int)(i:Nat)(s:Gs):(Ba×List Ba)×Gs:=
 let q:=if 0<i then gN l 5 s else(0,s)
 ((hNames.getD i oNil,pNames.take q.1.toNat),q.2)
def xj(l:List Int)(s:Gs):Nat→List (Ba×List Ba)×Gs
 | 0=>([],s)
 | i+1=>let r:=xj l s i;let q:=GR l i r.2;(r.1++ [q.1],q.2)
def GV:Gs:=⟨0,0,0,0,[]⟩
inductive GBr(l:List Int)(fs:List (Ba×List Ba))(s0:Gs):Nat→List Pf→Gs→Prop
 | zero:GBr l fs s0 0 [] s0
 | step {i:Nat} {ps:List Pf} {s s2:Gs} {f:Ba×List Ba} {b:List Py} (h:GBr l fs s0 i ps s) (hf:fs[i]?=some f) (hb:GYr ⟨l,i,fs⟩ 3 {s with left:=8,nodes:=150,vars:=0,names:=f.2} b s2):GBr l fs s0 (i+1) (ps++ [⟨f.1,f.2,b⟩]) s2
def fM(l:List Int):Nat:=(1+(gN l 4 GV).1).toNat
def pZ(l:List Int):List (Ba×List Ba)×Gs:=xj l (gN l 4 GV).2 (fM l)
def Mc(l:List Int)(ps:List Pf):Prop:=∃s,GBr l (pZ l).1 (pZ l).2 (fM l) ps s
theorem Ep(i:Nat):qz (hNames.getD i oNil):=by
 rcases i with _|_|_|_|i<;>exact gt J
theorem D9:∀x∈pNames,qz x:=by
 intro x hx;simp only [pNames,List.mem_cons,List.not_mem_nil,or_false]at hx;rcases hx with rfl|rfl|rfl|rfl<;>exact gt J
theorem sk(l:List Int)(s:Gs):∀i,(xj l s i).1.length=i
 | 0=>rfl
 | i+1=>by rw [xj];simp only [bD,dk,sk l s i]
def UG(f:Ba×List Ba):Prop:=qz f.1∧f.2.length≤4∧∀x∈f.2,qz x
theorem NF(l:List Int)(i:Nat)(s:Gs):UG (GR l i s).1:=
 ⟨Ep i,by unfold GR;rw [List.length_take];exact Nat.min_le_right _ _,fun x hx=>D9 x (List.mem_of_mem_take hx)⟩
theorem AX(l:List Int)(s:Gs):∀i,∀f∈(xj l s i).1,UG f
 | 0,f,h=>by simp [xj]at h
 | i+1,f,h=>by
  rw [xj]at h;rcases List.mem_append.1 h with h|h
  ·exact AX l s i f h
  ·rw [List.mem_singleton.1 h];exact NF _ _ _
theorem tO(l:List Int):1≤fM l∧fM l≤4:=by
 have:=qR l (n:=4) (by decide) GV;unfold fM;omega
theorem GBr.gf{l:List Int}{fs:List (Ba×List Ba)}{s0:Gs}(hf:∀f∈fs,UG f):∀{i:Nat}{ps:List Pf}{s:Gs},GBr l fs s0 i ps s→∀ts:List Tf,ts.map oh=ps→ts.length=i∧∀t∈ts,GF t
 | _,_,_,.zero,ts,ht=>by
  cases List.map_eq_nil_iff.1 ht;exact⟨J,fun t h=>by simp at h⟩
 | _,_,_,.step (s:=s) (s2:=s2) (f:=f) (b:=b) h hx hb,ts,ht=>by
  obtain⟨u,v,rfl,hu,hv⟩:=List.map_eq_append_iff.1 ht;obtain⟨t,r,rfl,h1,hr⟩:=List.map_eq_cons_iff.1 hv;cases List.map_eq_nil_iff.1 hr;obtain⟨i1,i2⟩:=h.gf hf u hu;have hfk:=hf f (bV hx);have hbi:GInv {s with left:=8,nodes:=150,vars:=0,names:=f.2}:=⟨Int.le_refl _,by show(0:Int)≤8;decide,by show(f.2.length:Int)≤100+0;have:=hfk.2.1;omega,by show(8:Int)≤1000;decide⟩
  have hbn:Nm {s with left:=8,nodes:=150,vars:=0,names:=f.2}:=hfk.2.2;have hbody:dV t.body=b:=congrArg Pf.body h1;have hname:t.name=f.1:=congrArg Pf.name h1;have hps:t.ps=f.2:=congrArg Pf.ps h1;obtain⟨⟨a1,a2,a3⟩,a4⟩:=hb.gy (fun f h=>⟨(hf f h).1,(hf f h).2.1⟩) hbi hbn t.body hbody;have hl0:0≤s2.left:=hb.left0 (by show(0:Int)≤8;decide);refine⟨by rw [bD,i1];rfl,fun t' ht'=> ?_⟩;rcases List.mem_append.1 ht' with h'|h'
  ·exact i2 t' h'
  ·rw [List.mem_singleton.1 h'];have h5:=hfk.2.1;have a2':(cv t.body:Int)≤4000*(8-s2.left)+0:=a2;exact⟨hname▸hfk.1,hps▸hfk.2.2,by rw [hps];omega,by omega,a1,by rw [hps];omega⟩
theorem Hf{l:List Int}{ts:List Tf}(h:Mc l (ts.map oh)):GP ts:=by
 obtain⟨s,h⟩:=h;obtain⟨h1,h2⟩:=h.gf (AX _ _ _) ts J;have:=tO l;exact⟨by omega,h2⟩
section
variable{P:Program}{N:Nat}{w0:World}{M H:Nat→Prop}{E:ft}{Γ R:eD}{d:Nat}{T:TypeId}{ps:String}{af:Array Edge}
theorem AK{α:Type}{S U:TypeId}{D:TypeDesc}{z:Value}{s bb:Nat}{enc:α→List Value}{x y:Operand}{v v2 v0:Value}{l l2 l0:List α}(k:Nat)(hS:P.underlying S=some (.slice U))(hU:TI P U D z s bb)(hzs:z.cells.size=s)(hs0:0<s)(he:∀x,(enc x).length=s)(h1:∀x,(enc x).all (·.oneCell')=true)
  (hx:ev E x=some v) (hy:ev E y=some v2) (hk:ch Γ k=some (own U s enc v0 l0)) (hown:∀w G,(own U s enc v0 l0).pred w G→(own U s enc v l).pred w G) (h2:SlS w0 M H Γ R s enc v2 l2) (hm:(l.length+l2.length)*bb≤140737488355328) (hm':l.length+l2.length≤maxLen)
  :MS P N w0 M H E Γ R ⟨some d,.call {callee:= .builtin .append,args:= #[x,y],argTypes:= #[S,S]},T,ps,af,none⟩ (X:=SV) (fun _=>True) (fun v'=>sv v') (fun v'=>(k,own U s enc (sv v') (l++l2))::Γ) (fun _=>R):=by
 refine i_ fun a w hE hC=> ?_
 obtain⟨G0,hp00,hlt0⟩:=hC.reads (.inl hk);have hp0:=hown _ _ hp00;obtain⟨G2,c,h3,h4,h5⟩:=h2 w hC;obtain⟨i,i1,i2,i3,i4⟩:=hU.info;have hfl:∀l':List α,(l'.flatMap enc).length=l'.length*s:=fq he;rcases h5 with⟨rfl,_,rfl⟩|⟨b2,o2,rfl,_,hc2⟩
 ·obtain⟨xv,rfl⟩:=fS hp0.2;refine⟨xv,w,O,?_,?_⟩
  ·have hr:=run_append_owned_none (P:=P) w 0 S T U i s hS i1 (sv xv) l.length _ hp0.2;simp [execOp,resolve,invoke,builtin,hE.ev hx,hE.ev hy,hr]
  ·simp only [List.append_nil];exact hC.upd hk fun G hG0 hGlt=>⟨G,hown _ _ hG0,fun b hb=>⟨hGlt b hb,fun _=>hb⟩,Touch.refl _ _⟩
 ·obtain⟨v',w',hr,ho,hg,hn⟩:=run_append_own (P:=P) w 0 S T U i z s bb hS i1 i2 i3 i4 hzs hs0 v l.length _ hp0.2 ⟨b2,o2,none⟩ l2.length c (l2.flatMap enc) (hfl l2)
   (fun j u hj=>by rw [c8];exact hc2 j u hj) (fun u hu=>by obtain⟨x,_,hxu⟩:=List.mem_flatMap.1 hu;simpa using List.all_eq_true.1 (h1 x) u hxu) hm' hm (bn _)
  obtain⟨xv,rfl⟩:=fS ho;refine⟨xv,w',O,?_,?_⟩
  ·simp [execOp,resolve,invoke,builtin,hE.ev hx,hE.ev hy,hr]
  ·refine hC.upd hk fun G hG0 hGlt=>by
    have hG:=hown _ _ hG0;refine⟨fun b=>(sv xv).ownBlock=some b,⟨fun x=>Iff.rfl,?_⟩,fun b hb=>⟨(ho.lt b hb).2,fun hlt=> ?_⟩,⟨hg.os,hg.tape,hg.output,hg.size,fun i hi hne=>hg.block i hi (fun e=>hne ((hG.1 i).2 e.symm))⟩⟩
    ·rw [bD,List.flatMap_append];exact ho
    ·rcases hp0.2.2 with⟨rfl,hl0⟩|⟨g,cap,cur,rfl,hbg,hgg,hnc,hcm,hcs,htake⟩
     ·exfalso;have hl:l= []:=List.eq_nil_of_length_eq_zero hl0;subst hl;by_cases hz:l2.length=0
      ·have hl2:l2= []:=List.eq_nil_of_length_eq_zero hz;subst hl2;have:=(hn.2 ⟨J,J⟩)
       rw [this]at hb;simp [Value.ownBlock]at hb
      ·have hr2:=run_append_nil (P:=P) w S T U i z hS i1 i2 ⟨b2,o2,none⟩ l2.length c (l2.flatMap enc) (by rw [hfl,i3]) (fun j u hj=>by rw [c8];exact hc2 j u hj) (by simpa using Nat.pos_of_ne_zero hz) (by simp only [maxLen]at hm';simp at hm';omega) (by rw [i4];simp at hm;omega);rw [hr2]at hr;injection hr with hr3 hr4;replace hb:(sv xv).ownBlock=some b:=hb;rw [←hr3]at hb;simp [Value.ownBlock]at hb;omega
     ·by_cases hroom:l.length+l2.length≤cap
      ·have hfit:l.length*i.size+(l2.flatMap enc).length≤cur.size:=by rw [hfl,hcs,i3,←Nat.add_mul];exact Nat.mul_le_mul_right _ hroom
       have hr2:=run_append_room (P:=P) w S T U i hS i1 g l.length cap cur hgg ⟨b2,o2,none⟩ l2.length c (l2.flatMap enc) (by rw [hfl,i3]) (fun j u hj=>by rw [c8];exact hc2 j u hj) (fun u hu=>by obtain⟨x,_,hxu⟩:=List.mem_flatMap.1 hu;simpa using List.all_eq_true.1 (h1 x) u hxu) hroom hfit;rw [hr2]at hr;injection hr with hr3 hr4;replace hb:(sv xv).ownBlock=some b:=hb;rw [←hr3]at hb;simp [Value.ownBlock]at hb;subst hb;exact(hG.1 g).2 J
      ·exfalso;have holds:=hp0.2.cells (g:=g) J;have hr2:=run_append_grow (P:=P) w S T U i z hS i1 i2 ⟨g,0,none⟩ l.length cap (l.flatMap enc) (by rw [hfl,i3]) holds ⟨b2,o2,none⟩ l2.length c (l2.flatMap enc) (by rw [hfl,i3]) (fun j u hj=>by rw [c8];exact hc2 j u hj) (by omega) (by simp only [maxLen]at hm';omega) (growslice_fits (by omega) (by rw [i4];exact hm));rw [hr2]at hr;injection hr with hr3 hr4;replace hb:(sv xv).ownBlock=some b:=hb;rw [←hr3]at hb;simp [Value.ownBlock]at hb;omega
end
def NX(l:List Tf):Asn:=⟨fun w F=>∀f∈l,TfIn w F f,fun h hs f hf=>(h f hf).stable hs⟩
def EJ(v:SV)(l o:List Tf):Asn:=⟨fun w F=>(SlIn' w F 3 jI (sv v) l∧∀f∈l,TfIn w F f)∧∀f∈o,TfIn w F f,fun h hs=>⟨⟨h.1.1.stable hs,fun f hf=>(h.1.2 f hf).stable hs⟩,fun f hf=>(h.2 f hf).stable hs⟩⟩
theorem TfIn.up{w:World}{F G:Nat→Prop}{f:Tf}(h:TfIn w G f)(hs:∀b,G b→F b):TfIn w F f:=by
 obtain⟨⟨A,a1,a2⟩,⟨⟨B,b1,b2⟩,b3⟩⟩:=h;exact⟨⟨A,a1,fun b hb=>hs b (a2 b hb)⟩,⟨⟨B,b1,fun b hb=>hs b (b2 b hb)⟩,TysIn.mono hs (fun _ _=>J) _ b3⟩⟩
theorem SlIn'.up{α:Type}{w:World}{F G:Nat→Prop}{s:Nat}{enc:α→List Value}{v:Value}{l:List α}(h:SlIn' w G s enc v l)(hs:∀b,G b→F b):SlIn' w F s enc v l:=by
 obtain⟨A,a1,a2⟩:=h;exact⟨A,a1,fun b hb=>hs b (a2 b hb)⟩
abbrev DC(nm:Ba)(v:SV)(ps:List Ba):Tf:=⟨nm,v,ps,bc,[]⟩
theorem NW{l:List Tf}{nm:Ba}{v:SV}{ps:List Ba}(w:World)(F:Nat→Prop)(h:AllIn w F [NX l,own 9 1 eS (sv v) ps]):(NX (l++ [DC nm v ps])).pred w F:=by
 obtain⟨⟨_,a0,b0⟩,⟨_,a1,b1⟩,_⟩:=h;intro f hf;rcases List.mem_append.1 hf with hf|hf
 ·exact(a0 f hf).up b0
 ·rw [List.mem_singleton.1 hf];exact⟨dm a1 b1,i9,O⟩
theorem Pl{l:List Tf}{v:SV}(w:World)(F:Nat→Prop)(h:AllIn w F [own 66 3 jI (sv v) l,NX l]):(EJ v l []).pred w F:=by
 obtain⟨⟨_,a0,b0⟩,⟨_,a1,b1⟩,_⟩:=h;exact⟨⟨dm a0 b0,fun f hf=>(a1 f hf).up b1⟩,fun f hf=>by simp at hf⟩
theorem Mv{l o:List Tf}{v vb:SV}{f:Tf}{body:List Ty}(hf:f∈l)(w:World)(F:Nat→Prop)(h:AllIn w F [EJ v l o,own 64 5 fK (sv vb) body,mb body]):(EJ v l (o++ [⟨f.name,f.vp,f.ps,vb,body⟩])).pred w F:=by
 obtain⟨⟨_,a0,b0⟩,⟨_,a1,b1⟩,⟨_,a2,b2⟩,_⟩:=h;refine⟨⟨a0.1.1.up b0,fun f hf=>(a0.1.2 f hf).up b0⟩,fun g hg=> ?_⟩;rcases List.mem_append.1 hg with hg|hg
 ·exact(a0.2 g hg).up b0
 ·rw [List.mem_singleton.1 hg];exact⟨((a0.1.2 f hf).up b0).1,dm a1 b1,ma a2 b2⟩
theorem Mx{l o:List Tf}{v vo:SV}(w:World)(F:Nat→Prop)(h:AllIn w F [own 66 3 jI (sv vo) o,EJ v l o]):(dO vo o).pred w F:=by
 obtain⟨⟨_,a0,b0⟩,⟨_,a1,b1⟩,_⟩:=h;exact⟨dm a0 b0,fun f hf=>(a1.2 f hf).up b1⟩
theorem SlS.tg{w0:World}{M H:Nat→Prop}{Γ R:eD}{k:Nat}{v:SV}{l o:List Tf}(h:ch Γ k=some (EJ v l o)):SlS w0 M H Γ R 3 jI (sv v) l:=fun w hC=>by
 obtain⟨G,h1,_⟩:=hC.reads (.inl h);obtain⟨A,a1,_⟩:=h1.1.1;exact⟨A,a1⟩
theorem SlS.tgp{w0:World}{M H:Nat→Prop}{Γ R:eD}{k:Nat}{v:SV}{l o:List Tf}{f:Tf}(h:ch Γ k=some (EJ v l o))(hf:f∈l):SlS w0 M H Γ R 1 eS (sv f.vp) f.ps:=fun w hC=>by
 obtain⟨G,h1,_⟩:=hC.reads (.inl h);obtain⟨A,a1,_⟩:=(h1.1.2 f hf).1;exact⟨A,a1⟩
theorem Mw{A:Asn}{v:SV}{l o:List Tf}:∀(i:Nat)(X:Asn),([A,dO v l]:List Asn)[i]?=some X→∃Y,([A,EJ v l o]:List Asn)[i]?=some Y∧∀w G,Y.pred w G→X.pred w G
 | 0,X,hX=>⟨A,rfl,by cases hX;exact fun _ _ h=>h⟩
 | 1,X,hX=>⟨EJ v l o,rfl,by cases hX;exact fun _ _ h=>h.1⟩
 | i+2,X,hX=>by simp at hX
theorem NJ{e:Ge}(he:Gfine e)(o:List Tf)(s:Gs)(vn:SV)(hi:GInv s):Spec prog 47 [Pt e.g,I6 1] [bj e.g 102 (ix e.vl s vn e.c.me e.vf),own 9 1 eS (sv vn) s.names] [sl 1 eI (sv e.vl) e.c.l,EJ e.vf e.F o] (X:=SV×List Ty×Gs×SV) (fun x=>GYr e.c 3 s (dV x.2.1) x.2.2.1∧x.2.1.length≤10) (fun x=>sv x.1)
 (fun x=> [bj e.g 102 (ix e.vl x.2.2.1 x.2.2.2 e.c.me e.vf),own 9 1 eS (sv x.2.2.2) x.2.2.1.names,own 64 5 fK (sv x.1) x.2.1,mb x.2.1]) (fun _=> []):=
 Spec.roAll (Cz he 3 (by decide) s vn hi) Mw
structure Xh where
 i:Nat
 vf:SV
 F:List Tf
 s:Gs
structure Xbo where
 i:Nat
 vo:SV
 out:List Tf
 s:Gs
 vn:SV
 me:Nat
abbrev My(f:Tf):Ba×List Ba:=(f.name,f.ps)
theorem GO{l:List Int}{s0 s sb:Gs}{F:List Tf}{i jn:Nat}{nm:Ba}{jy:Int}{v:SV}(h:xj l s0 i=(F.map My,s))(hnm:hNames[i]?=some nm)(hy:(jy,sb)=(if 0<i then gN l 5 s else(0,s)))(hj:jy=(jn:Int)):xj l s0 (i+1)=((F++ [DC nm v (pNames.take jn)]).map My,sb):=by
 rw [xj];simp only [h,GR];rw [←hy];simp only [List.map_append,List.map_cons,List.map_nil,My,DC];rw [List.getD_eq_getElem?_getD,hnm,hj];rfl
theorem vF(vl:SV)(l:List Int)(hl:l.length≤9223372036854775807)(hlo:∀x∈l,Lr x):
  Spec prog 14 [sv vl] [] [sl 1 eI (sv vl) l] (X:=SV×List Tf) (fun x=>Mc l (x.2.map oh)) (fun x=> .agg #[sv x.1]) (fun x=> [dO x.1 x.2]) (fun _=> []):=by
 refine aI func14 J ntmps14 J fun w0 M H=> ?_
 have hj0:=qR l (n:=4) (by decide) GV;have hmb:=tO l;refine aq (aZ mu J J fun b2=>az J (ad J (aP (aX (parts:= [(0,.tmp 12)]) SI PS J J) (cM J J fun b14=>am J (az J (cI eS pNames (parts:= [(0,.const (Sg (ByteArray.mk #[112]))),(1,.const (Sg (ByteArray.mk #[113]))),(2,.const (Sg (ByteArray.mk #[114]))),(3,.const (Sg (ByteArray.mk #[115])))]) underlying46 t9 J (by decide) (by intro _;rfl) J (by decide) (by decide) J J J J fun v15=>am J (az J (cI eS hNames (parts:= [(0,.const (Sg (ByteArray.mk #[109,97,105,110]))),(1,.const (Sg (ByteArray.mk #[102]))),(2,.const (Sg (ByteArray.mk #[103]))),(3,.const (Sg (ByteArray.mk #[116,119,101,108,118,101,108,101,116,116,101,114])))]) underlying46 t9 J (by decide) (by intro _;rfl) J (by decide) (by decide) J J J J fun v16=>am J ?_))))))));refine az J (ad J (ai (xs:= [.tmp 17,.const (I6 4)]) (cN b14 vl bc bc ⟨l,0,[]⟩ hl hlo 4 (by decide) GV) lC [14] [(false,0)] [14] (fun _ _=> ?_)));refine uE (aQ J J (co (c:=(fM l:Int)) (by unfold fM;rw [show(1:Int)+(gN l 4 GV).1=(((1+(gN l 4 GV).1).toNat:Nat):Int) by omega];exact bM (by omega)))) J ?_;refine am J (aa (aU (am J (aa (aA (eo 60 (α:=Tf) (S:=66) (s:=3) (enc:=jI) ?_))))));refine bz 40 [] (L:= []) (C:=NX []) J (fun _ _ _ f hf=>by simp at hf) ?_;refine bJ (X:=Xh) (fun x=>x.i≤fM l∧xj l (gN l 4 GV).2 x.i=(x.F.map My,x.s)∧(∀f∈x.F,f.vb=bc∧f.body= [])) (fun x=> [(2,Pt b2),(3,Pt b14),(4,sv v15),(5,sv v16),(6,I6 (fM l:Int)),(7,I6 (x.i:Int))]) (fun x=> [(2,bj b2 27 [sv bc]),(14,bj b14 102 (ix vl (x.s) bc 0 x.vf)),(15,own 9 1 eS (sv v15) pNames),(16,own 9 1 eS (sv v16) hNames),(60,own 66 3 jI (sv x.vf) x.F),(40,NX x.F)]) (fun x=> [(0,sl 1 eI (sv vl) l)]) (fun x=>fM l-x.i) ⟨0,bc,[],(gN l 4 GV).2⟩ ⟨bn _,J,fun f hf=>by simp at hf⟩ J J J (fun x hx0=> ?_);obtain⟨i,vf,F,s⟩:=x;obtain⟨n1,n2,n3⟩:=hx0;dsimp only at n1 n2 n3 ⊢;have hFl:F.length=i:=by have h:=sk l (gN l 4 GV).2 i;rw [n2,List.length_map]at h;exact h
 refine aU (ad J (ad J (ar J J cy (aa (ap J (fun h1=> ?_) (fun h1=> ?_))))))
 ·(try simp only [bl]at h1);have hi2:i<fM l:=by omega
  refine aC (be (aA (aq (am J (aa (bC (X:=Int×Gs) (fun y=>y=(if 0<i then gN l 5 s else(0,s))) (fun y=> [(2,Pt b2),(3,Pt b14),(4,sv v15),(5,sv v16),(6,I6 (fM l:Int)),(7,I6 (i:Int)),(8,I6 y.1)]) (fun y=> [(2,bj b2 27 [sv bc]),(14,bj b14 102 (ix vl (y.2) bc 0 vf)),(15,own 9 1 eS (sv v15) pNames),(16,own 9 1 eS (sv v16) hNames),(60,own 66 3 jI (sv vf) F),(40,NX F)]) (fun y=> [(0,sl 1 eI (sv vl) l)]) ?_ (fun y hy=> ?_)))))))
  ·refine aq (ad J (ar J J fA (aa (ap J (fun h2=> ?_) (fun h2=> ?_)))))
   ·(try simp only [bl]at h2);have hi0:0<i:=by omega
    refine ak (ad J (ai (xs:= [.tmp 27,.const (I6 5)]) (cN b14 vl bc vf ⟨l,0,[]⟩ hl hlo 5 (by decide) s) lC [14] [(false,0)] [14] (fun _ _=>am J (aa (aG (gN l 5 s) (by rw [aj hi0]) J J J)))))
   ·(try simp only [bl]at h2);have hi0:¬0<i:=by omega
    refine aC (aG (0,s) (by rw [ac hi0]) J J J)
  ·obtain⟨jy,sb⟩:=y;dsimp only;have hjb:0≤jy∧jy≤4:=by
    split at hy
    ·have:=qR l (n:=5) (by decide) s;have h:=congrArg Prod.fst hy;dsimp only at h;omega
    ·have h:=congrArg Prod.fst hy;dsimp only at h;omega
   obtain⟨jn,hjn⟩:∃jn:Nat,jy=(jn:Int):=⟨jy.toNat,by omega⟩
   have hjl:jn≤pNames.length:=by show jn≤4;omega
   have hiN:i<hNames.length:=by show i<4;omega
   obtain⟨nm,hnm⟩:∃nm,hNames[i]?=some nm:=⟨_,bQ hiN⟩
   refine bX [29,30,31,32,33,34,35,36,37,38,39,40,41,42,43,44,45,46,47] _ J (bi (V:= [(0,29,_),(1,30,_),(2,31,_),(3,32,_),(4,33,_),(5,34,_),(6,35,_),(7,36,_),(8,37,_),(10,39,_),(11,40,_),(12,41,_)]) [0,1,2,3,4,5,6,7,8,10,11,12] 9 [9] [] (fun v38=> []) J J (aF J J (aF J J (ae J (au J) (ae J (ah dx J) (ae J (ag kJ J J (ax (k:=14) J J)) (aF J J (aF J J (ae J (aO (j:=i) underlying46 t9 J J (bh (k:=16) J) J hiN) (ae J (ag t9 J J (bF (bh (k:=16) J) (by intro _;rfl) hnm (by rfl))) (aF J J (aF J J (ae J (lP (j:=jn) underlying46 t9 J J (bh (k:=15) J) hjn hjl) aw)))))))))))) J J J J J J J J J J J (fun _ _=>J) J (AI eS underlying46 t9) (fun v38 _=>bi [0,1,2,3,4,5,6,7,8,10,11,12] 13 [13,12,11,10,9] [14] (fun v42=> [(14,43,_)]) J J (aF J J (aF J J (ae J (au J) (ae J (ah dx J) (ae J (ag kJ J J (ax (k:=14) J J)) (aF J J (aF J J (ae J (aO (j:=i) underlying46 t9 J J (bh (k:=16) J) J hiN) (ae J (ag t9 J J (bF (bh (k:=16) J) (by intro _;rfl) hnm (by rfl))) (aF J J (aF J J (ae J (lP (j:=jn) underlying46 t9 J J (bh (k:=15) J) hjn hjl) aw)))))))))))) J J J J J J J J J J J (fun _ _=>J) J (AK 38 underlying46 t9 J (by decide) (fun _=>J) (fun _=>J) J J J F6 (SlS.hi (SlS.of (bh (k:=15) J)) hjl) (by simp only [aS,List.length_take];omega) (by unfold maxLen;simp only [aS,List.length_take];omega)) (fun v42 _=>bi [14,0,1,2,3,4,5,6,7,8] 15 [15,14,13,12,11,10,9,8,7,6,5] [] (fun v44=> []) J J (ae J (aX (parts:= [(0,.tmp 37),(1,.tmp 42)]) gC PJ J J) (aF J J (aF J J (ae J (au J) (ae J (ah dx J) (ae J (ag kJ J J (ax (k:=14) J J)) (aF J J (aF J J (ae J (aO (j:=i) underlying46 t9 J J (bh (k:=16) J) J hiN) (ae J (ag t9 J J (bF (bh (k:=16) J) (by intro _;rfl) hnm (by rfl))) aw)))))))))) J J J J J J J J J J J (fun _ _=>J) J (d9 jI (DC nm v42 (pNames.take jn)) underlying25 gC J (by decide) (by decide) J J J) (fun v44 _=>bi [0,1,2,3,4] 16 [16,15,14,13,12,11,10,9,8,7,6,5,4,3,2,1] [17,18] (fun v45=> [(17,46,_),(18,47,_)]) J J (aF J J (aF J J (ae J (au J) (ae J (ah dx J) (ae J (ag kJ J J (ax (k:=14) J J)) aw))))) J J J J J J J J J J J (fun _ _=>J) J (ja 60 underlying25 gC J (by decide) (fun _=>J) (fun _=>J) J J J (bh (k:=44) J) (by simp only [dk];omega) (by unfold maxLen;simp only [dk];omega)) (fun v45 _=>bP [17,18,0] 19 [19,18,17,16,15,14,13,12,11,10,9,8,7,6,5,4,3,2,1,0] [] (fun _=> []) J J (ae J (au J) (ae J (ah dx J) (aF J J aw))) J J J J J J J J J (fun _ _=>J) J (dw (k:=14) kJ J J J J J J J J) (fun _ _=>bA [] J J aw J J J ?_))))))
   refine ak (ad J (ar J J aK (am J (aa (bz 40 [40,38] (C:=NX (F++ [DC nm v42 (pNames.take jn)])) J NW ?_)))));refine aG ⟨i+1,v45,F++ [DC nm v42 (pNames.take jn)],sb⟩ ⟨⟨by dsimp only;omega,GO n2 hnm hy hjn,fun f hf=>by
     rcases List.mem_append.1 hf with hf|hf
     ·exact n3 f hf
     ·rw [List.mem_singleton.1 hf];exact⟨J,J⟩⟩,by dsimp only;omega⟩ rfl rfl rfl
 ·(try simp only [bl]at h1);have hie:i=fM l:=by omega
  have hH:pZ l=(F.map My,s):=by rw [←n2,hie];rfl
  have hFh:(pZ l).1=F.map fun f=>(f.name,f.ps):=by rw [hH]
  have hs0:(pZ l).2=s:=by rw [hH]
  have hps:∀f∈F,f.ps.length≤100:=fun f hf=>by
   have h:=AX l (gN l 4 GV).2 i (My f) (by rw [n2];exact List.mem_map_of_mem hf);have:=h.2.1;show(My f).2.length≤100;omega
  refine bL (aq (aP (aX (parts:= []) mu S6 J J) (aZ mu J J fun b9=>av (k:=9) mu J J J J J J (aa (aU (am J (aa (aA (bz 43 [60,40] (C:=EJ vf F []) J Pl (eo 60 (α:=Tf) (S:=66) (s:=3) (enc:=jI) (bJ (X:=Xbo) (fun x=>x.i≤fM l∧GBr l (pZ l).1 (pZ l).2 x.i (x.out.map oh) x.s∧x.out.length=x.i) (fun x=> [(2,Pt b2),(3,Pt b14),(6,I6 (fM l:Int)),(9,Pt b9),(10,I6 (x.i:Int))]) (fun x=> [(2,bj b2 27 [sv bc]),(14,bj b14 102 (ix vl (x.s) x.vn x.me vf)),(9,bj b9 27 [sv x.vo]),(60,own 66 3 jI (sv x.vo) x.out),(43,EJ vf F x.out)]) (fun x=> [(0,sl 1 eI (sv vl) l)]) (fun x=>fM l-x.i) ⟨0,bc,[],s,bc,0⟩ ⟨bn _,hs0▸ .zero,J⟩ J J J (fun x hx0=> ?_))))))))))));obtain⟨i,vo,out,s1,vn,me⟩:=x;obtain⟨m1,m2,m3⟩:=hx0;dsimp only at m1 m2 m3 ⊢;refine aU (ad J (ad J (ar J J cy (aa (ap J (fun h3=> ?_) (fun h3=> ?_))))))
  ·(try simp only [bl]at h3);have hi3:i<fM l:=by omega
   have hiF:i<F.length:=by omega
   obtain⟨f,hfi⟩:∃f,F[i]?=some f:=⟨_,bQ hiF⟩
   have hfm:=bV hfi;have hfp:=hps f hfm;have hsi:GInv {s1 with left:=8,nodes:=150,vars:=0,names:=f.ps}:=⟨Int.le_refl _,by show(0:Int)≤8;decide,by show(f.ps.length:Int)≤100+0;omega,by show(8:Int)≤1000;decide⟩
   refine aC (be (aA (aq (ad J (ad J (bS J (aD fe J (aB (k:=14) t3 J J J J J J J J (az J (ad J (bS J (aD sJ J (aB (k:=14) t3 J J J J J J J J (az J ?_))))))))))))));refine ad J (bS J (aD sI J (aB (k:=14) t3 J J J J J J J J (az J (ad J (bS J (aD jX J (aB (k:=14) t3 J J J J J J J J (az J (ad J (D4 eS underlying46 t9 J fun v68=>ad J (bS J (aD dx J (aR 14 kJ J J J J ?_))))))))))))));refine ad J (aP (nn (j:=i) underlying25 gC J J (SlS.tg (k:=43) J) J hiF) (aP (fR fj J) (aP (ag jT J J (G7 (SlS.tg (k:=43) J) (by intro _;rfl) hfi J)) (D6 68 underlying46 t9 J (by decide) (fun _=>J) (fun _=>J) J J J F6 (SlS.tgp (k:=43) J hfm) (by simp only [aS];omega) (by unfold maxLen;simp only [aS];omega) J fun v77=>bS J (aD gB J (aB (k:=14) jT J J J J J J J J (az J (ad J (bS J (aD dx J (aR 14 kJ J J J J (ad J (aP (nn (j:=i) underlying25 gC J J (SlS.tg (k:=43) J) J hiF) (aP (aM gC J J J (A1 (SlS.tg (k:=43) J) (by intro _;rfl) hfi (by rfl))) (aZ gC J J fun b11=>av (k:=11) gC J J J J J J ?_)))))))))))))));refine az J (ad J ?_);refine dI (xs:= [.tmp 87,.const (I6 1)]) (NJ (e:=⟨b14,vl,v77,vf,⟨l,i,(pZ l).1⟩,F⟩) ⟨hl,hlo,hFh,by dsimp only;omega,by dsimp only;omega,hps⟩ out {s1 with left:=8,nodes:=150,vars:=0,names:=f.ps} v77 hsi) KF [14,68] [(false,0),(true,43)] [14,70,61,62] J J J J J J J J (fun _ _=>J) (fun _ _ _=>J) J (fun⟨vb,body,s2,vn2⟩ hbd=> ?_);dsimp only at hbd ⊢;refine aD li J (aB (k:=11) kO J J J J J J J J (aa (ak (aD fW J (aR 9 kJ J J J J (aP (aM gC J J J (bp (k:=11) J)) (bq jI (⟨f.name,f.vp,f.ps,vb,body⟩:Tf) underlying25 gC J (by decide) (by decide) J J J J fun v93=>dy 60 underlying25 gC J (by decide) (fun _=>J) (fun _=>J) J J J (bh (k:=93) J) (by simp only [dk];omega) (by unfold maxLen;simp only [dk];omega) J fun v94=>aD fW J (aB (k:=9) kJ J J J J J J J J (aa (ak (ad J (ar J J aK (am J (aa (bz 43 [43,61,62] (C:=EJ vf F (out++ [⟨f.name,f.vp,f.ps,vb,body⟩])) J (Mv hfm) ?_)))))))))))))))
   refine aG ⟨i+1,v94,out++ [⟨f.name,f.vp,f.ps,vb,body⟩],s2,vn2,i⟩ ⟨⟨by dsimp only;omega,by dsimp only;rw [List.map_append];exact .step (f:=(f.name,f.ps)) m2 (by rw [hFh,List.getElem?_map,hfi];rfl) hbd.1,by dsimp only;rw [bD,m3];rfl⟩,by dsimp only;omega⟩ J J J
  ·(try simp only [bl]at h3);have hme:i=fM l:=by omega
   refine bL (aq (aP (aM mu J J J (bp (k:=9) J)) (av (k:=2) mu J J J J J J (aa (ay (bz 63 [60,43] (C:=dO vo out) J Mx (aN (vo,out) ⟨s1,hme▸m2⟩ J (ce (bw mu J J J (bp (k:=2) J))) J [63] [] J J J)))))))
theorem COk.mv{w0:World}{M H:Nat→Prop}{Γ R:eD}{w:World}{k k':Nat}{A:Asn}(h:COk w0 M H Γ R w)(hk:ch Γ k=some A)(hne:Nat.beq k' k=false):COk w0 M H ((k',A)::(k,KB)::Γ) R w:=by
 obtain⟨F,hF⟩:=h;have hne':k'≠k:=fun e=>by subst e;simp at hne
 have hsub:∀j b,(if j=k' then F k else if j=k then fun _=>False else F j) b→(j=k'∧F k b)∨(j≠k'∧j≠k∧F j b):=by
  intro j b hb;split at hb
  ·exact .inl ⟨by assumption,hb⟩
  ·split at hb
   ·exact hb.elim
   ·exact .inr ⟨by assumption,by assumption,hb⟩
 refine⟨fun j=>if j=k' then F k else if j=k then fun _=>False else F j,hF.touch,?_,?_,?_,?_,?_⟩
 ·intro j B hj;simp only [ch]at hj;cases h1:Nat.beq k' j with
  | true=>
   rw [h1]at hj;simp at hj;subst hj;have:=cW h1;subst this;simp only [if_true];exact hF.has k A hk
  | false=>
   rw [h1]at hj;have hj1:j≠k':=fun e=>by subst e;simp at h1
   cases h2:Nat.beq k j with
   | true=>
    rw [h2]at hj;simp at hj;subst hj;have:=cW h2;subst this;simp only [hj1,if_false,if_true];exact fun b hb=>hb
   | false=>
    rw [h2]at hj;have hj2:j≠k:=fun e=>by subst e;simp at h2
    simp only [hj1,hj2,if_false];exact hF.has j B hj
 ·intro j b hb;rcases hsub j b hb with⟨_,hb⟩|⟨_,_,hb⟩<;>exact hF.lt _ b hb
 ·intro j b hb hlt;rcases hsub j b hb with⟨_,hb⟩|⟨_,_,hb⟩<;>exact hF.mine _ b hb hlt
 ·intro i j b hi hj;rcases hsub i b hi with⟨e1,h1⟩|⟨e1,e2,h1⟩<;>rcases hsub j b hj with⟨f1,h2⟩|⟨f1,f2,h2⟩
  ·rw [e1,f1]
  ·exact absurd (hF.apart k j b h1 h2).symm f2
  ·exact absurd (hF.apart i k b h1 h2) e2
  ·exact hF.apart i j b h1 h2
 ·intro j B hj;obtain⟨G,g1,g2⟩:=hF.ro j B hj;refine⟨G,g1,fun b hb=>⟨(g2 b hb).1,fun i hi=> ?_,(g2 b hb).2.2⟩⟩;rcases hsub i b hi with⟨_,hb'⟩|⟨_,_,hb'⟩<;>exact(g2 b hb).2.1 _ hb'
theorem wI{N:Nat}{w0:World}{M H:Nat→Prop}{E:ft}{Γ R:eD}(k k':Nat){A:Asn}{Rel:Act→World→Prop}(hk:ch Γ k=some A)(hne:Nat.beq k' k=false)(h:At N w0 M H E ((k',A)::(k,KB)::Γ) R Rel):At N w0 M H E Γ R Rel:=
 h.weak (fun _ h=>h) fun w hC=>hC.mv hk hne
def rs(r:Int→Int)(d v:Int):Int→Int:=fun k=>if k=d then v else r k
theorem Al{pc:Int}{r:Int→Int}{st x:Int}(hx:0≤x∧x<16):(sR pc r st)[1+x.toNat*1]?=some (I3 (r x)):=by
 obtain⟨k,rfl⟩:=Int.eq_ofNat_of_zero_le hx.1;have hk:k<16:=by omega
 show(sR pc r st)[1+k*1]?=_
 match k,hk with
 | 0,_=>rfl
 | 1,_=>rfl
 | 2,_=>rfl
 | 3,_=>rfl
 | 4,_=>rfl
 | 5,_=>rfl
 | 6,_=>rfl
 | 7,_=>rfl
 | 8,_=>rfl
 | 9,_=>rfl
 | 10,_=>rfl
 | 11,_=>rfl
 | 12,_=>rfl
 | 13,_=>rfl
 | 14,_=>rfl
 | 15,_=>rfl
theorem ow{pc:Int}{r:Int→Int}{st x v:Int}(hx:0≤x∧x<16):(sR pc r st).take (1+x.toNat*1)++ [Value.int .u32 v]++(sR pc r st).drop (1+x.toNat*1+1)=sR pc (rs r x v) st:=by
 obtain⟨k,rfl⟩:=Int.eq_ofNat_of_zero_le hx.1;have hk:k<16:=by omega
 show(sR pc r st).take (1+k*1)++ [Value.int .u32 v]++(sR pc r st).drop (1+k*1+1)=_
 match k,hk with
 | 0,_=>rfl
 | 1,_=>rfl
 | 2,_=>rfl
 | 3,_=>rfl
 | 4,_=>rfl
 | 5,_=>rfl
 | 6,_=>rfl
 | 7,_=>rfl
 | 8,_=>rfl
 | 9,_=>rfl
 | 10,_=>rfl
 | 11,_=>rfl
 | 12,_=>rfl
 | 13,_=>rfl
 | 14,_=>rfl
 | 15,_=>rfl
theorem SK{r:Int→Int}(h0:r 0=0):rs r 0 0=r:=by
 funext k;unfold rs;split
 ·rename_i h;rw [h,h0]
 ·rfl
theorem Pw{r:Int→Int}{d v:Int}(h0:r 0=0):rs (rs r d v) 0 0=rp r d v:=by
 funext k;unfold rs rp;by_cases h:k=0
 ·rw [aj h];by_cases h2:k=d∧d≠0
  ·exact absurd (h2.1.symm.trans h) h2.2
  ·rw [ac h2,h,h0]
 ·rw [ac h];by_cases h2:k=d
  ·rw [aj h2,aj ⟨h2,fun h3=>h (h2.trans h3)⟩]
  ·rw [ac h2,ac (fun h3=>h2 h3.1)]
theorem ta{pc:Int}{r:Int→Int}{st x:Int}{u:Value}(hx:0≤x∧x<16):(1+x.toNat*1+ [u].length).ble (sR pc r st).length=true:=by
 rw [Nat.ble_eq];show 1+x.toNat*1+1≤24;omega
theorem I8{pc:Int}{r:Int→Int}{st:Int}(h0:r 0=0):(sR pc r st).take 1++ [Value.int .u32 0]++(sR pc r st).drop 2=sR pc r st:=(ow (x:=0) (by decide)).trans (by rw [SK h0])
theorem yr{pc:Int}{r:Int→Int}{st d v:Int}(h0:r 0=0):(sR pc (rs r d v) st).take 1++ [Value.int .u32 0]++(sR pc (rs r d v) st).drop 2=sR pc (rp r d v) st:=(ow (x:=0) (by decide)).trans (by rw [Pw h0])
theorem mC(n:Int):0≤wU n∧wU n<4294967296:=by
 show 0≤n%4294967296∧n%4294967296<4294967296;omega
theorem z4(a b:Int):wU (a+wU b)=wU (a+b):=by
 show(a+b%4294967296)%4294967296=(a+b)%4294967296;omega
theorem O_(n:Int):IntKind.u32.wrap (IntKind.u32.wrap n/4*4)=IntKind.u32.wrap n/4*4:=by
 have:=mC n;have e:IntKind.u32.wrap n=wU n:=J;exact cc (by omega)
structure Stx(s:Mm)(i:Qi)(pc:Int)(r:Int→Int)(st:Int):Prop where
 f:Fx s i pc
 p:pc<1000000
 h0:r 0=0
 hr:∀k,0≤r k∧r k<4294967296
 hst:0≤st∧st<1000000000000000
def oC(pc:Int)(r:Int→Int)(st k x:Int):List Value:=sR pc r st++ [I6 k,I3 x]
theorem o8(pc:Int)(r:Int→Int)(st k x:Int):
  aW prog 149 [.agg (sR pc r st).toArray,I6 k,I3 x] [] [] (.agg (oC pc r st k x).toArray) []:=by
 refine aI func149 J ntmps149 J fun w0 M H=>aq (cM J J fun b3=>aZ nJ J J fun b6=>az J (aP (aM zL J J J (bp (k:=3) J)) (ad J (ad J (aP (aX (parts:= [(0,.tmp 8),(1,.tmp 9)]) BR PK J J) (aP (aX (cs:=(oC pc r st k x).toArray) (parts:= [(0,.tmp 7),(1,.tmp 10)]) nJ K9 J (by kernel_rfl)) (av (k:=6) nJ J J J J J J (aa (ay (aN () O J (ce (bw nJ J J J (bp (k:=6) J))) J [] [] J J J))))))))))
abbrev kE(e:Me)(i:Qi)(pc:Int)(r:Int→Int)(b2 b4 b6 b7:Nat):ft:= [(1,Pt e.m),(2,Pt b2),(4,Pt b4),(6,Pt b6),(7,Pt b7),(8,I3 (r i.d)),(9,I3 (r i.a)),(10,I3 (if i.op<16 then r i.b else i.imm)),(11,I3 (pc+4)),(12,I6 (kL i.op))]
abbrev kG(e:Me)(s:Mm)(i:Qi)(pc:Int)(r:Int→Int)(st:Int)(b2 b4 b6 b7:Nat):eD:= [(20,bj e.m 157 (mR e)),(21,own 5 1 cn (sv e.vd) s.d),(22,own 5 1 cn (sv e.vi) s.i),(23,own 3 1 eI (sv e.vr) s.r),(2,bj b2 78 (sR pc r st)),(4,bj b4 207 (oC 0 sd 0 0 0)),(6,bj b6 118 (jw i)),(7,bj b7 78 (sR pc r st))]
def uI:Nat→Code→Code
 | 0,c=>c
 | n+1,.seq _ b=>uI n b
 | _+1,c=>c
def fL(f:Func):Code:=match f.body with
 | some c=>c
 | none=> .skip
theorem hZ(e:Me)(s:Mm)(n:Nat)(hs:MO s n)(i:Qi)(pc:Int)(r:Int→Int)(st:Int)(hx:Stx s i pc r st){X:Type}{φ:X→Prop}{v:X→Value}{L1 R1:X→List Asn}
  (k:∀(w0:World)(M H:Nat→Prop)(b2 b4 b6 b7:Nat),At 301 w0 M H (kE e i pc r b2 b4 b6 b7) (kG e s i pc r st b2 b4 b6 b7) [] ((uI 12 (fL f115)).wp prog (bodyPost prog f115 (OU w0 M H φ v L1 R1)))):
  Spec prog 115 [.agg (sR pc r st).toArray,Pt e.m] [bj e.m 157 (mR e),own 5 1 cn (sv e.vd) (s).d,own 5 1 cn (sv e.vi) (s).i,own 3 1 eI (sv e.vr) (s).r] [] φ v L1 R1:=by
 refine aI func115 J ntmps115 J fun w0 M H=>wI 0 20 J J (wI 1 21 J J (wI 2 22 J J (wI 3 23 J J ?_)))
 have hdd:=hx.f.hv.d;have haa:=hx.f.hv.a;have hbb:=hx.f.hv.b;have him:=hx.f.imm;have hpp:=hx.f.p;have hp2:=hx.p;have hst:=hx.hst;refine aq (cM J J fun b2=>aZ nJ J J fun b4=>az J (aD jE J (aR 2 eA J J J J (ad J (ai (xs:= [.tmp 20,.tmp 21]) (yz e s n hs i pc hx.f) Rx [20,21,22,23] [] [20,21,22,23] (fun _ _=>aZ DG J J fun b5=>av (k:=5) DG J J J J J J (aa (aU (aD Ko J (aP (fR tU J) (aR 5 t3 J J J J ?_)))))))))));refine ar J J iT (aa (ap J (fun h1=> ?_) (fun h1=> ?_)))
 ·cases h1
 ·(try simp only [bl]at h1);refine aC (aq (aD Kq J (aP (aM (us:=jw i) fF J J J (od (k:=5) J J)) (aZ fF J J fun b6=>av (k:=6) fF J J J J J J (az J (aP (aM zL J J J (bp (k:=2) J)) (aZ zL J J fun b7=>av (k:=7) zL J J J J J J (az J (aD iy J (aP (dT (j:=0) underlying75 eA J J (by rfl) (by decide)) (aB (k:=7) (us:= [I3 0]) (c':=sR pc r st) eA J J J J J J J (I8 hx.h0) (aa ?_))))))))))));refine aq (aD iq J (aR 6 t3 J J J J (aD iy J (aP (dT (j:=i.d.toNat) underlying75 eA J J (by omega) (by omega)) (aR 7 eA J J J (Al hx.f.hv.d) (am J (az J (aD nC J (aR 6 t3 J J J J (aD iy J (aP (dT (j:=i.a.toNat) underlying75 eA J J (by omega) (by omega)) (aR 7 eA J J J (Al hx.f.hv.a) (am J (az J ?_))))))))))))));refine aD nA J (aR 6 t3 J J J J (aD iy J (aP (dT (j:=i.b.toNat) underlying75 eA J J (by omega) (by omega)) (aR 7 eA J J J (Al hx.f.hv.b) (am J (az J (aD jE J (aR 7 eA J J J J (ar J J (co (c:=pc+4) (cc (by omega))) (am J (az J (aD ct J (aR 6 t3 J J J J (ai (xs:= [.tmp 55]) (Ap i.op) Rw [] [] [] (fun _ _=>am J ?_)))))))))))))));refine aa (bC (X:=Nat×Nat×Nat×Nat) (fun _=>True) (fun z=> [(1,Pt e.m),(2,Pt z.1),(4,Pt z.2.1),(6,Pt z.2.2.1),(7,Pt z.2.2.2),(8,I3 (r i.d)),(9,I3 (r i.a)),(10,I3 (if i.op<16 then r i.b else i.imm)),(11,I3 (pc+4)),(12,I6 (kL i.op))]) (fun z=> [(20,bj e.m 157 (mR e)),(21,own 5 1 cn (sv e.vd) s.d),(22,own 5 1 cn (sv e.vi) s.i),(23,own 3 1 eI (sv e.vr) s.r),(2,bj z.1 78 (sR pc r st)),(4,bj z.2.1 207 (oC 0 sd 0 0 0)),(6,bj z.2.2.1 118 (jw i)),(7,bj z.2.2.2 78 (sR pc r st))]) (fun z=> []) ?_ (fun⟨b2,b4,b6,b7⟩ _=> ?_))
  ·refine aq (aD ct J (aR 6 t3 J J J J (ar J J iz (aa (ap J (fun h2=> ?_) (fun h2=> ?_))))))
   ·(try simp only [bl]at h2);refine ak (aD ef J (aR 6 eA J J J J (am J (aa ?_))));refine aG (b2,b4,b6,b7) O (by rw [ac (show ¬i.op<16 by omega)];rfl) J J
   ·(try simp only [bl]at h2);refine aC ?_;refine aG (b2,b4,b6,b7) O (by rw [aj (show i.op<16 by omega)];rfl) J J
  ·exact k w0 M H b2 b4 b6 b7
theorem pg{N:Nat}{w0:World}{M H:Nat→Prop}{E E2:ft}{Γ R:eD}{Rel:Act→World→Prop}(he:vU E E2=vS E2)(h:At N w0 M H E2 Γ R Rel):At N w0 M H E Γ R Rel:=fun a w h1 h2=>h a w (h1.sub he) h2
def iZ:Code→Code
 | .seq (.block _ c) _=>c
 | c=>c
def els:Nat→Code→Code
 | 0,c=>c
 | n+1,.seq _ (.cond _ _ f)=>els n f
 | _+1,c=>c
theorem qp{e:Me}{s:Mm}{i:Qi}{pc:Int}{r:Int→Int}{st:Int}(h:i.op≠10){w0:World}{M H:Nat→Prop}{Q:Exit→Act→World→Prop}{b2 b4 b6 b7:Nat}(k:At 301 w0 M H (kE e i pc r b2 b4 b6 b7) (kG e s i pc r st b2 b4 b6 b7) [] ((els 1 (iZ (uI 12 (fL f115)))).wp prog Q)):
  At 301 w0 M H (kE e i pc r b2 b4 b6 b7) (kG e s i pc r st b2 b4 b6 b7) [] ((els 0 (iZ (uI 12 (fL f115)))).wp prog Q):=by
 skip;refine aq (aD ct J (aR 6 t3 J J J J (ar J J bv (ad J (aH [] J J O (fun hg1=>aV J) J (aH [(67,_)] J J ⟨J,O⟩ (fun hg2=>aQ J J bv) J (aP (bH J J J) (am J (aa (ap J (fun h3=> ?_) (fun h3=> ?_)))))))))))
 ·(exfalso;have h0:=h3;revert h0;simp;first|exact h|omega|(intro h1;exact absurd h1 h))
 ·(try simp only [bl]at h3);exact pg J k
theorem qn{e:Me}{s:Mm}{i:Qi}{pc:Int}{r:Int→Int}{st:Int}(h:kL i.op=0){w0:World}{M H:Nat→Prop}{Q:Exit→Act→World→Prop}{b2 b4 b6 b7:Nat}(k:At 301 w0 M H (kE e i pc r b2 b4 b6 b7) (kG e s i pc r st b2 b4 b6 b7) [] ((els 2 (iZ (uI 12 (fL f115)))).wp prog Q)):
  At 301 w0 M H (kE e i pc r b2 b4 b6 b7) (kG e s i pc r st b2 b4 b6 b7) [] ((els 1 (iZ (uI 12 (fL f115)))).wp prog Q):=by
 skip;refine aq (ad J (ar J J iT (am J (aa (ap J (fun h1=> ?_) (fun h1=> ?_))))))
 ·(exfalso;have h0:=h1;revert h0;simp;first|exact h|omega|(intro h1;exact absurd h1 h))
 ·(try simp only [bl]at h1);exact pg J k
theorem rG{e:Me}{s:Mm}{i:Qi}{pc:Int}{r:Int→Int}{st:Int}(h:i.op≠23∧i.op≠24){w0:World}{M H:Nat→Prop}{Q:Exit→Act→World→Prop}{b2 b4 b6 b7:Nat}(k:At 301 w0 M H (kE e i pc r b2 b4 b6 b7) (kG e s i pc r st b2 b4 b6 b7) [] ((els 3 (iZ (uI 12 (fL f115)))).wp prog Q)):
  At 301 w0 M H (kE e i pc r b2 b4 b6 b7) (kG e s i pc r st b2 b4 b6 b7) [] ((els 2 (iZ (uI 12 (fL f115)))).wp prog Q):=by
 skip;refine aq (aD ct J (aR 6 t3 J J J J (ar J J bv (ad J (aH [] J J O (fun hg1=>ah ct J) J (aH [(88,_)] J J ⟨J,O⟩ (fun hg2=>ag t3 J J (ax (k:=6) J J)) J (aH [(88,_),(89,_)] J J ⟨J,J,O⟩ (fun hg3=>aQ J J bv) J (aP (bH J J J) (am J (aa (ap J (fun h4=> ?_) (fun h4=> ?_))))))))))))
 ·(exfalso;have h0:=h4;revert h0;simp;first|exact h|omega|(intro h1;exact absurd h1 h))
 ·(try simp only [bl]at h4);exact pg J k
theorem uc{e:Me}{s:Mm}{i:Qi}{pc:Int}{r:Int→Int}{st:Int}(h:i.op≠25∧i.op≠26){w0:World}{M H:Nat→Prop}{Q:Exit→Act→World→Prop}{b2 b4 b6 b7:Nat}(k:At 301 w0 M H (kE e i pc r b2 b4 b6 b7) (kG e s i pc r st b2 b4 b6 b7) [] ((els 4 (iZ (uI 12 (fL f115)))).wp prog Q)):
  At 301 w0 M H (kE e i pc r b2 b4 b6 b7) (kG e s i pc r st b2 b4 b6 b7) [] ((els 3 (iZ (uI 12 (fL f115)))).wp prog Q):=by
 skip;refine aq (aD ct J (aR 6 t3 J J J J (ar J J bv (ad J (aH [] J J O (fun hg1=>ah ct J) J (aH [(120,_)] J J ⟨J,O⟩ (fun hg2=>ag t3 J J (ax (k:=6) J J)) J (aH [(120,_),(121,_)] J J ⟨J,J,O⟩ (fun hg3=>aQ J J bv) J (aP (bH J J J) (am J (aa (ap J (fun h4=> ?_) (fun h4=> ?_))))))))))))
 ·(exfalso;have h0:=h4;revert h0;simp;first|exact h|omega|(intro h1;exact absurd h1 h))
 ·(try simp only [bl]at h4);exact pg J k
theorem qW{e:Me}{s:Mm}{i:Qi}{pc:Int}{r:Int→Int}{st:Int}(h:i.op≠27){w0:World}{M H:Nat→Prop}{Q:Exit→Act→World→Prop}{b2 b4 b6 b7:Nat}(k:At 301 w0 M H (kE e i pc r b2 b4 b6 b7) (kG e s i pc r st b2 b4 b6 b7) [] ((els 5 (iZ (uI 12 (fL f115)))).wp prog Q)):
  At 301 w0 M H (kE e i pc r b2 b4 b6 b7) (kG e s i pc r st b2 b4 b6 b7) [] ((els 4 (iZ (uI 12 (fL f115)))).wp prog Q):=by
 skip;refine aq (aD ct J (aR 6 t3 J J J J (ar J J bv (am J (aa (ap J (fun h1=> ?_) (fun h1=> ?_)))))))
 ·(exfalso;have h0:=h1;revert h0;simp;first|exact h|omega|(intro h1;exact absurd h1 h))
 ·(try simp only [bl]at h1);exact pg J k
theorem xE{e:Me}{s:Mm}{i:Qi}{pc:Int}{r:Int→Int}{st:Int}(h:¬(32≤i.op∧i.op≤37)){w0:World}{M H:Nat→Prop}{Q:Exit→Act→World→Prop}{b2 b4 b6 b7:Nat}(k:At 301 w0 M H (kE e i pc r b2 b4 b6 b7) (kG e s i pc r st b2 b4 b6 b7) [] ((els 6 (iZ (uI 12 (fL f115)))).wp prog Q)):
  At 301 w0 M H (kE e i pc r b2 b4 b6 b7) (kG e s i pc r st b2 b4 b6 b7) [] ((els 5 (iZ (uI 12 (fL f115)))).wp prog Q):=by
 skip;refine aq (aD ct J (aR 6 t3 J J J J (ar J J iz (ad J (aH [] J J O (fun hg1=>ah ct J) J (aH [(162,_)] J J ⟨J,O⟩ (fun hg2=>ag t3 J J (ax (k:=6) J J)) J (aH [(162,_),(163,_)] J J ⟨J,J,O⟩ (fun hg3=>aQ J J mt) J (aP (bH J J J) (am J (aa (ap J (fun h4=> ?_) (fun h4=> ?_))))))))))))
 ·(exfalso;have h0:=h4;revert h0;simp;first|exact h|omega|(intro h1;exact absurd h1 h))
 ·(try simp only [bl]at h4);exact pg J k
theorem Bm{e:Me}{s:Mm}{i:Qi}{pc:Int}{r:Int→Int}{st:Int}(h:i.op≠40){w0:World}{M H:Nat→Prop}{Q:Exit→Act→World→Prop}{b2 b4 b6 b7:Nat}(k:At 301 w0 M H (kE e i pc r b2 b4 b6 b7) (kG e s i pc r st b2 b4 b6 b7) [] ((els 7 (iZ (uI 12 (fL f115)))).wp prog Q)):
  At 301 w0 M H (kE e i pc r b2 b4 b6 b7) (kG e s i pc r st b2 b4 b6 b7) [] ((els 6 (iZ (uI 12 (fL f115)))).wp prog Q):=by
 skip;refine aq (aD ct J (aR 6 t3 J J J J (ar J J bv (am J (aa (ap J (fun h1=> ?_) (fun h1=> ?_)))))))
 ·(exfalso;have h0:=h1;revert h0;simp;first|exact h|omega|(intro h1;exact absurd h1 h))
 ·(try simp only [bl]at h1);exact pg J k
theorem Hr{e:Me}{s:Mm}{i:Qi}{pc:Int}{r:Int→Int}{st:Int}(h:i.op≠41){w0:World}{M H:Nat→Prop}{Q:Exit→Act→World→Prop}{b2 b4 b6 b7:Nat}(k:At 301 w0 M H (kE e i pc r b2 b4 b6 b7) (kG e s i pc r st b2 b4 b6 b7) [] ((els 8 (iZ (uI 12 (fL f115)))).wp prog Q)):
  At 301 w0 M H (kE e i pc r b2 b4 b6 b7) (kG e s i pc r st b2 b4 b6 b7) [] ((els 7 (iZ (uI 12 (fL f115)))).wp prog Q):=by
 skip;refine aq (aD ct J (aR 6 t3 J J J J (ar J J bv (am J (aa (ap J (fun h1=> ?_) (fun h1=> ?_)))))))
 ·(exfalso;have h0:=h1;revert h0;simp;first|exact h|omega|(intro h1;exact absurd h1 h))
 ·(try simp only [bl]at h1);exact pg J k
theorem N7{e:Me}{s:Mm}{i:Qi}{pc:Int}{r:Int→Int}{st:Int}(h:i.op≠48){w0:World}{M H:Nat→Prop}{Q:Exit→Act→World→Prop}{b2 b4 b6 b7:Nat}(k:At 301 w0 M H (kE e i pc r b2 b4 b6 b7) (kG e s i pc r st b2 b4 b6 b7) [] ((els 9 (iZ (uI 12 (fL f115)))).wp prog Q)):
  At 301 w0 M H (kE e i pc r b2 b4 b6 b7) (kG e s i pc r st b2 b4 b6 b7) [] ((els 8 (iZ (uI 12 (fL f115)))).wp prog Q):=by
 skip;refine aq (aD ct J (aR 6 t3 J J J J (ar J J bv (am J (aa (ap J (fun h1=> ?_) (fun h1=> ?_)))))))
 ·(exfalso;have h0:=h1;revert h0;simp;first|exact h|omega|(intro h1;exact absurd h1 h))
 ·(try simp only [bl]at h1);exact pg J k
theorem iB(e:Me)(s:Mm)(pc:Int)(r1 r2:Int→Int)(st npc:Int)(hst:0≤st∧st<1000000000000000)(hz:(sR pc r1 st).take 1++ [Value.int .u32 0]++(sR pc r1 st).drop 2=sR pc r2 st){w0:World}{M H:Nat→Prop}{b4 b7:Nat}:
  At 301 w0 M H [(4,Pt b4),(7,Pt b7),(11,I3 npc)] [(20,bj e.m 157 (mR e)),(21,own 5 1 cn (sv e.vd) (s).d),(22,own 5 1 cn (sv e.vi) (s).i),(23,own 3 1 eI (sv e.vr) (s).r),(4,bj b4 207 (oC 0 sd 0 0 0)),(7,bj b7 78 (sR pc r1 st))] [] ((uI 13 (fL f115)).wp prog (bodyPost prog f115 (OU w0 M H (X:=Unit) (fun _=>True) (fun _=> .agg (oC npc r2 (st+1) 0 0).toArray) (fun _=> [bj e.m 157 (mR e),own 5 1 cn (sv e.vd) (s).d,own 5 1 cn (sv e.vi) (s).i,own 3 1 eI (sv e.vr) (s).r]) (fun _=> [])))):=by
 skip;refine aq (aD iy J (aP (dT (j:=0) underlying75 eA J J (by rfl) (by decide)) (aB (k:=7) (us:= [I3 0]) (c':=sR pc r2 st) eA J J J J J J J hz (az J (ad J (aD jE J (aB (k:=7) (us:= [I3 npc]) (c':=sR npc r2 st) eA J J J J J J J J (az J (aD jD J (aR 7 t3 J J J J (ar J J (co (c:=st+1) (bM (by omega))) (aD jD J (aB (k:=7) (us:= [I6 (st+1)]) (c':=sR npc r2 (st+1)) t3 J J J J J J J J (aa ?_))))))))))))));refine aq (aP (aM zL J J J (bp (k:=7) J)) (aP (aX (cs:=(oC npc r2 (st+1) 0 0).toArray) (parts:= [(0,.tmp 299)]) nJ K9 J (by kernel_rfl)) (av (k:=4) nJ J J J J J J (aa (ay (aN () O J (ce (bw nJ J J J (bp (k:=4) J))) J [20,21,22,23] [] J J J))))))
theorem Fm(e:Me)(s:Mm)(n:Nat)(hs:MO s n)(i:Qi)(pc:Int)(r:Int→Int)(st:Int)(hx:Stx s i pc r st)(v:Int)(hu:zG i.op (r i.a) (if i.op<16 then r i.b else i.imm)=some v):
  aW prog 115 [.agg (sR pc r st).toArray,Pt e.m] [bj e.m 157 (mR e),own 5 1 cn (sv e.vd) (s).d,own 5 1 cn (sv e.vi) (s).i,own 3 1 eI (sv e.vr) (s).r] [] (.agg (oC (pc+4) (rp r i.d v) (st+1) 0 0).toArray) [bj e.m 157 (mR e),own 5 1 cn (sv e.vd) (s).d,own 5 1 cn (sv e.vi) (s).i,own 3 1 eI (sv e.vr) (s).r]:=by
 have hdd:=hx.f.hv.d;have haa:=hx.f.hv.a;have hbb:=hx.f.hv.b;have him:=hx.f.imm;have hpp:=hx.f.p;have hp2:=hx.p;have hst:=hx.hst;obtain⟨ho,hz,hk⟩:=OC hu;refine hZ e s n hs i pc r st hx fun w0 M H b2 b4 b6 b7=> ?_
 refine bC (X:=Unit) (fun _=>True) (fun _=> [(4,Pt b4),(7,Pt b7),(11,I3 (pc+4))]) (fun _=> [(20,bj e.m 157 (mR e)),(21,own 5 1 cn (sv e.vd) (s).d),(22,own 5 1 cn (sv e.vi) (s).i),(23,own 3 1 eI (sv e.vr) (s).r),(4,bj b4 207 (oC 0 sd 0 0 0)),(7,bj b7 78 (sR pc (rs r i.d v) st))]) (fun _=> []) ?_ (fun _ _=> ?_)
 ·refine aA (aq (aD ct J (aR 6 t3 J J J J (ar J J bv (ad J (aH [] J J O (fun hg1=>aV J) J (aH [(67,_)] J J ⟨J,O⟩ (fun hg2=>aQ J J bv) J (aP (bH J J J) (am J (aa (ap J (fun h3=> ?_) (fun h3=> ?_))))))))))))
  ·(exfalso;have h0:=h3;revert h0;simp;try omega)
  ·(try simp only [bl]at h3);refine aq (ad J (ar J J iT (am J (aa (ap J (fun h4=> ?_) (fun h4=> ?_))))))
   ·(try simp only [bl]at h4);refine bX [75,76,77,78,79,80,81,82] _ J (bi (V:= [(0,75,_),(1,76,_),(2,77,_),(3,78,_),(4,79,_),(6,81,_)]) [0,1,2,3,4,6] 5 [5,4,3,2] [7] (fun _=> [(7,82,_)]) J J (ae J (ah iq J) (ae J (ag t3 J J (ax (k:=6) J J)) (aF J J (aF J J (aF J J (ae J (ah iy J) aw)))))) J J J J J J J J J J J (fun _ _=>J) J (ic (xs:= [.tmp 77,.tmp 78,.tmp 79]) (FH (kL i.op) (r i.a) (if i.op<16 then r i.b else i.imm) v (hx.hr _) (by split;exact hx.hr _;exact him) (OD hu)) Rv [] [] [] J J J) (fun _ _=>bP [7,0,1,6] 8 [8,7,6,5,4,3,2,1,0] [] (fun _=> []) J J (ae J (dT (j:=i.d.toNat) underlying75 eA J J (by omega) (by omega)) (ae J (ah iq J) (ae J (ag t3 J J (ax (k:=6) J J)) (ae J (ah iy J) aw)))) J J J J J J J J J (fun _ _=>J) J (dw (k:=7) (us:= [I3 v]) (c':=sR pc (rs r i.d v) st) eA J J J J J J (ta hx.f.hv.d) (ow hx.f.hv.d)) (fun _ _=>bA [] J J aw J J J ?_)));refine aG () O J J J
   ·(exfalso;have h0:=h4;revert h0;simp;exact hk)
 ·exact iB e s pc (rs r i.d v) (rp r i.d v) st (pc+4) hst (yr hx.h0)
theorem Fi(e:Me)(s:Mm)(n:Nat)(hs:MO s n)(i:Qi)(pc:Int)(r:Int→Int)(st:Int)(hx:Stx s i pc r st)(hb:byL s.d)(ho:i.op=23)(hq4:(wU (r i.a+i.imm))+4≤s.d.length)(hok:∀k:Int,0≤k→k<4→zN s (IntKind.u32.wrap ((wU (r i.a+i.imm))+k)) 1=true):
  aW prog 115 [.agg (sR pc r st).toArray,Pt e.m] [bj e.m 157 (mR e),own 5 1 cn (sv e.vd) (s).d,own 5 1 cn (sv e.vi) (s).i,own 3 1 eI (sv e.vr) (s).r] [] (.agg (oC (pc+4) (rp r i.d (Cw s.d (wU (r i.a+i.imm)).toNat)) (st+1) 0 0).toArray) [bj e.m 157 (mR e),own 5 1 cn (sv e.vd) (s).d,own 5 1 cn (sv e.vi) (s).i,own 3 1 eI (sv e.vr) (s).r]:=by
 have hdd:=hx.f.hv.d;have haa:=hx.f.hv.a;have hbb:=hx.f.hv.b;have him:=hx.f.imm;have hpp:=hx.f.p;have hp2:=hx.p;have hst:=hx.hst;have hk:kL i.op=0:=by rw [ho];rfl
 refine hZ e s n hs i pc r st hx fun w0 M H b2 b4 b6 b7=> ?_
 refine bC (X:=Unit) (fun _=>True) (fun _=> [(4,Pt b4),(7,Pt b7),(11,I3 (pc+4))]) (fun _=> [(20,bj e.m 157 (mR e)),(21,own 5 1 cn (sv e.vd) (s).d),(22,own 5 1 cn (sv e.vi) (s).i),(23,own 3 1 eI (sv e.vr) (s).r),(4,bj b4 207 (oC 0 sd 0 0 0)),(7,bj b7 78 (sR pc (rs r i.d (Cw s.d (wU (r i.a+i.imm)).toNat)) st))]) (fun _=> []) ?_ (fun _ _=> ?_)
 ·refine aA ?_;refine qp (by omega) (qn hk ?_);refine aq (aD ct J (aR 6 t3 J J J J (ar J J bv (ad J (aH [] J J O (fun hg1=>ah ct J) J (aH [(88,_)] J J ⟨J,O⟩ (fun hg2=>ag t3 J J (ax (k:=6) J J)) J (aH [(88,_),(89,_)] J J ⟨J,J,O⟩ (fun hg3=>aQ J J bv) J (aP (bH J J J) (am J (aa (ap J (fun h4=> ?_) (fun h4=> ?_))))))))))))
  ·(try simp only [bl]at h4);refine aq (am J (aa (aU (aD ct J (aR 6 t3 J J J J (ar J J bv (aa (ap J (fun h5=> ?_) (fun h5=> ?_)))))))))
   ·(exfalso;have h0:=h5;revert h0;simp;try omega)
   ·(try simp only [bl]at h5);refine aC (aq (ad J (ad J (aD ef J (aR 6 eA J J J J (ar J J (co J) (ad J (c_ (xs:= [.tmp 95,.tmp 99,.tmp 100]) (GB e s n hs (wU (r i.a+i.imm)) (mC _) hb hq4 hok) Rt [20,21,22,23] [] [20,21,22,23] J J J (fun _ _=>aZ jo J J fun b14=>av (k:=14) jo J J J J J J (aa (aU (aD qd J (aR 14 t4 J J J J (aP (cZ J) (aa ?_)))))))))))))));refine ap J (fun h6=> ?_) (fun h6=> ?_)
    ·cases h6
    ·(try simp only [bl]at h6);refine aC (ak (aD iq J (aR 6 t3 J J J J (aD ss J (aR 14 eA J J J J (aD iy J (aP (dT (j:=i.d.toNat) underlying75 eA J J (by omega) (by omega)) (aB (k:=7) (us:= [I3 (Cw s.d (wU (r i.a+i.imm)).toNat)]) (c':=sR pc (rs r i.d (Cw s.d (wU (r i.a+i.imm)).toNat)) st) eA J J J J J J (ta hx.f.hv.d) (ow hx.f.hv.d) (aa (aG () O J J J))))))))))
  ·(exfalso;have h0:=h4;revert h0;simp;try omega)
 ·exact iB e s pc (rs r i.d (Cw s.d (wU (r i.a+i.imm)).toNat)) (rp r i.d (Cw s.d (wU (r i.a+i.imm)).toNat)) st (pc+4) hst (yr hx.h0)
theorem Fg(e:Me)(s:Mm)(n:Nat)(hs:MO s n)(i:Qi)(pc:Int)(r:Int→Int)(st:Int)(hx:Stx s i pc r st)(ho:i.op=25)(hq4:(wU (r i.a+i.imm))+4≤s.d.length)(hok:∀k:Int,0≤k→k<4→zN s (IntKind.u32.wrap ((wU (r i.a+i.imm))+k)) 2=true):
  aW prog 115 [.agg (sR pc r st).toArray,Pt e.m] [bj e.m 157 (mR e),own 5 1 cn (sv e.vd) (s).d,own 5 1 cn (sv e.vi) (s).i,own 3 1 eI (sv e.vr) (s).r] [] (.agg (oC (pc+4) r (st+1) 0 0).toArray) [bj e.m 157 (mR e),own 5 1 cn (sv e.vd) ({s with d:=pk s.d (wU (r i.a+i.imm)).toNat (fP (r i.d))}).d,own 5 1 cn (sv e.vi) ({s with d:=pk s.d (wU (r i.a+i.imm)).toNat (fP (r i.d))}).i,own 3 1 eI (sv e.vr) ({s with d:=pk s.d (wU (r i.a+i.imm)).toNat (fP (r i.d))}).r]:=by
 have hdd:=hx.f.hv.d;have haa:=hx.f.hv.a;have hbb:=hx.f.hv.b;have him:=hx.f.imm;have hpp:=hx.f.p;have hp2:=hx.p;have hst:=hx.hst;have hk:kL i.op=0:=by rw [ho];rfl
 refine hZ e s n hs i pc r st hx fun w0 M H b2 b4 b6 b7=> ?_
 refine bC (X:=Unit) (fun _=>True) (fun _=> [(4,Pt b4),(7,Pt b7),(11,I3 (pc+4))]) (fun _=> [(20,bj e.m 157 (mR e)),(21,own 5 1 cn (sv e.vd) ({s with d:=pk s.d (wU (r i.a+i.imm)).toNat (fP (r i.d))}).d),(22,own 5 1 cn (sv e.vi) ({s with d:=pk s.d (wU (r i.a+i.imm)).toNat (fP (r i.d))}).i),(23,own 3 1 eI (sv e.vr) ({s with d:=pk s.d (wU (r i.a+i.imm)).toNat (fP (r i.d))}).r),(4,bj b4 207 (oC 0 sd 0 0 0)),(7,bj b7 78 (sR pc r st))]) (fun _=> []) ?_ (fun _ _=> ?_)
 ·refine aA ?_;refine qp (by omega) (qn hk (rG (by omega) ?_));refine aq (aD ct J (aR 6 t3 J J J J (ar J J bv (ad J (aH [] J J O (fun hg1=>ah ct J) J (aH [(120,_)] J J ⟨J,O⟩ (fun hg2=>ag t3 J J (ax (k:=6) J J)) J (aH [(120,_),(121,_)] J J ⟨J,J,O⟩ (fun hg3=>aQ J J bv) J (aP (bH J J J) (am J (aa (ap J (fun h4=> ?_) (fun h4=> ?_))))))))))))
  ·(try simp only [bl]at h4);refine aq (am J (aa (aU (aD ct J (aR 6 t3 J J J J (ar J J bv (aa (ap J (fun h5=> ?_) (fun h5=> ?_)))))))))
   ·(exfalso;have h0:=h5;revert h0;simp;try omega)
   ·(try simp only [bl]at h5);refine aC (aq (ad J (ad J (aD ef J (aR 6 eA J J J J (ar J J (co J) (ad J (ad J (c_ (xs:= [.tmp 127,.tmp 131,.tmp 132,.tmp 133]) (DK e s n hs (wU (r i.a+i.imm)) (mC _) (r i.d) (hx.hr _) hq4 hok) Rs [20,21,22,23] [] [20,21,22,23] J J J (fun _ _=>aZ jo J J fun b16=>av (k:=16) jo J J J J J J (az J (aD qd J (aR 16 t4 J J J J (aP (cZ J) (aa ?_)))))))))))))));refine ap J (fun h6=> ?_) (fun h6=> ?_)
    ·cases h6
    ·(try simp only [bl]at h6);refine aC (aG () O J J J)
  ·(exfalso;have h0:=h4;revert h0;simp;try omega)
 ·exact iB e {s with d:=pk s.d (wU (r i.a+i.imm)).toNat (fP (r i.d))} pc r r st (pc+4) hst (I8 hx.h0)
theorem DL(e:Me)(s:Mm)(n:Nat)(hs:MO s n)(i:Qi)(pc:Int)(r:Int→Int)(st:Int)(hx:Stx s i pc r st)(ho:i.op=27):
  aW prog 115 [.agg (sR pc r st).toArray,Pt e.m] [bj e.m 157 (mR e),own 5 1 cn (sv e.vd) (s).d,own 5 1 cn (sv e.vi) (s).i,own 3 1 eI (sv e.vr) (s).r] [] (.agg (oC ((wU (r i.a+i.imm))/4*4) (rp r i.d (pc+4)) (st+1) 0 0).toArray) [bj e.m 157 (mR e),own 5 1 cn (sv e.vd) (s).d,own 5 1 cn (sv e.vi) (s).i,own 3 1 eI (sv e.vr) (s).r]:=by
 have hdd:=hx.f.hv.d;have haa:=hx.f.hv.a;have hbb:=hx.f.hv.b;have him:=hx.f.imm;have hpp:=hx.f.p;have hp2:=hx.p;have hst:=hx.hst;have hk:kL i.op=0:=by rw [ho];rfl
 refine hZ e s n hs i pc r st hx fun w0 M H b2 b4 b6 b7=> ?_
 refine bC (X:=Unit) (fun _=>True) (fun _=> [(4,Pt b4),(7,Pt b7),(11,I3 ((wU (r i.a+i.imm))/4*4))]) (fun _=> [(20,bj e.m 157 (mR e)),(21,own 5 1 cn (sv e.vd) (s).d),(22,own 5 1 cn (sv e.vi) (s).i),(23,own 3 1 eI (sv e.vr) (s).r),(4,bj b4 207 (oC 0 sd 0 0 0)),(7,bj b7 78 (sR pc (rs r i.d (pc+4)) st))]) (fun _=> []) ?_ (fun _ _=> ?_)
 ·refine aA ?_;refine qp (by omega) (qn hk (rG (by omega) (uc (by omega) ?_)));refine aq (aD ct J (aR 6 t3 J J J J (ar J J bv (am J (aa (ap J (fun h1=> ?_) (fun h1=> ?_)))))))
  ·(try simp only [bl]at h1);refine aq (aD iq J (aR 6 t3 J J J J (ad J (aD iy J (aP (dT (j:=i.d.toNat) underlying75 eA J J (by omega) (by omega)) (aB (k:=7) (us:= [I3 (pc+4)]) (c':=sR pc (rs r i.d (pc+4)) st) eA J J J J J J (ta hx.f.hv.d) (ow hx.f.hv.d) (aa (ak (ad J (aD ef J (aR 6 eA J J J J (ar J J (co J) (ar J J (ml (by decide) (rm (mC _) (by decide))) (ar J J (fN (O_ _)) (am J (aa (aG () O J J J)))))))))))))))))
  ·(exfalso;have h0:=h1;revert h0;simp;try omega)
 ·exact iB e s pc (rs r i.d (pc+4)) (rp r i.d (pc+4)) st ((wU (r i.a+i.imm))/4*4) hst (yr hx.h0)
theorem Fl(e:Me)(s:Mm)(n:Nat)(hs:MO s n)(i:Qi)(pc:Int)(r:Int→Int)(st:Int)(hx:Stx s i pc r st)(ho:i.op=32):
  aW prog 115 [.agg (sR pc r st).toArray,Pt e.m] [bj e.m 157 (mR e),own 5 1 cn (sv e.vd) (s).d,own 5 1 cn (sv e.vi) (s).i,own 3 1 eI (sv e.vr) (s).r] [] (.agg (oC (if r i.d=r i.a then wU (pc+4*i.imm)else pc+4) r (st+1) 0 0).toArray) [bj e.m 157 (mR e),own 5 1 cn (sv e.vd) (s).d,own 5 1 cn (sv e.vi) (s).i,own 3 1 eI (sv e.vr) (s).r]:=by
 have hdd:=hx.f.hv.d;have haa:=hx.f.hv.a;have hbb:=hx.f.hv.b;have him:=hx.f.imm;have hpp:=hx.f.p;have hp2:=hx.p;have hst:=hx.hst;have hk:kL i.op=0:=by rw [ho];rfl
 refine hZ e s n hs i pc r st hx fun w0 M H b2 b4 b6 b7=> ?_
 refine bC (X:=Unit) (fun _=>True) (fun _=> [(4,Pt b4),(7,Pt b7),(11,I3 (if r i.d=r i.a then wU (pc+4*i.imm)else pc+4))]) (fun _=> [(20,bj e.m 157 (mR e)),(21,own 5 1 cn (sv e.vd) (s).d),(22,own 5 1 cn (sv e.vi) (s).i),(23,own 3 1 eI (sv e.vr) (s).r),(4,bj b4 207 (oC 0 sd 0 0 0)),(7,bj b7 78 (sR pc r st))]) (fun _=> []) ?_ (fun _ _=> ?_)
 ·refine aA ?_;refine qp (by omega) (qn hk (rG (by omega) (uc (by omega) (qW (by omega) ?_))));refine aq (aD ct J (aR 6 t3 J J J J (ar J J iz (ad J (aH [] J J O (fun hg1=>ah ct J) J (aH [(162,_)] J J ⟨J,O⟩ (fun hg2=>ag t3 J J (ax (k:=6) J J)) J (aH [(162,_),(163,_)] J J ⟨J,J,O⟩ (fun hg3=>aQ J J mt) J (aP (bH J J J) (am J (aa (ap J (fun h4=> ?_) (fun h4=> ?_))))))))))))
  ·(try simp only [bl]at h4);refine aq (aD ct J (aR 6 t3 J J J J (ad J (ad J ?_))));rw [ho];refine ai (xs:= [.tmp 167,.tmp 168,.tmp 169]) (uK (r i.d) (r i.a)) LX [] [] [] (fun _ _=>am J (az J (ad J (aa (ap J (fun h5=> ?_) (fun h5=> ?_))))))
   ·(try simp only [bl]at h5);rw [aj h5];refine ak (aD jE J (aR 7 eA J J J J (aD ef J (aR 6 eA J J J J (ar J J (fN J) (ar J J (co (c:=wU (pc+4*i.imm)) (z4 _ _)) (am J (aa (aG () O J J J)))))))))
   ·(try simp only [bl]at h5);rw [ac h5];refine aC (aG () O J J J)
  ·(exfalso;have h0:=h4;revert h0;simp;try omega)
 ·exact iB e s pc r r st (if r i.d=r i.a then wU (pc+4*i.imm)else pc+4) hst (I8 hx.h0)
theorem DM(e:Me)(s:Mm)(n:Nat)(hs:MO s n)(i:Qi)(pc:Int)(r:Int→Int)(st:Int)(hx:Stx s i pc r st)(ho:i.op=35):
  aW prog 115 [.agg (sR pc r st).toArray,Pt e.m] [bj e.m 157 (mR e),own 5 1 cn (sv e.vd) (s).d,own 5 1 cn (sv e.vi) (s).i,own 3 1 eI (sv e.vr) (s).r] [] (.agg (oC (if r i.d≥r i.a then wU (pc+4*i.imm)else pc+4) r (st+1) 0 0).toArray) [bj e.m 157 (mR e),own 5 1 cn (sv e.vd) (s).d,own 5 1 cn (sv e.vi) (s).i,own 3 1 eI (sv e.vr) (s).r]:=by
 have hdd:=hx.f.hv.d;have haa:=hx.f.hv.a;have hbb:=hx.f.hv.b;have him:=hx.f.imm;have hpp:=hx.f.p;have hp2:=hx.p;have hst:=hx.hst;have hk:kL i.op=0:=by rw [ho];rfl
 refine hZ e s n hs i pc r st hx fun w0 M H b2 b4 b6 b7=> ?_
 refine bC (X:=Unit) (fun _=>True) (fun _=> [(4,Pt b4),(7,Pt b7),(11,I3 (if r i.d≥r i.a then wU (pc+4*i.imm)else pc+4))]) (fun _=> [(20,bj e.m 157 (mR e)),(21,own 5 1 cn (sv e.vd) (s).d),(22,own 5 1 cn (sv e.vi) (s).i),(23,own 3 1 eI (sv e.vr) (s).r),(4,bj b4 207 (oC 0 sd 0 0 0)),(7,bj b7 78 (sR pc r st))]) (fun _=> []) ?_ (fun _ _=> ?_)
 ·refine aA ?_;refine qp (by omega) (qn hk (rG (by omega) (uc (by omega) (qW (by omega) ?_))));refine aq (aD ct J (aR 6 t3 J J J J (ar J J iz (ad J (aH [] J J O (fun hg1=>ah ct J) J (aH [(162,_)] J J ⟨J,O⟩ (fun hg2=>ag t3 J J (ax (k:=6) J J)) J (aH [(162,_),(163,_)] J J ⟨J,J,O⟩ (fun hg3=>aQ J J mt) J (aP (bH J J J) (am J (aa (ap J (fun h4=> ?_) (fun h4=> ?_))))))))))))
  ·(try simp only [bl]at h4);refine aq (aD ct J (aR 6 t3 J J J J (ad J (ad J ?_))));rw [ho];refine ai (xs:= [.tmp 167,.tmp 168,.tmp 169]) (uJ (r i.d) (r i.a)) LX [] [] [] (fun _ _=>am J (az J (ad J (aa (ap J (fun h5=> ?_) (fun h5=> ?_))))))
   ·(try simp only [bl]at h5);rw [aj h5];refine ak (aD jE J (aR 7 eA J J J J (aD ef J (aR 6 eA J J J J (ar J J (fN J) (ar J J (co (c:=wU (pc+4*i.imm)) (z4 _ _)) (am J (aa (aG () O J J J)))))))))
   ·(try simp only [bl]at h5);rw [ac h5];refine aC (aG () O J J J)
  ·(exfalso;have h0:=h4;revert h0;simp;try omega)
 ·exact iB e s pc r r st (if r i.d≥r i.a then wU (pc+4*i.imm)else pc+4) hst (I8 hx.h0)
theorem Fj(e:Me)(s:Mm)(n:Nat)(hs:MO s n)(i:Qi)(pc:Int)(r:Int→Int)(st:Int)(hx:Stx s i pc r st)(ho:i.op=40):
  aW prog 115 [.agg (sR pc r st).toArray,Pt e.m] [bj e.m 157 (mR e),own 5 1 cn (sv e.vd) (s).d,own 5 1 cn (sv e.vi) (s).i,own 3 1 eI (sv e.vr) (s).r] [] (.agg (oC (wU (pc+4*i.imm)) (rp r i.d (pc+4)) (st+1) 0 0).toArray) [bj e.m 157 (mR e),own 5 1 cn (sv e.vd) (s).d,own 5 1 cn (sv e.vi) (s).i,own 3 1 eI (sv e.vr) (s).r]:=by
 have hdd:=hx.f.hv.d;have haa:=hx.f.hv.a;have hbb:=hx.f.hv.b;have him:=hx.f.imm;have hpp:=hx.f.p;have hp2:=hx.p;have hst:=hx.hst;have hk:kL i.op=0:=by rw [ho];rfl
 refine hZ e s n hs i pc r st hx fun w0 M H b2 b4 b6 b7=> ?_
 refine bC (X:=Unit) (fun _=>True) (fun _=> [(4,Pt b4),(7,Pt b7),(11,I3 (wU (pc+4*i.imm)))]) (fun _=> [(20,bj e.m 157 (mR e)),(21,own 5 1 cn (sv e.vd) (s).d),(22,own 5 1 cn (sv e.vi) (s).i),(23,own 3 1 eI (sv e.vr) (s).r),(4,bj b4 207 (oC 0 sd 0 0 0)),(7,bj b7 78 (sR pc (rs r i.d (pc+4)) st))]) (fun _=> []) ?_ (fun _ _=> ?_)
 ·refine aA ?_;refine qp (by omega) (qn hk (rG (by omega) (uc (by omega) (qW (by omega) (xE (by omega) ?_)))));refine aq (aD ct J (aR 6 t3 J J J J (ar J J bv (am J (aa (ap J (fun h1=> ?_) (fun h1=> ?_)))))))
  ·(try simp only [bl]at h1);refine aq (aD iq J (aR 6 t3 J J J J (ad J (aD iy J (aP (dT (j:=i.d.toNat) underlying75 eA J J (by omega) (by omega)) (aB (k:=7) (us:= [I3 (pc+4)]) (c':=sR pc (rs r i.d (pc+4)) st) eA J J J J J J (ta hx.f.hv.d) (ow hx.f.hv.d) (aa (ak (aD jE J (aR 7 eA J J J J (aD ef J (aR 6 eA J J J J (ar J J (fN J) (ar J J (co (c:=wU (pc+4*i.imm)) (z4 _ _)) (am J (aa (aG () O J J J)))))))))))))))))
  ·(exfalso;have h0:=h1;revert h0;simp;try omega)
 ·exact iB e s pc (rs r i.d (pc+4)) (rp r i.d (pc+4)) st (wU (pc+4*i.imm)) hst (yr hx.h0)
theorem Fh(e:Me)(s:Mm)(n:Nat)(hs:MO s n)(i:Qi)(pc:Int)(r:Int→Int)(st:Int)(hx:Stx s i pc r st)(ho:i.op=41):
  aW prog 115 [.agg (sR pc r st).toArray,Pt e.m] [bj e.m 157 (mR e),own 5 1 cn (sv e.vd) (s).d,own 5 1 cn (sv e.vi) (s).i,own 3 1 eI (sv e.vr) (s).r] [] (.agg (oC (pc+4) (rp r i.d (wU (i.imm*1024))) (st+1) 0 0).toArray) [bj e.m 157 (mR e),own 5 1 cn (sv e.vd) (s).d,own 5 1 cn (sv e.vi) (s).i,own 3 1 eI (sv e.vr) (s).r]:=by
 have hdd:=hx.f.hv.d;have haa:=hx.f.hv.a;have hbb:=hx.f.hv.b;have him:=hx.f.imm;have hpp:=hx.f.p;have hp2:=hx.p;have hst:=hx.hst;have hk:kL i.op=0:=by rw [ho];rfl
 refine hZ e s n hs i pc r st hx fun w0 M H b2 b4 b6 b7=> ?_
 refine bC (X:=Unit) (fun _=>True) (fun _=> [(4,Pt b4),(7,Pt b7),(11,I3 (pc+4))]) (fun _=> [(20,bj e.m 157 (mR e)),(21,own 5 1 cn (sv e.vd) (s).d),(22,own 5 1 cn (sv e.vi) (s).i),(23,own 3 1 eI (sv e.vr) (s).r),(4,bj b4 207 (oC 0 sd 0 0 0)),(7,bj b7 78 (sR pc (rs r i.d (wU (i.imm*1024))) st))]) (fun _=> []) ?_ (fun _ _=> ?_)
 ·refine aA ?_;refine qp (by omega) (qn hk (rG (by omega) (uc (by omega) (qW (by omega) (xE (by omega) (Bm (by omega) ?_))))));refine aq (aD ct J (aR 6 t3 J J J J (ar J J bv (am J (aa (ap J (fun h1=> ?_) (fun h1=> ?_)))))))
  ·(try simp only [bl]at h1);refine ak (aD iq J (aR 6 t3 J J J J (aD ef J (aR 6 eA J J J J (ar J J (jQ (by decide) (by decide) J) (aD iy J (aP (dT (j:=i.d.toNat) underlying75 eA J J (by omega) (by omega)) (aB (k:=7) (us:= [I3 (wU (i.imm*1024))]) (c':=sR pc (rs r i.d (wU (i.imm*1024))) st) eA J J J J J J (ta hx.f.hv.d) (ow hx.f.hv.d) (aa (aG () O J J J))))))))))
  ·(exfalso;have h0:=h1;revert h0;simp;try omega)
 ·exact iB e s pc (rs r i.d (wU (i.imm*1024))) (rp r i.d (wU (i.imm*1024))) st (pc+4) hst (yr hx.h0)
theorem Ff(e:Me)(s:Mm)(n:Nat)(hs:MO s n)(i:Qi)(pc:Int)(r:Int→Int)(st:Int)(hx:Stx s i pc r st)(ho:i.op=48):
  aW prog 115 [.agg (sR pc r st).toArray,Pt e.m] [bj e.m 157 (mR e),own 5 1 cn (sv e.vd) (s).d,own 5 1 cn (sv e.vi) (s).i,own 3 1 eI (sv e.vr) (s).r] [] (.agg (oC pc r st 4 i.imm).toArray) [bj e.m 157 (mR e),own 5 1 cn (sv e.vd) (s).d,own 5 1 cn (sv e.vi) (s).i,own 3 1 eI (sv e.vr) (s).r]:=by
 have hdd:=hx.f.hv.d;have haa:=hx.f.hv.a;have hbb:=hx.f.hv.b;have him:=hx.f.imm;have hpp:=hx.f.p;have hp2:=hx.p;have hst:=hx.hst;have hk:kL i.op=0:=by rw [ho];rfl
 refine hZ e s n hs i pc r st hx fun w0 M H b2 b4 b6 b7=> ?_
 refine bC (X:=Unit) (fun _=>False) (fun _=> []) (fun _=> []) (fun _=> []) ?_ (fun _ hF=> ?_)
 ·refine aA ?_;refine qp (by omega) (qn hk (rG (by omega) (uc (by omega) (qW (by omega) (xE (by omega) (Bm (by omega) (Hr (by omega) ?_)))))));refine aq (aD ct J (aR 6 t3 J J J J (ar J J bv (am J (aa (ap J (fun h1=> ?_) (fun h1=> ?_)))))))
  ·(try simp only [bl]at h1);refine aq (aP (aM zL J J J (bp (k:=2) J)) (aD ef J (aR 6 eA J J J J (ai (xs:= [.tmp 208,.const (I6 4),.tmp 210]) (o8 pc r st 4 i.imm) LY [] [] [] (fun _ _=>av (k:=4) nJ J J J J J J (aa (ay (aN () O J (ce (bw nJ J J J (bp (k:=4) J))) J [20,21,22,23] [] J J J))))))))
  ·(exfalso;have h0:=h1;revert h0;simp;try omega)
 ·exact hF.elim
theorem Fk(e:Me)(s:Mm)(n:Nat)(hs:MO s n)(i:Qi)(pc:Int)(r:Int→Int)(st:Int)(hx:Stx s i pc r st)(ho:i.op=49):
  aW prog 115 [.agg (sR pc r st).toArray,Pt e.m] [bj e.m 157 (mR e),own 5 1 cn (sv e.vd) (s).d,own 5 1 cn (sv e.vi) (s).i,own 3 1 eI (sv e.vr) (s).r] [] (.agg (oC pc r st 3 0).toArray) [bj e.m 157 (mR e),own 5 1 cn (sv e.vd) (s).d,own 5 1 cn (sv e.vi) (s).i,own 3 1 eI (sv e.vr) (s).r]:=by
 have hdd:=hx.f.hv.d;have haa:=hx.f.hv.a;have hbb:=hx.f.hv.b;have him:=hx.f.imm;have hpp:=hx.f.p;have hp2:=hx.p;have hst:=hx.hst;have hk:kL i.op=0:=by rw [ho];rfl
 refine hZ e s n hs i pc r st hx fun w0 M H b2 b4 b6 b7=> ?_
 refine bC (X:=Unit) (fun _=>False) (fun _=> []) (fun _=> []) (fun _=> []) ?_ (fun _ hF=> ?_)
 ·refine aA ?_;refine qp (by omega) (qn hk (rG (by omega) (uc (by omega) (qW (by omega) (xE (by omega) (Bm (by omega) (Hr (by omega) (N7 (by omega) ?_))))))));refine aq (aD ct J (aR 6 t3 J J J J (ar J J bv (am J (aa (ap J (fun h1=> ?_) (fun h1=> ?_)))))))
  ·(try simp only [bl]at h1);refine aq (aP (aM zL J J J (bp (k:=2) J)) (ai (xs:= [.tmp 216,.const (I6 3),.const (I3 0)]) (o8 pc r st 3 0) LY [] [] [] (fun _ _=>av (k:=4) nJ J J J J J J (aa (ay (aN () O J (ce (bw nJ J J J (bp (k:=4) J))) J [20,21,22,23] [] J J J))))))
  ·(exfalso;have h0:=h1;revert h0;simp;try omega)
 ·exact hF.elim
theorem rc(n:Int):wU n=n%4294967296:=by
 unfold wU;simp [IntKind.wrap,IntKind.signed,IntKind.bits]
theorem Sn{a b:Int}(ha:oW a)(hb:oW b):bits .xor .u32 a b=((a.toNat^^^b.toNat:Nat):Int):=by
 have h1:bits .xor .u32 a b=IntKind.u32.wrap (((BitVec.ofInt 32 a^^^BitVec.ofInt 32 b).toNat:Nat):Int):=J;have h2:∀x:Int,oW x→(BitVec.ofInt 32 x).toNat=x.toNat:=fun x hx=>by
  rw [BitVec.toNat_ofInt,Int.emod_eq_of_lt hx.1 (by have:=hx.2;omega)]
 have h3:=(BitVec.ofInt 32 a^^^BitVec.ofInt 32 b).isLt;rw [h1,cc (by omega),BitVec.toNat_xor,h2 a ha,h2 b hb]
theorem ID{a b:Int}(ha:oW a)(hb:oW b):0<bits .xor .u32 a b↔¬a=b:=by
 rw [Sn ha hb];have h:a.toNat^^^b.toNat=0→a.toNat=b.toNat:=fun h=>by
  have h2:(a.toNat^^^b.toNat)^^^b.toNat=a.toNat:=by rw [Nat.xor_assoc,Nat.xor_self,Nat.xor_zero]
  rw [h,Nat.zero_xor]at h2;exact h2.symm
 have h1:=ha.1;have h2:=hb.1;constructor
 ·intro hx e;subst e;rw [Nat.xor_self]at hx;omega
 ·intro hn;have:¬(a.toNat^^^b.toNat=0):=fun e=>hn (by have:=h e;omega)
  omega
theorem IE{a:Int}(ha:oW a):bits .xor .u32 a 4294967295=4294967295-a:=by
 have h1:bits .xor .u32 a 4294967295=IntKind.u32.wrap (((BitVec.ofInt 32 a^^^BitVec.ofInt 32 4294967295).toNat:Nat):Int):=J;have h2:BitVec.ofInt 32 4294967295=BitVec.allOnes 32:=by decide
 rw [h1,h2,BitVec.xor_allOnes,BitVec.toNat_not,BitVec.toNat_ofInt];have h4:=ha.1;have h5:=ha.2;have h3:(a%((2^32:Nat):Int)).toNat=a.toNat:=by
  rw [Int.emod_eq_of_lt ha.1 (by omega)]
 rw [h3,cc (by omega)];omega
theorem Ta{x y:Int}(hx:oW x)(hx2:x%1024=0)(hy:0≤y∧y<1024):bits .or .u32 x y=x+y:=by
 have h1:bits .or .u32 x y=IntKind.u32.wrap (((BitVec.ofInt 32 x ||| BitVec.ofInt 32 y).toNat:Nat):Int):=J;have h2:∀x:Int,oW x→(BitVec.ofInt 32 x).toNat=x.toNat:=fun x hx=>by
  rw [BitVec.toNat_ofInt,Int.emod_eq_of_lt hx.1 (by have:=hx.2;omega)]
 have h3:=(BitVec.ofInt 32 x ||| BitVec.ofInt 32 y).isLt;have h4:=hx.1;have h5:=hx.2;rw [h1,cc (by omega),BitVec.toNat_or,h2 x hx,h2 y ⟨hy.1,by omega⟩];have e:x.toNat=2^10*(x.toNat/2^10):=by omega
 rw [e,←Nat.two_pow_add_eq_or_of_lt (show y.toNat<2^10 by omega)];omega
theorem O2(b:Bool):bits .xor .u32 (tr b) 1=tr (!b):=by cases b<;>rfl
structure Kr(ks:List Int)(c c':Qs):Prop where
 m:c'.m=c.m
 i:c'.inp=c.inp
 o:c'.out=c.out
 r:∀k,k∉ks→c'.r k=c.r k
theorem em{r:Int→Int}{d v:Int}(h:d≠0):rp r d v d=v:=aj ⟨rfl,h⟩
theorem cD{r:Int→Int}{d v k:Int}(h:k≠d):rp r d v k=r k:=ac fun e=>h e.1
theorem eJ{r:Int→Int}{d v:Int}{ks:List Int}(h:d∈ks):∀k,k∉ks→rp r d v k=r k:=fun k hk=>cD fun e=>hk (e▸h)
section
variable{code:List Qi}
theorem kw{n:Int}{c:Qs}{P:Qs→Prop}{op d a b:Int}{p:Nat}{v:Int}(hpc:c.pc=p)(h:code[p]?=some (q3 op d a b))(h2:zG op (c.r a) (c.r b)=some v)
  (h3:∀c',c'.pc=p+1→c'.r=rp c.r d v→c'.m=c.m→c'.inp=c.inp→c'.out=c.out→Go code (n-1) c' P) (ho:op<16:=by decide):Go code n c P:=
 GW (i:=q3 op d a b) (hpc▸h) (by rw [aj (show(q3 op d a b).op<16 from ho)];exact h2) (h3 _ (by rw [←hpc]) rfl rfl rfl rfl)
theorem kW{n:Int}{c:Qs}{P:Qs→Prop}{op d a x:Int}{p:Nat}{v:Int}(hpc:c.pc=p)(h:code[p]?=some (qi op d a x))(h2:zG op (c.r a) x=some v)
  (h3:∀c',c'.pc=p+1→c'.r=rp c.r d v→c'.m=c.m→c'.inp=c.inp→c'.out=c.out→Go code (n-1) c' P) (ho:¬op<16:=by decide):Go code n c P:=
 GW (i:=qi op d a x) (hpc▸h) (by rw [ac (show ¬(qi op d a x).op<16 from ho)];exact h2) (h3 _ (by rw [←hpc]) rfl rfl rfl rfl)
theorem P1{p:Nat}{c:Qs}{o:Ba}{a b:Int}(hb:gJ o=true)(hc:cAt code p (Dx o))(hl:p<9000)(hpc:c.pc=p)(h0:c.r 0=0)(h2:c.r 2=a)(h1:c.r 1=b)(ha:oW a)(hw:oW b):
  Go code 5 c fun c'=>c'.pc=p+(Dx o).length∧c'.r 1=(Ot o a b).getD 0∧Kr [1,3] c c':=by
 have one:∀{op x y:Int}{v:Int},cAt code p [q3 op 1 x y]→op<16→zG op (c.r x) (c.r y)=some v→Go code 5 c fun c'=>c'.pc=p+1∧c'.r 1=v∧Kr [1,3] c c':=fun{op x y v} hc ho hv=>
  kw hpc hc.head.1 (v:=v) hv (fun c' e1 e2 e3 e4 e5=>Go.done (by decide) ⟨e1,by rw [e2];exact em (by decide),e3,e4,e5,by rw [e2];exact eJ (by decide)⟩) ho
 have two:∀{op x y:Int}{v:Bool},cAt code p [q3 op 1 x y,qi 19 1 1 1]→op<16→zG op (c.r x) (c.r y)=some (tr v)→Go code 5 c fun c'=>c'.pc=p+2∧c'.r 1=tr (!v)∧Kr [1,3] c c':=fun{op x y v} hc ho hv=>
  kw hpc hc.head.1 (v:=tr v) hv (fun c' e1 e2 e3 e4 e5=>
   kW e1 hc.head.2.head.1 (v:=tr (!v)) (by rw [←O2 v,e2];rfl) fun c2 f1 f2 f3 f4 f5=>Go.done (by decide) ⟨by rw [f1],by rw [f2];exact em (by decide),f3.trans e3,f4.trans e4,f5.trans e5,fun k hk=>by rw [f2,eJ (by decide) k hk,e2];exact eJ (by decide) k hk⟩) ho
 have ne:∀{l:List Qi},cAt code p (q3 5 1 2 1::q3 11 1 0 1::l)→∀{P:Qs→Prop},(∀c',c'.pc=p+2→c'.r 1=tr (!decide (a=b))→Kr [1,3] c c'→Go code 3 c' P)→Go code 5 c P:=fun{l} hc{P} hP=>
  kw hpc hc.head.1 (v:=bits .xor .u32 a b) (by rw [←h2,←h1];rfl) fun c' e1 e2 e3 e4 e5=>
   kw e1 hc.head.2.head.1 (v:=tr (!decide (a=b))) (by
    show some (tr (decide (c'.r 0<c'.r 1)))=_;rw [e2,cD (by decide),h0,em (by decide)];have:=ID ha hw;by_cases h:a=b
    ·rw [decide_eq_false (fun x=>this.1 x h),decide_eq_true h];rfl
    ·rw [decide_eq_true (this.2 h),decide_eq_false h];rfl) fun c2 f1 f2 f3 f4 f5=>
   hP c2 f1 (by rw [f2];exact em (by decide)) ⟨f3.trans e3,f4.trans e4,f5.trans e5,fun k hk=>by rw [f2,eJ (by decide) k hk,e2];exact eJ (by decide) k hk⟩
 unfold gJ at hb;obtain⟨q,hq⟩:=Option.isSome_iff_exists.1 hb;have hm:=List.mem_of_find?_eq_some hq;have he:=List.find?_some hq;have he:q.1=o:=by simpa using he
 subst he;simp only [lvL,List.mem_cons,List.not_mem_nil,or_false]at hm;rcases hm with rfl|rfl|rfl|rfl|rfl|rfl|rfl|rfl|rfl|rfl|rfl|rfl|rfl|rfl|rfl|rfl
 · -- remainder
  have hc':cAt code p [q3 1 3 1 0,qi 32 1 0 3,q3 10 3 2 1,q3 9 3 3 1,q3 2 1 2 3]:=hc;show Go code 5 c fun c'=>c'.pc=p+5∧c'.r 1=(if b=0 then a else a%b)∧Kr [1,3] c c'
  refine kw hpc hc'.head.1 (v:=b) (by
   show some (wU (c.r 1+c.r 0))=_;rw [h1,h0,Int.add_zero,gZ hw]) fun c1 e1 e2 e3 e4 e5=> ?_
  refine xm (d:=1) (a:=0) (x:=3) (by rw [e1];exact hc'.head.2.head.1) ?_;rw [e2,cD (by decide),cD (by decide),h1,h0,e1];by_cases hz:b=0
  ·rw [aj hz,aj hz,n9 (q:=p+4) (by rw [show((p+4:Nat):Int)-((p+1:Nat):Int)=3 by omega];rfl) (by omega) (by omega)];refine kw (p:=p+4) J hc'.head.2.head.2.head.2.head.2.head.1 (v:=a) (by
    show some (wU (rp c.r 3 b 2-rp c.r 3 b 3))=_;rw [cD (by decide),em (by decide),h2,hz,Int.sub_zero,gZ ha]) fun c2 f1 f2 f3 f4 f5=> ?_
   refine Go.done (by decide) ⟨f1,by rw [f2];exact em (by decide),f3.trans e3,f4.trans e4,f5.trans e5,fun k hk=> ?_⟩;rw [f2,eJ (by decide) k hk];exact eJ (by decide) k hk
  ·rw [ac hz,ac hz];have hq1:a/b*b+a%b=a:=Int.ediv_mul_add_emod a b;have hq2:=Int.emod_nonneg a hz;have hq3:=Int.emod_lt_of_pos a (b:=b) (by have:=hw.1;omega);have hq4:0≤a/b:=Int.ediv_nonneg ha.1 hw.1;have hq5:0≤a/b*b:=Int.mul_nonneg hq4 hw.1;have ha2:=ha.2;have hw2:=hw.2;refine kw (p:=p+2) J hc'.head.2.head.2.head.1 (v:=a/b) (by
    show(if rp c.r 3 b 1=0 then none else some (rp c.r 3 b 2/rp c.r 3 b 1))=_;rw [cD (by decide),cD (by decide),h1,h2,ac hz]) fun c2 f1 f2 f3 f4 f5=> ?_
   refine kw f1 hc'.head.2.head.2.head.2.head.1 (v:=a/b*b) (by
    show some (wU (c2.r 3*c2.r 1))=_;rw [f2];show some (wU (rp (rp c.r 3 b) 3 (a/b) 3*rp (rp c.r 3 b) 3 (a/b) 1))=_;rw [em (by decide),cD (by decide),cD (by decide),h1,gZ ⟨hq5,by omega⟩]) fun c3 g1 g2 g3 g4 g5=> ?_
   refine kw g1 hc'.head.2.head.2.head.2.head.2.head.1 (v:=a%b) (by
    show some (wU (c3.r 2-c3.r 3))=_;rw [g2,f2];show some (wU (rp (rp (rp c.r 3 b) 3 (a/b)) 3 (a/b*b) 2-rp (rp (rp c.r 3 b) 3 (a/b)) 3 (a/b*b) 3))=_;rw [em (by decide),cD (by decide),cD (by decide),cD (by decide),h2,gZ (by omega)];exact congrArg some (by omega)) fun c4 k1 k2 k3 k4 k5=> ?_
   refine Go.done (by decide) ⟨k1,by rw [k2];exact em (by decide),((k3.trans g3).trans f3).trans e3,((k4.trans g4).trans f4).trans e4,((k5.trans g5).trans f5).trans e5,fun k hk=> ?_⟩;rw [k2,eJ (by decide) k hk,g2,eJ (by decide) k hk,f2,eJ (by decide) k hk];exact eJ (by decide) k hk
 · -- quotient
  have hc':cAt code p [qi 32 1 0 2,q3 10 1 2 1]:=hc;show Go code 5 c fun c'=>c'.pc=p+2∧c'.r 1=(if b=0 then 0 else a/b)∧Kr [1,3] c c'
  refine xm (d:=1) (a:=0) (x:=2) (by rw [hpc];exact hc'.head.1) ?_;rw [h1,h0,hpc];by_cases hz:b=0
  ·rw [aj hz,aj hz,n9 (q:=p+2) (by rw [show((p+2:Nat):Int)-(p:Int)=2 by omega];rfl) (by omega) (by omega)];exact Go.done (by decide) ⟨J,h1.trans hz,J,J,J,fun _ _=>J⟩
  ·rw [ac hz,ac hz];refine kw (p:=p+1) J hc'.head.2.head.1 (v:=a/b) (by
    show(if c.r 1=0 then none else some (c.r 2/c.r 1))=_;rw [h1,h2,ac hz]) fun c2 f1 f2 f3 f4 f5=> ?_
   exact Go.done (by decide) ⟨f1,by rw [f2];exact em (by decide),f3,f4,f5,by rw [f2];exact eJ (by decide)⟩
 ·exact one (op:=9) hc (by decide) (by rw [h2,h1];rfl)
 ·exact one (op:=2) hc (by decide) (by rw [h2,h1];rfl)
 ·exact one (op:=1) hc (by decide) (by rw [h2,h1];rfl)
 ·exact one (op:=7) hc (by decide) (by rw [h2,h1];rfl)
 ·exact one (op:=6) hc (by decide) (by rw [h2,h1];rfl)
 · -- at least
  have:=two (op:=11) (x:=2) (y:=1) (v:=decide (a<b)) hc (by decide) (by rw [h2,h1];rfl);show Go code 5 c fun c'=>c'.pc=p+2∧c'.r 1=tr (decide (a≥b))∧Kr [1,3] c c'
  rw [show decide (a≥b)= !decide (a<b) by rw [←decide_not];exact decide_eq_decide.2 (by omega)];exact this
 ·exact one (op:=11) (v:=tr (decide (b<a))) hc (by decide) (by rw [h2,h1];rfl)
 · -- at most
  have:=two (op:=11) (x:=1) (y:=2) (v:=decide (b<a)) hc (by decide) (by rw [h2,h1];rfl);show Go code 5 c fun c'=>c'.pc=p+2∧c'.r 1=tr (decide (a≤b))∧Kr [1,3] c c'
  rw [show decide (a≤b)= !decide (b<a) by rw [←decide_not];exact decide_eq_decide.2 (by omega)];exact this
 ·exact one (op:=11) hc (by decide) (by rw [h2,h1];rfl)
 ·exact ne (l:= []) hc fun c' e1 e2 e3=>Go.done (by decide) ⟨e1,e2,e3⟩
 · -- equal
  have hc':cAt code p [q3 5 1 2 1,q3 11 1 0 1,qi 19 1 1 1]:=hc;refine ne hc' fun c' e1 e2 e3=>kW e1 hc'.head.2.head.2.head.1 (v:=tr (decide (a=b))) (by
   show some (bits .xor .u32 (c'.r 1) 1)=_;rw [e2,O2,Bool.not_not]) fun c2 f1 f2 f3 f4 f5=> ?_
  exact Go.done (by decide) ⟨f1,by rw [f2];exact em (by decide),f3.trans e3.m,f4.trans e3.i,f5.trans e3.o,fun k hk=>by rw [f2,eJ (by decide) k hk];exact e3.r k hk⟩
 ·exact one (op:=3) hc (by decide) (by rw [h2,h1];rfl)
 ·exact one (op:=5) hc (by decide) (by rw [h2,h1];rfl)
 ·exact one (op:=4) hc (by decide) (by rw [h2,h1];rfl)
theorem Pi{p:Nat}{c:Qs}{o:Ba}{a:Int}(hb:cx o rf=true)(hc:cAt code p (EI o))(hpc:c.pc=p)(h0:c.r 0=0)(h1:c.r 1=a)(ha:oW a):
  Go code 2 c fun c'=>c'.pc=p+(EI o).length∧c'.r 1=(OK o a).getD 0∧Kr [1,2] c c':=by
 have two:∀{op x v:Int},cAt code p [qi 16 2 0 x,q3 op 1 1 2]→oW x→op<16→zG op a x=some v→Go code 2 c fun c'=>c'.pc=p+2∧c'.r 1=v∧Kr [1,2] c c':=fun{op x v} hc hx ho hv=>
  kW hpc hc.head.1 (v:=x) (by
   show some (wU (c.r 0+x))=_;rw [h0,Int.zero_add,gZ hx]) fun c' e1 e2 e3 e4 e5=>
   kw e1 hc.head.2.head.1 (v:=v) (by
    rw [e2];show zG op (rp c.r 2 x 1) (rp c.r 2 x 2)=_;rw [cD (by decide),em (by decide),h1];exact hv) (fun c2 f1 f2 f3 f4 f5=>Go.done (by decide) ⟨f1,by rw [f2];exact em (by decide),f3.trans e3,f4.trans e4,f5.trans e5,fun k hk=>by rw [f2,eJ (by decide) k hk,e2];exact eJ (by decide) k hk⟩) ho
 unfold cx at hb;obtain⟨q,hm,he⟩:=List.any_eq_true.1 hb;have he:o=q:=by simpa using he
 subst he;simp only [rf,List.mem_cons,List.not_mem_nil,or_false]at hm;rcases hm with rfl|rfl|rfl
 ·have hc':cAt code p [q3 2 1 0 1]:=hc;refine kw hpc hc'.head.1 (v:=wU (-a)) (by
   show some (wU (c.r 0-c.r 1))=_;rw [h0,h1,Int.zero_sub]) fun c' e1 e2 e3 e4 e5=>Go.done (by decide) ⟨e1,by rw [e2];exact em (by decide),e3,e4,e5,by rw [e2];exact eJ (by decide)⟩
 ·exact two (op:=5) hc (by decide) (by decide) (show some (bits .xor .u32 a 4294967295)=some (4294967295-a) by rw [IE ha])
 ·refine two (op:=11) hc (by decide) (by decide) ?_;show some (tr (decide (a<1)))=some (tr (decide (a=0)));have:=ha.1;rw [show decide (a<1)=decide (a=0)from decide_eq_decide.2 (by omega)]
theorem No{p:Nat}{c:Qs}{n:Int}(hc:cAt code p (rK n))(hpc:c.pc=p)(h0:c.r 0=0)(ha:oW n):
  Go code 2 c fun c'=>c'.pc=p+(rK n).length∧c'.r 1=n∧Kr [1] c c':=by
 unfold rK at hc ⊢;by_cases h:jO n=true
 ·rw [aj h]at hc ⊢;exact kW hpc hc.head.1 (v:=n) (by
   show some (wU (c.r 0+n))=_;rw [h0,Int.zero_add,gZ ha]) fun c' e1 e2 e3 e4 e5=>Go.done (by decide) ⟨e1,by rw [e2];exact em (by decide),e3,e4,e5,by rw [e2];exact eJ (by decide)⟩
 ·rw [ac h]at hc ⊢;have h1:=ha.1;have h2:=ha.2;refine NL (d:=1) (a:=0) (x:=n/1024) (by rw [hpc];exact hc.head.1) ?_;rw [gZ (by omega)];refine kW (p:=p+1) (by rw [←hpc]) hc.head.2.head.1 (v:=n) (by
   show some (bits .or .u32 (rp c.r 1 (n/1024*1024) 1) (n%1024))=_;rw [em (by decide),Ta ⟨by omega,by omega⟩ (by omega) (by omega)];exact congrArg some (by omega)) fun c' e1 e2 e3 e4 e5=>Go.done (by decide) ⟨e1,by rw [e2];exact em (by decide),e3,e4,e5,fun k hk=>by
    rw [e2,eJ (by decide) k hk];exact eJ (by decide) k hk⟩
end
theorem OB{b:Int}(hb:oW b):bits .and .u32 b 255=b%256:=by
 have h1:bits .and .u32 b 255=IntKind.u32.wrap (((BitVec.ofInt 32 b&&&BitVec.ofInt 32 255).toNat:Nat):Int):=J;have h4:=hb.1;have h5:=hb.2;have h2:(BitVec.ofInt 32 b).toNat=b.toNat:=by
  rw [BitVec.toNat_ofInt,Int.emod_eq_of_lt hb.1 (by omega)]
 have h3:(BitVec.ofInt 32 255).toNat=2^8-1:=by decide
 rw [h1,BitVec.toNat_and,h2,h3,Nat.and_two_pow_sub_one_eq_mod,cc (by omega)];omega
structure St(d F sp:Int)(c:Qs):Prop where
 z:c.r 0=0
 d:c.r 12=d
 f:c.r 13=F
 s:c.r 14=sp
theorem St.of{d F sp:Int}{c c':Qs}(h:St d F sp c)(hk:∀k:Int,k=0∨k=12∨k=13∨k=14→c'.r k=c.r k):St d F sp c':=
 ⟨(hk 0 (by simp)).trans h.z,(hk 12 (by simp)).trans h.d,(hk 13 (by simp)).trans h.f,(hk 14 (by simp)).trans h.s⟩
theorem St.kr{d F sp:Int}{c c':Qs}{ks:List Int}(h:St d F sp c)(hk:Kr ks c c')(hn:∀k∈ks,¬(k=0∨k=12∨k=13∨k=14)):St d F sp c':=
 h.of fun k hk'=>hk.r k fun hm=>hn k hm hk'
structure pSm(c:Qs)(s:Ms):Prop where
 m:∀i:Nat,i<256→c.m (8192+4*(i:Int))=s.mem i
 i:c.inp=s.inp
 o:c.out=s.out
theorem pSm.kr{c c':Qs}{s:Ms}{ks:List Int}(h:pSm c s)(hk:Kr ks c c'):pSm c' s:=⟨fun i hi=>by rw [hk.m];exact h.m i hi,hk.i.trans h.i,hk.o.trans h.o⟩
def va(o:Om)(F:Int)(x:Ba):Int:=wU (F+bI o x)
structure Fs(o:Om)(N:List Ba)(F sp:Int):Prop where
 ok:∀x∈N,Cl (va o F x)∧sp≤va o F x
 inj:∀x∈N,∀y∈N,va o F x=va o F y→x=y
def Fr(o:Om)(N:List Ba)(vs:Vs)(F:Int)(m:Int→Int):Prop:=∀x∈N,m (va o F x)=sW vs x
def lo(d:Nat):Int:=16384-256*d
structure Pr(o:Om)(N:List Ba)(vs:Vs)(d:Nat)(F sp:Int)(s:Ms)(c:Qs):Prop where
 st:St d F sp c
 fs:Fs o N F sp
 fr:Fr o N vs F c.m
 sm:pSm c s
 ok:okMs s
 vs:okVs vs
 al:sp%4=0∧sp≤16384
 fu:0≤s.fuel
 d1:1≤d∧d≤12
structure XO(fs:List Tf)(N:List Ba)(t:Tx):Prop where
 g:GX t
 r:rX t=true
 e:eX fs N t=0
theorem XO.kids{fs:List Tf}{N:List Ba}{k n:Int}{nm:Ba}{v:SV}{kids:List Tx}(h:XO fs N (.mk k n nm v kids)):∀u∈kids,XO fs N u:=by
 have hr:=h.r;have he:=h.e;have hg:=h.g;have hr2:(jC k nm kids.length&&(decide (k=1) || decide (n=0))&&ji kids)=true:=hr;simp only [Bool.and_eq_true]at hr2;have he2:jH fs N kids=0:=(bx.1 he).2;have hg2:GXs kids:=hg.2.2.2;clear he hr hg h;have:∀l:List Tx,GXs l→ji l=true→jH fs N l=0→∀u∈l,XO fs N u:=by
  intro l
  induction l with
  | nil=>intro _ _ _ u hu;simp at hu
  | cons t l ih=>
   intro h1 h2 h3 u hu;have h2':(rX t&&ji l)=true:=h2;rw [Bool.and_eq_true]at h2';obtain⟨h4,h5⟩:=bx.1 h3;rcases List.mem_cons.1 hu with rfl|hu
   ·exact⟨h1.1,h2'.1,h4⟩
   ·exact ih h1.2 h2'.2 h5 u hu
 exact this kids hg2 hr2.2 he2
theorem Pr.of{o:Om}{N:List Ba}{vs:Vs}{d:Nat}{F sp sp':Int}{s s':Ms}{c c':Qs}(h:Pr o N vs d F sp s c)(hst:St d F sp' c')(hsm:pSm c' s')(hok:okMs s')(hfu:0≤s'.fuel)(hm:∀a,sp≤a→c'.m a=c.m a)(hs:sp'≤sp)(ha:sp'%4=0):
  Pr o N vs d F sp' s' c':=
 ⟨hst,⟨fun x hx=>⟨(h.fs.ok x hx).1,Int.le_trans hs (h.fs.ok x hx).2⟩,h.fs.inj⟩,fun x hx=>(hm _ (h.fs.ok x hx).2).trans (h.fr x hx),hsm,hok,h.vs,⟨ha,by have:=h.al;omega⟩,hfu,h.d1⟩
theorem Pr.pay{o:Om}{N:List Ba}{vs:Vs}{d:Nat}{F sp:Int}{s:Ms}{c:Qs}(h:Pr o N vs d F sp s c)(hf:¬s.fuel≤0):Pr o N vs d F sp {s with fuel:=s.fuel-1} c:=
 ⟨h.st,h.fs,h.fr,⟨h.sm.m,h.sm.i,h.sm.o⟩,(Kp.pay h.ok hf).ok,h.vs,h.al,by dsimp only;omega,h.d1⟩
def Bk(code:List Qi)(c:Qs):Prop:=code[c.pc]?=some ⟨49,0,0,0,0⟩
def XR(code:List Qi)(p':Nat)(d:Nat)(F sp:Int)(c:Qs)(s:Ms):Re Int→Prop
 | .ok v s1=>0≤s1.fuel∧Go code (100*(s.fuel-s1.fuel)-40) c fun c'=>c'.pc=p'∧c'.r 1=v∧St d F sp c'∧pSm c' s1∧∀a,sp≤a→c'.m a=c.m a
 | .err e=>e=26→Go code (100*s.fuel+50) c (Bk code)
def KR(code:List Qi)(p':Nat)(d:Nat)(F sp:Int)(c:Qs)(s:Ms)(acc:List Int)(n:Nat):Re (List Int)→Prop
 | .ok ks s1=>0≤s1.fuel∧∃new,ks=acc++new∧new.length=n∧Go code (100*(s.fuel-s1.fuel)) c fun c'=>c'.pc=p'∧St d F (sp-4*(n:Int)) c'∧pSm c' s1∧(∀a,sp≤a→c'.m a=c.m a)∧∀(i:Nat) x,new[i]?=some x→c'.m (sp-4*((i:Int)+1))=x
 | .err e=>e=26→Go code (100*s.fuel+50) c (Bk code)
def CR(code:List Qi)(q:Nat)(d:Nat)(F sp:Int)(n:Nat)(c:Qs)(s:Ms):Re Int→Prop
 | .ok v s1=>0≤s1.fuel∧Go code (100*(s.fuel-s1.fuel)+45) c fun c'=>c'.pc=q∧c'.r 1=v∧St d F sp c'∧pSm c' s1∧∀a,sp+4*(n:Int)≤a→c'.m a=c.m a
 | .err e=>e=26→Go code (100*s.fuel+100) c (Bk code)
section
variable(code:List Qi)(fs:List Tf)(S:Ba→Int)
def HX(g:Nat):Prop:=∀(d:Nat) vs t s r,lX g fs d vs t s=some r→∀o N p F sp c,XO fs N t→cAt code p (zX o S t p)→p+wX t≤1984→c.pc=p→Pr o N vs d F sp s c→lo d+16*dX t≤sp→XR code (p+wX t) d F sp c s r
def HK(g:Nat):Prop:=∀(d:Nat) vs acc l s r,my g fs d vs acc l s=some r→∀o N p F sp c,(∀u∈l,XO fs N u)→cAt code p (wl o S l p)→p+uA l≤1984→c.pc=p→Pr o N vs d F sp s c→lo d+16*f_ l+4*l.length≤sp→KR code (p+uA l) d F sp c s acc l.length r
def HC(g:Nat):Prop:=∀(d:Nat) f al s r,u0 g fs d f al s=some r→∀F sp c q,cV fs f.name=some f→al.length=f.ps.length→(∀a∈al,oW a)→c.pc=(S f.name).toNat→c.r 15=jL q→q<3000→St d F sp c→pSm c s→okMs s→0≤s.fuel→
 sp%4=0→sp+4*al.length≤16384→lo d≤sp→d≤12→(∀(i:Nat) x,al[i]?=some x→c.m (sp+4*((al.length:Int)-1-i))=x)→CR code q d F sp al.length c s r
end
theorem yZ{g:Nat}{fs:List Tf}{d:Nat}{vs:Vs}{acc:List Int}{t:Tx}{l:List Tx}{s:Ms}{r:Re (List Int)}(h:my g fs d vs acc (t::l) s=some r):
  ∃g' rx,g'<g∧lX g' fs d vs t s=some rx∧((∃v s1,rx= .ok v s1∧my g' fs d vs (acc++ [v]) l s1=some r)∨∃e,rx= .err e∧r= .err e):=by
 cases g with
 | zero=>simp [my]at h
 | succ g=>
  rw [my]at h;cases hx:lX g fs d vs t s with
  | none=>rw [hx]at h;simp at h
  | some q=>
   rw [hx]at h;refine⟨g,q,Nat.lt_succ_self g,hx,?_⟩;cases q with
   | err e=>exact .inr ⟨e,rfl,(dY h).symm⟩
   | ok v s1=>exact .inl ⟨v,s1,rfl,h⟩
theorem AS{g:Nat}{fs:List Tf}{d:Nat}{vs:Vs}{acc:List Int}{s:Ms}{r:Re (List Int)}(h:my g fs d vs acc [] s=some r):r= .ok acc s:=by
 cases g with
 | zero=>simp [my]at h
 | succ g=>rw [my]at h;exact(dY h).symm
section
variable{code:List Qi}{c:Qs}{p:Nat}{d F sp:Int}
theorem nj{r:Int}(hc:cAt code p (ga r))(hpc:c.pc=p)(h:St d F sp c)(hr:r≠14)(hs:8196≤sp∧sp≤16384∧sp%4=0):
  Go code 2 c fun c'=>c'.pc=p+2∧St d F (sp-4) c'∧c'.m=mw c.m (sp-4) (c.r r)∧c'.inp=c.inp∧c'.out=c.out∧∀k,k≠14→c'.r k=c.r k:=by
 refine kW hpc hc.head.1 (v:=sp-4) (by
  show some (wU (c.r 14+4294967292))=_;rw [h.s,rc];exact congrArg some (by omega)) fun c1 e1 e2 e3 e4 e5=> ?_
 have h14:c1.r 14=sp-4:=by rw [e2];exact em (by decide)
 have hw:wU (c1.r 14+0)=sp-4:=by rw [h14,Int.add_zero,gZ (by omega)]
 have hk:∀k,k≠14→c1.r k=c.r k:=fun k hk=>by rw [e2];exact cD hk
 refine AZ (d:=r) (a:=14) (x:=0) (by rw [e1];exact hc.head.2.head.1) (by rw [hw];exact⟨by omega,by omega,by omega⟩) (Go.done (by decide) ⟨by show c1.pc+1=_;rw [e1],⟨(hk 0 (by decide)).trans h.z,(hk 12 (by decide)).trans h.d,(hk 13 (by decide)).trans h.f,h14⟩,?_,e4,e5,hk⟩);show mw c1.m (wU (c1.r 14+0)) (c1.r r)=_;rw [hw,e3,hk r hr]
theorem wO{r:Int}(hc:cAt code p (mA r))(hpc:c.pc=p)(h:c.r 14=sp)(hr:r≠14∧r≠0)(hs:Cl sp):
  Go code 2 c fun c'=>c'.pc=p+2∧c'.r r=c.m sp∧c'.r 14=sp+4∧Kr [r,14] c c':=by
 have hw:wU (c.r 14+0)=sp:=by rw [h,Int.add_zero,gZ ⟨by have:=hs.1;omega,by have:=hs.2.1;omega⟩]
 refine A0 (d:=r) (a:=14) (x:=0) (by rw [hpc];exact hc.head.1) (by rw [hw];exact hs) ?_;rw [hw];refine kW (p:=p+1) (by rw [←hpc]) hc.head.2.head.1 (v:=sp+4) (by
  show some (wU (rp c.r r (c.m sp) 14+4))=_;rw [cD (fun e=>hr.1 e.symm),h,gZ ⟨by have:=hs.1;omega,by have:=hs.2.1;omega⟩]) fun c1 e1 e2 e3 e4 e5=> ?_
 refine Go.done (by decide) ⟨e1,by rw [e2,cD hr.1];exact em hr.2,by rw [e2];exact em (by decide),e3,e4,e5,fun k hk=> ?_⟩;simp only [List.mem_cons,List.not_mem_nil,or_false,not_or]at hk;rw [e2,cD hk.2];exact cD hk.1
theorem C7{r x:Int}(hc:cAt code p (vh r))(hpc:c.pc=p)(hr:r≠0)(h:c.r r=x)(hx:oW x):
  Go code 2 c fun c'=>c'.pc=p+2∧c'.r r=4*(x%256)∧Kr [r] c c':=by
 refine kW hpc hc.head.1 (v:=x%256) (by
  show some (bits .and .u32 (c.r r) 255)=_;rw [h,OB hx]) fun c1 e1 e2 e3 e4 e5=> ?_
 refine kW e1 hc.head.2.head.1 (v:=4*(x%256)) (by
  show some (wU (c1.r r*2^((2:Int)%32).toNat))=_;rw [e2,em hr,show((2:Int)^((2:Int)%32).toNat)=4 from J,gZ (by omega)];exact congrArg some (by omega)) fun c2 f1 f2 f3 f4 f5=> ?_
 refine Go.done (by decide) ⟨f1,by rw [f2];exact em hr,f3.trans e3,f4.trans e4,f5.trans e5,fun k hk=> ?_⟩;simp only [List.mem_cons,List.not_mem_nil,or_false]at hk;rw [f2,cD hk,e2];exact cD hk
end
theorem FG{r:Int→Int}{v k:Int}:rp r 0 v k=r k:=ac fun h=>h.2 rfl
theorem vH{d:Nat}(h:d≤12):13312≤lo d:=by unfold lo;omega
theorem lx{m:Int→Int}{a v k:Int}(h:k≠a):mw m a v k=m k:=ac h
theorem rz{m:Int→Int}{a v:Int}:mw m a v a=v:=aj rfl
theorem pSm.push{c c':Qs}{s:Ms}{a v:Int}(h:pSm c s)(hm:c'.m=mw c.m a v)(hi:c'.inp=c.inp)(ho:c'.out=c.out)(ha:9216≤a):pSm c' s:=
 ⟨fun i hi=>by rw [hm,lx (by omega)];exact h.m i hi,hi.trans h.i,ho.trans h.o⟩
section
variable{code:List Qi}{fs:List Tf}{S:Ba→Int}{c:Qs}{p:Nat}{d:Nat}{F sp:Int}{o:Om}{N:List Ba}{vs:Vs}{s:Ms}
theorem KV{g1 g2:Nat}{a b:Tx}{nm:Ba}{r1:Re Int}{w:Nat}(hF:VF fs)(h1:HX code fs S g1)(h2:HX code fs S g2)(hb:gJ nm=true)(ha:lX g1 fs d vs a s=some r1)(hva:VX fs a)(hvb:VX fs b)
  (hxa:XO fs N a) (hxb:XO fs N b) (hc:cAt code p (zX o S a p++(ga 1++(zX o S b (p+(zX o S a p).length+2)++(mA 2++Dx nm))))) (hw:w=wX a+(wX b+(4+(Dx nm).length))) (hl:p+w≤1984) (hpc:c.pc=p) (hp:Pr o N vs d F sp s c) (hs1:lo d+16*dX a≤sp) (hs2:lo d+16*dX b+4≤sp)
  {r:Re Int} (hr:(∃v s1,r1= .ok v s1∧∃r2,lX g2 fs d vs b s1=some r2∧((∃x s2,r2= .ok x s2∧r= .ok ((Ot nm v x).getD 0) s2)∨∃e,r2= .err e∧r= .err e))∨∃e,r1= .err e∧r= .err e):
  XR code (p+w) d F sp c s r:=by
 have hd:=vH hp.d1.2;obtain⟨hca,hc⟩:=hc.app;obtain⟨hcp,hc⟩:=hc.app;obtain⟨hcb,hc⟩:=hc.app;obtain⟨hcq,hco⟩:=hc.app;rw [ir]at hcp hcb hcq hco;rw [ir]at hcq hco;have hX:=h1 d vs a s r1 ha o N p F sp c hxa hca (by omega) hpc hp hs1;rcases hr with⟨v,s1,rfl,r2,hb2,hr⟩|⟨e,rfl,rfl⟩
 ·obtain⟨hv,hk1⟩:=(mi hF g1).x d vs a s v s1 hva hp.vs hp.ok ha;obtain⟨hf1,hX⟩:=hX;have mid:∀c',(c'.pc=p+wX a∧c'.r 1=v∧St d F sp c'∧pSm c' s1∧∀x,sp≤x→c'.m x=c.m x)→Go code 2 c' fun c2=>c2.pc=p+wX a+2∧Pr o N vs d F (sp-4) s1 c2∧c2.m (sp-4)=v∧∀x,sp≤x→c2.m x=c.m x:=fun c' ⟨e1,e2,e3,e4,e5⟩=>
   (nj hcp e1 e3 (by decide) ⟨by omega,hp.al.2,hp.al.1⟩).weak (fun c2 ⟨f1,f2,f3,f4,f5,f6⟩=>by
    have hm:∀x,sp≤x→c2.m x=c.m x:=fun x hx=>by rw [f3,lx (by omega)];exact e5 x hx
    exact⟨f1,hp.of f2 (e4.push f3 f4 f5 (by omega)) hk1.ok hf1 hm (by omega) (by have:=hp.al;omega),by rw [f3,rz,e2],hm⟩) (Int.le_refl _)
  have hX2:=hX.seq mid (k:=100*(s.fuel-s1.fuel)-38) (by omega);rcases hr with⟨x,s2,rfl,rfl⟩|⟨e,rfl,rfl⟩
  ·obtain⟨hx,hk2⟩:=(mi hF g2).x d vs b s1 x s2 hvb hp.vs hk1.ok hb2;obtain⟨hf2,-⟩:0≤s2.fuel∧True:=by
    obtain⟨_,c2,_,_,e1,e2,e3,e4⟩:=hX2;have:=h2 d vs b s1 _ hb2 o N (p+wX a+2) F (sp-4) c2 hxb hcb (by omega) e1 e2 (by omega);exact⟨this.1,O⟩
   refine⟨hf2,hX2.seq (m:=100*(s1.fuel-s2.fuel)-33) (fun c2 ⟨e1,e2,e3,e4⟩=> ?_) (by omega)⟩;have hX3:=(h2 d vs b s1 _ hb2 o N (p+wX a+2) F (sp-4) c2 hxb hcb (by omega) e1 e2 (by omega)).2;refine hX3.seq (m:=7) (fun c3 ⟨f1,f2,f3,f4,f5⟩=> ?_) (by omega);refine(wO (p:=p+wX a+2+wX b) (r:=2) hcq f1 f3.s (by decide) ⟨by omega,by have:=hp.al;omega,by have:=hp.al;omega⟩).seq (m:=5) (fun c4 ⟨g1,g2,g3,g4⟩=> ?_) (by omega);have h0:c4.r 0=0:=(g4.r 0 (by decide)).trans f3.z;have h2':c4.r 2=v:=by rw [g2,f5 _ (Int.le_refl _),e3]
   have h1':c4.r 1=x:=(g4.r 1 (by decide)).trans f2;refine(P1 (p:=p+wX a+2+wX b+2) hb hco (by omega) g1 h0 h2' h1' hv hx).weak (fun c5 ⟨k1,k2,k3⟩=>⟨by rw [k1];omega,k2,?_,(f4.kr g4).kr k3,fun a ha=> ?_⟩) (Int.le_refl _)
   ·exact⟨(k3.r 0 (by decide)).trans h0,((k3.r 12 (by decide)).trans (g4.r 12 (by decide))).trans f3.d,((k3.r 13 (by decide)).trans (g4.r 13 (by decide))).trans f3.f,((k3.r 14 (by decide)).trans g3).trans (by omega)⟩
   ·rw [k3.m,g4.m,f5 a (by omega),e4 a ha]
  ·intro he;refine hX2.seq (m:=100*s1.fuel+50) (fun c2 ⟨e1,e2,e3,e4⟩=> ?_) (by omega);exact h2 d vs b s1 _ hb2 o N (p+wX a+2) F (sp-4) c2 hxb hcb (by omega) e1 e2 (by omega) he
 ·exact hX
end
section
variable{code:List Qi}{fs:List Tf}{S:Ba→Int}
structure HA(code:List Qi)(fs:List Tf)(S:Ba→Int)(g:Nat):Prop where
 x:∀g'<g,HX code fs S g'
 k:∀g'<g,HK code fs S g'
 c:∀g'<g,HC code fs S g'
theorem XO.vx{N:List Ba}{t:Tx}(h:XO fs N t):VX fs t:=KX t h.g h.r h.e
theorem XO.vxs{N:List Ba}:∀{l:List Tx},(∀u∈l,XO fs N u)→OE fs l
 | [],_=>trivial
 | t::r,h=>⟨(h t (by simp)).vx,XO.vxs fun u hu=>h u (by simp [hu])⟩
theorem JY{g:Nat}(hF:VF fs)(ih:HA code fs S g):HK code fs S g:=by
 intro d vs acc l s r h o N p F sp c hx hc hl hpc hp hsp;have hd:=vH hp.d1.2;cases l with
 | nil=>
  rw [AS h];refine⟨hp.fu,[],by simp,rfl,Go.done (by omega) ⟨by rw [hpc];rfl,?_,hp.sm,fun _ _=>rfl,fun i x hi=>by simp at hi⟩⟩;rw [show sp-4*(([]:List Tx).length:Int)=sp by simp];exact hp.st
 | cons t l=>
  obtain⟨g',rx,hg,hx1,hr⟩:=yZ h;have hdx:f_ (t::l)=max (dX t) (f_ l):=J;have hw:uA (t::l)=wX t+(2+uA l):=J;have hc':cAt code p (zX o S t p++(ga 1++wl o S l (p+(zX o S t p).length+2))):=hc;obtain⟨hca,hc2⟩:=hc'.app;obtain⟨hcp,hcl⟩:=hc2.app;rw [ir]at hcp hcl;rw [aY]at hsp;have hX:=ih.x g' hg d vs t s rx hx1 o N p F sp c (hx t (by simp)) hca (by omega) hpc hp (by omega);rcases hr with⟨v,s1,rfl,h2⟩|⟨e,rfl,rfl⟩
  ·obtain⟨hv,hk1⟩:=(mi hF g').x d vs t s v s1 (hx t (by simp)).vx hp.vs hp.ok hx1;obtain⟨hf1,hX⟩:=hX;have mid:∀c',(c'.pc=p+wX t∧c'.r 1=v∧St d F sp c'∧pSm c' s1∧∀x,sp≤x→c'.m x=c.m x)→Go code 2 c' fun c2=>c2.pc=p+wX t+2∧Pr o N vs d F (sp-4) s1 c2∧c2.m (sp-4)=v∧∀x,sp≤x→c2.m x=c.m x:=fun c' ⟨e1,e2,e3,e4,e5⟩=>
    (nj hcp e1 e3 (by decide) ⟨by omega,hp.al.2,hp.al.1⟩).weak (fun c2 ⟨f1,f2,f3,f4,f5,f6⟩=>by
     have hm:∀x,sp≤x→c2.m x=c.m x:=fun x hx=>by rw [f3,lx (by omega)];exact e5 x hx
     exact⟨f1,hp.of f2 (e4.push f3 f4 f5 (by omega)) hk1.ok hf1 hm (by omega) (by have:=hp.al;omega),by rw [f3,rz,e2],hm⟩) (Int.le_refl _)
   have hX2:=hX.seq mid (k:=100*(s.fuel-s1.fuel)-38) (by omega);have next:∀c2,(c2.pc=p+wX t+2∧Pr o N vs d F (sp-4) s1 c2∧c2.m (sp-4)=v∧∀x,sp≤x→c2.m x=c.m x)→KR code (p+wX t+2+uA l) d F (sp-4) c2 s1 (acc++ [v]) l.length r:=fun c2 ⟨e1,e2,e3,e4⟩=>
    ih.k g' hg d vs (acc++ [v]) l s1 r h2 o N (p+wX t+2) F (sp-4) c2 (fun u hu=>hx u (by simp [hu])) hcl (by omega) e1 e2 (by omega)
   cases r with
   | err e=>
    intro he;exact hX2.seq (fun c2 hc2=>next c2 hc2 he) (by omega)
   | ok ks s2=>
    obtain⟨_,c2,_,hrn,hP⟩:=id hX2;obtain⟨hf2,new,hn1,hn2,-⟩:=next c2 hP
    refine⟨hf2,v::new,by rw [hn1,List.append_assoc];rfl,by rw [aY,hn2,aY],hX2.seq (m:=100*(s1.fuel-s2.fuel)) (fun c2 hP=> ?_) (by omega)⟩;obtain⟨-,new',hm1,hm2,hG⟩:=next c2 hP
    have:new'=new:=List.append_cancel_left (hm1.symm.trans hn1);subst this;obtain⟨e1,e2,e3,e4⟩:=hP;refine hG.weak (fun c3 ⟨f1,f2,f3,f4,f5⟩=>⟨by rw [f1,hw];omega,?_,f3,fun a ha=>by rw [f4 a (by omega),e4 a ha],fun i x hi=> ?_⟩) (Int.le_refl _)
    ·rw [show sp-4*((t::l).length:Int)=sp-4-4*(l.length:Int) by rw [aY];omega];exact f2
    ·cases i with
     | zero=>
      cases hi;rw [show sp-4*(((0:Nat):Int)+1)=sp-4 by omega,f4 _ (Int.le_refl _),e3]
     | succ i=>
      have:=f5 i x hi;rw [show sp-4*(((i+1:Nat):Int)+1)=sp-4-4*((i:Int)+1) by omega];exact this
  ·exact hX
theorem Nk{N:List Ba}{k n:Int}{nm:Ba}{v:SV}{kids:List Tx}(h:XO fs N (.mk k n nm v kids)):jC k nm kids.length=true:=by
 have hr2:(jC k nm kids.length&&(decide (k=1) || decide (n=0))&&ji kids)=true:=h.r;simp only [Bool.and_eq_true]at hr2;exact hr2.1.1
theorem JG{N:List Ba}{n:Int}{nm:Ba}{v:SV}{kids:List Tx}(h:XO fs N (.mk 2 n nm v kids)):nm∈N:=by
 have he:=h.e;have he2:(if cx nm N=true then(0:Int)else 21)=0:=(bx.1 he).1;by_cases hm:cx nm N=true
 ·unfold cx at hm;obtain⟨q,h1,h2⟩:=List.any_eq_true.1 hm;have h2:nm=q:=by simpa using h2
  exact h2▸h1
 ·rw [ac hm]at he2;exact absurd he2 (by decide)
theorem EE{N:List Ba}{n:Int}{nm:Ba}{v:SV}{kids:List Tx}(h:XO fs N (.mk 3 n nm v kids)):∃f,cV fs nm=some f∧f.ps.length=kids.length:=by
 have he:=h.e;have he2:(match cV fs nm with|none=>(21:Int)|some f=>if f.ps.length=kids.length then 0 else 23)=0:=(bx.1 he).1;cases hf:cV fs nm with
 | none=>
  rw [hf]at he2;have he3:(21:Int)=0:=he2;exact absurd he3 (by decide)
 | some f=>
  rw [hf]at he2;refine⟨f,J,?_⟩;by_cases hq:f.ps.length=kids.length
  ·exact hq
  ·dsimp only at he2;rw [ac hq]at he2;exact absurd he2 (by decide)
theorem tZ{fs:List Tf}{x:Ba}{f:Tf}(h:cV fs x=some f):f.name=x:=by
 have:=List.find?_some h;simpa using this
structure CP(code:List Qi)(fs:List Tf)(S:Ba→Int):Prop where
 pos:∀x f,cV fs x=some f→∃p:Nat,S x=(p:Int)∧p<3000
 ps:∀x f,cV fs x=some f→f.ps.length≤4
theorem JV{g:Nat}(hF:VF fs)(hC:CP code fs S)(ih:HA code fs S g):HX code fs S g:=by
 intro d vs t s r h o N p F sp c hx hc hl hpc hp hsp;have hd:=vH hp.d1.2;cases g with
 | zero=>simp [lX]at h
 | succ g=>
  rw [lX]at h;by_cases hf:s.fuel≤0
  ·rw [aj hf]at h;cases h;intro e;exact absurd e (by decide)
  rw [ac hf]at h;have hp':=hp.pay hf;obtain⟨k,n,nm,v,kids⟩:=t;have hok:=Nk hx;have hdx:dX (.mk k n nm v kids)=f_ kids+1:=J;rw [hdx]at hsp;obtain⟨s',hs'⟩:∃s',s'={s with fuel:=s.fuel-1}:=⟨_,J⟩
  have hsf:s'.fuel=s.fuel-1:=by rw [hs']
  rw [←hs']at h hp';dsimp only [Tx.kids,Tx.kind,Tx.n,Tx.name]at h;have back:∀{r:Re Int}{p':Nat},XR code p' d F sp c s' r→XR code p' d F sp c s r:=fun{r p'} h=>by
   cases r with
   | ok v s1=>exact⟨h.1,h.2.weak (fun _ h=>h) (by omega)⟩
   | err e=>exact fun he=>(h he).weak (fun _ h=>h) (by omega)
  rcases vB hok with⟨rfl,hn⟩|⟨rfl,hn⟩|⟨rfl,hn⟩|rfl|⟨rfl,hn⟩|⟨rfl,hu,hn⟩|⟨rfl,hb,hn⟩
  · -- a number
   have:kids= []:=List.length_eq_zero_iff.1 hn;subst this;cases hk:my g fs d vs [] [] s' with
   | none=>rw [hk]at h;simp at h
   | some q=>
    rw [hk]at h;have:=AS hk;subst this;cases h;have hc':cAt code p (rK n):=hc;refine⟨hp'.fu,(No hc' hpc hp.st.z hx.g.1).weak (fun c' ⟨e1,e2,e3⟩=>⟨e1,e2,hp.st.kr e3 (by decide),hp'.sm.kr e3,fun a _=>by rw [e3.m]⟩) (by omega)⟩
  · -- an input
   have:kids= []:=List.length_eq_zero_iff.1 hn;subst this;cases hk:my g fs d vs [] [] s' with
   | none=>rw [hk]at h;simp at h
   | some q=>
    rw [hk]at h;have:=AS hk;subst this;have hc':cAt code p [⟨48,0,0,0,2⟩]:=hc;have hgo:∀{v1:Int}{s1:Ms},s1.fuel=s'.fuel→s1.out=s'.out→s1.mem=s'.mem→c.inp.headD 0=v1→c.inp.tail=s1.inp→XR code (p+1) d F sp c s (.ok v1 s1):=fun{v1 s1} e1 e2 e3 e4 e5=>by
     refine⟨by rw [e1];exact hp'.fu,Qp (by rw [hpc];exact hc'.head.1) (Go.done (by omega) ⟨by rw [hpc],by show rp c.r 1 (c.inp.headD 0) 1=v1;rw [em (by decide),e4],hp.st.of fun k hk=>cD (by omega),⟨fun i hi=>by rw [e3];exact hp'.sm.m i hi,e5,by rw [e2];exact hp'.sm.o⟩,fun _ _=>rfl⟩)⟩
    have hin:=hp'.sm.i;cases hi:s'.inp with
    | nil=>
     rw [hi]at hin;simp only [hi]at h;cases h;exact hgo J J J (by rw [hin];rfl) (by rw [hin,hi];rfl)
    | cons a r1=>
     rw [hi]at hin;simp only [hi]at h;cases h;exact hgo J J J (by rw [hin];rfl) (by rw [hin];rfl)
  · -- a name
   have:kids= []:=List.length_eq_zero_iff.1 hn;subst this;cases hk:my g fs d vs [] [] s' with
   | none=>rw [hk]at h;simp at h
   | some q=>
    rw [hk]at h;have:=AS hk;subst this;cases h;have hc':cAt code p [qi 23 1 13 (bI o nm)]:=hc;have hN:=JG hx;have hva:wU (c.r 13+bI o nm)=va o F nm:=by rw [hp.st.f];rfl
    refine⟨hp'.fu,A0 (d:=1) (a:=13) (x:=bI o nm) (by rw [hpc];exact hc'.head.1) (by rw [hva];exact(hp.fs.ok nm hN).1) (Go.done (by omega) ⟨by rw [hpc];rfl,?_,hp.st.of fun k hk=>cD (by omega),⟨hp'.sm.m,hp'.sm.i,hp'.sm.o⟩,fun _ _=>rfl⟩)⟩;rw [hva];show rp c.r 1 (c.m (va o F nm)) 1=_;rw [em (by decide)];exact hp.fr nm hN
  · -- a call
   obtain⟨f,hff,hfl⟩:=EE hx;have hc':cAt code p (wl o S kids p++([qi 40 15 0 (wU (S nm-((p+(wl o S kids p).length:Nat):Int)))]++if kids.length>0 then [qi 16 14 14 (4*kids.length)]else [])):=hc;have hw:wX (.mk 3 n nm v kids)=uA kids+(1+if kids.length>0 then 1 else 0):=J;rw [hw]at hl ⊢;obtain⟨hck,hc2⟩:=hc'.app;obtain⟨hcj,hca⟩:=hc2.app;rw [rV]at hcj hca;have h4:=hC.ps nm f hff;cases hk:my g fs d vs [] kids s' with
   | none=>rw [hk]at h;simp at h
   | some q=>
    rw [hk]at h;have hK:=ih.k g (Nat.lt_succ_self g) d vs [] kids s' q hk o N p F sp c hx.kids hck (by omega) hpc hp' (by omega);cases q with
    | err e=>
     cases h;exact fun he=>(hK he).weak (fun _ h=>h) (by omega)
    | ok ks s1=>
     obtain⟨hk1,hk2,hk3⟩:=(mi hF g).k d vs [] kids s' ks s1 (XO.vxs hx.kids) hp'.vs hp'.ok (by simp) hk;obtain⟨hf1,new,hn1,hn2,hK⟩:=hK;rw [List.nil_append]at hn1;subst hn1;dsimp only at h;have h:(match cV fs nm with|none=>none|some f=>u0 g fs d f ks s1)=some r:=h;rw [hff]at h;have h:u0 g fs d f ks s1=some r:=h;obtain⟨pf,hpf,hpf2⟩:=hC.pos nm f hff;have hfn:=tZ hff;obtain⟨q,hq⟩:∃q,q=p+uA kids+1:=⟨_,J⟩
     have mid:∀c',(c'.pc=p+uA kids∧St d F (sp-4*(kids.length:Int)) c'∧pSm c' s1∧(∀a,sp≤a→c'.m a=c.m a)∧∀(i:Nat) x,ks[i]?=some x→c'.m (sp-4*((i:Int)+1))=x)→
       Go code 1 c' fun c2=>CR code q d F (sp-4*(kids.length:Int)) kids.length c2 s1 r∧∀a,sp≤a→c2.m a=c.m a:=fun c' ⟨e1,e2,e3,e4,e5⟩=>by
      refine tF (d:=15) (a:=0) (x:=wU (S nm-((p+uA kids:Nat):Int))) (by rw [e1];exact hcj.head.1) (Go.done (by decide) ⟨?_,e4⟩);rw [e1,n9 (q:=pf) (by rw [hpf]) (by omega) (by omega)];have hR:=ih.c g (Nat.lt_succ_self g) d f ks s1 r h F (sp-4*(kids.length:Int)) ⟨pf,rp c'.r 15 (jL (p+uA kids+1)),c'.m,c'.inp,c'.out⟩ q (by rw [hfn];exact hff) (by rw [hn2,hfl]) hk1 ?_ ?_ (by omega) ?_ ⟨e3.m,e3.i,e3.o⟩ hk3.ok hf1 (by have:=hp.al;omega) (by have:=hp.al;omega) (by omega) hp.d1.2 (fun i x hi=> ?_)
      ·rw [hn2]at hR;exact hR
      ·show pf=_;rw [hfn,hpf];rfl
      ·show rp c'.r 15 (jL (p+uA kids+1)) 15=_;rw [em (by decide),hq]
      ·exact e2.of fun k hk=>by
        show rp c'.r 15 _ k=_;exact cD (by omega)
      ·have:=e5 i x hi;show c'.m _=x;rw [←this]
       congr 1
       omega
     have hM:=hK.seq mid (k:=100*(s'.fuel-s1.fuel)+1) (by omega);have pops:∀{v1:Int}{s2:Ms}(c3:Qs),c3.pc=q→c3.r 1=v1→St d F (sp-4*(kids.length:Int)) c3→pSm c3 s2→Go code 1 c3 fun c4=>c4.pc=p+(uA kids+(1+if kids.length>0 then 1 else 0))∧c4.r 1=v1∧St d F sp c4∧pSm c4 s2∧c4.m=c3.m:=fun{v1 s2} c3 f1 f2 f3 f4=>by
      by_cases hz:kids.length>0
      ·rw [aj hz]at hca ⊢;refine kW (f1.trans hq) hca.head.1 (v:=sp) (by
        show some (wU (c3.r 14+4*(kids.length:Int)))=_;rw [f3.s,gZ ⟨by omega,by have:=hp.al;omega⟩];exact congrArg some (by omega)) fun c4 e1 e2 e3 e4 e5=>Go.done (by decide) ⟨by rw [e1];omega,by rw [e2,cD (by decide)];exact f2,⟨?_,?_,?_,by rw [e2];exact em (by decide)⟩,⟨fun i hi=>by rw [e3];exact f4.m i hi,e4.trans f4.i,e5.trans f4.o⟩,e3⟩
       ·rw [e2,cD (by decide)];exact f3.z
       ·rw [e2,cD (by decide)];exact f3.d
       ·rw [e2,cD (by decide)];exact f3.f
      ·rw [ac hz];have:(kids.length:Int)=0:=by omega
       rw [this,show sp-4*0=sp by omega]at f3;exact Go.done (by decide) ⟨by rw [f1,hq];omega,f2,f3,f4,rfl⟩
     cases r with
     | err e=>exact fun he=>hM.seq (fun c2 ⟨hR,_⟩=>hR he) (by omega)
     | ok v2 s2=>
      have hf2:0≤s2.fuel:=by
       obtain⟨_,c2,_,_,hR,_⟩:=hM;exact hR.1
      refine⟨hf2,hM.seq (m:=100*(s1.fuel-s2.fuel)+46) (fun c2 ⟨hR,hm⟩=>hR.2.seq (m:=1) (fun c3 ⟨f1,f2,f3,f4,f5⟩=>(pops c3 f1 f2 f3 f4).weak (fun c4 ⟨k1,k2,k3,k4,k5⟩=>⟨k1,k2,k3,k4,fun a ha=> ?_⟩) (Int.le_refl _)) (by omega)) (by omega)⟩;rw [k5,f5 a (by omega),hm a ha]
  · -- an element of mem
   obtain⟨a,rfl⟩:=List.length_eq_one_iff.1 hn;cases hk:my g fs d vs [] [a] s' with
   | none=>rw [hk]at h;simp at h
   | some q=>
    rw [hk]at h;obtain⟨g',rx,hg,hx1,hr⟩:=yZ hk;have hxa:=hx.kids a (by simp);have hc':cAt code p (zX o S a p++(vh 1++ [qi 23 1 1 8192])):=hc;have hw:wX (.mk 4 n nm v [a])=wX a+3:=J;rw [hw]at hl ⊢;obtain⟨hca,hc2⟩:=hc'.app;obtain⟨hce,hcl⟩:=hc2.app;rw [ir]at hce hcl;have hda:f_ [a]=max (dX a) 0:=J;have hX:=ih.x g' (by omega) d vs a s' rx hx1 o N p F sp c hxa hca (by omega) hpc hp' (by omega);rcases hr with⟨x,s1,rfl,h2⟩|⟨e,rfl,rfl⟩
    ·have:=AS h2;subst this;obtain⟨hv,hk1⟩:=(mi hF g').x d vs a s' x s1 hxa.vx hp'.vs hp'.ok hx1;cases h;refine⟨hX.1,hX.2.seq (m:=3) (fun c1 ⟨e1,e2,e3,e4,e5⟩=> ?_) (by omega)⟩;refine(C7 (r:=1) hce e1 (by decide) e2 hv).seq (m:=1) (fun c2 ⟨f1,f2,f3⟩=> ?_) (by decide);have hw:wU (c2.r 1+8192)=8192+4*(((x%256).toNat:Nat):Int):=by rw [f2,gZ (by omega)];omega
     refine A0 (d:=1) (a:=1) (x:=8192) (by rw [f1];exact hcl.head.1) (by rw [hw];exact⟨by omega,by omega,by omega⟩) (Go.done (by decide) ⟨by show c2.pc+1=_;rw [f1];omega,?_,(e3.kr f3 (by decide)).of fun k hk=>cD (by omega),?_,fun a ha=>by rw [f3.m];exact e5 a ha⟩)
     ·rw [hw];show rp c2.r 1 (c2.m (8192+4*(((x%256).toNat:Nat):Int))) 1=_;rw [em (by decide),f3.m,e4.m _ (by omega)];rfl
     ·have:=e4.kr f3;exact⟨this.m,this.i,this.o⟩
    ·cases h;exact back hX
  · -- a unary operator
   obtain⟨a,rfl⟩:=List.length_eq_one_iff.1 hn;cases hk:my g fs d vs [] [a] s' with
   | none=>rw [hk]at h;simp at h
   | some q=>
    rw [hk]at h;obtain⟨g',rx,hg,hx1,hr⟩:=yZ hk;have hxa:=hx.kids a (by simp);have hc':cAt code p (zX o S a p++EI nm):=hc;have hw:wX (.mk 6 n nm v [a])=wX a+(EI nm).length:=J;rw [hw]at hl ⊢;obtain⟨hca,hcu⟩:=hc'.app;rw [ir]at hcu;have hda:f_ [a]=max (dX a) 0:=J;have hX:=ih.x g' (by omega) d vs a s' rx hx1 o N p F sp c hxa hca (by omega) hpc hp' (by omega);rcases hr with⟨x,s1,rfl,h2⟩|⟨e,rfl,rfl⟩
    ·have:=AS h2;subst this;obtain⟨hv,hk1⟩:=(mi hF g').x d vs a s' x s1 hxa.vx hp'.vs hp'.ok hx1;cases h;refine⟨hX.1,hX.2.seq (m:=2) (fun c1 ⟨e1,e2,e3,e4,e5⟩=> ?_) (by omega)⟩;exact(Pi hu hcu e1 e3.z e2 hv).weak (fun c2 ⟨f1,f2,f3⟩=>⟨by rw [f1];omega,f2,e3.kr f3 (by decide),e4.kr f3,fun a ha=>by rw [f3.m];exact e5 a ha⟩) (Int.le_refl _)
    ·cases h;exact back hX
  · -- a binary operator
   obtain⟨a,b,rfl⟩:∃a b,kids= [a,b]:=⟨_,_,List.eq_getElem_of_length_eq_two kids hn⟩
   cases hk:my g fs d vs [] [a,b] s' with
   | none=>rw [hk]at h;simp at h
   | some q=>
    rw [hk]at h;obtain⟨g',rx,hg,hx1,hr⟩:=yZ hk;have hxa:=hx.kids a (by simp);have hxb:=hx.kids b (by simp);have hda:f_ [a,b]=max (dX a) (max (dX b) 0):=J;have hw:wX (.mk 7 n nm v [a,b])=wX a+(wX b+(4+(Dx nm).length)):=J;rcases hr with⟨x,s1,rfl,h2⟩|⟨e,rfl,rfl⟩
    ·obtain⟨g'',ry,hg2,hx2,hr2⟩:=yZ h2;refine back (KV (r:=r) hF (ih.x g' (by omega)) (ih.x g'' (by omega)) hb hx1 hxa.vx hxb.vx hxa hxb hc hw hl hpc hp' (by omega) (by omega) (.inl ⟨x,s1,J,ry,hx2,?_⟩));rcases hr2 with⟨y,s2,rfl,h3⟩|⟨e,rfl,rfl⟩
     ·have:=AS h3;subst this;cases h;exact .inl ⟨y,s2,J,J⟩
     ·cases h;exact .inr ⟨e,J,J⟩
    ·cases h;exact back (KV (r:= .err e) hF (ih.x g' (by omega)) (ih.x g' (by omega)) hb hx1 hxa.vx hxb.vx hxa hxb hc hw hl hpc hp' (by omega) (by omega) (.inr ⟨e,J,J⟩))
end
mutual
def SO(fs:List Tf)(N:List Ba):Ty→Prop
 | .mk k nm _ es _ body _ els=>n_ k nm es.length body.length els.length=true∧(∀u∈es,XO fs N u∧dX u≤8)∧(k=1∨k=2→nm∈N)∧(body.length≤1000000∧SOs fs N body)∧(els.length≤1000000∧SOs fs N els)
def SOs(fs:List Tf)(N:List Ba):List Ty→Prop
 | []=>True
 | t::r=>SO fs N t∧SOs fs N r
end
mutual
theorem SO.vy{fs:List Tf}{N:List Ba}:∀{t:Ty},SO fs N t→VY fs t
 | .mk k nm ve es vb body vl els,h=>by
  obtain⟨h1,h2,h3,⟨h4,h5⟩,h6,h7⟩:=h;have hk:=AD h1;have hes:es.length=if k=3 then 2 else 1:=hk.2.2.1
  exact⟨⟨by rw [hes];split<;>omega,by rw [hes];split<;>omega,fun h3=>by rw [hes,aj h3];exact bU _,XO.vxs fun u hu=>(h2 u hu).1⟩,⟨h4,SOs.vys h5⟩,h6,SOs.vys h7⟩
theorem SOs.vys{fs:List Tf}{N:List Ba}:∀{l:List Ty},SOs fs N l→Mb fs l
 | [],_=>trivial
 | t::r,h=>⟨h.1.vy,SOs.vys h.2⟩
end
def Kv(o:Om)(N:List Ba)(F sp:Int)(m m':Int→Int):Prop:=∀a,sp≤a→(∀x∈N,a≠va o F x)→m' a=m a
theorem Kv.trans{o:Om}{N:List Ba}{F sp:Int}{a b c:Int→Int}(h:Kv o N F sp a b)(h2:Kv o N F sp b c):Kv o N F sp a c:=fun x h3 h4=>(h2 x h3 h4).trans (h x h3 h4)
theorem Kv.of{o:Om}{N:List Ba}{F sp:Int}{a b:Int→Int}(h:∀x,sp≤x→b x=a x):Kv o N F sp a b:=fun x h3 _=>h x h3
def Ex(p' E:Nat)(q:Option Int)(c':Qs):Prop:=(q=none→c'.pc=p')∧∀v,q=some v→c'.pc=E∧c'.r 1=v
def SR(code:List Qi)(p' E:Nat)(b k:Int)(o:Om)(N:List Ba)(d:Nat)(F sp:Int)(c:Qs)(s:Ms):Re (Vs×Option Int)→Prop
 | .ok q s1=>0≤s1.fuel∧Go code (100*(s.fuel-s1.fuel)+k) c fun c'=>St d F sp c'∧pSm c' s1∧Fr o N q.1 F c'.m∧Kv o N F sp c.m c'.m∧Ex p' E q.2 c'
 | .err e=>e=26→Go code (100*s.fuel+b) c (Bk code)
def zW(o:Om)(S:Ba→Int)(E:Int)(e:Tx)(l:List Ty)(p:Nat):List Qi:=
 zX o S e p++([qi 32 1 0 (wU (((lG o S E l (p+wX e+1)).length+2:Nat):Int))]++(lG o S E l (p+wX e+1)++ [qi 40 0 0 (wU (-(((lG o S E l (p+wX e+1)).length+wX e+1:Nat):Int)))]))
section
variable(code:List Qi)(fs:List Tf)(S:Ba→Int)
def HB(g:Nat):Prop:=∀(d:Nat) vs l s r,nS g fs d vs l s=some r→∀o N p(E:Nat) F sp c,SOs fs N l→cAt code p (lG o S (E:Int) l p)→p+fO l≤1984→E≤1984→c.pc=p→Pr o N vs d F sp s c→lo d+132≤sp→SR code (p+fO l) E 50 0 o N d F sp c s r
def HS(g:Nat):Prop:=∀(d:Nat) vs t s r,rT g fs d vs t s=some r→∀o N p(E:Nat) F sp c,SO fs N t→cAt code p (zY o S (E:Int) t p)→p+wY t≤1984→E≤1984→c.pc=p→Pr o N vs d F sp s c→lo d+132≤sp→SR code (p+wY t) E 50 0 o N d F sp c s r
def HW(g:Nat):Prop:=∀(d:Nat) vs e l v s r,uZ g fs d vs e l v s=some r→∀o N p(E:Nat) F sp c,XO fs N e→dX e≤8→l.length≤1000000→SOs fs N l→cAt code p (zW o S (E:Int) e l p)→p+wX e+fO l+2≤1984→E≤1984→c.pc=p+wX e→c.r 1=v→Pr o N vs d F sp s c→lo d+132≤sp→
 SR code (p+wX e+fO l+2) E 60 2 o N d F sp c s r
structure HD(g:Nat):Prop extends HA code fs S g where
 b:∀g'<g,HB code fs S g'
 s:∀g'<g,HS code fs S g'
 w:∀g'<g,HW code fs S g'
end
section
variable{code:List Qi}{fs:List Tf}{S:Ba→Int}
theorem Pr.next{o:Om}{N:List Ba}{vs vs':Vs}{d:Nat}{F sp:Int}{s s':Ms}{c c':Qs}(h:Pr o N vs d F sp s c)(hst:St d F sp c')(hsm:pSm c' s')(hfr:Fr o N vs' F c'.m)(hok:okMs s')(hvs:okVs vs')(hfu:0≤s'.fuel):Pr o N vs' d F sp s' c':=
 ⟨hst,h.fs,hfr,hsm,hok,hvs,h.al,hfu,h.d1⟩
theorem Ex.none{p' E:Nat}{c':Qs}(h:c'.pc=p'):Ex p' E none c':=⟨fun _=>h,fun v hv=>by cases hv⟩
theorem SR.up{p' E:Nat}{b b' k k':Int}{o:Om}{N:List Ba}{d:Nat}{F sp:Int}{c0:Qs}{s s0:Ms}{r:Re (Vs×Option Int)}{n:Int}{P:Qs→Prop}(hg:Go code n c0 P)(h:∀c,P c→SR code p' E b k o N d F sp c s r)(hkv:∀c,P c→Kv o N F sp c0.m c.m)
  (h1:n+100*s.fuel+b≤100*s0.fuel+b') (h2:n+100*s.fuel+k≤100*s0.fuel+k'):SR code p' E b' k' o N d F sp c0 s0 r:=by
 cases r with
 | err e=>exact fun he=>hg.seq (fun c hc=>h c hc he) (by omega)
 | ok q s1=>
  have hf:0≤s1.fuel:=by
   obtain⟨_,c2,_,_,hP⟩:=hg;exact(h c2 hP).1
  exact⟨hf,hg.seq (fun c hc=>(h c hc).2.weak (fun c' ⟨e1,e2,e3,e4,e5⟩=>⟨e1,e2,e3,(hkv c hc).trans e4,e5⟩) (Int.le_refl _)) (by omega)⟩
theorem J1{g:Nat}(hF:VF fs)(ih:HD code fs S g):HB code fs S g:=by
 intro d vs l s r h o N p E F sp c hx hc hl hE hpc hp hsp;cases g with
 | zero=>simp [nS]at h
 | succ g=>
  cases l with
  | nil=>
   rw [nS]at h;cases h;exact⟨hp.fu,Go.done (by omega) ⟨hp.st,hp.sm,hp.fr,Kv.of fun _ _=>J,Ex.none hpc⟩⟩
  | cons t l=>
   rw [nS]at h;have hc':cAt code p (zY o S E t p++lG o S E l (p+(zY o S E t p).length)):=hc;have hw:fO (t::l)=wY t+fO l:=J;obtain⟨hct,hcl⟩:=hc'.app;rw [zP]at hcl;cases hs:rT g fs d vs t s with
   | none=>rw [hs]at h;simp at h
   | some q=>
    rw [hs]at h;have hS:=ih.s g (Nat.lt_succ_self g) d vs t s q hs o N p E F sp c hx.1 hct (by omega) hE hpc hp hsp;cases q with
    | err e=>cases h;exact hS
    | ok q s1=>
     obtain⟨vs1,q⟩:=q;obtain⟨k1,k2,k3⟩:=(mi hF g).s d vs t s _ s1 hx.1.vy hp.vs hp.ok hs;cases q with
     | some v=>
      cases h;exact⟨hS.1,hS.2.weak (fun c' ⟨e1,e2,e3,e4,e5⟩=>⟨e1,e2,e3,e4,fun hq=>(by cases hq),e5.2⟩) (Int.le_refl _)⟩
     | none=>
      have h:nS g fs d vs1 l s1=some r:=h;rw [hw,←Nat.add_assoc];refine SR.up (s:=s1) (b:=50) (k:=0) hS.2 (fun c' ⟨e1,e2,e3,e4,e5⟩=> ?_) (fun c' ⟨e1,e2,e3,e4,e5⟩=>e4) (by omega) (by omega);exact ih.b g (Nat.lt_succ_self g) d vs1 l s1 r h o N (p+wY t) E F sp c' hx.2 hcl (by omega) hE (e5.1 J) (hp.next e1 e2 e3 k3.ok k1 hS.1) hsp
theorem sV(vs:Vs)(x y:Ba)(n:Int):sW (g_ vs x n) y=if x=y then n else sW vs y:=iN vs x y n
theorem JW{g:Nat}(hF:VF fs)(ih:HD code fs S g):HW code fs S g:=by
 intro d vs e l v s r h o N p E F sp c hxe hde hll hxl hc hl hE hpc hv hp hsp;cases g with
 | zero=>simp [uZ]at h
 | succ g=>
  rw [uZ]at h;unfold zW at hc;obtain⟨hce,hc2⟩:=id hc.app;obtain⟨hcb,hc3⟩:=hc2.app;obtain⟨hcl,hcj⟩:=hc3.app;rw [ir]at hcb hcl hcj;rw [fk]at hcb hcj;have hbeq:=hcb.head.1;have hz0:∀{P:Qs→Prop}{n:Int},Go code (n-1) {c with pc:=if v=0 then p+wX e+fO l+2 else p+wX e+1} P→Go code n c P:=fun{P n} hG=>by
   refine xm (d:=1) (a:=0) (x:=wU (((fO l+2:Nat):Int))) (by rw [hpc];exact hbeq) ?_;rw [hv,hp.st.z,hpc];by_cases hz:v=0
   ·rw [aj hz]at hG ⊢;rw [n9 (q:=p+wX e+fO l+2) (by rw [show((p+wX e+fO l+2:Nat):Int)-((p+wX e:Nat):Int)=((fO l+2:Nat):Int) by omega]) (by omega) (by omega)];exact hG
   ·rw [ac hz]at hG ⊢;exact hG
  by_cases hz:v=0
  ·rw [aj hz]at h hz0;cases h;exact⟨hp.fu,hz0 (Go.done (by omega) ⟨hp.st.of fun _ _=>J,⟨hp.sm.m,hp.sm.i,hp.sm.o⟩,hp.fr,Kv.of fun _ _=>J,Ex.none J⟩)⟩
  ·rw [ac hz]at h hz0;obtain⟨c1,hc1⟩:∃c1:Qs,c1={c with pc:=p+wX e+1}:=⟨_,J⟩
   rw [←hc1]at hz0;have hp1:Pr o N vs d F sp s c1:=by rw [hc1];exact⟨hp.st.of fun _ _=>J,hp.fs,hp.fr,⟨hp.sm.m,hp.sm.i,hp.sm.o⟩,hp.ok,hp.vs,hp.al,hp.fu,hp.d1⟩
   have hm1:c1.m=c.m:=by rw [hc1]
   have hg1:Go code 1 c fun x=>x=c1:=hz0 (Go.done (by decide) J)
   cases hb:nS g fs d vs l s with
   | none=>rw [hb]at h;simp at h
   | some q=>
    rw [hb]at h;have hB:=ih.b g (Nat.lt_succ_self g) d vs l s q hb o N (p+wX e+1) E F sp c1 hxl hcl (by omega) hE (by rw [hc1]) hp1 hsp;cases q with
    | err z=>cases h;exact fun he=>hg1.seq (m:=100*s.fuel+50) (fun x hx=>by subst hx;exact hB he) (by omega)
    | ok q s1=>
     obtain⟨vs1,q⟩:=q;obtain⟨k1,k2,k3⟩:=(mi hF g).b d vs l s _ s1 hxl.vys hp.vs hp.ok hb;cases q with
     | some x=>
      cases h;exact⟨hB.1,hg1.seq (m:=100*(s.fuel-s1.fuel)) (fun x hx=>by subst hx;exact hB.2.weak (fun c' ⟨e1,e2,e3,e4,e5⟩=>⟨e1,e2,e3,by rw [←hm1];exact e4,fun hq=>(by cases hq),e5.2⟩) (by omega)) (by omega)⟩
     | none=>
      dsimp only at h;have hB2:Go code (100*(s.fuel-s1.fuel)+2) c fun c'=>St d F sp c'∧pSm c' s1∧Fr o N vs1 F c'.m∧Kv o N F sp c.m c'.m∧c'.pc=p:=hg1.seq (m:=100*(s.fuel-s1.fuel)+1) (fun x hx=>by
       subst hx;refine hB.2.seq (m:=1) (fun c' ⟨e1,e2,e3,e4,e5⟩=> ?_) (by omega);have e5:=e5.1 J;obtain⟨x,hxx⟩:∃x,x=wU (-(((fO l+wX e+1:Nat):Int))):=⟨_,J⟩
       have hj:=hcj.head.1;rw [←hxx]at hj;refine tF (d:=0) (a:=0) (x:=x) (by rw [e5];exact hj) (Go.done (by decide) ⟨e1.of fun k hk=>FG,⟨e2.m,e2.i,e2.o⟩,e3,by rw [←hm1];exact e4,?_⟩);show vz (wU (jL c'.pc+4*x))=p;rw [e5,hxx];exact n9 (by rw [show(p:Int)-((p+wX e+1+fO l:Nat):Int)= -((fO l+wX e+1:Nat):Int) by omega]) (by omega) (by omega)) (by omega)
      cases hx2:lX g fs d vs1 e s1 with
      | none=>rw [hx2]at h;simp at h
      | some q=>
       rw [hx2]at h;have hX:∀c',(St d F sp c'∧pSm c' s1∧Fr o N vs1 F c'.m∧Kv o N F sp c.m c'.m∧c'.pc=p)→XR code (p+wX e) d F sp c' s1 q:=fun c' ⟨e1,e2,e3,e4,e5⟩=>
        ih.x g (Nat.lt_succ_self g) d vs1 e s1 q hx2 o N p F sp c' hxe hce (by omega) e5 (hp.next e1 e2 e3 k3.ok k1 hB.1) (by omega)
       cases q with
       | err z=>cases h;exact fun he=>hB2.seq (m:=100*s1.fuel+50) (fun c' hc'=>hX c' hc' he) (by omega)
       | ok w s2=>
        obtain⟨w1,w2⟩:=(mi hF g).x d vs1 e s1 w s2 hxe.vx k1 k3.ok hx2;have h:uZ g fs d vs1 e l w s2=some r:=h;have hf2:0≤s2.fuel:=by
         obtain⟨_,c2,_,_,hP⟩:=hB2;exact(hX c2 hP).1
        have hX2:Go code (100*(s.fuel-s2.fuel)-38) c fun c'=>(St d F sp c'∧pSm c' s2∧Fr o N vs1 F c'.m∧Kv o N F sp c.m c'.m)∧c'.pc=p+wX e∧c'.r 1=w:=hB2.seq (m:=100*(s1.fuel-s2.fuel)-40) (fun c' hc'=>(hX c' hc').2.weak (fun c2 ⟨f1,f2,f3,f4,f5⟩=>by
         obtain⟨e1,e2,e3,e4,e5⟩:=hc';exact⟨⟨f3,f4,fun x hx=>(f5 _ (hp.fs.ok x hx).2).trans (e3 x hx),e4.trans (Kv.of f5)⟩,f1,f2⟩) (Int.le_refl _)) (by omega)
        refine SR.up (s:=s2) hX2 (fun c' ⟨⟨e1,e2,e3,e4⟩,e5,e6⟩=> ?_) (fun c' h=>h.1.2.2.2) (b:=60) (k:=2) (by omega) (by omega);exact ih.w g (Nat.lt_succ_self g) d vs1 e l w s2 r h o N p E F sp c' hxe hde hll hxl (by unfold zW;exact hc) hl hE e5 e6 (hp.next e1 e2 e3 w2.ok k1 hf2) hsp
theorem Kv.mw{o:Om}{N:List Ba}{F sp:Int}{m:Int→Int}{x:Ba}{v:Int}(hx:x∈N):Kv o N F sp m (mw m (va o F x) v):=fun a _ h=>lx (h x hx)
theorem Fr.put{o:Om}{N:List Ba}{vs:Vs}{F sp:Int}{m:Int→Int}{x:Ba}{v:Int}(h:Fr o N vs F m)(hf:Fs o N F sp)(hx:x∈N):Fr o N (g_ vs x v) F (mw m (va o F x) v):=fun y hy=>by
 rw [sV];by_cases e:x=y
 ·subst e;rw [aj J,rz]
 ·rw [ac e,lx fun q=>e (hf.inj x hx y hy q.symm)];exact h y hy
theorem N0{g:Nat}{d:Nat}{vs:Vs}{k:Int}{nm:Ba}{ve vb vl:SV}{e:Tx}{es:List Tx}{body els:List Ty}{s s1:Ms}{v:Int}(hf:¬s.fuel≤0)(hx:lX g fs d vs e {s with fuel:=s.fuel-1}=some (.ok v s1)):
  rT (g+1) fs d vs (.mk k nm ve (e::es) vb body vl els) s=
    if k=1∨k=2 then some (.ok (g_ vs nm v,none) s1)else
    if k=3 then(match es with
     | []=>none
     | e2::_=>match lX g fs d vs e2 s1 with
      | none=>none
      | some (.err e)=>some (.err e)
      | some (.ok w s2)=>some (.ok (vs,none) {s2 with mem:=Gq s2.mem (v%256).toNat w}))else
    if k=4 then nS g fs d vs (if v=0 then els else body) s1 else
    if k=5 then uZ g fs d vs e body v s1 else
    if k=6 then some (.ok (vs,some v) s1)else if k=7 then some (.ok (vs,none) {s1 with out:=s1.out++ [v]})else some (.ok (vs,none) s1):=by
 rw [rT,ac hf];dsimp only [Ty.es];rw [hx];rfl
theorem Ho{g:Nat}{d:Nat}{vs:Vs}{k:Int}{nm:Ba}{ve vb vl:SV}{e:Tx}{es:List Tx}{body els:List Ty}{s:Ms}(hf:¬s.fuel≤0)(hx:lX g fs d vs e {s with fuel:=s.fuel-1}=none):
  rT (g+1) fs d vs (.mk k nm ve (e::es) vb body vl els) s=none:=by
 rw [rT,ac hf];dsimp only [Ty.es];rw [hx]
theorem KA{g:Nat}{d:Nat}{vs:Vs}{k:Int}{nm:Ba}{ve vb vl:SV}{e:Tx}{es:List Tx}{body els:List Ty}{s:Ms}{z:Int}(hf:¬s.fuel≤0)(hx:lX g fs d vs e {s with fuel:=s.fuel-1}=some (.err z)):
  rT (g+1) fs d vs (.mk k nm ve (e::es) vb body vl els) s=some (.err z):=by
 rw [rT,ac hf];dsimp only [Ty.es];rw [hx]
theorem JX{g:Nat}(hF:VF fs)(ih:HD code fs S g):HS code fs S g:=by
 intro d vs t s r h o N p E F sp c hx hc hl hE hpc hp hsp;have hd:=vH hp.d1.2;cases g with
 | zero=>simp [rT]at h
 | succ g=>
  by_cases hf:s.fuel≤0
  ·rw [rT,aj hf]at h;cases h;intro e;exact absurd e (by decide)
  have hp':=hp.pay hf;obtain⟨k,nm,ve,es,vb,body,vl,els⟩:=t;obtain⟨hok,hes,hnm,⟨hbl,hbo⟩,hel,heo⟩:=hx;have hk:=AD hok;obtain⟨s',hs'⟩:∃s',s'={s with fuel:=s.fuel-1}:=⟨_,J⟩
  have hsf:s'.fuel=s.fuel-1:=by rw [hs']
  rw [←hs']at hp';cases es with
  | nil=>
   have:=hk.2.2.1;split at this<;>simp at this
  | cons e es=>
   have hxe:=(hes e (by simp)).1;have hde:=(hes e (by simp)).2;have hca:cAt code p (zX o S e p):=by
    have hc':=hc;unfold zY at hc';by_cases q1:k=1∨k=2
    ·rw [aj q1]at hc';exact hc'.app.1
    rw [ac q1]at hc';by_cases q3:k=3
    ·rw [aj q3]at hc';exact hc'.app.1
    rw [ac q3]at hc';by_cases q7:k=7
    ·rw [aj q7]at hc';exact hc'.app.1
    rw [ac q7]at hc';by_cases q6:k=6
    ·rw [aj q6]at hc';exact hc'.app.1
    rw [ac q6]at hc';by_cases q4:k=4
    ·rw [aj q4]at hc';exact hc'.app.1
    rw [ac q4]at hc';by_cases q5:k=5
    ·rw [aj q5]at hc';exact hc'.app.1
    rw [ac q5]at hc';exact hc'
   have hwe:wX e≤wY (.mk k nm ve (e::es) vb body vl els):=by
    unfold wY;show j_ (e::es)≤_
    repeat' split
    all_goals omega
   cases hx1:lX g fs d vs e s' with
   | none=>
    rw [Ho hf (by rw [←hs'];exact hx1)]at h;cases h
   | some q=>
    have hX:=ih.x g (Nat.lt_succ_self g) d vs e s' q hx1 o N p F sp c hxe hca (by omega) hpc hp' (by omega);cases q with
    | err z=>
     rw [KA hf (by rw [←hs'];exact hx1)]at h;cases h;exact fun he=>(hX he).weak (fun _ h=>h) (by omega)
    | ok v s1=>
     obtain⟨hv,hk1⟩:=(mi hF g).x d vs e s' v s1 hxe.vx hp'.vs hp'.ok hx1;rw [N0 hf (by rw [←hs'];exact hx1)]at h;obtain⟨hf1,hX⟩:=hX;have hX1:Go code (100*(s.fuel-s1.fuel)-140) c fun c'=>c'.pc=p+wX e∧c'.r 1=v∧(∀a,sp≤a→c'.m a=c.m a)∧Pr o N vs d F sp s1 c':=hX.weak (fun c' ⟨e1,e2,e3,e4,e5⟩=>⟨e1,e2,e5,hp.of e3 e4 hk1.ok hf1 e5 (Int.le_refl _) hp.al.1⟩) (by omega)
     by_cases q1:k=1∨k=2
     · -- a variable
      rw [aj q1]at h;cases h;have hc':cAt code p (zX o S e p++ [qi 25 1 13 (bI o nm)]):=by
       have hc':=hc;unfold zY at hc';rw [aj q1]at hc';exact hc'
      have hw:wY (.mk k nm ve (e::es) vb body vl els)=wX e+1:=by unfold wY;rw [aj q1];rfl
      rw [hw];have hcs:=hc'.app.2;rw [ir]at hcs;have hN:=hnm q1;refine⟨hf1,hX1.seq (m:=1) (fun c1 ⟨e1,e2,e3,e4⟩=> ?_) (by omega)⟩;have hva:wU (c1.r 13+bI o nm)=va o F nm:=by rw [e4.st.f];rfl
      refine AZ (d:=1) (a:=13) (x:=bI o nm) (by rw [e1];exact hcs.head.1) (by rw [hva];exact(hp.fs.ok nm hN).1) (Go.done (by decide) ?_);rw [hva,e2];refine⟨e4.st.of fun _ _=>J,e4.sm.push J J J (by have:=(hp.fs.ok nm hN).2;omega),e4.fr.put e4.fs hN,(Kv.of e3).trans (Kv.mw hN),Ex.none (by show c1.pc+1=_;rw [e1];rfl)⟩
     rw [ac q1]at h;by_cases q3:k=3
     · -- an element of mem
      rw [aj q3]at h;subst q3;have hn:(e::es).length=2:=by have:=hk.2.2.1;rw [aj J]at this;exact this
      obtain⟨e2,rfl⟩:∃e2,es= [e2]:=List.length_eq_one_iff.1 (by rw [aY]at hn;omega);have hc':cAt code p (zX o S e p++(ga 1++(zX o S e2 (p+wX e+2)++(mA 2++(vh 2++ [qi 25 1 2 8192]))))):=hc;have hw:wY (.mk 3 nm ve [e,e2] vb body vl els)=wX e+(wX e2+7):=J;rw [hw]at hl ⊢;have hxe2:=(hes e2 (by simp)).1;have hde2:=(hes e2 (by simp)).2;obtain⟨-,hc2⟩:=hc'.app;obtain⟨hcp,hc3⟩:=hc2.app;obtain⟨hcx,hc4⟩:=hc3.app;obtain⟨hcq,hc5⟩:=hc4.app;obtain⟨hce,hcs⟩:=hc5.app;rw [ir]at hcp hcx hcq hce hcs;rw [ir]at hcq hce hcs;have hX2:Go code (100*(s.fuel-s1.fuel)-138) c fun c'=>c'.pc=p+wX e+2∧Pr o N vs d F (sp-4) s1 c'∧c'.m (sp-4)=v∧∀a,sp≤a→c'.m a=c.m a:=hX1.seq (m:=2) (fun c1 ⟨e1,e2,e3,e4⟩=>(nj hcp e1 e4.st (by decide) ⟨by omega,hp.al.2,hp.al.1⟩).weak (fun c2 ⟨f1,f2,f3,f4,f5,f6⟩=>by
       have hm:∀x,sp≤x→c2.m x=c1.m x:=fun x hx=>by rw [f3,lx (by omega)]
       exact⟨f1,e4.of f2 (e4.sm.push f3 f4 f5 (by omega)) hk1.ok hf1 hm (by omega) (by have:=hp.al;omega),by rw [f3,rz,e2],fun a ha=>(hm a ha).trans (e3 a ha)⟩) (Int.le_refl _)) (by omega)
      dsimp only at h;cases hx2:lX g fs d vs e2 s1 with
      | none=>rw [hx2]at h;simp at h
      | some q=>
       rw [hx2]at h;have hY:∀c',(c'.pc=p+wX e+2∧Pr o N vs d F (sp-4) s1 c'∧c'.m (sp-4)=v∧∀a,sp≤a→c'.m a=c.m a)→XR code (p+wX e+2+wX e2) d F (sp-4) c' s1 q:=fun c' ⟨f1,f2,f3,f4⟩=>
        ih.x g (Nat.lt_succ_self g) d vs e2 s1 q hx2 o N (p+wX e+2) F (sp-4) c' hxe2 hcx (by omega) f1 f2 (by omega)
       cases q with
       | err z=>cases h;exact fun he=>hX2.seq (fun c' hc'=>hY c' hc' he) (by omega)
       | ok w s2=>
        cases h;obtain⟨hw1,hw2⟩:=(mi hF g).x d vs e2 s1 w s2 hxe2.vx hp.vs hk1.ok hx2;have hf2:0≤s2.fuel:=by
         obtain⟨_,c2,_,_,hP⟩:=hX2;exact(hY c2 hP).1
        refine⟨hf2,hX2.seq (m:=100*(s1.fuel-s2.fuel)-35) (fun c2 hc2=>(hY c2 hc2).2.seq (m:=5) (fun c3 ⟨g1,g2,g3,g4,g5⟩=> ?_) (by omega)) (by dsimp only;omega)⟩;obtain⟨f1,f2,f3,f4⟩:=hc2;refine(wO (r:=2) hcq g1 g3.s (by decide) ⟨by omega,by have:=hp.al;omega,by have:=hp.al;omega⟩).seq (m:=3) (fun c4 ⟨i1,i2,i3,i4⟩=> ?_) (by decide);have h2:c4.r 2=v:=by rw [i2,g5 _ (Int.le_refl _),f3]
        refine(C7 (r:=2) hce i1 (by decide) h2 hv).seq (m:=1) (fun c5 ⟨j1,j2,j3⟩=> ?_) (by decide);have hwa:wU (c5.r 2+8192)=8192+4*(((v%256).toNat:Nat):Int):=by rw [j2,gZ (by omega)];omega
        have hst:St d F sp c5:=⟨((j3.r 0 (by decide)).trans (i4.r 0 (by decide))).trans g3.z,((j3.r 12 (by decide)).trans (i4.r 12 (by decide))).trans g3.d,((j3.r 13 (by decide)).trans (i4.r 13 (by decide))).trans g3.f,((j3.r 14 (by decide)).trans i3).trans (by omega)⟩
        have hm5:c5.m=c3.m:=j3.m.trans i4.m;have hr1:c5.r 1=w:=((j3.r 1 (by decide)).trans (i4.r 1 (by decide))).trans g2;have hsm:=(g4.kr i4).kr j3;have hkv:∀a,sp≤a→c5.m a=c.m a:=fun a ha=>by rw [hm5,g5 a (by omega),f4 a ha]
        refine AZ (d:=1) (a:=2) (x:=8192) (by rw [j1];exact hcs.head.1) (by rw [hwa];exact⟨by omega,by omega,by omega⟩) (Go.done (by decide) ?_);rw [hwa,hr1];refine⟨hst.of fun _ _=>J,⟨fun i hi=> ?_,hsm.i,hsm.o⟩,fun x hx=> ?_,fun a ha _=> ?_,Ex.none (by show c5.pc+1=_;rw [j1];simp only [ga,mA,aY,aS];omega)⟩
        ·show mw c5.m _ w _=Gq s2.mem _ w i;unfold Gq;by_cases hi2:i=(v%256).toNat
         ·rw [aj hi2,hi2,rz]
         ·rw [ac hi2,lx (by omega)];exact hsm.m i hi
        ·have:=(hp.fs.ok x hx).2;show mw c5.m _ w _=_;rw [lx (by omega),hkv _ this];exact hp.fr x hx
        ·show mw c5.m _ w _=_;rw [lx (by omega),hkv a ha]
     rw [ac q3]at h;by_cases q4:k=4
     · -- if
      rw [aj q4]at h;subst q4;obtain⟨je,hje⟩:∃je:Nat,je=if els.length>0 then 1 else 0:=⟨_,J⟩
      have hc':cAt code p (zX o S e p++([qi 32 1 0 (wU (((lG o S E body (p+wX e+1)).length+(if els.length>0 then 1 else 0)+1:Nat):Int))]++(lG o S E body (p+wX e+1)++
       ((if els.length>0 then [qi 40 0 0 (wU (((lG o S E els (p+wX e+1+(lG o S E body (p+wX e+1)).length+(if els.length>0 then 1 else 0))).length+1:Nat):Int))]else [])++
        lG o S E els (p+wX e+1+(lG o S E body (p+wX e+1)).length+(if els.length>0 then 1 else 0)))))):=hc
      rw [←hje]at hc';have hw:wY (.mk 4 nm ve (e::es) vb body vl els)=wX e+(fO body+(fO els+(1+je))):=by
       show j_ (e::es)+(fO body+(fO els+if els.length>0 then 2 else 1))=_;rw [hje];show wX e+_=_;split<;>omega
      rw [hw]at hl ⊢;obtain⟨-,hc2⟩:=hc'.app;obtain⟨hcb,hc3⟩:=hc2.app;obtain⟨hcl,hc4⟩:=hc3.app;obtain⟨hcj,hcel⟩:=hc4.app;simp only [ir,fk]at hcb hcl hcj hcel;have hjl:(if els.length>0 then [qi 40 0 0 (wU ((fO els+1:Nat):Int))]else []).length=je:=by rw [hje];split<;>rfl
      rw [hjl]at hcel;have hbeq:=hcb.head.1;have hX3:Go code (100*(s.fuel-s1.fuel)-139) c fun c'=>c'.pc=(if v=0 then p+wX e+1+fO body+je else p+wX e+1)∧(∀a,sp≤a→c'.m a=c.m a)∧Pr o N vs d F sp s1 c':=hX1.seq (m:=1) (fun c1 ⟨e1,e2,e3,e4⟩=>by
       refine xm (d:=1) (a:=0) (x:=wU (((fO body+je+1:Nat):Int))) (by rw [e1];exact hbeq) (Go.done (by decide) ⟨?_,e3,⟨e4.st.of fun _ _=>J,e4.fs,e4.fr,⟨e4.sm.m,e4.sm.i,e4.sm.o⟩,e4.ok,e4.vs,e4.al,e4.fu,e4.d1⟩⟩);show(if c1.r 1=c1.r 0 then _ else c1.pc+1)=_;rw [e2,e4.st.z,e1];by_cases hz:v=0
       ·rw [aj hz,aj hz];exact n9 (by rw [show((p+wX e+1+fO body+je:Nat):Int)-((p+wX e:Nat):Int)=((fO body+je+1:Nat):Int) by omega]) (by omega) (by omega)
       ·rw [ac hz,ac hz]) (by omega)
      by_cases hz:v=0
      ·rw [aj hz]at h hX3;refine SR.up (s:=s1) hX3 (fun c' ⟨e1,e2,e3⟩=> ?_) (fun c' ⟨e1,e2,e3⟩=>Kv.of e2) (b:=50) (k:=0) (by omega) (by omega);have:=ih.b g (Nat.lt_succ_self g) d vs els s1 r h o N (p+wX e+1+fO body+je) E F sp c' heo hcel (by omega) hE e1 e3 hsp;rw [show p+(wX e+(fO body+(fO els+(1+je))))=p+wX e+1+fO body+je+fO els by omega];exact this
      ·rw [ac hz]at h hX3;have hB:∀c',(c'.pc=p+wX e+1∧(∀a,sp≤a→c'.m a=c.m a)∧Pr o N vs d F sp s1 c')→SR code (p+wX e+1+fO body) E 50 0 o N d F sp c' s1 r:=fun c' ⟨e1,e2,e3⟩=>
        ih.b g (Nat.lt_succ_self g) d vs body s1 r h o N (p+wX e+1) E F sp c' hbo hcl (by omega) hE e1 e3 hsp
       cases r with
       | err z=>exact fun he=>hX3.seq (fun c' hc'=>hB c' hc' he) (by omega)
       | ok q s2=>
        have hf2:0≤s2.fuel:=by
         obtain⟨_,c2,_,_,hP⟩:=hX3;exact(hB c2 hP).1
        refine⟨hf2,hX3.seq (m:=100*(s1.fuel-s2.fuel)+1) (fun c2 hc2=>(hB c2 hc2).2.seq (m:=1) (fun c3 ⟨f1,f2,f3,f4,f5⟩=> ?_) (by omega)) (by omega)⟩;obtain⟨g1,g2,g3⟩:=hc2;have hkv:=(Kv.of (o:=o) (N:=N) (F:=F) g2).trans f4;obtain⟨vs2,q⟩:=q;cases q with
        | some x=>exact Go.done (by decide) ⟨f1,f2,f3,hkv,fun hq=>(by cases hq),f5.2⟩
        | none=>
         have f6:=f5.1 J;by_cases hz2:els.length>0
         ·rw [aj hz2]at hcj hje;refine tF (d:=0) (a:=0) (x:=wU ((fO els+1:Nat):Int)) (by rw [f6];exact hcj.head.1) (Go.done (by decide) ⟨f1.of fun k hk=>FG,⟨f2.m,f2.i,f2.o⟩,f3,hkv,Ex.none ?_⟩);show vz _=_;rw [f6];exact n9 (by rw [show((p+(wX e+(fO body+(fO els+(1+je)))):Nat):Int)-((p+wX e+1+fO body:Nat):Int)=((fO els+1:Nat):Int) by omega]) (by omega) (by omega)
         ·rw [ac hz2]at hje;have:els= []:=List.length_eq_zero_iff.1 (by omega);subst this;have hw0:fO []=0:=J;exact Go.done (by decide) ⟨f1,f2,f3,hkv,Ex.none (by rw [f6];omega)⟩
     rw [ac q4]at h;by_cases q5:k=5
     · -- while
      rw [aj q5]at h;subst q5;have hc':cAt code p (zW o S E e body p):=hc;have hw:wY (.mk 5 nm ve (e::es) vb body vl els)=wX e+(fO body+2):=J;rw [hw]at hl ⊢;refine SR.up (s:=s1) hX1 (fun c' ⟨e1,e2,e3,e4⟩=> ?_) (fun c' ⟨e1,e2,e3,e4⟩=>Kv.of e3) (b:=60) (k:=2) (by omega) (by omega);have:=ih.w g (Nat.lt_succ_self g) d vs e body v s1 r h o N p E F sp c' hxe hde hbl hbo hc' (by omega) hE e1 e2 e4 hsp;rw [show p+(wX e+(fO body+2))=p+wX e+fO body+2 by omega];exact this
     rw [ac q5]at h;by_cases q6:k=6
     · -- return
      rw [aj q6]at h;subst q6;cases h;have hc':cAt code p (zX o S e p++ [qi 40 0 0 (wU ((E:Int)-((p+wX e:Nat):Int)))]):=hc;have hw:wY (.mk 6 nm ve (e::es) vb body vl els)=wX e+1:=J;rw [hw]at hl ⊢;have hcs:=hc'.app.2;rw [ir]at hcs;refine⟨hf1,hX1.seq (m:=1) (fun c1 ⟨e1,e2,e3,e4⟩=> ?_) (by omega)⟩;refine tF (d:=0) (a:=0) (x:=wU ((E:Int)-((p+wX e:Nat):Int))) (by rw [e1];exact hcs.head.1) (Go.done (by decide) ⟨e4.st.of fun k hk=>FG,⟨e4.sm.m,e4.sm.i,e4.sm.o⟩,e4.fr,Kv.of e3,fun hq=>(by cases hq),fun y hy=> ?_⟩);cases hy;refine⟨?_,by show rp c1.r 0 (jL (c1.pc+1)) 1=_;rw [FG];exact e2⟩;show vz _=_;rw [e1];exact n9 J (by omega) (by omega)
     rw [ac q6]at h;by_cases q7:k=7
     · -- out
      rw [aj q7]at h;subst q7;cases h;have hc':cAt code p (zX o S e p++ [⟨48,0,0,0,1⟩]):=hc;have hw:wY (.mk 7 nm ve (e::es) vb body vl els)=wX e+1:=J;rw [hw]at hl ⊢;have hcs:=hc'.app.2;rw [ir]at hcs;refine⟨hf1,hX1.seq (m:=1) (fun c1 ⟨e1,e2,e3,e4⟩=> ?_) (by dsimp only;omega)⟩;refine NK (by rw [e1];exact hcs.head.1) (Go.done (by decide) ⟨e4.st.of fun _ _=>J,⟨e4.sm.m,e4.sm.i,?_⟩,e4.fr,Kv.of e3,Ex.none (by show c1.pc+1=_;rw [e1];rfl)⟩);show c1.out++ [c1.r 1]=s1.out++ [v];rw [e2,e4.sm.o]
     rw [ac q7]at h
     -- an expression alone
     have q8:k=8:=by omega
     subst q8;cases h;have hw:wY (.mk 8 nm ve (e::es) vb body vl els)=wX e:=J;rw [hw];exact⟨hf1,hX1.weak (fun c1 ⟨e1,e2,e3,e4⟩=>⟨e4.st,e4.sm,e4.fr,Kv.of e3,Ex.none e1⟩) (by omega)⟩
end
structure pFO(fs:List Tf)(f:Tf)(N:List Ba):Prop where
 so:SOs fs N f.body
 ps4:f.ps.length≤4
 nv:(dB f).2.toNat≤12
 nd:f.ps.Nodup
 off:∀x∈N,(∃i:Nat,f.ps[i]?=some x∧bI (dB f).1 x=8+4*((f.ps.length:Int)-1-i))∨(x∉f.ps∧∃j:Nat,1≤j∧j≤(dB f).2.toNat∧bI (dB f).1 x=wU (-(4*(j:Int))))
 inj:∀x∈N,∀y∈N,bI (dB f).1 x=bI (dB f).1 y→x=y
structure CF(code:List Qi)(fs:List Tf)(S:Ba→Int):Prop where
 fn:∀x f,cV fs x=some f→∃p:Nat,S x=(p:Int)∧cAt code p (zF S f p)∧p+wF f≤1984
 ok:∀x f,cV fs x=some f→∃N,pFO fs f N
theorem CF.cp{code:List Qi}{fs:List Tf}{S:Ba→Int}(h:CF code fs S):CP code fs S:=
 ⟨fun x f hf=>by obtain⟨p,h1,h2,h3⟩:=h.fn x f hf;exact⟨p,h1,by omega⟩,fun x f hf=>by obtain⟨N,hN⟩:=h.ok x f hf;exact hN.ps4⟩
theorem qE:∀(ps:List Ba)(al:List Int)(vs:Vs)(x:Ba),x∉ps→sW (jK vs ps al) x=sW vs x
 | [],al,vs,x,h=>by unfold jK;rfl
 | p::ps,[],vs,x,h=>by unfold jK;rfl
 | p::ps,a::al,vs,x,h=>by
  rw [List.mem_cons,not_or]at h;show sW (jK (g_ vs p a) ps al) x=_;rw [qE ps al _ x h.2,sV,ac fun e=>h.1 e.symm]
theorem x9:∀(ps:List Ba)(al:List Int)(vs:Vs)(i:Nat)(x:Ba)(a:Int),ps.Nodup→ps[i]?=some x→al[i]?=some a→sW (jK vs ps al) x=a
 | [],al,vs,i,x,a,_,h,_=>by simp at h
 | p::ps,[],vs,i,x,a,_,_,h=>by simp at h
 | p::ps,b::al,vs,i,x,a,hn,h1,h2=>by
  rw [List.nodup_cons]at hn;show sW (jK (g_ vs p b) ps al) x=_;cases i with
  | zero=>
   cases h1;cases h2;rw [qE ps al _ p hn.1,sV,aj J]
  | succ i=>exact x9 ps al _ i x a hn.2 h1 h2
section
variable{code:List Qi}{fs:List Tf}{S:Ba→Int}
theorem yB{d F:Int}:∀(n:Nat){p:Nat}{sp:Int}{c:Qs}{s:Ms},cAt code p (j9 n)→c.pc=p→St d F sp c→9216+4*(n:Int)≤sp→sp≤16384→sp%4=0→pSm c s→
  Go code (2*(n:Int)) c fun c'=>c'.pc=p+2*n∧St d F (sp-4*(n:Int)) c'∧pSm c' s∧(∀a,sp≤a→c'.m a=c.m a)∧∀j:Nat,1≤j→j≤n→c'.m (sp-4*(j:Int))=0
 | 0,p,sp,c,s,_,hpc,h,_,_,_,hs=>Go.done (by omega) ⟨hpc,by rw [show sp-4*((0:Nat):Int)=sp by omega];exact h,hs,fun _ _=>rfl,fun j h1 h2=>by omega⟩
 | n+1,p,sp,c,s,hc,hpc,h,h1,h2,h3,hs=>by
  have hc':cAt code p (ga 0++j9 n):=hc;obtain⟨hc1,hc2⟩:=hc'.app;refine(nj hc1 hpc h (by decide) ⟨by omega,h2,h3⟩).seq (m:=2*(n:Int)) (fun c1 ⟨e1,e2,e3,e4,e5,e6⟩=> ?_) (by omega);refine(yB n (p:=p+2) (sp:=sp-4) hc2 e1 e2 (by omega) (by omega) (by omega) (hs.push e3 e4 e5 (by omega))).weak (fun c2 ⟨f1,f2,f3,f4,f5⟩=>⟨by rw [f1];omega,?_,f3,fun a ha=> ?_,fun j hj1 hj2=> ?_⟩) (Int.le_refl _)
  ·rw [show sp-4*((n+1:Nat):Int)=sp-4-4*(n:Int) by omega];exact f2
  ·rw [f4 a (by omega),e3,lx (by omega)]
  ·by_cases hj:j=1
   ·subst hj;rw [show sp-4*((1:Nat):Int)=sp-4 by omega,f4 _ (Int.le_refl _),e3,rz,h.z]
   ·have:=f5 (j-1) (by omega) (by omega);rw [show sp-4*(j:Int)=sp-4-4*((j-1:Nat):Int) by omega];exact this
theorem J0{g:Nat}(hF:VF fs)(hC:CF code fs S)(ih:HD code fs S g):HC code fs S g:=by
 intro d f al s r h F sp c q hff hal hao hpc h15 hq hst hsm hok hfu ha hsp hlo hd hargs;have hlo':=vH hd;cases g with
 | zero=>simp [u0]at h
 | succ g=>
  rw [u0]at h;obtain⟨pf,hpf,hcf,hpl⟩:=hC.fn _ _ hff;obtain⟨N,hN⟩:=hC.ok _ _ hff;obtain⟨nv,hnv⟩:∃nv,nv=(dB f).2.toNat:=⟨_,J⟩
  obtain⟨o,ho⟩:∃o,o=(dB f).1:=⟨_,J⟩
  have hv12:=hN.nv;have h4:=hN.ps4;have hoff:=hN.off;have hinj:=hN.inj;rw [←ho,←hnv]at hoff;rw [←ho]at hinj;rw [←hnv]at hv12;have hwf:wF f=17+2*nv+fO f.body:=by rw [hnv];rfl
  have hcf':cAt code pf ([qi 16 12 12 1,qi 16 2 0 12,qi 35 2 12 2,⟨49,0,0,0,0⟩]++(ga 15++(ga 13++([q3 1 13 14 0]++(j9 nv++
   (lG o S ((pf+10+2*nv+fO f.body:Nat):Int) f.body (pf+9+2*nv)++([q3 1 1 0 0,q3 1 14 13 0]++(mA 13++(mA 15++ [qi 16 12 12 4294967295,qi 27 0 15 0]))))))))):=by
   rw [hnv,ho];exact hcf
  obtain⟨hA,hcf'⟩:=hcf'.app;obtain⟨hP15,hcf'⟩:=hcf'.app;obtain⟨hP13,hcf'⟩:=hcf'.app;obtain⟨hAdd,hcf'⟩:=hcf'.app;obtain⟨hP0,hcf'⟩:=hcf'.app;obtain⟨hBody,hcf'⟩:=hcf'.app;obtain⟨hR,hcf'⟩:=hcf'.app;obtain⟨hQ13,hcf'⟩:=hcf'.app;obtain⟨hQ15,hEnd⟩:=hcf'.app;simp only [lI,fk,ga,mA,aY,aS,Nat.zero_add,Nat.reduceAdd]at hP15 hP13 hAdd hP0 hBody hR hQ13 hQ15 hEnd;have hpc0:c.pc=pf:=by rw [hpc,hpf];rfl
  have hdc:(d:Int)≤12:=by omega
  have hstart:Go code 3 c fun c3=>c3.pc=(if d=12 then pf+3 else pf+4)∧St ((d:Int)+1) F sp c3∧c3.r 15=jL q∧pSm c3 s∧c3.m=c.m:=by
   refine kW hpc0 hA.head.1 (v:=(d:Int)+1) (by
    show some (wU (c.r 12+1))=_;rw [hst.d,gZ (by omega)]) fun c1 e1 e2 e3 e4 e5=> ?_
   refine kW e1 hA.head.2.head.1 (v:=12) (by
    show some (wU (c1.r 0+12))=_;rw [e2,cD (by decide),hst.z];rfl) fun c2 f1 f2 f3 f4 f5=> ?_
   refine J3 (d:=2) (a:=12) (x:=2) (by rw [f1];exact hA.head.2.head.2.head.1) (Go.done (by decide) ⟨?_,⟨?_,?_,?_,?_⟩,?_,⟨fun i hi=> ?_,(f4.trans e4).trans hsm.i,(f5.trans e5).trans hsm.o⟩,f3.trans e3⟩)
   ·show(if c2.r 2≥c2.r 12 then _ else c2.pc+1)=_;rw [f2,em (by decide),cD (by decide),e2,em (by decide),f1];by_cases h12:d=12
    ·rw [ac (by omega),aj h12]
    ·rw [aj (by omega),ac h12];exact n9 (by rw [show((pf+4:Nat):Int)-((pf+1+1:Nat):Int)=2 by omega];rfl) (by omega) (by omega)
   ·show c2.r 0=0;rw [f2,cD (by decide),e2,cD (by decide)];exact hst.z
   ·show c2.r 12=_;rw [f2,cD (by decide),e2,em (by decide)]
   ·show c2.r 13=_;rw [f2,cD (by decide),e2,cD (by decide)];exact hst.f
   ·show c2.r 14=_;rw [f2,cD (by decide),e2,cD (by decide)];exact hst.s
   ·show c2.r 15=_;rw [f2,cD (by decide),e2,cD (by decide)];exact h15
   ·show c2.m _=_;rw [f3,e3];exact hsm.m i hi
  by_cases h12:d=12
  ·rw [aj h12]at h hstart;cases h;exact fun _=>hstart.weak (fun c3 ⟨e1,_⟩=>by unfold Bk;rw [e1];exact hA.head.2.head.2.head.2.head.1) (by omega)
  rw [ac h12]at h hstart;have hlo1:lo d=lo (d+1)+256:=by unfold lo;omega
  have hlo2:=vH (d:=d+1) (by omega)
  -- the frame
  have hframe:Go code (8+2*(nv:Int)) c fun c'=>c'.pc=pf+9+2*nv∧Pr o N (jK [] f.ps al) (d+1) (sp-8) (sp-8-4*(nv:Int)) s c'∧c'.m (sp-8)=F∧c'.m (sp-4)=jL q∧∀a,sp≤a→c'.m a=c.m a:=by
   refine hstart.seq (m:=5+2*(nv:Int)) (fun c3 ⟨e1,e2,e3,e4,e5⟩=> ?_) (by omega);refine(nj hP15 e1 e2 (by decide) ⟨by omega,by omega,ha⟩).seq (m:=3+2*(nv:Int)) (fun c4 ⟨f1,f2,f3,f4,f5,f6⟩=> ?_) (by omega);refine(nj hP13 f1 f2 (by decide) ⟨by omega,by omega,by omega⟩).seq (m:=1+2*(nv:Int)) (fun c5 ⟨g1,g2,g3,g4,g5,g6⟩=> ?_) (by omega);refine kw g1 hAdd.head.1 (v:=sp-8) (by
    show some (wU (c5.r 14+c5.r 0))=_;rw [g2.s,g2.z,gZ (by omega)];exact congrArg some (by omega)) fun c6 i1 i2 i3 i4 i5=> ?_
   have hst6:St ((d:Int)+1) (sp-8) (sp-8) c6:=⟨by rw [i2,cD (by decide)];exact g2.z,by rw [i2,cD (by decide)];exact g2.d,by rw [i2];exact em (by decide),by rw [i2,cD (by decide),g2.s];omega⟩
   have hsm6:pSm c6 s:=by
    have h5:=(e4.push f3 f4 f5 (by omega)).push g3 g4 g5 (by omega);exact⟨fun i hi=>by rw [i3];exact h5.m i hi,i4.trans h5.i,i5.trans h5.o⟩
   have hm8:c6.m (sp-8)=F:=by
    rw [i3,g3,show sp-8=sp-4-4 by omega,rz,f6 13 (by decide)];exact e2.f
   have hm4:c6.m (sp-4)=jL q:=by
    rw [i3,g3,lx (by omega),f3,rz];exact e3
   have hmh:∀a,sp≤a→c6.m a=c.m a:=fun a ha=>by rw [i3,g3,lx (by omega),f3,lx (by omega),e5]
   refine(yB nv (p:=pf+9) (s:=s) hP0 i1 hst6 (by omega) (by omega) (by omega) hsm6).weak (fun c7 ⟨j1,j2,j3,j4,j5⟩=>⟨j1,⟨by rw [show(((d+1:Nat):Int))=(d:Int)+1 by omega];exact j2,⟨fun x hx=> ?_,fun x hx y hy e=> ?_⟩,fun x hx=> ?_,j3,hok,?_,⟨by omega,by omega⟩,hfu,⟨by omega,by omega⟩⟩,by rw [j4 _ (Int.le_refl _)];exact hm8,by rw [j4 _ (by omega)];exact hm4,fun a ha=>by rw [j4 a (by omega)];exact hmh a ha⟩) (by omega)
   ·rcases hoff x hx with⟨i,hi,he⟩|⟨_,j,hj1,hj2,he⟩
    ·obtain⟨hil,-⟩:=cU.1 hi;have:va o (sp-8) x=sp+4*((f.ps.length:Int)-1-i):=by unfold va;rw [he,gZ (by omega)];omega
     rw [this];exact⟨⟨by omega,by omega,by omega⟩,by omega⟩
    ·have:va o (sp-8) x=sp-8-4*(j:Int):=by unfold va;rw [he,rc,rc];omega
     rw [this];exact⟨⟨by omega,by omega,by omega⟩,by omega⟩
   ·refine hinj x hx y hy ?_;unfold va at e;rcases hoff x hx with⟨i,hi,he⟩|⟨_,j,hj1,hj2,he⟩<;>rcases hoff y hy with⟨i',hi',he'⟩|⟨_,j',hj1',hj2',he'⟩
    ·obtain⟨hil,-⟩:=cU.1 hi;obtain⟨hil',-⟩:=cU.1 hi';rw [he,he',rc,rc]at e;rw [he,he'];omega
    ·obtain⟨hil,-⟩:=cU.1 hi;rw [he,he',rc,rc,rc]at e;exfalso;omega
    ·obtain⟨hil',-⟩:=cU.1 hi';rw [he,he',rc,rc,rc]at e;exfalso;omega
    ·rw [he,he',rc,rc,rc,rc]at e;rw [he,he',rc,rc];omega
   ·rcases hoff x hx with⟨i,hi,he⟩|⟨hn,j,hj1,hj2,he⟩
    ·obtain⟨hil,-⟩:=cU.1 hi;have:va o (sp-8) x=sp+4*((f.ps.length:Int)-1-i):=by unfold va;rw [he,gZ (by omega)];omega
     obtain⟨a,ha'⟩:∃a,al[i]?=some a:=⟨_,bQ (by omega)⟩
     rw [this,j4 _ (by omega),hmh _ (by omega),x9 f.ps al [] i x a hN.nd hi ha',←hargs i a ha',hal]
    ·have:va o (sp-8) x=sp-8-4*(j:Int):=by unfold va;rw [he,rc,rc];omega
     rw [this,j5 j hj1 hj2,qE f.ps al [] x hn];rfl
   ·exact okVs.bind f.ps al (fun p hp=>by simp at hp) hao
  cases hb:nS g fs (d+1) (jK [] f.ps al) f.body s with
  | none=>rw [hb]at h;simp at h
  | some rb=>
   rw [hb]at h;have hB:∀c',(c'.pc=pf+9+2*nv∧Pr o N (jK [] f.ps al) (d+1) (sp-8) (sp-8-4*(nv:Int)) s c'∧c'.m (sp-8)=F∧c'.m (sp-4)=jL q∧∀a,sp≤a→c'.m a=c.m a)→
     SR code (pf+9+2*nv+fO f.body) (pf+10+2*nv+fO f.body) 50 0 o N (d+1) (sp-8) (sp-8-4*(nv:Int)) c' s rb:=fun c' ⟨e1,e2,_⟩=>
    ih.b g (Nat.lt_succ_self g) (d+1) _ f.body s rb hb o N (pf+9+2*nv) (pf+10+2*nv+fO f.body) (sp-8) (sp-8-4*(nv:Int)) c' hN.so hBody (by omega) (by omega) e1 e2 (by omega)
   cases rb with
   | err e=>cases h;exact fun he=>hframe.seq (fun c' hc'=>hB c' hc' he) (by omega)
   | ok qr s1=>
    obtain⟨vs1,qr⟩:=qr;cases h;have hf1:0≤s1.fuel:=by
     obtain⟨_,c2,_,_,hP⟩:=hframe;exact(hB c2 hP).1
    refine⟨hf1,hframe.seq (m:=100*(s.fuel-s1.fuel)+10) (fun c1 hc1=>(hB c1 hc1).2.seq (m:=9) (fun c2 ⟨e1,e2,e3,e4,e5⟩=> ?_) (by omega)) (by omega)⟩;obtain⟨k1,k2,k3,k4,k5⟩:=hc1;have hva:∀x∈N,∀a,(a=sp-8∨a=sp-4∨sp+4*(al.length:Int)≤a)→a≠va o (sp-8) x:=fun x hx a ha'=>by
     rcases hoff x hx with⟨i,hi,he⟩|⟨_,j,hj1,hj2,he⟩
     ·obtain⟨hil,-⟩:=cU.1 hi;unfold va;rw [he,gZ (by omega)];omega
     ·unfold va;rw [he,rc,rc];omega
    have hm8:c2.m (sp-8)=F:=(e4 _ (by omega) fun x hx=>hva x hx _ (.inl J)).trans k3;have hm4:c2.m (sp-4)=jL q:=(e4 _ (by omega) fun x hx=>hva x hx _ (.inr (.inl J))).trans k4;have hmh:∀a,sp+4*(al.length:Int)≤a→c2.m a=c.m a:=fun a ha'=>(e4 _ (by omega) fun x hx=>hva x hx _ (.inr (.inr ha'))).trans (k5 a (by omega))
    have hend:Go code 1 c2 fun c3=>c3.pc=pf+10+2*nv+fO f.body∧c3.r 1=qr.getD 0∧St ((d:Int)+1) (sp-8) (sp-8-4*(nv:Int)) c3∧pSm c3 s1∧c3.m=c2.m:=by
     rw [show(((d+1:Nat):Int))=(d:Int)+1 by omega]at e1;cases qr with
     | some v=>exact Go.done (by decide) ⟨(e5.2 v rfl).1,(e5.2 v rfl).2,e1,e2,rfl⟩
     | none=>
      refine kw (e5.1 J) hR.head.1 (v:=0) (by
       show some (wU (c2.r 0+c2.r 0))=_;rw [e1.z];rfl) fun c3 g1 g2 g3 g4 g5=>Go.done (by decide) ⟨by rw [g1];omega,by rw [g2];exact em (by decide),e1.of fun k hk=>by rw [g2];exact cD (by omega),⟨fun i hi=>by rw [g3];exact e2.m i hi,g4.trans e2.i,g5.trans e2.o⟩,g3⟩
    refine hend.seq (m:=8) (fun c3 ⟨f1,f2,f3,f4,f5⟩=> ?_) (by decide);refine kw f1 (by
     have:=hR.head.2.head.1;rw [show pf+10+2*nv+fO f.body=pf+9+2*nv+fO f.body+1 by omega];exact this) (v:=sp-8) (by
     show some (wU (c3.r 13+c3.r 0))=_;rw [f3.f,f3.z,Int.add_zero,gZ (by omega)]) fun c4 g1 g2 g3 g4 g5=> ?_
    have h14:c4.r 14=sp-8:=by rw [g2];exact em (by decide)
    refine(wO (r:=13) hQ13 (g1.trans (by omega)) h14 (by decide) ⟨by omega,by omega,by omega⟩).seq (m:=5) (fun c5 ⟨i1,i2,i3,i4⟩=> ?_) (by decide);refine(wO (sp:=sp-4) (r:=15) hQ15 (i1.trans (by omega)) (by rw [i3];omega) (by decide) ⟨by omega,by omega,by omega⟩).seq (m:=3) (fun c6 ⟨j1,j2,j3,j4⟩=> ?_) (by decide);have hm6:c6.m=c2.m:=by rw [j4.m,i4.m,g3,f5]
    have h13:c6.r 13=F:=by rw [j4.r 13 (by decide),i2,g3,f5];exact hm8
    have h15':c6.r 15=jL q:=by rw [j2,i4.m,g3,f5];exact hm4
    have h0:c6.r 0=0:=by rw [j4.r 0 (by decide),i4.r 0 (by decide),g2,cD (by decide)];exact f3.z
    have h1:c6.r 1=qr.getD 0:=by rw [j4.r 1 (by decide),i4.r 1 (by decide),g2,cD (by decide)];exact f2
    have h12':c6.r 12=(d:Int)+1:=by rw [j4.r 12 (by decide),i4.r 12 (by decide),g2,cD (by decide)];exact f3.d
    refine kW (p:=pf+15+2*nv+fO f.body) (j1.trans (by omega)) (by
     have:=hEnd.head.1;rw [show pf+15+2*nv+fO f.body=pf+4+2+2+1+2*nv+fO f.body+2+2+2 by omega];exact this) (v:=(d:Int)) (by
     show some (wU (c6.r 12+4294967295))=_;rw [h12',rc];exact congrArg some (by omega)) fun c7 l1 l2 l3 l4 l5=> ?_
    refine J2 (d:=0) (a:=15) (x:=0) (by
     have:=hEnd.head.2.head.1;rw [l1,show pf+15+2*nv+fO f.body+1=pf+4+2+2+1+2*nv+fO f.body+2+2+2+1 by omega];exact this) (Go.done (by decide) ⟨?_,?_,⟨?_,?_,?_,?_⟩,⟨fun i hi=> ?_,?_,?_⟩,fun a ha'=> ?_⟩)
    ·show vz (wU (c7.r 15+0))=q;rw [l2,cD (by decide),h15'];exact Jm (by omega)
    ·show rp c7.r 0 (jL (c7.pc+1)) 1=_;rw [cD (by decide),l2,cD (by decide)];exact h1
    ·show rp c7.r 0 (jL (c7.pc+1)) 0=_;rw [FG,l2,cD (by decide)];exact h0
    ·show rp c7.r 0 (jL (c7.pc+1)) 12=_;rw [cD (by decide),l2,em (by decide)]
    ·show rp c7.r 0 (jL (c7.pc+1)) 13=_;rw [cD (by decide),l2,cD (by decide)];exact h13
    ·show rp c7.r 0 (jL (c7.pc+1)) 14=_;rw [cD (by decide),l2,cD (by decide),j3];omega
    ·show c7.m _=_;rw [l3,hm6,←f5];exact f4.m i hi
    ·exact(((l4.trans j4.i).trans i4.i).trans g4).trans f4.i
    ·exact(((l5.trans j4.o).trans i4.o).trans g5).trans f4.o
    ·show c7.m a=_;rw [l3,hm6];exact hmh a ha'
theorem NE(hF:VF fs)(hC:CF code fs S)(g:Nat):HD code fs S g:=by
 induction g with
 | zero=>exact⟨⟨fun _ h=>absurd h (Nat.not_lt_zero _),fun _ h=>absurd h (Nat.not_lt_zero _),fun _ h=>absurd h (Nat.not_lt_zero _)⟩,fun _ h=>absurd h (Nat.not_lt_zero _),fun _ h=>absurd h (Nat.not_lt_zero _),fun _ h=>absurd h (Nat.not_lt_zero _)⟩
 | succ g ih=>
  have up:∀{T:Nat→Prop},(∀g'<g,T g')→T g→∀g'<g+1,T g':=fun{T} h1 h2 g' hg=>by
   rcases Nat.lt_or_eq_of_le (Nat.le_of_lt_succ hg)with h|h
   ·exact h1 g' h
   ·exact h▸h2
  exact⟨⟨up ih.x (JV hF hC.cp ih.toHA),up ih.k (JY hF ih.toHA),up ih.c (J0 hF hC ih)⟩,up ih.b (J1 hF ih),up ih.s (JX hF ih),up ih.w (JW hF ih)⟩
end
theorem fH{x:Ba}{l:List Ba}:cx x l=true↔x∈l:=by
 unfold cx;rw [List.any_eq_true];constructor
 ·rintro ⟨y,h1,h2⟩;have h2:x=y:=by simpa using h2
  exact h2▸h1
 ·exact fun h=>⟨x,h,by simp⟩
mutual
theorem QI{fs:List Tf}{ns N:List Ba}(hs:∀x∈ns,x∈N):∀t:Tx,eX fs ns t=0→eX fs N t=0
 | .mk k n nm v kids,h=>by
  obtain⟨h1,h2⟩:=bx.1 h;refine bx.2 ⟨?_,Bl hs kids h2⟩;by_cases hk:k=2
  ·rw [aj hk]at h1 ⊢;by_cases hm:cx nm ns=true
   ·rw [aj (fH.2 (hs nm (fH.1 hm)))]
   ·rw [ac hm]at h1;exact absurd h1 (by decide)
  ·rw [ac hk]at h1 ⊢;exact h1
theorem Bl{fs:List Tf}{ns N:List Ba}(hs:∀x∈ns,x∈N):∀l:List Tx,jH fs ns l=0→jH fs N l=0
 | [],_=>rfl
 | t::r,h=>by
  obtain⟨h1,h2⟩:=bx.1 h;exact bx.2 ⟨QI hs t h1,Bl hs r h2⟩
end
theorem XO.list{fs:List Tf}{N:List Ba}:∀{l:List Tx},GXs l→ji l=true→jH fs N l=0→∀u∈l,XO fs N u
 | [],_,_,_,u,hu=>by simp at hu
 | t::r,hg,hr,he,u,hu=>by
  have hr2:(rX t&&ji r)=true:=hr;rw [Bool.and_eq_true]at hr2;obtain⟨e1,e2⟩:=bx.1 he;rcases List.mem_cons.1 hu with rfl|hu
  ·exact⟨hg.1,hr2.1,e1⟩
  ·exact XO.list hg.2 hr2.2 e2 u hu
theorem HF:∀{l:List Tx}{t:Tx},t∈l→dX t≤f_ l
 | [],t,h=>by simp at h
 | a::r,t,h=>by
  show dX t≤max (dX a) (f_ r);rcases List.mem_cons.1 h with rfl|h
  ·omega
  ·have:=HF h;omega
theorem BC(fs:List Tf)(ns:List Ba)(k:Int)(nm:Ba)(ve:SV)(es:List Tx)(vb:SV)(body:List Ty)(vl:SV)(els:List Ty):bY fs ns (.mk k nm ve es vb body vl els)=
  ((dK fs (dK fs (if k=1 then ns++ [nm]else ns) body).1 els).1,fst (if k=2 then(if cx nm ns=true then 0 else 21)else 0) (fst (jH fs ns es) (fst (if k=1 then(if cx nm ns=true then 22 else 0)else 0) (fst (dK fs (if k=1 then ns++ [nm]else ns) body).2 (dK fs (dK fs (if k=1 then ns++ [nm]else ns) body).1 els).2)))):=rfl
theorem xK(fs:List Tf)(ns:List Ba)(t:Ty)(r:List Ty):dK fs ns (t::r)=((dK fs (bY fs ns t).1 r).1,fst (bY fs ns t).2 (dK fs (bY fs ns t).1 r).2):=rfl
mutual
theorem Il{fs:List Tf}:∀(t:Ty)(ns:List Ba),∀x∈ns,x∈(bY fs ns t).1
 | .mk k nm ve es vb body vl els,ns,x,hx=>by
  rw [BC];refine lZ els _ x (lZ body _ x ?_);split
  ·exact List.mem_append_left _ hx
  ·exact hx
theorem lZ{fs:List Tf}:∀(l:List Ty)(ns:List Ba),∀x∈ns,x∈(dK fs ns l).1
 | [],ns,x,hx=>hx
 | t::r,ns,x,hx=>by
  rw [xK];exact lZ r _ x (Il t ns x hx)
end
mutual
theorem Pp{fs:List Tf}:∀(t:Ty)(ns N:List Ba)(d:Nat),(∀x∈(bY fs ns t).1,x∈N)→GY t→rY t=true→(bY fs ns t).2=0→xG d t=false→SO fs N t
 | .mk k nm ve es vb body vl els,ns,N,d,hN,hg,hr,he,hd=>by
  have hr2:(n_ k nm es.length body.length els.length&&ji es&&h_ body&&h_ els)=true:=hr;simp only [Bool.and_eq_true]at hr2;obtain⟨⟨⟨h1,h2⟩,h3⟩,h4⟩:=hr2;have hd2:(decide (d>8) || decide (f_ es>8) || cG (d+1) body || cG (d+1) els)=false:=hd;simp only [Bool.or_eq_false_iff,decide_eq_false_iff_not]at hd2;obtain⟨⟨⟨d1,d2⟩,d3⟩,d4⟩:=hd2;have hsub:=Il (fs:=fs) (.mk k nm ve es vb body vl els) ns;rw [BC]at he hN;obtain⟨e1,he⟩:=bx.1 he;obtain⟨e2,he⟩:=bx.1 he;obtain⟨e3,he⟩:=bx.1 he;obtain⟨e4,e5⟩:=bx.1 he;have hns:∀x∈ns,x∈N:=fun x hx=>hN x (hsub x hx)
  refine⟨h1,fun u hu=>⟨XO.list hg.2.1.2 h2 (Bl hns es e2) u hu,by have:=HF hu;omega⟩,fun hk=> ?_,⟨hg.2.2.1.1,wy body _ N (d+1) (fun x hx=>hN x (lZ els _ x hx)) hg.2.2.1.2 h3 e4 d3⟩,hg.2.2.2.1,wy els _ N (d+1) hN hg.2.2.2.2 h4 e5 d4⟩;by_cases hk1:k=1
  ·refine hN nm (lZ els _ nm (lZ body _ nm ?_));rw [aj hk1];exact List.mem_append_right _ (List.mem_singleton_self _)
  ·have hk2:k=2:=by omega
   rw [aj hk2]at e1;by_cases hm:cx nm ns=true
   ·exact hns nm (fH.1 hm)
   ·rw [ac hm]at e1;exact absurd e1 (by decide)
theorem wy{fs:List Tf}:∀(l:List Ty)(ns N:List Ba)(d:Nat),(∀x∈(dK fs ns l).1,x∈N)→GYs l→h_ l=true→(dK fs ns l).2=0→cG d l=false→SOs fs N l
 | [],_,_,_,_,_,_,_,_=>trivial
 | t::r,ns,N,d,hN,hg,hr,he,hd=>by
  have hr2:(rY t&&h_ r)=true:=hr;rw [Bool.and_eq_true]at hr2;have hd2:(xG d t || cG d r)=false:=hd;rw [Bool.or_eq_false_iff]at hd2;rw [xK]at he hN;obtain⟨e1,e2⟩:=bx.1 he;exact⟨Pp t ns N d (fun x hx=>hN x (lZ r _ x hx)) hg.1 hr2.1 e1 hd2.1,wy r _ N d hN hg.2 hr2.2 e2 hd2.2⟩
end
structure Jo(ps ns:List Ba)(o:Om)(n:Int)(vs:List Ba):Prop where
 ens:ns=ps++vs
 nd:ns.Nodup
 en:(vs.length:Int)=n
 p:∀(i:Nat) x,ps[i]?=some x→bI o x=8+4*((ps.length:Int)-1-i)
 v:∀(j:Nat) x,vs[j]?=some x→bI o x=wU (-(4*((j:Int)+1)))
theorem Jo.add{ps ns:List Ba}{o:Om}{n:Int}{vs:List Ba}{nm:Ba}(h:Jo ps ns o n vs)(hn:nm∉ns):Jo ps (ns++ [nm]) (g_ o nm (wU (-(4*(n+1))))) (n+1) (vs++ [nm]):=by
 refine⟨by rw [h.ens,List.append_assoc],List.nodup_append.2 ⟨h.nd,by simp,fun a ha b hb e=> ?_⟩,by rw [bD,dk,←h.en];omega,fun i x hi=> ?_,fun j x hj=> ?_⟩
 ·rw [List.mem_singleton.1 hb]at e;exact hn (e▸ha)
 ·rw [iN,ac fun e=>hn (by rw [e,h.ens];exact List.mem_append_left _ (bV hi))];exact h.p i x hi
 ·by_cases hl:j<vs.length
  ·rw [List.getElem?_append_left hl]at hj;rw [iN,ac fun e=>hn (by rw [e,h.ens];exact List.mem_append_right _ (bV hj))];exact h.v j x hj
  ·rw [List.getElem?_append_right (by omega)]at hj;have:j=vs.length:=by
    have:=(cU.1 hj).1;simp at this;omega
   subst this;rw [Nat.sub_self]at hj;cases hj;rw [iN,aj J,h.en]
theorem A6(k:Int)(nm:Ba)(ve:SV)(es:List Tx)(vb:SV)(body:List Ty)(vl:SV)(els:List Ty)(p:Om×Int):gD (.mk k nm ve es vb body vl els) p=gDs els (gDs body (if k=1 then(g_ p.1 nm (wU (-(4*(p.2+1)))),p.2+1)else p)):=rfl
mutual
theorem Tz{fs:List Tf}{ps:List Ba}:∀(t:Ty)(ns:List Ba)(p:Om×Int),(∃vs,Jo ps ns p.1 p.2 vs)→(bY fs ns t).2=0→∃vs,Jo ps (bY fs ns t).1 (gD t p).1 (gD t p).2 vs
 | .mk k nm ve es vb body vl els,ns,p,h,he=>by
  rw [BC]at he ⊢;obtain⟨e1,he⟩:=bx.1 he;obtain⟨e2,he⟩:=bx.1 he;obtain⟨e3,he⟩:=bx.1 he;obtain⟨e4,e5⟩:=bx.1 he;rw [A6];refine Cy els _ _ (Cy body _ _ ?_ e4) e5;by_cases hk:k=1
  ·rw [aj hk]at e3;rw [aj hk,aj hk];obtain⟨vs,hvs⟩:=h;refine⟨_,hvs.add fun hm=> ?_⟩;rw [aj (fH.2 hm)]at e3;exact absurd e3 (by decide)
  ·rw [ac hk,ac hk];exact h
theorem Cy{fs:List Tf}{ps:List Ba}:∀(l:List Ty)(ns:List Ba)(p:Om×Int),(∃vs,Jo ps ns p.1 p.2 vs)→(dK fs ns l).2=0→∃vs,Jo ps (dK fs ns l).1 (gDs l p).1 (gDs l p).2 vs
 | [],ns,p,h,_=>h
 | t::r,ns,p,h,he=>by
  rw [xK]at he ⊢;obtain⟨e1,e2⟩:=bx.1 he;exact Cy r _ _ (Tz t ns p h e1) e2
end
mutual
theorem NT:∀(t:Ty)(p:Om×Int),(gD t p).2=p.2+vY t
 | .mk k nm ve es vb body vl els,p=>by
  rw [A6,qa els,qa body,show vY (.mk k nm ve es vb body vl els)=(if k=1 then 1 else 0)+dW body+dW els from J];by_cases h:k=1
  ·rw [aj h,aj h];show p.2+1+_+_=_;omega
  ·rw [ac h,ac h];omega
theorem qa:∀(l:List Ty)(p:Om×Int),(gDs l p).2=p.2+dW l
 | [],p=>by show p.2=p.2+((0:Nat):Int);omega
 | t::r,p=>by
  show(gDs r (gD t p)).2=_;rw [qa r,NT t,show dW (t::r)=vY t+dW r from J];omega
end
theorem Hd(n:Int):∀(l:List Ba)(k:Int)(o:Om),l.Nodup→(∀(i:Nat) x,l[i]?=some x→bI (gP n k l o) x=8+4*(n-1-(k+i)))∧∀x,x∉l→bI (gP n k l o) x=bI o x
 | [],k,o,_=>⟨fun i x h=>by simp at h,fun _ _=>rfl⟩
 | p::r,k,o,h=>by
  rw [List.nodup_cons]at h;obtain⟨i1,i2⟩:=Hd n r (k+1) (g_ o p (8+4*(n-1-k))) h.2;refine⟨fun i x hi=> ?_,fun x hx=> ?_⟩
  ·cases i with
   | zero=>
    cases hi;show bI (gP n (k+1) r _) p=_;rw [i2 p h.1,iN,aj J];show 8+4*(n-1-k)=8+4*(n-1-(k+0));rw [Int.add_zero]
   | succ i=>
    have:=i1 i x hi;show bI (gP n (k+1) r _) x=_;rw [this];omega
  ·rw [List.mem_cons,not_or]at hx;show bI (gP n (k+1) r _) x=_;rw [i2 x hx.2,iN,ac fun e=>hx.1 e.symm]
theorem Hz:∀(l ns:List Ba),ns.Nodup→vW ns l=0→(ns++l).Nodup
 | [],ns,h,_=>by rw [List.append_nil];exact h
 | x::r,ns,h,he=>by
  obtain⟨e1,e2⟩:=bx.1 he;have hx:x∉ns:=fun hm=>by rw [aj (fH.2 hm)]at e1;exact absurd e1 (by decide)
  have:=Hz r (ns++ [x]) (List.nodup_append.2 ⟨h,by simp,fun a ha b hb e=>hx (by rw [List.mem_singleton.1 hb]at e;exact e▸ha)⟩) e2;rw [List.append_assoc]at this;exact this
theorem QC{fs:List Tf}{f:Tf}(hg:GF f)(hr:h_ f.body=true)(h:mW fs f=0):pFO fs f (dK fs f.ps f.body).1:=by
 obtain⟨h1,h2⟩:=bx.1 h;obtain⟨h3,h4⟩:=bx.1 h2;have hb:¬(f.ps.length>4∨f.ps.length+dW f.body>12∨cv f.body>400∨cG 1 f.body=true):=fun hb=>by
  rw [aj hb]at h1;exact absurd h1 (by decide)
 simp only [not_or,Bool.not_eq_true]at hb;obtain⟨b1,b2,b3,b4⟩:=hb;have hnd:f.ps.Nodup:=by
  have:=Hz f.ps [] (by simp) h3;exact this
 have hj0:Jo f.ps f.ps (gP f.ps.length 0 f.ps []) 0 []:=⟨by rw [List.append_nil],hnd,rfl,fun i x hi=>by
  rw [(Hd f.ps.length f.ps 0 [] hnd).1 i x hi,Int.zero_add],fun j x hj=>by simp at hj⟩
 obtain⟨vs,hj⟩:=Cy (fs:=fs) f.body f.ps (gP f.ps.length 0 f.ps [],0) ⟨[],hj0⟩ h4;have hgo:dB f=gDs f.body (gP f.ps.length 0 f.ps [],0):=J;have hnv:(dB f).2=(dW f.body:Int):=by rw [hgo,qa];omega
 rw [←hgo]at hj;have hvl:=hj.en;have hns:=hj.ens;have hndN:=hj.nd;have off:∀x∈(dK fs f.ps f.body).1,(∃i:Nat,f.ps[i]?=some x∧bI (dB f).1 x=8+4*((f.ps.length:Int)-1-i))∨(x∉f.ps∧∃j:Nat,1≤j∧j≤(dB f).2.toNat∧bI (dB f).1 x=wU (-(4*(j:Int)))∧vs[j-1]?=some x):=fun x hx=>by
  rw [hns]at hx;by_cases hp:x∈f.ps
  ·obtain⟨i,hi⟩:=List.getElem?_of_mem hp;exact .inl ⟨i,hi,hj.p i x hi⟩
  ·rcases List.mem_append.1 hx with hx|hx
   ·exact absurd hx hp
   ·obtain⟨j,hjx⟩:=List.getElem?_of_mem hx;have hl:=(cU.1 hjx).1;refine .inr ⟨hp,j+1,by omega,by omega,?_,hjx⟩;rw [hj.v j x hjx];rfl
 refine⟨wy f.body f.ps _ 1 (fun _ h=>h) hg.2.2.2.2.1 hr h4 b4,by omega,by omega,hnd,fun x hx=> ?_,fun x hx y hy e=> ?_⟩
 ·rcases off x hx with h|⟨h1,j,h2,h3,h4,_⟩
  ·exact .inl h
  ·exact .inr ⟨h1,j,h2,h3,h4⟩
 ·rcases off x hx with⟨i,hi,he⟩|⟨_,j,hj1,hj2,he,hv⟩<;>rcases off y hy with⟨i',hi',he'⟩|⟨_,j',hj1',hj2',he',hv'⟩
  ·have:i=i':=by rw [he,he']at e;omega
   subst this;exact dY (hi.symm.trans hi')
  ·have hl:=(cU.1 hi).1;rw [he,he',rc]at e;exfalso;omega
  ·have hl:=(cU.1 hi').1;rw [he,he',rc]at e;exfalso;omega
  ·have:j=j':=by rw [he,he',rc,rc]at e;omega
   subst this;exact dY (hv.symm.trans hv')
theorem Ch{fs:List Tf}(h:∀(i:Nat)(f:Tf),fs[i]?=some f→Bd fs f.name=(i:Int)):(fs.map Tf.name).Nodup:=by
 refine List.pairwise_iff_getElem.2 fun i j hi hj hij e=> ?_
 rw [List.getElem_map,List.getElem_map]at e;have hil:i<fs.length:=by simpa using hi
 have hjl:j<fs.length:=by simpa using hj
 have h1:=h i fs[i] (bQ hil);have h2:=h j fs[j] (bQ hjl);rw [e]at h1;omega
theorem ES{S:Ba→Int}{code:List Qi}:∀(l:List Tf)(p:Nat),cAt code p (zR S l p)→p+z5 l≤1984→∀x f,cV l x=some f→∃q:Nat,iF l p x=(q:Int)∧cAt code q (zF S f q)∧q+wF f≤1984
 | [],p,_,_,x,f,hf=>by simp [cV]at hf
 | a::r,p,hc,hl,x,f,hf=>by
  have hc':cAt code p (zF S a p++zR S r (p+wF a)):=hc;have hw:z5 (a::r)=wF a+z5 r:=J;obtain⟨h1,h2⟩:=hc'.app;rw [sS]at h2;unfold iF;unfold cV at hf;rw [List.find?_cons]at hf;by_cases hn:a.name=x
  ·rw [decide_eq_true hn]at hf;cases hf;rw [aj hn];exact⟨p,J,h1,by omega⟩
  ·rw [decide_eq_false hn]at hf;rw [ac hn];exact ES r (p+wF a) h2 (by omega) x f hf
theorem QQ{fs:List Tf}{f:Tf}(hg:GP fs)(h:Fine fs f)(hr:∀f∈fs,h_ f.body=true)(hl:(jz fs).length≤1984):CF (jz fs) fs (iF fs 3):=by
 have hle:(jz fs).length=3+z5 fs:=by
  unfold jz;rw [bD,rW];rfl
 refine⟨fun x g hx=>ES fs 3 ?_ (by omega) x g hx,fun x g hx=> ?_⟩
 ·have:=cAt.of (a:= [qi 16 14 0 16384,qi 40 15 0 (wU (iF fs 3 eq-1)),⟨48,0,0,0,0⟩]) (l:=zR (iF fs 3) fs 3) (b:= []);rw [List.append_nil]at this;exact this
 ·have hm:=lA hx;exact⟨_,QC (hg.2 g hm) (hr g hm) (h.each g hm)⟩
def Vl(code:List Qi)(c:Qs)(fuel:Int):Re Int→Prop
 | .ok v s1=>0≤s1.fuel∧Go code (100*(fuel-s1.fuel)+50) c fun c'=>code[c'.pc]?=some ⟨48,0,0,0,0⟩∧c'.out=s1.out∧∀i:Nat,i<256→c'.m (8192+4*(i:Int))=s1.mem i
 | .err e=>e=26→Go code (100*fuel+150) c (Bk code)
theorem Ji{fs:List Tf}{f:Tf}{ins:List Int}{fuel:Int}{g:Nat}{r:Re Int}(hg:GP fs)(h:Fine fs f)(hr:∀f∈fs,h_ f.body=true)(hl:(jz fs).length≤1984)(hi:∀x∈ins,oW x)(hf0:0≤fuel)(hf:fuel≤1000000000000)
  (he:u0 g fs 0 f [] (Lu ins fuel)=some r):Vl (jz fs) ⟨0,fun _=>0,fun _=>0,ins,[]⟩ fuel r:=by
 have hC:=QQ hg h hr hl;obtain⟨pm,hpm,hcm,hlm⟩:=hC.fn _ _ h.main;have hc:cAt (jz fs) 0 (jz fs):=fun j i hj=>by rw [Nat.zero_add];exact hj
 have hc':cAt (jz fs) 0 ([qi 16 14 0 16384,qi 40 15 0 (wU (iF fs 3 eq-1)),⟨48,0,0,0,0⟩]++zR (iF fs 3) fs 3):=hc;have h3:=hc'.app.1;have hfn:=tZ h.main;have hs:Go (jz fs) 2 ⟨0,fun _=>0,fun _=>0,ins,[]⟩ fun c=>c.pc=pm∧c.r 15=jL 2∧St ((0:Nat):Int) 0 16384 c∧pSm c (Lu ins fuel):=by
  refine kW (c:=⟨0,fun _=>0,fun _=>0,ins,[]⟩) (p:=0) J h3.head.1 (v:=16384) J fun c1 e1 e2 e3 e4 e5=> ?_
  refine tF (d:=15) (a:=0) (x:=wU (iF fs 3 eq-1)) (by rw [e1];exact h3.head.2.head.1) (Go.done (by decide) ⟨?_,?_,⟨?_,?_,?_,?_⟩,⟨fun i _=> ?_,e4,e5⟩⟩)
  ·show vz (wU (jL c1.pc+_))=pm;rw [e1,hpm];exact n9 J (by omega) (by omega)
  ·show rp c1.r 15 (jL (c1.pc+1)) 15=_;rw [em (by decide),e1]
  ·show rp c1.r 15 (jL (c1.pc+1)) 0=0;rw [cD (by decide),e2];rfl
  ·show rp c1.r 15 (jL (c1.pc+1)) 12=_;rw [cD (by decide),e2];rfl
  ·show rp c1.r 15 (jL (c1.pc+1)) 13=0;rw [cD (by decide),e2];rfl
  ·show rp c1.r 15 (jL (c1.pc+1)) 14=16384;rw [cD (by decide),e2];rfl
  ·show c1.m _=0;rw [e3]
 have hR:∀c,(c.pc=pm∧c.r 15=jL 2∧St ((0:Nat):Int) 0 16384 c∧pSm c (Lu ins fuel))→CR (jz fs) 2 0 0 16384 0 c (Lu ins fuel) r:=fun c ⟨e1,e2,e3,e4⟩=>
  (NE h.vf hC (g+1)).c g (Nat.lt_succ_self g) 0 f [] (Lu ins fuel) r he 0 16384 c 2 (by rw [hfn];exact h.main) (by rw [h.noP];rfl) (by simp) (by rw [hfn,hpm];exact e1) e2 (by decide) e3 e4 (Nr hi hf) hf0 rfl (by decide) (by decide) (by decide) (fun i x hi=>by simp at hi)
 cases r with
 | err e=>exact fun h26=>hs.seq (fun c hc=>hR c hc h26) (by show 2+(100*fuel+100)≤_;omega)
 | ok v s1=>
  have hf1:0≤s1.fuel:=by
   obtain⟨_,c2,_,_,hP⟩:=hs;exact(hR c2 hP).1
  refine⟨hf1,hs.seq (fun c hc=>(hR c hc).2.weak (fun c' ⟨e1,e2,e3,e4,e5⟩=>⟨?_,e4.o,e4.m⟩) (Int.le_refl _)) (by show 2+(100*(fuel-s1.fuel)+45)≤_;omega)⟩;rw [e1];exact h3.head.2.head.2.head.1
structure Msc(code:List Qi)(s:Mm):Prop where
 hs:MO s 64
 hb:byL s.d
 rt:∀p:Nat,p<64→s.r.getD p 0=xQ p
 im:∀(k:Nat)(i:Qi),code[k]?=some i→∀j:Nat,j<4→s.i[256+4*k+j]?=(fP (oi i))[j]?
 len:code.length≤1984
 va:∀(k:Nat)(i:Qi),code[k]?=some i→VQ i∧0≤i.imm∧i.imm<4294967296
structure Sim(code:List Qi)(c:Qs)(x:Int)(s:Mm):Prop where
 k:Msc code s
 mem:∀a,Cl a→Cw s.d a.toNat=c.m a
 h0:c.r 0=0
 hr:∀k,0≤c.r k∧c.r k<4294967296
 pc:c.pc<1984→x=jL c.pc
 xb:0≤x∧x<4294967296
 hi:∀v∈c.inp,0≤v∧v<4294967296
theorem PA{p:Nat}(h:0<p∧p<32):xQ p/4%2=1:=by
 unfold xQ;rw [ac (by omega),aj (by omega)];rfl
theorem ML{p:Nat}(h:32≤p):xQ p=3:=by
 unfold xQ;rw [aj h]
theorem Sim.pcl{code:List Qi}{c:Qs}{x:Int}{s:Mm}(h:Sim code c x s){i:Qi}(hc:code[c.pc]?=some i):c.pc<1984∧x=256+4*(c.pc:Int):=by
 obtain⟨h1,-⟩:=cU.1 hc;have:=h.k.len;exact⟨by omega,h.pc (by omega)⟩
theorem Sim.stx{code:List Qi}{c:Qs}{x:Int}{s:Mm}(h:Sim code c x s){i:Qi}(hc:code[c.pc]?=some i){st:Int}(hst:0≤st∧st<1000000000000000):Stx s i x c.r st:=by
 obtain⟨h1,h2⟩:=h.pcl hc;obtain⟨hv,him⟩:=h.k.va _ _ hc;have hl:=h.k.hs.d;refine⟨⟨him,hv,⟨by omega,by omega⟩,by omega,fun k h3 h4=> ?_,fun k hk=> ?_⟩,by omega,h.h0,h.hr,hst⟩
 ·unfold zN;rw [show((x+k)/256).toNat=(x+k).toNat/256 by omega,h.k.rt _ (by omega),PA (by omega),decide_eq_true (by omega)];rfl
 ·rw [show x.toNat+k=256+4*c.pc+k by omega];exact h.k.im _ _ hc k hk
theorem B0{code:List Qi}{s:Mm}(h:Msc code s){a:Int}(ha:Cl a){q:Int}(hq:q=1∨q=2):∀k:Int,0≤k→k<4→zN s (IntKind.u32.wrap (a+k)) q=true:=fun k h1 h2=>by
 obtain⟨ha1,ha2,ha3⟩:=ha;have hl:=h.hs.d;rw [cc (by omega)];unfold zN;rw [show((a+k)/256).toNat=(a+k).toNat/256 by omega,h.rt _ (by omega),ML (by omega),decide_eq_true (by omega)];rcases hq with rfl|rfl<;>rfl
theorem pW{d:List Int}{a k:Nat}{l:List Int}(h:a+l.length≤d.length):(pk d a l).getD k 0=if a≤k∧k<a+l.length then l.getD (k-a) 0 else d.getD k 0:=by
 rw [List.getD_eq_getElem?_getD,qM];by_cases h1:a≤k∧k<a+l.length
 ·rw [aj h1,aj ⟨h1.1,h1.2,by omega⟩,List.getD_eq_getElem?_getD]
 ·rw [ac h1,ac (fun h2=>h1 ⟨h2.1,h2.2.1⟩),List.getD_eq_getElem?_getD]
theorem w8(d:List Int)(a:Nat):Cw d a=((((0:Int)*256+d.getD (a+3) 0)*256+d.getD (a+2) 0)*256+d.getD (a+1) 0)*256+d.getD (a+0) 0:=rfl
theorem Ny{d:List Int}{a b:Nat}{v:Int}(hv:0≤v∧v<4294967296)(ha:a+4≤d.length)(h4:a%4=0∧b%4=0):Cw (pk d a (fP v)) b=if b=a then v else Cw d b:=by
 have hl:(fP v).length=4:=J;rw [w8,pW (by omega),pW (by omega),pW (by omega),pW (by omega),hl];by_cases h:b=a
 ·subst h;rw [aj (by omega),aj (by omega),aj (by omega),aj (by omega),aj J,show b+3-b=3 by omega,show b+2-b=2 by omega,show b+1-b=1 by omega,show b+0-b=0 by omega];show(((0*256+v/16777216%256)*256+v/65536%256)*256+v/256%256)*256+v%256=v;omega
 ·rw [ac (by omega),ac (by omega),ac (by omega),ac (by omega),ac h,w8]
theorem Ig{d:List Int}{a:Nat}:∀{l:List Int},byL d→byL l→byL (pk d a l):=fun{l} h1 h2 x hx=>by
 obtain⟨k,hk⟩:=List.getElem?_of_mem hx;rw [qM]at hk;split at hk
 ·exact h2 x (bV hk)
 ·exact h1 x (bV hk)
theorem If(v:Int):byL (fP v):=fun x hx=>by
 have:x=v%256∨x=v/256%256∨x=v/65536%256∨x=v/16777216%256:=by
  simpa [fP]using hx
 omega
theorem Gf(o:BinOp)(ho:o= .and∨o= .or∨o= .xor)(a b:Int):oW (bits o .u32 a b):=by
 rcases ho with rfl|rfl|rfl<;>exact mC _
theorem R3{op a b v:Int}(h:zG op a b=some v)(ha:0≤a∧a<4294967296)(hb:0≤b∧b<4294967296):0≤v∧v<4294967296:=by
 have key:∀z:Int,some (wU z)=some v→0≤v∧v<4294967296:=fun z hz=>by injection hz with hz;subst hz;exact mC z
 unfold zG at h;split at h
 ·exact key _ h
 split at h
 ·exact key _ h
 split at h
 ·injection h with h;subst h;exact Gf _ (by simp) _ _
 split at h
 ·injection h with h;subst h;exact Gf _ (by simp) _ _
 split at h
 ·injection h with h;subst h;exact Gf _ (by simp) _ _
 split at h
 ·exact key _ h
 split at h
 ·injection h with h;subst h;have h2:(0:Int)<2^(b%32).toNat:=Int.pow_pos (by decide);exact⟨Int.ediv_nonneg ha.1 (by omega),Int.lt_of_le_of_lt (Int.ediv_le_self _ ha.1) ha.2⟩
 split at h
 ·exact key _ h
 split at h
 ·split at h
  ·cases h
  ·injection h with h;subst h;exact⟨Int.ediv_nonneg ha.1 hb.1,Int.lt_of_le_of_lt (Int.ediv_le_self _ ha.1) ha.2⟩
 split at h
 ·injection h with h;subst h;unfold tr;split<;>decide
 ·cases h
theorem vv{r:Int→Int}{d v:Int}(h:r 0=0):rp r d v 0=0:=by
 unfold rp;rw [ac (fun h2=>h2.2 h2.1.symm)];exact h
theorem DX{r:Int→Int}{d v:Int}(h:∀k,0≤r k∧r k<4294967296)(hv:0≤v∧v<4294967296)(k:Int):0≤rp r d v k∧rp r d v k<4294967296:=by
 unfold rp;split
 ·exact hv
 ·exact h k
theorem Ca{y:Int}(h:vz y<1984):256≤y∧y%4=0∧y=jL (vz y):=by
 unfold vz at h ⊢;by_cases h2:256≤y∧y%4=0
 ·rw [aj h2]at h ⊢;unfold jL;omega
 ·rw [ac h2]at h;omega
theorem Sim.to{code:List Qi}{c:Qs}{x:Int}{s:Mm}(h:Sim code c x s){p:Nat}{r:Int→Int}{x1:Int}(h0:r 0=0)(hr:∀k,0≤r k∧r k<4294967296)(hp:p<1984→x1=jL p)(hx:0≤x1∧x1<4294967296):
  Sim code {c with pc:=p,r:=r} x1 s:=⟨h.k,h.mem,h0,hr,hp,hx,h.hi⟩
def Iq(e:Me)(x:Int)(r:Int→Int)(st:Int)(s:Mm)(x1:Int)(r1:Int→Int)(st1 t y:Int)(s1:Mm):Prop:=
 aW prog 115 [.agg (sR x r st).toArray,Pt e.m] [bj e.m 157 (mR e),own 5 1 cn (sv e.vd) s.d,own 5 1 cn (sv e.vi) s.i,own 3 1 eI (sv e.vr) s.r] [] (.agg (oC x1 r1 st1 t y).toArray) [bj e.m 157 (mR e),own 5 1 cn (sv e.vd) s1.d,own 5 1 cn (sv e.vi) s1.i,own 3 1 eI (sv e.vr) s1.r]
theorem Sim.step(e:Me){code:List Qi}{c c1:Qs}{x:Int}{s:Mm}(h:Sim code c x s){i:Qi}(hc:code[c.pc]?=some i)(h1:yg i c=some c1)(ho:i.op≠48){st:Int}(hst:0≤st∧st<1000000000000000):
  ∃x1 s1,Sim code c1 x1 s1∧c1.inp=c.inp∧c1.out=c.out∧Iq e x c.r st s x1 c1.r (st+1) 0 0 s1:=by
 have hx:=h.stx hc hst;obtain⟨hp1,hp2⟩:=h.pcl hc;have hpx:x=jL c.pc:=hp2;have hx4:0≤x+4∧x+4<4294967296:=by omega
 have hn:c.pc+1<1984→x+4=jL (c.pc+1):=fun _=>by unfold jL;omega
 have hn2:x+4=jL (c.pc+1):=by unfold jL;omega
 unfold yg at h1;cases hu:zG i.op (c.r i.a) (if i.op<16 then c.r i.b else i.imm)with
 | some v=>
  rw [hu]at h1;injection h1 with h1;subst h1;exact⟨x+4,s,h.to (vv h.h0) (DX h.hr (R3 hu (h.hr _) (by split;exact h.hr _;exact(h.k.va _ _ hc).2))) hn hx4,J,J,Fm e s 64 h.k.hs i x c.r st hx v hu⟩
 | none=>
  rw [hu]at h1;dsimp only at h1;by_cases o1:i.op=23
  ·rw [aj o1]at h1;by_cases ha:Cl (wU (c.r i.a+i.imm))
   ·rw [aj ha]at h1;injection h1 with h1;subst h1;have hl:=h.k.hs.d;have h4:wU (c.r i.a+i.imm)+4≤s.d.length:=by obtain⟨ha1,ha2,ha3⟩:=ha;omega
    have hb:=AR h.k.hb (wU (c.r i.a+i.imm)).toNat 4;have hm:=h.mem _ ha;refine⟨x+4,s,h.to (vv h.h0) (DX h.hr ?_) hn hx4,J,J,?_⟩
    ·rw [←hm];have h256:(256:Int)^4=4294967296:=by decide
     exact⟨hb.1,by unfold Cw;omega⟩
    ·have:=Fi e s 64 h.k.hs i x c.r st hx h.k.hb o1 h4 (B0 h.k ha (Or.inl J));rw [hm]at this;exact this
   ·rw [ac ha]at h1;cases h1
  rw [ac o1]at h1;by_cases o2:i.op=25
  ·rw [aj o2]at h1;by_cases ha:Cl (wU (c.r i.a+i.imm))
   ·rw [aj ha]at h1;injection h1 with h1;subst h1;have hl:=h.k.hs.d;have ha':=ha;obtain⟨ha1,ha2,ha3⟩:=ha';have h4:wU (c.r i.a+i.imm)+4≤s.d.length:=by omega
    refine⟨x+4,{s with d:=pk s.d (wU (c.r i.a+i.imm)).toNat (fP (c.r i.d))},⟨⟨h.k.hs.dd (fQ _ _ _),Ig h.k.hb (If _),h.k.rt,h.k.im,h.k.len,h.k.va⟩,fun a h2=> ?_,h.h0,h.hr,hn,hx4,h.hi⟩,J,J,Fg e s 64 h.k.hs i x c.r st hx o2 h4 (B0 h.k ha (Or.inr J))⟩;have h3:=h2;obtain⟨h5,h6,h7⟩:=h3;show Cw (pk s.d _ _) a.toNat=mw c.m _ _ a;rw [Ny (h.hr _) (by omega) ⟨by omega,by omega⟩];unfold mw;by_cases h8:a=wU (c.r i.a+i.imm)
    ·rw [aj (by omega),aj h8]
    ·rw [ac (by omega),ac h8];exact h.mem a h2
   ·rw [ac ha]at h1;cases h1
  rw [ac o2]at h1;by_cases o3:i.op=27
  ·rw [aj o3]at h1;injection h1 with h1;subst h1;have hw:=mC (c.r i.a+i.imm);refine⟨wU (c.r i.a+i.imm)/4*4,s,h.to (vv h.h0) (DX h.hr (by rw [←hn2];exact hx4)) (fun hp=> ?_) (by omega),J,J,?_⟩
   ·obtain⟨q1,q2,q3⟩:=Ca hp;rw [←q3];omega
   ·have:=DL e s 64 h.k.hs i x c.r st hx o3;rw [hn2]at this;exact this
  rw [ac o3]at h1;by_cases o4:i.op=32
  ·rw [aj o4]at h1;injection h1 with h1;subst h1;have hw:=mC (x+4*i.imm);have:=Fl e s 64 h.k.hs i x c.r st hx o4;by_cases hq:c.r i.d=c.r i.a
   ·rw [aj hq]at this ⊢;refine⟨wU (x+4*i.imm),s,h.to h.h0 h.hr (fun hp=> ?_) hw,J,J,this⟩;obtain⟨q1,q2,q3⟩:=Ca hp;rw [←q3,hpx]
   ·rw [ac hq]at this ⊢;exact⟨x+4,s,h.to h.h0 h.hr hn hx4,J,J,this⟩
  rw [ac o4]at h1;by_cases o5:i.op=35
  ·rw [aj o5]at h1;injection h1 with h1;subst h1;have hw:=mC (x+4*i.imm);have:=DM e s 64 h.k.hs i x c.r st hx o5;by_cases hq:c.r i.d≥c.r i.a
   ·rw [aj hq]at this ⊢;refine⟨wU (x+4*i.imm),s,h.to h.h0 h.hr (fun hp=> ?_) hw,J,J,this⟩;obtain⟨q1,q2,q3⟩:=Ca hp;rw [←q3,hpx]
   ·rw [ac hq]at this ⊢;exact⟨x+4,s,h.to h.h0 h.hr hn hx4,J,J,this⟩
  rw [ac o5]at h1;by_cases o6:i.op=40
  ·rw [aj o6]at h1;injection h1 with h1;subst h1;have hw:=mC (x+4*i.imm);refine⟨wU (x+4*i.imm),s,h.to (vv h.h0) (DX h.hr (by rw [←hn2];exact hx4)) (fun hp=> ?_) hw,J,J,?_⟩
   ·obtain⟨q1,q2,q3⟩:=Ca hp;rw [←q3,hpx]
   ·have:=Fj e s 64 h.k.hs i x c.r st hx o6;rw [hn2]at this;exact this
  rw [ac o6]at h1;by_cases o7:i.op=41
  ·rw [aj o7]at h1;injection h1 with h1;subst h1;exact⟨x+4,s,h.to (vv h.h0) (DX h.hr (mC _)) hn hx4,J,J,Fh e s 64 h.k.hs i x c.r st hx o7⟩
  rw [ac o7,ac (fun h2=>ho h2.1),ac (fun h2=>ho h2.1)]at h1;cases h1
def r6(i:Qi):Int×Int:=if i.op=48 then(4,i.imm)else(3,0)
theorem Sim.trap(e:Me){code:List Qi}{c:Qs}{x:Int}{s:Mm}(h:Sim code c x s){i:Qi}(hc:code[c.pc]?=some i)(ho:i.op=48∨i.op=49){st:Int}(hst:0≤st∧st<1000000000000000):
  Iq e x c.r st s x c.r st (r6 i).1 (r6 i).2 s:=by
 have hx:=h.stx hc hst;by_cases h1:i.op=48
 ·rw [show r6 i=(4,i.imm)from aj h1];exact Ff e s 64 h.k.hs i x c.r st hx h1
 ·rw [show r6 i=(3,0)from ac h1];exact Fk e s 64 h.k.hs i x c.r st hx (by omega)
def K4(code:List Qi):Nat→Qs→Qs→Prop
 | 0,c,c'=>c=c'
 | n+1,c,c'=>∃i c1,code[c.pc]?=some i∧yg i c=some c1∧i.op≠48∧K4 code n c1 c'
theorem Sim.turn(e:Me){code:List Qi}{c c':Qs}{x:Int}{s:Mm}(h:Sim code c x s){n:Nat}(hn:K4 code n c c'){i:Qi}(hc:code[c'.pc]?=some i)(ho:i.op=48∨i.op=49){st:Int}(hst:0≤st∧st<1000000000000000):
  ∃x1 r1 st1 t y s1,Iq e x c.r st s x1 r1 st1 t y s1∧((t=0∧∃m c1,n=m+1∧r1=c1.r∧st1=st+1∧c1.inp=c.inp∧c1.out=c.out∧Sim code c1 x1 s1∧K4 code m c1 c')∨(t≠0∧n=0∧c=c'∧t=(r6 i).1∧y=(r6 i).2∧s1=s)):=by
 cases n with
 | zero=>
  have h2:c=c':=hn;subst h2;refine⟨x,c.r,st,(r6 i).1,(r6 i).2,s,h.trap e hc ho hst,.inr ⟨?_,J,J,J,J,J⟩⟩;unfold r6;split
  ·show(4:Int)≠0;decide
  ·show(3:Int)≠0;decide
 | succ m=>
  obtain⟨j,c1,h2,h3,h4,h5⟩:=hn;obtain⟨x1,s1,h6,h7,h8,h9⟩:=h.step e h2 h3 h4 hst;exact⟨x1,c1.r,st+1,0,0,s1,h9,.inl ⟨J,m,c1,J,J,J,h7,h8,h6,h5⟩⟩
structure Rl where
 x:Int
 s:Mm
 c:Qs
 m:Nat
 k:Nat
theorem DW(e:Me)(cp:Nat){code:List Qi}{c c':Qs}{x:Int}{s:Mm}(h:Sim code c x s){n:Nat}(hn:K4 code n c c'){i:Qi}(hc:code[c'.pc]?=some i)(ho:i.op=48∨i.op=49)(st most:Int)(hst:0≤st∧st+n<1000000000000000)(hm:(n:Int)<most):
  Spec prog 65 [Pt cp,I6 most] [bj e.m 157 (mR e),own 5 1 cn (sv e.vd) (s).d,own 5 1 cn (sv e.vi) (s).i,own 3 1 eI (sv e.vr) (s).r,bj cp 93 (rH x c.r st e.m)] [] (X:=Int×Mm) (fun p=>Sim code c' p.1 p.2) (fun _=> .agg #[I6 (r6 i).1,I3 (r6 i).2]) (fun p=> [bj e.m 157 (mR e),own 5 1 cn (sv e.vd) p.2.d,own 5 1 cn (sv e.vi) p.2.i,own 3 1 eI (sv e.vr) p.2.r,bj cp 93 (rH p.1 c'.r (st+(n:Int)) e.m)]) (fun _=> []):=by
 refine aI func65 J ntmps65 J fun w0 M H=>wI 0 20 J J (wI 1 21 J J (wI 2 22 J J (wI 3 23 J J (wI 4 24 J J (aq (aZ BR J J fun b4=>az J (am J (aa (aA ?_)))))))))
 refine bJ (X:=Rl) (fun p=>Sim code p.c p.x p.s∧K4 code p.m p.c c'∧p.m+p.k=n) (fun p=> [(0,Pt cp),(1,I6 most),(4,Pt b4),(5,I6 (p.k:Int))]) (fun p=> [(20,bj e.m 157 (mR e)),(21,own 5 1 cn (sv e.vd) p.s.d),(22,own 5 1 cn (sv e.vi) p.s.i),(23,own 3 1 eI (sv e.vr) p.s.r),(24,bj cp 93 (rH p.x p.c.r (st+(p.k:Int)) e.m)),(4,bj b4 53 [I6 0,I3 0])]) (fun p=> []) (fun p=>p.m) ⟨x,s,c,n,0⟩ ⟨h,hn,J⟩ J (by dsimp only;rw [show st+((0:Nat):Int)=st by omega];rfl) J (fun p hp=> ?_);obtain⟨hp1,hp2,hp3⟩:=hp;obtain⟨x1,r1,st1,t,y,s1,hS,hor⟩:=hp1.turn e hp2 hc ho (st:=st+(p.k:Int)) ⟨by omega,by omega⟩;refine aA (be (be ?_));refine bX [7,8,9,10,11,12,13,14,15,16,17,18,19,20,21,22,23,24,25] _ J (bA (V:= [(0,7,_),(1,8,_),(2,9,_),(3,10,_),(4,11,_),(5,12,_),(6,13,_),(7,14,_),(8,15,_),(9,16,_),(10,17,_),(11,18,_),(12,19,_),(13,20,_),(14,21,_),(15,22,_),(16,23,_),(17,24,_),(18,25,_)]) [0,1,2,3,4,5,6,7,8,9,10,11,12,13,14,15,16,17,18] J J (aF J J (ae J (au J) (ae J (ah eK J) (ae J (ah xx J) (ae J (ag t3 J J (ax (k:=24) J J)) (ae J (aQ J J fA) (aF J J (bk (bT [] J J J O (fun hg1=>aV J)) (bk (bT [(14,_)] J J J ⟨J,O⟩ (fun hg2=>au J)) (bk (bT [(15,_)] J J J ⟨J,O⟩ (fun hg3=>ah eK J)) (bk (bT [(16,_)] J J J ⟨J,O⟩ (fun hg4=>ah jD J)) (bk (bT [(17,_)] J J J ⟨J,O⟩ (fun hg5=>ag t3 J J (ax (k:=24) J J))) (bk (bT [] J J J O (fun hg6=>aV J)) (bk (bT [(19,_)] J J J ⟨J,O⟩ (fun hg7=>au J)) (bk (bT [(20,_)] J J J ⟨J,O⟩ (fun hg8=>ah eK J)) (bk (bT [(21,_)] J J J ⟨J,O⟩ (fun hg9=>ah xx J)) (bk (bT [(22,_)] J J J ⟨J,O⟩ (fun hg10=>ag t3 J J (ax (k:=24) J J))) (bk (bT [(18,_),(23,_)] J J J ⟨J,J,O⟩ (fun hg11=>aQ J J iz)) (ae J (bH J J J) aw))))))))))))))))))) J J J ?_);refine ap J (fun h12=> ?_) (fun h12=> ?_)
 ·cases h12
 ·(try simp only [bl]at h12);refine aC (aU (ad J (ad J (ar J J iz (aa (ap J (fun h13=> ?_) (fun h13=> ?_)))))))
  ·(exfalso;have h0:=h13;revert h0;simp;omega)
  ·(try simp only [bl]at h13);refine aC (be ?_);refine bX [31,32,33,34,35,36,37,38,39,6] _ J (hQ (V:= [(0,31,_),(1,32,_),(2,33,_),(3,34,_),(4,35,_),(5,36,_),(6,37,_),(7,38,_)]) [0,1,2,3,4,5,6,7] J J (aF J J (ae J (au J) (ae J (ah eK J) (ae J (aM (us:=sR p.x p.c.r (st+(p.k:Int))) zL J J J (od (k:=24) J J)) (aF J J (ae J (au J) (ae J (ah gL J) (ae J (ag yf J J (ax (k:=24) J J)) aw)))))))) J [8,9] J J (ea (fy 8 [8,7,6,5,4,3,2,1,0] [] (fun _=> []) J J J J J J J J J (fun _ _=>J) J (b_ (xs:= [.tmp 34,.tmp 38]) hS L7 [20,21,22,23] [] [20,21,22,23]) (fun _ _=>bi [] 9 [9,8,7,6,5,4,3,2,1,0] [] (fun b6=> []) J J aw J J J J J J J J J J J (fun _ _=>J) J (gh nJ J) (fun b6 _=>bP [] 10 [10,9,8,7,6,5,4,3,2,1,0] [] (fun _=> []) J J aw J J J J J J J J J (fun _ _=>J) J (bZ (k:=6) nJ J J J J J J) (fun _ _=>bA [] J J aw J J J ?_)))) (ea (fy 9 [9] [] (fun b6=> []) J J J J J J J J J (fun _ _=>J) J (gh nJ J) (fun b6 _=>bi [0,1,2,3,4,5,6,7] 8 [9,8,7,6,5,4,3,2,1,0] [] (fun _=> []) J J (aF J J (ae J (au J) (ae J (ah eK J) (ae J (aM (us:=sR p.x p.c.r (st+(p.k:Int))) zL J J J (od (k:=24) J J)) (aF J J (ae J (au J) (ae J (ah gL J) (ae J (ag yf J J (ax (k:=24) J J)) aw)))))))) J J J J J J J J J J J (fun _ _=>J) J (b_ (xs:= [.tmp 34,.tmp 38]) hS L7 [20,21,22,23] [] [20,21,22,23]) (fun _ _=>bP [] 10 [10,9,8,7,6,5,4,3,2,1,0] [] (fun _=> []) J J aw J J J J J J J J J (fun _ _=>J) J (bZ (k:=6) nJ J J J J J J) (fun _ _=>bA [] J J aw J J J ?_)))) ld)))
   ·refine aU (aD sw J (aP (fR tU J) (aR 6 t3 J J J J (ar J J iT (aa (ap J (fun h14=> ?_) (fun h14=> ?_)))))))
    ·(try simp only [bl]at h14);obtain⟨-,q2,q3,q4,q5,q6⟩:=hor.resolve_left (fun q=>h14 q.1);subst q6;obtain rfl:p.k=n:=by omega
     rw [←q4,←q5,←q3];refine aq (aD sw J (aP (aM (us:= [I6 t,I3 y]) BR J J J (od (k:=6) J J)) (av (k:=4) BR J J J J J J (aa (ay (aN (p.x,p.s) (q3▸hp1) J (ce (bw BR J J J (bp (k:=4) J))) J [20,21,22,23,24] [] J J J))))))
    ·(try simp only [bl]at h14);obtain⟨q1,m1,c1,q2,q3,q4,qi,qo,q6,q7⟩:=hor.resolve_right (fun q=>q.1 h14);subst q3;subst q4;refine aC (aq (ad J (aD CY J (aP (aM (us:=sR x1 c1.r (st+(p.k:Int)+1)) zL J J J (od (k:=6) J J)) (bS J (aD eK J (aB (k:=24) (us:=sR x1 c1.r (st+(p.k:Int)+1)) (c':=rH x1 c1.r (st+(p.k:Int)+1) e.m) zL J J J J J J J J (aa (ak (ad J (ar J J aK (am J (aa ?_)))))))))))));refine aG ⟨x1,s1,c1,m1,p.k+1⟩ ⟨⟨q6,q7,by show m1+(p.k+1)=n;omega⟩,by show m1<p.m;omega⟩ J (by dsimp only;rw [show st+((p.k+1:Nat):Int)=st+(p.k:Int)+1 by omega];rfl) J
   ·refine aU (aD sw J (aP (fR tU J) (aR 6 t3 J J J J (ar J J iT (aa (ap J (fun h15=> ?_) (fun h15=> ?_)))))))
    ·(try simp only [bl]at h15);obtain⟨-,q2,q3,q4,q5,q6⟩:=hor.resolve_left (fun q=>h15 q.1);subst q6;obtain rfl:p.k=n:=by omega
     rw [←q4,←q5,←q3];refine aq (aD sw J (aP (aM (us:= [I6 t,I3 y]) BR J J J (od (k:=6) J J)) (av (k:=4) BR J J J J J J (aa (ay (aN (p.x,p.s) (q3▸hp1) J (ce (bw BR J J J (bp (k:=4) J))) J [20,21,22,23,24] [] J J J))))))
    ·(try simp only [bl]at h15);obtain⟨q1,m1,c1,q2,q3,q4,qi,qo,q6,q7⟩:=hor.resolve_right (fun q=>q.1 h15);subst q3;subst q4;refine aC (aq (ad J (aD CY J (aP (aM (us:=sR x1 c1.r (st+(p.k:Int)+1)) zL J J J (od (k:=6) J J)) (bS J (aD eK J (aB (k:=24) (us:=sR x1 c1.r (st+(p.k:Int)+1)) (c':=rH x1 c1.r (st+(p.k:Int)+1) e.m) zL J J J J J J J J (aa (ak (ad J (ar J J aK (am J (aa ?_)))))))))))));refine aG ⟨x1,s1,c1,m1,p.k+1⟩ ⟨⟨q6,q7,by show m1+(p.k+1)=n;omega⟩,by show m1<p.m;omega⟩ J (by dsimp only;rw [show st+((p.k+1:Nat):Int)=st+(p.k:Int)+1 by omega];rfl) J
theorem Fc{i:Qi}{c c1:Qs}(h:yg i c=some c1)(ho:i.op≠48):c1.inp=c.inp∧c1.out=c.out:=by
 unfold yg at h;split at h
 ·injection h with h;subst h;exact⟨rfl,rfl⟩
 split at h
 ·split at h
  ·injection h with h;subst h;exact⟨rfl,rfl⟩
  ·cases h
 split at h
 ·split at h
  ·injection h with h;subst h;exact⟨rfl,rfl⟩
  ·cases h
 split at h
 ·injection h with h;subst h;exact⟨rfl,rfl⟩
 split at h
 ·injection h with h;subst h;exact⟨rfl,rfl⟩
 split at h
 ·injection h with h;subst h;exact⟨rfl,rfl⟩
 split at h
 ·injection h with h;subst h;exact⟨rfl,rfl⟩
 split at h
 ·injection h with h;subst h;exact⟨rfl,rfl⟩
 split at h
 ·rename_i h2;exact absurd h2.1 ho
 split at h
 ·rename_i h2;exact absurd h2.1 ho
 ·cases h
theorem FI{code:List Qi}:∀{n:Nat}{c c':Qs},K4 code n c c'→c'.inp=c.inp∧c'.out=c.out
 | 0,c,c',h=>by
  have:c=c':=h;subst this;exact⟨J,J⟩
 | n+1,c,c',h=>by
  obtain⟨i,c1,-,h2,h3,h4⟩:=h;obtain⟨a,b⟩:=Fc h2 h3;obtain⟨a2,b2⟩:=FI h4;exact⟨a2.trans a,b2.trans b⟩
theorem yv{code:List Qi}:∀{n:Nat}{c c':Qs},rn code n c c'→∃k c1,K4 code k c c1∧((k=n∧c1=c')∨∃i c2 m,code[c1.pc]?=some i∧i.op=48∧yg i c1=some c2∧n=k+1+m∧rn code m c2 c')
 | 0,c,c',h=>⟨0,c',h,.inl ⟨rfl,rfl⟩⟩
 | n+1,c,c',h=>by
  obtain⟨i,c1,h1,h2,h3⟩:=h;by_cases ho:i.op=48
  ·exact⟨0,c,J,.inr ⟨i,c1,n,h1,ho,h2,by omega,h3⟩⟩
  ·obtain⟨k,c2,h4,h5⟩:=yv h3;refine⟨k+1,c2,⟨i,c1,h1,h2,ho,h4⟩,?_⟩;rcases h5 with⟨h6,h7⟩|⟨j,c3,m,g1,g2,g3,g4,g5⟩
   ·exact .inl ⟨by omega,h7⟩
   ·exact .inr ⟨j,c3,m,g1,g2,g3,by omega,g5⟩
theorem r7{i:Qi}{c c1:Qs}(h:yg i c=some c1)(ho:i.op=48):(i.imm=1∧c1={c with pc:=c.pc+1,out:=c.out++ [c.r 1]})∨(i.imm=2∧c1={c with pc:=c.pc+1,r:=rp c.r 1 (c.inp.headD 0),inp:=c.inp.tail}):=by
 unfold yg at h;rw [ho]at h;have e:∀a b,zG 48 a b=none:=fun a b=>J
 rw [e]at h;by_cases h1:i.imm=1
 ·rw [h1]at h;injection h with h;exact .inl ⟨h1,h.symm⟩
 ·by_cases h2:i.imm=2
  ·rw [h2]at h;injection h with h;exact .inr ⟨h2,h.symm⟩
  ·exfalso;have q1:¬((48:Int)=48∧i.imm=1):=fun q=>h1 q.2
   have q2:¬((48:Int)=48∧i.imm=2):=fun q=>h2 q.2
   have:(if(48:Int)=48∧i.imm=1 then some {c with pc:=c.pc+1,out:=c.out++ [c.r 1]}else if(48:Int)=48∧i.imm=2 then some {c with pc:=c.pc+1,r:=rp c.r 1 (c.inp.headD 0),inp:=c.inp.tail}else none)=some c1:=h;rw [ac q1,ac q2]at this;cases this
def LF(l:List Int):Nat→Int
 | 0=>0
 | k+1=>LF l k+l.getD k 0*256^k
theorem GZ{t:Ba}{k:Nat}(hk:k<4):0≤LF (br t) k∧LF (br t) k+(br t).getD k 0*256^k<4294967296∧0≤(br t).getD k 0*256^k∧(br t).getD k 0*256^k<4294967296:=by
 have b0:=lE t 0;have b1:=lE t 1;have b2:=lE t 2;have b3:=lE t 3;have:k=0∨k=1∨k=2∨k=3:=by omega
 rcases this with rfl|rfl|rfl|rfl
 ·show 0≤(0:Int)∧(0:Int)+(br t).getD 0 0*256^0<4294967296∧0≤(br t).getD 0 0*256^0∧(br t).getD 0 0*256^0<4294967296;omega
 ·show 0≤(0:Int)+(br t).getD 0 0*256^0∧(0:Int)+(br t).getD 0 0*256^0+(br t).getD 1 0*256^1<4294967296∧0≤(br t).getD 1 0*256^1∧(br t).getD 1 0*256^1<4294967296;omega
 ·show 0≤(0:Int)+(br t).getD 0 0*256^0+(br t).getD 1 0*256^1∧(0:Int)+(br t).getD 0 0*256^0+(br t).getD 1 0*256^1+(br t).getD 2 0*256^2<4294967296∧0≤(br t).getD 2 0*256^2∧(br t).getD 2 0*256^2<4294967296;omega
 ·show 0≤(0:Int)+(br t).getD 0 0*256^0+(br t).getD 1 0*256^1+(br t).getD 2 0*256^2∧(0:Int)+(br t).getD 0 0*256^0+(br t).getD 1 0*256^1+(br t).getD 2 0*256^2+(br t).getD 3 0*256^3<4294967296∧0≤(br t).getD 3 0*256^3∧(br t).getD 3 0*256^3<4294967296;omega
theorem TF{t:Ba}{k:Nat}(hk:k<4):IntKind.u32.wrap ((br t).getD k 0*2^(8*(k:Int)).toNat)=(br t).getD k 0*256^k:=by
 obtain⟨-,-,h1,h2⟩:=GZ (t:=t) hk;have e:(2:Int)^(8*(k:Int)).toNat=256^k:=by
  have:k=0∨k=1∨k=2∨k=3:=by omega
  rcases this with rfl|rfl|rfl|rfl<;>rfl
 rw [e];exact mc h1 h2
theorem D0(t:Ba)(ht:t.size=4):
  aW prog 66 [Sg t] [] [] (I3 (LF (br t) 4)) []:=by
 refine aI func66 J ntmps66 J fun w0 M H=>aq (am J (az J (am J (aa (aU (am J (aa (aA (bJ (X:=Nat) (fun k=>k≤4) (fun k=> [(0,Sg t),(3,I3 (LF (br t) k)),(4,I6 (k:Int))]) (fun k=> []) (fun k=> []) (fun k=>4-k) 0 (bn _) J J J (fun k n1=>aU (ad J ?_)))))))))))
 refine ad J (aP (cH underlying9 J) (ar J J cy (ad J (aH [] J J O (fun hg1=>aV J) J (aH [(10,_)] J J ⟨J,O⟩ (fun hg2=>aQ J J cy) J (aP (bH J J J) (aa (ap J (fun h3=> ?_) (fun h3=> ?_)))))))))
 ·(try simp only [bl]at h3);have hi:k<4:=by omega
  have hbk:=GZ (t:=t) hi;have hb1:=lE t k;refine aC (be (aA (ak (ad J (ad J (ad J (aP (ew (j:=k) underlying9 J J J (by omega)) (aP (cw underlying5 underlying41 J (c:=(br t).getD k 0) (cc (by omega))) (ad J (ar J J lF (ar J J (jQ (by omega) (by show _≤(32:Int);omega) (TF hi)) (ar J J (co (c:=LF (br t) (k+1)) (cc (by omega))) (am J (aa (ak (ad J (ar J J aK (am J (aa ?_)))))))))))))))))));refine aG (k+1) ⟨by omega,by omega⟩ J J J
 ·(try simp only [bl]at h3);have hi:k=4:=by omega
  subst hi;refine bL (aq (ad J (am J (aa (ay (aN () O J (ce (aL J)) J [] [] J J J))))))
theorem zm:∀{l:List Qi}{k:Nat}{i:Qi},l[k]?=some i→∀{j:Nat},j<4→(eR l)[4*k+j]?=(fP (u4 i))[j]?
 | [],k,i,h,j,hj=>by simp at h
 | q::r,0,i,h,j,hj=>by
  have h:q=i:=by simpa using h
  subst h;show(fP (u4 q)++eR r)[4*0+j]?=_;rw [List.getElem?_append_left (by rw [show(fP (u4 q)).length=4 from J];omega),show 4*0+j=j by omega]
 | q::r,k+1,i,h,j,hj=>by
  have h:r[k]?=some i:=by simpa using h
  show(fP (u4 q)++eR r)[4*(k+1)+j]?=_;rw [List.getElem?_append_right (by rw [show(fP (u4 q)).length=4 from J];omega),show 4*(k+1)+j-(fP (u4 q)).length=4*k+j by rw [show(fP (u4 q)).length=4 from J];omega];exact zm h hj
theorem FV{n m a:Nat}:pk (List.replicate n 0) a (List.replicate m 0)=List.replicate n (0:Int):=by
 apply List.ext_getElem?;intro k;rw [qM];split
 ·rename_i h;have h3:k<n:=by have:=h.2.2;simpa using this
  have h4:k-a<m:=by have:=h.2.1;simp at this;omega
  rw [List.getElem?_replicate,aj h4,List.getElem?_replicate,aj h3]
 ·rfl
def w5(n:Nat):Mm:=⟨List.replicate (256*n) 0,List.replicate (256*n) 0,List.replicate n 0⟩
theorem Gt{n:Nat}(hn:n≤4096):MO (w5 n) n:=⟨by show(List.replicate _ _).length=_;rw [List.length_replicate];omega,by show(List.replicate _ _).length=_;rw [List.length_replicate];omega,List.length_replicate ..,by omega,fun x hx=>by have:=List.eq_of_mem_replicate hx;subst this;decide⟩
theorem Lx(n:Nat):∀p,(iW (w5 n) p).d=List.replicate (256*n) 0∧(iW (w5 n) p).i=List.replicate (256*n) 0
 | 0=>⟨rfl,rfl⟩
 | p+1=>by
  obtain⟨h1,h2⟩:=Lx n p;refine⟨?_,?_⟩
  ·show pk (iW (w5 n) p).d (256*p) zer=_;rw [h1,sQ,FV]
  ·show pk (iW (w5 n) p).i (256*p) zer=_;rw [h2,sQ,FV]
theorem Lv(s:Mm):∀(p q:Nat),p≤s.r.length→(iW s p).r.getD q 0=if q<p then xQ q else s.r.getD q 0
 | 0,q,_=>by rw [ac (by omega)];rfl
 | p+1,q,h=>by
  have hl:∀p,(iW s p).r.length=s.r.length:=fun p=>by
   induction p with
   | zero=>rfl
   | succ p ih=>exact(List.length_set ..).trans ih
  show((iW s p).r.set p (xQ p)).getD q 0=_;rw [List.getD_eq_getElem?_getD,List.getElem?_set];by_cases h1:p=q
  ·subst h1;rw [aj J,aj (by rw [hl];omega),aj (by omega)];rfl
  ·rw [ac h1,←List.getD_eq_getElem?_getD,Lv s p q (by omega)];by_cases h2:q<p
   ·rw [aj h2,aj (by omega)]
   ·rw [ac h2,ac (by omega)]
theorem Ql(s:Mm)(p:Nat):(uU s (p+1)).i=pk (uU s p).i ((p+1)*256) (((uU s p).d.drop ((p+1)*256)).take 256):=by rw [uU]
theorem Qm{s:Mm}(hl:s.i.length=s.d.length)(k:Nat):∀p,(p+1)*256≤s.d.length→(uU s p).i[k]?=if 256≤k∧k<(p+1)*256 then s.d[k]? else s.i[k]?:=by
 intro p
 induction p with
 | zero=>
  intro _;rw [ac (by omega),uU]
 | succ p ihp=>
  intro h;have hli:∀p,(uU s p).i.length=s.i.length:=fun p=>by
   induction p with
   | zero=>rfl
   | succ p ih=>exact(fQ ..).trans ih
  have h':(p+1)*256≤s.d.length:=Nat.le_trans (Nat.mul_le_mul_right 256 (Nat.le_succ (p+1))) h;have ih:=ihp h';clear ihp;rw [Ql,Cu,qM,ih,hli];have hlen:(List.take 256 (List.drop ((p+1)*256) s.d)).length=256:=by
   rw [List.length_take,List.length_drop];omega
  rw [hlen];by_cases h1:(p+1)*256≤k∧k<(p+1)*256+256
  ·rw [aj ⟨h1.1,h1.2,by omega⟩,aj ⟨by omega,by omega⟩,List.getElem?_take,aj (by omega),List.getElem?_drop,show(p+1)*256+(k-(p+1)*256)=k by omega]
  ·rw [ac (fun h2=>h1 ⟨h2.1,h2.2.1⟩)];by_cases h2:256≤k∧k<(p+1)*256
   ·rw [aj h2,aj ⟨h2.1,by omega⟩]
   ·rw [ac h2,ac (fun h3=> ?_)];omega
theorem Ly(s:Mm):∀p,(uU s p).r=s.r
 | 0=>rfl
 | p+1=>Ly s p
theorem Nv{code:List Qi}(hl:code.length≤1984)(hv:∀i∈code,rM i=true∧0≤i.imm∧i.imm<4294967296){ins:List Int}(hi:∀v∈ins,0≤v∧v<4294967296):
  Sim code ⟨0,fun _=>0,fun _=>0,ins,[]⟩ 256 (OP (w5 64) (eR code)):=by
 have hb:=gW code;obtain⟨hd,hi0⟩:=Lx 64 64;have hm:=mS (Gt (n:=64) (by decide)) 64;have hD:(OP (w5 64) (eR code)).d=pk (List.replicate (256*64) 0) 256 (eR code):=by
  show(uU _ 31).d=_;rw [Cu];show pk (iW (w5 64) 64).d 256 (eR code)=_;rw [hd]
 have hDk:∀k,(pk (List.replicate (256*64) (0:Int)) 256 (eR code)).getD k 0=if 256≤k∧k<256+(eR code).length then(eR code).getD (k-256) 0 else 0:=fun k=>by
  rw [pW (by rw [List.length_replicate];omega)];split
  ·rfl
  ·rw [List.getD_eq_getElem?_getD,List.getElem?_replicate];split<;>rfl
 refine⟨⟨?_,?_,fun p hp=> ?_,fun k i hk j hj=> ?_,hl,fun k i hk=>⟨VQ.of (hv i (bV hk)).1,(hv i (bV hk)).2⟩⟩,fun a ha=> ?_,J,fun _=>⟨Int.le_refl _,by show(0:Int)<4294967296;decide⟩,fun _=>J,by decide,hi⟩
 ·exact AQ (hm.dd (fQ _ _ _)) 31
 ·rw [hD];exact Ig (fun x hx=>by have:=List.eq_of_mem_replicate hx;subst this;decide) (uf code)
 ·show(uU _ 31).r.getD p 0=_;rw [Ly];show(iW (w5 64) 64).r.getD p 0=_;rw [Lv (w5 64) 64 p (Nat.le_of_eq (by exact(List.length_replicate ..).symm)),aj hp]
 ·have hkl:k<code.length:=(cU.1 hk).1;show(uU {iW (w5 64) 64 with d:=pk (iW (w5 64) 64).d 256 (eR code)} 31).i[256+4*k+j]?=_;rw [Qm (by show(iW (w5 64) 64).i.length=(pk _ _ _).length;rw [fQ,hm.i,hm.d]) _ 31 (by show _≤(pk _ _ _).length;rw [fQ,hm.d];decide),aj ⟨by omega,by omega⟩];show(pk (iW (w5 64) 64).d 256 (eR code))[256+4*k+j]?=_;rw [qM,aj ⟨by omega,by omega,by rw [hm.d];omega⟩,show 256+4*k+j-256=4*k+j by omega,zm hk hj,show u4 i=oi i from aj (hv i (bV hk)).1]
 ·obtain⟨a1,a2,a3⟩:=ha;rw [hD,w8,hDk,hDk,hDk,hDk,ac (by omega),ac (by omega),ac (by omega),ac (by omega)];rfl
end Go.Proofs.YtedmdgbmdplifaaGreat
