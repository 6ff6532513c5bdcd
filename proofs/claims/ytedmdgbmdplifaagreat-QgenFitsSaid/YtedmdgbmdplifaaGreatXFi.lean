/-
  A part of the proof. Conditions are with the theorems.
-/
import Derived.Test.YtedmdgbmdplifaaGreatXFa
import Derived.Test.YtedmdgbmdplifaaGreatXFb
import Derived.Test.YtedmdgbmdplifaaGreatXFc
import Derived.Test.YtedmdgbmdplifaaGreatXFd
import Derived.Test.YtedmdgbmdplifaaGreatXFe
import Derived.Test.YtedmdgbmdplifaaGreatXFf
import Derived.Test.YtedmdgbmdplifaaGreatXFg
import Derived.Test.YtedmdgbmdplifaaGreatXFh
set_option maxHeartbeats 32000000
set_option maxRecDepth 100000
set_option linter.unusedSimpArgs false
set_option linter.unusedVariables false
namespace Go.Proofs.YtedmdgbmdplifaaGreat
open Go.RowKit Tryz
theorem zero_fst(a:Int):fst 0 a=a:=rfl
theorem rZ:∀a b:List Py,lK (a++b)=lK a++lK b
 | [],b=>rfl
 | t::r,b=>by
  show uY t::lK (r++b)=uY t::(lK r++lK b);rw [rZ r b]
theorem wu:∀l:List Px,(K0 l).length=l.length
 | []=>rfl
 | t::r=>by
  show(K0 r).length+1=r.length+1;rw [wu r]
structure VXo(fs:List Tf)(d n:Nat)(s s':Gs)(l:List Tx):Prop where
 hr:ji l=true
 hd:f_ l≤d+1
 he:∀ns:List Ba,(∀x∈s.names,x∈ns)→jH fs ns l=0
 hn:(dD l:Int)=s.nodes-s'.nodes
 hl:s'.nodes≥s.nodes-(n:Int)∨s'.nodes≥ -3*(d:Int)-(n:Int)+1
theorem VXo.nil{fs:List Tf}{d:Nat}{s:Gs}:VXo fs d 0 s s []:=⟨rfl,bn _,fun _ _=>rfl,by rw [dD];omega,.inl (by omega)⟩
theorem VXo.cons{fs:List Tf}{d n:Nat}{s s1 s2:Gs}{t:Tx}{l:List Tx}(h1:VXo fs d 1 s s1 [t])(h2:VXo fs d n s1 s2 l)(hk:s1.names=s.names):VXo fs d (n+1) s s2 (t::l):=by
 refine⟨?_,?_,fun ns hn=> ?_,?_,?_⟩
 ·have h:(rX t&&ji [])=true:=h1.hr;show(rX t&&ji l)=true;rw [Bool.and_eq_true]at h ⊢;exact⟨h.1,h2.hr⟩
 ·have h:max (dX t) (f_ [])≤d+1:=h1.hd;exact Nat.max_le.2 ⟨(Nat.max_le.1 h).1,h2.hd⟩
 ·have h:fst (eX fs ns t) (jH fs ns [])=0:=h1.he ns hn;exact bx.2 ⟨(bx.1 h).1,h2.he ns (hk▸hn)⟩
 ·have a:=h1.hn;have b:=h2.hn;rw [Co]at a;rw [dD];omega
 ·rcases h1.hl with a|a
  ·rcases h2.hl with b|b
   ·exact .inl (by omega)
   ·exact .inr (by omega)
  ·rcases h2.hl with b|b
   ·exact .inr (by omega)
   ·exact .inr (by omega)
theorem VXo.up{fs:List Tf}{d d2 n:Nat}{s s':Gs}{l:List Tx}(h:VXo fs d n s s' l)(hd:d≤d2):VXo fs d2 n s s' l:=⟨h.hr,by have:=h.hd;omega,h.he,h.hn,by
 rcases h.hl with a|a
 ·exact .inl a
 ·exact .inr (by omega)⟩
theorem VXo.leaf{fs:List Tf}{d:Nat}{s s':Gs}{k n:Int}{nm:Ba}(h1:jC k nm 0=true)(h2:k=1∨n=0)(h3:k≠3)(he:k=2→nm∈s.names)(hn:s'.nodes=s.nodes-1):VXo fs d 1 s s' [.mk k n nm bc []]:=by
 refine⟨?_,?_,fun ns hs=> ?_,?_,.inl (by omega)⟩
 ·show((jC k nm 0&&(decide (k=1) || decide (n=0))&&true)&&true)=true;rw [h1];rcases h2 with h|h<;>simp [h]
 ·show max (0+1) 0≤d+1;omega
 ·simp only [jH,eX,cO];rw [ac h3];split
  ·rename_i h;exact aj (fH.2 (hs _ (he h)))
  ·rfl
 ·rw [dD,nX,dD];omega
theorem VXo.node{fs:List Tf}{d m:Nat}{s s1 s':Gs}{k:Int}{nm:Ba}{kids:List Tx}(h1:jC k nm kids.length=true)(he:k≠2)(h3:k=3→∃g,cV fs nm=some g∧g.ps.length=kids.length)(hk:VXo fs d m s1 s' kids)(hnm:s1.names=s.names)(hn:s1.nodes=s.nodes-1)(hp:1≤s1.nodes)(hm:m≤4):VXo fs (d+1) 1 s s' [.mk k 0 nm bc kids]:=by
 refine⟨?_,?_,fun ns hs=> ?_,?_,?_⟩
 ·show((jC k nm kids.length&&(decide (k=1) || decide ((0:Int)=0))&&ji kids)&&true)=true;rw [h1,hk.hr];simp
 ·show max (f_ kids+1) 0≤d+1+1;have:=hk.hd;omega
 ·simp only [jH,eX,cO];rw [ac he,hk.he ns (hnm▸hs),cO];split
  ·rename_i h;obtain⟨g,h4,h5⟩:=h3 h;rw [h4];exact aj h5
  ·rfl
 ·have:=hk.hn;rw [dD,nX,dD];omega
 ·rcases hk.hl with a|a
  ·exact .inr (by omega)
  ·exact .inr (by omega)
theorem ju{l:List Int}{n j:Int}{s s1:Gs}(h:gN l n s=(j,s1)):s1.nodes=s.nodes:=by rw [(CJ h).1]
theorem tP{l:List Int}{d:Nat}{s s1:Gs}{k:Int}(hb: -1000000000≤s.nodes∧s.nodes≤1000000)(h:gK l d s=(k,s1)):s1.nodes=s.nodes-1∧(4≤k→1≤s1.nodes):=by
 unfold gK at h;obtain⟨j,s2,hg⟩:∃j s2,gN l 16 {s with nodes:=IntKind.i64.wrap (s.nodes-1)}=(j,s2):=⟨_,_,J⟩
 rw [hg]at h;have h1:=ju hg;have h2:=pY (by decide) hg;dsimp only at h h1;rw [bM (by omega)]at h1;have h3:s2=s1:=congrArg Prod.snd h;have h4:=congrArg Prod.fst h;subst h3;refine⟨h1,fun hk=> ?_⟩;dsimp only at h4;by_cases h5:d=0∨s2.nodes<1
 ·rw [aj h5]at h4;omega
 ·omega
def Cv(c:Gc)(fs:List Tf):Prop:=∀f∈c.fs,bE f.1=true∧f.2.length≤4∧∃g,cV fs f.1=some g∧g.ps.length=f.2.length
theorem KJ:∀x∈biL,gJ x=true:=List.all_eq_true.1 (by kernel_rfl:biL.all gJ=true)
theorem UR{x:Ba}(h:bE x=true):jC 2 x 0=true:=by
 show(bE x&&decide (0=0))=true;rw [h];rfl
mutual
theorem GXr.vx{c:Gc}{fs:List Tf}(hc:Cv c fs):∀{d:Nat}{s s':Gs}{p:Px},GXr c d s p s'→(∀x∈s.names,bE x=true)→(-1000000000≤s.nodes∧s.nodes≤1000000)→d≤100→VXo fs d 1 s s' [uX p]
 | d,s,_,_,.nam hk h hn hj hx,hs,hb,hd=>by
  obtain⟨n1,n2⟩:=tP hb hk;have hm:=bV hx;rw [(jv hk).1]at hm;exact VXo.leaf (UR (hs _ hm)) (.inr J) (by decide) (fun _=>hm) (by rw [ju hj,n1])
 | d,s,_,_,.inp hk,hs,hb,hd=>VXo.leaf (by kernel_rfl) (.inr rfl) (by decide) (fun h=>absurd h (by decide)) (tP hb hk).1
 | _,s,_,_,.mem (d:=d) (s1:=s1) hk h hp,hs,hb,hd=>by
  obtain⟨n1,n2⟩:=tP hb hk;have n3:=n2 (by omega);have hnm:=(jv hk).1;exact VXo.node (by kernel_rfl) (by decide) (fun h=>absurd h (by decide)) (hp.vx hc (hnm▸hs) (by omega) (by omega)) hnm n1 n3 (by decide)
 | _,s,_,_,.una (d:=d) (s1:=s1) (s2:=s2) (x:=x) hk hj hx hp,hs,hb,hd=>by
  obtain⟨n1,n2⟩:=tP hb hk;have n3:=n2 (by decide);have hnm:=(bN hj).1.trans (jv hk).1;have n4:=ju hj;exact VXo.node (s1:=s2) (by show(cx x rf&&decide (1=1))=true;rw [fH.2 (bV hx)];rfl) (by decide) (fun h=>absurd h (by decide)) (hp.vx hc (hnm▸hs) (by omega) (by omega)) hnm (by omega) (by omega) (by decide)
 | _,s,_,_,.call (d:=d) (s1:=s1) (s2:=s2) (f:=f) (ps:=ps) hk h hj hx hp,hs,hb,hd=>by
  obtain⟨n1,n2⟩:=tP hb hk;have n3:=n2 (by decide);have hnm:=(bN hj).1.trans (jv hk).1;have n4:=ju hj;obtain⟨f1,f2,g,f3,f4⟩:=hc f (bV hx);have hq:=hp.vx hc (hnm▸hs) (by omega) f2 (by omega);have hl:(K0 ps).length=f.2.length:=by rw [wu,hp.len]
  exact VXo.node (s1:=s2) (by show bE f.1=true;exact f1) (by decide) (fun _=>⟨g,f3,by rw [hl];exact f4⟩) hq hnm (by omega) (by omega) f2
 | _,s,_,_,.bin (d:=d) (s1:=s1) (s2:=s2) (s3:=s3) (x:=x) hk h hj hx hp hq,hs,hb,hd=>by
  obtain⟨n1,n2⟩:=tP hb hk;have n3:=n2 (by omega);have hnm:=(bN hj).1.trans (jv hk).1;have n4:=ju hj;have h1:=hp.vx hc (hnm▸hs) (by omega) (by omega);have h1l:=h1.hl;have h1n:=h1.hn;have h2:=hq.vx hc (by rw [hp.keep.1];exact hnm▸hs) ⟨by omega,by omega⟩ (by omega);exact VXo.node (s1:=s2) (by show(gJ x&&decide (2=2))=true;rw [KJ _ (bV hx)];rfl) (by decide) (fun h=>absurd h (by decide)) (h1.cons h2 hp.keep.1) hnm (by omega) (by omega) (by decide)
 | d,s,_,_,.con hk h1 h3 h4 h5 h6 h7 h8 hj hx,hs,hb,hd=>VXo.leaf (by kernel_rfl) (.inl rfl) (by decide) (fun h=>absurd h (by decide)) (by rw [ju hj,(tP hb hk).1])
theorem GKr.vx{c:Gc}{fs:List Tf}(hc:Cv c fs):∀{d n:Nat}{s s':Gs}{ps:List Px},GKr c d n s ps s'→(∀x∈s.names,bE x=true)→(-1000000000+(n:Int)≤s.nodes∧s.nodes≤1000000)→n≤4→d≤100→VXo fs d n s s' (K0 ps)
 | _,_,_,_,_,.nil,_,_,_,_=>VXo.nil
 | d,n+1,s,s2,_,.cons hp hq,hs,hb,h4,hd=>by
  have h1:=hp.vx hc hs (by omega) hd;have h1l:=h1.hl;have h1n:=h1.hn;exact h1.cons (hq.vx hc (by rw [hp.keep.1];exact hs) ⟨by omega,by omega⟩ (by omega) hd) hp.keep.1
theorem GKr.len{c:Gc}:∀{d n:Nat}{s s':Gs}{ps:List Px},GKr c d n s ps s'→ps.length=n
 | _,_,_,_,_,.nil=>rfl
 | _,_,_,_,_,.cons hp hq=>by rw [aY,hq.len]
end
theorem xi:(pNames.all bE&&(freshL.all bE&&(hNames.all bE)))=true:=by kernel_rfl
theorem Qh:∀x∈pNames,bE x=true:=List.all_eq_true.1 (Bool.and_eq_true .. ▸xi).1
theorem Np:∀x∈freshL,bE x=true:=List.all_eq_true.1 (Bool.and_eq_true .. ▸(Bool.and_eq_true .. ▸xi).2).1
theorem Tg:∀x∈hNames,bE x=true:=List.all_eq_true.1 (Bool.and_eq_true .. ▸(Bool.and_eq_true .. ▸xi).2).2
theorem Kl:((List.range 8).all fun i=>(List.range 4).all fun j=> !decide (freshL[i]?=pNames[j]?))=true:=by kernel_rfl
theorem Km:((List.range 8).all fun i=>(List.range 8).all fun j=>decide (i=j) || !decide (freshL[i]?=freshL[j]?))=true:=by kernel_rfl
structure VSt(P ns:List Ba)(j:Int)(s:Gs):Prop where
 nm:∀x∈s.names,x∈ns
 fr:∀x∈ns,x∈P∨∃i:Nat,(i:Int)<s.vars∧freshL[i]?=some x
 v0:0≤s.vars
 v8:s.vars≤8
 lo: -12-4*(8-s.left)+j≤s.nodes
 hi:s.nodes≤150
 l0:0≤s.left
 l8:s.left≤8
theorem VSt.ids{P ns:List Ba}{j:Int}{s:Gs}(h:VSt P ns j s)(hP:∀x∈P,x∈pNames):∀x∈s.names,bE x=true:=fun x hx=>by
 rcases h.fr x (h.nm x hx)with h1|⟨i,_,h1⟩
 ·exact Qh x (hP x h1)
 ·exact Np x (bV h1)
theorem VSt.new{P ns:List Ba}{j:Int}{s:Gs}{x:Ba}(h:VSt P ns j s)(hP:∀x∈P,x∈pNames)(hx:freshL[s.vars.toNat]?=some x)(hv:s.vars<8):x∉ns:=fun hm=>by
 have h0:=h.v0;rcases h.fr x hm with h1|⟨i,hi,h1⟩
 ·obtain⟨k,hk⟩:=List.getElem?_of_mem (hP x h1);have hk4:k<4:=(cU.1 hk).1;have:=List.all_eq_true.1 (List.all_eq_true.1 Kl s.vars.toNat (List.mem_range.2 (by omega))) k (List.mem_range.2 hk4);rw [hx,hk]at this;simp at this
 ·have:=List.all_eq_true.1 (List.all_eq_true.1 Km s.vars.toNat (List.mem_range.2 (by omega))) i (List.mem_range.2 (by omega));rw [hx,h1]at this;simp at this;omega
structure VSo(fs:List Tf)(P:List Ba)(d:Nat)(s s':Gs)(ns:List Ba)(o:List Ty)(m:Int):Prop where
 hr:h_ o=true
 hd:cG d o=false
 he:(dK fs ns o).2=0
 st:VSt P (dK fs ns o).1 0 s'
 mono:∀x∈ns,x∈(dK fs ns o).1
 hn:(cv o:Int)≤s.nodes-s'.nodes+8*(s.left-s'.left)+m
 hv:(dW o:Int)=s'.vars-s.vars
theorem VSo.nil{fs:List Tf}{P:List Ba}{d:Nat}{s:Gs}{ns:List Ba}(h:VSt P ns 0 s):VSo fs P d s s ns [] 0:=⟨rfl,rfl,rfl,h,fun _ h=>h,by rw [cv];omega,by rw [dW];omega⟩
theorem VSo.app{fs:List Tf}{P:List Ba}{d:Nat}{s s1 s2:Gs}{ns:List Ba}{a b:List Ty}{m1 m2:Int}(h1:VSo fs P d s s1 ns a m1)(h2:VSo fs P d s1 s2 (dK fs ns a).1 b m2):VSo fs P d s s2 ns (a++b) (m1+m2):=by
 have e:=sO fs ns a b;refine⟨?_,?_,?_,?_,fun x hx=> ?_,?_,?_⟩
 ·rw [ip,List.all_append,←ip,←ip,h1.hr,h2.hr];rfl
 ·rw [qs,h1.hd,h2.hd];rfl
 ·rw [e];exact bx.2 ⟨h1.he,h2.he⟩
 ·rw [e];exact h2.st
 ·rw [e];exact h2.mono x (h1.mono x hx)
 ·have a1:=h1.hn;have a2:=h2.hn;rw [kS];omega
 ·have a1:=h1.hv;have a2:=h2.hv;rw [m9];omega
theorem BB{fs:List Tf}{ns:List Ba}{k:Int}{nm:Ba}{es:List Tx}(hk:k≠1):dK fs ns [.mk k nm bc es bc [] bc []]=(ns,fst (if k=2 then(if cx nm ns=true then 0 else 21)else 0) (jH fs ns es)):=by
 simp only [dK,bY,ac hk,cO,zero_fst]
theorem VXo.pos{fs:List Tf}{d n:Nat}{s s':Gs}{l:List Tx}(h:VXo fs d n s s' l):s'.nodes≤s.nodes:=by
 have:=h.hn;omega
theorem VSo.stm{fs:List Tf}{P:List Ba}{d dd m:Nat}{s s':Gs}{ns:List Ba}{k:Int}{nm:Ba}{es:List Tx}(hk:k≠1)(hok:n_ k nm es.length 0 0=true)(hd:d≤8)(hm:k=2→nm∈s.names)(hx:VXo fs dd m s s' es)(kp:s'.names=s.names∧s'.left=s.left∧s'.vars=s.vars)(hdd:dd≤3)(h4:m≤4)(hst:VSt P ns 4 s):
  VSo fs P d s s' ns [.mk k nm bc es bc [] bc []] 8:=by
 have e:=BB (fs:=fs) (ns:=ns) (nm:=nm) (es:=es) hk;obtain⟨k1,k2,k3⟩:=kp;have hp:=hx.pos;obtain⟨a1,a2,a3,a4,a5,a6,a7,a8⟩:=hst;refine⟨?_,?_,?_,?_,fun x hx=>by rw [e];exact hx,?_,?_⟩
 ·show((n_ k nm es.length 0 0&&ji es&&true&&true)&&true)=true;rw [hok,hx.hr];rfl
 ·show((decide (d>8) || decide (f_ es>8) || false || false) || false)=false;have:=hx.hd;rw [decide_eq_false (by omega),decide_eq_false (by omega)];rfl
 ·rw [e];refine bx.2 ⟨?_,hx.he ns a1⟩;split
  ·rename_i h;exact aj (fH.2 (a1 _ (hm h)))
  ·rfl
 ·rw [e];refine⟨k1▸a1,by rw [k3];exact a2,by omega,by omega,?_,by omega,by omega,by omega⟩;rcases hx.hl with q|q<;>omega
 ·have:=hx.hn;rw [cv,nY,cv];omega
 ·rw [dW,vY,dW,ac hk];omega
theorem P7{x:Ba}{nb nl:Nat}(h:bE x=true):n_ 1 x 1 0 0=true:=by
 show(true&&true&&true&&bE x&&true&&true)=true;rw [h];rfl
theorem Oy{fs:List Tf}{ns:List Ba}{x:Ba}{es:List Tx}(hx:x∉ns):dK fs ns [.mk 1 x bc es bc [] bc []]=(ns++ [x],jH fs ns es):=by
 have h:¬cx x ns=true:=fun h=>hx (fH.1 h)
 simp only [dK,bY,cO,zero_fst];simp [h,cO,zero_fst]
theorem VSo.var{fs:List Tf}{P:List Ba}{d:Nat}{s s1:Gs}{ns:List Ba}{x:Ba}{p:Tx}(hP:∀x∈P,x∈pNames)(hd:d≤8)(hx:freshL[s.vars.toNat]?=some x)(hv:s.vars<8)(hp:VXo fs 3 1 {s with vars:=s.vars+1} s1 [p])(kp:s1.names=s.names∧s1.left=s.left∧s1.vars=s.vars+1)(hst:VSt P ns 4 s):
  VSo fs P d s {s1 with names:=s1.names++ [x]} ns [.mk 1 x bc [p] bc [] bc []] 8:=by
 have hn:=hst.new hP hx hv;have e:=Oy (fs:=fs) (es:= [p]) hn;obtain⟨k1,k2,k3⟩:=kp;have hpo:s1.nodes≤s.nodes:=hp.pos;obtain⟨a1,a2,a3,a4,a5,a6,a7,a8⟩:=hst;have hl:s1.nodes≥s.nodes-((1:Nat):Int)∨s1.nodes≥ -3*((3:Nat):Int)-((1:Nat):Int)+1:=hp.hl;have hnn:(dD [p]:Int)=s.nodes-s1.nodes:=hp.hn;refine⟨?_,?_,?_,?_,fun y hy=>by rw [e];exact List.mem_append_left _ hy,?_,?_⟩
 ·show((n_ 1 x 1 0 0&&ji [p]&&true&&true)&&true)=true;rw [P7 (nb:=0) (nl:=0) (Np x (bV hx)),hp.hr];rfl
 ·show((decide (d>8) || decide (f_ [p]>8) || false || false) || false)=false;have:=hp.hd;rw [decide_eq_false (by omega),decide_eq_false (by omega)];rfl
 ·rw [e];exact hp.he ns a1
 ·rw [e];refine⟨fun y hy=> ?_,fun y hy=> ?_,by dsimp only;omega,by dsimp only;omega,?_,by dsimp only;omega,by dsimp only;omega,by dsimp only;omega⟩
  ·dsimp only at hy;rcases List.mem_append.1 hy with h|h
   ·exact List.mem_append_left _ (a1 _ (k1▸h))
   ·exact List.mem_append_right _ h
  ·rcases List.mem_append.1 hy with h|h
   ·rcases a2 y h with h|⟨i,hi,h⟩
    ·exact .inl h
    ·exact .inr ⟨i,by dsimp only;omega,h⟩
   ·rw [List.mem_singleton.1 h];exact .inr ⟨s.vars.toNat,by dsimp only;omega,hx⟩
  ·dsimp only;rcases hl with q|q<;>omega
 ·rw [cv,nY,cv];dsimp only;omega
 ·rw [dW,vY,dW];dsimp only;rw [aj J];omega
theorem RU{fs:List Tf}{ns:List Ba}{es:List Tx}{a b:List Ty}:dK fs ns [.mk 4 oNil bc es bc a bc b]=((dK fs (dK fs ns a).1 b).1,fst (jH fs ns es) (fst (dK fs ns a).2 (dK fs (dK fs ns a).1 b).2)):=by
 simp only [dK,bY,cO,zero_fst];simp [cO,zero_fst]
theorem VSo.iff{fs:List Tf}{P:List Ba}{d:Nat}{s s1 s2 s3 s4:Gs}{ns:List Ba}{p:Tx}{a b:List Ty}(hd:d≤8)(hp:VXo fs 2 1 s s1 [p])(hl:s1.left=s.left∧s1.vars=s.vars)(hst:VSt P ns 4 s)(h1:VSo fs P (d+1) s1 s2 ns a 0)(h23:s3.nodes=s2.nodes∧s3.left=s2.left∧s3.vars=s2.vars)(h2:VSo fs P (d+1) s3 s4 (dK fs ns a).1 b 0):
  VSo fs P d s s4 ns [.mk 4 oNil bc [p] bc a bc b] 8:=by
 have e:=RU (fs:=fs) (ns:=ns) (es:= [p]) (a:=a) (b:=b);refine⟨?_,?_,?_,?_,fun y hy=>by rw [e];exact h2.mono y (h1.mono y hy),?_,?_⟩
 ·show((n_ 4 oNil 1 a.length b.length&&ji [p]&&h_ a&&h_ b)&&true)=true;rw [hp.hr,h1.hr,h2.hr];rfl
 ·show((decide (d>8) || decide (f_ [p]>8) || cG (d+1) a || cG (d+1) b) || false)=false;have:=hp.hd;rw [decide_eq_false (by omega),decide_eq_false (by omega),h1.hd,h2.hd];rfl
 ·rw [e];exact bx.2 ⟨hp.he ns hst.nm,bx.2 ⟨h1.he,h2.he⟩⟩
 ·rw [e];exact h2.st
 ·have a1:=hp.hn;have a2:=h1.hn;have a3:=h2.hn;rw [cv,nY,cv];omega
 ·have a2:=h1.hv;have a3:=h2.hv;rw [dW,vY,dW,ac (by decide)];omega
theorem Ox{fs:List Tf}{ns:List Ba}{x:Ba}{n m:Tx}{body:List Ty}(hx:x∉ns):dK fs ns [.mk 1 x bc [n] bc [] bc [],.mk 5 oNil bc [m] bc body bc []]=((dK fs (ns++ [x]) body).1,fst (jH fs ns [n]) (fst (jH fs (ns++ [x]) [m]) (dK fs (ns++ [x]) body).2)):=by
 have h:¬cx x ns=true:=fun h=>hx (fH.1 h)
 simp only [dK,bY,cO,zero_fst];simp [h,cO,zero_fst]
theorem VSo.whi{c:Gc}{fs:List Tf}{P:List Ba}{d:Nat}{s s1 s2:Gs}{ns:List Ba}{x:Ba}{j:Int}{a:List Py}(hP:∀x∈P,x∈pNames)(hd:d≤7)(hx:freshL[s.vars.toNat]?=some x)(hv:s.vars<8)(k:s1.names=s.names∧s1.left=s.left∧s1.vars=s.vars+1)(kn:s1.nodes=s.nodes)(hst:VSt P ns 4 s)(ha:VSt P (ns++ [x]) 0 s1→VSo fs P (d+1) s1 s2 (ns++ [x]) (lK a) 0):
  VSo fs P d s {s2 with names:=s2.names++ [x]} ns (lK [.mk 1 x [pu j] [] [],.mk 5 oNil [jM x] (a++ [jN x]) []]) 8:=by
 have hn:=hst.new hP hx hv;obtain⟨k1,k2,k3⟩:=k;have hst1:=hst;obtain⟨a1,a2,a3,a4,a5,a6,a7,a8⟩:=hst1;have hin:x∈ns++ [x]:=List.mem_append_right _ (List.mem_singleton.2 J);have h:=ha ⟨fun y hy=>List.mem_append_left _ (a1 _ (k1▸hy)),fun y hy=>by
  rcases List.mem_append.1 hy with q|q
  ·rcases a2 y q with q|⟨i,hi,q⟩
   ·exact .inl q
   ·exact .inr ⟨i,by omega,q⟩
  ·rw [List.mem_singleton.1 q];exact .inr ⟨s.vars.toNat,by omega,hx⟩,by omega,by omega,by omega,by omega,by omega,by omega⟩
 have hid:=Np x (bV hx);have hsh:lK [.mk 1 x [pu j] [] [],.mk 5 oNil [jM x] (a++ [jN x]) []]= [.mk 1 x bc [uX (pu j)] bc [] bc [],.mk 5 oNil bc [uX (jM x)] bc (lK a++ [uY (jN x)]) bc []]:=by
  show [_,Ty.mk 5 oNil bc [uX (jM x)] bc (lK (a++ [jN x])) bc []]=_;rw [rZ];rfl
 have hdn:uY (jN x)= .mk 2 x bc [uX (.mk 7 0 dU [jM x,pu 1])] bc [] bc []:=J;have e:=Ox (fs:=fs) (n:=uX (pu j)) (m:=uX (jM x)) (body:=lK a++ [uY (jN x)]) hn;have e2:=sO fs (ns++ [x]) (lK a) [uY (jN x)];have e3:=BB (fs:=fs) (ns:=(dK fs (ns++ [x]) (lK a)).1) (nm:=x) (es:= [uX (.mk 7 0 dU [jM x,pu 1])]) (k:=2) (by decide);rw [←hdn]at e3;rw [e3]at e2;have hmx:=h.mono x hin;have eN:∀ns':List Ba,x∈ns'→jH fs ns' [uX (jM x)]=0:=fun ns' hm=>by
  show fst (fst (if(2:Int)=2 then(if cx x ns'=true then 0 else 21)else _) 0) 0=0;rw [aj J,aj (fH.2 hm)];rfl
 have eB:∀ns':List Ba,x∈ns'→jH fs ns' [uX (.mk 7 0 dU [jM x,pu 1])]=0:=fun ns' hm=>by
  show fst (fst 0 (fst (fst (if(2:Int)=2 then(if cx x ns'=true then 0 else 21)else _) 0) (fst (fst 0 0) 0))) 0=0;rw [aj J,aj (fH.2 hm)];rfl
 rw [hsh];refine⟨?_,?_,?_,?_,fun y hy=> ?_,?_,?_⟩
 ·have hr:=h.hr;show((n_ 1 x 1 0 0&&(rX (uX (pu j))&&true)&&true&&true)&&((n_ 5 oNil 1 (lK a++ [uY (jN x)]).length 0&&(rX (uX (jM x))&&true)&&h_ (lK a++ [uY (jN x)])&&true)&&true))=true;have h1:rX (uX (pu j))=true:=J;have h2:rX (uX (jM x))=true:=by
   show(jC 2 x 0&&_&&true)=true;rw [UR hid];rfl
  have h3:h_ (lK a++ [uY (jN x)])=true:=by
   rw [ip,List.all_append,←ip,hr];show(true&&((((true&&true&&true&&bE x&&true&&true)&&((true&&true&&(rX (uX (jM x))&&(rX (uX (pu 1))&&true)))&&true)&&true&&true))&&true))=true;rw [hid,h2];rfl
  rw [P7 (nb:=0) (nl:=0) hid,h1,h2,h3];rfl
 ·have hdd:=h.hd;show((decide (d>8) || decide (max 1 0>8) || false || false) || ((decide (d>8) || decide (max 1 0>8) || cG (d+1) (lK a++ [uY (jN x)]) || false) || false))=false;rw [qs,hdd,decide_eq_false (by omega)];show(false || false || false || false || (false || false || (false || ((decide (d+1>8) || decide (max (max 1 (max 1 0)+1) 0>8) || false || false) || false)) || false || false))=false;rw [decide_eq_false (p:=d+1>8) (by omega)];rfl
 ·rw [e,e2];dsimp only;rw [eN _ hin,h.he,aj J,aj (fH.2 hmx),eB _ hmx];rfl
 ·rw [e,e2];obtain⟨b1,b2,b3,b4,b5,b6,b7,b8⟩:=h.st;refine⟨fun y hy=> ?_,b2,b3,b4,b5,b6,b7,b8⟩;dsimp only at hy ⊢;rcases List.mem_append.1 hy with q|q
  ·exact b1 _ q
  ·rw [List.mem_singleton.1 q];exact hmx
 ·rw [e,e2];exact h.mono y (List.mem_append_left _ hy)
 ·have a1:=h.hn;show(((1+(1+0)+0+0)+((1+(1+0)+cv (lK a++ [uY (jN x)])+0)+0):Nat):Int)≤_;rw [kS];show(((1+(1+0)+0+0)+((1+(1+0)+(cv (lK a)+((1+((0+1+(0+1+0)+1)+0)+0+0)+0))+0)+0):Nat):Int)≤_;dsimp only;omega
 ·have a1:=h.hv;show(((1+0+0)+((0+dW (lK a++ [uY (jN x)])+0)+0):Nat):Int)=_;rw [m9];show(((1+0+0)+((0+(dW (lK a)+((0+0+0)+0))+0)+0):Nat):Int)=_;dsimp only;omega
theorem VSt.same{P ns:List Ba}{j:Int}{s s1:Gs}(h:VSt P ns j s)(k:s1.names=s.names∧s1.left=s.left∧s1.vars=s.vars)(kn:s1.nodes=s.nodes):VSt P ns j s1:=by
 obtain⟨a1,a2,a3,a4,a5,a6,a7,a8⟩:=h;obtain⟨k1,k2,k3⟩:=k;exact⟨k1▸a1,by rw [k3];exact a2,by omega,by omega,by omega,by omega,by omega,by omega⟩
theorem VSt.bd{P ns:List Ba}{j:Int}{s:Gs}(h:VSt P ns j s)(hj:0≤j): -1000≤s.nodes∧s.nodes≤1000000:=by
 obtain⟨a1,a2,a3,a4,a5,a6,a7,a8⟩:=h;omega
theorem VXo.fro{fs:List Tf}{d n:Nat}{s s1 s':Gs}{l:List Tx}(h:VXo fs d n s1 s' l)(k:s1.names=s.names)(kn:s1.nodes=s.nodes):VXo fs d n s s' l:=
 ⟨h.hr,h.hd,fun ns hs=>h.he ns (k▸hs),by have:=h.hn;omega,by rw [←kn];exact h.hl⟩
theorem VSo.fro{fs:List Tf}{P:List Ba}{d:Nat}{s s1 s':Gs}{ns:List Ba}{o:List Ty}{m m1:Int}(h:VSo fs P d s1 s' ns o m1)(kn:s1.nodes=s.nodes)(kv:s1.vars=s.vars)(kl:m1+8*s1.left=m+8*s.left):VSo fs P d s s' ns o m:=
 ⟨h.hr,h.hd,h.he,h.st,h.mono,by have:=h.hn;omega,by have:=h.hv;omega⟩
theorem VSo.dos{fs:List Tf}{P:List Ba}{d m:Nat}{s s':Gs}{ns:List Ba}{nm:Ba}{kids:List Tx}(hi:bE nm=true)(hd:d≤8)(hg:∃g,cV fs nm=some g∧g.ps.length=kids.length)(hx:VXo fs 1 m s s' kids)(kp:s'.names=s.names∧s'.left=s.left∧s'.vars=s.vars)(h4:m≤4)(hst:VSt P ns 4 s):
  VSo fs P d s s' ns [.mk 8 oNil bc [.mk 3 0 nm bc kids] bc [] bc []] 8:=by
 have e:=BB (fs:=fs) (ns:=ns) (nm:=oNil) (es:= [.mk 3 0 nm bc kids]) (k:=8) (by decide);obtain⟨k1,k2,k3⟩:=kp;have hp:=hx.pos;obtain⟨a1,a2,a3,a4,a5,a6,a7,a8⟩:=hst;refine⟨?_,?_,?_,?_,fun x hx=>by rw [e];exact hx,?_,?_⟩
 ·show((true&&((bE nm&&true&&ji kids)&&true)&&true&&true)&&true)=true;rw [hi,hx.hr];rfl
 ·show((decide (d>8) || decide (max (f_ kids+1) 0>8) || false || false) || false)=false;have:=hx.hd;rw [decide_eq_false (by omega),decide_eq_false (by omega)];rfl
 ·rw [e];obtain⟨g,g1,g2⟩:=hg;show jH fs ns [.mk 3 0 nm bc kids]=0;have h0:=hx.he ns a1;simp [jH,eX,cO,g1,g2,h0]
 ·rw [e];refine⟨k1▸a1,by rw [k3];exact a2,by omega,by omega,?_,by omega,by omega,by omega⟩;rcases hx.hl with q|q<;>omega
 ·have:=hx.hn;rw [cv,nY,cv,dD,nX,dD];omega
 ·rw [dW,vY,dW,ac (by decide)];omega
mutual
theorem GYr.vy{c:Gc}{fs:List Tf}{P:List Ba}(hc:Cv c fs)(hP:∀x∈P,x∈pNames):∀{e:Nat}{s s':Gs}{o:List Py},GYr c e s o s'→∀(d:Nat)(ns:List Ba),d+e≤8→VSt P ns 0 s→VSo fs P d s s' ns (lK o) 0
 | _,s,_,_,.mk (s1:=s1) hj h,d,ns,hd,hst=>by
  have k:=bN hj;have kn:=ju hj;exact(h.vy hc hP d ns hd (hst.same k kn)).fro kn k.2.2 (by omega)
theorem GLr.vy{c:Gc}{fs:List Tf}{P:List Ba}(hc:Cv c fs)(hP:∀x∈P,x∈pNames):∀{e n:Nat}{s s':Gs}{o:List Py},GLr c e n s o s'→∀(d:Nat)(ns:List Ba),d+e≤8→VSt P ns 0 s→VSo fs P d s s' ns (lK o) 0
 | _,_,s,_,_,.zero,d,ns,hd,hst=>VSo.nil hst
 | _,_,s,_,_,.stop _,d,ns,hd,hst=>VSo.nil hst
 | _,_,s,_,_,.step (s1:=s1) (o:=o) (r:=r) h hk h1 h2,d,ns,hd,hst=>by
  have k:=bN hk;have kn:=ju hk;obtain⟨k1,k2,k3⟩:=k;dsimp only at k1 k2 k3 kn;obtain⟨a1,a2,a3,a4,a5,a6,a7,a8⟩:=hst;have a:=h1.vy hc hP d ns hd ⟨k1▸a1,by rw [k3];exact a2,by omega,by omega,by omega,by omega,by omega,by omega⟩;have b:=h2.vy hc hP d _ hd a.st;rw [rZ];exact(a.app b).fro kn k3 (by omega)
theorem G1r.vy{c:Gc}{fs:List Tf}{P:List Ba}(hc:Cv c fs)(hP:∀x∈P,x∈pNames):∀{e:Nat}{k:Int}{s s':Gs}{o:List Py},G1r c e k s o s'→∀(d:Nat)(ns:List Ba),d+e≤8→VSt P ns 4 s→VSo fs P d s s' ns (lK o) 8
 | _,_,s,_,_,.var hk hx hv hp,d,ns,hd,hst=>by
  have hb:=hst.bd (by decide);have hi:=hst.ids hP;exact VSo.var hP (by omega) hx hv (hp.vx hc hi ⟨by dsimp only;omega,by dsimp only;omega⟩ (by decide)) hp.keep hst
 | _,_,s,_,_,.set (s1:=s1) (x:=x) hn hj hx hp,d,ns,hd,hst=>by
  have hb:=hst.bd (by decide);have k:=bN hj;have kn:=ju hj;have hs1:=hst.same k kn;have hm:=bV hx;have hq:=hp.keep;exact VSo.stm (by decide) (by show(true&&true&&true&&bE x&&true&&true)=true;rw [hst.ids hP _ hm];rfl) (by omega) (fun _=>hm) ((hp.vx hc (hs1.ids hP) (by omega) (by decide)).fro k.1 kn) ⟨hq.1.trans k.1,hq.2.1.trans k.2.1,hq.2.2.trans k.2.2⟩ (by decide) (by decide) hst
 | _,_,s,_,_,.put (s1:=s1) hk hp hq,d,ns,hd,hst=>by
  have hb:=hst.bd (by decide);have hi:=hst.ids hP;have k1:=hp.keep;have k2:=hq.keep;have h1:=(hp.vx hc hi (by omega) (by decide)).up (d2:=3) (by decide);have h1l:=h1.hl;have h1p:=h1.pos;have h2:=hq.vx hc (by rw [k1.1];exact hi) (by omega) (by decide);exact VSo.stm (by decide) (by kernel_rfl) (by omega) (fun h=>absurd h (by decide)) (h1.cons h2 k1.1) ⟨k2.1.trans k1.1,k2.2.1.trans k1.2.1,k2.2.2.trans k1.2.2⟩ (by decide) (by decide) hst
 | _,_,s,_,_,.iff1 (s1:=s1) (s2:=s2) (s3:=s3) hp ha hj hb,d,ns,hd,hst=>by
  have hbd:=hst.bd (by decide);have k1:=hp.keep;have h1:=hp.vx hc (hst.ids hP) (by omega) (by decide);have h1l:=h1.hl;have h1p:=h1.pos;have hst0:=hst;obtain⟨a1,a2,a3,a4,a5,a6,a7,a8⟩:=hst0;have e:=ha.vy hc hP (d+1) ns (by omega) ⟨k1.1▸a1,by rw [k1.2.2];exact a2,by omega,by omega,by omega,by omega,by omega,by omega⟩;have k3:=bN hj;have kn:=ju hj;have e2:=hb.vy hc hP (d+1) _ (by omega) (e.st.same k3 kn);exact VSo.iff (by omega) h1 k1.2 hst e ⟨kn,k3.2⟩ e2
 | _,_,s,_,_,.iff0 (s1:=s1) (s2:=s2) hp ha hj hb,d,ns,hd,hst=>by
  have hbd:=hst.bd (by decide);have k1:=hp.keep;have h1:=hp.vx hc (hst.ids hP) (by omega) (by decide);have h1l:=h1.hl;have h1p:=h1.pos;have hst0:=hst;obtain⟨a1,a2,a3,a4,a5,a6,a7,a8⟩:=hst0;have e:=ha.vy hc hP (d+1) ns (by omega) ⟨k1.1▸a1,by rw [k1.2.2];exact a2,by omega,by omega,by omega,by omega,by omega,by omega⟩;have k3:=bN hj;have kn:=ju hj;exact VSo.iff (by omega) h1 k1.2 hst e ⟨kn,k3.2⟩ (VSo.nil (e.st.same k3 kn))
 | _,_,s,_,_,.whi (s1:=s1) hx hv hj ha,d,ns,hd,hst=>by
  have k:=bN hj;have kn:=ju hj;exact VSo.whi (c:=c) hP (by omega) hx hv k kn hst fun h=>ha.vy hc hP (d+1) _ (by omega) h
 | _,_,s,_,_,.ret (s1:=s1) hj hp,d,ns,hd,hst=>by
  have hb:=hst.bd (by decide);have k:=bN hj;have kn:=ju hj;have hs1:=hst.same k kn;have hq:=hp.keep;exact VSo.stm (by decide) (by kernel_rfl) (by omega) (fun h=>absurd h (by decide)) ((hp.vx hc (hs1.ids hP) (by omega) (by decide)).fro k.1 kn) ⟨hq.1.trans k.1,hq.2.1.trans k.2.1,hq.2.2.trans k.2.2⟩ (by decide) (by decide) hst
 | _,_,s,_,_,.dos (s1:=s1) (s2:=s2) (s3:=s3) (f:=f) h hj hj2 hf hp,d,ns,hd,hst=>by
  have hb:=hst.bd (by decide);have k1:=bN hj;have n1:=ju hj;have k2:=bN hj2;have n2:=ju hj2;have k3:(s3.names=s2.names∧s3.left=s2.left∧s3.vars=s2.vars)∧s3.nodes=s2.nodes∧f∈c.fs:=by
   rcases hf with⟨_,h1,h2⟩|⟨_,j3,h1,h2⟩
   ·rw [h2];exact⟨⟨J,J,J⟩,J,bV h1⟩
   ·exact⟨bN h1,ju h1,bV h2⟩
  obtain⟨⟨k3,k4,k5⟩,n3,hfm⟩:=k3;obtain⟨ps,hps,rfl⟩:=hp;obtain⟨f1,f2,g,f3,f4⟩:=hc f hfm;have kk:s3.names=s.names∧s3.left=s.left∧s3.vars=s.vars:=⟨k3.trans (k2.1.trans k1.1),k4.trans (k2.2.1.trans k1.2.1),k5.trans (k2.2.2.trans k1.2.2)⟩
  have kn:s3.nodes=s.nodes:=n3.trans (n2.trans n1);have hs3:=hst.same kk kn;have hq:=hps.keep;have hv:=hps.vx hc (hs3.ids hP) (by omega) f2 (by decide);exact VSo.dos f1 (by omega) ⟨g,f3,by rw [f4,wu,hps.len]⟩ (hv.fro kk.1 kn) ⟨hq.1.trans kk.1,hq.2.1.trans kk.2.1,hq.2.2.trans kk.2.2⟩ f2 hst
 | _,_,s,_,_,.out (s1:=s1) h3 hs h4 h5 h6 h7 h8 h9 hp,d,ns,hd,hst=>by
  have hb:=hst.bd (by decide);have k:(s1.names=s.names∧s1.left=s.left∧s1.vars=s.vars)∧s1.nodes=s.nodes:=by
   rcases h8 with⟨_,h⟩|⟨_,j,_,h⟩
   ·rw [h];exact⟨⟨J,J,J⟩,J⟩
   ·exact⟨bN h,ju h⟩
  obtain⟨k,kn⟩:=k;have hs1:=hst.same k kn;have hq:=hp.keep;exact VSo.stm (by decide) (by kernel_rfl) (by omega) (fun h=>absurd h (by decide)) ((hp.vx hc (hs1.ids hP) (by omega) (by decide)).fro k.1 kn) ⟨hq.1.trans k.1,hq.2.1.trans k.2.1,hq.2.2.trans k.2.2⟩ (by decide) (by decide) hst
end
theorem qk:∀{fs:List Tf}{j:Nat}{g:Tf},(fs.map Tf.name).Nodup→fs[j]?=some g→cV fs g.name=some g
 | [],j,g,_,h=>by simp at h
 | a::r,0,g,hn,h=>by
  obtain rfl:a=g:=dY h;unfold cV;rw [List.find?_cons_of_pos (by simp)]
 | a::r,j+1,g,hn,h=>by
  have h2:r[j]?=some g:=h;rw [List.map_cons,List.nodup_cons]at hn;have h3:a.name≠g.name:=fun e=>hn.1 (e▸List.mem_map_of_mem (bV h2))
  unfold cV;rw [List.find?_cons_of_neg (by simp [h3])];exact qk hn.2 h2
theorem JC{fs:List Tf}(hn:(fs.map Tf.name).Nodup):once fs=true:=by
 unfold once;refine List.all_eq_true.2 fun i hi=>decide_eq_true ?_
 have hi:=List.mem_range.1 hi;have hg:fs[i]?=some (fs.getD i ⟨oNil,bc,[],bc,[]⟩):=by
  rw [List.getD_eq_getElem?_getD,bQ hi];rfl
 generalize fs.getD i ⟨oNil,bc,[],bc,[]⟩=g at hg;obtain⟨k,h1,h2⟩:=(jb (fs:=fs) (x:=g.name)).2 g (qk hn hg);have h3:(fs.map Tf.name)[i]?=(fs.map Tf.name)[k]?:=by rw [List.getElem?_map,List.getElem?_map,hg,h2]
 have h4:i=k:=(List.getElem?_inj (by rw [List.length_map];exact hi) hn).1 h3;rw [h1,h4]
theorem zp{fs:List Tf}:∀{l:List Tf},(∀f∈l,mW fs f=0)→iE fs l=0
 | [],_=>rfl
 | f::r,h=>bx.2 ⟨h f (List.mem_cons_self ..),zp fun g hg=>h g (List.mem_cons_of_mem _ hg)⟩
theorem vK(l:List Int)(s:Gs):∀n,n≤4→(xj l s n).1.map (fun f=>f.1)=hNames.take n
 | 0,_=>rfl
 | n+1,h=>by
  have hx:hNames[n]?=some (hNames.getD n oNil):=by
   have hl:hNames.length=4:=J;rw [List.getD_eq_getElem?_getD,bQ (by omega)];rfl
  rw [cj hx,←vK l s n (by omega),xj];simp only [List.map_append];rfl
theorem AW(l:List Int)(s:Gs):∀n,∀f∈(xj l s n).1,∃k,f.2=pNames.take k
 | 0,f,h=>by simp [xj]at h
 | n+1,f,h=>by
  rw [xj]at h;simp only at h;rcases List.mem_append.1 h with h|h
  ·exact AW l s n f h
  ·rw [List.mem_singleton.1 h];exact⟨_,J⟩
theorem LE(l:List Int)(s:Gs):∀n,(xj l s (n+1)).1[0]?=some (eq,[])
 | 0=>rfl
 | n+1=>by
  have h:=LE l s n;rw [xj];simp only;rw [List.getElem?_append_left (by rw [sk];omega)];exact h
theorem GBr.heads{l:List Int}{hs:List (Ba×List Ba)}{s0:Gs}:∀{i:Nat}{ps:List Pf}{s:Gs},GBr l hs s0 i ps s→ps.map (fun p=>(p.name,p.ps))=hs.take i∧i≤hs.length
 | _,_,_,.zero=>⟨rfl,bn _⟩
 | _,_,_,.step h hf hb=>by
  obtain⟨h1,h2⟩:=h.heads;have h3:=(cU.1 hf).1;refine⟨?_,by omega⟩;rw [cj hf,←h1,List.map_append];rfl
theorem QK:∀k,vW [] (pNames.take k)=0
 | 0=>rfl
 | 1=>by kernel_rfl
 | 2=>by kernel_rfl
 | 3=>by kernel_rfl
 | n+4=>by
  rw [List.take_of_length_le (by show 4≤n+4;omega)];kernel_rfl
theorem GBr.vp{l:List Int}{hs:List (Ba×List Ba)}{s0:Gs}{fs:List Tf}(hc:∀i,Cv ⟨l,i,hs⟩ fs)(hh:∀f∈hs,∃k,f.2=pNames.take k):∀{i:Nat}{ps:List Pf}{s:Gs},GBr l hs s0 i ps s→∀p∈ps,rF (uF p)=true∧mW fs (uF p)=0
 | _,_,_,.zero,p,h=>by simp at h
 | _,_,_,.step (i:=i) (s:=s) (s2:=s2) (f:=f) (b:=b) h hf hb,p,hp=>by
  rcases List.mem_append.1 hp with hp|hp
  ·exact h.vp hc hh p hp
  ·rw [List.mem_singleton.1 hp];have hfm:=bV hf;obtain⟨k,hk⟩:=hh f hfm;obtain⟨f1,f2,-⟩:=hc i f hfm;have hP:∀x∈f.2,x∈pNames:=fun x hx=>by
    rw [hk]at hx;exact List.mem_of_mem_take hx
   have v:=hb.vy (hc i) hP 1 f.2 (by decide) ⟨fun x hx=>hx,fun x hx=> .inl hx,by show(0:Int)≤0;decide,by show(0:Int)≤8;decide,by show(-12-4*(8-8)+0:Int)≤150;decide,by show(150:Int)≤150;decide,by show(0:Int)≤8;decide,by show(8:Int)≤8;decide⟩;obtain⟨a1,a2,a3,a4,a5,a6,a7,a8⟩:=v.st;have hn:(cv (lK b):Int)≤150-s2.nodes+8*(8-s2.left)+0:=v.hn;have hv:(dW (lK b):Int)=s2.vars-0:=v.hv;constructor
   ·show(f.2.all bE&&bE f.1&&h_ (lK b))=true;rw [f1,v.hr,List.all_eq_true.2 fun x hx=>Qh x (hP x hx)];rfl
   ·show fst (if f.2.length>4∨f.2.length+dW (lK b)>12∨cv (lK b)>400∨cG 1 (lK b)=true then 2 else 0) (fst (vW [] f.2) (dK fs f.2 (lK b)).2)=0;rw [v.hd,ac (by
     rintro (q|q|q|q)
     ·omega
     ·omega
     ·omega
     ·cases q),v.he,hk,QK]
    rfl
theorem JL{l:List Int}{ts:List Tf}(h:Mc l (ts.map oh)):jP ts=0:=by
 obtain⟨s,h⟩:=h;rw [←wb,vE J];generalize ts.map oh=ps at h;obtain⟨hh1,hh2⟩:=h.heads;have hb:=tO l;have hlen:(pZ l).1.length=fM l:=sk _ _ _;rw [List.take_of_length_le (by omega)]at hh1;have hnm:(pZ l).1.map (fun f=>f.1)=hNames.take (fM l):=vK _ _ _ hb.2;have hfn:(ps.map uF).map Tf.name=hNames.take (fM l):=by
  rw [←hnm,←hh1,List.map_map,List.map_map];rfl
 have hnd:((ps.map uF).map Tf.name).Nodup:=by
  rw [hfn];exact List.Nodup.sublist (List.take_sublist ..) (by decide)
 have hat:∀(j:Nat)(f:Ba×List Ba),(pZ l).1[j]?=some f→∃g,(ps.map uF)[j]?=some g∧g.name=f.1∧g.ps=f.2:=fun j f hj=>by
  rw [←hh1,List.getElem?_map]at hj;cases hq:ps[j]? with
  | none=>rw [hq]at hj;cases hj
  | some p=>
   rw [hq]at hj;have:(p.name,p.ps)=f:=dY hj;subst this;exact⟨uF p,by rw [List.getElem?_map,hq];rfl,rfl,rfl⟩
 have hcv:∀i,Cv ⟨l,i,(pZ l).1⟩ (ps.map uF):=fun i f hf=>by
  obtain⟨j,hj⟩:=List.getElem?_of_mem hf;obtain⟨g,g1,g2,g3⟩:=hat j f hj;obtain⟨k,hk⟩:=AW _ _ _ f hf;have hid:f.1∈hNames:=by
   have:f.1∈(pZ l).1.map (fun f=>f.1):=List.mem_map_of_mem hf;rw [hnm]at this;exact List.mem_of_mem_take this
  refine⟨Tg _ hid,?_,g,g2▸qk hnd g1,by rw [g3]⟩;rw [hk,List.length_take];exact Nat.min_le_right _ _
 have hv:=h.vp hcv (AW _ _ _);have hl:(ps.map uF).length=fM l:=by
  have:=congrArg List.length hfn;rw [List.length_map,List.length_take]at this;have h4:hNames.length=4:=J;omega
 have hr:rP (ps.map uF)=true:=List.all_eq_true.2 fun f hf=>by
  obtain⟨p,hp,rfl⟩:=List.mem_map.1 hf;exact(hv p hp).1
 obtain⟨n,hn⟩:∃n,fM l=n+1:=⟨fM l-1,by omega⟩
 have h0:(pZ l).1[0]?=some (eq,[]):=by
  show(xj l _ (fM l)).1[0]?=_;rw [hn];exact LE _ _ _
 obtain⟨g,g1,g2,g3⟩:=hat 0 _ h0;have hm:cV (ps.map uF) eq=some g:=by
  have:=qk hnd g1;rw [g2]at this;exact this
 unfold jP;rw [ac (by rw [hr];decide),ac (by omega),ac (by rw [JC hnd];decide),hm];show(if g.ps.length>0 then 23 else iE _ _)=0;rw [g3,ac (by show ¬0>0;decide)];exact zp fun f hf=>by
  obtain⟨p,hp,rfl⟩:=List.mem_map.1 hf;exact(hv p hp).2
theorem Qy{n j:Int}{s s1:Gs}(h:gN [] n s=(j,s1)):j=0∧s1=s:=by
 have h:((0:Int),s)=(j,s1):=h;cases h;exact⟨J,J⟩
theorem Ka{d:Nat}{k:Int}{s s1:Gs}(h:gK [] d s=(k,s1)):k=0:=by
 unfold gK at h;have h2:(if d=0∨(gN [] 16 {s with nodes:=IntKind.i64.wrap (s.nodes-1)}).2.nodes<1 then(0:Int)%4 else 0)=k:=congrArg Prod.fst h;rw [←h2];split<;>rfl
theorem TD{c:Gc}{d:Nat}{s s':Gs}{p:Px}(hl:c.l= [])(h:GXr c d s p s'):nX (uX p)=1:=by
 cases h with
 | nam hk h hn hj hx=>rfl
 | inp hk=>rfl
 | mem hk h hp=>rw [hl]at hk;have:=Ka hk;omega
 | una hk hj hx hp=>rw [hl]at hk;have:=Ka hk;omega
 | call hk h hj hx hp=>rw [hl]at hk;have:=Ka hk;omega
 | bin hk h hj hx hp hq=>rw [hl]at hk;have:=Ka hk;omega
 | con hk h1 h3 h4 h5 h6 h7 h8 hj hx=>rfl
theorem TY{c:Gc}{e:Nat}{k:Int}{s s':Gs}{o:List Py}(hl:c.l= [])(hk:k=0)(hv:s.vars<8)(h:G1r c e k s o s'):cv (lK o)=2:=by
 cases h with
 | var hk2 hx hv2 hp=>
  have:=TD hl hp;show(1+(nX (uX _)+0)+0+0)+0=2;rw [this]
 | set hn hj hx hp=>cases hk
 | put hk2 hp hq=>omega
 | iff1 hp ha hj hb=>cases hk
 | iff0 hp ha hj hb=>cases hk
 | whi hx hv2 hj ha=>cases hk
 | ret hj hp=>cases hk
 | dos h hj hj2 hf hp=>cases hk
 | out h3 hs h4 h5 h6 h7 h8 h9 hp=>exact absurd ⟨by omega,hv⟩ h3
theorem TG{c:Gc}{e n:Nat}{s s':Gs}{o:List Py}(hl:c.l= [])(hn:n=1)(hv:s.vars<8)(h:GLr c e n s o s'):cv (lK o)≤2:=by
 cases h with
 | zero=>cases hn
 | stop h=>exact bn _
 | step h hk h1 h2=>
  rw [hl]at hk;obtain⟨k0,ks⟩:=Qy hk;have:=TY hl k0 (by rw [ks];exact hv) h1;have hn:_=0:=Nat.succ.inj hn;rw [rZ,kS,this];subst hn;cases h2 with
  | zero=>exact bU _
  | stop h=>exact bU _
theorem Nt{ts:List Tf}(h:Mc [] (ts.map oh)):jx ts≤120:=by
 obtain⟨s,h⟩:=h;rw [←yQ,vE J];generalize ts.map oh=ps at h;have h1:fM []=1:=J;rw [h1]at h;generalize hi:1=i at h;cases h with
 | zero=>cases hi
 | step h hf hb=>
  cases Nat.succ.inj hi;cases h;cases hb with
  | mk hj h=>
   have:=(Qy hj)
   have hg:=TG J (by rw [this.1];rfl) (by rw [this.2];show(0:Int)<8;decide) h;exact Nat.le_trans (Nat.add_le_add_right hg 0) (by decide)
structure Lw where
 n:Nat
 k:Nat
 v:SV
 l:List Tf
theorem Ft{l:List Int}{n:Nat}{a b:List Tf}(ha:jx a>120)(hb:Mc (l.take n) (b.map oh)):(if jx b≤120 then 0 else n*3/4+1)<(if jx a≤120 then 0 else n+1):=by
 rw [ac (show ¬jx a≤120 by omega)];split
 ·omega
 ·rename_i h;have:n≠0:=fun h0=>by
   subst h0;rw [List.take_zero]at hb;exact h (Nt hb)
  omega
theorem Ah(vl:SV)(l:List Int)(hl:l.length≤1000000000000000000)(hlo:∀x∈l,Lr x):
  Spec prog 18 [sv vl] [] [sl 1 eI (sv vl) l] (X:=SV×List Tf) (fun x=>(∃k,Mc (l.take k) (x.2.map oh))∧jx x.2≤120) (fun x=> .agg #[sv x.1]) (fun x=> [dO x.1 x.2]) (fun _=> []):=by
 refine aI func18 J ntmps18 J fun w0 M H=>aq (aZ mu J J fun b2=>az J (ad J (ai (xs:= [.tmp 5]) (vF vl l (by omega) hlo) Rz [] [(false,0)] [80] (fun v hm=>aZ mu J J fun b3=>av (k:=3) mu J J J J J J (aa (aU (ad J (aP (aT underlying22 J (aJ (k:=0) J)) (am J (aa (aA ?_)))))))))))
 refine bJ (X:=Lw) (fun x=>x.n≤l.length∧Mc (l.take x.k) (x.l.map oh)∧(x.k≤x.n∨x.n<x.k)) (fun x=> [(0,sv vl),(2,Pt b2),(3,Pt b3),(4,I6 (x.n:Int))]) (fun x=> [(2,bj b2 27 [.slice none 0 0]),(3,bj b3 27 [sv x.v]),(80,dO x.v x.l)]) (fun x=> [(0,sl 1 eI (sv vl) l)]) (fun x=>if jx x.l≤120 then 0 else x.n+1) ⟨l.length,l.length,v.1,v.2⟩ ⟨bU _,by show Mc (l.take l.length) _;rw [cQ];exact hm,.inl (bU _)⟩ J J J (fun x hx1=> ?_);have hxn:=hx1.1;refine aU (aP (aM mu J J J (bp (k:=3) J)) ?_);have hgp:GP x.l:=Hf hx1.2.1;refine ai (xs:= [.tmp 9]) (AG x.v x.l hgp) Ux [] [(true,80)] [] (fun _ _=>ar J J fA (aa (ap J (fun h1=> ?_) (fun h1=> ?_))))
 ·(try simp only [bl]at h1);have hb:jx x.l>120:=by omega
  refine aC (be (aA (ak (ad J (ad J (aP (lP (j:=x.n) underlying22 t3 J J (aJ (k:=0) J) J (by omega)) (PB 0 22 x.n J (by omega) (ai (xs:= [.tmp 17]) (vF (JZ vl x.n) (l.take x.n) (by rw [List.length_take];omega) (fun z hz=>hlo z (List.mem_of_mem_take hz))) Rz [] [(false,22)] [80] (fun v2 hm2=>av (k:=3) mu J J J J J J (aa (ak (ad J (ar J J (fN (bM (by omega))) (ar J J (ml (c:=((x.n*3/4:Nat):Int)) (by decide) (by rw [q_ (by rw [Int.tdiv_eq_ediv_of_nonneg (by omega)];omega) (by rw [Int.tdiv_eq_ediv_of_nonneg (by omega)];omega),Int.tdiv_eq_ediv_of_nonneg (by omega)];omega)) (am J (aa ?_))))))))))))))));refine aG ⟨x.n*3/4,x.n,v2.1,v2.2⟩ ⟨⟨by show x.n*3/4≤_;omega,hm2,by show x.n≤x.n*3/4∨x.n*3/4<x.n;omega⟩,Ft hb hm2⟩ J J J
 ·(try simp only [bl]at h1);have hb:jx x.l≤120:=by omega
  refine bL (aq (aP (aM mu J J J (bp (k:=3) J)) (av (k:=2) mu J J J J J J (aa (ay (aN (x.v,x.l) ⟨⟨x.k,hx1.2.1⟩,hb⟩ J (ce (bw mu J J J (bp (k:=2) J))) J [80] [] J J J))))))
mutual
theorem OZ(o:Om)(S:Ba→Int):∀(t:Tx)(p:Nat),zX o S (cX t) p=zX o S t p
 | .mk k n nm v kids,p=>by
  rw [show cX (.mk k n nm v kids)= .mk k n nm bc (lD kids)from J,zX,zX];simp only [BF o S kids,KQ o S kids,KO o S kids,jY]
theorem BF(o:Om)(S:Ba→Int):∀(l:List Tx)(p:Nat),u_ o S (lD l) p=u_ o S l p
 | [],p=>rfl
 | t::r,p=>by
  show zX o S (cX t) p=zX o S t p;exact OZ o S t p
theorem KQ(o:Om)(S:Ba→Int):∀(l:List Tx)(p:Nat),Md o S (lD l) p=Md o S l p
 | [],p=>rfl
 | t::r,p=>by
  show u_ o S (lD r) p=u_ o S r p;exact BF o S r p
theorem KO(o:Om)(S:Ba→Int):∀(l:List Tx)(p:Nat),wl o S (lD l) p=wl o S l p
 | [],p=>rfl
 | t::r,p=>by
  rw [show lD (t::r)=cX t::lD r from J,wl,wl,OZ o S t];simp only [KO o S r]
end
theorem O9(l:List Tx):j_ (lD l)=j_ l:=by rw [←lH [] (fun _=>0) _ 0,BF,lH]
mutual
theorem Sm(o:Om)(S:Ba→Int)(E:Int):∀(t:Ty)(p:Nat),zY o S E (cY t) p=zY o S E t p
 | .mk k nm ve es vb body vl els,p=>by
  rw [show cY (.mk k nm ve es vb body vl els)= .mk k nm bc (lD es) bc (iV body) bc (iV els)from J,zY,zY];simp only [BF,KQ,O9,xU o S E body,xU o S E els,jm]
theorem xU(o:Om)(S:Ba→Int)(E:Int):∀(l:List Ty)(p:Nat),lG o S E (iV l) p=lG o S E l p
 | [],p=>rfl
 | t::r,p=>by
  rw [show iV (t::r)=cY t::iV r from J,lG,lG,Sm o S E t];simp only [xU o S E r]
end
theorem O6(l:List Ty):fO (iV l)=fO l:=by rw [←fk [] (fun _=>0) 0 _ 0,xU,fk]
mutual
theorem TX:∀(t:Ty)(p:Om×Int),gD (cY t) p=gD t p
 | .mk k nm ve es vb body vl els,p=>by
  rw [show cY (.mk k nm ve es vb body vl els)= .mk k nm bc (lD es) bc (iV body) bc (iV els)from J,gD,gD];rw [CM body,CM els]
theorem CM:∀(l:List Ty)(p:Om×Int),gDs (iV l) p=gDs l p
 | [],p=>rfl
 | t::r,p=>by
  rw [show iV (t::r)=cY t::iV r from J,gDs,gDs,TX t,CM r]
end
theorem J7(f:Tf):dB (cF f)=dB f:=by
 unfold dB;show gDs (iV f.body) _=_;rw [CM];rfl
theorem O1(S:Ba→Int)(f:Tf)(p:Nat):zF S (cF f) p=zF S f p:=by
 have e:(cF f).body=iV f.body:=J;simp only [zF,J7,e,O6,xU]
theorem Pb(f:Tf):wF (cF f)=wF f:=by rw [←sS (fun _=>0) _ 0,O1,sS]
theorem KS(S:Ba→Int):∀(l:List Tf)(p:Nat),zR S (l.map cF) p=zR S l p
 | [],p=>rfl
 | f::r,p=>by
  rw [List.map_cons,zR,zR,O1,Pb,KS S r]
theorem EQ:∀(l:List Tf)(p:Nat),iF (l.map cF) p=iF l p
 | [],p=>rfl
 | f::r,p=>by
  funext x;rw [List.map_cons,iF,iF,Pb,EQ r];rfl
theorem ET(fs:List Tf):jz (fs.map cF)=jz fs:=by
 unfold jz;rw [EQ,KS]
theorem A7{fs gs:List Tf}(hf:GP fs)(hc:jP fs=0)(hg:GP gs)(hd:jP gs=0)(h:gs.map cF=fs.map cF):ig gs=ig fs:=by
 obtain⟨_,f1⟩:=kF hf hc;obtain⟨_,f2⟩:=kF hg hd;obtain⟨n1,e1⟩:=qj f1;obtain⟨n2,e2⟩:=qj f2;rw [qb fs n1 e1,qb gs n2 e2,←ET fs,←ET gs,h]
mutual
theorem UM:∀t:Tx,GX t→GX (cX t)
 | .mk k n nm v kids,h=>⟨h.1,h.2.1,by have:=h.2.2.1;rwa [jY],Ir kids h.2.2.2⟩
theorem Ir:∀l:List Tx,GXs l→GXs (lD l)
 | [],_=>trivial
 | t::r,h=>⟨UM t h.1,Ir r h.2⟩
end
mutual
theorem UJ:∀t:Ty,GY t→GY (cY t)
 | .mk k nm ve es vb body vl els,h=>⟨h.1,⟨by have:=h.2.1.1;rwa [jY],Ir es h.2.1.2⟩,⟨by have:=h.2.2.1.1;rwa [jm],Dv body h.2.2.1.2⟩,⟨by have:=h.2.2.2.1;rwa [jm],Dv els h.2.2.2.2⟩⟩
theorem Dv:∀l:List Ty,GYs l→GYs (iV l)
 | [],_=>trivial
 | t::r,h=>⟨UJ t h.1,Dv r h.2⟩
end
theorem UO{fs:List Tf}(h:GP fs):GP (fs.map cF):=by
 refine⟨by rw [List.length_map];exact h.1,fun f hf=> ?_⟩;obtain⟨g,hg,rfl⟩:=List.mem_map.1 hf;obtain⟨a1,a2,a3,a4,a5,a6⟩:=h.2 g hg;refine⟨a1,a2,a3,?_,Dv _ a5,?_⟩
 ·show(iV g.body).length≤1000000;rw [jm];exact a4
 ·show g.ps.length+cv (iV g.body)≤1000000;rw [tx];exact a6
theorem DS{fs gs:List Tf}(hf:GP fs)(hc:jP fs=0)(hn:jx fs≤120)(h:gs.map oh=fs.map oh):GP gs∧jP gs=0∧jx gs≤120∧ig gs=ig fs:=by
 have e:gs.map cF=fs.map cF:=(vE h).trans (vE J).symm;have k1:GP gs:=R9 (by rw [e];exact UO hf);have k2:jP gs=0:=by rw [←wb,e,wb];exact hc
 exact⟨k1,k2,by rw [←yQ,e,yQ];exact hn,A7 hf hc k1 k2 e⟩
theorem Mk:∀{fs:List Tf},(∀f∈fs,Okf f∧GYs f.body∧f.ps.length≤4∧f.body.length≤1000000)→wt (oT fs)≤105*fs.length+75*jx fs
 | [],_=>bn _
 | f::r,h=>by
  obtain⟨h1,h2,h3,-⟩:=h f (List.mem_cons_self ..);have a1:=Sq h1 h2 h3;have a2:=Mk (fs:=r) fun g hg=>h g (List.mem_cons_of_mem _ hg)
  show wt (AB f++oT r)≤105*(r.length+1)+75*(cv f.body+jx r);rw [gq];omega
theorem Cp:∀(fs:List Tf)(i:Nat),jx (fs.take i)≤jx fs
 | [],i=>by rw [List.take_nil];exact bU _
 | f::r,0=>bn _
 | f::r,i+1=>by
  have:=Cp r i;show cv f.body+jx (r.take i)≤cv f.body+jx r;omega
theorem Cq{f:Tf}:∀{fs:List Tf},f∈fs→cv f.body≤jx fs
 | [],h=>by cases h
 | g::r,h=>by
  have e:jx (g::r)=cv g.body+jx r:=J;rcases List.mem_cons.1 h with rfl|h
  ·omega
  ·have:=Cq h;omega
theorem Gd{fs:List Tf}(hg:GP fs)(hc:jP fs=0)(hn:jx fs≤120):rP fs=true∧Okp fs:=by
 obtain⟨_,hF⟩:=kF hg hc;have hr:rP fs=true:=by
  cases h:rP fs with
  | true=>rfl
  | false=>
   unfold jP at hc;rw [aj h]at hc;cases hc
 have hl:=hF.len;have key:∀f∈fs,Okf f∧GYs f.body∧f.ps.length≤4∧f.body.length≤1000000:=fun f hf=>by
  have h1:=(bx.1 (hF.each f hf)).1;obtain⟨-,-,-,b4,b5,-⟩:=hg.2 f hf;have hb:¬(f.ps.length>4∨f.ps.length+dW f.body>12∨cv f.body>400∨cG 1 f.body=true):=fun hb=>by
   rw [aj hb]at h1;exact absurd h1 (by decide)
  simp only [not_or]at hb;obtain⟨c1,c2,c3,c4⟩:=hb;have hm:=Cq hf;exact⟨⟨List.all_eq_true.1 hr f hf,by omega,by simpa using c4,by omega⟩,b5,by omega,b4⟩
 refine⟨hr,key,hl,fun i=> ?_⟩;have a1:=(lJ (oT (fs.take i))).1;have a2:=Mk (fs:=fs.take i) fun f hf=>key f (List.mem_of_mem_take hf)
 have a3:=Cp fs i;have a4:(fs.take i).length≤16:=by rw [List.length_take];omega
 omega
theorem Gb{fs:List Tf}(hg:GP fs)(hc:jP fs=0)(hn:jx fs≤120):(du (oT fs)).size≤16384∧∃ts g,ot (du (oT fs)) g 0 []=some ts∧ts.length≤20000∧pP ts 1000 [] 0=some (fs.map oh):=by
 obtain⟨hr,hk⟩:=Gd hg hc hn;have hl:=hk.l;have a1:=lJ (oT fs);have a2:=Mk hk.f;obtain⟨ts,g,h1,h2,h3⟩:=Az (fun f hf=>⟨(hk.f f hf).1,(hk.f f hf).2.1⟩) (by omega);exact⟨by omega,ts,g,h1,by omega,h3⟩
theorem TA{a c:Int}{s t:Ba}(w:World):(Op.equalIn 10000 31 (.agg #[I6 a,Sg s]) (.agg #[I6 c,Sg t])).run prog w= .ok (decide (a=c)&&(s.toList==t.toList)) w:=by
 obtain⟨f0,f1,hu,n0,o0,q0,n1,o1,q1⟩:∃f0 f1:Field,prog.underlying 31=some (.struct #[f0,f1])∧f0.name≠ "_"∧f0.offset=0∧f0.type=3∧f1.name≠ "_"∧f1.offset=1∧f1.type=9:=⟨_,_,underlying31,by decide,rfl,rfl,by decide,rfl,rfl⟩
 have hf:prog.fieldsOf 31= #[f0,f1]:=by unfold Program.fieldsOf;rw [hu]
 have hs:prog.stoodInHeld 31=false:=by kernel_rfl
 rw [show(10000:Nat)=9999+1 from J,run_equalIn_struct w 9999 31 _ _ (by rw [hf];exact hu) hs,hf];have:=qm (d:=9999) (xs:= #[I6 a,Sg s]) (ys:= #[I6 c,Sg t]) (f:=f0) (fs:= [f1]) (w:=w) n0 (by rw [o0,q0];exact gO t3 J J w) (by rw [o0,q0];exact gO t3 J J w) (by rw [q0];exact run_equalIn_int w 9998 3 .i64 .i64 a c underlying3)
  (qm n1 (by rw [o1,q1];exact gO t9 rfl rfl w) (by rw [o1,q1];exact gO t9 rfl rfl w) (by rw [q1];exact run_equalIn_string w 9998 9 s t underlying9) (C6 _ _ _ w))
 rw [Bool.and_true]at this;exact this
theorem Ou{a c:Int}{s t:Ba}:dQ prog .eql 31 (.agg #[I6 a,Sg s]) (.agg #[I6 c,Sg t]) (.bool (decide (a=c)&&(s.toList==t.toList))):=fun x y w=>by
 have hq:prog.eqGuardType prog.depth 31=false:=by kernel_rfl
 simp only [Sem.run_bind,run_eqGuard_agg w .eql 31 x y _ _ hq,Result.andThen_ok,run_eql_struct];rw [TA];rfl
end Go.Proofs.YtedmdgbmdplifaaGreat
