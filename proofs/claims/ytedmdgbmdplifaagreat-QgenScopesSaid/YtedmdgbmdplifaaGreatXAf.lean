/-
  Part of the proof: the texts S3, AE, AF, KD, AG, AH, AV, AW, KJ, AX, AY, B0, C0, KL, C1, C2, BY, C3, R5, R6, S4, D0, D1, V0, C4, C5, C6, V1, EK, PB, shortened. Conditions are with the theorems.
-/
import Derived.Orders
import Derived.Recover
import Derived.Test.YtedmdgbmdplifaaGreatXAa
import Derived.Test.YtedmdgbmdplifaaGreatXAb
import Derived.Test.YtedmdgbmdplifaaGreatXAc
import Derived.Test.YtedmdgbmdplifaaGreatXAd
import Derived.Test.YtedmdgbmdplifaaGreatXAe
set_option maxHeartbeats 32000000
set_option maxRecDepth 100000
namespace Go.Proofs.YtedmdgbmdplifaaGreat
set_option linter.unusedSimpArgs false
set_option linter.unusedVariables false
open Go.RowKit
def WIn(e:Rn)(g d:Nat)(t:Tx)(l:List Ty)(v:Int)(y:Sb)(r:Re (Vs×Option Int)):Prop:=(∃vs s vo,y.x=xS e s vo∧RkB e y.fr vs s∧y.done=false∧y.val=0∧i6 g e.fs d vs t l v s=some r)∨((y.done=true∨y.x.er≠0)∧lp e r y)
def WMid(e:Rn)(g d:Nat)(t:Tx)(l:List Ty)(y:Sb)(r:Re (Vs×Option Int)):Prop:=(∃vs s vo rx,y.x=xS e s vo∧RkB e y.fr vs s∧y.done=false∧y.val=0∧d_ g e.fs d vs t s=some rx∧∀w,q_ e rx w→WIn e g d t l w.1 {y with x:=w.2} r)∨((y.done=true∨y.x.er≠0)∧lp e r y)
theorem WIn.out{e:Rn}{g d:Nat}{t:Tx}{l:List Ty}{v:Int}{y:Sb}{r:Re (Vs×Option Int)}(h:WIn e g d t l v y r)(hv:v=0):lp e r y:=by
 rcases h with⟨vs,s,vo,h1,h2,h3,h4,h5⟩|h
 ·exact .inl ⟨vs,none,s,vo,Hr h5 hv,h1,h2.f,h2.n,h3,h4⟩
 ·exact h.2
theorem WIn.stop{e:Rn}{g d:Nat}{t:Tx}{l:List Ty}{v:Int}{y:Sb}{r:Re (Vs×Option Int)}(h:WIn e g d t l v y r)(hs:y.done=true∨y.x.er≠0):lp e r y:=by
 rcases h with⟨vs,s,vo,h1,h2,h3,h4,h5⟩|h
 ·rcases hs with hs|hs
  ·rw [h3]at hs;cases hs
  ·rw [h1]at hs;exact absurd J hs
 ·exact h.2
theorem WIn.step{e:Rn}{g d:Nat}{t:Tx}{l:List Ty}{v:Int}{y:Sb}{r:Re (Vs×Option Int)}(hF:VF e.fs)(ht:VX e.fs t)(hl:VYs e.fs l)(h:WIn e g d t l v y r)(hv:¬v=0)(hd:y.done=false)(he:y.x.er=0):
  ∃g2 q vs s vo,g=g2+1∧y.x=xS e s vo∧RkB e y.fr vs s∧y.val=0∧fA g2 e.fs d vs l s=some q∧∀z,lp e q z→WMid e g2 d t l z r:=by
 rcases h with⟨vs,s,vo,h1,h2,h3,h4,h5⟩|⟨h,_⟩
 ·obtain⟨g2,q,hg,hx,hre,hrs,hrn⟩:=KO h5 hv;refine⟨g2,q,vs,s,vo,hg,h1,h2,h4,hx,fun z hz=> ?_⟩;rcases hz with⟨vs1,ro,s1,vo1,z1,z2,z3,z4,z5,z6⟩|⟨z1,z2⟩
  ·rw [z1]at hx;obtain⟨k1,k2,k3⟩:=(em hF g2).b d vs l s _ s1 hl h2.v h2.k.ok hx;have k4:RkB e z.fr vs1 s1:=⟨h2.k.kp k3,k1,z3,z4⟩
   cases ro with
   | none=>
    obtain⟨rx,r1,r2,r3⟩:=hrn vs1 s1 z1;refine .inl ⟨vs1,s1,vo1,rx,z2,k4,z5,z6,r1,fun w hw=> ?_⟩;rcases hw with⟨s2,vo2,w1,w2⟩|⟨w1,w2⟩
    ·rw [w1]at r1;obtain⟨x1,x2⟩:=(em hF g2).x d vs1 t s1 w.1 s2 ht k1 k4.k.ok r1;refine .inl ⟨vs1,s2,vo2,w2,⟨k4.k.kp x2,k1,z3,?_⟩,z5,z6,r3 w.1 s2 w1⟩;have h8:=x2.fl;show(z.fr.length:Int)+_≤_;omega
    ·exact .inr ⟨.inr w1,.inr ⟨w1,r2 _ w2⟩⟩
   | some x=>exact .inr ⟨.inl z5,.inl ⟨vs1,some x,s1,vo1,hrs vs1 x s1 z1,z2,z3,z4,z5,z6⟩⟩
  ·exact .inr ⟨.inr z1,.inr ⟨z1,hre _ z2⟩⟩
 ·rcases h with h|h
  ·rw [hd]at h;cases h
  ·exact absurd he h
theorem WMid.go{e:Rn}{g d:Nat}{t:Tx}{l:List Ty}{y:Sb}{r:Re (Vs×Option Int)}(h:WMid e g d t l y r)(hd:y.done=false)(he:y.x.er=0):∃vs s vo rx,y.x=xS e s vo∧RkB e y.fr vs s∧y.val=0∧d_ g e.fs d vs t s=some rx∧∀w,q_ e rx w→WIn e g d t l w.1 {y with x:=w.2} r:=by
 rcases h with⟨vs,s,vo,rx,h1,h2,h3,h4,h5,h6⟩|⟨h,_⟩
 ·exact⟨vs,s,vo,rx,h1,h2,h4,h5,h6⟩
 ·rcases h with h|h
  ·rw [hd]at h;cases h
  ·exact absurd he h
theorem WMid.stop{e:Rn}{g d:Nat}{t:Tx}{l:List Ty}{y:Sb}{r:Re (Vs×Option Int)}(h:WMid e g d t l y r)(hs:y.done=true∨y.x.er≠0)(v:Int):WIn e g d t l v y r:=by
 rcases h with⟨vs,s,vo,rx,h1,h2,h3,h4,h5,h6⟩|h
 ·rcases hs with hs|hs
  ·rw [h3]at hs;cases hs
  ·rw [h1]at hs;exact absurd J hs
 ·exact .inr h
structure Yw where
 g:Nat
 v:Int
 y:Sb
theorem Mp(e:Rn)(g:Nat)(hF:VF e.fs)(hfu1: -1000000000000000000≤e.fu)(hfu2:e.fu≤1000000000000000000)(ihX:∀k,k≤g→Lt e k)(ihB:∀k,k≤g→OT e k)(t:Ty)(d b:Nat)(vN vV:SV)(fr vs:Vs)(s:Ms)(vo:SV)(r:Re (Vs×Option Int))(ht:VY e.fs t)(hd:d≤12)(hk:RkB e fr vs s)(hr:gB (g+1) e.fs d vs t s=some r)(hfu:s.fuel≤0):
  Spec Tryz.prog 178 [.pointer (some ⟨e.m,0,none⟩),.pointer (some ⟨b,0,none⟩),yV t] (LB e b d ⟨fr,vN,vV,false,0,xS e s vo⟩) ([bK t.ve t.es,bz t.vb t.body,bz t.vl t.els,cm e.vp e.fs,sl 1 eU (sv e.vin) e.ins]) (X:=Sb) (lp e r) (fun _=> .tuple #[]) (fun y=>LB e b d y) (fun _=> []):=by
 refine aF Tryz.func178 J Tryz.ntmps178 J fun w0 M H=> ?_
 unfold gB at hr;rw [if_pos hfu]at hr;refine ae (aa (bN J J fun b5=>ai (ae (aa (aj (ac J) J (au (xs:= [.tmp 9]) (zr e.m e.vp (B0 e.vin (e.ins.length-s.inp.length)) vo s.mem e.fu (e.fu-s.fuel) (by omega)) wA [0] [] [0] J J J J J J J J (fun _ _=>J) (fun _ _ _=>J) J (fun _ _=>aj (ag J) J (ai (ae (ae (aa (aj (ac J) J ?_))))))))))));refine aj (bZ J) J (ai (ar J (fun h1=> ?_) (fun h1=> ?_)))
 ·(try simp only [aV]at h1)
  refine aw ?_;refine aG ⟨fr,vN,vV,false,0,{xS e s vo with er:=25}⟩ (.inr ⟨by show(25:Int)≠0;decide,(Option.some.inj hr).symm⟩) J eW J [0,1,2,3,4] [] J J J
 ·exact absurd h1 (by simp)
theorem Mo(e:Rn)(g:Nat)(hF:VF e.fs)(hfu1: -1000000000000000000≤e.fu)(hfu2:e.fu≤1000000000000000000)(ihX:∀k,k≤g→Lt e k)(ihB:∀k,k≤g→OT e k)(t:Ty)(d b:Nat)(vN vV:SV)(fr vs:Vs)(s:Ms)(vo:SV)(r:Re (Vs×Option Int))(ht:VY e.fs t)(hd:d≤12)(hk:RkB e fr vs s)(hr:gB (g+1) e.fs d vs t s=some r)(hfu:¬s.fuel≤0):
  Spec Tryz.prog 178 [.pointer (some ⟨e.m,0,none⟩),.pointer (some ⟨b,0,none⟩),yV t] (LB e b d ⟨fr,vN,vV,false,0,xS e s vo⟩) ([bK t.ve t.es,bz t.vb t.body,bz t.vl t.els,cm e.vp e.fs,sl 1 eU (sv e.vin) e.ins]) (X:=Sb) (lp e r) (fun _=> .tuple #[]) (fun y=>LB e b d y) (fun _=> []):=by
 refine aF Tryz.func178 J Tryz.ntmps178 J fun w0 M H=> ?_
 unfold gB at hr;rw [if_neg hfu]at hr;obtain⟨s1,hs1⟩:∃s1:Ms,({s with fuel:=s.fuel-1}:Ms)=s1:=⟨_,J⟩
 have hp:=Kp.pay hk.k.ok hfu;have hmR:xC e.vp (B0 e.vin (e.ins.length-s.inp.length)) vo s.mem e.fu (e.fu-s.fuel+1) 0=j8 e (xS e s1 vo):=by
  rw [←hs1];unfold j8 xS;dsimp only
  congr 1
  omega
 have hso:s.out=s1.out:=by rw [←hs1]
 have hsf:(s1.out.length:Int)+max s1.fuel 0+1≤1000000000000:=by
  have:=hk.k.ok.out;rw [←hs1];dsimp only;omega
 have hfub:=hk.k.ok.out;have hfrn:=hk.n;have hs1f:s1.fuel=s.fuel-1:=by rw [←hs1]
 rw [hs1]at hr hp;have h51:=hk.k.kp hp;obtain⟨ve1,ve2,ve3,ve4⟩:=Jf ht;obtain⟨e1,er,hes⟩:∃a b,t.es=a::b:=by
  cases h:t.es with
  | nil=>rw [h]at ve1;simp at ve1
  | cons a b=>exact⟨a,b,rfl⟩
 rw [hes]at hr;dsimp only at hr;obtain⟨rx,hx⟩:∃rx,d_ g e.fs d vs e1 s1=some rx:=by
  cases h:d_ g e.fs d vs e1 s1 with
  | none=>rw [h]at hr;simp at hr
  | some q=>exact⟨q,rfl⟩
 rw [hx]at hr;have hm1:e1∈t.es:=by rw [hes];simp
 have hes0:t.es[0]?=some e1:=by rw [hes];rfl
 have hv1:=ve4.mem e1 hm1;refine aQ 0 20 J eL (aQ 0 21 J (cH hm1) (ae (aa (bN J J fun b5=>ai (ae (aa (aj (ac J) J ?_)))))));refine au (xs:= [.tmp 9]) (zq e.m e.vp (B0 e.vin (e.ins.length-s.inp.length)) vo s.mem e.fu (e.fu-s.fuel) (by omega) ⟨by omega,by omega⟩) wA [0] [] [0] J J J J J J J J (fun _ _=>J) (fun _ _ _=>J) J (fun _ _=> ?_);rw [hmR];refine dv (k:=1) (A':=own 41 1 eU (sv vo) s1.out) J (fun _ _ h=>by rw [←hso];exact h) ?_;refine aj (ag J) J (ai (ae (ae (aa (aj (ac J) J (aj (bZ J) J (ai (ar J (fun h1=> ?_) (fun h1=> ?_)))))))))
 ·exact absurd h1 (by simp)
 ·(try simp only [aV]at h1)
  refine az (ae (aa (aj (ac J) J (aj (ac J) J (aj (ah eO J) J (aj (ak ic J J (ap (k:=5) J J)) J (aj (aN (j:=0) Tryz.underlying59 cg J J (aK (k:=20) J) J (by omega)) J (aj (aJ cg J J J (bv (aK (k:=20) J) (by intro _;rfl) hes0 (by rfl))) J (au (xs:= [.tmp 13,.tmp 14,.tmp 18]) (ihX g (Nat.le_refl g) e1 d b vN vV fr vs (xS e s1 vo) rx hv1 hd hk.v hk.f (by omega) (.inl ⟨s1,vo,J,h51,hx⟩)) AB [0,1] [(true,2),(true,3),(true,4),(false,21),(false,3),(false,4)] [0,1] J J J J J J J J (fun _ _=>J) (fun _ _ _=>J) J (fun y1 hy1=> ?_))))))))));obtain⟨v,x1⟩:=y1;dsimp only at hy1 ⊢;refine aj (ag J) J (ai (ae (ae (aa (aj (ac J) J (aj (aq J) J (aj (ah fh J) J (aj (ak ni J J (ap (k:=0) J j9)) J (aj (am J J cW) J (ai (ar J (fun h2=> ?_) (fun h2=> ?_))))))))))))
  ·have q2e:x1.er≠0:=by simpa using h2
   have hz:rx= .err x1.er:=by
    rcases hy1 with⟨s2,vo2,z1,z2⟩|⟨z1,z2⟩
    ·dsimp only at z2;rw [z2]at q2e;exact absurd J q2e
    ·exact z2
   subst hz;refine aw (aG (⟨fr,vN,vV,false,0,x1⟩) (.inr ⟨q2e,(Option.some.inj hr).symm⟩) J eW J [0,1,2,3,4] [] J J J)
  ·have q2e:x1.er=0:=by simpa using h2
   obtain⟨s2,vo2,hz,hx1⟩:∃s2 vo2,rx= .ok v s2∧x1=xS e s2 vo2:=by
    rcases hy1 with h|⟨z1,z2⟩
    ·exact h
    ·exact absurd q2e z1
   subst hz hx1;dsimp only at hr;obtain⟨hw1,hw2⟩:=(em hF g).x d vs e1 s1 v s2 hv1 hk.v h51.ok hx;have hk2:=h51.kp hw2;have hsum:=hw2.sum;have hfl2:=hw2.fl;have hkb2:RkB e fr vs s2:=⟨hk2,hk.v,hk.f,by omega⟩
   refine az (ae (aa (aj (ah dJ J) J (aj (ak t3 J J (ap (k:=5) J J)) J (ai (aB (ae (ae (aa (aj (am J J aS) J (aj (ag J) J (ai (ar J (fun h3=> ?_) (fun h3=> ?_))))))))))))))
   ·have q1:t.kind=1:=of_decide_eq_true h3;rw [if_pos (.inl q1)]at hr;refine az (ar J (fun h4=> ?_) (fun h4=> ?_))
    ·(try simp only [aV]at h4)
     refine aa (aj (ac J) J (aj (ah gg J) J (aj (ak t9 J J (ap (k:=5) J J)) J (aj (ac J) J (au (xs:= [.tmp 30,.tmp 32,.tmp 33]) (nF b vN vV (d:Int) false 0 fr (by omega) t.name v) EN [2,3,4] [] [2,3,4] J J J J J J J J (fun _ _=>J) (fun _ _ _=>J) J (fun y2 _=>ai ?_))))));refine bO (⟨ky fr t.name v,y2.1,y2.2,false,0,xS e s2 vo2⟩) (.inl ⟨dV vs t.name v,none,s2,vo2,(Option.some.inj hr).symm,J,hk.f.put _ _,by dsimp only;have:=qz fr t.name v;omega,rfl,rfl⟩) J eW J [0,1,2,3,4] [] J J J
    ·exact absurd (decide_eq_true q1) (by rw [h4];simp)
   ·have q1:¬t.kind=1:=of_decide_eq_false h3;refine aa (aj (am J J aS) J (aj (ag J) J (ai (ar J (fun h5=> ?_) (fun h5=> ?_)))))
    ·have q2:t.kind=2:=of_decide_eq_true h5;rw [if_pos (.inr q2)]at hr;refine aa (aj (ac J) J (aj (ah gg J) J (aj (ak t9 J J (ap (k:=5) J J)) J (aj (ac J) J (au (xs:= [.tmp 30,.tmp 32,.tmp 33]) (nF b vN vV (d:Int) false 0 fr (by omega) t.name v) EN [2,3,4] [] [2,3,4] J J J J J J J J (fun _ _=>J) (fun _ _ _=>J) J (fun y2 _=>ai ?_))))));refine bO (⟨ky fr t.name v,y2.1,y2.2,false,0,xS e s2 vo2⟩) (.inl ⟨dV vs t.name v,none,s2,vo2,(Option.some.inj hr).symm,J,hk.f.put _ _,by dsimp only;have:=qz fr t.name v;omega,rfl,rfl⟩) J eW J [0,1,2,3,4] [] J J J
    ·have q2:¬t.kind=2:=of_decide_eq_false h5;rw [if_neg (fun h=>h.elim q1 q2)]at hr;refine ae (aa (aj (am J J aS) J (aj (ag J) J (ai (ar J (fun h6=> ?_) (fun h6=> ?_))))))
     ·have q3:t.kind=3:=of_decide_eq_true h6;rw [if_pos q3]at hr;have ve5:=ve3 q3;obtain⟨e2,er2,her⟩:∃a b,er=a::b:=by
       cases h:er with
       | nil=>rw [hes,h]at ve5;simp at ve5
       | cons a b=>exact⟨a,b,rfl⟩
      rw [her]at hr;dsimp only at hr;obtain⟨ry,hy⟩:∃ry,d_ g e.fs d vs e2 s2=some ry:=by
       cases h:d_ g e.fs d vs e2 s2 with
       | none=>rw [h]at hr;simp at hr
       | some q=>exact⟨q,rfl⟩
      rw [hy]at hr;have hm2:e2∈t.es:=by rw [hes,her];simp
      have hv2:=ve4.mem e2 hm2;have hes2:t.es[1]?=some e2:=by rw [hes,her];rfl
      have hel2:1<t.es.length:=by rw [hes,her];simp
      have hwm:=pG (b:=256) hw1;refine aQ 0 22 J (cH hm2) (ae (aa (aj (ac J) J (aj (ac J) J (aj (ah eO J) J (aj (ak ic J J (ap (k:=5) J J)) J (aj (aN (j:=1) Tryz.underlying59 cg J J (aK (k:=20) J) J hel2) J (aj (aJ cg J J J (bv (aK (k:=20) J) (by intro _;rfl) hes2 (by rfl))) J (au (xs:= [.tmp 37,.tmp 38,.tmp 42]) (ihX g (Nat.le_refl g) e2 d b vN vV fr vs (xS e s2 vo2) ry hv2 hd hk.v hk.f (by omega) (.inl ⟨s2,vo2,J,hk2,hy⟩)) AB [0,1] [(true,2),(true,3),(true,4),(false,22),(false,3),(false,4)] [0,1] J J J J J J J J (fun _ _=>J) (fun _ _ _=>J) J (fun y3 hy3=> ?_))))))))));obtain⟨w5,x3⟩:=y3;dsimp only at hy3 ⊢;refine aj (ag J) J (ai (ae (aa (aj (ac J) J (aj (aq J) J (aj (ah fh J) J (aj (ak ni J J (ap (k:=0) J j9)) J (aj (am J J aS) J (ai (ar J (fun h7=> ?_) (fun h7=> ?_)))))))))))
      ·have q6e:x3.er=0:=by simpa using h7
       obtain⟨s3,vo3,hz,hx3⟩:∃s3 vo3,ry= .ok w5 s3∧x3=xS e s3 vo3:=by
        rcases hy3 with h|⟨z1,z2⟩
        ·exact h
        ·exact absurd q6e z1
       subst hz hx3;dsimp only at hr;have hw3:=((em hF g).x d vs e2 s2 w5 s3 hv2 hk.v hk2.ok hy).2;have hfl3:=hw3.fl;refine aa (aj (ac J) J (aj (ac J) J (aj (am J J (fV (by decide) hwm)) J (aj (ac J) J (aj (aq J) J (aj (ah ub J) J (aj (cG (j:=(v%256).toNat) Tryz.underlying202 cr J J (by have:=hw1.1;omega) (by omega)) J (aI (k:=0) cr J J J J J J (s_ (by omega)) (AT (by omega)) (ai ?_)))))))));refine bO (⟨fr,vN,vV,false,0,xS e {s3 with mem:=rL s3.mem (v%256).toNat w5} vo3⟩) (.inl ⟨vs,none,_,vo3,(Option.some.inj hr).symm,J,hk.f,by dsimp only;omega,rfl,rfl⟩) J eW J [0,1,2,3,4] [] J J J
      ·have q6e:x3.er≠0:=by simpa using h7
       have hz:ry= .err x3.er:=by
        rcases hy3 with⟨s3,vo3,z1,z2⟩|⟨z1,z2⟩
        ·dsimp only at z2;rw [z2]at q6e;exact absurd J q6e
        ·exact z2
       subst hz;refine az (bO (⟨fr,vN,vV,false,0,x3⟩) (.inr ⟨q6e,(Option.some.inj hr).symm⟩) J eW J [0,1,2,3,4] [] J J J)
     ·have q3:¬t.kind=3:=of_decide_eq_false h6;rw [if_neg q3]at hr;refine ae (aa (aj (am J J aS) J (aj (ag J) J (ai (ar J (fun h8=> ?_) (fun h8=> ?_))))))
      ·have q4:t.kind=4:=of_decide_eq_true h8;rw [if_pos q4]at hr;refine ae (aa (aj (ac J) J (aj (am J J cW) J (ai (ar J (fun h9=> ?_) (fun h9=> ?_))))))
       ·have qv:¬v=0:=by simpa using h9
        rw [if_neg qv]at hr;refine aa (aj (ac J) J (aj (ac J) J (aj (ah e9 J) J (aj (ak gZ J J (ap (k:=5) J J)) J (au (xs:= [.tmp 60,.tmp 61,.tmp 63]) (ihB g (Nat.le_refl g) t.body t.vb d b vN vV fr vs s2 vo2 r (jP ht).2 (jP ht).1 hd hkb2 hr) AD [0,1,2,3,4] [(false,1),(false,3),(false,4)] [0,1,2,3,4] J J J J J J J J (fun _ _=>J) (fun _ _ _=>J) J (fun y4 hy4=>ai (bO (y4) hy4 J eW J [0,1,2,3,4] [] J J J)))))))
       ·have qv:v=0:=by simpa using h9
        rw [if_pos qv]at hr;refine aa (aj (ac J) J (aj (ac J) J (aj (ah eg J) J (aj (ak gZ J J (ap (k:=5) J J)) J (au (xs:= [.tmp 65,.tmp 66,.tmp 68]) (ihB g (Nat.le_refl g) t.els t.vl d b vN vV fr vs s2 vo2 r (yQ ht).2 (yQ ht).1 hd hkb2 hr) AD [0,1,2,3,4] [(false,2),(false,3),(false,4)] [0,1,2,3,4] J J J J J J J J (fun _ _=>J) (fun _ _ _=>J) J (fun y4 hy4=>ai (bO (y4) hy4 J eW J [0,1,2,3,4] [] J J J)))))))
      ·have q4:¬t.kind=4:=of_decide_eq_false h8;rw [if_neg q4]at hr;refine ae (aa (aj (am J J aS) J (aj (ag J) J (ai (ar J (fun h10=> ?_) (fun h10=> ?_))))))
       ·have q5:t.kind=5:=of_decide_eq_true h10;rw [if_pos q5]at hr;refine aB (bk (X:=Yw) (fun z=>z.g≤g∧WIn e z.g d e1 t.body z.v z.y r) (fun z=> [(0,.pointer (some ⟨e.m,0,none⟩)),(1,.pointer (some ⟨b,0,none⟩)),(5,.pointer (some ⟨b5,0,none⟩)),(7,.int .u32 z.v)]) (fun z=> [(0,aY e.m 204 (j8 e z.y.x)),(1,own 41 1 eU (sv z.y.x.vo) z.y.x.out),(2,aY b 232 (fC z.y.vN z.y.vV (d:Int) z.y.done z.y.val)),(3,own 9 1 eS (sv z.y.vN) (rK z.y.fr)),(4,own 41 1 eU (sv z.y.vV) (td z.y.fr)),(5,aY b5 64 (ec t))]) (fun z=> [(0,bK t.ve t.es),(1,bz t.vb t.body),(2,bz t.vl t.els),(3,cm e.vp e.fs),(4,sl 1 eU (sv e.vin) e.ins),(20,sl 4 df (sv t.ve) t.es),(21,bK e1.v e1.kids)]) (fun z=>z.g) ⟨g,v,⟨fr,vN,vV,false,0,xS e s2 vo2⟩⟩ ⟨Nat.le_refl _,.inl ⟨vs,s2,vo2,J,hkb2,J,J,hr⟩⟩ J J J (fun z hz0=> ?_));obtain⟨gx,vx,y⟩:=z;obtain⟨n1,n2⟩:=hz0;dsimp only at n1 n2 ⊢;refine ae (ae (aa (aj (ac J) J (aj (am J J cW) J (aj (ac J) J (aA [] J J trivial (fun hg11=>ac J) J (aA [(75,_)] J J ⟨J,trivial⟩ (fun hg12=>aq J) J (aA [(75,_),(76,_)] J J ⟨J,J,trivial⟩ (fun hg13=>ah fh J) J (aA [(75,_),(76,_),(77,_)] J J ⟨J,J,J,trivial⟩ (fun hg14=>ak ni J J (ap (k:=0) J j9)) J (aA [(75,_),(76,_),(77,_),(78,_)] J J ⟨J,J,J,J,trivial⟩ (fun hg15=>am J J aS) J (aj (aM J J J (by first|exact ax|exact aC|rfl)) J (aj (ac J) J (aA [] J J trivial (fun hg16=>ac J) J ?_)))))))))))));refine aA [(82,_)] J J ⟨J,trivial⟩ (fun hg17=>aq J) J (aA [(82,_),(83,_)] J J ⟨J,J,trivial⟩ (fun hg18=>ah oY J) J (aA [(82,_),(83,_),(84,_)] J J ⟨J,J,J,trivial⟩ (fun hg19=>ak t4 J J (ap (k:=2) J J)) J (aA [(82,_),(83,_),(84,_),(85,_)] J J ⟨J,J,J,J,trivial⟩ (fun hg20=>bZ J) J (aj (aM J J J (by first|exact ax|exact aC|rfl)) J (ai (ar J (fun h21=> ?_) (fun h21=> ?_)))))))
        ·(try simp only [aV]at h21)
         obtain⟨fr1,vN1,vV1,dn,val,xx⟩:=y;obtain⟨⟨qv,he0⟩,hd0⟩:=h21;obtain⟨g2,q,vs1,sx,vox,rfl,hx1,hk1,hval,hwb,hstep⟩:=n2.step hF hv1 (jP ht).2 qv hd0 he0;dsimp only at hx1 hk1 hval hd0;subst hx1 hval hd0;refine az (aB (ae (aa (aj (ac J) J (aj (ac J) J (aj (ah e9 J) J (aj (ak gZ J J (ap (k:=5) J J)) J (au (xs:= [.tmp 88,.tmp 89,.tmp 91]) (ihB g2 (by omega) t.body t.vb d b vN1 vV1 fr1 vs1 sx vox q (jP ht).2 (jP ht).1 hd hk1 hwb) AD [0,1,2,3,4] [(false,1),(false,3),(false,4)] [0,1,2,3,4] J J J J J J J J (fun _ _=>J) (fun _ _ _=>J) J (fun y hy=> ?_)))))))));have hmid:=hstep y hy;refine ai (ae (aa (aj (ac J) J (aj (aq J) J (aj (ah fh J) J (aj (ak ni J J (ap (k:=0) J j9)) J (aj (am J J aS) J (aj (ac J) J (aA [] J J trivial (fun hg22=>ac J) J (aA [(99,_)] J J ⟨J,trivial⟩ (fun hg23=>aq J) J (aA [(99,_),(100,_)] J J ⟨J,J,trivial⟩ (fun hg24=>ah oY J) J (aA [(99,_),(100,_),(101,_)] J J ⟨J,J,J,trivial⟩ (fun hg25=>ak t4 J J (ap (k:=2) J J)) J (aA [(99,_),(100,_),(101,_),(102,_)] J J ⟨J,J,J,J,trivial⟩ (fun hg26=>bZ J) J ?_)))))))))))));refine aj (aM J J J (by first|exact ax|exact aC|rfl)) J (ai (ar J (fun h27=> ?_) (fun h27=> ?_)))
         ·(try simp only [aV]at h27)
          obtain⟨fr2,vN2,vV2,dn2,val2,xx2⟩:=y;obtain⟨he1,DO⟩:=h27;obtain⟨vs2,sy,voy,rz,hx2,hk3,hval2,hrz,hwn⟩:=hmid.go DO he1;dsimp only at hx2 hk3 hval2 DO;subst hx2 hval2 DO;refine aa (aj (ac J) J (aj (ac J) J (aj (ah eO J) J (aj (ak ic J J (ap (k:=5) J J)) J (aj (aN (j:=0) Tryz.underlying59 cg J J (aK (k:=20) J) J (by omega)) J (aj (aJ cg J J J (bv (aK (k:=20) J) (by intro _;rfl) hes0 (by rfl))) J (au (xs:= [.tmp 105,.tmp 106,.tmp 110]) (ihX g2 (by omega) e1 d b vN2 vV2 fr2 vs2 (xS e sy voy) rz hv1 hd hk3.v hk3.f (by have:=hk3.n;omega) (.inl ⟨sy,voy,J,hk3.k,hrz⟩)) AB [0,1] [(true,2),(true,3),(true,4),(false,21),(false,3),(false,4)] [0,1] J J J J J J J J (fun _ _=>J) (fun _ _ _=>J) J (fun w hw=> ?_))))))));have hnext:=hwn w hw;refine aj (ag J) J (ai ?_);refine aL ⟨g2,w.1,⟨fr2,vN2,vV2,false,0,w.2⟩⟩ ⟨⟨by dsimp only;omega,hnext⟩,by dsimp only;omega⟩ J J J
         ·(try simp only [aV]at h27)
          have hstop:y.done=true∨y.x.er≠0:=by
           rcases h27 with h|h
           ·exact .inr h
           ·exact .inl h
          refine az ?_;refine aL ⟨g2,vx,y⟩ ⟨⟨by dsimp only;omega,hmid.stop hstop vx⟩,by dsimp only;omega⟩ J J J
        ·(try simp only [aV]at h21)
         have hfin:lp e r y:=by
          rcases h21 with(h|h)|h
          ·exact n2.out (by simpa using h)
          ·exact n2.stop (.inr h)
          ·exact n2.stop (.inl h)
         refine bn (bO (y) hfin J eW J [0,1,2,3,4] [] J J J)
       ·have q5:¬t.kind=5:=of_decide_eq_false h10;rw [if_neg q5]at hr;refine ae (aa (aj (am J J aS) J (aj (ag J) J (ai (ar J (fun h28=> ?_) (fun h28=> ?_))))))
        ·have q6:t.kind=6:=of_decide_eq_true h28;rw [if_pos q6]at hr;refine ae (aa (aj (ac J) J (aj (aq J) J (aj (ah oY J) J (aI (k:=2) t4 J J J J J J J J (ai (aa (aj (ac J) J (aj (ac J) J (aj (aq J) J (aj (ah Ad J) J (aI (k:=2) cr J J J J J J J J (ai ?_)))))))))))));refine bO (⟨fr,vN,vV,true,v,xS e s2 vo2⟩) (.inl ⟨vs,some v,s2,vo2,(Option.some.inj hr).symm,J,hk.f,by dsimp only;omega,rfl,rfl⟩) J eW J [0,1,2,3,4] [] J J J
        ·have q6:¬t.kind=6:=of_decide_eq_false h28;rw [if_neg q6]at hr;refine ae (aa (aj (am J J aS) J (aj (ag J) J (ai (ar J (fun h29=> ?_) (fun h29=> ?_))))))
         ·have q7:t.kind=7:=of_decide_eq_true h29;rw [if_pos q7]at hr;refine aa (aj (ac J) J (aj (ac J) J (aj (aq J) J (aj (ah uc J) J (aj (ak oz J J (ap (k:=0) J J)) J (aj (ac J) J (bq eU _ Tryz.underlying48 cr J (by decide) (by decide) J J J J fun v129=>eF 1 Tryz.underlying48 cr J (by decide) (fun _=>J) (fun _=>J) J J J (bj (k:=129) J) (by have hn:(xS e s2 vo2).out.length=s2.out.length:=J;rw [List.length_singleton,hn];omega) (by have hn:(xS e s2 vo2).out.length=s2.out.length:=J;unfold maxLen;rw [List.length_singleton,hn];omega) J fun v130=>aj (aq J) J (aj (ah uc J) J (aI (k:=0) oz J J J J J J J AS (ai ?_))))))))));refine bO (⟨fr,vN,vV,false,0,xS e {s2 with out:=s2.out++ [v]} v130⟩) (.inl ⟨vs,none,_,v130,(Option.some.inj hr).symm,J,hk.f,by dsimp only;omega,rfl,rfl⟩) J eW J [0,1,2,3,4] [] J J J
         ·have q7:¬t.kind=7:=of_decide_eq_false h29;rw [if_neg q7]at hr;refine az ?_;refine bO (⟨fr,vN,vV,false,0,xS e s2 vo2⟩) (.inl ⟨vs,none,s2,vo2,(Option.some.inj hr).symm,J,hk.f,by dsimp only;omega,rfl,rfl⟩) J eW J [0,1,2,3,4] [] J J J
theorem DP{e:Rn}(hF:VF e.fs)(hfu1: -1000000000000000000≤e.fu)(hfu2:e.fu≤1000000000000000000)(hfl:e.fs.length≤1000000):∀g,∀k,k≤g→Lt e k∧O9 e k∧OT e k∧RO e k
 | 0,k,hk=>by
  obtain rfl:k=0:=by omega
  exact⟨Fm,fun nm f d va al s vo r _ _ _ _ _ hr=>by simp [jS]at hr,fun l v d b vN vV fr vs s vo r _ _ _ _ hr=>by simp [fA]at hr,fun t d b vN vV fr vs s vo r _ _ _ hr=>by simp [gB]at hr⟩
 | g+1,k,hk=>by
  have ih:=DP hF hfu1 hfu2 hfl g;by_cases h:k≤g
  ·exact ih k h
  ·obtain rfl:k=g+1:=by omega
   refine⟨Fp hF hfu1 hfu2 hfl (fun j hj=>(ih j hj).1) (fun j hj=>(ih j hj).2.1),fun nm f d va al s vo r h1 h2 h3 h4 h5 hr=> ?_,fun l v d b vN vV fr vs s vo r h1 h2 h3 h4 hr=>HN e g hF (fun j hj=>(ih j hj).2.2.2) l v d b vN vV fr vs s vo r h1 h2 h3 h4 hr,fun t d b vN vV fr vs s vo r h1 h2 h3 hr=> ?_⟩
   ·by_cases h12:d=12
    ·exact HL e g hF hfl (ih g (Nat.le_refl g)).2.2.1 nm f d va al s vo r h1 h2 h3 h4 h5 hr h12
    ·exact OD e g hF hfl (ih g (Nat.le_refl g)).2.2.1 nm f d va al s vo r h1 h2 h3 h4 h5 hr h12
   ·by_cases hfu:s.fuel≤0
    ·exact Mp e g hF hfu1 hfu2 (fun j hj=>(ih j hj).1) (fun j hj=>(ih j hj).2.2.1) t d b vN vV fr vs s vo r h1 h2 h3 hr hfu
    ·exact Mo e g hF hfu1 hfu2 (fun j hj=>(ih j hj).1) (fun j hj=>(ih j hj).2.2.1) t d b vN vV fr vs s vo r h1 h2 h3 hr hfu
theorem GT{e:Rn}(hF:VF e.fs)(hfu1: -1000000000000000000≤e.fu)(hfu2:e.fu≤1000000000000000000)(hfl:e.fs.length≤1000000)(g:Nat):O9 e g:=(DP hF hfu1 hfu2 hfl g g (Nat.le_refl g)).2.1
structure Mono(fs:List Tf)(g:Nat):Prop where
 x:∀d vs t s r,d_ g fs d vs t s=some r→d_ (g+1) fs d vs t s=some r
 k:∀d vs acc l s r,fR g fs d vs acc l s=some r→fR (g+1) fs d vs acc l s=some r
 c:∀d f al s r,jS g fs d f al s=some r→jS (g+1) fs d f al s=some r
 b:∀d vs l s r,fA g fs d vs l s=some r→fA (g+1) fs d vs l s=some r
 s:∀d vs t s r,gB g fs d vs t s=some r→gB (g+1) fs d vs t s=some r
 w:∀d vs e l v s r,i6 g fs d vs e l v s=some r→i6 (g+1) fs d vs e l v s=some r
theorem mono(fs:List Tf):∀g,Mono fs g
 | 0=>⟨fun _ _ _ _ _ h=>by simp [d_]at h,fun _ _ _ _ _ _ h=>by simp [fR]at h,fun _ _ _ _ _ h=>by simp [jS]at h,fun _ _ _ _ _ h=>by simp [fA]at h,fun _ _ _ _ _ h=>by simp [gB]at h,fun _ _ _ _ _ _ _ h=>by simp [i6]at h⟩
 | g+1=>by
  have ih:=mono fs g;refine⟨fun d vs t s r h=> ?_,fun d vs acc l s r h=> ?_,fun d f al s r h=> ?_,fun d vs l s r h=> ?_,fun d vs t s r h=> ?_,fun d vs e l v s r h=> ?_⟩
  ·rw [d_]at h ⊢;by_cases hf:s.fuel≤0
   ·rw [if_pos hf]at h ⊢;exact h
   ·rw [if_neg hf]at h ⊢;cases hk:fR g fs d vs [] t.kids {s with fuel:=s.fuel-1}with
    | none=>rw [hk]at h;simp at h
    | some q=>
     rw [hk]at h;rw [ih.k _ _ _ _ _ _ hk];cases q with
     | err z=>exact h
     | ok ks s1=>
      dsimp only at h ⊢;by_cases q1:t.kind=1
      ·rw [if_pos q1]at h ⊢;exact h
      rw [if_neg q1]at h ⊢;by_cases q2:t.kind=2
      ·rw [if_pos q2]at h ⊢;exact h
      rw [if_neg q2]at h ⊢;by_cases q4:t.kind=4
      ·rw [if_pos q4]at h ⊢;exact h
      rw [if_neg q4]at h ⊢;by_cases q5:t.kind=5
      ·rw [if_pos q5]at h ⊢;exact h
      rw [if_neg q5]at h ⊢;by_cases q6:t.kind=6
      ·rw [if_pos q6]at h ⊢;exact h
      rw [if_neg q6]at h ⊢;by_cases q7:t.kind=7
      ·rw [if_pos q7]at h ⊢;exact h
      rw [if_neg q7]at h ⊢;cases hf:ce fs t.name with
      | none=>rw [hf]at h;simp at h
      | some f=>rw [hf]at h;exact ih.c _ _ _ _ _ h
  ·cases l with
   | nil=>rw [fR]at h ⊢;exact h
   | cons t l=>
    rw [fR]at h ⊢;cases hx:d_ g fs d vs t s with
    | none=>rw [hx]at h;simp at h
    | some q=>
     rw [hx]at h;rw [ih.x _ _ _ _ _ hx];cases q with
     | err z=>exact h
     | ok v s1=>exact ih.k _ _ _ _ _ _ h
  ·rw [jS]at h ⊢;by_cases hd:d=12
   ·rw [if_pos hd]at h ⊢;exact h
   ·rw [if_neg hd]at h ⊢;cases hb:fA g fs (d+1) (dD [] f.ps al) f.body s with
    | none=>rw [hb]at h;simp at h
    | some q=>rw [hb]at h;rw [ih.b _ _ _ _ _ hb];exact h
  ·cases l with
   | nil=>rw [fA]at h ⊢;exact h
   | cons t l=>
    rw [fA]at h ⊢;cases hx:gB g fs d vs t s with
    | none=>rw [hx]at h;simp at h
    | some q=>
     rw [hx]at h;rw [ih.s _ _ _ _ _ hx];cases q with
     | err z=>exact h
     | ok p s1=>
      obtain⟨vs1,ro⟩:=p;cases ro with
      | some y=>exact h
      | none=>exact ih.b _ _ _ _ _ h
  ·rw [gB]at h ⊢;by_cases hf:s.fuel≤0
   ·rw [if_pos hf]at h ⊢;exact h
   ·rw [if_neg hf]at h ⊢;cases he:t.es with
    | nil=>rw [he]at h;simp at h
    | cons e es=>
     rw [he]at h;dsimp only at h ⊢;cases hx:d_ g fs d vs e {s with fuel:=s.fuel-1}with
     | none=>rw [hx]at h;simp at h
     | some q=>
      rw [hx]at h;rw [ih.x _ _ _ _ _ hx];cases q with
      | err z=>exact h
      | ok v s1=>
       dsimp only at h ⊢;by_cases q1:t.kind=1∨t.kind=2
       ·rw [if_pos q1]at h ⊢;exact h
       rw [if_neg q1]at h ⊢;by_cases q3:t.kind=3
       ·rw [if_pos q3]at h ⊢;cases es with
        | nil=>simp at h
        | cons e2 es=>
         dsimp only at h ⊢;cases hy:d_ g fs d vs e2 s1 with
         | none=>rw [hy]at h;simp at h
         | some q=>rw [hy]at h;rw [ih.x _ _ _ _ _ hy];exact h
       rw [if_neg q3]at h ⊢;by_cases q4:t.kind=4
       ·rw [if_pos q4]at h ⊢;exact ih.b _ _ _ _ _ h
       rw [if_neg q4]at h ⊢;by_cases q5:t.kind=5
       ·rw [if_pos q5]at h ⊢;exact ih.w _ _ _ _ _ _ _ h
       rw [if_neg q5]at h ⊢;exact h
  ·rw [i6]at h ⊢;by_cases hv:v=0
   ·rw [if_pos hv]at h ⊢;exact h
   ·rw [if_neg hv]at h ⊢;cases hb:fA g fs d vs l s with
    | none=>rw [hb]at h;simp at h
    | some q=>
     rw [hb]at h;rw [ih.b _ _ _ _ _ hb];cases q with
     | err z=>exact h
     | ok p s1=>
      obtain⟨vs1,ro⟩:=p;cases ro with
      | some y=>exact h
      | none=>
       dsimp only at h ⊢;cases hx:d_ g fs d vs1 e s1 with
       | none=>rw [hx]at h;simp at h
       | some q=>
        rw [hx]at h;rw [ih.x _ _ _ _ _ hx];cases q with
        | err z=>exact h
        | ok w s2=>exact ih.w _ _ _ _ _ _ _ h
theorem jw{fs:List Tf}{g g':Nat}(h:g≤g'){d vs t s r}(hr:d_ g fs d vs t s=some r):d_ g' fs d vs t s=some r:=by
 induction h with
 | refl=>exact hr
 | step _ ih=>exact(mono fs _).x _ _ _ _ _ ih
theorem Du{fs:List Tf}{g g':Nat}(h:g≤g'){d vs acc l s r}(hr:fR g fs d vs acc l s=some r):fR g' fs d vs acc l s=some r:=by
 induction h with
 | refl=>exact hr
 | step _ ih=>exact(mono fs _).k _ _ _ _ _ _ ih
theorem Kj{fs:List Tf}{g g':Nat}(h:g≤g'){d f al s r}(hr:jS g fs d f al s=some r):jS g' fs d f al s=some r:=by
 induction h with
 | refl=>exact hr
 | step _ ih=>exact(mono fs _).c _ _ _ _ _ ih
theorem tQ{fs:List Tf}{g g':Nat}(h:g≤g'){d vs l s r}(hr:fA g fs d vs l s=some r):fA g' fs d vs l s=some r:=by
 induction h with
 | refl=>exact hr
 | step _ ih=>exact(mono fs _).b _ _ _ _ _ ih
theorem Ki{fs:List Tf}{g g':Nat}(h:g≤g'){d vs t s r}(hr:gB g fs d vs t s=some r):gB g' fs d vs t s=some r:=by
 induction h with
 | refl=>exact hr
 | step _ ih=>exact(mono fs _).s _ _ _ _ _ ih
theorem Ds{fs:List Tf}{g g':Nat}(h:g≤g'){d vs e l v s r}(hr:i6 g fs d vs e l v s=some r):i6 g' fs d vs e l v s=some r:=by
 induction h with
 | refl=>exact hr
 | step _ ih=>exact(mono fs _).w _ _ _ _ _ _ _ ih
theorem Ej{fs:List Tf}(hF:VF fs){g d vs t s v s'}(ht:VX fs t)(hv:okVs vs)(hs:okMs s)(h:d_ g fs d vs t s=some (.ok v s')):s'.fuel+1≤s.fuel:=by
 cases g with
 | zero=>simp [d_]at h
 | succ g=>
  rw [d_]at h;by_cases hf:s.fuel≤0
  ·rw [if_pos hf]at h;simp at h
  ·rw [if_neg hf]at h;have hp:=Kp.pay hs hf;cases hk:fR g fs d vs [] t.kids {s with fuel:=s.fuel-1}with
   | none=>rw [hk]at h;simp at h
   | some q=>
    rw [hk]at h;cases q with
    | err z=>simp at h
    | ok ks s1=>
     obtain⟨k1,_,k3⟩:=(em hF g).k d vs [] t.kids _ ks s1 (by cases t;exact ht.2.2.2.2.2.2) hv hp.ok (by simp) hk;have h3:=k3.fl;dsimp only at h3 h;have fin:∀{a:Int}{s2:Ms},some (Re.ok a s2)=some (Re.ok v s')→s2.fuel=s1.fuel→s'.fuel+1≤s.fuel:=fun h hs2=>by
      simp only [Option.some.injEq,Re.ok.injEq]at h;obtain⟨-,rfl⟩:=h;omega
     split at h
     ·exact fin h J
     ·split at h
      ·exact fin h J
      ·split at h
       ·exact fin h J
       ·split at h
        ·split at h
         ·exact fin h J
         ·exact fin h J
        ·split at h
         ·exact fin h J
         ·split at h
          ·exact fin h J
          ·split at h
           ·simp at h
           ·rename_i f hff;have:=((em hF g).c d f ks s1 v s' (fP hff) k1 k3.ok h).2.fl;omega
structure Tot(fs:List Tf)(n:Nat):Prop where
 x:∀d vs t s,VX fs t→okVs vs→okMs s→s.fuel≤(n:Int)→∃g r,d_ g fs d vs t s=some r
 k:∀d vs l acc s,VXs fs l→okVs vs→okMs s→s.fuel≤(n:Int)→∃g r,fR g fs d vs acc l s=some r
 b:∀d vs l s,VYs fs l→okVs vs→okMs s→s.fuel≤(n:Int)→∃g r,fA g fs d vs l s=some r
 c:∀d f al s,f∈fs→(∀a∈al,oW a)→okMs s→s.fuel≤(n:Int)→∃g r,jS g fs d f al s=some r
 w:∀d vs e l v s,VX fs e→VYs fs l→okVs vs→okMs s→s.fuel≤(n:Int)→∃g r,i6 g fs d vs e l v s=some r
theorem Ie{fs:List Tf}(hF:VF fs){n:Nat}(hx:∀d vs t s,VX fs t→okVs vs→okMs s→s.fuel≤(n:Int)→∃g r,d_ g fs d vs t s=some r):
  ∀d vs l acc s,VXs fs l→okVs vs→okMs s→s.fuel≤(n:Int)→∃g r,fR g fs d vs acc l s=some r
 | d,vs,[],acc,s,_,_,_,_=>⟨1,.ok acc s,by rw [fR]⟩
 | d,vs,t::l,acc,s,hl,hv,hs,hn=>by
  obtain⟨g1,r1,h1⟩:=hx d vs t s hl.1 hv hs hn;cases r1 with
  | err z=>exact⟨g1+1,.err z,by rw [fR,h1]⟩
  | ok v s1=>
   have hk:=((em hF g1).x d vs t s v s1 hl.1 hv hs h1).2;obtain⟨g2,r2,h2⟩:=Ie hF hx d vs l (acc++ [v]) s1 hl.2 hv hk.ok (Int.le_trans hk.fl hn);refine⟨g1+g2+1,r2,?_⟩;rw [fR,jw (by omega:g1≤g1+g2) h1];exact Du (by omega:g2≤g1+g2) h2
theorem If{fs:List Tf}(hF:VF fs){n:Nat}(hx:∀d vs t s,VY fs t→okVs vs→okMs s→s.fuel≤(n:Int)→∃g r,gB g fs d vs t s=some r):
  ∀d vs l s,VYs fs l→okVs vs→okMs s→s.fuel≤(n:Int)→∃g r,fA g fs d vs l s=some r
 | d,vs,[],s,_,_,_,_=>⟨1,.ok (vs,none) s,by rw [fA]⟩
 | d,vs,t::l,s,hl,hv,hs,hn=>by
  obtain⟨g1,r1,h1⟩:=hx d vs t s hl.1 hv hs hn;cases r1 with
  | err z=>exact⟨g1+1,.err z,by rw [fA,h1]⟩
  | ok p s1=>
   obtain⟨vs1,ro⟩:=p;obtain⟨k1,_,hk⟩:=(em hF g1).s d vs t s _ s1 hl.1 hv hs h1;cases ro with
   | some y=>exact⟨g1+1,.ok (vs1,some y) s1,by rw [fA,h1]⟩
   | none=>
    obtain⟨g2,r2,h2⟩:=If hF hx d vs1 l s1 hl.2 k1 hk.ok (Int.le_trans hk.fl hn);refine⟨g1+g2+1,r2,?_⟩;rw [fA,Ki (by omega:g1≤g1+g2) h1];exact tQ (by omega:g2≤g1+g2) h2
theorem Id{fs:List Tf}(hF:VF fs){n:Nat}(hT:∀k,n=k+1→Tot fs k)(d:Nat)(vs:Vs)(t:Tx)(s:Ms)(ht:VX fs t)(hv:okVs vs)(hs:okMs s)(hn:s.fuel≤(n:Int)):∃g r,d_ g fs d vs t s=some r:=by
 by_cases hf:s.fuel≤0
 ·exact⟨1,.err 25,by rw [d_,if_pos hf]⟩
 ·obtain⟨k,rfl⟩:∃k,n=k+1:=⟨n-1,by omega⟩
  have T:=hT k J;have hp:=Kp.pay hs hf;obtain⟨g1,r1,h1⟩:=T.k d vs t.kids [] _ (uy ht) hv hp.ok (by dsimp only;omega);cases r1 with
  | err z=>exact⟨g1+1,.err z,by rw [d_,if_neg hf,h1]⟩
  | ok ks s1=>
   obtain⟨k1,_,k3⟩:=(em hF g1).k d vs [] t.kids _ ks s1 (uy ht) hv hp.ok (by simp) h1;have k4:=k3.fl;dsimp only at k4;by_cases q1:t.kind=1
   ·exact⟨g1+1,_,by rw [d_,if_neg hf,h1];dsimp only;rw [if_pos q1]⟩
   by_cases q2:t.kind=2
   ·exact⟨g1+1,_,by rw [d_,if_neg hf,h1];dsimp only;rw [if_neg q1,if_pos q2]⟩
   by_cases q4:t.kind=4
   ·exact⟨g1+1,_,by rw [d_,if_neg hf,h1];dsimp only;rw [if_neg q1,if_neg q2,if_pos q4]⟩
   by_cases q5:t.kind=5
   ·cases hi:s1.inp with
    | nil=>exact⟨g1+1,_,by rw [d_,if_neg hf,h1];dsimp only;rw [if_neg q1,if_neg q2,if_neg q4,if_pos q5,hi]⟩
    | cons a r=>exact⟨g1+1,_,by rw [d_,if_neg hf,h1];dsimp only;rw [if_neg q1,if_neg q2,if_neg q4,if_pos q5,hi]⟩
   by_cases q6:t.kind=6
   ·exact⟨g1+1,_,by rw [d_,if_neg hf,h1];dsimp only;rw [if_neg q1,if_neg q2,if_neg q4,if_neg q5,if_pos q6]⟩
   by_cases q7:t.kind=7
   ·exact⟨g1+1,_,by rw [d_,if_neg hf,h1];dsimp only;rw [if_neg q1,if_neg q2,if_neg q4,if_neg q5,if_neg q6,if_pos q7]⟩
   obtain⟨f,hff,_⟩:=AP ht q1 q2 q4 q5 q6 q7;obtain⟨g2,r2,h2⟩:=T.c d f ks s1 (fP hff) k1 k3.ok (by omega);refine⟨g1+g2+1,r2,?_⟩;rw [d_,if_neg hf,Du (by omega:g1≤g1+g2) h1];dsimp only;rw [if_neg q1,if_neg q2,if_neg q4,if_neg q5,if_neg q6,if_neg q7,hff];exact Kj (by omega:g2≤g1+g2) h2
theorem Mc{fs:List Tf}(hF:VF fs){n:Nat}(hT:∀k,n=k+1→Tot fs k)(d:Nat)(vs:Vs)(t:Ty)(s:Ms)(ht:VY fs t)(hv:okVs vs)(hs:okMs s)(hn:s.fuel≤(n:Int)):∃g r,gB g fs d vs t s=some r:=by
 by_cases hf:s.fuel≤0
 ·exact⟨1,.err 25,by rw [gB,if_pos hf]⟩
 ·obtain⟨k,rfl⟩:∃k,n=k+1:=⟨n-1,by omega⟩
  have T:=hT k J;have hp:=Kp.pay hs hf;obtain⟨v1,v2,v3,v4⟩:=Jf ht;cases hes:t.es with
  | nil=>rw [hes]at v1;simp at v1
  | cons e es=>
   rw [hes]at v4 v3;obtain⟨g1,r1,h1⟩:=T.x d vs e _ v4.1 hv hp.ok (by dsimp only;omega);cases r1 with
   | err z=>exact⟨g1+1,.err z,by rw [gB,if_neg hf,hes];dsimp only;rw [h1]⟩
   | ok v s1=>
    obtain⟨k1,k3⟩:=(em hF g1).x d vs e _ v s1 v4.1 hv hp.ok h1;have k4:=k3.fl;dsimp only at k4;by_cases q1:t.kind=1∨t.kind=2
    ·exact⟨g1+1,_,by rw [gB,if_neg hf,hes];dsimp only;rw [h1];dsimp only;rw [if_pos q1]⟩
    by_cases q3:t.kind=3
    ·cases es with
     | nil=>have:=v3 q3;simp at this
     | cons e2 es=>
      obtain⟨g2,r2,h2⟩:=T.x d vs e2 s1 v4.2.1 hv k3.ok (by omega);cases r2 with
      | err z=>exact⟨g1+g2+1,.err z,by rw [gB,if_neg hf,hes];dsimp only;rw [jw (by omega:g1≤g1+g2) h1];dsimp only;rw [if_neg q1,if_pos q3,jw (by omega:g2≤g1+g2) h2]⟩
      | ok w s2=>exact⟨g1+g2+1,_,by rw [gB,if_neg hf,hes];dsimp only;rw [jw (by omega:g1≤g1+g2) h1];dsimp only;rw [if_neg q1,if_pos q3,jw (by omega:g2≤g1+g2) h2]⟩
    by_cases q4:t.kind=4
    ·obtain⟨g2,r2,h2⟩:=T.b d vs (if v=0 then t.els else t.body) s1 (by split;exact(yQ ht).2;exact(jP ht).2) hv k3.ok (by omega);refine⟨g1+g2+1,r2,?_⟩;rw [gB,if_neg hf,hes];dsimp only;rw [jw (by omega:g1≤g1+g2) h1];dsimp only;rw [if_neg q1,if_neg q3,if_pos q4];exact tQ (by omega:g2≤g1+g2) h2
    by_cases q5:t.kind=5
    ·obtain⟨g2,r2,h2⟩:=T.w d vs e t.body v s1 v4.1 (jP ht).2 hv k3.ok (by omega);refine⟨g1+g2+1,r2,?_⟩;rw [gB,if_neg hf,hes];dsimp only;rw [jw (by omega:g1≤g1+g2) h1];dsimp only;rw [if_neg q1,if_neg q3,if_neg q4,if_pos q5];exact Ds (by omega:g2≤g1+g2) h2
    by_cases q6:t.kind=6
    ·exact⟨g1+1,_,by rw [gB,if_neg hf,hes];dsimp only;rw [h1];dsimp only;rw [if_neg q1,if_neg q3,if_neg q4,if_neg q5,if_pos q6]⟩
    by_cases q7:t.kind=7
    ·exact⟨g1+1,_,by rw [gB,if_neg hf,hes];dsimp only;rw [h1];dsimp only;rw [if_neg q1,if_neg q3,if_neg q4,if_neg q5,if_neg q6,if_pos q7]⟩
    exact⟨g1+1,_,by rw [gB,if_neg hf,hes];dsimp only;rw [h1];dsimp only;rw [if_neg q1,if_neg q3,if_neg q4,if_neg q5,if_neg q6,if_neg q7]⟩
theorem Mb{fs:List Tf}(hF:VF fs){n:Nat}(hT:∀k,n=k+1→Tot fs k)(hb:∀d vs l s,VYs fs l→okVs vs→okMs s→s.fuel≤(n:Int)→∃g r,fA g fs d vs l s=some r)(d:Nat)(vs:Vs)(e:Tx)(l:List Ty)(v:Int)(s:Ms)(he:VX fs e)(hl:VYs fs l)(hv:okVs vs)(hs:okMs s)(hn:s.fuel≤(n:Int)):∃g r,i6 g fs d vs e l v s=some r:=by
 by_cases q:v=0
 ·exact⟨1,_,by rw [i6,if_pos q]⟩
 ·obtain⟨g1,r1,h1⟩:=hb d vs l s hl hv hs hn;cases r1 with
  | err z=>exact⟨g1+1,.err z,by rw [i6,if_neg q,h1]⟩
  | ok p s1=>
   obtain⟨vs1,ro⟩:=p;obtain⟨k1,_,k3⟩:=(em hF g1).b d vs l s _ s1 hl hv hs h1;cases ro with
   | some y=>exact⟨g1+1,.ok (vs1,some y) s1,by rw [i6,if_neg q,h1]⟩
   | none=>
    obtain⟨g2,r2,h2⟩:=Id hF hT d vs1 e s1 he k1 k3.ok (Int.le_trans k3.fl hn);cases r2 with
    | err z=>exact⟨g1+g2+1,.err z,by rw [i6,if_neg q,tQ (by omega:g1≤g1+g2) h1];dsimp only;rw [jw (by omega:g2≤g1+g2) h2]⟩
    | ok w s2=>
     have hc:=Ej hF he k1 k3.ok h2;have k5:=k3.fl;by_cases hz:s2.fuel≤0∧n=0
     ·exfalso;have h3:=hz.2
      -- with no units left the condition would have failed
      cases g2 with
      | zero=>simp [d_]at h2
      | succ g2=>rw [d_,if_pos (by omega)]at h2;simp at h2
     ·by_cases hn0:n=0
      ·exfalso;cases g2 with
       | zero=>simp [d_]at h2
       | succ g2=>rw [d_,if_pos (by omega)]at h2;simp at h2
      ·obtain⟨k,rfl⟩:∃k,n=k+1:=⟨n-1,by omega⟩
       obtain⟨g3,r3,h3⟩:=(hT k J).w d vs1 e l w s2 he hl k1 ((em hF g2).x d vs1 e s1 w s2 he k1 k3.ok h2).2.ok (by omega);refine⟨g1+g2+g3+1,r3,?_⟩;rw [i6,if_neg q,tQ (by omega:g1≤g1+g2+g3) h1];dsimp only;rw [jw (by omega:g2≤g1+g2+g3) h2];exact Ds (by omega:g3≤g1+g2+g3) h3
theorem Cp{fs:List Tf}(hF:VF fs){n:Nat}(hT:∀k,n=k+1→Tot fs k):Tot fs n:=by
 have hx:=Id hF hT;have hb:=If hF (n:=n) (Mc hF hT);refine⟨hx,Ie hF hx,hb,fun d f al s hf ha hs hn=> ?_,Mb hF hT hb⟩;by_cases hd:d=12
 ·exact⟨1,.err 26,by rw [jS,if_pos hd]⟩
 ·obtain⟨g1,r1,h1⟩:=hb (d+1) (dD [] f.ps al) f.body s (hF f hf).2.2 (okVs.bind _ _ (fun p hp=>by simp at hp) ha) hs hn;cases r1 with
  | err z=>exact⟨g1+1,.err z,by rw [jS,if_neg hd,h1]⟩
  | ok p s1=>exact⟨g1+1,_,by rw [jS,if_neg hd,h1]⟩
theorem RB{fs:List Tf}(hF:VF fs):∀n,Tot fs n
 | 0=>Cp hF fun k h=>by omega
 | n+1=>Cp hF fun k h=>by
  obtain rfl:k=n:=by omega
  exact RB hF k
def more(ds:List Deferred)(a:Act):Act:={a with defers:=a.defers++ds}
section
end
section
end
section
end
theorem E0{nm:ByteArray}(h:gw nm=true)(a b:Int):(nr nm a b).isSome=true:=by
 unfold gw at h;obtain⟨p,hp⟩:=Option.isSome_iff_exists.1 h;have h1:=List.mem_of_find?_eq_some hp;have h2:=List.find?_some hp;have h2:p.1=nm:=by simpa using h2
 subst h2;simp only [lvL,List.mem_cons,List.not_mem_nil,or_false]at h1;rcases h1 with rfl|rfl|rfl|rfl|rfl|rfl|rfl|rfl|rfl|rfl|rfl|rfl|rfl|rfl|rfl|rfl<;>rfl
theorem Fy{nm:ByteArray}(h:bX nm wN=true)(a:Int):(BX nm a).isSome=true:=by
 unfold bX at h;obtain⟨p,h1,h2⟩:=List.any_eq_true.1 h;have h2:nm=p:=by simpa using h2
 subst h2;simp only [wN,List.mem_cons,List.not_mem_nil,or_false]at h1;rcases h1 with rfl|rfl|rfl<;>rfl
theorem si{k:Int}{nm:ByteArray}{n:Nat}(h:oP k nm n=true):(k=1∧n=0)∨(k=5∧n=0)∨(k=2∧n=0)∨k=3∨(k=4∧n=1)∨(k=6∧bX nm wN=true∧n=1)∨(k=7∧gw nm=true∧n=2):=by
 unfold oP at h;split at h
 ·rename_i hk;simp only [Bool.and_eq_true,decide_eq_true_eq]at h;rcases hk with hk|hk
  ·exact .inl ⟨hk,h.2⟩
  ·exact .inr (.inl ⟨hk,h.2⟩)
 ·split at h
  ·rename_i hk;simp only [Bool.and_eq_true,decide_eq_true_eq]at h;exact .inr (.inr (.inl ⟨hk,h.2⟩))
  ·split at h
   ·rename_i hk;exact .inr (.inr (.inr (.inl hk)))
   ·split at h
    ·rename_i hk;simp only [Bool.and_eq_true,decide_eq_true_eq]at h;exact .inr (.inr (.inr (.inr (.inl ⟨hk,h.2⟩))))
    ·split at h
     ·rename_i hk;simp only [Bool.and_eq_true,decide_eq_true_eq]at h;exact .inr (.inr (.inr (.inr (.inr (.inl ⟨hk,h.1,h.2⟩)))))
     ·split at h
      ·rename_i hk;simp only [Bool.and_eq_true,decide_eq_true_eq]at h;exact .inr (.inr (.inr (.inr (.inr (.inr ⟨hk,h.1,h.2⟩)))))
      ·cases h
theorem BS{fs:List Tf}{ns:List ByteArray}{t:Tx}(h:nE fs ns t=0)(hk:t.kind=3):∃f,ce fs t.name=some f∧f.ps.length=t.kids.length:=by
 cases hf:ce fs t.name with
 | none=>rw [tP hk hf]at h;cases h
 | some f=>
  rw [mI hk hf]at h;refine⟨f,J,?_⟩;split at h
  ·assumption
  ·cases h
mutual
theorem Ib{fs:List Tf}{ns:List ByteArray}:∀t:Tx,GX t→rX t=true→eX fs ns t=0→VX fs t
 | .mk k n nm v kids,hg,hr,he=>by
  have hr2:(oP k nm kids.length&&(decide (k=1) || decide (n=0))&&oN kids)=true:=hr;simp only [Bool.and_eq_true]at hr2;obtain⟨⟨h1,_⟩,h3⟩:=hr2;have he2:=Av fs ns (.mk k n nm v kids);rw [he]at he2;obtain⟨e1,e2⟩:=bl.1 he2.symm;have hc:=si h1;refine⟨hg.1,hg.2.2.1,fun hk=>by omega,fun hk=> ?_,fun hk=> ?_,fun k1 k2 k4 k5 k6 k7=> ?_,xc kids hg.2.2.2 h3 e2⟩
  ·have:bX nm wN=true∧kids.length=1:=by
    rcases hc with hc|hc|hc|hc|hc|⟨_,hc,hn⟩|hc
    ·omega
    ·omega
    ·omega
    ·omega
    ·omega
    ·exact⟨hc,hn⟩
    ·omega
   exact⟨by omega,Fy this.1⟩
  ·have:gw nm=true∧kids.length=2:=by
    rcases hc with hc|hc|hc|hc|hc|hc|⟨_,hc,hn⟩
    ·omega
    ·omega
    ·omega
    ·omega
    ·omega
    ·omega
    ·exact⟨hc,hn⟩
   exact⟨by omega,E0 this.1⟩
  ·have hk:k=3:=by omega
   obtain⟨f,hf1,hf2⟩:=BS e1 hk;exact⟨f,hf1,by rw [hf2];exact Nat.le_refl _⟩
theorem xc{fs:List Tf}{ns:List ByteArray}:∀l:List Tx,GXs l→oN l=true→iA fs ns l=0→VXs fs l
 | [],_,_,_=>trivial
 | t::r,hg,hr,he=>by
  have hr2:(rX t&&oN r)=true:=hr;rw [Bool.and_eq_true]at hr2;obtain⟨e1,e2⟩:=bl.1 he;exact⟨Ib t hg.1 hr2.1 e1,xc r hg.2 hr2.2 e2⟩
end
theorem xJ{k:Int}{nm:ByteArray}{ne nb nl:Nat}(h:zy k nm ne nb nl=true):1≤k∧k≤8∧ne=(if k=3 then 2 else 1)∧(k=4∨k=5∨nb=0)∧(k=4∨nl=0):=by
 unfold zy at h;simp only [Bool.and_eq_true,Bool.or_eq_true,decide_eq_true_eq]at h;obtain⟨⟨⟨⟨⟨h1,h2⟩,h3⟩,h4⟩,h5⟩,h6⟩:=h;exact⟨h1,h2,h3,by rcases h5 with(h|h)|h;exact .inl h;exact .inr (.inl h);exact .inr (.inr h),h6⟩
mutual
theorem L7{fs:List Tf}:∀(ns:List ByteArray)(t:Ty),GY t→rY t=true→(bY fs ns t).2=0→VY fs t
 | ns,.mk k nm ve es vb body vl els,hg,hr,he=>by
  have hr2:(zy k nm es.length body.length els.length&&oN es&&ly body&&ly els)=true:=hr;simp only [Bool.and_eq_true]at hr2;obtain⟨⟨⟨h1,h2⟩,h3⟩,h4⟩:=hr2;have hk:=xJ h1;rw [s5]at he;obtain⟨e1,he⟩:=bl.1 he;obtain⟨e2,he⟩:=bl.1 he;obtain⟨e3,he⟩:=bl.1 he;obtain⟨e4,e5⟩:=bl.1 he;have hes:es.length=if k=3 then 2 else 1:=hk.2.2.1
  exact⟨⟨by rw [hes];split<;>omega,hg.2.1.1,fun h3=>by rw [hes,if_pos h3];exact Nat.le_refl _,xc es hg.2.1.2 h2 e2⟩,⟨hg.2.2.1.1,tc _ body hg.2.2.1.2 h3 e4⟩,hg.2.2.2.1,tc _ els hg.2.2.2.2 h4 e5⟩
theorem tc{fs:List Tf}:∀(ns:List ByteArray)(l:List Ty),GYs l→ly l=true→(cq fs ns l).2=0→VYs fs l
 | _,[],_,_,_=>trivial
 | ns,t::r,hg,hr,he=>by
  have hr2:(rY t&&ly r)=true:=hr;rw [Bool.and_eq_true]at hr2;obtain⟨e1,e2⟩:=bl.1 he;exact⟨L7 ns t hg.1 hr2.1 e1,tc _ r hg.2 hr2.2 e2⟩
end
theorem sV{fs:List Tf}:∀{l:List Tf},fE fs l=0→∀f∈l,jI fs f=0
 | [],_,f,hf=>by simp at hf
 | g::r,h,f,hf=>by
  obtain⟨h1,h2⟩:=bl.1 h;rcases List.mem_cons.1 hf with rfl|hf
  ·exact h1
  ·exact sV h2 f hf
structure Fine(fs:List Tf)(f:Tf):Prop where
 vf:VF fs
 main:ce fs cx=some f
 noP:f.ps= []
 len:fs.length≤16
 once:∀(i:Nat)(f:Tf),fs[i]?=some f→qD fs f.name=(i:Int)
 each:∀f∈fs,jI fs f=0
theorem jg{fs:List Tf}(hg:GP fs)(h:fq fs=0):∃f,Fine fs f:=by
 unfold fq at h;split at h
 ·cases h
 ·rename_i h1;split at h
  ·cases h
  ·rename_i h2;split at h
   ·cases h
   ·rename_i h3;split at h
    ·cases h
    ·rename_i f hf;split at h
     ·cases h
     ·rename_i h4;have h1:rP fs=true:=by simpa using h1
      have h3:once fs=true:=by simpa using h3
      have hr:=List.all_eq_true.1 h1;have he:=sV h;refine⟨f,fun g hgm=> ?_,hf,List.eq_nil_of_length_eq_zero (by omega),by omega,mG.1 h3,he⟩;obtain⟨g1,g2,g3,g4,g5,g6⟩:=hg.2 g hgm;have hrg:=hr g hgm;unfold rF at hrg;simp only [Bool.and_eq_true]at hrg;have heg:=he g hgm;rw [kZ]at heg;have h6:=(bl.1 (bl.1 heg).2).2;exact⟨g3,g4,tc _ g.body g5 hrg.2 h6⟩
def zG(ins:List Int)(fuel:Int):Ms:=⟨ins,[],fun _=>0,fuel⟩
theorem xR{ins:List Int}{fuel:Int}(hi:∀x∈ins,oW x)(hf:fuel≤1000000000000):okMs (zG ins fuel):=⟨hi,fun _=>l8,by show fuel<_;omega,by show((0:Nat):Int)+max fuel 0≤_;omega⟩
structure Ru where
 err:Int
 out:List Int
 mem:List Int
def Bb:Re Int→Ru
 | .ok _ s=>⟨0,s.out,(List.range 256).map s.mem⟩
 | .err z=>⟨z,[],[]⟩
inductive RunIs(fs:List Tf)(ins:List Int)(fuel:Int):Ru→Prop where
 | bad (h:fq fs≠0):RunIs fs ins fuel ⟨fq fs,[],[]⟩
 | run (f:Tf) (g:Nat) (r:Re Int) (h:fq fs=0) (hf:ce fs cx=some f) (he:jS g fs 0 f [] (zG ins fuel)=some r):RunIs fs ins fuel (Bb r)
theorem CU{fs:List Tf}(hg:GP fs){ins:List Int}{fuel:Int}(hi:∀x∈ins,oW x)(hf:fuel≤1000000000000):∃r,RunIs fs ins fuel r:=by
 by_cases h:fq fs=0
 ·obtain⟨f,hfn⟩:=jg hg h;have ht:=RB hfn.vf fuel.toNat
  obtain⟨g,r,hr⟩:=ht.c 0 f [] (zG ins fuel) (fP hfn.main) (by simp) (xR hi hf) (by show fuel≤_;omega);exact⟨_,.run f g r h hfn.main hr⟩
 ·exact⟨_,.bad h⟩
section
end
theorem Ar:∀l:List Int,l.flatMap eU=l.map fun x=>Value.int .u32 x
 | []=>rfl
 | a::r=>by rw [List.flatMap_cons,Ar r];rfl
end Go.Proofs.YtedmdgbmdplifaaGreat
namespace Go.Proofs.YtedmdgbmdplifaaGreat
set_option linter.unusedVariables false
section
end
end Go.Proofs.YtedmdgbmdplifaaGreat
namespace Go.Proofs.YtedmdgbmdplifaaGreat
set_option linter.unusedSimpArgs false
set_option linter.unusedVariables false
open Go.RowKit
abbrev Mg(n:Int):Tx:= .mk 1 n oNil bw []
abbrev Cs(s:ByteArray):Tx:= .mk 2 0 s bw []
abbrev PB(op:ByteArray)(v:SV)(a b:Tx):Tx:= .mk 7 0 op v [a,b]
abbrev O_(v:SV)(t:Tx):Ty:= .mk 7 oNil v [t] bw [] bw []
abbrev Nk(vb:SV)(l:List Ty):Tf:=⟨cx,bw,[],vb,l⟩
def M3:ByteArray:=⟨#[120]⟩
abbrev GC(v1 v2 v3 v4 v5:SV):Ty:= .mk 5 oNil v1 [Cs M3] v2 [O_ v3 (Cs M3),.mk 2 M3 v4 [PB dw v5 (Cs M3) (Mg 1)] bw [] bw []] bw []
abbrev Km(n:Int)(v0 v1 v2 v3 v4 v5:SV):List Ty:= [.mk 1 M3 v0 [Mg n] bw [] bw [],GC v1 v2 v3 v4 v5]
abbrev Sp(n:Int)(v0 v1 v2 v3 v4 v5 v6:SV):List Tf:= [Nk v6 (Km n v0 v1 v2 v3 v4 v5)]
structure Lv where
 v0:SV
 v1:SV
 v2:SV
 v3:SV
 v4:SV
 v5:SV
 v6:SV
 v7:SV
abbrev Lv.p(x:Lv)(n:Int):List Tf:=Sp n x.v0 x.v1 x.v2 x.v3 x.v4 x.v5 x.v6
theorem qg{s:ByteArray}(h:(s.data.toList.all (fun b=>decide (b.toNat<128))&&decide (s.size≤1000000))=true):wS s:=by
 simp only [Bool.and_eq_true,decide_eq_true_eq,List.all_eq_true]at h;refine⟨fun i hi=> ?_,h.2⟩;refine h.1 (s[i]'hi) ?_;have:s[i]'hi=s.data.toList[i]'(by simpa using hi):=by simp [ByteArray.getElem_eq_getElem_data]
 rw [this];exact List.getElem_mem _
section
end
inductive Px where
 | mk (kind n:Int) (name:ByteArray) (kids:List Px)
inductive Py where
 | mk (kind:Int) (name:ByteArray) (es:List Px) (body els:List Py)
structure Pf where
 name:ByteArray
 ps:List ByteArray
 body:List Py
mutual
def ma:Tx→Px
 | .mk k n nm _ kids=> .mk k n nm (fW kids)
def fW:List Tx→List Px
 | []=> []
 | t::r=>ma t::fW r
end
mutual
def KT:Ty→Py
 | .mk k nm _ es _ body _ els=> .mk k nm (fW es) (ln body) (ln els)
def ln:List Ty→List Py
 | []=> []
 | t::r=>KT t::ln r
end
def sL(f:Tf):Pf:=⟨f.name,f.ps,ln f.body⟩
theorem qH:∀a b:List Tx,fW (a++b)=fW a++fW b
 | [],b=>by simp [fW]
 | t::r,b=>by simp [fW,qH r b]
theorem wj:∀a b:List Ty,ln (a++b)=ln a++ln b
 | [],b=>by simp [ln]
 | t::r,b=>by simp [ln,wj r b]
structure Gc where
 l:List Int
 me:Nat
 fs:List (ByteArray×List ByteArray)
structure Gs where
 at_:Nat
 left:Int
 nodes:Int
 vars:Int
 names:List ByteArray
def rS(n m:Int):Int:=((n.tmod m)+m).tmod m
def gN(l:List Int)(n:Int)(s:Gs):Int×Gs:=match l[s.at_]? with
 | none=>(0,s)
 | some x=>(rS x n,{s with at_:=s.at_+1})
def cL:List Int:= [0,1,2,3,5,8,31,32,255,256,65535,131072,2147483647,2147483648,4294967295]
def Rf:List ByteArray:= [eG,dw,ff,iV,jt,dW,iH,d6,fe,fy,jZ,lh,li,l9,lm,lg]
def gK(l:List Int)(d:Nat)(s:Gs):Int×Gs:=
 let r:=gN l 16 {s with nodes:=IntKind.i64.wrap (s.nodes-1)}
 (if d=0∨r.2.nodes<1 then r.1%4 else r.1,r.2)
mutual
inductive GXr(c:Gc):Nat→Gs→Px→Gs→Prop
 | nam {d:Nat} {s s1 s2:Gs} {k j:Int} {x:ByteArray} (hk:gK c.l d s=(k,s1)) (h:k=1∨k=2) (hn:0<s1.names.length) (hj:gN c.l (s1.names.length:Int) s1=(j,s2)) (hx:s1.names[j.toNat]?=some x):GXr c d s (.mk 2 0 x []) s2
 | inp {d:Nat} {s s1:Gs} (hk:gK c.l d s=(3,s1)):GXr c d s (.mk 5 0 oNil []) s1
 | mem {d:Nat} {s s1 s2:Gs} {k:Int} {p:Px} (hk:gK c.l (d+1) s=(k,s1)) (h:k=4∨k=5) (hp:GXr c d s1 p s2):GXr c (d+1) s (.mk 4 0 oNil [p]) s2
 | una {d:Nat} {s s1 s2 s3:Gs} {j:Int} {x:ByteArray} {p:Px} (hk:gK c.l (d+1) s=(6,s1)) (hj:gN c.l 3 s1=(j,s2)) (hx:wN[j.toNat]?=some x) (hp:GXr c d s2 p s3):GXr c (d+1) s (.mk 6 0 x [p]) s3
 | call {d:Nat} {s s1 s2 s3:Gs} {j:Int} {f:ByteArray×List ByteArray} {ps:List Px} (hk:gK c.l (d+1) s=(7,s1)) (h:c.me+1<c.fs.length) (hj:gN c.l ((c.fs.length:Int)-(c.me:Int)-1) s1=(j,s2)) (hx:c.fs[((c.me:Int)+1+j).toNat]?=some f) (hp:GKr c d f.2.length s2 ps s3):GXr c (d+1) s (.mk 3 0 f.1 ps) s3
 | bin {d:Nat} {s s1 s2 s3 s4:Gs} {k j:Int} {x:ByteArray} {p q:Px} (hk:gK c.l (d+1) s=(k,s1)) (h:7<k) (hj:gN c.l 16 s1=(j,s2)) (hx:Rf[j.toNat]?=some x) (hp:GXr c d s2 p s3) (hq:GXr c d s3 q s4):GXr c (d+1) s (.mk 7 0 x [p,q]) s4
 | con {d:Nat} {s s1 s2:Gs} {k j:Int} {x:Int} (hk:gK c.l d s=(k,s1)) (h1:¬((k=1∨k=2)∧0<s1.names.length)) (h3:k≠3) (h4:k≠4) (h5:k≠5) (h6:k≠6) (h7:¬(k=7∧c.me+1<c.fs.length)) (h8:¬7<k) (hj:gN c.l 15 s1=(j,s2)) (hx:cL[j.toNat]?=some x):GXr c d s (.mk 1 x oNil []) s2
inductive GKr(c:Gc):Nat→Nat→Gs→List Px→Gs→Prop
 | nil {d:Nat} {s:Gs}:GKr c d 0 s [] s
 | cons {d n:Nat} {s s1 s2:Gs} {p:Px} {ps:List Px} (hp:GXr c d s p s1) (hq:GKr c d n s1 ps s2):GKr c d (n+1) s (p::ps) s2
end
def GCr(c:Gc)(d:Nat)(f:ByteArray×List ByteArray)(s:Gs)(p:Px)(s':Gs):Prop:=∃ps,GKr c d f.2.length s ps s'∧p= .mk 3 0 f.1 ps
def Ed:List ByteArray:= [⟨#[97]⟩,⟨#[98]⟩,⟨#[99]⟩,⟨#[100]⟩,⟨#[101]⟩,⟨#[120,49]⟩,⟨#[121,50]⟩,⟨#[108,111,111,112]⟩]
def MP(n:Int):Px:= .mk 1 n oNil []
def Iq(s:ByteArray):Px:= .mk 2 0 s []
def MQ(x:ByteArray):Py:= .mk 2 x [.mk 7 0 dw [Iq x,MP 1]] [] []
mutual
inductive GYr(c:Gc):Nat→Gs→List Py→Gs→Prop
 | mk {e:Nat} {s s1 s2:Gs} {j:Int} {o:List Py} (hj:gN c.l 5 s=(j,s1)) (h:GLr c e (1+j).toNat s1 o s2):GYr c e s o s2
inductive GLr(c:Gc):Nat→Nat→Gs→List Py→Gs→Prop
 | zero {e:Nat} {s:Gs}:GLr c e 0 s [] s
 | stop {e n:Nat} {s:Gs} (h:s.left≤0):GLr c e n s [] s
 | step {e n:Nat} {s s1 s2 s3:Gs} {k:Int} {o r:List Py} (h:0<s.left) (hk:gN c.l 12 {s with left:=s.left-1}=(k,s1)) (h1:G1r c e k s1 o s2) (h2:GLr c e n s2 r s3):GLr c e (n+1) s (o++r) s3
inductive G1r(c:Gc):Nat→Int→Gs→List Py→Gs→Prop
 | var {e:Nat} {s s1:Gs} {k:Int} {x:ByteArray} {p:Px} (hk:k<3) (hx:Ed[s.vars.toNat]?=some x) (hv:s.vars<8) (hp:GXr c 3 {s with vars:=s.vars+1} p s1):G1r c e k s [.mk 1 x [p] [] []] {s1 with names:=s1.names++ [x]}
 | set {e:Nat} {s s1 s2:Gs} {j:Int} {x:ByteArray} {p:Px} (hn:0<s.names.length) (hj:gN c.l (s.names.length:Int) s=(j,s1)) (hx:s.names[j.toNat]?=some x) (hp:GXr c 3 s1 p s2):G1r c e 3 s [.mk 2 x [p] [] []] s2
 | put {e:Nat} {s s1 s2:Gs} {k:Int} {p q:Px} (hk:k=4∨k=5) (hp:GXr c 2 s p s1) (hq:GXr c 3 s1 q s2):G1r c e k s [.mk 3 oNil [p,q] [] []] s2
 | iff1 {e:Nat} {s s1 s2 s3 s4:Gs} {p:Px} {a b:List Py} (hp:GXr c 2 s p s1) (ha:GYr c e s1 a s2) (hj:gN c.l 2 s2=(1,s3)) (hb:GYr c e s3 b s4):G1r c (e+1) 6 s [.mk 4 oNil [p] a b] s4
 | iff0 {e:Nat} {s s1 s2 s3:Gs} {j:Int} {p:Px} {a:List Py} (hp:GXr c 2 s p s1) (ha:GYr c e s1 a s2) (hj:gN c.l 2 s2=(j,s3)) (hb:j≠1):G1r c (e+1) 6 s [.mk 4 oNil [p] a []] s3
 | whi {e:Nat} {s s1 s2:Gs} {j:Int} {x:ByteArray} {a:List Py} (hx:Ed[s.vars.toNat]?=some x) (hv:s.vars<8) (hj:gN c.l 5 {s with vars:=s.vars+1}=(j,s1)) (ha:GYr c (e+1) s1 a s2):G1r c (e+2) 7 s [.mk 1 x [MP j] [] [],.mk 5 oNil [Iq x] (a++ [MQ x]) []] {s2 with names:=s2.names++ [x]}
 | ret {e:Nat} {s s1 s2:Gs} {p:Px} (hj:gN c.l 3 s=(0,s1)) (hp:GXr c 3 s1 p s2):G1r c e 8 s [.mk 6 oNil [p] [] []] s2
 | dos {e:Nat} {s s1 s2 s3 s4:Gs} {j j2:Int} {f:ByteArray×List ByteArray} {p:Px} (h:c.me+1<c.fs.length) (hj:gN c.l ((c.fs.length:Int)-(c.me:Int)-1) s=(j,s1)) (hj2:gN c.l 8 s1=(j2,s2))
   (hf:(j2≠7∧c.fs[((c.me:Int)+1+j).toNat]?=some f∧s3=s2)∨(j2=7∧∃j3,gN c.l ((c.fs.length:Int)-1) s2=(j3,s3)∧c.fs[(1+j3).toNat]?=some f)) (hp:GCr c 1 f s3 p s4):G1r c e 9 s [.mk 8 oNil [p] [] []] s4
 | out {e:Nat} {s s1 s2:Gs} {k:Int} {p:Px} (h3:¬(k<3∧s.vars<8)) (hs:¬(k=3∧0<s.names.length)) (h4:k≠4) (h5:k≠5) (h6:¬(k=6∧1≤e)) (h7:¬(k=7∧2≤e∧s.vars<8)) (h8:(k≠8∧s1=s)∨(k=8∧∃j,j≠0∧gN c.l 3 s=(j,s1))) (h9:¬(k=9∧c.me+1<c.fs.length)) (hp:GXr c 3 s1 p s2):G1r c e k s [.mk 7 oNil [p] [] []] s2
end
theorem oT{x n:Int}(hn:0<n):0≤rS x n∧rS x n<n:=by
 unfold rS;have h1:=Int.tmod_lt_of_pos x hn;have h2:=Int.tmod_lt_of_pos (-x) hn;rw [Int.neg_tmod]at h2;have h3:0≤x.tmod n+n:=by omega
 rw [Int.tmod_eq_emod_of_nonneg h3];exact⟨Int.emod_nonneg _ (by omega),Int.emod_lt_of_pos _ hn⟩
theorem D9{l:List Int}{n j:Int}{s s1:Gs}(h:gN l n s=(j,s1)):s1={s with at_:=s1.at_}∧(s.at_≤l.length→s1.at_≤l.length):=by
 unfold gN at h;split at h
 ·cases h;exact⟨J,fun h=>h⟩
 ·rename_i x hx;cases h;exact⟨J,fun _=>(List.getElem?_eq_some_iff.1 hx).1⟩
section
variable{P:Program}{N:Nat}{w0:World}{M H:Nat→Prop}{E:el}{Γ R:dQ}{Q:Exit→Act→World→Prop}
theorem Cv{l:List Oper}{V:dg}{C:List Nat}(is:List Nat){I:dg}(c:Nat)(C':List Nat){d:Nat}{v:Value}{op:Op}{T:TypeId}{ps:String}{af:Array Edge}(hI0:ib is V=I)(hst:uR N E V=true)(hI:PRs P N w0 M H E Γ R l V I)(hcov:sS V is C=true)
  (hcls:wt l (dR V++C) (some c)=true) (ho:l[c]?=some ⟨some d,op,T,ps,af,none⟩) (hd:Nat.blt d N=true) (hcV:oS (dR V++C) c=false)
  (hcl:yE l C c [] C'=true) (hall:(List.range l.length).all (fun i=>oS C' i)=true) (hlt:(dR V).all (fun i=>Nat.blt i l.length)=true) (hpr:PR P N w0 M H (vpre (d9 ⟨some d,op,T,ps,af,none⟩) V++E) Γ R op v)
  (k:At N w0 M H ((d,v)::(AW V++E)) Γ R (Q .normal)):Fa P N w0 M H E Γ R l Q V C:=by
 refine mm is hI0 hst hI hcov (some c) hcls (fun D a w hD hS=> ?_) fun k' hk' ord D a w o' hio hDk hprd hrest hS=> ?_
 ·have:=hS.done c (hD c (List.getElem?_eq_some_iff.1 ho).1);rw [ew this]at hcV;cases hcV
 ·injection hk' with hk';subst hk';rw [ho]at hio;injection hio with hio;subst hio;have ho':l.toArray[c]?=some ⟨some d,op,T,ps,af,none⟩:=by simpa using ho
  have hclosed:∀(j:Nat)(o':Oper),l[j]?=some o'→(bif Nat.beq j c then true else D j)=true→∀k∈d9 o',(bif Nat.beq k c then true else D k)=true:=by
   intro j o' hoj hj q hq;cases hb:Nat.beq j c with
   | true=>
    have:=Nat.eq_of_beq_eq_true hb;subst this;rw [ho]at hoj;injection hoj with hoj;subst hoj;simp [hprd q hq]
   | false=>rw [hb]at hj;simp [hS.closed j o' hoj hj q hq]
  have hdone:∀i,i<l.length→(bif Nat.beq i c then true else D i)=true:=fun i hi=>
   jf (D:=fun i=>bif Nat.beq i c then true else D i) (fun i hi=>by simp [hS.sure i hi]) (by simp) hclosed C' [] hcl (fun s hs=>by simp at hs) i (eT (List.all_eq_true.1 hall i (List.mem_range.2 hi)))
  cases hrest with
  | cons ho2 hD2 _ _=>
   dsimp only at hD2;rw [hdone _ (List.getElem?_eq_some_iff.1 ho2).1]at hD2;cases hD2
  | nil h=>
   simp only [wpOps,ho'];rw [if_pos (by simp [Region.wanted])];left;have hEp:EOk N (vpre (d9 ⟨some d,op,T,ps,af,none⟩) V++E) a:=hS.base.vpre fun j d v hj hjp=>hS.vals j d v hj (hprd j hjp)
   unfold Oper.wp;rw [hpr _ _ _ a w hEp hS.ok _ _];have hEv:EOk N (AW V++E) a:=hS.base.vals fun i e u hm=>hS.vals i e u hm (by
    have h1:i∈dR V:=eD.2 ⟨e,u,hm⟩;have h2:Nat.blt i l.length=true:=List.all_eq_true.1 hlt i h1;have h3:=hdone i (by simpa using h2);cases hb:Nat.beq i c with
    | true=>
     have:=Nat.eq_of_beq_eq_true hb;subst this;rw [ew (List.mem_append_left _ h1)]at hcV;cases hcV
    | false=>rw [hb]at h3;exact h3)
   exact k _ _ (hEv.put hd v) hS.ok
end
theorem Mf(x:Int){m:Int}(hm:0<m): -m<x.tmod m∧x.tmod m<m:=by
 have h1:=Int.tmod_lt_of_pos x hm;have h2:=Int.tmod_lt_of_pos (-x) hm;rw [Int.neg_tmod]at h2;omega
theorem mM(n m:Int)(hm:0<m∧m≤1000000):
  Spec Tryz.prog 24 [.int .i64 n,.int .i64 m] [] [] (X:=Unit) (fun _=>True) (fun _=> .int .i64 (rS n m)) (fun _=> []) (fun _=> []):=by
 refine aF Tryz.func24 J Tryz.ntmps24 J fun w0 M H=>ae (aa (aj (ag J) J (ai (ae (aa (aj (ac J) J (aj (ac J) J (aj (am J J (fV (by omega) J)) J (aj (ac J) J (aj (am J J (aX (by have:=Mf n hm.1;exact aU (by omega) (by omega)))) J (aj (ac J) J (aj (am J J (fV (by omega) J)) J ?_))))))))))))
 refine aj (ag J) J (ai (aw (aG () trivial J (bx (aH J)) J [] [] J J J)))
theorem G7(l:List Int)(n:Int)(s:Gs):(gN l n s).2.names=s.names∧(gN l n s).2.left=s.left∧(gN l n s).2.vars=s.vars:=by
 have h:=(D9 (l:=l) (n:=n) (s:=s) (j:=(gN l n s).1) (s1:=(gN l n s).2) (by exact Prod.eta _)).1;rw [h];exact⟨J,J,J⟩
theorem ez{l:List Int}{n j:Int}{s s1:Gs}(h:gN l n s=(j,s1)):s1.names=s.names∧s1.left=s.left∧s1.vars=s.vars:=by
 rw [(D9 h).1];exact⟨J,J,J⟩
theorem jR{l:List Int}{d:Nat}{s s1:Gs}{k:Int}(h:gK l d s=(k,s1)):s1.names=s.names∧s1.left=s.left∧s1.vars=s.vars:=by
 unfold gK at h;have h2:(gN l 16 {s with nodes:=IntKind.i64.wrap (s.nodes-1)}).2=s1:=congrArg Prod.snd h;have h3:=G7 l 16 {s with nodes:=IntKind.i64.wrap (s.nodes-1)};rw [h2]at h3;exact h3
theorem oa{w:World}{F G:Nat→Prop}{t:Tx}(h:(bK t.v t.kids).pred w G)(hs:∀b,G b→F b):TxIn w F t:=by
 have h2:TxIn w G t:=by
  cases t;exact h
 exact TxIn.mono hs (fun _ _=>J) t h2
def Lw(l:List Tx):Asn:=⟨fun w F=>TxsIn w F l,fun h hs=>TxsIn.mono (fun _ hb=>hb) hs _ h⟩
theorem yX{w:World}{F:Nat→Prop}:∀{l:List Tx}{t:Tx},TxsIn w F l→TxIn w F t→TxsIn w F (l++ [t])
 | [],t,_,ht=>⟨ht,trivial⟩
 | a::r,t,h,ht=>⟨h.1,yX h.2 ht⟩
theorem HY{w:World}{F G:Nat→Prop}{l:List Tx}(h:(Lw l).pred w G)(hs:∀b,G b→F b):TxsIn w F l:=TxsIn.mono hs (fun _ _=>rfl) l h
theorem ql(w:World)(F:Nat→Prop)(_:AllIn w F []):(bK bw []).pred w F:=⟨jv,trivial⟩
theorem zv{v:SV}{t:Tx}(w:World)(F:Nat→Prop)(h:AllIn w F [own 61 4 df (sv v) [t],bK t.v t.kids]):(bK v [t]).pred w F:=by
 obtain⟨⟨_,a0,b0⟩,⟨_,a1,b1⟩,_⟩:=h;exact⟨cM a0 b0,oa a1 b1,trivial⟩
theorem FC{v:SV}{t u:Tx}(w:World)(F:Nat→Prop)(h:AllIn w F [own 61 4 df (sv v) [t,u],bK t.v t.kids,bK u.v u.kids]):(bK v [t,u]).pred w F:=by
 obtain⟨⟨_,a0,b0⟩,⟨_,a1,b1⟩,⟨_,a2,b2⟩,_⟩:=h;exact⟨cM a0 b0,oa a1 b1,oa a2 b2,trivial⟩
theorem GE{l:List Tx}{t:Tx}(w:World)(F:Nat→Prop)(h:AllIn w F [Lw l,bK t.v t.kids]):(Lw (l++ [t])).pred w F:=by
 obtain⟨⟨_,a0,b0⟩,⟨_,a1,b1⟩,_⟩:=h;exact yX (HY a0 b0) (oa a1 b1)
theorem DF{v:SV}{l:List Tx}(w:World)(F:Nat→Prop)(h:AllIn w F [own 61 4 df (sv v) l,Lw l]):(bK v l).pred w F:=by
 obtain⟨⟨_,a0,b0⟩,⟨_,a1,b1⟩,_⟩:=h;exact⟨cM a0 b0,HY a1 b1⟩
structure Ge where
 g:Nat
 vl:SV
 vn:SV
 vf:SV
 c:Gc
 F:List Tf
structure Gfine(e:Ge):Prop where
 hl:e.c.l.length≤9223372036854775807
 hlo:∀x∈e.c.l,O3 x
 fs:e.c.fs=e.F.map fun f=>(f.name,f.ps)
 fl:e.F.length≤100
 me:e.c.me≤100
 ps:∀f∈e.F,f.ps.length≤100
mutual
theorem GXr.keep{c:Gc}:∀{d:Nat}{s s':Gs}{p:Px},GXr c d s p s'→s'.names=s.names∧s'.left=s.left∧s'.vars=s.vars
 | _,s,_,_,.nam (s1:=s1) hk _ _ hj _=>by
  have h1:=jR hk;have h2:=(D9 hj).1;rw [h2];exact h1
 | _,_,_,_,.inp hk=>jR hk
 | _,_,_,_,.mem hk _ hp=>by
  have h1:=jR hk;have h2:=hp.keep;exact⟨h2.1.trans h1.1,h2.2.1.trans h1.2.1,h2.2.2.trans h1.2.2⟩
 | _,_,_,_,.una hk hj _ hp=>by
  have h1:=jR hk;have h3:=ez hj;have h2:=hp.keep;exact⟨h2.1.trans (h3.1.trans h1.1),h2.2.1.trans (h3.2.1.trans h1.2.1),h2.2.2.trans (h3.2.2.trans h1.2.2)⟩
 | _,_,_,_,.call hk _ hj _ hp=>by
  have h1:=jR hk;have h3:=ez hj;have h2:=hp.keep;exact⟨h2.1.trans (h3.1.trans h1.1),h2.2.1.trans (h3.2.1.trans h1.2.1),h2.2.2.trans (h3.2.2.trans h1.2.2)⟩
 | _,_,_,_,.bin hk _ hj _ hp hq=>by
  have h1:=jR hk;have h3:=ez hj;have h2:=hp.keep;have h4:=hq.keep;exact⟨h4.1.trans (h2.1.trans (h3.1.trans h1.1)),h4.2.1.trans (h2.2.1.trans (h3.2.1.trans h1.2.1)),h4.2.2.trans (h2.2.2.trans (h3.2.2.trans h1.2.2))⟩
 | _,_,_,_,.con hk _ _ _ _ _ _ _ hj _=>by
  have h1:=jR hk;have h3:=ez hj;exact⟨h3.1.trans h1.1,h3.2.1.trans h1.2.1,h3.2.2.trans h1.2.2⟩
theorem GKr.keep{c:Gc}:∀{d n:Nat}{s s':Gs}{ps:List Px},GKr c d n s ps s'→s'.names=s.names∧s'.left=s.left∧s'.vars=s.vars
 | _,_,_,_,_,.nil=>⟨rfl,rfl,rfl⟩
 | _,_,_,_,_,.cons hp hq=>by
  have h1:=hp.keep;have h2:=hq.keep;exact⟨h2.1.trans h1.1,h2.2.1.trans h1.2.1,h2.2.2.trans h1.2.2⟩
end
def Lu(l:List Ty):Asn:=⟨fun w F=>TysIn w F l,fun h hs=>TysIn.mono (fun _ hb=>hb) hs _ h⟩
theorem yW{w:World}{F:Nat→Prop}:∀{l:List Ty}{t:Ty},TysIn w F l→TyIn w F t→TysIn w F (l++ [t])
 | [],t,_,ht=>⟨ht,trivial⟩
 | a::r,t,h,ht=>⟨h.1,yW h.2 ht⟩
theorem HV{w:World}{F G:Nat→Prop}{l:List Ty}(h:(Lu l).pred w G)(hs:∀b,G b→F b):TysIn w F l:=TysIn.mono hs (fun _ _=>rfl) l h
theorem Spec.roAll{P:Program}{n:Nat}{vs:List Value}{L R0 R1:List Asn}{X:Type}{φ:X→Prop}{v:X→Value}{L' R':X→List Asn}(h:Spec P n vs L R0 φ v L' R')(hAB:∀(i:Nat)(A:Asn),R0[i]?=some A→∃B:Asn,R1[i]?=some B∧∀w G,B.pred w G→A.pred w G):Spec P n vs L R1 φ v L' R':=fun w M H ⟨F,hF⟩=>
 h w M H ⟨F,hF.touch,hF.has,hF.lt,hF.mine,hF.apart,fun k C hk=>by
  obtain⟨B,h1,h2⟩:=hAB k C hk;obtain⟨G,g1,g2⟩:=hF.ro k B h1;exact⟨G,h2 _ _ g1,g2⟩⟩
def Ge.at(e:Ge)(v:SV):Ge:={e with vn:=v}
theorem Gfine.at{e:Ge}(he:Gfine e)(v:SV):Gfine (e.at v):=⟨he.hl,he.hlo,he.fs,he.fl,he.me,he.ps⟩
structure GInv(s:Gs):Prop where
 v0:0≤s.vars
 v8:s.vars≤8
 nm:(s.names.length:Int)≤100+s.vars
 lf:s.left≤1000
theorem GInv.same{s s':Gs}(h:GInv s)(k:s'.names=s.names∧s'.left=s.left∧s'.vars=s.vars):GInv s':=⟨by rw [k.2.2];exact h.v0,by rw [k.2.2];exact h.v8,by rw [k.1,k.2.2];exact h.nm,by rw [k.2.1];exact h.lf⟩
theorem GInv.n{s:Gs}(h:GInv s):s.names.length≤1000:=by have:=h.nm;have:=h.v8;omega
theorem GCr.keep{c:Gc}{d:Nat}{f:ByteArray×List ByteArray}{s s':Gs}{p:Px}(h:GCr c d f s p s'):s'.names=s.names∧s'.left=s.left∧s'.vars=s.vars:=by
 obtain⟨ps,h1,_⟩:=h;exact h1.keep
theorem jy{a b c:Gs}(h:b.names=a.names∧b.left=a.left∧b.vars=a.vars)(k:c.names=b.names∧c.left=b.left∧c.vars=b.vars):c.names=a.names∧c.left=a.left∧c.vars=a.vars:=⟨k.1.trans h.1,k.2.1.trans h.2.1,k.2.2.trans h.2.2⟩
structure GKp(s s':Gs):Prop where
 inv:GInv s'
 left:s'.left≤s.left
 diff:(s'.names.length:Int)-s'.vars=(s.names.length:Int)-s.vars
theorem GKp.of{s s':Gs}(h:GInv s)(k:s'.names=s.names∧s'.left=s.left∧s'.vars=s.vars):GKp s s':=⟨h.same k,by rw [k.2.1];exact Int.le_refl _,by rw [k.1,k.2.2]⟩
theorem GKp.trans{a b c:Gs}(h:GKp a b)(k:GKp b c):GKp a c:=⟨k.inv,Int.le_trans k.left h.left,k.diff.trans h.diff⟩
theorem GInv.var{s:Gs}(h:GInv s)(hv:s.vars<8):GInv {s with vars:=s.vars+1}:=⟨by show 0≤s.vars+1;have:=h.v0;omega,by show s.vars+1≤8;omega,by show(s.names.length:Int)≤100+(s.vars+1);have:=h.nm;omega,h.lf⟩
theorem GKp.more{s s':Gs}{x:ByteArray}(h:GInv s)(k:GKp {s with vars:=s.vars+1} s'):GKp s {s' with names:=s'.names++ [x]}:=by
 have hd:(s'.names.length:Int)-s'.vars=(s.names.length:Int)-(s.vars+1):=k.diff;have hn:=h.nm;have hl:((s'.names++ [x]).length:Int)=(s'.names.length:Int)+1:=by rw [List.length_append,List.length_singleton];rfl
 exact⟨⟨k.inv.v0,k.inv.v8,by show((s'.names++ [x]).length:Int)≤100+s'.vars;omega,k.inv.lf⟩,k.left,by show((s'.names++ [x]).length:Int)-s'.vars=_;omega⟩
mutual
theorem GYr.inv{c:Gc}:∀{e:Nat}{s s':Gs}{o:List Py},GYr c e s o s'→GInv s→GKp s s'
 | _,_,_,_,.mk hj h,hi=>(GKp.of hi (ez hj)).trans (h.inv (hi.same (ez hj)))
theorem GLr.inv{c:Gc}:∀{e n:Nat}{s s':Gs}{o:List Py},GLr c e n s o s'→GInv s→GKp s s'
 | _,_,_,_,_,.zero,hi=>GKp.of hi ⟨rfl,rfl,rfl⟩
 | _,_,_,_,_,.stop _,hi=>GKp.of hi ⟨rfl,rfl,rfl⟩
 | _,_,s,_,_,.step hl hk h1 h2,hi=>by
  have hi2:GInv {s with left:=s.left-1}:=⟨hi.v0,hi.v8,hi.nm,by show s.left-1≤1000;have:=hi.lf;omega⟩
  have k0:GKp s {s with left:=s.left-1}:=⟨hi2,by show s.left-1≤s.left;omega,rfl⟩
  have k1:=GKp.of hi2 (ez hk);have k2:=h1.inv k1.inv;exact((k0.trans k1).trans k2).trans (h2.inv k2.inv)
theorem G1r.inv{c:Gc}:∀{e:Nat}{k:Int}{s s':Gs}{o:List Py},G1r c e k s o s'→GInv s→GKp s s'
 | _,_,s,_,_,.var _ _ hv hp,hi=>GKp.more hi (GKp.of (hi.var hv) hp.keep)
 | _,_,_,_,_,.set _ hj _ hp,hi=>GKp.of hi (jy (ez hj) hp.keep)
 | _,_,_,_,_,.put _ hp hq,hi=>GKp.of hi (jy hp.keep hq.keep)
 | _,_,_,_,_,.iff1 hp ha hj hb,hi=>by
  have k1:=GKp.of hi hp.keep;have k2:=ha.inv k1.inv;have k3:=GKp.of k2.inv (ez hj);exact((k1.trans k2).trans k3).trans (hb.inv k3.inv)
 | _,_,_,_,_,.iff0 hp ha hj _,hi=>by
  have k1:=GKp.of hi hp.keep;have k2:=ha.inv k1.inv;exact(k1.trans k2).trans (GKp.of k2.inv (ez hj))
 | _,_,s,_,_,.whi _ hv hj ha,hi=>by
  have k1:=GKp.of (hi.var hv) (ez hj);exact GKp.more hi (k1.trans (ha.inv k1.inv))
 | _,_,_,_,_,.ret hj hp,hi=>GKp.of hi (jy (ez hj) hp.keep)
 | _,_,s,_,_,.dos (s2:=s2) (s3:=s3) _ hj hj2 hf hp,hi=>by
  have k1:s3.names=s2.names∧s3.left=s2.left∧s3.vars=s2.vars:=by
   rcases hf with⟨_,_,h⟩|⟨_,j3,h,_⟩
   ·rw [h];exact⟨J,J,J⟩
   ·exact ez h
  exact GKp.of hi (jy (jy (jy (ez hj) (ez hj2)) k1) hp.keep)
 | _,_,s,_,_,.out (s1:=s1) _ _ _ _ _ _ h8 _ hp,hi=>by
  have k1:s1.names=s.names∧s1.left=s.left∧s1.vars=s.vars:=by
   rcases h8 with⟨_,h⟩|⟨_,j,_,h⟩
   ·rw [h];exact⟨J,J,J⟩
   ·exact ez h
  exact GKp.of hi (jy k1 hp.keep)
end
def O6(c:Nat)(vp:SV)(fs:List Tf)(v:SV)(l:List Ty):Prop:=∀(vn:SV)(ns:List ByteArray),ns.length+cD l≤1000000→Spec Tryz.prog 60 [.pointer (some ⟨c,0,none⟩),sv v] [aY c 128 [sv vp,sv vn],own 9 1 eS (sv vn) ns] [bz v l,cm vp fs] (X:=SV×List ByteArray) (fun x=>(cq fs ns l).2=0→x.2=(cq fs ns l).1) (fun _=> .int .i64 (cq fs ns l).2) (fun x=> [aY c 128 [sv vp,sv x.1],own 9 1 eS (sv x.1) x.2]) (fun _=> [])
theorem Gr{A B C D D':Asn}(h:∀w G,D.pred w G→D'.pred w G):∀(i:Nat)(X:Asn),([A,D',B,C]:List Asn)[i]?=some X→∃Y,([A,D,B,C]:List Asn)[i]?=some Y∧∀w G,Y.pred w G→X.pred w G
 | 0,X,hX=>⟨A,rfl,by cases hX;exact fun _ _ h=>h⟩
 | 1,X,hX=>⟨D,rfl,by cases hX;exact h⟩
 | 2,X,hX=>⟨B,rfl,by cases hX;exact fun _ _ h=>h⟩
 | 3,X,hX=>⟨C,rfl,by cases hX;exact fun _ _ h=>h⟩
 | i+4,X,hX=>by simp at hX
theorem CG(c:Nat)(vp vn:SV)(fs:List Tf)(ns:List ByteArray)(hfl:fs.length≤1000000)(hns:ns.length≤1000000)(t:Tx)(ht:GX t):Spec Tryz.prog 106 [.pointer (some ⟨c,0,none⟩),xV t] [] [aY c 128 [sv vp,sv vn],own 9 1 eS (sv vn) ns,cm vp fs,bK t.v t.kids] (X:=Unit) (fun _=>True) (fun _=> .int .i64 (eX fs ns t)) (fun _=> []) (fun _=> []):=
 Spec.roAll (FV c vp vn fs ns hfl hns t ht) (Gr br)
theorem fH{fs:List Tf}{ns ns2:List ByteArray}{l:List Ty}{i:Nat}{st:Ty}{z:Int}(hst:l[i]?=some st)(h:cq fs ns (l.take i)=(ns2,0))(hz:(bY fs ns2 st).2=z)(hz0:z≠0):(cq fs ns l).2=z:=by
 have h1:=uv fs ns (l.take (i+1)) (l.drop (i+1));rw [List.take_append_drop,qY hst,h]at h1;rw [h1];show fst (fst 0 (bY fs ns2 st).2) _=z;rw [h_,hz,jC hz0]
theorem Lf{fs:List Tf}{ns ns2 ns3:List ByteArray}{l:List Ty}{i:Nat}{st:Ty}(hst:l[i]?=some st)(h:cq fs ns (l.take i)=(ns2,0))(hz:bY fs ns2 st=(ns3,0)):cq fs ns (l.take (i+1))=(ns3,0):=by
 rw [qY hst,h];show((bY fs ns2 st).1,fst 0 (bY fs ns2 st).2)=_;rw [hz];rfl
theorem OJ{fs:List Tf}{ns:List ByteArray}{st:Ty}(h2:st.kind=2)(hm:bX st.name ns=false):(bY fs ns st).2=21:=by
 rw [s5];show fst (aE ns st) _=21;have h:aE ns st=21:=by unfold aE;rw [if_pos h2,hm];rfl
 rw [h];rfl
theorem Lm{ns:List ByteArray}{st:Ty}(h:¬(st.kind=2∧bX st.name ns=false)):aE ns st=0:=by
 unfold aE;by_cases h2:st.kind=2
 ·rw [if_pos h2];by_cases hm:bX st.name ns=true
  ·rw [if_pos hm]
  ·exact absurd ⟨h2,by simpa using hm⟩ h
 ·rw [if_neg h2]
theorem QQ{ns:List ByteArray}{st:Ty}(h:¬(st.kind=1∧bX st.name ns=true)):dE ns st=0:=by
 unfold dE;by_cases h2:st.kind=1
 ·rw [if_pos h2];by_cases hm:bX st.name ns=true
  ·exact absurd ⟨h2,hm⟩ h
  ·rw [if_neg hm]
 ·rw [if_neg h2]
theorem HM{fs:List Tf}{ns:List ByteArray}{st:Ty}{e:Tx}(h1:st.kind=1)(hm:bX st.name ns=true)(he:st.es= [e]):(bY fs ns st).2=fst (eX fs ns e) 22:=by
 rw [s5];show fst (aE ns st) (fst (iA fs ns st.es) (fst (dE ns st) _))=_;rw [Lm (fun h=>by rw [h1]at h;exact absurd h.1 (by decide)),he];have h:dE ns st=22:=by unfold dE;rw [if_pos h1,if_pos hm]
 rw [h];show fst 0 (fst (fst (eX fs ns e) 0) (fst 22 _))=_;rw [h_,dc];rfl
theorem OI{fs:List Tf}{ns:List ByteArray}{st:Ty}(ha:¬(st.kind=2∧bX st.name ns=false)){z:Int}(hz:iA fs ns st.es=z)(h0:z≠0):(bY fs ns st).2=z:=by
 rw [s5];show fst (aE ns st) (fst (iA fs ns st.es) _)=_;rw [Lm ha,h_,hz,jC h0]
theorem Lh{fs:List Tf}{ns:List ByteArray}{st:Ty}(ha:¬(st.kind=2∧bX st.name ns=false))(hd:¬(st.kind=1∧bX st.name ns=true))(hz:iA fs ns st.es=0):bY fs ns st=((cq fs (cq fs (dN ns st) st.body).1 st.els).1,fst (cq fs (dN ns st) st.body).2 (cq fs (cq fs (dN ns st) st.body).1 st.els).2):=by
 rw [s5,Lm ha,QQ hd,hz];rfl
theorem J9{t:Ty}(h:rY t=true)(hk:t.kind≠3):∃e,t.es= [e]:=by
 rw [kn]at h;simp only [Bool.and_eq_true]at h;have h2:=h.1.1.1;unfold zy at h2;simp only [Bool.and_eq_true,decide_eq_true_eq]at h2;have h3:=h2.1.1.1.2;rw [if_neg hk]at h3;exact List.length_eq_one_iff.1 h3
structure Xn where
 i:Nat
 vn:SV
 ns:List ByteArray
theorem FL(c:Nat)(vp:SV)(fs:List Tf)(hfl:fs.length≤1000000)(v:SV)(l:List Ty)(hl:l.length≤1000000)(hg:GYs l)(hr:l.all rY=true)(ih:∀u∈l,O6 c vp fs u.vb u.body∧O6 c vp fs u.vl u.els)(vn:SV)(ns:List ByteArray)(hb:ns.length+cD l≤1000000):
  Spec Tryz.prog 60 [.pointer (some ⟨c,0,none⟩),sv v] [aY c 128 [sv vp,sv vn],own 9 1 eS (sv vn) ns] [bz v l,cm vp fs] (X:=SV×List ByteArray) (fun x=>(cq fs ns l).2=0→x.2=(cq fs ns l).1) (fun _=> .int .i64 (cq fs ns l).2) (fun x=> [aY c 128 [sv vp,sv x.1],own 9 1 eS (sv x.1) x.2]) (fun _=> []):=by
 refine aF Tryz.func60 J Tryz.ntmps60 J fun w0 M H=>aQ 0 2 J fL (ae (aa (aj (ag J) J (ai (ae (ae (aa (aj (ag J) J (ai (aB (bk (X:=Xn) (fun x=>x.i≤l.length∧cq fs ns (l.take x.i)=(x.ns,0)) (fun x=> [(0,.pointer (some ⟨c,0,none⟩)),(1,sv v),(5,.int .i64 (x.i:Int))]) (fun x=> [(0,aY c 128 [sv vp,sv x.vn]),(1,own 9 1 eS (sv x.vn) x.ns)]) (fun x=> [(0,bz v l),(2,sl 5 ec (sv v) l),(1,cm vp fs)]) (fun x=>l.length-x.i) ⟨0,vn,ns⟩ ⟨Nat.zero_le _,J⟩ J J J (fun x hx0=> ?_))))))))))))
 obtain⟨i,vn2,ns2⟩:=x;obtain⟨n1,n2⟩:=hx0;dsimp only at n1 n2 ⊢;have hnl2:ns2.length=ns.length+cD (l.take i):=by have h:=jL fs ns (l.take i);rw [n2]at h;exact h
 have hvl2:=kG (l.take i) (l.drop i);rw [List.take_append_drop]at hvl2;refine ae (ae (aa (aj (ac J) J (aj (ac J) J (aj (aO Tryz.underlying62 J (aK (k:=2) J)) J (aj (am J J b_) J (ai (ar J (fun h1=> ?_) (fun h1=> ?_)))))))))
 ·(try simp only [aV]at h1)
  have hi:i<l.length:=by omega
  obtain⟨st,hst⟩:∃k,l[i]?=some k:=⟨_,List.getElem?_eq_getElem hi⟩
  have hsm:=List.mem_of_getElem? hst;have hsg:=nh (hg.mem st hsm);have hry:rY st=true:=List.all_eq_true.1 hr st hsm;have hvb:=kG (l.take (i+1)) (l.drop (i+1));rw [List.take_append_drop,i7 hst]at hvb;have hvs:=Cn st;refine aQ 0 7 J (jl hsm) (aQ 0 8 J (fv hsm) (aQ 0 9 J (gl hsm) (aQ 7 10 J eL (az (ae (aB (ae (aa (aj (ac J) J (aj (ac J) J (aj (aN (j:=i) Tryz.underlying62 dA J J (aK (k:=2) J) (by first|rfl|omega) (by first|omega|(simp;done)|(simp;omega))) J (aj (aJ dA J J J (bv (aK (k:=2) J) (by intro _;rfl) hst (by rfl))) J (aT dA J J fun b6=> ?_)))))))))))));refine av (k:=6) dA J J J J J J (ai (ae (bA [22,23,24,25,26,27,28,7] _ J (aZ (V:= [(0,22,_),(1,23,_),(2,24,_),(3,25,_),(4,26,_),(5,27,_)]) [0,1,2,3,4,5] 6 [6,5,4,3,2,1,0] [7] (fun _=> [(7,7,_)]) J J (ad (aD J (ah gg J)) (ad (aD J (ak t9 J J (ap (k:=6) J J))) (ad (aD J (ac J)) (ad (aD J (aq J)) (ad (aD J (ah gW J)) (ad (aD J (ak gm J J (ap (k:=0) J J))) ay)))))) J J J J J J J J J J J (fun _ _=>J) J (bh (xs:= [.tmp 23,.tmp 27]) (k_ st.name vn2 ns2 (by omega)) yJ [] [(true,1)] [] J J J J J J J J (fun _ _=>J) (fun _ _ _=>J)) (fun _ _=>be [7] J J (ad (aD J (ag J)) ay) J J J (ae (ae (aa (aj (ah dJ J) J (aj (ak t3 J J (ap (k:=6) J J)) J (aj (am J J aS) J (aj (ac J) J (aA [] J J trivial (fun hg2=>ac J) J (aA [(33,_)] J J ⟨J,trivial⟩ (fun hg3=>bZ J) J (aj (aM J J J (by first|exact ax|exact aC|rfl)) J ?_)))))))))))))));refine ai (ar J (fun h4=> ?_) (fun h4=> ?_))
  ·have q2:st.kind=2∧bX st.name ns2=false:=by simpa using h4
   refine ae (aa (aj (ag J) J (ai (aw (aG (vn2,ns2) (fun h=>absurd h (by rw [fH hst n2 (OJ q2.1 q2.2) (by decide)];exact(by decide))) J (bx (aH J)) (by rw [fH hst n2 (OJ q2.1 q2.2) (by decide)]) [0,1] [] J J J)))))
  ·have q2:¬(st.kind=2∧bX st.name ns2=false):=by rintro ⟨a,b⟩;rw [decide_eq_true a,b]at h4;exact absurd h4 (by simp)
   refine az (ae (ae (aa (aj (ah dJ J) J (aj (ak t3 J J (ap (k:=6) J J)) J (aj (am J J aS) J (aj (ac J) J (aA [] J J trivial (fun hg5=>ac J) J (aj (aM J J J (by first|exact ax|exact aC|rfl)) J (ai (ar J (fun h6=> ?_) (fun h6=> ?_))))))))))))
   ·have q3:st.kind=1∧bX st.name ns2=true:=by simpa using h6
    obtain⟨e,hes⟩:=J9 hry (by rw [q3.1];decide);have he0:st.es[0]?=some e:=by rw [hes];rfl
    refine ae (aa (aj (ac J) J (aj (ah eO J) J (aj (ak ic J J (ap (k:=6) J J)) J (aj (aN (j:=0) Tryz.underlying59 cg J J (aK (k:=10) J) J (by rw [hes];exact Nat.zero_lt_one)) J (aj (aJ cg J J J (bv (aK (k:=10) J) (by intro _;rfl) he0 (by rfl))) J ?_))))));have hum:e∈st.es:=List.mem_of_getElem? he0;refine aQ 7 11 J (cH hum) (au (xs:= [.tmp 42,.tmp 46]) (CG c vp vn2 fs ns2 hfl (by omega) e (hsg.2.mem e hum)) ES [] [(true,0),(true,1),(false,1),(false,11)] [] J J J J J J J J (fun _ _=>J) (fun _ _ _=>J) J (fun _ _=>aj (ag J) J (ai (ae (ae (aa (aj (ac J) J (aj (am J J cW) J (ai (ar J (fun h7=> ?_) (fun h7=> ?_)))))))))))
    ·(try simp only [aV]at h7)
     have q4:eX fs ns2 e≠0:=h7;refine ae (aa (aj (ac J) J (aj (ag J) J (ai (aw (aG (vn2,ns2) (fun h=>absurd h (by rw [fH hst n2 (z:=eX fs ns2 e) (by rw [HM q3.1 q3.2 hes,jC q4]) q4];exact q4)) J (bx (aH J)) (by rw [fH hst n2 (z:=eX fs ns2 e) (by rw [HM q3.1 q3.2 hes,jC q4]) q4]) [0,1] [] J J J))))))
    ·(try simp only [aV]at h7)
     have q4:eX fs ns2 e=0:=h7;refine az (ae (aa (aj (ag J) J (ai (aw (aG (vn2,ns2) (fun h=>absurd h (by rw [fH hst n2 (z:=22) (by rw [HM q3.1 q3.2 hes,q4];rfl) (by decide)];exact(by decide))) J (bx (aH J)) (by rw [fH hst n2 (z:=22) (by rw [HM q3.1 q3.2 hes,q4];rfl) (by decide)]) [0,1] [] J J J))))))
   ·have q3:¬(st.kind=1∧bX st.name ns2=true):=by rintro ⟨a,b⟩;rw [decide_eq_true a,b]at h6;exact absurd h6 (by simp)
    refine az (ae (ae (aa (aj (ag J) J (ai (aB (bk (X:=Nat) (fun j=>j≤st.es.length∧iA fs ns2 (st.es.take j)=0) (fun j=> [(0,.pointer (some ⟨c,0,none⟩)),(1,sv v),(5,.int .i64 (i:Int)),(6,.pointer (some ⟨b6,0,none⟩)),(7,.bool (bX st.name ns2)),(9,.int .i64 (j:Int))]) (fun j=> [(0,aY c 128 [sv vp,sv vn2]),(1,own 9 1 eS (sv vn2) ns2),(6,aY b6 64 (ec st))]) (fun j=> [(0,bz v l),(2,sl 5 ec (sv v) l),(1,cm vp fs),(7,bK st.ve st.es),(8,bz st.vb st.body),(9,bz st.vl st.els),(10,sl 4 df (sv st.ve) st.es)]) (fun j=>st.es.length-j) 0 ⟨Nat.zero_le _,J⟩ J J J (fun j hy0=> ?_))))))));obtain⟨n3,n4⟩:=hy0;refine ae (ae (aa (aj (ac J) J (aj (ah eO J) J (aj (ak ic J J (ap (k:=6) J J)) J (aj (aO Tryz.underlying59 J (aK (k:=10) J)) J (aj (am J J b_) J (ai (ar J (fun h8=> ?_) (fun h8=> ?_))))))))))
    ·(try simp only [aV]at h8)
     have hj:j<st.es.length:=by omega
     obtain⟨u,hu⟩:∃k,st.es[j]?=some k:=⟨_,List.getElem?_eq_getElem hj⟩
     have hum:=List.mem_of_getElem? hu;refine az (ae (aB (ae (aa (aj (ac J) J (aj (ah eO J) J (aj (ak ic J J (ap (k:=6) J J)) J (aj (ac J) J (aj (aN (j:=j) Tryz.underlying59 cg J J (aK (k:=10) J) (by first|rfl|omega) (by first|omega|(simp;done)|(simp;omega))) J (aj (aJ cg J J J (bv (aK (k:=10) J) (by intro _;rfl) hu (by rfl))) J (aQ 7 11 J (cH hum) (au (xs:= [.tmp 58,.tmp 63]) (CG c vp vn2 fs ns2 hfl (by omega) u (hsg.2.mem u hum)) ES [] [(true,0),(true,1),(false,1),(false,11)] [] J J J J J J J J (fun _ _=>J) (fun _ _ _=>J) J (fun _ _=>aj (ag J) J ?_)))))))))))));refine ai (ae (aa (aj (ac J) J (aj (am J J cW) J (ai (ar J (fun h9=> ?_) (fun h9=> ?_)))))))
     ·(try simp only [aV]at h9)
      have q6:eX fs ns2 u≠0:=h9;refine ae (aa (aj (ac J) J (aj (ag J) J (ai (aw (aG (vn2,ns2) (fun h=>absurd h (by rw [fH hst n2 (OI q2 (uj hu n4 q6) q6) q6];exact q6)) J (bx (aH J)) (by rw [fH hst n2 (OI q2 (uj hu n4 q6) q6) q6]) [0,1] [] J J J))))))
     ·(try simp only [aV]at h9)
      have q6:eX fs ns2 u=0:=h9;refine az (aa (aj (ac J) J (aj (am J J (aX (by first|exact aU (by omega) (by omega)|rfl))) J (aj (ag J) J (ai ?_)))));refine aL (j+1) ⟨⟨by omega,by rw [kB hu,n4,q6];rfl⟩,by omega⟩ J J J
    ·(try simp only [aV]at h8)
     have hj:j=st.es.length:=by omega
     subst hj;rw [List.take_length]at n4;refine bn (bi (X:=SV) (fun _=>True) (fun y=> [(0,.pointer (some ⟨c,0,none⟩)),(1,sv v),(5,.int .i64 (i:Int)),(6,.pointer (some ⟨b6,0,none⟩))]) (fun y=> [(0,aY c 128 [sv vp,sv y]),(1,own 9 1 eS (sv y) (dN ns2 st)),(6,aY b6 64 (ec st))]) (fun y=> [(0,bz v l),(2,sl 5 ec (sv v) l),(1,cm vp fs),(7,bK st.ve st.es),(8,bz st.vb st.body),(9,bz st.vl st.els),(10,sl 4 df (sv st.ve) st.es)]) ?_ (fun vn3 _=> ?_))
     ·refine ae (aa (aj (ah dJ J) J (aj (ak t3 J J (ap (k:=6) J J)) J (aj (am J J aS) J (ai (ar J (fun h10=> ?_) (fun h10=> ?_)))))))
      ·have q7:st.kind=1:=of_decide_eq_true h10;refine bA [71,72,73,74,75,76,77,78,79,80,81] _ J (aZ (V:= [(0,71,_),(1,72,_),(2,73,_),(3,74,_),(4,75,_),(5,76,_),(6,77,_)]) [0,1,2,3,4,5,6] 7 [7,6,5] [] (fun v78=> []) J J (ad (aD J (ac J)) (ad (aD J (ac J)) (ad (aD J (aq J)) (ad (aD J (ah gW J)) (ad (aD J (ak gm J J (ap (k:=0) J J))) (ad (aD J (ah gg J)) (ad (aD J (ak t9 J J (ap (k:=6) J J))) ay))))))) J J J J J J J J J J J (fun _ _=>J) J (d7 eS st.name Tryz.underlying46 t9 J (by decide) (by decide) J J J) (fun v78 _=>aZ [0,1,2,3,4] 8 [8,7,6,5,4,3,2,1] [9,10] (fun v79=> [(9,80,_),(10,81,_)]) J J (ad (aD J (ac J)) (ad (aD J (ac J)) (ad (aD J (aq J)) (ad (aD J (ah gW J)) (ad (aD J (ak gm J J (ap (k:=0) J J))) ay))))) J J J J J J J J J J J (fun _ _=>J) J (g_ 1 Tryz.underlying46 t9 J (by decide) (fun _=>J) (fun _=>J) J J J (bj (k:=78) J) (by simp only [List.length_singleton];omega) (by unfold maxLen;simp only [List.length_singleton];omega)) (fun v79 _=>bB [9,10,0] 11 [11,10,9,8,7,6,5,4,3,2,1,0] [] (fun _=> []) J J (ad (aD J (aq J)) (ad (aD J (ah gW J)) (ad (aD J (ac J)) ay))) J J J J J J J J J (fun _ _=>J) J (cy (k:=0) gm J J J J J J J J) (fun _ _=>be [] J J ay J J J ?_))));refine aL v79 trivial J (by rw [show dN ns2 st=ns2++ [st.name]from if_pos q7];rfl) J
      ·have q7:¬st.kind=1:=of_decide_eq_false h10;refine az (aL vn2 trivial J (by rw [show dN ns2 st=ns2 from if_neg q7];rfl) J)
     ·refine ae (aa (aj (ac J) J (aj (ah e9 J) J (aj (ak gZ J J (ap (k:=6) J J)) J (au (xs:= [.tmp 82,.tmp 84]) ((ih st hsm).1 vn3 (dN ns2 st) (by rw [uo];omega)) K_ [0,1] [(false,8),(false,1)] [0,1] J J J J J J J J (fun _ _=>J) (fun _ _ _=>J) J (fun⟨vn4,ns4⟩ h4=> ?_))))));dsimp only at h4 ⊢;refine aj (ag J) J (ai (bi (X:=SV×List ByteArray) (fun y=>fst (cq fs (dN ns2 st) st.body).2 (cq fs (cq fs (dN ns2 st) st.body).1 st.els).2=0→y.2=(cq fs (cq fs (dN ns2 st) st.body).1 st.els).1) (fun y=> [(0,.pointer (some ⟨c,0,none⟩)),(1,sv v),(5,.int .i64 (i:Int)),(6,.pointer (some ⟨b6,0,none⟩)),(11,.int .i64 (fst (cq fs (dN ns2 st) st.body).2 (cq fs (cq fs (dN ns2 st) st.body).1 st.els).2))]) (fun y=> [(0,aY c 128 [sv vp,sv y.1]),(1,own 9 1 eS (sv y.1) y.2),(6,aY b6 64 (ec st))]) (fun y=> [(0,bz v l),(2,sl 5 ec (sv v) l),(1,cm vp fs),(7,bK st.ve st.es),(8,bz st.vb st.body),(9,bz st.vl st.els),(10,sl 4 df (sv st.ve) st.es)]) ?_ (fun y hy=> ?_)))
      ·refine ae (aa (aj (ac J) J (aj (am J J aS) J (ai (ar J (fun h11=> ?_) (fun h11=> ?_))))))
       ·(try simp only [aV]at h11)
        have q8:(cq fs (dN ns2 st) st.body).2=0:=h11;refine aa (aj (ac J) J (aj (ah eg J) J (aj (ak gZ J J (ap (k:=6) J J)) J (au (xs:= [.tmp 88,.tmp 90]) ((ih st hsm).2 vn4 ns4 (by rw [h4 q8,jL,uo];omega)) K_ [0,1] [(false,9),(false,1)] [0,1] J J J J J J J J (fun _ _=>J) (fun _ _ _=>J) J (fun⟨vn5,ns5⟩ h5=> ?_)))));dsimp only at h5 ⊢;rw [h4 q8]at h5 ⊢;refine aj (ag J) J (ai (aL (vn5,ns5) (fun h=>h5 (by rw [q8]at h;exact h)) (by rw [q8,h_];rfl) J J))
       ·(try simp only [aV]at h11)
        have q8:(cq fs (dN ns2 st) st.body).2≠0:=h11;refine az (aL (vn4,ns4) (fun h=>absurd h (by rw [jC q8];exact q8)) (by rw [jC q8];rfl) J J)
      ·refine ae (aa (aj (ac J) J (aj (am J J cW) J (ai (ar J (fun h12=> ?_) (fun h12=> ?_))))))
       ·(try simp only [aV]at h12)
        have q9:fst (cq fs (dN ns2 st) st.body).2 (cq fs (cq fs (dN ns2 st) st.body).1 st.els).2≠0:=h12;refine ae (aa (aj (ac J) J (aj (ag J) J (ai (aw (aG y (fun h=>absurd h (by rw [fH hst n2 (z:=fst (cq fs (dN ns2 st) st.body).2 (cq fs (cq fs (dN ns2 st) st.body).1 st.els).2) (by rw [Lh q2 q3 n4]) q9];exact q9)) J (bx (aH J)) (by rw [fH hst n2 (z:=fst (cq fs (dN ns2 st) st.body).2 (cq fs (cq fs (dN ns2 st) st.body).1 st.els).2) (by rw [Lh q2 q3 n4]) q9]) [0,1] [] J J J))))))
       ·(try simp only [aV]at h12)
        have q9:fst (cq fs (dN ns2 st) st.body).2 (cq fs (cq fs (dN ns2 st) st.body).1 st.els).2=0:=h12;refine az (aa (aj (ac J) J (aj (am J J (aX (by first|exact aU (by omega) (by omega)|rfl))) J (aj (ag J) J (ai ?_)))));refine aL ⟨i+1,y.1,y.2⟩ ⟨⟨by dsimp only;omega,Lf hst n2 (by rw [Lh q2 q3 n4,hy q9,q9])⟩,by dsimp only;omega⟩ J J J
 ·(try simp only [aV]at h1)
  have hi:i=l.length:=by omega
  subst hi;rw [List.take_length]at n2;refine bn (ae (aa (aj (ag J) J (ai (aw ?_)))));refine aG (vn2,ns2) (fun _=>by rw [n2]) J (bx (aH J)) (by rw [n2]) [0,1] [] J J J
theorem xk(c:Nat)(vp:SV)(fs:List Tf)(hfl:fs.length≤1000000):∀(n:Nat)(v:SV)(l:List Ty),SizeOf.sizeOf l<n→l.length≤1000000→GYs l→l.all rY=true→O6 c vp fs v l
 | 0,_,_,h,_,_,_=>absurd h (Nat.not_lt_zero _)
 | n+1,v,l,h,hl,hg,hr=>fun vn ns hb=>FL c vp fs hfl v l hl hg hr (fun u hu=>by
  have h1:=List.sizeOf_lt_of_mem hu;have h2:SizeOf.sizeOf u.body<SizeOf.sizeOf u∧SizeOf.sizeOf u.els<SizeOf.sizeOf u:=by
   cases u;simp only [Ty.mk.sizeOf_spec,Ty.body,Ty.els];omega
  have h3:=hg.mem u hu;have h4:=List.all_eq_true.1 hr u hu;rw [kn]at h4;simp only [Bool.and_eq_true]at h4;exact⟨xk c vp fs hfl n u.vb u.body (by omega) (dP h3).1 (dP h3).2 h4.1.2,xk c vp fs hfl n u.vl u.els (by omega) (eR h3).1 (eR h3).2 h4.2⟩) vn ns hb
theorem FM(c:Nat)(vp:SV)(fs:List Tf)(hfl:fs.length≤1000000)(v:SV)(l:List Ty)(hl:l.length≤1000000)(hg:GYs l)(hr:l.all rY=true):O6 c vp fs v l:=xk c vp fs hfl _ v l (Nat.lt_succ_self _) hl hg hr
theorem nW{fs l:List Tf}{i:Nat}{f:Tf}{z:Int}(hf:l[i]?=some f)(h0:fE fs (l.take i)=0)(h:jI fs f=z)(hz:z≠0):fE fs l=z:=by
 have h1:=nZ fs (l.take (i+1)) (l.drop (i+1));rw [List.take_append_drop,jH hf,h0,h_,h,jC hz]at h1;exact h1
theorem K4{fs:List Tf}{f:Tf}(h:pl f):jI fs f=2:=by rw [kZ,if_pos h];rfl
theorem Hy{l:List ByteArray}{i:Nat}{x:ByteArray}(hx:l[i]?=some x)(h0:qM [] (l.take i)=0)(h:bX x (l.take i)=true):qM [] l=22:=by
 have h1:=um [] (l.take (i+1)) (l.drop (i+1));rw [List.take_append_drop,qL hx,h0,h_,if_pos h]at h1;exact h1
theorem K1{fs:List Tf}{f:Tf}(h:¬pl f)(h2:qM [] f.ps=22):jI fs f=22:=by rw [kZ,if_neg h,h2];rfl
theorem EE{fs:List Tf}{f:Tf}(h:¬pl f)(h2:qM [] f.ps=0):jI fs f=(cq fs f.ps f.body).2:=by rw [kZ,if_neg h,h2];rfl
theorem K0{fs:List Tf}(h:rP fs=false):fq fs=1:=by unfold fq;rw [if_pos h]
theorem KZ{fs:List Tf}(h:rP fs=true)(h2:fs.length>16):fq fs=2:=by unfold fq;rw [if_neg (by rw [h];simp),if_pos h2]
theorem ot(vp:SV)(fs:List Tf)(hg:GP fs):
  Spec Tryz.prog 16 [.agg #[sv vp]] [] [cm vp fs] (X:=Unit) (fun _=>True) (fun _=> .int .i64 (fq fs)) (fun _=> []) (fun _=> []):=by
 refine aF Tryz.func16 J Tryz.ntmps16 J fun w0 M H=>aQ 0 1 J jm ?_
 have hgl:=hg.1;refine ae (aa (bN J J fun b1=>aj (ag J) J (ai (ae (aa (aj (aJ iZ J J J (aR (k:=1) J)) J (au (xs:= [.tmp 13]) (u9 vp fs hg) Q4 [] [(false,0)] [] J J J J J J J J (fun _ _=>J) (fun _ _ _=>J) J (fun _ _=>aj (ag J) J (ai (ae (ae (aa ?_))))))))))));refine aj (ac J) J (aj (bZ J) J (ai (ar J (fun h1=> ?_) (fun h1=> ?_))))
 ·have q1:rP fs=false:=by simpa using h1
  refine ae (aa (aj (ag J) J (ai (aw (aG () trivial J (bx (aH J)) (by rw [K0 q1]) [] [] J J J)))))
 ·have q1:rP fs=true:=by simpa using h1
  refine az (ae (ae (aa (aj (ah cV J) J (aj (ak mj J J (ap (k:=1) J J)) J (aj (aO Tryz.underlying25 J (aK (k:=1) J)) J (aj (am J J dL) J (ai (ar J (fun h2=> ?_) (fun h2=> ?_))))))))))
  ·(try simp only [aV]at h2)
   have q2:fs.length>16:=by omega
   refine ae (aa (aj (ag J) J (ai (aw (aG () trivial J (bx (aH J)) (by rw [KZ q1 q2]) [] [] J J J)))))
  ·(try simp only [aV]at h2)
   have q2:¬fs.length>16:=by omega
   refine az (ae (ae (aa (aj (ag J) J (ai (aB (bk (X:=Nat) (fun i=>i≤fs.length∧∀j f,j<i→fs[j]?=some f→qD fs f.name=(j:Int)) (fun i=> [(1,.pointer (some ⟨b1,0,none⟩)),(4,.int .i64 (i:Int))]) (fun i=> [(1,aY b1 27 [sv vp])]) (fun i=> [(0,cm vp fs),(1,sl 3 iR (sv vp) fs)]) (fun i=>fs.length-i) 0 ⟨Nat.zero_le _,fun j f h=>absurd h (Nat.not_lt_zero _)⟩ J J J (fun i hx0=> ?_))))))));obtain⟨n1,n2⟩:=hx0;refine ae (ae (aa (aj (ac J) J (aj (ah cV J) J (aj (ak mj J J (ap (k:=1) J J)) J (aj (aO Tryz.underlying25 J (aK (k:=1) J)) J (aj (am J J b_) J (ai (ar J (fun h3=> ?_) (fun h3=> ?_))))))))))
   ·(try simp only [aV]at h3)
    have hi:i<fs.length:=by omega
    obtain⟨f,hf⟩:∃k,fs[i]?=some k:=⟨_,List.getElem?_eq_getElem hi⟩
    have hfm:=List.mem_of_getElem? hf;refine az (ae (aB (ae (bA [28,29,30,31,32,33,34,35,36,37] _ J (aZ (V:= [(0,28,_),(1,29,_),(2,30,_),(3,31,_),(4,32,_),(5,33,_),(6,34,_),(8,36,_)]) [0,1,2,3,4,5,6,8] 7 [7,6,5,4,3,2,1,0] [9] (fun _=> [(9,37,_)]) J J (ad (aD J (aJ iZ J J J (aR (k:=1) J))) (ad (aD J (ah cV J)) (ad (aD J (ak mj J J (ap (k:=1) J J))) (ad (aD J (ac J)) (ad (aD J (aN (j:=i) Tryz.underlying25 fX J J (aK (k:=1) J) (by first|rfl|omega) (by first|omega|(simp;done)|(simp;omega)))) (ad (aD J (dj jD J)) (ad (aD J (ak t9 J J (iO (aK (k:=1) J) (by intro _;rfl) hf J))) (ad (aD J (ac J)) ay)))))))) J J J J J J J J J J J (fun _ _=>J) J (bh (xs:= [.tmp 28,.tmp 34]) (iz f.name vp fs hg.1) EI [] [(false,1)] [] J J J J J J J J (fun _ _=>J) (fun _ _ _=>J)) (fun _ _=>be [9,8] J J (ad (aD J (am J J cW)) (ad (aD J (ac J)) ay)) J J J (ar J (fun h4=> ?_) (fun h4=> ?_))))))))
    ·(try simp only [aV]at h4)
     have q4:¬qD fs f.name=(i:Int):=h4;refine ae (aa (aj (ag J) J (ai (aw (aG () trivial J (bx (aH J)) (by rw [EC q1 q2 (zw hf q4)]) [] [] J J J)))))
    ·(try simp only [aV]at h4)
     have q4:qD fs f.name=(i:Int):=h4;refine az (aa (aj (ac J) J (aj (am J J (aX (by first|exact aU (by omega) (by omega)|rfl))) J (aj (ag J) J (ai ?_)))));refine aL (i+1) ⟨⟨by omega,fun j g hj hgj=>by
      by_cases h:j=i
      ·subst h;rw [hf]at hgj;cases hgj;exact q4
      ·exact n2 j g (by omega) hgj⟩,by omega⟩ rfl rfl rfl
   ·(try simp only [aV]at h3)
    have hi:i=fs.length:=by omega
    subst hi;have q3:once fs=true:=mG.2 fun j g hgj=>n2 j g (List.getElem?_eq_some_iff.1 hgj).1 hgj
    refine bn (ae (aa (aj (aJ iZ J J J (aR (k:=1) J)) J (au (xs:= [.tmp 38,.const (.string (ByteArray.mk #[109,97,105,110]))]) (iz cx vp fs hg.1) EI [] [(false,1)] [] J J J J J J J J (fun _ _=>J) (fun _ _ _=>J) J (fun _ _=>aj (ag J) J (ai (ae (ae (aa (aj (ac J) J (aj (am J J b_) J (ai (ar J (fun h5=> ?_) (fun h5=> ?_))))))))))))))
    ·have hff:ce fs cx=none:=dC.1.1 (of_decide_eq_true h5);refine ae (aa (aj (ag J) J (ai (aw (aG () trivial J (bx (aH J)) (by rw [ED q1 q2 q3 hff]) [] [] J J J)))))
    ·have hq1:¬qD fs cx<0:=of_decide_eq_false h5;obtain⟨fm,hff⟩:∃f,ce fs cx=some f:=by
      cases hf:ce fs cx with
      | none=>exact absurd (dC.1.2 hf) hq1
      | some f=>exact⟨f,rfl⟩
     obtain⟨m,hxm,hfx⟩:=dC.2 fm hff;have hfmm:=List.mem_of_getElem? hfx;have hml:m<fs.length:=(List.getElem?_eq_some_iff.1 hfx).1;rw [hxm];refine aQ 0 11 J (lr hfmm) (aQ 11 12 J lu (az (ae (ae (aa (aj (ah cV J) J (aj (ak mj J J (ap (k:=1) J J)) J (aj (ac J) J (aj (aN (j:=m) Tryz.underlying25 fX J J (aK (k:=1) J) J hml) J (aj (dj dr J) J (aj (ak gm J J (iO (aK (k:=1) J) (by intro _;rfl) hfx J)) J (aj (aO Tryz.underlying46 J (aK (k:=12) J)) J (aj (am J J dL) J ?_)))))))))))));refine ai (ar J (fun h6=> ?_) (fun h6=> ?_))
     ·(try simp only [aV]at h6)
      have q6:fm.ps.length>0:=by omega
      refine ae (aa (aj (ag J) J (ai (aw (aG () trivial J (bx (aH J)) (by rw [EB q1 q2 q3 hff q6]) [] [] J J J)))))
     ·(try simp only [aV]at h6)
      have q6:¬fm.ps.length>0:=by omega
      refine az (ae (ae (aa (aj (ag J) J (ai (aB (bk (X:=Nat) (fun i=>i≤fs.length∧fE fs (fs.take i)=0) (fun i=> [(1,.pointer (some ⟨b1,0,none⟩)),(6,.int .i64 (i:Int))]) (fun i=> [(1,aY b1 27 [sv vp])]) (fun i=> [(0,cm vp fs),(1,sl 3 iR (sv vp) fs)]) (fun i=>fs.length-i) 0 ⟨Nat.zero_le _,J⟩ J J J (fun i hx0=> ?_))))))));obtain⟨n1,n2⟩:=hx0;refine ae (ae (aa (aj (ac J) J (aj (ah cV J) J (aj (ak mj J J (ap (k:=1) J J)) J (aj (aO Tryz.underlying25 J (aK (k:=1) J)) J (aj (am J J b_) J (ai (ar J (fun h7=> ?_) (fun h7=> ?_))))))))))
      ·(try simp only [aV]at h7)
       have hi:i<fs.length:=by omega
       obtain⟨f,hf⟩:∃k,fs[i]?=some k:=⟨_,List.getElem?_eq_getElem hi⟩
       have hfm:=List.mem_of_getElem? hf;have hgf:=hg.2 f hfm;have hpl:=hgf.2.2.1;have hsum:=hgf.2.2.2.2.2;have hvn:=gG f.body;have hdn:=lV f.body;have hbr:f.body.all rY=true:=by
        have h:=List.all_eq_true.1 q1 f hfm;rw [tC]at h;simp only [Bool.and_eq_true]at h;exact h.2
       refine aQ 0 7 J (lr hfm) (aQ 7 8 J lu (aQ 7 9 J jn (az (ae (aB (ae (aa (aj (ah cV J) J (aj (ak mj J J (ap (k:=1) J J)) J (aj (ac J) J (aj (aN (j:=i) Tryz.underlying25 fX J J (aK (k:=1) J) (by first|rfl|omega) (by first|omega|(simp;done)|(simp;omega))) J (aj (aJ fX J J J (bv (aK (k:=1) J) (by intro _;rfl) hf (by rfl))) J (aT fX J J fun b7=> ?_)))))))))))));refine av (k:=7) fX J J J J J J (ai (ae (aa (aj (ah iw J) J (aj (ak gZ J J (ap (k:=7) J J)) J (au (xs:= [.tmp 63]) (rl f.vb f.body hgf.2.2.2.1 hgf.2.2.2.2.1 (by omega)) BP [] [(false,9)] [] J J J J J J J J (fun _ _=>J) (fun _ _ _=>J) J (fun _ _=>aT eM J J fun b8=>av (k:=8) eM J J J J J J (ai (ae (ae (aa (aj (ah dr J) J ?_))))))))))));refine aj (ak gm J J (ap (k:=7) J J)) J (aj (aO Tryz.underlying46 J (aK (k:=8) J)) J (aj (am J J dL) J (aj (ac J) J (aA [] J J trivial (fun hg8=>ah dr J) J (aA [(70,_)] J J ⟨J,trivial⟩ (fun hg9=>ak gm J J (ap (k:=7) J J)) J (aA [(70,_),(71,_)] J J ⟨J,J,trivial⟩ (fun hg10=>aO Tryz.underlying46 J (aK (k:=8) J)) J (aA [(70,_),(71,_),(72,_)] J J ⟨J,J,J,trivial⟩ (fun hg11=>ah m6 J) J (aA [(70,_),(71,_),(72,_),(73,_)] J J ⟨J,J,J,J,trivial⟩ (fun hg12=>ak t3 J J (ap (k:=8) J J)) J (aA [(70,_),(71,_),(72,_),(73,_),(74,_)] J J ⟨J,J,J,J,J,trivial⟩ (fun hg13=>am J J (aX (by first|exact aU (by omega) (by omega)|rfl))) J (aA [(70,_),(71,_),(72,_),(73,_),(74,_),(75,_)] J J ⟨J,J,J,J,J,J,trivial⟩ (fun hg14=>am J J dL) J (aj (aM J J J (by first|exact ax|exact aC|rfl)) J (aj (ac J) J (aA [] J J trivial (fun hg15=>ah jF J) J ?_)))))))))))))
       refine aA [(79,_)] J J ⟨J,trivial⟩ (fun hg16=>ak t3 J J (ap (k:=8) J J)) J (aA [(79,_),(80,_)] J J ⟨J,J,trivial⟩ (fun hg17=>am J J dL) J (aj (aM J J J (by first|exact ax|exact aC|rfl)) J (aj (ac J) J (aA [] J J trivial (fun hg18=>ah m5 J) J (aA [(84,_)] J J ⟨J,trivial⟩ (fun hg19=>ak t3 J J (ap (k:=8) J J)) J (aA [(84,_),(85,_)] J J ⟨J,J,trivial⟩ (fun hg20=>am J J dL) J (aj (aM J J J (by first|exact ax|exact aC|rfl)) J (aj (ac J) J (aA [] J J trivial (fun hg21=>ah m4 J) J (aA [(89,_)] J J ⟨J,trivial⟩ (fun hg22=>ak t3 J J (ap (k:=8) J J)) J (aA [(89,_),(90,_)] J J ⟨J,J,trivial⟩ (fun hg23=>am J J dL) J (aj (aM J J J (by first|exact ax|exact aC|rfl)) J (ai ?_)))))))))))));refine ar J (fun h24=> ?_) (fun h24=> ?_)
       ·(try simp only [aV]at h24)
        have q8:pl f:=by rw [AJ];omega
        refine ae (aa (aj (ag J) J (ai (aw (aG () trivial J (bx (aH J)) (by rw [wu q1 q2 q3 hff q6,nW hf n2 (K4 q8) (by decide)]) [] [] J J J)))))
       ·(try simp only [aV]at h24)
        have q8:¬pl f:=by rw [AJ];omega
        refine az (ae (aa (aj (aJ iZ J J J (aR (k:=1) J)) J (aj (aP (parts:= [(0,.tmp 93)]) PH MI J J) J (bN J J fun b95=>aj (ag J) J (ai (ae (ae (aa (aj (ag J) J (ai (aB ?_))))))))))));refine cA 20 (α:=ByteArray) (S:=9) (s:=1) (enc:=eS) (bk (X:=Nat×SV) (fun x=>x.1≤f.ps.length∧qM [] (f.ps.take x.1)=0) (fun x=> [(1,.pointer (some ⟨b1,0,none⟩)),(6,.int .i64 (i:Int)),(7,.pointer (some ⟨b7,0,none⟩)),(9,.pointer (some ⟨b95,0,none⟩)),(10,.int .i64 (x.1:Int))]) (fun x=> [(1,aY b1 27 [sv vp]),(7,aY b7 66 (iR f)),(95,aY b95 128 [sv vp,sv x.2]),(20,own 9 1 eS (sv x.2) (f.ps.take x.1))]) (fun x=> [(0,cm vp fs),(1,sl 3 iR (sv vp) fs),(7,y_ f),(8,sl 1 eS (sv f.vp) f.ps),(9,bz f.vb f.body)]) (fun x=>f.ps.length-x.1) (0,bw) ⟨Nat.zero_le _,J⟩ J J J (fun x hy0=> ?_));obtain⟨j,vn⟩:=x;obtain⟨n3,n4⟩:=hy0;dsimp only at n3 n4 ⊢;refine ae (ae (aa (aj (ac J) J (aj (ah dr J) J (aj (ak gm J J (ap (k:=7) J J)) J (aj (aO Tryz.underlying46 J (aK (k:=8) J)) J (aj (am J J b_) J (ai (ar J (fun h25=> ?_) (fun h25=> ?_))))))))))
        ·(try simp only [aV]at h25)
         have hj:j<f.ps.length:=by omega
         obtain⟨x,hx⟩:∃k,f.ps[j]?=some k:=⟨_,List.getElem?_eq_getElem hj⟩
         refine az (ae (aB (ae ?_)));refine bA [103,104,105,106,107,108,109,110,111,112,11] _ J (aZ (V:= [(0,103,_),(1,104,_),(2,105,_),(3,106,_),(4,107,_),(5,108,_),(6,109,_),(7,110,_),(8,111,_)]) [0,1,2,3,4,5,6,7,8] 9 [9,8,7,6,5,4,3,2,1,0] [10] (fun _=> [(10,11,_)]) J J (ad (aD J (ah dr J)) (ad (aD J (ak gm J J (ap (k:=7) J J))) (ad (aD J (ac J)) (ad (aD J (aN (j:=j) Tryz.underlying46 t9 J J (aK (k:=8) J) (by first|rfl|omega) (by first|omega|(simp;done)|(simp;omega)))) (ad (aD J (ak t9 J J (bv (aK (k:=8) J) (by intro _;rfl) hx (by rfl)))) (ad (aD J (ac J)) (ad (aD J (aq J)) (ad (aD J (ah gW J)) (ad (aD J (ak gm J J (ap (k:=95) J J))) ay))))))))) J J J J J J J J J J J (fun _ _=>J) J (bh (xs:= [.tmp 107,.tmp 111]) (k_ x vn (f.ps.take j) (by rw [List.length_take];omega)) yJ [] [(true,20)] [] J J J J J J J J (fun _ _=>J) (fun _ _ _=>J)) (fun _ _=>be [10] J J (ad (aD J (ag J)) ay) J J J ?_));refine ae (ae (aa (aj (ac J) J (ai (ar J (fun h26=> ?_) (fun h26=> ?_))))))
         ·have q10:bX x (f.ps.take j)=true:=h26;refine ae (aa (aj (ag J) J (ai (aw (aG () trivial J (bx (aH J)) (by rw [wu q1 q2 q3 hff q6,nW hf n2 (K1 q8 (Hy hx n4 q10)) (by decide)]) [] [] J J J)))))
         ·have q10:bX x (f.ps.take j)=false:=h26;refine az ?_;refine bA [114,115,116,117,118,119,120,121,122,123,124,125,126,127] _ J (aZ (V:= [(0,114,_),(1,115,_),(2,116,_),(3,117,_),(4,118,_),(5,119,_),(6,120,_),(7,121,_),(8,122,_),(9,123,_)]) [0,1,2,3,4,5,6,7,8,9] 10 [10,9,8,7,6,5] [] (fun v124=> []) J J (ad (aD J (ac J)) (ad (aD J (ac J)) (ad (aD J (aq J)) (ad (aD J (ah gW J)) (ad (aD J (ak gm J J (ap (k:=95) J J))) (ad (aD J (ah dr J)) (ad (aD J (ak gm J J (ap (k:=7) J J))) (ad (aD J (ac J)) (ad (aD J (aN (j:=j) Tryz.underlying46 t9 J J (aK (k:=8) J) (by first|rfl|omega) (by first|omega|(simp;done)|(simp;omega)))) (ad (aD J (ak t9 J J (bv (aK (k:=8) J) (by intro _;rfl) hx (by rfl)))) ay)))))))))) J J J J J J J J J J J (fun _ _=>J) J (d7 eS x Tryz.underlying46 t9 J (by decide) (by decide) J J J) (fun v124 _=>aZ [0,1,2,3,4] 11 [11,10,9,8,7,6,5,4,3,2,1] [12,13] (fun v125=> [(12,126,_),(13,127,_)]) J J (ad (aD J (ac J)) (ad (aD J (ac J)) (ad (aD J (aq J)) (ad (aD J (ah gW J)) (ad (aD J (ak gm J J (ap (k:=95) J J))) ay))))) J J J J J J J J J J J (fun _ _=>J) J (g_ 20 Tryz.underlying46 t9 J (by decide) (fun _=>J) (fun _=>J) J J J (bj (k:=124) J) (by rw [List.length_take];simp only [List.length_singleton];omega) (by unfold maxLen;rw [List.length_take];simp only [List.length_singleton];omega)) (fun v125 _=>bB [12,13,0] 14 [14,13,12,11,10,9,8,7,6,5,4,3,2,1,0] [] (fun _=> []) J J (ad (aD J (aq J)) (ad (aD J (ah gW J)) (ad (aD J (ac J)) ay))) J J J J J J J J J (fun _ _=>J) J (cy (k:=95) gm J J J J J J J J) (fun _ _=>be [] J J ay J J J ?_))));refine aa (aj (ac J) J (aj (am J J (aX (by first|exact aU (by omega) (by omega)|rfl))) J (aj (ag J) J (ai ?_))));refine aL (j+1,v125) ⟨⟨by dsimp only;omega,by dsimp only;rw [qL hx,n4,if_neg (by rw [q10];simp)];rfl⟩,by dsimp only;omega⟩ J (by dsimp only;rw [bM hx];rfl) J
        ·(try simp only [aV]at h25)
         have hj:j=f.ps.length:=by omega
         subst hj;rw [List.take_length]at n4;rw [List.take_length];refine bn (ae (aa (aj (ac J) J (aj (ah iw J) J (aj (ak gZ J J (ap (k:=7) J J)) J (au (xs:= [.tmp 128,.tmp 130]) (FM b95 vp fs hg.1 f.vb f.body hgf.2.2.2.1 hgf.2.2.2.2.1 hbr vn f.ps (by omega)) K_ [95,20] [(false,9),(false,0)] [95,20] J J J J J J J J (fun _ _=>J) (fun _ _ _=>J) J (fun⟨vn2,ns2⟩ _=> ?_)))))));dsimp only;refine aj (ag J) J (ai (ae (aa (aj (ac J) J (aj (am J J cW) J (ai (ar J (fun h27=> ?_) (fun h27=> ?_))))))))
         ·(try simp only [aV]at h27)
          have q11:(cq fs f.ps f.body).2≠0:=h27;refine ae (aa (aj (ac J) J (aj (ag J) J (ai (aw (aG () trivial J (bx (aH J)) (by rw [wu q1 q2 q3 hff q6,nW hf n2 (EE q8 n4) q11]) [] [] J J J))))))
         ·(try simp only [aV]at h27)
          have q11:(cq fs f.ps f.body).2=0:=h27;refine az (aa (aj (ac J) J (aj (am J J (aX (by first|exact aU (by omega) (by omega)|rfl))) J (aj (ag J) J (ai ?_)))));refine aL (i+1) ⟨⟨by omega,by rw [jH hf,n2,EE q8 n4,q11];rfl⟩,by omega⟩ J J J
      ·(try simp only [aV]at h7)
       have hi:i=fs.length:=by omega
       subst hi;rw [List.take_length]at n2;refine bn (ae (aa (aj (ag J) J (ai (aw (aG () trivial J (bx (aH J)) (by rw [wu q1 q2 q3 hff q6,n2]) [] [] J J J))))))
theorem LW{vp vi vo:SV}{mem:Nat→Int}{fuel used er:Int}:((xC vp vi vo mem fuel used er).drop 3).take (((List.range 256).map mem).flatMap eU).length=((List.range 256).map mem).flatMap eU:=by
 rw [Ar,List.map_map];show List.take _ ((List.range 256).map (fun i=>Value.int .u32 (mem i))++_)=_;rw [List.take_append_of_le_length (by simp),List.take_of_length_le (by simp)];rfl
theorem F6{α:Type}{b o n:Nat}{S:TypeId}{c:List Value}{enc:α→List Value}{s:Nat}{l:List α}(hl:l.length=n)(hn:n≤maxLen)(hc:(c.drop o).take (l.flatMap enc).length=l.flatMap enc):∀w G,(aY b S c).pred w G→(sl s enc (sv ⟨some ⟨b,o,none⟩,n,n⟩) l).pred w G:=fun w G h=>by
 refine⟨n,by omega,hn,.inr ⟨b,o,by rw [hl];rfl,(h.1 b).2 rfl,fun j u hj=> ?_⟩⟩;simp only [World.cell?,h.2];rw [←hc,List.getElem?_take]at hj;split at hj
 ·rw [List.getElem?_drop]at hj;simpa using hj
 ·simp at hj
theorem Jl(m:Nat)(vin vp:SV)(ins:List Int)(fs:List Tf)(fuel:Int):j8 ⟨⟨m,0,0,0,vin,ins,fs⟩,vp,fuel⟩ (xS ⟨⟨m,0,0,0,vin,ins,fs⟩,vp,fuel⟩ (zG ins fuel) bw)=xC vp vin bw (fun _=>0) fuel 0 0:=by
 unfold j8 xS zG;dsimp only;rw [Nat.sub_self,Int.sub_self];rfl
theorem CV(vp vin:SV)(fs:List Tf)(ins:List Int)(fuel:Int)(hg:GP fs)(hi:∀x∈ins,oW x)(hil:ins.length≤1000000)(hf: -1000000000000000000≤fuel∧fuel≤1000000000000)(hc:fq fs≠0):
  Spec Tryz.prog 64 [.agg #[sv vp],sv vin,.int .i64 fuel] [] [cm vp fs,sl 1 eU (sv vin) ins] (X:=SV×SV) (fun _=>True) (fun x=> .agg #[sv x.1,sv x.2,.int .i64 (⟨fq fs,[],[]⟩:Ru).err]) (fun x=> [sl 1 eU (sv x.1) (⟨fq fs,[],[]⟩:Ru).out,sl 1 eU (sv x.2) (⟨fq fs,[],[]⟩:Ru).mem]) (fun _=> []):=by
 refine aF Tryz.func64 J Tryz.ntmps64 J fun w0 M H=>ae (aa (bN J J fun b3=>aT nC J J fun b6=>ai (ae (aa (aj (aJ iZ J J J (aR (k:=3) J)) J (au (xs:= [.tmp 9]) (ot vp fs hg) N9 [] [(false,0)] [] J J J J J J J J (fun _ _=>J) (fun _ _ _=>J) J (fun _ _=>aj (ag J) J (ai (ae (ae ?_))))))))))
 refine aa (aj (ac J) J (aj (am J J cW) J (ai (ar J (fun h1=> ?_) (fun h1=> ?_)))))
 ·(try simp only [aV]at h1)
  refine ae (aa (aj (ac J) J (aj (aP (parts:= [(2,.tmp 13)]) nC C7 J J) J (av (k:=6) nC J J J J J J (ai (aw (cA 20 (α:=Int) (S:=41) (s:=1) (enc:=eU) (cA 21 (α:=Int) (S:=41) (s:=1) (enc:=eU) (dv (k:=20) (A':=sl 1 eU (sv bw) []) J br (dv (k:=21) (A':=sl 1 eU (sv bw) []) J br (aG (bw,bw) trivial J (bx (aW nC J J J (aR (k:=6) J))) J [20,21] [] J J J)))))))))))
 ·exact absurd (by simpa using h1) hc
theorem F4(vp vin:SV)(fs:List Tf)(ins:List Int)(fuel:Int)(hg:GP fs)(hi:∀x∈ins,oW x)(hil:ins.length≤1000000)(hf: -1000000000000000000≤fuel∧fuel≤1000000000000)(hc:fq fs=0)(f:Tf)(hm:Fine fs f)(g:Nat)(r:Re Int)(hr:jS g fs 0 f [] (zG ins fuel)=some r):
  Spec Tryz.prog 64 [.agg #[sv vp],sv vin,.int .i64 fuel] [] [cm vp fs,sl 1 eU (sv vin) ins] (X:=SV×SV) (fun _=>True) (fun x=> .agg #[sv x.1,sv x.2,.int .i64 (Bb r).err]) (fun x=> [sl 1 eU (sv x.1) (Bb r).out,sl 1 eU (sv x.2) (Bb r).mem]) (fun _=> []):=by
 refine aF Tryz.func64 J Tryz.ntmps64 J fun w0 M H=>ae (aa (bN J J fun b3=>aT nC J J fun b6=>ai (ae (aa (aj (aJ iZ J J J (aR (k:=3) J)) J (au (xs:= [.tmp 9]) (ot vp fs hg) N9 [] [(false,0)] [] J J J J J J J J (fun _ _=>J) (fun _ _ _=>J) J (fun _ _=>aj (ag J) J (ai (ae (ae ?_))))))))))
 refine aa (aj (ac J) J (aj (am J J cW) J (ai (ar J (fun h1=> ?_) (fun h1=> ?_)))))
 ·exact absurd hc (by simpa using h1)
 ·(try simp only [aV]at h1)
  refine az (ae (aa (aj (aJ iZ J J J (aR (k:=3) J)) J (aj (ac J) J (aj (ac J) J (aj (aP (cs:=(xC vp vin bw (fun _=>0) fuel 0 0).toArray) (parts:= [(0,.tmp 15),(1,.tmp 16),(4,.tmp 17)]) PE ME J (by kernel_rfl)) J (bN J J fun b19=>aj (ag J) J (ai (ae (aa (aj (ac J) J (cA 1 (α:=Int) (S:=41) (s:=1) (enc:=eU) ?_))))))))))));refine F9 3 (α:=Int) (s:=1) (enc:=eU) ?_;refine dv (k:=19) (A':=aY b19 204 (j8 (⟨⟨b19,0,0,0,vin,ins,fs⟩,vp,fuel⟩:Rn) (xS (⟨⟨b19,0,0,0,vin,ins,fs⟩,vp,fuel⟩:Rn) (zG ins fuel) bw))) J (fun _ _ h=>by rw [Jl];exact h) ?_;refine au (xs:= [.tmp 20,.const (.string (ByteArray.mk #[109,97,105,110])),.const (.slice Option.none 0 0),.const (.int .i64 1)]) (GT (e:=(⟨⟨b19,0,0,0,vin,ins,fs⟩,vp,fuel⟩:Rn)) hm.vf hf.1 (by show fuel≤_;omega) (by have:=hm.len;show fs.length≤_;omega) g cx f 0 bw [] (zG ins fuel) bw r hm.main (by simp) (by simp) (by omega) ⟨xR hi hf.2,⟨0,Nat.zero_le _,J⟩⟩ hr) I_ [19,1] [(false,3),(false,0),(false,1)] [19,1] J J J J J J J J (fun _ _=>J) (fun _ _ _=>J) J (fun y hy=> ?_);obtain⟨a,x⟩:=y;dsimp only at hy ⊢;refine ai (ae (ae (aa (aj (ac J) J (aj (aq J) J (aj (ah fh J) J (aj (ak ni J J (ap (k:=19) J j9)) J (aj (am J J cW) J (ai (ar J (fun h2=> ?_) (fun h2=> ?_)))))))))))
  ·(try simp only [aV]at h2)
   have hz:r= .err x.er:=by
    rcases hy with⟨s2,vo2,z1,z2⟩|⟨z1,z2⟩
    ·dsimp only at z2;rw [z2]at h2;exact absurd J h2
    ·exact z2
   subst hz;refine ae (aa (aj (ac J) J (aj (aq J) J (aj (ah fh J) J (aj (ak ni J J (ap (k:=19) J j9)) J (aj (aP (parts:= [(2,.tmp 30)]) nC C7 J J) J (av (k:=6) nC J J J J J J (ai (aw (cA 20 (α:=Int) (S:=41) (s:=1) (enc:=eU) (cA 21 (α:=Int) (S:=41) (s:=1) (enc:=eU) (dv (k:=20) (A':=sl 1 eU (sv bw) []) J br (dv (k:=21) (A':=sl 1 eU (sv bw) []) J br ?_)))))))))))));refine aG (bw,bw) trivial J (bx (aW nC J J J (aR (k:=6) J))) J [20,21] [] J J J
  ·(try simp only [aV]at h2)
   obtain⟨s2,vo2,hz,hx1⟩:∃s2 vo2,r= .ok a s2∧x=xS (⟨⟨b19,0,0,0,vin,ins,fs⟩,vp,fuel⟩:Rn) s2 vo2:=by
    rcases hy with h|⟨z1,z2⟩
    ·exact h
    ·exact absurd h2 z1
   subst hz hx1;refine az (ae (bA [32,33,34,35,36,37,38,39,40] _ J (bB (V:= [(0,32,_),(1,33,_),(2,34,_),(3,35,_),(4,36,_),(5,37,_),(6,38,_),(7,39,_),(8,40,_)]) [0,1,2,3,4,5,6,7,8] 9 [9,8,7,6,5,4,3,2,1,0] [] (fun _=> []) J J (ad (aD J (ac J)) (ad (aD J (aq J)) (ad (aD J (ah uc J)) (ad (aD J (ak oz J J (ap (k:=19) J J))) (ad (aD J (ac J)) (ad (aD J (aq J)) (ad (aD J (ah ub J)) (ad (aD J (og Tryz.underlying202 cr J (by decide))) (ad (aD J (aP (parts:= [(0,.tmp 35),(1,.tmp 39)]) nC C7 J J)) ay))))))))) J J J J J J J J J (fun _ _=>J) J (bE (k:=6) nC J J J J J J) (fun _ _=>be [] J J ay J J J (aw (dv (k:=19) (A':=sl 1 eU (sv ⟨some ⟨b19,3,none⟩,256,256⟩) ((List.range 256).map s2.mem)) J (F6 (by simp) (by unfold maxLen;omega) LW) (dv (k:=1) (A':=sl 1 eU (sv vo2) s2.out) J br (aG (vo2,⟨some ⟨b19,3,none⟩,256,256⟩) trivial J (bx (aW nC J J J (aR (k:=6) J))) J [1,19] [] J J J))))))))
theorem Ba(vp vin:SV)(fs:List Tf)(ins:List Int)(fuel:Int)(hg:GP fs)(hi:∀x∈ins,oW x)(hil:ins.length≤1000000)(hf: -1000000000000000000≤fuel∧fuel≤1000000000000)(ru:Ru)(hru:RunIs fs ins fuel ru):
  Spec Tryz.prog 64 [.agg #[sv vp],sv vin,.int .i64 fuel] [] [cm vp fs,sl 1 eU (sv vin) ins] (X:=SV×SV) (fun _=>True) (fun x=> .agg #[sv x.1,sv x.2,.int .i64 ru.err]) (fun x=> [sl 1 eU (sv x.1) ru.out,sl 1 eU (sv x.2) ru.mem]) (fun _=> []):=by
 cases hru with
 | bad h=>exact CV vp vin fs ins fuel hg hi hil hf h
 | run f g r h hfm he=>
  obtain⟨f2,hf2⟩:=jg hg h;have:f2=f:=by
   have:=hf2.main;rw [hfm]at this;exact(Option.some.inj this).symm
  subst this;exact F4 vp vin fs ins fuel hg hi hil hf h f2 hf2 g r he
theorem kA{t:Tx}{k n:Int}{nm:ByteArray}{ps:List Px}(h:ma t= .mk k n nm ps):∃v kids,t= .mk k n nm v kids∧fW kids=ps:=by
 cases t with
 | mk k2 n2 nm2 v kids=>
  rw [ma]at h;injection h with h1 h2 h3 h4;subst h1;subst h2;subst h3;exact⟨v,kids,J,h4⟩
theorem kz{ts:List Tx}(h:fW ts= []):ts= []:=by
 cases ts with
 | nil=>rfl
 | cons t r=>rw [fW]at h;cases h
theorem nT{ts:List Tx}{p:Px}{ps:List Px}(h:fW ts=p::ps):∃t r,ts=t::r∧ma t=p∧fW r=ps:=by
 cases ts with
 | nil=>rw [fW]at h;cases h
 | cons t r=>rw [fW]at h;injection h with h1 h2;exact⟨t,r,rfl,h1,h2⟩
theorem qG{ts:List Tx}{p:Px}(h:fW ts= [p]):∃t,ts= [t]∧ma t=p:=by
 obtain⟨t,r,rfl,h1,h2⟩:=nT h;rw [kz h2];exact⟨t,J,h1⟩
theorem Eo{ts:List Tx}{p q:Px}(h:fW ts= [p,q]):∃t u,ts= [t,u]∧ma t=p∧ma u=q:=by
 obtain⟨t,r,rfl,h1,h2⟩:=nT h;obtain⟨u,rfl,h3⟩:=qG h2;exact⟨t,u,J,h1,h3⟩
theorem tS{k n:Int}{nm:ByteArray}{v:SV}(d:Nat)(hn:oW n)(hm:wS nm):GX (.mk k n nm v [])∧nX (.mk k n nm v [])≤5^(d+1):=
 ⟨⟨hn,hm,Nat.zero_le _,trivial⟩,by rw [nX,dU];exact Nat.one_le_pow _ _ (by decide)⟩
theorem Gf(d:Nat):5^(d+1+1)=5*5^(d+1)∧5≤5^(d+1):=by
 have h1:1≤5^d:=Nat.one_le_pow _ _ (by decide);have h2:5^(d+1)=5^d*5:=Nat.pow_succ ..;have h3:5^(d+1+1)=5^(d+1)*5:=Nat.pow_succ ..;omega
theorem Df{k n:Int}{nm:ByteArray}{v:SV}{d:Nat}{t:Tx}(hn:oW n)(hm:wS nm)(h:GX t∧nX t≤5^(d+1)):GX (.mk k n nm v [t])∧nX (.mk k n nm v [t])≤5^(d+1+1):=
 ⟨⟨hn,hm,by show 1≤1000000;decide,h.1,trivial⟩,by rw [nX,dU,dU];have:=Gf d;have:=h.2;omega⟩
theorem Jr{k n:Int}{nm:ByteArray}{v:SV}{d:Nat}{t u:Tx}(hn:oW n)(hm:wS nm)(h:GX t∧nX t≤5^(d+1))(h2:GX u∧nX u≤5^(d+1)):GX (.mk k n nm v [t,u])∧nX (.mk k n nm v [t,u])≤5^(d+1+1):=
 ⟨⟨hn,hm,by show 2≤1000000;decide,h.1,h2.1,trivial⟩,by rw [nX,dU,dU,dU];have:=Gf d;have:=h.2;have:=h2.2;omega⟩
theorem OC{x:Int}{j:Nat}(h:cL[j]?=some x):oW x:=by
 have h1:=List.mem_of_getElem? h;simp only [cL,List.mem_cons,List.not_mem_nil,or_false]at h1;rcases h1 with rfl|rfl|rfl|rfl|rfl|rfl|rfl|rfl|rfl|rfl|rfl|rfl|rfl|rfl|rfl<;>decide
theorem Jq{x:ByteArray}{j:Nat}(h:wN[j]?=some x):wS x:=by
 have h1:=List.mem_of_getElem? h;simp only [wN,List.mem_cons,List.not_mem_nil,or_false]at h1;rcases h1 with rfl|rfl|rfl<;>exact qg J
theorem Ld{x:ByteArray}{j:Nat}(h:Rf[j]?=some x):wS x:=by
 have h1:=List.mem_of_getElem? h;simp only [Rf,List.mem_cons,List.not_mem_nil,or_false]at h1;rcases h1 with rfl|rfl|rfl|rfl|rfl|rfl|rfl|rfl|rfl|rfl|rfl|rfl|rfl|rfl|rfl|rfl<;>exact qg J
def Nm(s:Gs):Prop:=∀x∈s.names,wS x
theorem Nm.same{s s':Gs}(h:Nm s)(k:s'.names=s.names):Nm s':=by unfold Nm;rw [k];exact h
def Ry(c:Gc):Prop:=∀f∈c.fs,wS f.1∧f.2.length≤4
mutual
theorem GXr.gx{c:Gc}(hc:Ry c):∀{d:Nat}{s s':Gs}{p:Px},GXr c d s p s'→Nm s→∀t,ma t=p→GX t∧nX t≤5^(d+1)
 | d,s,_,_,.nam hk h hn hj hx,hs,t,ht=>by
  obtain⟨v,kids,rfl,hkk⟩:=kA ht;cases kz hkk;exact tS d l8 (hs _ ((jR hk).1▸List.mem_of_getElem? hx))
 | d,s,_,_,.inp hk,hs,t,ht=>by
  obtain⟨v,kids,rfl,hkk⟩:=kA ht;cases kz hkk;exact tS d l8 (qg J)
 | _,s,_,_,.mem hk h hp,hs,t,ht=>by
  obtain⟨v,kids,rfl,hkk⟩:=kA ht;obtain⟨t1,rfl,h1⟩:=qG hkk;exact Df l8 (qg J) (hp.gx hc (hs.same (jR hk).1) t1 h1)
 | _,s,_,_,.una hk hj hx hp,hs,t,ht=>by
  obtain⟨v,kids,rfl,hkk⟩:=kA ht;obtain⟨t1,rfl,h1⟩:=qG hkk;exact Df l8 (Jq hx) (hp.gx hc ((hs.same (jR hk).1).same (ez hj).1) t1 h1)
 | d+1,s,_,_,.call hk h hj hx hp,hs,t,ht=>by
  obtain⟨v,kids,rfl,hkk⟩:=kA ht;have hf:=hc _ (List.mem_of_getElem? hx);obtain⟨h1,h2,h3⟩:=hp.gx hc ((hs.same (jR hk).1).same (ez hj).1) kids hkk;refine⟨⟨l8,hf.1,by omega,h1⟩,?_⟩;rw [nX];have:=Gf d;have h4:_*5^(d+1)≤4*5^(d+1):=Nat.mul_le_mul_right _ hf.2;omega
 | _,s,_,_,.bin hk h hj hx hp hq,hs,t,ht=>by
  obtain⟨v,kids,rfl,hkk⟩:=kA ht;obtain⟨t1,t2,rfl,h1,h2⟩:=Eo hkk;have hs2:=(hs.same (jR hk).1).same (ez hj).1;exact Jr l8 (Ld hx) (hp.gx hc hs2 t1 h1) (hq.gx hc (hs2.same hp.keep.1) t2 h2)
 | d,s,_,_,.con hk h1 h3 h4 h5 h6 h7 h8 hj hx,hs,t,ht=>by
  obtain⟨v,kids,rfl,hkk⟩:=kA ht;cases kz hkk;exact tS d (OC hx) (qg J)
theorem GKr.gx{c:Gc}(hc:Ry c):∀{d n:Nat}{s s':Gs}{ps:List Px},GKr c d n s ps s'→Nm s→∀ts,fW ts=ps→GXs ts∧dU ts≤n*5^(d+1)∧ts.length=n
 | d,_,s,_,_,.nil,hs,ts,ht=>by
  cases kz ht;exact⟨trivial,by rw [dU];exact Nat.zero_le _,J⟩
 | d,n+1,s,_,_,.cons hp hq,hs,ts,ht=>by
  obtain⟨t,r,rfl,h1,h2⟩:=nT ht;obtain⟨a1,a2⟩:=hp.gx hc hs t h1;obtain⟨b1,b2,b3⟩:=hq.gx hc (hs.same hp.keep.1) r h2;refine⟨⟨a1,b1⟩,?_,by rw [List.length_cons,b3]⟩;rw [dU,Nat.succ_mul];omega
end
theorem GCr.gx{c:Gc}(hc:Ry c){d:Nat}{f:ByteArray×List ByteArray}{s s':Gs}{p:Px}(hf:f∈c.fs)(h:GCr c d f s p s')(hs:Nm s)(t:Tx)(ht:ma t=p):GX t∧nX t≤5^(d+1+1):=by
 obtain⟨ps,h1,rfl⟩:=h;obtain⟨v,kids,rfl,hkk⟩:=kA ht;obtain⟨h1,h2,h3⟩:=h1.gx hc hs kids hkk;have h5:=hc f hf;refine⟨⟨l8,h5.1,by omega,h1⟩,?_⟩;rw [nX];have:=Gf d;have h4:f.2.length*5^(d+1)≤4*5^(d+1):=Nat.mul_le_mul_right _ h5.2;omega
def hNames:List ByteArray:= [cx,⟨#[102]⟩,⟨#[103]⟩,⟨#[116,119,101,108,118,101,108,101,116,116,101,114]⟩]
def pNames:List ByteArray:= [⟨#[112]⟩,⟨#[113]⟩,⟨#[114]⟩,⟨#[115]⟩]
def DO(l:List Int)(i:Nat)(s:Gs):(ByteArray×List ByteArray)×Gs:=
 let q:=if 0<i then gN l 5 s else(0,s)
 ((hNames.getD i oNil,pNames.take q.1.toNat),q.2)
section
end
theorem TfIn.up{w:World}{F G:Nat→Prop}{f:Tf}(h:TfIn w G f)(hs:∀b,G b→F b):TfIn w F f:=by
 obtain⟨⟨A,a1,a2⟩,⟨⟨B,b1,b2⟩,b3⟩⟩:=h;exact⟨⟨A,a1,fun b hb=>hs b (a2 b hb)⟩,⟨⟨B,b1,fun b hb=>hs b (b2 b hb)⟩,TysIn.mono hs (fun _ _=>J) _ b3⟩⟩
theorem SlIn'.up{α:Type}{w:World}{F G:Nat→Prop}{s:Nat}{enc:α→List Value}{v:Value}{l:List α}(h:SlIn' w G s enc v l)(hs:∀b,G b→F b):SlIn' w F s enc v l:=by
 obtain⟨A,a1,a2⟩:=h;exact⟨A,a1,fun b hb=>hs b (a2 b hb)⟩
theorem COk.mv{w0:World}{M H:Nat→Prop}{Γ R:dQ}{w:World}{k k':Nat}{A:Asn}(h:COk w0 M H Γ R w)(hk:bL Γ k=some A)(hne:Nat.beq k' k=false):COk w0 M H ((k',A)::(k,Hw)::Γ) R w:=by
 obtain⟨F,hF⟩:=h;have hne':k'≠k:=fun e=>by subst e;simp at hne
 have hsub:∀j b,(if j=k' then F k else if j=k then fun _=>False else F j) b→(j=k'∧F k b)∨(j≠k'∧j≠k∧F j b):=by
  intro j b hb;split at hb
  ·exact .inl ⟨by assumption,hb⟩
  ·split at hb
   ·exact hb.elim
   ·exact .inr ⟨by assumption,by assumption,hb⟩
 refine⟨fun j=>if j=k' then F k else if j=k then fun _=>False else F j,hF.touch,?_,?_,?_,?_,?_⟩
 ·intro j B hj;simp only [bL]at hj;cases h1:Nat.beq k' j with
  | true=>
   rw [h1]at hj;simp at hj;subst hj;have:=Nat.eq_of_beq_eq_true h1;subst this;simp only [if_true];exact hF.has k A hk
  | false=>
   rw [h1]at hj;have hj1:j≠k':=fun e=>by subst e;simp at h1
   cases h2:Nat.beq k j with
   | true=>
    rw [h2]at hj;simp at hj;subst hj;have:=Nat.eq_of_beq_eq_true h2;subst this;simp only [hj1,if_false,if_true];exact fun b hb=>hb
   | false=>
    rw [h2]at hj;have hj2:j≠k:=fun e=>by subst e;simp at h2
    simp only [hj1,hj2,if_false];exact hF.has j B hj
 ·intro j b hb;rcases hsub j b hb with⟨_,hb⟩|⟨_,_,hb⟩<;>exact hF.lt _ b hb
 ·intro j b hb hlt;rcases hsub j b hb with⟨_,hb⟩|⟨_,_,hb⟩<;>exact hF.mine _ b hb hlt
 ·intro i j b hi hj;rcases hsub i b hi with⟨e1,h1⟩|⟨e1,e2,h1⟩<;>rcases hsub j b hj with⟨f1,h2⟩|⟨f1,f2,h2⟩
  ·rw [e1,f1]
  ·exact absurd (hF.apart k j b h1 h2).symm f2
  ·exact absurd (hF.apart i k b h1 h2) e2
  ·exact hF.apart i j b h1 h2
 ·intro j B hj;obtain⟨G,g1,g2⟩:=hF.ro j B hj;refine⟨G,g1,fun b hb=>⟨(g2 b hb).1,fun i hi=> ?_,(g2 b hb).2.2⟩⟩;rcases hsub i b hi with⟨_,hb'⟩|⟨_,_,hb'⟩<;>exact(g2 b hb).2.1 _ hb'
theorem tx{N:Nat}{w0:World}{M H:Nat→Prop}{E:el}{Γ R:dQ}(k k':Nat){A:Asn}{Rel:Act→World→Prop}(hk:bL Γ k=some A)(hne:Nat.beq k' k=false)(h:At N w0 M H E ((k',A)::(k,Hw)::Γ) R Rel):At N w0 M H E Γ R Rel:=
 h.weak (fun _ h=>h) fun w hC=>hC.mv hk hne
def rs(r:Int→Int)(d v:Int):Int→Int:=fun k=>if k=d then v else r k
theorem xp{pc:Int}{r:Int→Int}{st x:Int}(hx:0≤x∧x<16):(sR pc r st)[1+x.toNat*1]?=some (.int .u32 (r x)):=by
 obtain⟨k,rfl⟩:=Int.eq_ofNat_of_zero_le hx.1;have hk:k<16:=by omega
 show(sR pc r st)[1+k*1]?=_
 match k,hk with
 | 0,_=>rfl
 | 1,_=>rfl
 | 2,_=>rfl
 | 3,_=>rfl
 | 4,_=>rfl
 | 5,_=>rfl
 | 6,_=>rfl
 | 7,_=>rfl
 | 8,_=>rfl
 | 9,_=>rfl
 | 10,_=>rfl
 | 11,_=>rfl
 | 12,_=>rfl
 | 13,_=>rfl
 | 14,_=>rfl
 | 15,_=>rfl
theorem lF{pc:Int}{r:Int→Int}{st x v:Int}(hx:0≤x∧x<16):(sR pc r st).take (1+x.toNat*1)++ [Value.int .u32 v]++(sR pc r st).drop (1+x.toNat*1+1)=sR pc (rs r x v) st:=by
 obtain⟨k,rfl⟩:=Int.eq_ofNat_of_zero_le hx.1;have hk:k<16:=by omega
 show(sR pc r st).take (1+k*1)++ [Value.int .u32 v]++(sR pc r st).drop (1+k*1+1)=_
 match k,hk with
 | 0,_=>rfl
 | 1,_=>rfl
 | 2,_=>rfl
 | 3,_=>rfl
 | 4,_=>rfl
 | 5,_=>rfl
 | 6,_=>rfl
 | 7,_=>rfl
 | 8,_=>rfl
 | 9,_=>rfl
 | 10,_=>rfl
 | 11,_=>rfl
 | 12,_=>rfl
 | 13,_=>rfl
 | 14,_=>rfl
 | 15,_=>rfl
theorem PM{r:Int→Int}(h0:r 0=0):rs r 0 0=r:=by
 funext k;unfold rs;split
 ·rename_i h;rw [h,h0]
 ·rfl
theorem Mr{r:Int→Int}{d v:Int}(h0:r 0=0):rs (rs r d v) 0 0=rp r d v:=by
 funext k;unfold rs rp;by_cases h:k=0
 ·rw [if_pos h];by_cases h2:k=d∧d≠0
  ·exact absurd (h2.1.symm.trans h) h2.2
  ·rw [if_neg h2,h,h0]
 ·rw [if_neg h];by_cases h2:k=d
  ·rw [if_pos h2,if_pos ⟨h2,fun h3=>h (h2.trans h3)⟩]
  ·rw [if_neg h2,if_neg (fun h3=>h2 h3.1)]
theorem pN{pc:Int}{r:Int→Int}{st x:Int}{u:Value}(hx:0≤x∧x<16):(1+x.toNat*1+ [u].length).ble (sR pc r st).length=true:=by
 rw [Nat.ble_eq];show 1+x.toNat*1+1≤24;omega
theorem FW{pc:Int}{r:Int→Int}{st:Int}(h0:r 0=0):(sR pc r st).take 1++ [Value.int .u32 0]++(sR pc r st).drop 2=sR pc r st:=(lF (x:=0) (by decide)).trans (by rw [PM h0])
theorem uV{pc:Int}{r:Int→Int}{st d v:Int}(h0:r 0=0):(sR pc (rs r d v) st).take 1++ [Value.int .u32 0]++(sR pc (rs r d v) st).drop 2=sR pc (rp r d v) st:=(lF (x:=0) (by decide)).trans (by rw [Mr h0])
theorem ka(n:Int):0≤wU n∧wU n<4294967296:=by
 show 0≤n%4294967296∧n%4294967296<4294967296;omega
theorem w9(a b:Int):wU (a+wU b)=wU (a+b):=by
 show(a+b%4294967296)%4294967296=(a+b)%4294967296;omega
theorem L5(n:Int):IntKind.u32.wrap (IntKind.u32.wrap n/4*4)=IntKind.u32.wrap n/4*4:=by
 have:=ka n;have e:IntKind.u32.wrap n=wU n:=J;exact bC (by omega) (by omega)
structure Stx(s:Mm)(i:Qi)(pc:Int)(r:Int→Int)(st:Int):Prop where
 f:Fx s i pc
 p:pc<1000000
 h0:r 0=0
 hr:∀k,0≤r k∧r k<4294967296
 hst:0≤st∧st<1000000000000000
def oC(pc:Int)(r:Int→Int)(st k x:Int):List Value:=sR pc r st++ [.int .i64 k,.int .u32 x]
theorem mi(pc:Int)(r:Int→Int)(st k x:Int):
  Spec Tryz.prog 149 [.agg (sR pc r st).toArray,.int .i64 k,.int .u32 x] [] [] (X:=Unit) (fun _=>True) (fun _=> .agg (oC pc r st k x).toArray) (fun _=> []) (fun _=> []):=by
 refine aF Tryz.func149 J Tryz.ntmps149 J fun w0 M H=>ae (aa (bN J J fun b3=>aT la J J fun b6=>ai (ae (aa (aj (aJ wO J J J (aR (k:=3) J)) J (aj (ac J) J (aj (ac J) J (aj (aP (parts:= [(0,.tmp 8),(1,.tmp 9)]) wP JQ J J) J (aj (aP (cs:=(oC pc r st k x).toArray) (parts:= [(0,.tmp 7),(1,.tmp 10)]) la Io J (by kernel_rfl)) J (av (k:=6) la J J J J J J ?_))))))))))
 refine ai (aw (aG () trivial J (bx (aW la J J J (aR (k:=6) J))) J [] [] J J J))
def PJ:Nat→Code→Code
 | 0,c=>c
 | n+1,.seq _ b=>PJ n b
 | _+1,c=>c
def EZ(f:Func):Code:=match f.body with
 | some c=>c
 | none=> .skip
theorem fw(e:Me)(s:Mm)(n:Nat)(hs:MO s n)(i:Qi)(pc:Int)(r:Int→Int)(st:Int)(hx:Stx s i pc r st){X:Type}{φ:X→Prop}{v:X→Value}{L1 R1:X→List Asn}
  (k:∀(w0:World)(M H:Nat→Prop)(b2 b4 b6 b7:Nat),At 301 w0 M H [(1,.pointer (some ⟨e.m,0,none⟩)),(2,.pointer (some ⟨b2,0,none⟩)),(4,.pointer (some ⟨b4,0,none⟩)),(6,.pointer (some ⟨b6,0,none⟩)),(7,.pointer (some ⟨b7,0,none⟩)),(8,.int .u32 (r i.d)),(9,.int .u32 (r i.a)),(10,.int .u32 (if i.op<16 then r i.b else i.imm)),(11,.int .u32 (pc+4)),(12,.int .i64 (iL i.op))] [(20,aY e.m 157 (mR e)),(21,own 5 1 bQ (sv e.vd) s.d),(22,own 5 1 bQ (sv e.vi) s.i),(23,own 3 1 eI (sv e.vr) s.r),(2,aY b2 78 (sR pc r st)),(4,aY b4 207 (oC 0 oO 0 0 0)),(6,aY b6 118 (gC i)),(7,aY b7 78 (sR pc r st))] [] ((PJ 12 (EZ Tryz.f115)).wp Tryz.prog (bodyPost Tryz.prog Tryz.f115 (LP w0 M H φ v L1 R1)))):
  Spec Tryz.prog 115 [.agg (sR pc r st).toArray,.pointer (some ⟨e.m,0,none⟩)] [aY e.m 157 (mR e),own 5 1 bQ (sv e.vd) (s).d,own 5 1 bQ (sv e.vi) (s).i,own 3 1 eI (sv e.vr) (s).r] [] φ v L1 R1:=by
 refine aF Tryz.func115 J Tryz.ntmps115 J fun w0 M H=>tx 0 20 J J (tx 1 21 J J (tx 2 22 J J (tx 3 23 J J ?_)))
 have hdd:=hx.f.hv.d;have haa:=hx.f.hv.a;have hbb:=hx.f.hv.b;have him:=hx.f.imm;have hpp:=hx.f.p;have hp2:=hx.p;have hst:=hx.hst;refine ae (aa (bN J J fun b2=>aT la J J fun b4=>ai (ae (aa (aj (ah gL J) J (aj (ak cr J J (ap (k:=2) J J)) J (aj (ac J) J (au (xs:= [.tmp 20,.tmp 21]) (vg e s n hs i pc hx.f) Oh [20,21,22,23] [] [20,21,22,23] J J J J J J J J (fun _ _=>J) (fun _ _ _=>J) J (fun _ _=>aT AZ J J fun b5=>av (k:=5) AZ J J J J J J (ai ?_))))))))));refine ae (ae (aa (aj (ah Hg J) J (aj (dj lR J) J (aj (ak t3 J J (ap (k:=5) J J)) J (aj (am J J cW) J (ai (ar J (fun h1=> ?_) (fun h1=> ?_)))))))))
 ·cases h1
 ·(try simp only [aV]at h1)
  refine az (ae (aa (aj (ah Hh J) J (aj (aJ (us:=gC i) ed J J J (jd (k:=5) J J)) J (aT ed J J fun b6=>av (k:=6) ed J J J J J J (ai (ae (aa (aj (aJ wO J J J (aR (k:=2) J)) J (aT wO J J fun b7=>av (k:=7) wO J J J J J J (ai ?_)))))))))));refine ae (aa (aj (ah fM J) J (aj (cG (j:=0) Tryz.underlying75 cr J J (by rfl) (by decide)) J (aI (k:=7) (us:= [.int .u32 0]) (c':=sR pc r st) cr J J J J J J J (FW hx.h0) (ai (ae (aa (aj (ah fI J) J (aj (ak t3 J J (ap (k:=6) J J)) J (aj (ah fM J) J (aj (cG (j:=i.d.toNat) Tryz.underlying75 cr J J (by omega) (by omega)) J (aj (ak cr J J (ap (k:=7) J (xp hx.f.hv.d))) J (aj (ag J) J ?_)))))))))))));refine ai (ae (aa (aj (ah kV J) J (aj (ak t3 J J (ap (k:=6) J J)) J (aj (ah fM J) J (aj (cG (j:=i.a.toNat) Tryz.underlying75 cr J J (by omega) (by omega)) J (aj (ak cr J J (ap (k:=7) J (xp hx.f.hv.a))) J (aj (ag J) J (ai (ae (aa (aj (ah kU J) J (aj (ak t3 J J (ap (k:=6) J J)) J ?_)))))))))))));refine aj (ah fM J) J (aj (cG (j:=i.b.toNat) Tryz.underlying75 cr J J (by omega) (by omega)) J (aj (ak cr J J (ap (k:=7) J (xp hx.f.hv.b))) J (aj (ag J) J (ai (ae (aa (aj (ah gL J) J (aj (ak cr J J (ap (k:=7) J J)) J (aj (am J J (aX (c:=pc+4) (bC (by omega) (by omega)))) J (aj (ag J) J (ai (ae (aa ?_)))))))))))))
  refine aj (ah a_ J) J (aj (ak t3 J J (ap (k:=6) J J)) J (au (xs:= [.tmp 55]) (xt i.op) Og [] [] [] J J J J J J J J (fun _ _=>J) (fun _ _ _=>J) J (fun _ _=>aj (ag J) J (ai (bi (X:=Nat×Nat×Nat×Nat) (fun _=>True) (fun z=> [(1,.pointer (some ⟨e.m,0,none⟩)),(2,.pointer (some ⟨z.1,0,none⟩)),(4,.pointer (some ⟨z.2.1,0,none⟩)),(6,.pointer (some ⟨z.2.2.1,0,none⟩)),(7,.pointer (some ⟨z.2.2.2,0,none⟩)),(8,.int .u32 (r i.d)),(9,.int .u32 (r i.a)),(10,.int .u32 (if i.op<16 then r i.b else i.imm)),(11,.int .u32 (pc+4)),(12,.int .i64 (iL i.op))]) (fun z=> [(20,aY e.m 157 (mR e)),(21,own 5 1 bQ (sv e.vd) s.d),(22,own 5 1 bQ (sv e.vi) s.i),(23,own 3 1 eI (sv e.vr) s.r),(2,aY z.1 78 (sR pc r st)),(4,aY z.2.1 207 (oC 0 oO 0 0 0)),(6,aY z.2.2.1 118 (gC i)),(7,aY z.2.2.2 78 (sR pc r st))]) (fun z=> []) ?_ (fun⟨b2,b4,b6,b7⟩ _=> ?_))))))
  ·refine ae (aa (aj (ah a_ J) J (aj (ak t3 J J (ap (k:=6) J J)) J (aj (am J J eV) J (ai (ar J (fun h2=> ?_) (fun h2=> ?_)))))))
   ·(try simp only [aV]at h2)
    refine aa (aj (ah da J) J (aj (ak cr J J (ap (k:=6) J J)) J (aj (ag J) J (ai ?_))));refine aL (b2,b4,b6,b7) trivial (by rw [if_neg (show ¬i.op<16 by omega)];rfl) J J
   ·(try simp only [aV]at h2)
    refine az ?_;refine aL (b2,b4,b6,b7) trivial (by rw [if_pos (show i.op<16 by omega)];rfl) J J
  ·exact k w0 M H b2 b4 b6 b7
theorem fN(e:Me)(s:Mm)(pc:Int)(r1 r2:Int→Int)(st npc:Int)(hst:0≤st∧st<1000000000000000)(hz:(sR pc r1 st).take 1++ [Value.int .u32 0]++(sR pc r1 st).drop 2=sR pc r2 st){w0:World}{M H:Nat→Prop}{b4 b7:Nat}:
  At 301 w0 M H [(4,.pointer (some ⟨b4,0,none⟩)),(7,.pointer (some ⟨b7,0,none⟩)),(11,.int .u32 npc)] [(20,aY e.m 157 (mR e)),(21,own 5 1 bQ (sv e.vd) (s).d),(22,own 5 1 bQ (sv e.vi) (s).i),(23,own 3 1 eI (sv e.vr) (s).r),(4,aY b4 207 (oC 0 oO 0 0 0)),(7,aY b7 78 (sR pc r1 st))] [] ((PJ 13 (EZ Tryz.f115)).wp Tryz.prog (bodyPost Tryz.prog Tryz.f115 (LP w0 M H (X:=Unit) (fun _=>True) (fun _=> .agg (oC npc r2 (st+1) 0 0).toArray) (fun _=> [aY e.m 157 (mR e),own 5 1 bQ (sv e.vd) (s).d,own 5 1 bQ (sv e.vi) (s).i,own 3 1 eI (sv e.vr) (s).r]) (fun _=> [])))):=by
 skip;refine ae (aa (aj (ah fM J) J (aj (cG (j:=0) Tryz.underlying75 cr J J (by rfl) (by decide)) J (aI (k:=7) (us:= [.int .u32 0]) (c':=sR pc r2 st) cr J J J J J J J hz (ai (ae (aa (aj (ac J) J (aj (ah gL J) J (aI (k:=7) (us:= [.int .u32 npc]) (c':=sR npc r2 st) cr J J J J J J J J (ai (ae (aa ?_)))))))))))));refine aj (ah gJ J) J (aj (ak t3 J J (ap (k:=7) J J)) J (aj (am J J (aX (c:=st+1) (aU (by omega) (by omega)))) J (aj (ah gJ J) J (aI (k:=7) (us:= [.int .i64 (st+1)]) (c':=sR npc r2 (st+1)) t3 J J J J J J J J (ai (ae (aa (aj (aJ wO J J J (aR (k:=7) J)) J (aj (aP (cs:=(oC npc r2 (st+1) 0 0).toArray) (parts:= [(0,.tmp 299)]) la Io J (by kernel_rfl)) J (av (k:=4) la J J J J J J (ai (aw (aG () trivial J (bx (aW la J J J (aR (k:=4) J))) J [20,21,22,23] [] J J J)))))))))))))
theorem CD(e:Me)(s:Mm)(n:Nat)(hs:MO s n)(i:Qi)(pc:Int)(r:Int→Int)(st:Int)(hx:Stx s i pc r st)(v:Int)(hu:wJ i.op (r i.a) (if i.op<16 then r i.b else i.imm)=some v):
  Spec Tryz.prog 115 [.agg (sR pc r st).toArray,.pointer (some ⟨e.m,0,none⟩)] [aY e.m 157 (mR e),own 5 1 bQ (sv e.vd) (s).d,own 5 1 bQ (sv e.vi) (s).i,own 3 1 eI (sv e.vr) (s).r] [] (X:=Unit) (fun _=>True) (fun _=> .agg (oC (pc+4) (rp r i.d v) (st+1) 0 0).toArray) (fun _=> [aY e.m 157 (mR e),own 5 1 bQ (sv e.vd) (s).d,own 5 1 bQ (sv e.vi) (s).i,own 3 1 eI (sv e.vr) (s).r]) (fun _=> []):=by
 have hdd:=hx.f.hv.d;have haa:=hx.f.hv.a;have hbb:=hx.f.hv.b;have him:=hx.f.imm;have hpp:=hx.f.p;have hp2:=hx.p;have hst:=hx.hst;obtain⟨ho,hz,hk⟩:=Lk hu;refine fw e s n hs i pc r st hx fun w0 M H b2 b4 b6 b7=> ?_
 refine bi (X:=Unit) (fun _=>True) (fun _=> [(4,.pointer (some ⟨b4,0,none⟩)),(7,.pointer (some ⟨b7,0,none⟩)),(11,.int .u32 (pc+4))]) (fun _=> [(20,aY e.m 157 (mR e)),(21,own 5 1 bQ (sv e.vd) (s).d),(22,own 5 1 bQ (sv e.vi) (s).i),(23,own 3 1 eI (sv e.vr) (s).r),(4,aY b4 207 (oC 0 oO 0 0 0)),(7,aY b7 78 (sR pc (rs r i.d v) st))]) (fun _=> []) ?_ (fun _ _=> ?_)
 ·refine aB (ae (aa (aj (ah a_ J) J (aj (ak t3 J J (ap (k:=6) J J)) J (aj (am J J aS) J (aj (ac J) J (aA [] J J trivial (fun hg1=>ac J) J (aA [(67,_)] J J ⟨J,trivial⟩ (fun hg2=>am J J aS) J (aj (aM J J J (by first|exact ax|exact aC|rfl)) J (aj (ag J) J (ai (ar J (fun h3=> ?_) (fun h3=> ?_)))))))))))))
  ·(exfalso;have h0:=h3;revert h0;simp;try omega)
  ·(try simp only [aV]at h3)
   refine ae (aa (aj (ac J) J (aj (am J J cW) J (aj (ag J) J (ai (ar J (fun h4=> ?_) (fun h4=> ?_)))))))
   ·(try simp only [aV]at h4)
    refine bA [75,76,77,78,79,80,81,82] _ J (aZ (V:= [(0,75,_),(1,76,_),(2,77,_),(3,78,_),(4,79,_),(6,81,_)]) [0,1,2,3,4,6] 5 [5,4,3,2] [7] (fun _=> [(7,82,_)]) J J (ad (aD J (ah fI J)) (ad (aD J (ak t3 J J (ap (k:=6) J J))) (ad (aD J (ac J)) (ad (aD J (ac J)) (ad (aD J (ac J)) (ad (aD J (ah fM J)) ay)))))) J J J J J J J J J J J (fun _ _=>J) J (bh (xs:= [.tmp 77,.tmp 78,.tmp 79]) (CX (iL i.op) (r i.a) (if i.op<16 then r i.b else i.imm) v (hx.hr _) (by split;exact hx.hr _;exact him) (Ll hu)) Of [] [] [] J J J J J J J J (fun _ _=>J) (fun _ _ _=>J)) (fun _ _=>bB [7,0,1,6] 8 [8,7,6,5,4,3,2,1,0] [] (fun _=> []) J J (ad (aD J (cG (j:=i.d.toNat) Tryz.underlying75 cr J J (by omega) (by omega))) (ad (aD J (ah fI J)) (ad (aD J (ak t3 J J (ap (k:=6) J J))) (ad (aD J (ah fM J)) ay)))) J J J J J J J J J (fun _ _=>J) J (cy (k:=7) (us:= [.int .u32 v]) (c':=sR pc (rs r i.d v) st) cr J J J J J J (pN hx.f.hv.d) (lF hx.f.hv.d)) (fun _ _=>be [] J J ay J J J ?_)));refine aL () trivial J J J
   ·(exfalso;have h0:=h4;revert h0;simp;exact hk)
 ·exact fN e s pc (rs r i.d v) (rp r i.d v) st (pc+4) hst (uV hx.h0)
theorem Cz(e:Me)(s:Mm)(n:Nat)(hs:MO s n)(i:Qi)(pc:Int)(r:Int→Int)(st:Int)(hx:Stx s i pc r st)(hb:byL s.d)(ho:i.op=23)(hq4:(wU (r i.a+i.imm))+4≤s.d.length)(hok:∀k:Int,0≤k→k<4→wR s (IntKind.u32.wrap ((wU (r i.a+i.imm))+k)) 1=true):
  Spec Tryz.prog 115 [.agg (sR pc r st).toArray,.pointer (some ⟨e.m,0,none⟩)] [aY e.m 157 (mR e),own 5 1 bQ (sv e.vd) (s).d,own 5 1 bQ (sv e.vi) (s).i,own 3 1 eI (sv e.vr) (s).r] [] (X:=Unit) (fun _=>True) (fun _=> .agg (oC (pc+4) (rp r i.d (zJ s.d (wU (r i.a+i.imm)).toNat)) (st+1) 0 0).toArray) (fun _=> [aY e.m 157 (mR e),own 5 1 bQ (sv e.vd) (s).d,own 5 1 bQ (sv e.vi) (s).i,own 3 1 eI (sv e.vr) (s).r]) (fun _=> []):=by
 have hdd:=hx.f.hv.d;have haa:=hx.f.hv.a;have hbb:=hx.f.hv.b;have him:=hx.f.imm;have hpp:=hx.f.p;have hp2:=hx.p;have hst:=hx.hst;have hk:iL i.op=0:=by rw [ho];rfl
 refine fw e s n hs i pc r st hx fun w0 M H b2 b4 b6 b7=> ?_
 refine bi (X:=Unit) (fun _=>True) (fun _=> [(4,.pointer (some ⟨b4,0,none⟩)),(7,.pointer (some ⟨b7,0,none⟩)),(11,.int .u32 (pc+4))]) (fun _=> [(20,aY e.m 157 (mR e)),(21,own 5 1 bQ (sv e.vd) (s).d),(22,own 5 1 bQ (sv e.vi) (s).i),(23,own 3 1 eI (sv e.vr) (s).r),(4,aY b4 207 (oC 0 oO 0 0 0)),(7,aY b7 78 (sR pc (rs r i.d (zJ s.d (wU (r i.a+i.imm)).toNat)) st))]) (fun _=> []) ?_ (fun _ _=> ?_)
 ·refine aB (ae (aa (aj (ah a_ J) J (aj (ak t3 J J (ap (k:=6) J J)) J (aj (am J J aS) J (aj (ac J) J (aA [] J J trivial (fun hg1=>ac J) J (aA [(67,_)] J J ⟨J,trivial⟩ (fun hg2=>am J J aS) J (aj (aM J J J (by first|exact ax|exact aC|rfl)) J (aj (ag J) J (ai (ar J (fun h3=> ?_) (fun h3=> ?_)))))))))))))
  ·(exfalso;have h0:=h3;revert h0;simp;try omega)
  ·(try simp only [aV]at h3)
   refine ae (aa (aj (ac J) J (aj (am J J cW) J (aj (ag J) J (ai (ar J (fun h4=> ?_) (fun h4=> ?_)))))))
   ·(exfalso;have h0:=h4;revert h0;simp;exact hk)
   ·(try simp only [aV]at h4)
    refine ae (aa (aj (ah a_ J) J (aj (ak t3 J J (ap (k:=6) J J)) J (aj (am J J aS) J (aj (ac J) J (aA [] J J trivial (fun hg5=>ah a_ J) J (aA [(88,_)] J J ⟨J,trivial⟩ (fun hg6=>ak t3 J J (ap (k:=6) J J)) J (aA [(88,_),(89,_)] J J ⟨J,J,trivial⟩ (fun hg7=>am J J aS) J (aj (aM J J J (by first|exact ax|exact aC|rfl)) J (aj (ag J) J (ai (ar J (fun h8=> ?_) (fun h8=> ?_)))))))))))))
    ·(try simp only [aV]at h8)
     refine ae (aa (aj (ag J) J (ai (ae (ae (aa (aj (ah a_ J) J (aj (ak t3 J J (ap (k:=6) J J)) J (aj (am J J aS) J (ai (ar J (fun h9=> ?_) (fun h9=> ?_))))))))))))
     ·(exfalso;have h0:=h9;revert h0;simp;try omega)
     ·(try simp only [aV]at h9)
      refine az (ae (aa (aj (ac J) J (aj (ac J) J (aj (ah da J) J (aj (ak cr J J (ap (k:=6) J J)) J (aj (am J J (aX J)) J (aj (ac J) J (au (xs:= [.tmp 95,.tmp 99,.tmp 100]) (DB e s n hs (wU (r i.a+i.imm)) (ka _) hb hq4 hok) Oe [20,21,22,23] [] [20,21,22,23] J J J J J J J J (fun _ _=>J) (fun _ _ _=>J) J (fun _ _=>aT gr J J fun b14=>av (k:=14) gr J J J J J J (ai (ae ?_))))))))))));refine ae (aa (aj (ah mX J) J (aj (ak t4 J J (ap (k:=14) J J)) J (aj (bZ J) J (ai (ar J (fun h10=> ?_) (fun h10=> ?_)))))))
      ·cases h10
      ·(try simp only [aV]at h10)
       refine az (aa (aj (ah fI J) J (aj (ak t3 J J (ap (k:=6) J J)) J (aj (ah oX J) J (aj (ak cr J J (ap (k:=14) J J)) J (aj (ah fM J) J (aj (cG (j:=i.d.toNat) Tryz.underlying75 cr J J (by omega) (by omega)) J (aI (k:=7) (us:= [.int .u32 (zJ s.d (wU (r i.a+i.imm)).toNat)]) (c':=sR pc (rs r i.d (zJ s.d (wU (r i.a+i.imm)).toNat)) st) cr J J J J J J (pN hx.f.hv.d) (lF hx.f.hv.d) (ai (aL () trivial J J J))))))))))
    ·(exfalso;have h0:=h8;revert h0;simp;try omega)
 ·exact fN e s pc (rs r i.d (zJ s.d (wU (r i.a+i.imm)).toNat)) (rp r i.d (zJ s.d (wU (r i.a+i.imm)).toNat)) st (pc+4) hst (uV hx.h0)
theorem Cx(e:Me)(s:Mm)(n:Nat)(hs:MO s n)(i:Qi)(pc:Int)(r:Int→Int)(st:Int)(hx:Stx s i pc r st)(ho:i.op=25)(hq4:(wU (r i.a+i.imm))+4≤s.d.length)(hok:∀k:Int,0≤k→k<4→wR s (IntKind.u32.wrap ((wU (r i.a+i.imm))+k)) 2=true):
  Spec Tryz.prog 115 [.agg (sR pc r st).toArray,.pointer (some ⟨e.m,0,none⟩)] [aY e.m 157 (mR e),own 5 1 bQ (sv e.vd) (s).d,own 5 1 bQ (sv e.vi) (s).i,own 3 1 eI (sv e.vr) (s).r] [] (X:=Unit) (fun _=>True) (fun _=> .agg (oC (pc+4) r (st+1) 0 0).toArray) (fun _=> [aY e.m 157 (mR e),own 5 1 bQ (sv e.vd) ({s with d:=pk s.d (wU (r i.a+i.imm)).toNat (ep (r i.d))}).d,own 5 1 bQ (sv e.vi) ({s with d:=pk s.d (wU (r i.a+i.imm)).toNat (ep (r i.d))}).i,own 3 1 eI (sv e.vr) ({s with d:=pk s.d (wU (r i.a+i.imm)).toNat (ep (r i.d))}).r]) (fun _=> []):=by
 have hdd:=hx.f.hv.d;have haa:=hx.f.hv.a;have hbb:=hx.f.hv.b;have him:=hx.f.imm;have hpp:=hx.f.p;have hp2:=hx.p;have hst:=hx.hst;have hk:iL i.op=0:=by rw [ho];rfl
 refine fw e s n hs i pc r st hx fun w0 M H b2 b4 b6 b7=> ?_
 refine bi (X:=Unit) (fun _=>True) (fun _=> [(4,.pointer (some ⟨b4,0,none⟩)),(7,.pointer (some ⟨b7,0,none⟩)),(11,.int .u32 (pc+4))]) (fun _=> [(20,aY e.m 157 (mR e)),(21,own 5 1 bQ (sv e.vd) ({s with d:=pk s.d (wU (r i.a+i.imm)).toNat (ep (r i.d))}).d),(22,own 5 1 bQ (sv e.vi) ({s with d:=pk s.d (wU (r i.a+i.imm)).toNat (ep (r i.d))}).i),(23,own 3 1 eI (sv e.vr) ({s with d:=pk s.d (wU (r i.a+i.imm)).toNat (ep (r i.d))}).r),(4,aY b4 207 (oC 0 oO 0 0 0)),(7,aY b7 78 (sR pc r st))]) (fun _=> []) ?_ (fun _ _=> ?_)
 ·refine aB (ae (aa (aj (ah a_ J) J (aj (ak t3 J J (ap (k:=6) J J)) J (aj (am J J aS) J (aj (ac J) J (aA [] J J trivial (fun hg1=>ac J) J (aA [(67,_)] J J ⟨J,trivial⟩ (fun hg2=>am J J aS) J (aj (aM J J J (by first|exact ax|exact aC|rfl)) J (aj (ag J) J (ai (ar J (fun h3=> ?_) (fun h3=> ?_)))))))))))))
  ·(exfalso;have h0:=h3;revert h0;simp;try omega)
  ·(try simp only [aV]at h3)
   refine ae (aa (aj (ac J) J (aj (am J J cW) J (aj (ag J) J (ai (ar J (fun h4=> ?_) (fun h4=> ?_)))))))
   ·(exfalso;have h0:=h4;revert h0;simp;exact hk)
   ·(try simp only [aV]at h4)
    refine ae (aa (aj (ah a_ J) J (aj (ak t3 J J (ap (k:=6) J J)) J (aj (am J J aS) J (aj (ac J) J (aA [] J J trivial (fun hg5=>ah a_ J) J (aA [(88,_)] J J ⟨J,trivial⟩ (fun hg6=>ak t3 J J (ap (k:=6) J J)) J (aA [(88,_),(89,_)] J J ⟨J,J,trivial⟩ (fun hg7=>am J J aS) J (aj (aM J J J (by first|exact ax|exact aC|rfl)) J (aj (ag J) J (ai (ar J (fun h8=> ?_) (fun h8=> ?_)))))))))))))
    ·(exfalso;have h0:=h8;revert h0;simp;try omega)
    ·(try simp only [aV]at h8)
     refine ae (aa (aj (ah a_ J) J (aj (ak t3 J J (ap (k:=6) J J)) J (aj (am J J aS) J (aj (ac J) J (aA [] J J trivial (fun hg9=>ah a_ J) J (aA [(120,_)] J J ⟨J,trivial⟩ (fun hg10=>ak t3 J J (ap (k:=6) J J)) J (aA [(120,_),(121,_)] J J ⟨J,J,trivial⟩ (fun hg11=>am J J aS) J (aj (aM J J J (by first|exact ax|exact aC|rfl)) J (aj (ag J) J (ai (ar J (fun h12=> ?_) (fun h12=> ?_)))))))))))))
     ·(try simp only [aV]at h12)
      refine ae (aa (aj (ag J) J (ai (ae (ae (aa (aj (ah a_ J) J (aj (ak t3 J J (ap (k:=6) J J)) J (aj (am J J aS) J (ai (ar J (fun h13=> ?_) (fun h13=> ?_))))))))))))
      ·(exfalso;have h0:=h13;revert h0;simp;try omega)
      ·(try simp only [aV]at h13)
       refine az (ae (aa (aj (ac J) J (aj (ac J) J (aj (ah da J) J (aj (ak cr J J (ap (k:=6) J J)) J (aj (am J J (aX J)) J (aj (ac J) J (aj (ac J) J (au (xs:= [.tmp 127,.tmp 131,.tmp 132,.tmp 133]) (A3 e s n hs (wU (r i.a+i.imm)) (ka _) (r i.d) (hx.hr _) hq4 hok) Od [20,21,22,23] [] [20,21,22,23] J J J J J J J J (fun _ _=>J) (fun _ _ _=>J) J (fun _ _=>aT gr J J fun b16=>av (k:=16) gr J J J J J J (ai ?_))))))))))));refine ae (aa (aj (ah mX J) J (aj (ak t4 J J (ap (k:=16) J J)) J (aj (bZ J) J (ai (ar J (fun h14=> ?_) (fun h14=> ?_)))))))
       ·cases h14
       ·(try simp only [aV]at h14)
        refine az (aL () trivial J J J)
     ·(exfalso;have h0:=h12;revert h0;simp;try omega)
 ·exact fN e {s with d:=pk s.d (wU (r i.a+i.imm)).toNat (ep (r i.d))} pc r r st (pc+4) hst (FW hx.h0)
theorem A4(e:Me)(s:Mm)(n:Nat)(hs:MO s n)(i:Qi)(pc:Int)(r:Int→Int)(st:Int)(hx:Stx s i pc r st)(ho:i.op=27):
  Spec Tryz.prog 115 [.agg (sR pc r st).toArray,.pointer (some ⟨e.m,0,none⟩)] [aY e.m 157 (mR e),own 5 1 bQ (sv e.vd) (s).d,own 5 1 bQ (sv e.vi) (s).i,own 3 1 eI (sv e.vr) (s).r] [] (X:=Unit) (fun _=>True) (fun _=> .agg (oC ((wU (r i.a+i.imm))/4*4) (rp r i.d (pc+4)) (st+1) 0 0).toArray) (fun _=> [aY e.m 157 (mR e),own 5 1 bQ (sv e.vd) (s).d,own 5 1 bQ (sv e.vi) (s).i,own 3 1 eI (sv e.vr) (s).r]) (fun _=> []):=by
 have hdd:=hx.f.hv.d;have haa:=hx.f.hv.a;have hbb:=hx.f.hv.b;have him:=hx.f.imm;have hpp:=hx.f.p;have hp2:=hx.p;have hst:=hx.hst;have hk:iL i.op=0:=by rw [ho];rfl
 refine fw e s n hs i pc r st hx fun w0 M H b2 b4 b6 b7=> ?_
 refine bi (X:=Unit) (fun _=>True) (fun _=> [(4,.pointer (some ⟨b4,0,none⟩)),(7,.pointer (some ⟨b7,0,none⟩)),(11,.int .u32 ((wU (r i.a+i.imm))/4*4))]) (fun _=> [(20,aY e.m 157 (mR e)),(21,own 5 1 bQ (sv e.vd) (s).d),(22,own 5 1 bQ (sv e.vi) (s).i),(23,own 3 1 eI (sv e.vr) (s).r),(4,aY b4 207 (oC 0 oO 0 0 0)),(7,aY b7 78 (sR pc (rs r i.d (pc+4)) st))]) (fun _=> []) ?_ (fun _ _=> ?_)
 ·refine aB (ae (aa (aj (ah a_ J) J (aj (ak t3 J J (ap (k:=6) J J)) J (aj (am J J aS) J (aj (ac J) J (aA [] J J trivial (fun hg1=>ac J) J (aA [(67,_)] J J ⟨J,trivial⟩ (fun hg2=>am J J aS) J (aj (aM J J J (by first|exact ax|exact aC|rfl)) J (aj (ag J) J (ai (ar J (fun h3=> ?_) (fun h3=> ?_)))))))))))))
  ·(exfalso;have h0:=h3;revert h0;simp;try omega)
  ·(try simp only [aV]at h3)
   refine ae (aa (aj (ac J) J (aj (am J J cW) J (aj (ag J) J (ai (ar J (fun h4=> ?_) (fun h4=> ?_)))))))
   ·(exfalso;have h0:=h4;revert h0;simp;exact hk)
   ·(try simp only [aV]at h4)
    refine ae (aa (aj (ah a_ J) J (aj (ak t3 J J (ap (k:=6) J J)) J (aj (am J J aS) J (aj (ac J) J (aA [] J J trivial (fun hg5=>ah a_ J) J (aA [(88,_)] J J ⟨J,trivial⟩ (fun hg6=>ak t3 J J (ap (k:=6) J J)) J (aA [(88,_),(89,_)] J J ⟨J,J,trivial⟩ (fun hg7=>am J J aS) J (aj (aM J J J (by first|exact ax|exact aC|rfl)) J (aj (ag J) J (ai (ar J (fun h8=> ?_) (fun h8=> ?_)))))))))))))
    ·(exfalso;have h0:=h8;revert h0;simp;try omega)
    ·(try simp only [aV]at h8)
     refine ae (aa (aj (ah a_ J) J (aj (ak t3 J J (ap (k:=6) J J)) J (aj (am J J aS) J (aj (ac J) J (aA [] J J trivial (fun hg9=>ah a_ J) J (aA [(120,_)] J J ⟨J,trivial⟩ (fun hg10=>ak t3 J J (ap (k:=6) J J)) J (aA [(120,_),(121,_)] J J ⟨J,J,trivial⟩ (fun hg11=>am J J aS) J (aj (aM J J J (by first|exact ax|exact aC|rfl)) J (aj (ag J) J (ai (ar J (fun h12=> ?_) (fun h12=> ?_)))))))))))))
     ·(exfalso;have h0:=h12;revert h0;simp;try omega)
     ·(try simp only [aV]at h12)
      refine ae (aa (aj (ah a_ J) J (aj (ak t3 J J (ap (k:=6) J J)) J (aj (am J J aS) J (aj (ag J) J (ai (ar J (fun h13=> ?_) (fun h13=> ?_))))))))
      ·(try simp only [aV]at h13)
       refine ae (aa (aj (ah fI J) J (aj (ak t3 J J (ap (k:=6) J J)) J (aj (ac J) J (aj (ah fM J) J (aj (cG (j:=i.d.toNat) Tryz.underlying75 cr J J (by omega) (by omega)) J (aI (k:=7) (us:= [.int .u32 (pc+4)]) (c':=sR pc (rs r i.d (pc+4)) st) cr J J J J J J (pN hx.f.hv.d) (lF hx.f.hv.d) (ai (aa (aj (ac J) J (aj (ah da J) J (aj (ak cr J J (ap (k:=6) J J)) J (aj (am J J (aX J)) J ?_)))))))))))));refine aj (am J J (jU (by decide) (oe (ka _) (by decide)))) J (aj (am J J (de (L5 _))) J (aj (ag J) J (ai (aL () trivial J J J))))
      ·(exfalso;have h0:=h13;revert h0;simp;try omega)
 ·exact fN e s pc (rs r i.d (pc+4)) (rp r i.d (pc+4)) st ((wU (r i.a+i.imm))/4*4) hst (uV hx.h0)
theorem CC(e:Me)(s:Mm)(n:Nat)(hs:MO s n)(i:Qi)(pc:Int)(r:Int→Int)(st:Int)(hx:Stx s i pc r st)(ho:i.op=32):
  Spec Tryz.prog 115 [.agg (sR pc r st).toArray,.pointer (some ⟨e.m,0,none⟩)] [aY e.m 157 (mR e),own 5 1 bQ (sv e.vd) (s).d,own 5 1 bQ (sv e.vi) (s).i,own 3 1 eI (sv e.vr) (s).r] [] (X:=Unit) (fun _=>True) (fun _=> .agg (oC (if r i.d=r i.a then wU (pc+4*i.imm)else pc+4) r (st+1) 0 0).toArray) (fun _=> [aY e.m 157 (mR e),own 5 1 bQ (sv e.vd) (s).d,own 5 1 bQ (sv e.vi) (s).i,own 3 1 eI (sv e.vr) (s).r]) (fun _=> []):=by
 have hdd:=hx.f.hv.d;have haa:=hx.f.hv.a;have hbb:=hx.f.hv.b;have him:=hx.f.imm;have hpp:=hx.f.p;have hp2:=hx.p;have hst:=hx.hst;have hk:iL i.op=0:=by rw [ho];rfl
 refine fw e s n hs i pc r st hx fun w0 M H b2 b4 b6 b7=> ?_
 refine bi (X:=Unit) (fun _=>True) (fun _=> [(4,.pointer (some ⟨b4,0,none⟩)),(7,.pointer (some ⟨b7,0,none⟩)),(11,.int .u32 (if r i.d=r i.a then wU (pc+4*i.imm)else pc+4))]) (fun _=> [(20,aY e.m 157 (mR e)),(21,own 5 1 bQ (sv e.vd) (s).d),(22,own 5 1 bQ (sv e.vi) (s).i),(23,own 3 1 eI (sv e.vr) (s).r),(4,aY b4 207 (oC 0 oO 0 0 0)),(7,aY b7 78 (sR pc r st))]) (fun _=> []) ?_ (fun _ _=> ?_)
 ·refine aB (ae (aa (aj (ah a_ J) J (aj (ak t3 J J (ap (k:=6) J J)) J (aj (am J J aS) J (aj (ac J) J (aA [] J J trivial (fun hg1=>ac J) J (aA [(67,_)] J J ⟨J,trivial⟩ (fun hg2=>am J J aS) J (aj (aM J J J (by first|exact ax|exact aC|rfl)) J (aj (ag J) J (ai (ar J (fun h3=> ?_) (fun h3=> ?_)))))))))))))
  ·(exfalso;have h0:=h3;revert h0;simp;try omega)
  ·(try simp only [aV]at h3)
   refine ae (aa (aj (ac J) J (aj (am J J cW) J (aj (ag J) J (ai (ar J (fun h4=> ?_) (fun h4=> ?_)))))))
   ·(exfalso;have h0:=h4;revert h0;simp;exact hk)
   ·(try simp only [aV]at h4)
    refine ae (aa (aj (ah a_ J) J (aj (ak t3 J J (ap (k:=6) J J)) J (aj (am J J aS) J (aj (ac J) J (aA [] J J trivial (fun hg5=>ah a_ J) J (aA [(88,_)] J J ⟨J,trivial⟩ (fun hg6=>ak t3 J J (ap (k:=6) J J)) J (aA [(88,_),(89,_)] J J ⟨J,J,trivial⟩ (fun hg7=>am J J aS) J (aj (aM J J J (by first|exact ax|exact aC|rfl)) J (aj (ag J) J (ai (ar J (fun h8=> ?_) (fun h8=> ?_)))))))))))))
    ·(exfalso;have h0:=h8;revert h0;simp;try omega)
    ·(try simp only [aV]at h8)
     refine ae (aa (aj (ah a_ J) J (aj (ak t3 J J (ap (k:=6) J J)) J (aj (am J J aS) J (aj (ac J) J (aA [] J J trivial (fun hg9=>ah a_ J) J (aA [(120,_)] J J ⟨J,trivial⟩ (fun hg10=>ak t3 J J (ap (k:=6) J J)) J (aA [(120,_),(121,_)] J J ⟨J,J,trivial⟩ (fun hg11=>am J J aS) J (aj (aM J J J (by first|exact ax|exact aC|rfl)) J (aj (ag J) J (ai (ar J (fun h12=> ?_) (fun h12=> ?_)))))))))))))
     ·(exfalso;have h0:=h12;revert h0;simp;try omega)
     ·(try simp only [aV]at h12)
      refine ae (aa (aj (ah a_ J) J (aj (ak t3 J J (ap (k:=6) J J)) J (aj (am J J aS) J (aj (ag J) J (ai (ar J (fun h13=> ?_) (fun h13=> ?_))))))))
      ·(exfalso;have h0:=h13;revert h0;simp;try omega)
      ·(try simp only [aV]at h13)
       refine ae (aa (aj (ah a_ J) J (aj (ak t3 J J (ap (k:=6) J J)) J (aj (am J J eV) J (aj (ac J) J (aA [] J J trivial (fun hg14=>ah a_ J) J (aA [(162,_)] J J ⟨J,trivial⟩ (fun hg15=>ak t3 J J (ap (k:=6) J J)) J (aA [(162,_),(163,_)] J J ⟨J,J,trivial⟩ (fun hg16=>am J J jj) J (aj (aM J J J (by first|exact ax|exact aC|rfl)) J (aj (ag J) J (ai (ar J (fun h17=> ?_) (fun h17=> ?_)))))))))))))
       ·(try simp only [aV]at h17)
        refine ae (aa (aj (ah a_ J) J (aj (ak t3 J J (ap (k:=6) J J)) J (aj (ac J) J (aj (ac J) J ?_)))));rw [ho];refine au (xs:= [.tmp 167,.tmp 168,.tmp 169]) (rr (r i.d) (r i.a)) I1 [] [] [] J J J J J J J J (fun _ _=>J) (fun _ _ _=>J) J (fun _ _=>aj (ag J) J (ai (ae (aa (aj (ac J) J (ai (ar J (fun h18=> ?_) (fun h18=> ?_))))))))
        ·(try simp only [aV]at h18)
         rw [if_pos h18];refine aa (aj (ah gL J) J (aj (ak cr J J (ap (k:=7) J J)) J (aj (ah da J) J (aj (ak cr J J (ap (k:=6) J J)) J (aj (am J J (de J)) J (aj (am J J (aX (c:=wU (pc+4*i.imm)) (w9 _ _))) J (aj (ag J) J (ai (aL () trivial J J J)))))))))
        ·(try simp only [aV]at h18)
         rw [if_neg h18];refine az (aL () trivial J J J)
       ·(exfalso;have h0:=h17;revert h0;simp;try omega)
 ·exact fN e s pc r r st (if r i.d=r i.a then wU (pc+4*i.imm)else pc+4) hst (FW hx.h0)
theorem A5(e:Me)(s:Mm)(n:Nat)(hs:MO s n)(i:Qi)(pc:Int)(r:Int→Int)(st:Int)(hx:Stx s i pc r st)(ho:i.op=35):
  Spec Tryz.prog 115 [.agg (sR pc r st).toArray,.pointer (some ⟨e.m,0,none⟩)] [aY e.m 157 (mR e),own 5 1 bQ (sv e.vd) (s).d,own 5 1 bQ (sv e.vi) (s).i,own 3 1 eI (sv e.vr) (s).r] [] (X:=Unit) (fun _=>True) (fun _=> .agg (oC (if r i.d≥r i.a then wU (pc+4*i.imm)else pc+4) r (st+1) 0 0).toArray) (fun _=> [aY e.m 157 (mR e),own 5 1 bQ (sv e.vd) (s).d,own 5 1 bQ (sv e.vi) (s).i,own 3 1 eI (sv e.vr) (s).r]) (fun _=> []):=by
 have hdd:=hx.f.hv.d;have haa:=hx.f.hv.a;have hbb:=hx.f.hv.b;have him:=hx.f.imm;have hpp:=hx.f.p;have hp2:=hx.p;have hst:=hx.hst;have hk:iL i.op=0:=by rw [ho];rfl
 refine fw e s n hs i pc r st hx fun w0 M H b2 b4 b6 b7=> ?_
 refine bi (X:=Unit) (fun _=>True) (fun _=> [(4,.pointer (some ⟨b4,0,none⟩)),(7,.pointer (some ⟨b7,0,none⟩)),(11,.int .u32 (if r i.d≥r i.a then wU (pc+4*i.imm)else pc+4))]) (fun _=> [(20,aY e.m 157 (mR e)),(21,own 5 1 bQ (sv e.vd) (s).d),(22,own 5 1 bQ (sv e.vi) (s).i),(23,own 3 1 eI (sv e.vr) (s).r),(4,aY b4 207 (oC 0 oO 0 0 0)),(7,aY b7 78 (sR pc r st))]) (fun _=> []) ?_ (fun _ _=> ?_)
 ·refine aB (ae (aa (aj (ah a_ J) J (aj (ak t3 J J (ap (k:=6) J J)) J (aj (am J J aS) J (aj (ac J) J (aA [] J J trivial (fun hg1=>ac J) J (aA [(67,_)] J J ⟨J,trivial⟩ (fun hg2=>am J J aS) J (aj (aM J J J (by first|exact ax|exact aC|rfl)) J (aj (ag J) J (ai (ar J (fun h3=> ?_) (fun h3=> ?_)))))))))))))
  ·(exfalso;have h0:=h3;revert h0;simp;try omega)
  ·(try simp only [aV]at h3)
   refine ae (aa (aj (ac J) J (aj (am J J cW) J (aj (ag J) J (ai (ar J (fun h4=> ?_) (fun h4=> ?_)))))))
   ·(exfalso;have h0:=h4;revert h0;simp;exact hk)
   ·(try simp only [aV]at h4)
    refine ae (aa (aj (ah a_ J) J (aj (ak t3 J J (ap (k:=6) J J)) J (aj (am J J aS) J (aj (ac J) J (aA [] J J trivial (fun hg5=>ah a_ J) J (aA [(88,_)] J J ⟨J,trivial⟩ (fun hg6=>ak t3 J J (ap (k:=6) J J)) J (aA [(88,_),(89,_)] J J ⟨J,J,trivial⟩ (fun hg7=>am J J aS) J (aj (aM J J J (by first|exact ax|exact aC|rfl)) J (aj (ag J) J (ai (ar J (fun h8=> ?_) (fun h8=> ?_)))))))))))))
    ·(exfalso;have h0:=h8;revert h0;simp;try omega)
    ·(try simp only [aV]at h8)
     refine ae (aa (aj (ah a_ J) J (aj (ak t3 J J (ap (k:=6) J J)) J (aj (am J J aS) J (aj (ac J) J (aA [] J J trivial (fun hg9=>ah a_ J) J (aA [(120,_)] J J ⟨J,trivial⟩ (fun hg10=>ak t3 J J (ap (k:=6) J J)) J (aA [(120,_),(121,_)] J J ⟨J,J,trivial⟩ (fun hg11=>am J J aS) J (aj (aM J J J (by first|exact ax|exact aC|rfl)) J (aj (ag J) J (ai (ar J (fun h12=> ?_) (fun h12=> ?_)))))))))))))
     ·(exfalso;have h0:=h12;revert h0;simp;try omega)
     ·(try simp only [aV]at h12)
      refine ae (aa (aj (ah a_ J) J (aj (ak t3 J J (ap (k:=6) J J)) J (aj (am J J aS) J (aj (ag J) J (ai (ar J (fun h13=> ?_) (fun h13=> ?_))))))))
      ·(exfalso;have h0:=h13;revert h0;simp;try omega)
      ·(try simp only [aV]at h13)
       refine ae (aa (aj (ah a_ J) J (aj (ak t3 J J (ap (k:=6) J J)) J (aj (am J J eV) J (aj (ac J) J (aA [] J J trivial (fun hg14=>ah a_ J) J (aA [(162,_)] J J ⟨J,trivial⟩ (fun hg15=>ak t3 J J (ap (k:=6) J J)) J (aA [(162,_),(163,_)] J J ⟨J,J,trivial⟩ (fun hg16=>am J J jj) J (aj (aM J J J (by first|exact ax|exact aC|rfl)) J (aj (ag J) J (ai (ar J (fun h17=> ?_) (fun h17=> ?_)))))))))))))
       ·(try simp only [aV]at h17)
        refine ae (aa (aj (ah a_ J) J (aj (ak t3 J J (ap (k:=6) J J)) J (aj (ac J) J (aj (ac J) J ?_)))));rw [ho];refine au (xs:= [.tmp 167,.tmp 168,.tmp 169]) (rq (r i.d) (r i.a)) I1 [] [] [] J J J J J J J J (fun _ _=>J) (fun _ _ _=>J) J (fun _ _=>aj (ag J) J (ai (ae (aa (aj (ac J) J (ai (ar J (fun h18=> ?_) (fun h18=> ?_))))))))
        ·(try simp only [aV]at h18)
         rw [if_pos h18];refine aa (aj (ah gL J) J (aj (ak cr J J (ap (k:=7) J J)) J (aj (ah da J) J (aj (ak cr J J (ap (k:=6) J J)) J (aj (am J J (de J)) J (aj (am J J (aX (c:=wU (pc+4*i.imm)) (w9 _ _))) J (aj (ag J) J (ai (aL () trivial J J J)))))))))
        ·(try simp only [aV]at h18)
         rw [if_neg h18];refine az (aL () trivial J J J)
       ·(exfalso;have h0:=h17;revert h0;simp;try omega)
 ·exact fN e s pc r r st (if r i.d≥r i.a then wU (pc+4*i.imm)else pc+4) hst (FW hx.h0)
theorem CA(e:Me)(s:Mm)(n:Nat)(hs:MO s n)(i:Qi)(pc:Int)(r:Int→Int)(st:Int)(hx:Stx s i pc r st)(ho:i.op=40):
  Spec Tryz.prog 115 [.agg (sR pc r st).toArray,.pointer (some ⟨e.m,0,none⟩)] [aY e.m 157 (mR e),own 5 1 bQ (sv e.vd) (s).d,own 5 1 bQ (sv e.vi) (s).i,own 3 1 eI (sv e.vr) (s).r] [] (X:=Unit) (fun _=>True) (fun _=> .agg (oC (wU (pc+4*i.imm)) (rp r i.d (pc+4)) (st+1) 0 0).toArray) (fun _=> [aY e.m 157 (mR e),own 5 1 bQ (sv e.vd) (s).d,own 5 1 bQ (sv e.vi) (s).i,own 3 1 eI (sv e.vr) (s).r]) (fun _=> []):=by
 have hdd:=hx.f.hv.d;have haa:=hx.f.hv.a;have hbb:=hx.f.hv.b;have him:=hx.f.imm;have hpp:=hx.f.p;have hp2:=hx.p;have hst:=hx.hst;have hk:iL i.op=0:=by rw [ho];rfl
 refine fw e s n hs i pc r st hx fun w0 M H b2 b4 b6 b7=> ?_
 refine bi (X:=Unit) (fun _=>True) (fun _=> [(4,.pointer (some ⟨b4,0,none⟩)),(7,.pointer (some ⟨b7,0,none⟩)),(11,.int .u32 (wU (pc+4*i.imm)))]) (fun _=> [(20,aY e.m 157 (mR e)),(21,own 5 1 bQ (sv e.vd) (s).d),(22,own 5 1 bQ (sv e.vi) (s).i),(23,own 3 1 eI (sv e.vr) (s).r),(4,aY b4 207 (oC 0 oO 0 0 0)),(7,aY b7 78 (sR pc (rs r i.d (pc+4)) st))]) (fun _=> []) ?_ (fun _ _=> ?_)
 ·refine aB (ae (aa (aj (ah a_ J) J (aj (ak t3 J J (ap (k:=6) J J)) J (aj (am J J aS) J (aj (ac J) J (aA [] J J trivial (fun hg1=>ac J) J (aA [(67,_)] J J ⟨J,trivial⟩ (fun hg2=>am J J aS) J (aj (aM J J J (by first|exact ax|exact aC|rfl)) J (aj (ag J) J (ai (ar J (fun h3=> ?_) (fun h3=> ?_)))))))))))))
  ·(exfalso;have h0:=h3;revert h0;simp;try omega)
  ·(try simp only [aV]at h3)
   refine ae (aa (aj (ac J) J (aj (am J J cW) J (aj (ag J) J (ai (ar J (fun h4=> ?_) (fun h4=> ?_)))))))
   ·(exfalso;have h0:=h4;revert h0;simp;exact hk)
   ·(try simp only [aV]at h4)
    refine ae (aa (aj (ah a_ J) J (aj (ak t3 J J (ap (k:=6) J J)) J (aj (am J J aS) J (aj (ac J) J (aA [] J J trivial (fun hg5=>ah a_ J) J (aA [(88,_)] J J ⟨J,trivial⟩ (fun hg6=>ak t3 J J (ap (k:=6) J J)) J (aA [(88,_),(89,_)] J J ⟨J,J,trivial⟩ (fun hg7=>am J J aS) J (aj (aM J J J (by first|exact ax|exact aC|rfl)) J (aj (ag J) J (ai (ar J (fun h8=> ?_) (fun h8=> ?_)))))))))))))
    ·(exfalso;have h0:=h8;revert h0;simp;try omega)
    ·(try simp only [aV]at h8)
     refine ae (aa (aj (ah a_ J) J (aj (ak t3 J J (ap (k:=6) J J)) J (aj (am J J aS) J (aj (ac J) J (aA [] J J trivial (fun hg9=>ah a_ J) J (aA [(120,_)] J J ⟨J,trivial⟩ (fun hg10=>ak t3 J J (ap (k:=6) J J)) J (aA [(120,_),(121,_)] J J ⟨J,J,trivial⟩ (fun hg11=>am J J aS) J (aj (aM J J J (by first|exact ax|exact aC|rfl)) J (aj (ag J) J (ai (ar J (fun h12=> ?_) (fun h12=> ?_)))))))))))))
     ·(exfalso;have h0:=h12;revert h0;simp;try omega)
     ·(try simp only [aV]at h12)
      refine ae (aa (aj (ah a_ J) J (aj (ak t3 J J (ap (k:=6) J J)) J (aj (am J J aS) J (aj (ag J) J (ai (ar J (fun h13=> ?_) (fun h13=> ?_))))))))
      ·(exfalso;have h0:=h13;revert h0;simp;try omega)
      ·(try simp only [aV]at h13)
       refine ae (aa (aj (ah a_ J) J (aj (ak t3 J J (ap (k:=6) J J)) J (aj (am J J eV) J (aj (ac J) J (aA [] J J trivial (fun hg14=>ah a_ J) J (aA [(162,_)] J J ⟨J,trivial⟩ (fun hg15=>ak t3 J J (ap (k:=6) J J)) J (aA [(162,_),(163,_)] J J ⟨J,J,trivial⟩ (fun hg16=>am J J jj) J (aj (aM J J J (by first|exact ax|exact aC|rfl)) J (aj (ag J) J (ai (ar J (fun h17=> ?_) (fun h17=> ?_)))))))))))))
       ·(exfalso;have h0:=h17;revert h0;simp;try omega)
       ·(try simp only [aV]at h17)
        refine ae (aa (aj (ah a_ J) J (aj (ak t3 J J (ap (k:=6) J J)) J (aj (am J J aS) J (aj (ag J) J (ai (ar J (fun h18=> ?_) (fun h18=> ?_))))))))
        ·(try simp only [aV]at h18)
         refine ae (aa (aj (ah fI J) J (aj (ak t3 J J (ap (k:=6) J J)) J (aj (ac J) J (aj (ah fM J) J (aj (cG (j:=i.d.toNat) Tryz.underlying75 cr J J (by omega) (by omega)) J (aI (k:=7) (us:= [.int .u32 (pc+4)]) (c':=sR pc (rs r i.d (pc+4)) st) cr J J J J J J (pN hx.f.hv.d) (lF hx.f.hv.d) (ai (aa (aj (ah gL J) J (aj (ak cr J J (ap (k:=7) J J)) J (aj (ah da J) J (aj (ak cr J J (ap (k:=6) J J)) J ?_)))))))))))));refine aj (am J J (de J)) J (aj (am J J (aX (c:=wU (pc+4*i.imm)) (w9 _ _))) J (aj (ag J) J (ai (aL () trivial J J J))))
        ·(exfalso;have h0:=h18;revert h0;simp;try omega)
 ·exact fN e s pc (rs r i.d (pc+4)) (rp r i.d (pc+4)) st (wU (pc+4*i.imm)) hst (uV hx.h0)
theorem Cy(e:Me)(s:Mm)(n:Nat)(hs:MO s n)(i:Qi)(pc:Int)(r:Int→Int)(st:Int)(hx:Stx s i pc r st)(ho:i.op=41):
  Spec Tryz.prog 115 [.agg (sR pc r st).toArray,.pointer (some ⟨e.m,0,none⟩)] [aY e.m 157 (mR e),own 5 1 bQ (sv e.vd) (s).d,own 5 1 bQ (sv e.vi) (s).i,own 3 1 eI (sv e.vr) (s).r] [] (X:=Unit) (fun _=>True) (fun _=> .agg (oC (pc+4) (rp r i.d (wU (i.imm*1024))) (st+1) 0 0).toArray) (fun _=> [aY e.m 157 (mR e),own 5 1 bQ (sv e.vd) (s).d,own 5 1 bQ (sv e.vi) (s).i,own 3 1 eI (sv e.vr) (s).r]) (fun _=> []):=by
 have hdd:=hx.f.hv.d;have haa:=hx.f.hv.a;have hbb:=hx.f.hv.b;have him:=hx.f.imm;have hpp:=hx.f.p;have hp2:=hx.p;have hst:=hx.hst;have hk:iL i.op=0:=by rw [ho];rfl
 refine fw e s n hs i pc r st hx fun w0 M H b2 b4 b6 b7=> ?_
 refine bi (X:=Unit) (fun _=>True) (fun _=> [(4,.pointer (some ⟨b4,0,none⟩)),(7,.pointer (some ⟨b7,0,none⟩)),(11,.int .u32 (pc+4))]) (fun _=> [(20,aY e.m 157 (mR e)),(21,own 5 1 bQ (sv e.vd) (s).d),(22,own 5 1 bQ (sv e.vi) (s).i),(23,own 3 1 eI (sv e.vr) (s).r),(4,aY b4 207 (oC 0 oO 0 0 0)),(7,aY b7 78 (sR pc (rs r i.d (wU (i.imm*1024))) st))]) (fun _=> []) ?_ (fun _ _=> ?_)
 ·refine aB (ae (aa (aj (ah a_ J) J (aj (ak t3 J J (ap (k:=6) J J)) J (aj (am J J aS) J (aj (ac J) J (aA [] J J trivial (fun hg1=>ac J) J (aA [(67,_)] J J ⟨J,trivial⟩ (fun hg2=>am J J aS) J (aj (aM J J J (by first|exact ax|exact aC|rfl)) J (aj (ag J) J (ai (ar J (fun h3=> ?_) (fun h3=> ?_)))))))))))))
  ·(exfalso;have h0:=h3;revert h0;simp;try omega)
  ·(try simp only [aV]at h3)
   refine ae (aa (aj (ac J) J (aj (am J J cW) J (aj (ag J) J (ai (ar J (fun h4=> ?_) (fun h4=> ?_)))))))
   ·(exfalso;have h0:=h4;revert h0;simp;exact hk)
   ·(try simp only [aV]at h4)
    refine ae (aa (aj (ah a_ J) J (aj (ak t3 J J (ap (k:=6) J J)) J (aj (am J J aS) J (aj (ac J) J (aA [] J J trivial (fun hg5=>ah a_ J) J (aA [(88,_)] J J ⟨J,trivial⟩ (fun hg6=>ak t3 J J (ap (k:=6) J J)) J (aA [(88,_),(89,_)] J J ⟨J,J,trivial⟩ (fun hg7=>am J J aS) J (aj (aM J J J (by first|exact ax|exact aC|rfl)) J (aj (ag J) J (ai (ar J (fun h8=> ?_) (fun h8=> ?_)))))))))))))
    ·(exfalso;have h0:=h8;revert h0;simp;try omega)
    ·(try simp only [aV]at h8)
     refine ae (aa (aj (ah a_ J) J (aj (ak t3 J J (ap (k:=6) J J)) J (aj (am J J aS) J (aj (ac J) J (aA [] J J trivial (fun hg9=>ah a_ J) J (aA [(120,_)] J J ⟨J,trivial⟩ (fun hg10=>ak t3 J J (ap (k:=6) J J)) J (aA [(120,_),(121,_)] J J ⟨J,J,trivial⟩ (fun hg11=>am J J aS) J (aj (aM J J J (by first|exact ax|exact aC|rfl)) J (aj (ag J) J (ai (ar J (fun h12=> ?_) (fun h12=> ?_)))))))))))))
     ·(exfalso;have h0:=h12;revert h0;simp;try omega)
     ·(try simp only [aV]at h12)
      refine ae (aa (aj (ah a_ J) J (aj (ak t3 J J (ap (k:=6) J J)) J (aj (am J J aS) J (aj (ag J) J (ai (ar J (fun h13=> ?_) (fun h13=> ?_))))))))
      ·(exfalso;have h0:=h13;revert h0;simp;try omega)
      ·(try simp only [aV]at h13)
       refine ae (aa (aj (ah a_ J) J (aj (ak t3 J J (ap (k:=6) J J)) J (aj (am J J eV) J (aj (ac J) J (aA [] J J trivial (fun hg14=>ah a_ J) J (aA [(162,_)] J J ⟨J,trivial⟩ (fun hg15=>ak t3 J J (ap (k:=6) J J)) J (aA [(162,_),(163,_)] J J ⟨J,J,trivial⟩ (fun hg16=>am J J jj) J (aj (aM J J J (by first|exact ax|exact aC|rfl)) J (aj (ag J) J (ai (ar J (fun h17=> ?_) (fun h17=> ?_)))))))))))))
       ·(exfalso;have h0:=h17;revert h0;simp;try omega)
       ·(try simp only [aV]at h17)
        refine ae (aa (aj (ah a_ J) J (aj (ak t3 J J (ap (k:=6) J J)) J (aj (am J J aS) J (aj (ag J) J (ai (ar J (fun h18=> ?_) (fun h18=> ?_))))))))
        ·(exfalso;have h0:=h18;revert h0;simp;try omega)
        ·(try simp only [aV]at h18)
         refine ae (aa (aj (ah a_ J) J (aj (ak t3 J J (ap (k:=6) J J)) J (aj (am J J aS) J (aj (ag J) J (ai (ar J (fun h19=> ?_) (fun h19=> ?_))))))))
         ·(try simp only [aV]at h19)
          refine aa (aj (ah fI J) J (aj (ak t3 J J (ap (k:=6) J J)) J (aj (ah da J) J (aj (ak cr J J (ap (k:=6) J J)) J (aj (am J J (ga (by decide) (by decide) J)) J (aj (ah fM J) J (aj (cG (j:=i.d.toNat) Tryz.underlying75 cr J J (by omega) (by omega)) J (aI (k:=7) (us:= [.int .u32 (wU (i.imm*1024))]) (c':=sR pc (rs r i.d (wU (i.imm*1024))) st) cr J J J J J J (pN hx.f.hv.d) (lF hx.f.hv.d) (ai (aL () trivial J J J))))))))))
         ·(exfalso;have h0:=h19;revert h0;simp;try omega)
 ·exact fN e s pc (rs r i.d (wU (i.imm*1024))) (rp r i.d (wU (i.imm*1024))) st (pc+4) hst (uV hx.h0)
theorem Cw(e:Me)(s:Mm)(n:Nat)(hs:MO s n)(i:Qi)(pc:Int)(r:Int→Int)(st:Int)(hx:Stx s i pc r st)(ho:i.op=48):
  Spec Tryz.prog 115 [.agg (sR pc r st).toArray,.pointer (some ⟨e.m,0,none⟩)] [aY e.m 157 (mR e),own 5 1 bQ (sv e.vd) (s).d,own 5 1 bQ (sv e.vi) (s).i,own 3 1 eI (sv e.vr) (s).r] [] (X:=Unit) (fun _=>True) (fun _=> .agg (oC pc r st 4 i.imm).toArray) (fun _=> [aY e.m 157 (mR e),own 5 1 bQ (sv e.vd) (s).d,own 5 1 bQ (sv e.vi) (s).i,own 3 1 eI (sv e.vr) (s).r]) (fun _=> []):=by
 have hdd:=hx.f.hv.d;have haa:=hx.f.hv.a;have hbb:=hx.f.hv.b;have him:=hx.f.imm;have hpp:=hx.f.p;have hp2:=hx.p;have hst:=hx.hst;have hk:iL i.op=0:=by rw [ho];rfl
 refine fw e s n hs i pc r st hx fun w0 M H b2 b4 b6 b7=> ?_
 refine bi (X:=Unit) (fun _=>False) (fun _=> []) (fun _=> []) (fun _=> []) ?_ (fun _ hF=> ?_)
 ·refine aB (ae (aa (aj (ah a_ J) J (aj (ak t3 J J (ap (k:=6) J J)) J (aj (am J J aS) J (aj (ac J) J (aA [] J J trivial (fun hg1=>ac J) J (aA [(67,_)] J J ⟨J,trivial⟩ (fun hg2=>am J J aS) J (aj (aM J J J (by first|exact ax|exact aC|rfl)) J (aj (ag J) J (ai (ar J (fun h3=> ?_) (fun h3=> ?_)))))))))))))
  ·(exfalso;have h0:=h3;revert h0;simp;try omega)
  ·(try simp only [aV]at h3)
   refine ae (aa (aj (ac J) J (aj (am J J cW) J (aj (ag J) J (ai (ar J (fun h4=> ?_) (fun h4=> ?_)))))))
   ·(exfalso;have h0:=h4;revert h0;simp;exact hk)
   ·(try simp only [aV]at h4)
    refine ae (aa (aj (ah a_ J) J (aj (ak t3 J J (ap (k:=6) J J)) J (aj (am J J aS) J (aj (ac J) J (aA [] J J trivial (fun hg5=>ah a_ J) J (aA [(88,_)] J J ⟨J,trivial⟩ (fun hg6=>ak t3 J J (ap (k:=6) J J)) J (aA [(88,_),(89,_)] J J ⟨J,J,trivial⟩ (fun hg7=>am J J aS) J (aj (aM J J J (by first|exact ax|exact aC|rfl)) J (aj (ag J) J (ai (ar J (fun h8=> ?_) (fun h8=> ?_)))))))))))))
    ·(exfalso;have h0:=h8;revert h0;simp;try omega)
    ·(try simp only [aV]at h8)
     refine ae (aa (aj (ah a_ J) J (aj (ak t3 J J (ap (k:=6) J J)) J (aj (am J J aS) J (aj (ac J) J (aA [] J J trivial (fun hg9=>ah a_ J) J (aA [(120,_)] J J ⟨J,trivial⟩ (fun hg10=>ak t3 J J (ap (k:=6) J J)) J (aA [(120,_),(121,_)] J J ⟨J,J,trivial⟩ (fun hg11=>am J J aS) J (aj (aM J J J (by first|exact ax|exact aC|rfl)) J (aj (ag J) J (ai (ar J (fun h12=> ?_) (fun h12=> ?_)))))))))))))
     ·(exfalso;have h0:=h12;revert h0;simp;try omega)
     ·(try simp only [aV]at h12)
      refine ae (aa (aj (ah a_ J) J (aj (ak t3 J J (ap (k:=6) J J)) J (aj (am J J aS) J (aj (ag J) J (ai (ar J (fun h13=> ?_) (fun h13=> ?_))))))))
      ·(exfalso;have h0:=h13;revert h0;simp;try omega)
      ·(try simp only [aV]at h13)
       refine ae (aa (aj (ah a_ J) J (aj (ak t3 J J (ap (k:=6) J J)) J (aj (am J J eV) J (aj (ac J) J (aA [] J J trivial (fun hg14=>ah a_ J) J (aA [(162,_)] J J ⟨J,trivial⟩ (fun hg15=>ak t3 J J (ap (k:=6) J J)) J (aA [(162,_),(163,_)] J J ⟨J,J,trivial⟩ (fun hg16=>am J J jj) J (aj (aM J J J (by first|exact ax|exact aC|rfl)) J (aj (ag J) J (ai (ar J (fun h17=> ?_) (fun h17=> ?_)))))))))))))
       ·(exfalso;have h0:=h17;revert h0;simp;try omega)
       ·(try simp only [aV]at h17)
        refine ae (aa (aj (ah a_ J) J (aj (ak t3 J J (ap (k:=6) J J)) J (aj (am J J aS) J (aj (ag J) J (ai (ar J (fun h18=> ?_) (fun h18=> ?_))))))))
        ·(exfalso;have h0:=h18;revert h0;simp;try omega)
        ·(try simp only [aV]at h18)
         refine ae (aa (aj (ah a_ J) J (aj (ak t3 J J (ap (k:=6) J J)) J (aj (am J J aS) J (aj (ag J) J (ai (ar J (fun h19=> ?_) (fun h19=> ?_))))))))
         ·(exfalso;have h0:=h19;revert h0;simp;try omega)
         ·(try simp only [aV]at h19)
          refine ae (aa (aj (ah a_ J) J (aj (ak t3 J J (ap (k:=6) J J)) J (aj (am J J aS) J (aj (ag J) J (ai (ar J (fun h20=> ?_) (fun h20=> ?_))))))))
          ·(try simp only [aV]at h20)
           refine ae (aa (aj (aJ wO J J J (aR (k:=2) J)) J (aj (ah da J) J (aj (ak cr J J (ap (k:=6) J J)) J (au (xs:= [.tmp 208,.const (.int .i64 4),.tmp 210]) (mi pc r st 4 i.imm) I2 [] [] [] J J J J J J J J (fun _ _=>J) (fun _ _ _=>J) J (fun _ _=>av (k:=4) la J J J J J J (ai (aw (aG () trivial J (bx (aW la J J J (aR (k:=4) J))) J [20,21,22,23] [] J J J)))))))))
          ·(exfalso;have h0:=h20;revert h0;simp;try omega)
 ·exact hF.elim
theorem CB(e:Me)(s:Mm)(n:Nat)(hs:MO s n)(i:Qi)(pc:Int)(r:Int→Int)(st:Int)(hx:Stx s i pc r st)(ho:i.op=49):
  Spec Tryz.prog 115 [.agg (sR pc r st).toArray,.pointer (some ⟨e.m,0,none⟩)] [aY e.m 157 (mR e),own 5 1 bQ (sv e.vd) (s).d,own 5 1 bQ (sv e.vi) (s).i,own 3 1 eI (sv e.vr) (s).r] [] (X:=Unit) (fun _=>True) (fun _=> .agg (oC pc r st 3 0).toArray) (fun _=> [aY e.m 157 (mR e),own 5 1 bQ (sv e.vd) (s).d,own 5 1 bQ (sv e.vi) (s).i,own 3 1 eI (sv e.vr) (s).r]) (fun _=> []):=by
 have hdd:=hx.f.hv.d;have haa:=hx.f.hv.a;have hbb:=hx.f.hv.b;have him:=hx.f.imm;have hpp:=hx.f.p;have hp2:=hx.p;have hst:=hx.hst;have hk:iL i.op=0:=by rw [ho];rfl
 refine fw e s n hs i pc r st hx fun w0 M H b2 b4 b6 b7=> ?_
 refine bi (X:=Unit) (fun _=>False) (fun _=> []) (fun _=> []) (fun _=> []) ?_ (fun _ hF=> ?_)
 ·refine aB (ae (aa (aj (ah a_ J) J (aj (ak t3 J J (ap (k:=6) J J)) J (aj (am J J aS) J (aj (ac J) J (aA [] J J trivial (fun hg1=>ac J) J (aA [(67,_)] J J ⟨J,trivial⟩ (fun hg2=>am J J aS) J (aj (aM J J J (by first|exact ax|exact aC|rfl)) J (aj (ag J) J (ai (ar J (fun h3=> ?_) (fun h3=> ?_)))))))))))))
  ·(exfalso;have h0:=h3;revert h0;simp;try omega)
  ·(try simp only [aV]at h3)
   refine ae (aa (aj (ac J) J (aj (am J J cW) J (aj (ag J) J (ai (ar J (fun h4=> ?_) (fun h4=> ?_)))))))
   ·(exfalso;have h0:=h4;revert h0;simp;exact hk)
   ·(try simp only [aV]at h4)
    refine ae (aa (aj (ah a_ J) J (aj (ak t3 J J (ap (k:=6) J J)) J (aj (am J J aS) J (aj (ac J) J (aA [] J J trivial (fun hg5=>ah a_ J) J (aA [(88,_)] J J ⟨J,trivial⟩ (fun hg6=>ak t3 J J (ap (k:=6) J J)) J (aA [(88,_),(89,_)] J J ⟨J,J,trivial⟩ (fun hg7=>am J J aS) J (aj (aM J J J (by first|exact ax|exact aC|rfl)) J (aj (ag J) J (ai (ar J (fun h8=> ?_) (fun h8=> ?_)))))))))))))
    ·(exfalso;have h0:=h8;revert h0;simp;try omega)
    ·(try simp only [aV]at h8)
     refine ae (aa (aj (ah a_ J) J (aj (ak t3 J J (ap (k:=6) J J)) J (aj (am J J aS) J (aj (ac J) J (aA [] J J trivial (fun hg9=>ah a_ J) J (aA [(120,_)] J J ⟨J,trivial⟩ (fun hg10=>ak t3 J J (ap (k:=6) J J)) J (aA [(120,_),(121,_)] J J ⟨J,J,trivial⟩ (fun hg11=>am J J aS) J (aj (aM J J J (by first|exact ax|exact aC|rfl)) J (aj (ag J) J (ai (ar J (fun h12=> ?_) (fun h12=> ?_)))))))))))))
     ·(exfalso;have h0:=h12;revert h0;simp;try omega)
     ·(try simp only [aV]at h12)
      refine ae (aa (aj (ah a_ J) J (aj (ak t3 J J (ap (k:=6) J J)) J (aj (am J J aS) J (aj (ag J) J (ai (ar J (fun h13=> ?_) (fun h13=> ?_))))))))
      ·(exfalso;have h0:=h13;revert h0;simp;try omega)
      ·(try simp only [aV]at h13)
       refine ae (aa (aj (ah a_ J) J (aj (ak t3 J J (ap (k:=6) J J)) J (aj (am J J eV) J (aj (ac J) J (aA [] J J trivial (fun hg14=>ah a_ J) J (aA [(162,_)] J J ⟨J,trivial⟩ (fun hg15=>ak t3 J J (ap (k:=6) J J)) J (aA [(162,_),(163,_)] J J ⟨J,J,trivial⟩ (fun hg16=>am J J jj) J (aj (aM J J J (by first|exact ax|exact aC|rfl)) J (aj (ag J) J (ai (ar J (fun h17=> ?_) (fun h17=> ?_)))))))))))))
       ·(exfalso;have h0:=h17;revert h0;simp;try omega)
       ·(try simp only [aV]at h17)
        refine ae (aa (aj (ah a_ J) J (aj (ak t3 J J (ap (k:=6) J J)) J (aj (am J J aS) J (aj (ag J) J (ai (ar J (fun h18=> ?_) (fun h18=> ?_))))))))
        ·(exfalso;have h0:=h18;revert h0;simp;try omega)
        ·(try simp only [aV]at h18)
         refine ae (aa (aj (ah a_ J) J (aj (ak t3 J J (ap (k:=6) J J)) J (aj (am J J aS) J (aj (ag J) J (ai (ar J (fun h19=> ?_) (fun h19=> ?_))))))))
         ·(exfalso;have h0:=h19;revert h0;simp;try omega)
         ·(try simp only [aV]at h19)
          refine ae (aa (aj (ah a_ J) J (aj (ak t3 J J (ap (k:=6) J J)) J (aj (am J J aS) J (aj (ag J) J (ai (ar J (fun h20=> ?_) (fun h20=> ?_))))))))
          ·(exfalso;have h0:=h20;revert h0;simp;try omega)
          ·(try simp only [aV]at h20)
           refine ae (aa (aj (ah a_ J) J (aj (ak t3 J J (ap (k:=6) J J)) J (aj (am J J aS) J (aj (ag J) J (ai (ar J (fun h21=> ?_) (fun h21=> ?_))))))))
           ·(try simp only [aV]at h21)
            refine ae (aa (aj (aJ wO J J J (aR (k:=2) J)) J (au (xs:= [.tmp 216,.const (.int .i64 3),.const (.int .u32 0)]) (mi pc r st 3 0) I2 [] [] [] J J J J J J J J (fun _ _=>J) (fun _ _ _=>J) J (fun _ _=>av (k:=4) la J J J J J J (ai (aw (aG () trivial J (bx (aW la J J J (aR (k:=4) J))) J [20,21,22,23] [] J J J)))))))
           ·(exfalso;have h0:=h21;revert h0;simp;try omega)
 ·exact hF.elim
theorem n8(n:Int):wU n=n%4294967296:=by
 unfold wU;simp [IntKind.wrap,IntKind.signed,IntKind.bits]
theorem Pa{a b:Int}(ha:oW a)(hb:oW b):bits .xor .u32 a b=((a.toNat^^^b.toNat:Nat):Int):=by
 have h1:bits .xor .u32 a b=IntKind.u32.wrap (((BitVec.ofInt 32 a^^^BitVec.ofInt 32 b).toNat:Nat):Int):=J;have h2:∀x:Int,oW x→(BitVec.ofInt 32 x).toNat=x.toNat:=fun x hx=>by
  rw [BitVec.toNat_ofInt,Int.emod_eq_of_lt hx.1 (by have:=hx.2;omega)]
 have h3:=(BitVec.ofInt 32 a^^^BitVec.ofInt 32 b).isLt;rw [h1,bC (by omega) (by omega),BitVec.toNat_xor,h2 a ha,h2 b hb]
theorem Fk{a b:Int}(ha:oW a)(hb:oW b):0<bits .xor .u32 a b↔¬a=b:=by
 rw [Pa ha hb];have h:a.toNat^^^b.toNat=0→a.toNat=b.toNat:=fun h=>by
  have h2:(a.toNat^^^b.toNat)^^^b.toNat=a.toNat:=by rw [Nat.xor_assoc,Nat.xor_self,Nat.xor_zero]
  rw [h,Nat.zero_xor]at h2;exact h2.symm
 have h1:=ha.1;have h2:=hb.1;constructor
 ·intro hx e;subst e;rw [Nat.xor_self]at hx;omega
 ·intro hn;have:¬(a.toNat^^^b.toNat=0):=fun e=>hn (by have:=h e;omega)
  omega
theorem Fl{a:Int}(ha:oW a):bits .xor .u32 a 4294967295=4294967295-a:=by
 have h1:bits .xor .u32 a 4294967295=IntKind.u32.wrap (((BitVec.ofInt 32 a^^^BitVec.ofInt 32 4294967295).toNat:Nat):Int):=J;have h2:BitVec.ofInt 32 4294967295=BitVec.allOnes 32:=by decide
 rw [h1,h2,BitVec.xor_allOnes,BitVec.toNat_not,BitVec.toNat_ofInt];have h4:=ha.1;have h5:=ha.2;have h3:(a%((2^32:Nat):Int)).toNat=a.toNat:=by
  rw [Int.emod_eq_of_lt ha.1 (by omega)]
 rw [h3,bC (by omega) (by omega)];omega
theorem P3{x y:Int}(hx:oW x)(hx2:x%1024=0)(hy:0≤y∧y<1024):bits .or .u32 x y=x+y:=by
 have h1:bits .or .u32 x y=IntKind.u32.wrap (((BitVec.ofInt 32 x ||| BitVec.ofInt 32 y).toNat:Nat):Int):=J;have h2:∀x:Int,oW x→(BitVec.ofInt 32 x).toNat=x.toNat:=fun x hx=>by
  rw [BitVec.toNat_ofInt,Int.emod_eq_of_lt hx.1 (by have:=hx.2;omega)]
 have h3:=(BitVec.ofInt 32 x ||| BitVec.ofInt 32 y).isLt;have h4:=hx.1;have h5:=hx.2;rw [h1,bC (by omega) (by omega),BitVec.toNat_or,h2 x hx,h2 y ⟨hy.1,by omega⟩];have e:x.toNat=2^10*(x.toNat/2^10):=by omega
 rw [e,←Nat.two_pow_add_eq_or_of_lt (show y.toNat<2^10 by omega)];omega
theorem LU(b:Bool):bits .xor .u32 (tr b) 1=tr (!b):=by cases b<;>rfl
structure Kr(ks:List Int)(c c':Qs):Prop where
 m:c'.m=c.m
 i:c'.inp=c.inp
 o:c'.out=c.out
 r:∀k,k∉ks→c'.r k=c.r k
theorem db{r:Int→Int}{d v:Int}(h:d≠0):rp r d v d=v:=if_pos ⟨rfl,h⟩
theorem ca{r:Int→Int}{d v k:Int}(h:k≠d):rp r d v k=r k:=if_neg fun e=>h e.1
theorem du{r:Int→Int}{d v:Int}{ks:List Int}(h:d∈ks):∀k,k∉ks→rp r d v k=r k:=fun k hk=>ca fun e=>hk (e▸h)
section
variable{code:List Qi}
theorem iq{n:Int}{c:Qs}{P:Qs→Prop}{op d a b:Int}{p:Nat}{v:Int}(hpc:c.pc=p)(h:code[p]?=some (q3 op d a b))(h2:wJ op (c.r a) (c.r b)=some v)
  (h3:∀c',c'.pc=p+1→c'.r=rp c.r d v→c'.m=c.m→c'.inp=c.inp→c'.out=c.out→Go code (n-1) c' P) (ho:op<16:=by decide):Go code n c P:=
 DS (i:=q3 op d a b) (hpc▸h) (by rw [if_pos (show(q3 op d a b).op<16 from ho)];exact h2) (h3 _ (by rw [←hpc]) rfl rfl rfl rfl)
theorem iN{n:Int}{c:Qs}{P:Qs→Prop}{op d a x:Int}{p:Nat}{v:Int}(hpc:c.pc=p)(h:code[p]?=some (qi op d a x))(h2:wJ op (c.r a) x=some v)
  (h3:∀c',c'.pc=p+1→c'.r=rp c.r d v→c'.m=c.m→c'.inp=c.inp→c'.out=c.out→Go code (n-1) c' P) (ho:¬op<16:=by decide):Go code n c P:=
 DS (i:=qi op d a x) (hpc▸h) (by rw [if_neg (show ¬(qi op d a x).op<16 from ho)];exact h2) (h3 _ (by rw [←hpc]) rfl rfl rfl rfl)
theorem MR{p:Nat}{c:Qs}{o:ByteArray}{a b:Int}(hb:gw o=true)(hc:cAt code p (AR o))(hl:p<9000)(hpc:c.pc=p)(h0:c.r 0=0)(h2:c.r 2=a)(h1:c.r 1=b)(ha:oW a)(hw:oW b):
  Go code 5 c fun c'=>c'.pc=p+(AR o).length∧c'.r 1=(nr o a b).getD 0∧Kr [1,3] c c':=by
 have one:∀{op x y:Int}{v:Int},cAt code p [q3 op 1 x y]→op<16→wJ op (c.r x) (c.r y)=some v→Go code 5 c fun c'=>c'.pc=p+1∧c'.r 1=v∧Kr [1,3] c c':=fun{op x y v} hc ho hv=>
  iq hpc hc.head.1 (v:=v) hv (fun c' e1 e2 e3 e4 e5=>Go.done (by decide) ⟨e1,by rw [e2];exact db (by decide),e3,e4,e5,by rw [e2];exact du (by decide)⟩) ho
 have two:∀{op x y:Int}{v:Bool},cAt code p [q3 op 1 x y,qi 19 1 1 1]→op<16→wJ op (c.r x) (c.r y)=some (tr v)→Go code 5 c fun c'=>c'.pc=p+2∧c'.r 1=tr (!v)∧Kr [1,3] c c':=fun{op x y v} hc ho hv=>
  iq hpc hc.head.1 (v:=tr v) hv (fun c' e1 e2 e3 e4 e5=>
   iN e1 hc.head.2.head.1 (v:=tr (!v)) (by rw [←LU v,e2];rfl) fun c2 f1 f2 f3 f4 f5=>Go.done (by decide) ⟨by rw [f1],by rw [f2];exact db (by decide),f3.trans e3,f4.trans e4,f5.trans e5,fun k hk=>by rw [f2,du (by decide) k hk,e2];exact du (by decide) k hk⟩) ho
 have ne:∀{l:List Qi},cAt code p (q3 5 1 2 1::q3 11 1 0 1::l)→∀{P:Qs→Prop},(∀c',c'.pc=p+2→c'.r 1=tr (!decide (a=b))→Kr [1,3] c c'→Go code 3 c' P)→Go code 5 c P:=fun{l} hc{P} hP=>
  iq hpc hc.head.1 (v:=bits .xor .u32 a b) (by rw [←h2,←h1];rfl) fun c' e1 e2 e3 e4 e5=>
   iq e1 hc.head.2.head.1 (v:=tr (!decide (a=b))) (by
    show some (tr (decide (c'.r 0<c'.r 1)))=_;rw [e2,ca (by decide),h0,db (by decide)];have:=Fk ha hw;by_cases h:a=b
    ·rw [decide_eq_false (fun x=>this.1 x h),decide_eq_true h];rfl
    ·rw [decide_eq_true (this.2 h),decide_eq_false h];rfl) fun c2 f1 f2 f3 f4 f5=>
   hP c2 f1 (by rw [f2];exact db (by decide)) ⟨f3.trans e3,f4.trans e4,f5.trans e5,fun k hk=>by rw [f2,du (by decide) k hk,e2];exact du (by decide) k hk⟩
 unfold gw at hb;obtain⟨q,hq⟩:=Option.isSome_iff_exists.1 hb;have hm:=List.mem_of_find?_eq_some hq;have he:=List.find?_some hq;have he:q.1=o:=by simpa using he
 subst he;simp only [lvL,List.mem_cons,List.not_mem_nil,or_false]at hm;rcases hm with rfl|rfl|rfl|rfl|rfl|rfl|rfl|rfl|rfl|rfl|rfl|rfl|rfl|rfl|rfl|rfl
 · -- remainder
  have hc':cAt code p [q3 1 3 1 0,qi 32 1 0 3,q3 10 3 2 1,q3 9 3 3 1,q3 2 1 2 3]:=hc;show Go code 5 c fun c'=>c'.pc=p+5∧c'.r 1=(if b=0 then a else a%b)∧Kr [1,3] c c'
  refine iq hpc hc'.head.1 (v:=b) (by
   show some (wU (c.r 1+c.r 0))=_;rw [h1,h0,Int.add_zero,ft hw]) fun c1 e1 e2 e3 e4 e5=> ?_
  refine tV (d:=1) (a:=0) (x:=3) (by rw [e1];exact hc'.head.2.head.1) ?_;rw [e2,ca (by decide),ca (by decide),h1,h0,e1];by_cases hz:b=0
  ·rw [if_pos hz,if_pos hz,lA (q:=p+4) (by rw [show((p+4:Nat):Int)-((p+1:Nat):Int)=3 by omega];rfl) (by omega) (by omega)];refine iq (p:=p+4) J hc'.head.2.head.2.head.2.head.2.head.1 (v:=a) (by
    show some (wU (rp c.r 3 b 2-rp c.r 3 b 3))=_;rw [ca (by decide),db (by decide),h2,hz,Int.sub_zero,ft ha]) fun c2 f1 f2 f3 f4 f5=> ?_
   refine Go.done (by decide) ⟨f1,by rw [f2];exact db (by decide),f3.trans e3,f4.trans e4,f5.trans e5,fun k hk=> ?_⟩;rw [f2,du (by decide) k hk];exact du (by decide) k hk
  ·rw [if_neg hz,if_neg hz];have hq1:a/b*b+a%b=a:=Int.ediv_mul_add_emod a b;have hq2:=Int.emod_nonneg a hz;have hq3:=Int.emod_lt_of_pos a (b:=b) (by have:=hw.1;omega);have hq4:0≤a/b:=Int.ediv_nonneg ha.1 hw.1;have hq5:0≤a/b*b:=Int.mul_nonneg hq4 hw.1;have ha2:=ha.2;have hw2:=hw.2;refine iq (p:=p+2) J hc'.head.2.head.2.head.1 (v:=a/b) (by
    show(if rp c.r 3 b 1=0 then none else some (rp c.r 3 b 2/rp c.r 3 b 1))=_;rw [ca (by decide),ca (by decide),h1,h2,if_neg hz]) fun c2 f1 f2 f3 f4 f5=> ?_
   refine iq f1 hc'.head.2.head.2.head.2.head.1 (v:=a/b*b) (by
    show some (wU (c2.r 3*c2.r 1))=_;rw [f2];show some (wU (rp (rp c.r 3 b) 3 (a/b) 3*rp (rp c.r 3 b) 3 (a/b) 1))=_;rw [db (by decide),ca (by decide),ca (by decide),h1,ft ⟨hq5,by omega⟩]) fun c3 g1 g2 g3 g4 g5=> ?_
   refine iq g1 hc'.head.2.head.2.head.2.head.2.head.1 (v:=a%b) (by
    show some (wU (c3.r 2-c3.r 3))=_;rw [g2,f2];show some (wU (rp (rp (rp c.r 3 b) 3 (a/b)) 3 (a/b*b) 2-rp (rp (rp c.r 3 b) 3 (a/b)) 3 (a/b*b) 3))=_;rw [db (by decide),ca (by decide),ca (by decide),ca (by decide),h2,ft (by omega)];exact congrArg some (by omega)) fun c4 k1 k2 k3 k4 k5=> ?_
   refine Go.done (by decide) ⟨k1,by rw [k2];exact db (by decide),((k3.trans g3).trans f3).trans e3,((k4.trans g4).trans f4).trans e4,((k5.trans g5).trans f5).trans e5,fun k hk=> ?_⟩;rw [k2,du (by decide) k hk,g2,du (by decide) k hk,f2,du (by decide) k hk];exact du (by decide) k hk
 · -- quotient
  have hc':cAt code p [qi 32 1 0 2,q3 10 1 2 1]:=hc;show Go code 5 c fun c'=>c'.pc=p+2∧c'.r 1=(if b=0 then 0 else a/b)∧Kr [1,3] c c'
  refine tV (d:=1) (a:=0) (x:=2) (by rw [hpc];exact hc'.head.1) ?_;rw [h1,h0,hpc];by_cases hz:b=0
  ·rw [if_pos hz,if_pos hz,lA (q:=p+2) (by rw [show((p+2:Nat):Int)-(p:Int)=2 by omega];rfl) (by omega) (by omega)];exact Go.done (by decide) ⟨J,h1.trans hz,J,J,J,fun _ _=>J⟩
  ·rw [if_neg hz,if_neg hz];refine iq (p:=p+1) J hc'.head.2.head.1 (v:=a/b) (by
    show(if c.r 1=0 then none else some (c.r 2/c.r 1))=_;rw [h1,h2,if_neg hz]) fun c2 f1 f2 f3 f4 f5=> ?_
   exact Go.done (by decide) ⟨f1,by rw [f2];exact db (by decide),f3,f4,f5,by rw [f2];exact du (by decide)⟩
 ·exact one (op:=9) hc (by decide) (by rw [h2,h1];rfl)
 ·exact one (op:=2) hc (by decide) (by rw [h2,h1];rfl)
 ·exact one (op:=1) hc (by decide) (by rw [h2,h1];rfl)
 ·exact one (op:=7) hc (by decide) (by rw [h2,h1];rfl)
 ·exact one (op:=6) hc (by decide) (by rw [h2,h1];rfl)
 · -- at least
  have:=two (op:=11) (x:=2) (y:=1) (v:=decide (a<b)) hc (by decide) (by rw [h2,h1];rfl);show Go code 5 c fun c'=>c'.pc=p+2∧c'.r 1=tr (decide (a≥b))∧Kr [1,3] c c'
  rw [show decide (a≥b)= !decide (a<b) by rw [←decide_not];exact decide_eq_decide.2 (by omega)];exact this
 ·exact one (op:=11) (v:=tr (decide (b<a))) hc (by decide) (by rw [h2,h1];rfl)
 · -- at most
  have:=two (op:=11) (x:=1) (y:=2) (v:=decide (b<a)) hc (by decide) (by rw [h2,h1];rfl);show Go code 5 c fun c'=>c'.pc=p+2∧c'.r 1=tr (decide (a≤b))∧Kr [1,3] c c'
  rw [show decide (a≤b)= !decide (b<a) by rw [←decide_not];exact decide_eq_decide.2 (by omega)];exact this
 ·exact one (op:=11) hc (by decide) (by rw [h2,h1];rfl)
 ·exact ne (l:= []) hc fun c' e1 e2 e3=>Go.done (by decide) ⟨e1,e2,e3⟩
 · -- equal
  have hc':cAt code p [q3 5 1 2 1,q3 11 1 0 1,qi 19 1 1 1]:=hc;refine ne hc' fun c' e1 e2 e3=>iN e1 hc'.head.2.head.2.head.1 (v:=tr (decide (a=b))) (by
   show some (bits .xor .u32 (c'.r 1) 1)=_;rw [e2,LU,Bool.not_not]) fun c2 f1 f2 f3 f4 f5=> ?_
  exact Go.done (by decide) ⟨f1,by rw [f2];exact db (by decide),f3.trans e3.m,f4.trans e3.i,f5.trans e3.o,fun k hk=>by rw [f2,du (by decide) k hk];exact e3.r k hk⟩
 ·exact one (op:=3) hc (by decide) (by rw [h2,h1];rfl)
 ·exact one (op:=5) hc (by decide) (by rw [h2,h1];rfl)
 ·exact one (op:=4) hc (by decide) (by rw [h2,h1];rfl)
theorem L_{p:Nat}{c:Qs}{o:ByteArray}{a:Int}(hb:bX o wN=true)(hc:cAt code p (BW o))(hpc:c.pc=p)(h0:c.r 0=0)(h1:c.r 1=a)(ha:oW a):
  Go code 2 c fun c'=>c'.pc=p+(BW o).length∧c'.r 1=(BX o a).getD 0∧Kr [1,2] c c':=by
 have two:∀{op x v:Int},cAt code p [qi 16 2 0 x,q3 op 1 1 2]→oW x→op<16→wJ op a x=some v→Go code 2 c fun c'=>c'.pc=p+2∧c'.r 1=v∧Kr [1,2] c c':=fun{op x v} hc hx ho hv=>
  iN hpc hc.head.1 (v:=x) (by
   show some (wU (c.r 0+x))=_;rw [h0,Int.zero_add,ft hx]) fun c' e1 e2 e3 e4 e5=>
   iq e1 hc.head.2.head.1 (v:=v) (by
    rw [e2];show wJ op (rp c.r 2 x 1) (rp c.r 2 x 2)=_;rw [ca (by decide),db (by decide),h1];exact hv) (fun c2 f1 f2 f3 f4 f5=>Go.done (by decide) ⟨f1,by rw [f2];exact db (by decide),f3.trans e3,f4.trans e4,f5.trans e5,fun k hk=>by rw [f2,du (by decide) k hk,e2];exact du (by decide) k hk⟩) ho
 unfold bX at hb;obtain⟨q,hm,he⟩:=List.any_eq_true.1 hb;have he:o=q:=by simpa using he
 subst he;simp only [wN,List.mem_cons,List.not_mem_nil,or_false]at hm;rcases hm with rfl|rfl|rfl
 ·have hc':cAt code p [q3 2 1 0 1]:=hc;refine iq hpc hc'.head.1 (v:=wU (-a)) (by
   show some (wU (c.r 0-c.r 1))=_;rw [h0,h1,Int.zero_sub]) fun c' e1 e2 e3 e4 e5=>Go.done (by decide) ⟨e1,by rw [e2];exact db (by decide),e3,e4,e5,by rw [e2];exact du (by decide)⟩
 ·exact two (op:=5) hc (by decide) (by decide) (show some (bits .xor .u32 a 4294967295)=some (4294967295-a) by rw [Fl ha])
 ·refine two (op:=11) hc (by decide) (by decide) ?_;show some (tr (decide (a<1)))=some (tr (decide (a=0)));have:=ha.1;rw [show decide (a<1)=decide (a=0)from decide_eq_decide.2 (by omega)]
theorem Kd{p:Nat}{c:Qs}{n:Int}(hc:cAt code p (ox n))(hpc:c.pc=p)(h0:c.r 0=0)(ha:oW n):
  Go code 2 c fun c'=>c'.pc=p+(ox n).length∧c'.r 1=n∧Kr [1] c c':=by
 unfold ox at hc ⊢;by_cases h:gQ n=true
 ·rw [if_pos h]at hc ⊢;exact iN hpc hc.head.1 (v:=n) (by
   show some (wU (c.r 0+n))=_;rw [h0,Int.zero_add,ft ha]) fun c' e1 e2 e3 e4 e5=>Go.done (by decide) ⟨e1,by rw [e2];exact db (by decide),e3,e4,e5,by rw [e2];exact du (by decide)⟩
 ·rw [if_neg h]at hc ⊢;have h1:=ha.1;have h2:=ha.2;refine KB (d:=1) (a:=0) (x:=n/1024) (by rw [hpc];exact hc.head.1) ?_;rw [ft (by omega)];refine iN (p:=p+1) (by rw [←hpc]) hc.head.2.head.1 (v:=n) (by
   show some (bits .or .u32 (rp c.r 1 (n/1024*1024) 1) (n%1024))=_;rw [db (by decide),P3 ⟨by omega,by omega⟩ (by omega) (by omega)];exact congrArg some (by omega)) fun c' e1 e2 e3 e4 e5=>Go.done (by decide) ⟨e1,by rw [e2];exact db (by decide),e3,e4,e5,fun k hk=>by
    rw [e2,du (by decide) k hk];exact du (by decide) k hk⟩
end
end Go.Proofs.YtedmdgbmdplifaaGreat
