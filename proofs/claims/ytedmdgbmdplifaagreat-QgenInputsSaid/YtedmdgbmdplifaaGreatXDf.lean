/-
  A part of the proof. Conditions are with the theorems.
-/
import Derived.Test.YtedmdgbmdplifaaGreatXDa
import Derived.Test.YtedmdgbmdplifaaGreatXDb
import Derived.Test.YtedmdgbmdplifaaGreatXDc
import Derived.Test.YtedmdgbmdplifaaGreatXDd
import Derived.Test.YtedmdgbmdplifaaGreatXDe
set_option maxHeartbeats 32000000
set_option maxRecDepth 100000
set_option linter.unusedSimpArgs false
set_option linter.unusedVariables false
namespace Go.Proofs.YtedmdgbmdplifaaGreat
open Go.RowKit Tryz
structure Sb where
 fr:Vs
 vN:SV
 vV:SV
 done:Bool
 val:Int
 x:Sx
def nj(e:Rn)(r:Re (Vs×Option Int))(y:Sb):Prop:=(∃vs ro s vo,r= .ok (vs,ro) s∧y.x=xS e s vo∧FrEq y.fr vs∧(y.fr.length:Int)+max s.fuel 0≤1000001000000∧y.done=ro.isSome∧y.val=ro.getD 0)∨(y.x.er≠0∧r= .err y.x.er)
abbrev LB(e:Rn)(b d:Nat)(y:Sb):List Asn:= [bh e.m 204 (lY e y.x),own 41 1 eU (sv y.x.vo) y.x.out,bh b 232 (fC y.vN y.vV (d:Int) y.done y.val),own 9 1 eS (sv y.vN) (uh y.fr),own 41 1 eU (sv y.vV) (vL y.fr)]
structure RkB(e:Rn)(fr vs:Vs)(s:Ms):Prop where
 k:RkE e s
 v:okVs vs
 f:FrEq fr vs
 n:(fr.length:Int)+max s.fuel 0≤1000001000000
def RD(e:Rn)(g:Nat):Prop:=∀(l:List Ty)(v:SV)(d b:Nat)(vN vV:SV)(fr vs:Vs)(s:Ms)(vo:SV)(r:Re (Vs×Option Int)),VYs e.fs l→l.length≤1000000→d≤12→RkB e fr vs s→gW g e.fs d vs l s=some r→
 Spec prog 146 [Pt e.m,Pt b,sv v] (LB e b d ⟨fr,vN,vV,false,0,xS e s vo⟩) [bV v l,cx e.vp e.fs,sl 1 eU (sv e.vin) e.ins] (X:=Sb) (nj e r) (fun _=> .tuple #[]) (fun y=>LB e b d y) (fun _=> [])
def T_(e:Rn)(g:Nat):Prop:=∀(t:Ty)(d b:Nat)(vN vV:SV)(fr vs:Vs)(s:Ms)(vo:SV)(r:Re (Vs×Option Int)),VY e.fs t→d≤12→RkB e fr vs s→i_ g e.fs d vs t s=some r→
 Spec prog 178 [Pt e.m,Pt b,yV t] (LB e b d ⟨fr,vN,vV,false,0,xS e s vo⟩) [ce t.ve t.es,bV t.vb t.body,bV t.vl t.els,cx e.vp e.fs,sl 1 eU (sv e.vin) e.ins] (X:=Sb) (nj e r) (fun _=> .tuple #[]) (fun y=>LB e b d y) (fun _=> [])
theorem r7:∀(ps:List Ba)(al:List Int)(vs:Vs)(i:Nat)(p:Ba)(a:Int),ps[i]?=some p→al[i]?=some a→eG vs (ps.take (i+1)) (al.take (i+1))=fc (eG vs (ps.take i) (al.take i)) p a
 | [],_,_,_,_,_,h,_=>by simp at h
 | _::_,[],_,_,_,_,_,h=>by simp at h
 | q::ps,c::al,vs,0,p,a,h1,h2=>by
  cases h1;cases h2;rfl
 | q::ps,c::al,vs,i+1,p,a,h1,h2=>by
  rw [List.take_succ_cons,List.take_succ_cons,List.take_succ_cons,List.take_succ_cons];show eG (fc vs q c) _ _=fc (eG (fc vs q c) _ _) p a;exact r7 ps al (fc vs q c) i p a h1 h2
theorem uC:∀(ps:List Ba)(al:List Int)(vs:Vs),eG vs (ps.take al.length) al=eG vs ps al
 | [],[],_=>rfl
 | [],_::_,_=>rfl
 | q::ps,[],_=>rfl
 | q::ps,c::al,vs=>by
  rw [bP,List.take_succ_cons];show eG (fc vs q c) _ _=eG (fc vs q c) ps al;exact uC ps al _
structure Yf where
 i:Nat
 fr:Vs
 vN:SV
 vV:SV
structure Yb where
 i:Nat
 g:Nat
 y:Sb
def BIn(e:Rn)(g d:Nat)(l:List Ty)(y:Sb)(r:Re (Vs×Option Int)):Prop:=(∃vs s vo,y.x=xS e s vo∧RkB e y.fr vs s∧y.done=false∧y.val=0∧gW g e.fs d vs l s=some r)∨((y.done=true∨y.x.er≠0)∧nj e r y)
theorem BIn.done{e:Rn}{g d:Nat}{y:Sb}{r:Re (Vs×Option Int)}(h:BIn e g d [] y r):nj e r y:=by
 rcases h with⟨vs,s,vo,h1,h2,h3,h4,h5⟩|h
 ·exact .inl ⟨vs,none,s,vo,J5 h5,h1,h2.f,h2.n,h3,h4⟩
 ·exact h.2
theorem BIn.stop{e:Rn}{g d:Nat}{l:List Ty}{y:Sb}{r:Re (Vs×Option Int)}(h:BIn e g d l y r)(hs:y.done=true∨y.x.er≠0):nj e r y:=by
 rcases h with⟨vs,s,vo,h1,h2,h3,h4,h5⟩|h
 ·rcases hs with hs|hs
  ·rw [h3]at hs;cases hs
  ·rw [h1]at hs;exact absurd J hs
 ·exact h.2
theorem BIn.step{e:Rn}{g d:Nat}{t:Ty}{l:List Ty}{y:Sb}{r:Re (Vs×Option Int)}(hF:VF e.fs)(ht:VY e.fs t)(h:BIn e g d (t::l) y r)(hd:y.done=false)(he:y.x.er=0):
  ∃g2 q vs s vo,g=g2+1∧y.x=xS e s vo∧RkB e y.fr vs s∧y.val=0∧i_ g2 e.fs d vs t s=some q∧∀z,nj e q z→BIn e g2 d l z r:=by
 rcases h with⟨vs,s,vo,h1,h2,h3,h4,h5⟩|⟨h,_⟩
 ·obtain⟨g2,q,hg,hx,hre,hrs,hrn⟩:=GT h5;refine⟨g2,q,vs,s,vo,hg,h1,h2,h4,hx,fun z hz=> ?_⟩;rcases hz with⟨vs1,ro,s1,vo1,z1,z2,z3,z4,z5,z6⟩|⟨z1,z2⟩
  ·rw [z1]at hx;obtain⟨k1,k2,k3⟩:=(fI hF g2).s d vs t s _ s1 ht h2.v h2.k.ok hx;cases ro with
   | none=>exact .inl ⟨vs1,s1,vo1,z2,⟨h2.k.kp k3,k1,z3,z4⟩,z5,z6,hrn vs1 s1 z1⟩
   | some x=>exact .inr ⟨.inl z5,.inl ⟨vs1,some x,s1,vo1,hrs vs1 x s1 z1,z2,z3,z4,z5,z6⟩⟩
  ·exact .inr ⟨.inr z1,.inr ⟨z1,hre _ z2⟩⟩
 ·rcases h with h|h
  ·rw [hd]at h;cases h
  ·exact absurd he h
theorem Ki(e:Rn)(g:Nat)(hF:VF e.fs)(hfl:e.fs.length≤1000000)(ihB:RD e g)(nm:Ba)(f:Tf)(d:Nat)(va:SV)(al:List Int)(s:Ms)(vo:SV)(r:Re Int)(hff:cy e.fs nm=some f)(hal:al.length≤f.ps.length)(hao:∀a∈al,oW a)(hd:d≤12)(hs:RkE e s)(hr:lM (g+1) e.fs d f al s=some r)(h12:d=12):
  Spec prog 114 [Pt e.m,Sg nm,sv va,I6 ((d:Int)+1)] (LX e (xS e s vo)) ([sl 1 eU (sv va) al,cx e.vp e.fs,sl 1 eU (sv e.vin) e.ins]) (X:=Int×Sx) (tO e r) (fun y=>I3 y.1) (fun y=>LX e y.2) (fun _=> []):=by
 refine aI func114 J ntmps114 J fun w0 M H=> ?_
 unfold lM at hr;rw [ar h12]at hr;refine ap (ak J (aa (aT (ad J (aw J J ec (aa (ai J (fun h1=> ?_) (fun h1=> ?_))))))))
 ·(try simp only [bj]at h1);refine ap (ad J (bI J (aC gG J (aA (k:=0) pr J J J J J J (vG (by decide)) (xm) (aF J (ak J (aa (ax ?_))))))));refine aH (0,{xS e s vo with er:=26}) (.inr ⟨by show(26:Int)≠0;decide,(cf hr).symm⟩) J (bQ (aL J)) J [0,1] [] J J J
 ·exact absurd (cg h1) (by omega)
theorem Rh(e:Rn)(g:Nat)(hF:VF e.fs)(hfl:e.fs.length≤1000000)(ihB:RD e g)(nm:Ba)(f:Tf)(d:Nat)(va:SV)(al:List Int)(s:Ms)(vo:SV)(r:Re Int)(hff:cy e.fs nm=some f)(hal:al.length≤f.ps.length)(hao:∀a∈al,oW a)(hd:d≤12)(hs:RkE e s)(hr:lM (g+1) e.fs d f al s=some r)(h12:¬d=12):
  Spec prog 114 [Pt e.m,Sg nm,sv va,I6 ((d:Int)+1)] (LX e (xS e s vo)) ([sl 1 eU (sv va) al,cx e.vp e.fs,sl 1 eU (sv e.vin) e.ins]) (X:=Int×Sx) (tO e r) (fun y=>I3 y.1) (fun y=>LX e y.2) (fun _=> []):=by
 refine aI func114 J ntmps114 J fun w0 M H=> ?_
 unfold lM at hr;rw [ae h12]at hr;obtain⟨rb,hb⟩:∃rb,gW g e.fs (d+1) (eG [] f.ps al) f.body s=some rb:=by
  cases h:gW g e.fs (d+1) (eG [] f.ps al) f.body s with
  | none=>rw [h]at hr;simp at hr
  | some q=>exact⟨q,rfl⟩
 rw [hb]at hr;obtain⟨m,hfx,hfm⟩:=em.2 f hff;have hfm2:=bT hfm;have hml:m<e.fs.length:=(cJ.1 hfm).1;obtain⟨hF1,hF2,hF3⟩:=hF f hfm2;have hso:=hs.ok.out;refine aZ 1 3 J jG (aZ 1 4 J (l_ hfm2) (aZ 4 5 J ma (aZ 4 6 J k8 (ap (ak J (aa (aT (ad J (aw J J ec (aa (ai J (fun h1=> ?_) (fun h1=> ?_))))))))))))
 ·exact absurd (bW h1) (by omega)
 ·(try simp only [bj]at h1);refine az (bx (X:=Nat) (fun _=>True) (fun b9=> [(0,Pt e.m),(2,sv va),(3,I6 ((d:Int)+1)),(9,Pt b9)]) (fun b9=> [(0,bh e.m 204 (lY e (xS e s vo))),(1,own 41 1 eU (sv vo) s.out),(9,bh b9 66 (ip f))]) (fun b9=> [(0,sl 1 eU (sv va) al),(1,cx e.vp e.fs),(2,sl 1 eU (sv e.vin) e.ins),(3,sl 3 ip (sv e.vp) e.fs),(4,Bn f),(5,sl 1 eS (sv f.vp) f.ps),(6,bV f.vb f.body)]) ?_ (fun b9 _=> ?_))
  ·refine bJ [17,18,19,20,21,22,23,24,25,26,27,28,29,9] _ J (fe (V:= [(0,17,_),(1,18,_),(2,19,_),(3,20,_),(4,21,_),(5,22,_),(6,23,_),(7,24,_),(8,25,_),(9,26,_)]) [0,1,2,3,4,5,6,7,8,9] J J (aD J J (ac J (au J) (ac J (ag lw J) (ac J (ag dJ J) (ac J (ah iB J J (ay (k:=0) J J)) (aD J J (ac J (au J) (ac J (ag lw J) (ac J (aM jB J J J (kQ (us:= [sv e.vp]) (k:=0) J J)) (aD J J av)))))))))) J [10,13] J J (df (dQ 10 [10,9,8,7,6,5] [11,12] (fun _=> [(11,28,_),(12,29,_)]) J J J J J J J J J (fun _ _=>J) J (bB (xs:= [.tmp 25,.tmp 26]) (jR nm e.vp e.fs hfl) Hg [] [(false,3)] []) (fun _ _=>aW [11,12,0,1,2,3,4] 13 [13,10,9,8,7,6,5] [] (fun b9=> []) J J (ac J (aN (j:=m) underlying25 fj J J (aK (k:=3) J) hfx hml) (ac J (aM fj J J J (bA (aK (k:=3) J) (by intro _;rfl) hfm (by rfl))) (aD J J (ac J (au J) (ac J (ag lw J) (ac J (ag dJ J) (ac J (ah iB J J (ay (k:=0) J J)) av))))))) J J J J J J J J J J J (fun _ _=>J) J (dV fj J) (fun b9 _=>bE [11,12,0,1,2,3,4] 14 [14,13,12,11,10,9,8,7,6,5,4,3,2,1,0] [] (fun _=> []) J J (ac J (aN (j:=m) underlying25 fj J J (aK (k:=3) J) hfx hml) (ac J (aM fj J J J (bA (aK (k:=3) J) (by intro _;rfl) hfm (by rfl))) (aD J J (ac J (au J) (ac J (ag lw J) (ac J (ag dJ J) (ac J (ah iB J J (ay (k:=0) J J)) av))))))) J J J J J J J J J (fun _ _=>J) J (bD (k:=9) fj J J J J J J) (fun _ _=>bl [] J J av J J J ?_)))) (df (dQ 13 [13] [] (fun b9=> []) J J J J J J J J J (fun _ _=>J) J (dV fj J) (fun b9 _=>aW [0,1,2,3,4,5,6,7,8,9] 10 [13,10,9,8,7,6,5] [11,12] (fun _=> [(11,28,_),(12,29,_)]) J J (aD J J (ac J (au J) (ac J (ag lw J) (ac J (ag dJ J) (ac J (ah iB J J (ay (k:=0) J J)) (aD J J (ac J (au J) (ac J (ag lw J) (ac J (aM jB J J J (kQ (us:= [sv e.vp]) (k:=0) J J)) (aD J J av)))))))))) J J J J J J J J J J J (fun _ _=>J) J (bB (xs:= [.tmp 25,.tmp 26]) (jR nm e.vp e.fs hfl) Hg [] [(false,3)] []) (fun _ _=>bE [11,12,0,1,2,3,4] 14 [14,13,12,11,10,9,8,7,6,5,4,3,2,1,0] [] (fun _=> []) J J (ac J (aN (j:=m) underlying25 fj J J (aK (k:=3) J) hfx hml) (ac J (aM fj J J J (bA (aK (k:=3) J) (by intro _;rfl) hfm (by rfl))) (aD J J (ac J (au J) (ac J (ag lw J) (ac J (ag dJ J) (ac J (ah iB J J (ay (k:=0) J J)) av))))))) J J J J J J J J J (fun _ _=>J) J (bD (k:=9) fj J J J J J J) (fun _ _=>bl [] J J av J J J ?_)))) ix)))
   ·refine aJ b9 O J J J
   ·refine aJ b9 O J J J
  ·refine ap (ad J (aP (aU (parts:= [(2,.tmp 30)]) RU Pc J J) (ck J J fun b32=>ak J (aa (aT (ak J (aa (aB (cZ 33 (α:=Ba) (S:=9) (s:=1) (enc:=eS) (cZ 34 (α:=Int) (S:=41) (s:=1) (enc:=eU) (bC (X:=Yf) (fun z=>z.i≤al.length∧FrEq z.fr (eG [] (f.ps.take z.i) (al.take z.i))∧z.fr.length≤z.i) (fun z=> [(0,Pt e.m),(2,sv va),(3,I6 ((d:Int)+1)),(9,Pt b9),(10,Pt b32),(11,I6 (z.i:Int))]) (fun z=> [(0,bh e.m 204 (lY e (xS e s vo))),(1,own 41 1 eU (sv vo) s.out),(9,bh b9 66 (ip f)),(32,bh b32 232 (fC z.vN z.vV ((d:Int)+1) false 0)),(33,own 9 1 eS (sv z.vN) (uh z.fr)),(34,own 41 1 eU (sv z.vV) (vL z.fr))]) (fun z=> [(0,sl 1 eU (sv va) al),(1,cx e.vp e.fs),(2,sl 1 eU (sv e.vin) e.ins),(3,sl 3 ip (sv e.vp) e.fs),(4,Bn f),(5,sl 1 eS (sv f.vp) f.ps),(6,bV f.vb f.body)]) (fun z=>al.length-z.i) ⟨0,[],bk,bk⟩ ⟨br _,fun _=>J,bX _⟩ J J J (fun z hz0=> ?_))))))))))));obtain⟨i,fr,vN,vV⟩:=z;obtain⟨n1,n2,n3⟩:=hz0;dsimp only at n1 n2 n3 ⊢;refine aT (ad J (ad J (aP (aS underlying48 J (aK (k:=0) J)) (aw J J cr (aa (ai J (fun h2=> ?_) (fun h2=> ?_)))))))
   ·(try simp only [bj]at h2);have hi:i<al.length:=by omega
    obtain⟨a,ha⟩:∃a,al[i]?=some a:=⟨_,bN hi⟩
    obtain⟨p,hp⟩:∃p,f.ps[i]?=some p:=⟨_,bN (by omega)⟩
    refine az (a_ (aB ?_));refine bJ [39,40,41,42,43,44,45,46,47,48,49] _ J (aW (V:= [(0,39,_),(1,40,_),(2,41,_),(3,42,_),(4,43,_),(5,44,_),(6,45,_),(7,46,_),(8,47,_),(9,48,_)]) [0,1,2,3,4,5,6,7,8,9] 10 [10,9,8,7,6,5,4,3,2,1,0] [] (fun y=> []) J J (aD J J (ac J (ag d6 J) (ac J (ah gO J J (ay (k:=9) J J)) (aD J J (ac J (aN (j:=i) underlying46 t9 J J (aK (k:=5) J) (by first|rfl|omega) (by first|omega|(simp;done)|(simp;omega))) (ac J (ah t9 J J (bA (aK (k:=5) J) (by intro _;rfl) hp (by rfl))) (aD J J (aD J J (ac J (aN (j:=i) underlying48 dm J J (aK (k:=0) J) (by first|rfl|omega) (by first|omega|(simp;done)|(simp;omega))) (ac J (ah dm J J (bA (aK (k:=0) J) (by intro _;rfl) ha (by rfl))) av)))))))))) J J J J J J J J J J J (fun _ _=>J) J (bB (xs:= [.tmp 39,.tmp 44,.tmp 48]) (pM b32 vN vV ((d:Int)+1) false 0 fr (by omega) p a) Hl [32,33,34] [] [32,33,34]) (fun y _=>bl [] J J av J J J ?_));refine am (ad J (aw J J aO (ak J (aa ?_))));refine aJ ⟨i+1,my fr p a,y.1,y.2⟩ ⟨⟨by dsimp only;omega,by dsimp only;rw [r7 _ _ _ _ _ _ hp ha];exact n2.put p a,by dsimp only;have:=tc fr p a;omega⟩,by dsimp only;omega⟩ J J J
   ·(try simp only [bj]at h2);have hi:i=al.length:=by omega
    subst hi;rw [cS,uC]at n2;have hk2:RkB e fr (eG [] f.ps al) s:=⟨hs,okVs.bind _ _ (fun p hp=>by simp at hp) hao,n2,by omega⟩
    refine bF (ap (ad J (ad J (aC jl J (aQ 9 iP J J J J (aj (xs:= [.tmp 50,.tmp 51,.tmp 53]) (ihB f.body f.vb (d+1) b32 vN vV fr (eG [] f.ps al) s vo rb hF3 hF2 (by omega) hk2 hb) CL [0,1,32,33,34] [(false,6),(false,1),(false,2)] [0,1,32,33,34] (fun y hy=>aF J (ad J (bI J (aC Ci J (aQ 32 dm J J J J (ak J (aa (ax ?_))))))))))))));have hfin:tO e r (y.val,y.x):=by
     rcases hy with⟨vs1,ro,s1,vo1,z1,z2,z3,z4,z5,z6⟩|⟨z1,z2⟩
     ·rw [z1]at hr;refine .inl ⟨s1,vo1,?_,z2⟩;rw [←cf hr,z6]
     ·rw [z2]at hr;exact .inr ⟨z1,(cf hr).symm⟩
    refine aH (y.val,y.x) hfin J (bQ (aL J)) J [0,1] [] J J J
theorem Kl(e:Rn)(g:Nat)(hF:VF e.fs)(ihS:∀k,k≤g→T_ e k)(l:List Ty)(v:SV)(d b:Nat)(vN vV:SV)(fr vs:Vs)(s:Ms)(vo:SV)(r:Re (Vs×Option Int))(hl:VYs e.fs l)(hll:l.length≤1000000)(hd:d≤12)(hk:RkB e fr vs s)(hr:gW (g+1) e.fs d vs l s=some r):
  Spec prog 146 [Pt e.m,Pt b,sv v] (LB e b d ⟨fr,vN,vV,false,0,xS e s vo⟩) ([bV v l,cx e.vp e.fs,sl 1 eU (sv e.vin) e.ins]) (X:=Sb) (nj e r) (fun _=> .tuple #[]) (fun y=>LB e b d y) (fun _=> []):=by
 refine aI func146 J ntmps146 J fun w0 M H=>aZ 0 7 J ic (ap (ak J (aa (aB (bC (X:=Yb) (fun z=>z.i≤l.length∧z.g≤g+1∧BIn e z.g d (l.drop z.i) z.y r) (fun z=> [(0,Pt e.m),(1,Pt b),(2,sv v),(6,I6 (z.i:Int))]) (fun z=> [(0,bh e.m 204 (lY e z.y.x)),(1,own 41 1 eU (sv z.y.x.vo) z.y.x.out),(2,bh b 232 (fC z.y.vN z.y.vV (d:Int) z.y.done z.y.val)),(3,own 9 1 eS (sv z.y.vN) (uh z.y.fr)),(4,own 41 1 eU (sv z.y.vV) (vL z.y.fr))]) (fun z=> [(0,bV v l),(1,cx e.vp e.fs),(2,sl 1 eU (sv e.vin) e.ins),(7,sl 5 eE (sv v) l)]) (fun z=>l.length-z.i) ⟨0,g+1,⟨fr,vN,vV,false,0,xS e s vo⟩⟩ ⟨br _,bX _,.inl ⟨vs,s,vo,J,hk,J,J,hr⟩⟩ J J J (fun z hz0=> ?_))))))
 obtain⟨i,gz,y⟩:=z;obtain⟨n1,n2,n3⟩:=hz0;dsimp only at n1 n2 n3 ⊢;refine aT (ad J (ad J (aP (aS underlying62 J (aK (k:=7) J)) (aw J J cr (ad J (aG [] J J O (fun hg1=>bc J) J (aG [(12,_)] J J ⟨J,O⟩ (fun hg2=>au J) J (aG [(12,_),(13,_)] J J ⟨J,J,O⟩ (fun hg3=>ag gG J) J (aG [(12,_),(13,_),(14,_)] J J ⟨J,J,J,O⟩ (fun hg4=>ah pr J J (ay (k:=0) J lZ)) J (aG [(12,_),(13,_),(14,_),(15,_)] J J ⟨J,J,J,J,O⟩ (fun hg5=>aR J J bn) J (aP (bH J J J) (ad J (aG [] J J O (fun hg6=>bc J) J (aG [(19,_)] J J ⟨J,O⟩ (fun hg7=>au J) J (aG [(19,_),(20,_)] J J ⟨J,J,O⟩ (fun hg8=>ag rD J) J (aG [(19,_),(20,_),(21,_)] J J ⟨J,J,J,O⟩ (fun hg9=>ah t4 J J (ay (k:=2) J J)) J (aG [(19,_),(20,_),(21,_),(22,_)] J J ⟨J,J,J,J,O⟩ (fun hg10=>cz J) J ?_)))))))))))))))));refine aP (bH J J J) (aa (ai J (fun h11=> ?_) (fun h11=> ?_)))
 ·(try simp only [bj]at h11);obtain⟨fr1,vN1,vV1,dn,val,x1⟩:=y;obtain⟨⟨hi0,he0⟩,hd0⟩:=h11;have hi:i<l.length:=by omega
  obtain⟨st,hst⟩:∃k,l[i]?=some k:=⟨_,bN hi⟩
  have hm:=bT hst;have hvy:=hl.mem st hm;rw [yH hst]at n3;obtain⟨g2,q,vs1,sx,vox,rfl,hx1,hk1,hval,hx,hstep⟩:=n3.step hF hvy hd0 he0;dsimp only at hx1 hk1 hval hd0;subst hx1 hval hd0;refine az (a_ (aB (am (ad J (ad J (ad J (ad J (aP (aN (j:=i) underlying62 dK J J (aK (k:=7) J) (by first|rfl|omega) (by first|omega|(simp;done)|(simp;omega))) (aP (aM dK J J J (bA (aK (k:=7) J) (by intro _;rfl) hst (by rfl))) (aZ 0 20 J (kZ hm) (aZ 0 21 J (gS hm) (aZ 0 22 J (iO hm) (aj (xs:= [.tmp 27,.tmp 28,.tmp 32]) (ihS g2 (by omega) st d b vN1 vV1 fr1 vs1 sx vox q hvy hd hk1 hx) QF [0,1,2,3,4] [(false,20),(false,21),(false,22),(false,1),(false,2)] [0,1,2,3,4] (fun y hy=>aa (am (ad J (aw J J aO (ak J (aa ?_)))))))))))))))))));refine aJ ⟨i+1,g2,y⟩ ⟨⟨by dsimp only;omega,by dsimp only;omega,hstep y hy⟩,by dsimp only;omega⟩ J J J
 ·(try simp only [bj]at h11);have hfin:nj e r y:=by
   rcases h11 with(h|h)|h
   ·have hi:i=l.length:=by omega
    rw [List.drop_of_length_le (by omega)]at n3;exact n3.done
   ·exact n3.stop (.inr h)
   ·exact n3.stop (.inl h)
  refine bF (cm y hfin J gn J [0,1,2,3,4] [] J J J)
def WIn(e:Rn)(g d:Nat)(t:Tx)(l:List Ty)(v:Int)(y:Sb)(r:Re (Vs×Option Int)):Prop:=(∃vs s vo,y.x=xS e s vo∧RkB e y.fr vs s∧y.done=false∧y.val=0∧kF g e.fs d vs t l v s=some r)∨((y.done=true∨y.x.er≠0)∧nj e r y)
def WMid(e:Rn)(g d:Nat)(t:Tx)(l:List Ty)(y:Sb)(r:Re (Vs×Option Int)):Prop:=(∃vs s vo rx,y.x=xS e s vo∧RkB e y.fr vs s∧y.done=false∧y.val=0∧fw g e.fs d vs t s=some rx∧∀w,tO e rx w→WIn e g d t l w.1 {y with x:=w.2} r)∨((y.done=true∨y.x.er≠0)∧nj e r y)
theorem WIn.out{e:Rn}{g d:Nat}{t:Tx}{l:List Ty}{v:Int}{y:Sb}{r:Re (Vs×Option Int)}(h:WIn e g d t l v y r)(hv:v=0):nj e r y:=by
 rcases h with⟨vs,s,vo,h1,h2,h3,h4,h5⟩|h
 ·exact .inl ⟨vs,none,s,vo,J2 h5 hv,h1,h2.f,h2.n,h3,h4⟩
 ·exact h.2
theorem WIn.stop{e:Rn}{g d:Nat}{t:Tx}{l:List Ty}{v:Int}{y:Sb}{r:Re (Vs×Option Int)}(h:WIn e g d t l v y r)(hs:y.done=true∨y.x.er≠0):nj e r y:=by
 rcases h with⟨vs,s,vo,h1,h2,h3,h4,h5⟩|h
 ·rcases hs with hs|hs
  ·rw [h3]at hs;cases hs
  ·rw [h1]at hs;exact absurd J hs
 ·exact h.2
theorem WIn.step{e:Rn}{g d:Nat}{t:Tx}{l:List Ty}{v:Int}{y:Sb}{r:Re (Vs×Option Int)}(hF:VF e.fs)(ht:VX e.fs t)(hl:VYs e.fs l)(h:WIn e g d t l v y r)(hv:¬v=0)(hd:y.done=false)(he:y.x.er=0):
  ∃g2 q vs s vo,g=g2+1∧y.x=xS e s vo∧RkB e y.fr vs s∧y.val=0∧gW g2 e.fs d vs l s=some q∧∀z,nj e q z→WMid e g2 d t l z r:=by
 rcases h with⟨vs,s,vo,h1,h2,h3,h4,h5⟩|⟨h,_⟩
 ·obtain⟨g2,q,hg,hx,hre,hrs,hrn⟩:=Ny h5 hv;refine⟨g2,q,vs,s,vo,hg,h1,h2,h4,hx,fun z hz=> ?_⟩;rcases hz with⟨vs1,ro,s1,vo1,z1,z2,z3,z4,z5,z6⟩|⟨z1,z2⟩
  ·rw [z1]at hx;obtain⟨k1,k2,k3⟩:=(fI hF g2).b d vs l s _ s1 hl h2.v h2.k.ok hx;have k4:RkB e z.fr vs1 s1:=⟨h2.k.kp k3,k1,z3,z4⟩
   cases ro with
   | none=>
    obtain⟨rx,r1,r2,r3⟩:=hrn vs1 s1 z1;refine .inl ⟨vs1,s1,vo1,rx,z2,k4,z5,z6,r1,fun w hw=> ?_⟩;rcases hw with⟨s2,vo2,w1,w2⟩|⟨w1,w2⟩
    ·rw [w1]at r1;obtain⟨x1,x2⟩:=(fI hF g2).x d vs1 t s1 w.1 s2 ht k1 k4.k.ok r1;refine .inl ⟨vs1,s2,vo2,w2,⟨k4.k.kp x2,k1,z3,?_⟩,z5,z6,r3 w.1 s2 w1⟩;have h8:=x2.fl;show(z.fr.length:Int)+_≤_;omega
    ·exact .inr ⟨.inr w1,.inr ⟨w1,r2 _ w2⟩⟩
   | some x=>exact .inr ⟨.inl z5,.inl ⟨vs1,some x,s1,vo1,hrs vs1 x s1 z1,z2,z3,z4,z5,z6⟩⟩
  ·exact .inr ⟨.inr z1,.inr ⟨z1,hre _ z2⟩⟩
 ·rcases h with h|h
  ·rw [hd]at h;cases h
  ·exact absurd he h
theorem WMid.go{e:Rn}{g d:Nat}{t:Tx}{l:List Ty}{y:Sb}{r:Re (Vs×Option Int)}(h:WMid e g d t l y r)(hd:y.done=false)(he:y.x.er=0):∃vs s vo rx,y.x=xS e s vo∧RkB e y.fr vs s∧y.val=0∧fw g e.fs d vs t s=some rx∧∀w,tO e rx w→WIn e g d t l w.1 {y with x:=w.2} r:=by
 rcases h with⟨vs,s,vo,rx,h1,h2,h3,h4,h5,h6⟩|⟨h,_⟩
 ·exact⟨vs,s,vo,rx,h1,h2,h4,h5,h6⟩
 ·rcases h with h|h
  ·rw [hd]at h;cases h
  ·exact absurd he h
theorem WMid.stop{e:Rn}{g d:Nat}{t:Tx}{l:List Ty}{y:Sb}{r:Re (Vs×Option Int)}(h:WMid e g d t l y r)(hs:y.done=true∨y.x.er≠0)(v:Int):WIn e g d t l v y r:=by
 rcases h with⟨vs,s,vo,rx,h1,h2,h3,h4,h5,h6⟩|h
 ·rcases hs with hs|hs
  ·rw [h3]at hs;cases hs
  ·rw [h1]at hs;exact absurd J hs
 ·exact .inr h
structure Yw where
 g:Nat
 v:Int
 y:Sb
theorem O1(e:Rn)(g:Nat)(hF:VF e.fs)(hfu1: -1000000000000000000≤e.fu)(hfu2:e.fu≤1000000000000000000)(ihX:∀k,k≤g→N_ e k)(ihB:∀k,k≤g→RD e k)(t:Ty)(d b:Nat)(vN vV:SV)(fr vs:Vs)(s:Ms)(vo:SV)(r:Re (Vs×Option Int))(ht:VY e.fs t)(hd:d≤12)(hk:RkB e fr vs s)(hr:i_ (g+1) e.fs d vs t s=some r)(hfu:s.fuel≤0):
  Spec prog 178 [Pt e.m,Pt b,yV t] (LB e b d ⟨fr,vN,vV,false,0,xS e s vo⟩) ([ce t.ve t.es,bV t.vb t.body,bV t.vl t.els,cx e.vp e.fs,sl 1 eU (sv e.vin) e.ins]) (X:=Sb) (nj e r) (fun _=> .tuple #[]) (fun y=>LB e b d y) (fun _=> []):=by
 refine aI func178 J ntmps178 J fun w0 M H=> ?_
 unfold i_ at hr;rw [ar hfu]at hr;refine ap (ck J J fun b5=>aF J (ad J (aj (xs:= [.tmp 9]) (BF e.m e.vp (Ef e.vin (e.ins.length-s.inp.length)) vo s.mem e.fu (e.fu-s.fuel) (by omega)) yS [0] [] [0] (fun _ _=>ak J (aa (aT (ad J (aP (cz J) (aa (ai J (fun h1=> ?_) (fun h1=> ?_)))))))))))
 ·(try simp only [bj]at h1);refine ax ?_;refine aH ⟨fr,vN,vV,false,0,{xS e s vo with er:=25}⟩ (.inr ⟨by show(25:Int)≠0;decide,(cf hr).symm⟩) J gn J [0,1,2,3,4] [] J J J
 ·exact absurd h1 (by simp)
theorem O0(e:Rn)(g:Nat)(hF:VF e.fs)(hfu1: -1000000000000000000≤e.fu)(hfu2:e.fu≤1000000000000000000)(ihX:∀k,k≤g→N_ e k)(ihB:∀k,k≤g→RD e k)(t:Ty)(d b:Nat)(vN vV:SV)(fr vs:Vs)(s:Ms)(vo:SV)(r:Re (Vs×Option Int))(ht:VY e.fs t)(hd:d≤12)(hk:RkB e fr vs s)(hr:i_ (g+1) e.fs d vs t s=some r)(hfu:¬s.fuel≤0):
  Spec prog 178 [Pt e.m,Pt b,yV t] (LB e b d ⟨fr,vN,vV,false,0,xS e s vo⟩) ([ce t.ve t.es,bV t.vb t.body,bV t.vl t.els,cx e.vp e.fs,sl 1 eU (sv e.vin) e.ins]) (X:=Sb) (nj e r) (fun _=> .tuple #[]) (fun y=>LB e b d y) (fun _=> []):=by
 refine aI func178 J ntmps178 J fun w0 M H=> ?_
 unfold i_ at hr;rw [ae hfu]at hr;obtain⟨s1,hs1⟩:∃s1:Ms,({s with fuel:=s.fuel-1}:Ms)=s1:=⟨_,J⟩
 have hp:=Kp.pay hk.k.ok hfu;have hmR:xC e.vp (Ef e.vin (e.ins.length-s.inp.length)) vo s.mem e.fu (e.fu-s.fuel+1) 0=lY e (xS e s1 vo):=by
  rw [←hs1];unfold lY xS;dsimp only
  congr 1
  omega
 have hso:s.out=s1.out:=by rw [←hs1]
 have hsf:(s1.out.length:Int)+max s1.fuel 0+1≤1000000000000:=by
  have:=hk.k.ok.out;rw [←hs1];dsimp only;omega
 have hfub:=hk.k.ok.out;have hfrn:=hk.n;have hs1f:s1.fuel=s.fuel-1:=by rw [←hs1]
 rw [hs1]at hr hp;have h51:=hk.k.kp hp;obtain⟨ve1,ve2,ve3,ve4⟩:=LN ht;obtain⟨e1,er,hes⟩:∃a b,t.es=a::b:=by
  cases h:t.es with
  | nil=>rw [h]at ve1;simp at ve1
  | cons a b=>exact⟨a,b,rfl⟩
 rw [hes]at hr;dsimp only at hr;obtain⟨rx,hx⟩:∃rx,fw g e.fs d vs e1 s1=some rx:=by
  cases h:fw g e.fs d vs e1 s1 with
  | none=>rw [h]at hr;simp at hr
  | some q=>exact⟨q,rfl⟩
 rw [hx]at hr;have hm1:e1∈t.es:=by rw [hes];simp
 have hes0:t.es[0]?=some e1:=by rw [hes];rfl
 have hv1:=ve4.mem e1 hm1;refine aZ 0 20 J gd (aZ 0 21 J (dD hm1) (ap (ck J J fun b5=>aF J (ad J ?_))));refine dh (xs:= [.tmp 9]) (BE e.m e.vp (Ef e.vin (e.ins.length-s.inp.length)) vo s.mem e.fu (e.fu-s.fuel) (by omega) ⟨by omega,by omega⟩) yS [0] [] [0] J J J J J J J J (fun _ _=>J) (fun _ _ _=>J) J (fun _ _=> ?_);rw [hmR];refine d7 (k:=1) (A':=own 41 1 eU (sv vo) s1.out) J (fun _ _ h=>by rw [←hso];exact h) ?_;refine ak J (aa (aT (ad J (aP (cz J) (aa (ai J (fun h1=> ?_) (fun h1=> ?_)))))))
 ·exact absurd h1 (by simp)
 ·(try simp only [bj]at h1);refine az (ap (ad J (ad J (aC gj J (aQ 5 jh J J J J (aP (aN (j:=0) underlying59 cl J J (aK (k:=20) J) J (by omega)) (aP (aM cl J J J (bA (aK (k:=20) J) (by intro _;rfl) hes0 (by rfl))) (aj (xs:= [.tmp 13,.tmp 14,.tmp 18]) (ihX g (bX g) e1 d b vN vV fr vs (xS e s1 vo) rx hv1 hd hk.v hk.f (by omega) (.inl ⟨s1,vo,J,h51,hx⟩)) CJ [0,1] [(true,2),(true,3),(true,4),(false,21),(false,3),(false,4)] [0,1] (fun y1 hy1=> ?_)))))))));obtain⟨v,x1⟩:=y1;dsimp only at hy1 ⊢;refine ak J (aa (aT (ad J (bI J (aC gG J (aQ 0 pr J J J lZ (aw J J eD (aa (ai J (fun h2=> ?_) (fun h2=> ?_))))))))))
  ·have q2e:x1.er≠0:=by simpa using h2
   have hz:rx= .err x1.er:=by
    rcases hy1 with⟨s2,vo2,z1,z2⟩|⟨z1,z2⟩
    ·dsimp only at z2;rw [z2]at q2e;exact absurd J q2e
    ·exact z2
   subst hz;refine ax (aH (⟨fr,vN,vV,false,0,x1⟩) (.inr ⟨q2e,(cf hr).symm⟩) J gn J [0,1,2,3,4] [] J J J)
  ·have q2e:x1.er=0:=by simpa using h2
   obtain⟨s2,vo2,hz,hx1⟩:∃s2 vo2,rx= .ok v s2∧x1=xS e s2 vo2:=by
    rcases hy1 with h|⟨z1,z2⟩
    ·exact h
    ·exact absurd q2e z1
   subst hz hx1;dsimp only at hr;obtain⟨hw1,hw2⟩:=(fI hF g).x d vs e1 s1 v s2 hv1 hk.v h51.ok hx;have hk2:=h51.kp hw2;have hsum:=hw2.sum;have hfl2:=hw2.fl;have hkb2:RkB e fr vs s2:=⟨hk2,hk.v,hk.f,by omega⟩
   refine az (ap (aC eM J (aQ 5 t3 J J J J (aa (aB (aT (aw J J bn (ak J (aa (ai J (fun h3=> ?_) (fun h3=> ?_)))))))))))
   ·have q1:t.kind=1:=bW h3;rw [ar (.inl q1)]at hr;refine az (ai J (fun h4=> ?_) (fun h4=> ?_))
    ·(try simp only [bj]at h4);refine am (ad J (aC iK J (aQ 5 t9 J J J J (ad J (aj (xs:= [.tmp 30,.tmp 32,.tmp 33]) (pM b vN vV (d:Int) false 0 fr (by omega) t.name v) Hl [2,3,4] [] [2,3,4] (fun y2 _=>aa ?_))))));refine cm (⟨my fr t.name v,y2.1,y2.2,false,0,xS e s2 vo2⟩) (.inl ⟨fc vs t.name v,none,s2,vo2,(cf hr).symm,J,hk.f.put _ _,by dsimp only;have:=tc fr t.name v;omega,rfl,rfl⟩) J gn J [0,1,2,3,4] [] J J J
    ·exact absurd (decide_eq_true q1) (by rw [h4];simp)
   ·have q1:¬t.kind=1:=cg h3;refine am (aw J J bn (ak J (aa (ai J (fun h5=> ?_) (fun h5=> ?_)))))
    ·have q2:t.kind=2:=bW h5;rw [ar (.inr q2)]at hr;refine am (ad J (aC iK J (aQ 5 t9 J J J J (ad J (aj (xs:= [.tmp 30,.tmp 32,.tmp 33]) (pM b vN vV (d:Int) false 0 fr (by omega) t.name v) Hl [2,3,4] [] [2,3,4] (fun y2 _=>aa ?_))))));refine cm (⟨my fr t.name v,y2.1,y2.2,false,0,xS e s2 vo2⟩) (.inl ⟨fc vs t.name v,none,s2,vo2,(cf hr).symm,J,hk.f.put _ _,by dsimp only;have:=tc fr t.name v;omega,rfl,rfl⟩) J gn J [0,1,2,3,4] [] J J J
    ·have q2:¬t.kind=2:=cg h5;rw [ae (fun h=>h.elim q1 q2)]at hr;refine ap (aw J J bn (ak J (aa (ai J (fun h6=> ?_) (fun h6=> ?_)))))
     ·have q3:t.kind=3:=bW h6;rw [ar q3]at hr;have ve5:=ve3 q3;obtain⟨e2,er2,her⟩:∃a b,er=a::b:=by
       cases h:er with
       | nil=>rw [hes,h]at ve5;simp at ve5
       | cons a b=>exact⟨a,b,rfl⟩
      rw [her]at hr;dsimp only at hr;obtain⟨ry,hy⟩:∃ry,fw g e.fs d vs e2 s2=some ry:=by
       cases h:fw g e.fs d vs e2 s2 with
       | none=>rw [h]at hr;simp at hr
       | some q=>exact⟨q,rfl⟩
      rw [hy]at hr;have hm2:e2∈t.es:=by rw [hes,her];simp
      have hv2:=ve4.mem e2 hm2;have hes2:t.es[1]?=some e2:=by rw [hes,her];rfl
      have hel2:1<t.es.length:=by rw [hes,her];simp
      have hwm:=sc (b:=256) hw1;refine aZ 0 22 J (dD hm2) (ap (ad J (ad J (aC gj J (aQ 5 jh J J J J (aP (aN (j:=1) underlying59 cl J J (aK (k:=20) J) J hel2) (aP (aM cl J J J (bA (aK (k:=20) J) (by intro _;rfl) hes2 (by rfl))) (aj (xs:= [.tmp 37,.tmp 38,.tmp 42]) (ihX g (bX g) e2 d b vN vV fr vs (xS e s2 vo2) ry hv2 hd hk.v hk.f (by omega) (.inl ⟨s2,vo2,J,hk2,hy⟩)) CJ [0,1] [(true,2),(true,3),(true,4),(false,22),(false,3),(false,4)] [0,1] (fun y3 hy3=> ?_)))))))));obtain⟨w5,x3⟩:=y3;dsimp only at hy3 ⊢;refine ak J (aF J (ad J (bI J (aC gG J (aQ 0 pr J J J lZ (aw J J bn (aa (ai J (fun h7=> ?_) (fun h7=> ?_)))))))))
      ·have q6e:x3.er=0:=by simpa using h7
       obtain⟨s3,vo3,hz,hx3⟩:∃s3 vo3,ry= .ok w5 s3∧x3=xS e s3 vo3:=by
        rcases hy3 with h|⟨z1,z2⟩
        ·exact h
        ·exact absurd q6e z1
       subst hz hx3;dsimp only at hr;have hw3:=((fI hF g).x d vs e2 s2 w5 s3 hv2 hk.v hk2.ok hy).2;have hfl3:=hw3.fl;refine am (ad J (ad J (aw J J (jt (by decide) hwm) (ad J (bI J (aC wQ J (aP (dz (j:=(v%256).toNat) underlying202 dm J J (by have:=hw1.1;omega) (by omega)) (aA (k:=0) dm J J J J J J (vG (by omega)) (C2 (by omega)) (aa ?_)))))))));refine cm (⟨fr,vN,vV,false,0,xS e {s3 with mem:=ui s3.mem (v%256).toNat w5} vo3⟩) (.inl ⟨vs,none,_,vo3,(cf hr).symm,J,hk.f,by dsimp only;omega,rfl,rfl⟩) J gn J [0,1,2,3,4] [] J J J
      ·have q6e:x3.er≠0:=by simpa using h7
       have hz:ry= .err x3.er:=by
        rcases hy3 with⟨s3,vo3,z1,z2⟩|⟨z1,z2⟩
        ·dsimp only at z2;rw [z2]at q6e;exact absurd J q6e
        ·exact z2
       subst hz;refine az (cm (⟨fr,vN,vV,false,0,x3⟩) (.inr ⟨q6e,(cf hr).symm⟩) J gn J [0,1,2,3,4] [] J J J)
     ·have q3:¬t.kind=3:=cg h6;rw [ae q3]at hr;refine ap (aw J J bn (ak J (aa (ai J (fun h8=> ?_) (fun h8=> ?_)))))
      ·have q4:t.kind=4:=bW h8;rw [ar q4]at hr;refine ap (ad J (aw J J eD (aa (ai J (fun h9=> ?_) (fun h9=> ?_)))))
       ·have qv:¬v=0:=by simpa using h9
        rw [ae qv]at hr;refine am (ad J (ad J (aC ft J (aQ 5 iP J J J J (aj (xs:= [.tmp 60,.tmp 61,.tmp 63]) (ihB g (bX g) t.body t.vb d b vN vV fr vs s2 vo2 r (lG ht).2 (lG ht).1 hd hkb2 hr) CL [0,1,2,3,4] [(false,1),(false,3),(false,4)] [0,1,2,3,4] (fun y4 hy4=>aa (cm (y4) hy4 J gn J [0,1,2,3,4] [] J J J)))))))
       ·have qv:v=0:=by simpa using h9
        rw [ar qv]at hr;refine am (ad J (ad J (aC fq J (aQ 5 iP J J J J (aj (xs:= [.tmp 65,.tmp 66,.tmp 68]) (ihB g (bX g) t.els t.vl d b vN vV fr vs s2 vo2 r (A7 ht).2 (A7 ht).1 hd hkb2 hr) CL [0,1,2,3,4] [(false,2),(false,3),(false,4)] [0,1,2,3,4] (fun y4 hy4=>aa (cm (y4) hy4 J gn J [0,1,2,3,4] [] J J J)))))))
      ·have q4:¬t.kind=4:=cg h8;rw [ae q4]at hr;refine ap (aw J J bn (ak J (aa (ai J (fun h10=> ?_) (fun h10=> ?_)))))
       ·have q5:t.kind=5:=bW h10;rw [ar q5]at hr;refine aB (bC (X:=Yw) (fun z=>z.g≤g∧WIn e z.g d e1 t.body z.v z.y r) (fun z=> [(0,Pt e.m),(1,Pt b),(5,Pt b5),(7,I3 z.v)]) (fun z=> [(0,bh e.m 204 (lY e z.y.x)),(1,own 41 1 eU (sv z.y.x.vo) z.y.x.out),(2,bh b 232 (fC z.y.vN z.y.vV (d:Int) z.y.done z.y.val)),(3,own 9 1 eS (sv z.y.vN) (uh z.y.fr)),(4,own 41 1 eU (sv z.y.vV) (vL z.y.fr)),(5,bh b5 64 (eE t))]) (fun z=> [(0,ce t.ve t.es),(1,bV t.vb t.body),(2,bV t.vl t.els),(3,cx e.vp e.fs),(4,sl 1 eU (sv e.vin) e.ins),(20,sl 4 dT (sv t.ve) t.es),(21,ce e1.v e1.kids)]) (fun z=>z.g) ⟨g,v,⟨fr,vN,vV,false,0,xS e s2 vo2⟩⟩ ⟨bX _,.inl ⟨vs,s2,vo2,J,hkb2,J,J,hr⟩⟩ J J J (fun z hz0=> ?_));obtain⟨gx,vx,y⟩:=z;obtain⟨n1,n2⟩:=hz0;dsimp only at n1 n2 ⊢;refine aT (ad J (aw J J eD (ad J (aG [] J J O (fun hg11=>bc J) J (aG [(75,_)] J J ⟨J,O⟩ (fun hg12=>au J) J (aG [(75,_),(76,_)] J J ⟨J,J,O⟩ (fun hg13=>ag gG J) J (aG [(75,_),(76,_),(77,_)] J J ⟨J,J,J,O⟩ (fun hg14=>ah pr J J (ay (k:=0) J lZ)) J (aG [(75,_),(76,_),(77,_),(78,_)] J J ⟨J,J,J,J,O⟩ (fun hg15=>aR J J bn) J (aP (bH J J J) (ad J (aG [] J J O (fun hg16=>bc J) J (aG [(82,_)] J J ⟨J,O⟩ (fun hg17=>au J) J (aG [(82,_),(83,_)] J J ⟨J,J,O⟩ (fun hg18=>ag rD J) J (aG [(82,_),(83,_),(84,_)] J J ⟨J,J,J,O⟩ (fun hg19=>ah t4 J J (ay (k:=2) J J)) J (aG [(82,_),(83,_),(84,_),(85,_)] J J ⟨J,J,J,J,O⟩ (fun hg20=>cz J) J (aP (bH J J J) (aa ?_)))))))))))))))));refine ai J (fun h21=> ?_) (fun h21=> ?_)
        ·(try simp only [bj]at h21);obtain⟨fr1,vN1,vV1,dn,val,xx⟩:=y;obtain⟨⟨qv,he0⟩,hd0⟩:=h21;obtain⟨g2,q,vs1,sx,vox,rfl,hx1,hk1,hval,hwb,hstep⟩:=n2.step hF hv1 (lG ht).2 qv hd0 he0;dsimp only at hx1 hk1 hval hd0;subst hx1 hval hd0;refine az (aB (ap (ad J (ad J (aC ft J (aQ 5 iP J J J J (aj (xs:= [.tmp 88,.tmp 89,.tmp 91]) (ihB g2 (by omega) t.body t.vb d b vN1 vV1 fr1 vs1 sx vox q (lG ht).2 (lG ht).1 hd hk1 hwb) CL [0,1,2,3,4] [(false,1),(false,3),(false,4)] [0,1,2,3,4] (fun y hy=> ?_))))))));have hmid:=hstep y hy;refine aF J (ad J (bI J (aC gG J (aQ 0 pr J J J lZ (aw J J bn (ad J (aG [] J J O (fun hg22=>bc J) J (aG [(99,_)] J J ⟨J,O⟩ (fun hg23=>au J) J (aG [(99,_),(100,_)] J J ⟨J,J,O⟩ (fun hg24=>ag rD J) J (aG [(99,_),(100,_),(101,_)] J J ⟨J,J,J,O⟩ (fun hg25=>ah t4 J J (ay (k:=2) J J)) J (aG [(99,_),(100,_),(101,_),(102,_)] J J ⟨J,J,J,J,O⟩ (fun hg26=>cz J) J (aP (bH J J J) (aa (ai J (fun h27=> ?_) (fun h27=> ?_)))))))))))))))
         ·(try simp only [bj]at h27);obtain⟨fr2,vN2,vV2,dn2,val2,xx2⟩:=y;obtain⟨he1,Au⟩:=h27;obtain⟨vs2,sy,voy,rz,hx2,hk3,hval2,hrz,hwn⟩:=hmid.go Au he1;dsimp only at hx2 hk3 hval2 Au;subst hx2 hval2 Au;refine am (ad J (ad J (aC gj J (aQ 5 jh J J J J (aP (aN (j:=0) underlying59 cl J J (aK (k:=20) J) J (by omega)) (aP (aM cl J J J (bA (aK (k:=20) J) (by intro _;rfl) hes0 (by rfl))) (aj (xs:= [.tmp 105,.tmp 106,.tmp 110]) (ihX g2 (by omega) e1 d b vN2 vV2 fr2 vs2 (xS e sy voy) rz hv1 hd hk3.v hk3.f (by have:=hk3.n;omega) (.inl ⟨sy,voy,J,hk3.k,hrz⟩)) CJ [0,1] [(true,2),(true,3),(true,4),(false,21),(false,3),(false,4)] [0,1] (fun w hw=> ?_))))))));have hnext:=hwn w hw;refine ak J (aa ?_);refine aJ ⟨g2,w.1,⟨fr2,vN2,vV2,false,0,w.2⟩⟩ ⟨⟨by dsimp only;omega,hnext⟩,by dsimp only;omega⟩ J J J
         ·(try simp only [bj]at h27);have hstop:y.done=true∨y.x.er≠0:=by
           rcases h27 with h|h
           ·exact .inr h
           ·exact .inl h
          refine az ?_;refine aJ ⟨g2,vx,y⟩ ⟨⟨by dsimp only;omega,hmid.stop hstop vx⟩,by dsimp only;omega⟩ J J J
        ·(try simp only [bj]at h21);have hfin:nj e r y:=by
          rcases h21 with(h|h)|h
          ·exact n2.out (by simpa using h)
          ·exact n2.stop (.inr h)
          ·exact n2.stop (.inl h)
         refine bF (cm (y) hfin J gn J [0,1,2,3,4] [] J J J)
       ·have q5:¬t.kind=5:=cg h10;rw [ae q5]at hr;refine ap (aw J J bn (ak J (aa (ai J (fun h28=> ?_) (fun h28=> ?_)))))
        ·have q6:t.kind=6:=bW h28;rw [ar q6]at hr;refine ap (ad J (bI J (aC rD J (aA (k:=2) t4 J J J J J J J J (aa (am (ad J (ad J (bI J (aC Ci J (aA (k:=2) dm J J J J J J J J (aa ?_))))))))))));refine cm (⟨fr,vN,vV,true,v,xS e s2 vo2⟩) (.inl ⟨vs,some v,s2,vo2,(cf hr).symm,J,hk.f,by dsimp only;omega,rfl,rfl⟩) J gn J [0,1,2,3,4] [] J J J
        ·have q6:¬t.kind=6:=cg h28;rw [ae q6]at hr;refine ap (aw J J bn (ak J (aa (ai J (fun h29=> ?_) (fun h29=> ?_)))))
         ·have q7:t.kind=7:=bW h29;rw [ar q7]at hr;refine am (ad J (ad J (bI J (aC wR J (aQ 0 qS J J J J (ad J (bq eU _ underlying48 dm J (by decide) (by decide) J J J J fun v129=>cM 1 underlying48 dm J (by decide) (fun _=>J) (fun _=>J) J J J (be (k:=129) J) (by have hn:(xS e s2 vo2).out.length=s2.out.length:=J;rw [cE,hn];omega) (by have hn:(xS e s2 vo2).out.length=s2.out.length:=J;unfold maxLen;rw [cE,hn];omega) J fun v130=>bI J (aC wR J (aA (k:=0) qS J J J J J J J C1 (aa ?_))))))))));refine cm (⟨fr,vN,vV,false,0,xS e {s2 with out:=s2.out++ [v]} v130⟩) (.inl ⟨vs,none,_,v130,(cf hr).symm,J,hk.f,by dsimp only;omega,rfl,rfl⟩) J gn J [0,1,2,3,4] [] J J J
         ·have q7:¬t.kind=7:=cg h29;rw [ae q7]at hr;refine az ?_;refine cm (⟨fr,vN,vV,false,0,xS e s2 vo2⟩) (.inl ⟨vs,none,s2,vo2,(cf hr).symm,J,hk.f,by dsimp only;omega,rfl,rfl⟩) J gn J [0,1,2,3,4] [] J J J
theorem Gh{e:Rn}(hF:VF e.fs)(hfu1: -1000000000000000000≤e.fu)(hfu2:e.fu≤1000000000000000000)(hfl:e.fs.length≤1000000):∀g,∀k,k≤g→N_ e k∧RP e k∧RD e k∧T_ e k
 | 0,k,hk=>by
  obtain rfl:k=0:=by omega
  exact⟨H_,fun nm f d va al s vo r _ _ _ _ _ hr=>by simp [lM]at hr,fun l v d b vN vV fr vs s vo r _ _ _ _ hr=>by simp [gW]at hr,fun t d b vN vV fr vs s vo r _ _ _ hr=>by simp [i_]at hr⟩
 | g+1,k,hk=>by
  have ih:=Gh hF hfu1 hfu2 hfl g;by_cases h:k≤g
  ·exact ih k h
  ·obtain rfl:k=g+1:=by omega
   refine⟨Ia hF hfu1 hfu2 hfl (fun j hj=>(ih j hj).1) (fun j hj=>(ih j hj).2.1),fun nm f d va al s vo r h1 h2 h3 h4 h5 hr=> ?_,fun l v d b vN vV fr vs s vo r h1 h2 h3 h4 hr=>Kl e g hF (fun j hj=>(ih j hj).2.2.2) l v d b vN vV fr vs s vo r h1 h2 h3 h4 hr,fun t d b vN vV fr vs s vo r h1 h2 h3 hr=> ?_⟩
   ·by_cases h12:d=12
    ·exact Ki e g hF hfl (ih g (bX g)).2.2.1 nm f d va al s vo r h1 h2 h3 h4 h5 hr h12
    ·exact Rh e g hF hfl (ih g (bX g)).2.2.1 nm f d va al s vo r h1 h2 h3 h4 h5 hr h12
   ·by_cases hfu:s.fuel≤0
    ·exact O1 e g hF hfu1 hfu2 (fun j hj=>(ih j hj).1) (fun j hj=>(ih j hj).2.2.1) t d b vN vV fr vs s vo r h1 h2 h3 hr hfu
    ·exact O0 e g hF hfu1 hfu2 (fun j hj=>(ih j hj).1) (fun j hj=>(ih j hj).2.2.1) t d b vN vV fr vs s vo r h1 h2 h3 hr hfu
theorem Ju{e:Rn}(hF:VF e.fs)(hfu1: -1000000000000000000≤e.fu)(hfu2:e.fu≤1000000000000000000)(hfl:e.fs.length≤1000000)(g:Nat):RP e g:=(Gh hF hfu1 hfu2 hfl g g (bX g)).2.1
structure Mono(fs:List Tf)(g:Nat):Prop where
 x:∀d vs t s r,fw g fs d vs t s=some r→fw (g+1) fs d vs t s=some r
 k:∀d vs acc l s r,iq g fs d vs acc l s=some r→iq (g+1) fs d vs acc l s=some r
 c:∀d f al s r,lM g fs d f al s=some r→lM (g+1) fs d f al s=some r
 b:∀d vs l s r,gW g fs d vs l s=some r→gW (g+1) fs d vs l s=some r
 s:∀d vs t s r,i_ g fs d vs t s=some r→i_ (g+1) fs d vs t s=some r
 w:∀d vs e l v s r,kF g fs d vs e l v s=some r→kF (g+1) fs d vs e l v s=some r
theorem mono(fs:List Tf):∀g,Mono fs g
 | 0=>⟨fun _ _ _ _ _ h=>by simp [fw]at h,fun _ _ _ _ _ _ h=>by simp [iq]at h,fun _ _ _ _ _ h=>by simp [lM]at h,fun _ _ _ _ _ h=>by simp [gW]at h,fun _ _ _ _ _ h=>by simp [i_]at h,fun _ _ _ _ _ _ _ h=>by simp [kF]at h⟩
 | g+1=>by
  have ih:=mono fs g;refine⟨fun d vs t s r h=> ?_,fun d vs acc l s r h=> ?_,fun d f al s r h=> ?_,fun d vs l s r h=> ?_,fun d vs t s r h=> ?_,fun d vs e l v s r h=> ?_⟩
  ·rw [fw]at h ⊢;by_cases hf:s.fuel≤0
   ·rw [ar hf]at h ⊢;exact h
   ·rw [ae hf]at h ⊢;cases hk:iq g fs d vs [] t.kids {s with fuel:=s.fuel-1}with
    | none=>rw [hk]at h;simp at h
    | some q=>
     rw [hk]at h;rw [ih.k _ _ _ _ _ _ hk];cases q with
     | err z=>exact h
     | ok ks s1=>
      dsimp only at h ⊢;by_cases q1:t.kind=1
      ·rw [ar q1]at h ⊢;exact h
      rw [ae q1]at h ⊢;by_cases q2:t.kind=2
      ·rw [ar q2]at h ⊢;exact h
      rw [ae q2]at h ⊢;by_cases q4:t.kind=4
      ·rw [ar q4]at h ⊢;exact h
      rw [ae q4]at h ⊢;by_cases q5:t.kind=5
      ·rw [ar q5]at h ⊢;exact h
      rw [ae q5]at h ⊢;by_cases q6:t.kind=6
      ·rw [ar q6]at h ⊢;exact h
      rw [ae q6]at h ⊢;by_cases q7:t.kind=7
      ·rw [ar q7]at h ⊢;exact h
      rw [ae q7]at h ⊢;cases hf:cy fs t.name with
      | none=>rw [hf]at h;simp at h
      | some f=>rw [hf]at h;exact ih.c _ _ _ _ _ h
  ·cases l with
   | nil=>rw [iq]at h ⊢;exact h
   | cons t l=>
    rw [iq]at h ⊢;cases hx:fw g fs d vs t s with
    | none=>rw [hx]at h;simp at h
    | some q=>
     rw [hx]at h;rw [ih.x _ _ _ _ _ hx];cases q with
     | err z=>exact h
     | ok v s1=>exact ih.k _ _ _ _ _ _ h
  ·rw [lM]at h ⊢;by_cases hd:d=12
   ·rw [ar hd]at h ⊢;exact h
   ·rw [ae hd]at h ⊢;cases hb:gW g fs (d+1) (eG [] f.ps al) f.body s with
    | none=>rw [hb]at h;simp at h
    | some q=>rw [hb]at h;rw [ih.b _ _ _ _ _ hb];exact h
  ·cases l with
   | nil=>rw [gW]at h ⊢;exact h
   | cons t l=>
    rw [gW]at h ⊢;cases hx:i_ g fs d vs t s with
    | none=>rw [hx]at h;simp at h
    | some q=>
     rw [hx]at h;rw [ih.s _ _ _ _ _ hx];cases q with
     | err z=>exact h
     | ok p s1=>
      obtain⟨vs1,ro⟩:=p;cases ro with
      | some y=>exact h
      | none=>exact ih.b _ _ _ _ _ h
  ·rw [i_]at h ⊢;by_cases hf:s.fuel≤0
   ·rw [ar hf]at h ⊢;exact h
   ·rw [ae hf]at h ⊢;cases he:t.es with
    | nil=>rw [he]at h;simp at h
    | cons e es=>
     rw [he]at h;dsimp only at h ⊢;cases hx:fw g fs d vs e {s with fuel:=s.fuel-1}with
     | none=>rw [hx]at h;simp at h
     | some q=>
      rw [hx]at h;rw [ih.x _ _ _ _ _ hx];cases q with
      | err z=>exact h
      | ok v s1=>
       dsimp only at h ⊢;by_cases q1:t.kind=1∨t.kind=2
       ·rw [ar q1]at h ⊢;exact h
       rw [ae q1]at h ⊢;by_cases q3:t.kind=3
       ·rw [ar q3]at h ⊢;cases es with
        | nil=>simp at h
        | cons e2 es=>
         dsimp only at h ⊢;cases hy:fw g fs d vs e2 s1 with
         | none=>rw [hy]at h;simp at h
         | some q=>rw [hy]at h;rw [ih.x _ _ _ _ _ hy];exact h
       rw [ae q3]at h ⊢;by_cases q4:t.kind=4
       ·rw [ar q4]at h ⊢;exact ih.b _ _ _ _ _ h
       rw [ae q4]at h ⊢;by_cases q5:t.kind=5
       ·rw [ar q5]at h ⊢;exact ih.w _ _ _ _ _ _ _ h
       rw [ae q5]at h ⊢;exact h
  ·rw [kF]at h ⊢;by_cases hv:v=0
   ·rw [ar hv]at h ⊢;exact h
   ·rw [ae hv]at h ⊢;cases hb:gW g fs d vs l s with
    | none=>rw [hb]at h;simp at h
    | some q=>
     rw [hb]at h;rw [ih.b _ _ _ _ _ hb];cases q with
     | err z=>exact h
     | ok p s1=>
      obtain⟨vs1,ro⟩:=p;cases ro with
      | some y=>exact h
      | none=>
       dsimp only at h ⊢;cases hx:fw g fs d vs1 e s1 with
       | none=>rw [hx]at h;simp at h
       | some q=>
        rw [hx]at h;rw [ih.x _ _ _ _ _ hx];cases q with
        | err z=>exact h
        | ok w s2=>exact ih.w _ _ _ _ _ _ _ h
theorem li{fs:List Tf}{g g':Nat}(h:g≤g'){d vs t s r}(hr:fw g fs d vs t s=some r):fw g' fs d vs t s=some r:=by
 induction h with
 | refl=>exact hr
 | step _ ih=>exact(mono fs _).x _ _ _ _ _ ih
theorem FV{fs:List Tf}{g g':Nat}(h:g≤g'){d vs acc l s r}(hr:iq g fs d vs acc l s=some r):iq g' fs d vs acc l s=some r:=by
 induction h with
 | refl=>exact hr
 | step _ ih=>exact(mono fs _).k _ _ _ _ _ _ ih
theorem M1{fs:List Tf}{g g':Nat}(h:g≤g'){d f al s r}(hr:lM g fs d f al s=some r):lM g' fs d f al s=some r:=by
 induction h with
 | refl=>exact hr
 | step _ ih=>exact(mono fs _).c _ _ _ _ _ ih
theorem wx{fs:List Tf}{g g':Nat}(h:g≤g'){d vs l s r}(hr:gW g fs d vs l s=some r):gW g' fs d vs l s=some r:=by
 induction h with
 | refl=>exact hr
 | step _ ih=>exact(mono fs _).b _ _ _ _ _ ih
theorem M0{fs:List Tf}{g g':Nat}(h:g≤g'){d vs t s r}(hr:i_ g fs d vs t s=some r):i_ g' fs d vs t s=some r:=by
 induction h with
 | refl=>exact hr
 | step _ ih=>exact(mono fs _).s _ _ _ _ _ ih
theorem FU{fs:List Tf}{g g':Nat}(h:g≤g'){d vs e l v s r}(hr:kF g fs d vs e l v s=some r):kF g' fs d vs e l v s=some r:=by
 induction h with
 | refl=>exact hr
 | step _ ih=>exact(mono fs _).w _ _ _ _ _ _ _ ih
theorem GO{fs:List Tf}(hF:VF fs){g d vs t s v s'}(ht:VX fs t)(hv:okVs vs)(hs:okMs s)(h:fw g fs d vs t s=some (.ok v s')):s'.fuel+1≤s.fuel:=by
 cases g with
 | zero=>simp [fw]at h
 | succ g=>
  rw [fw]at h;by_cases hf:s.fuel≤0
  ·rw [ar hf]at h;simp at h
  ·rw [ae hf]at h;have hp:=Kp.pay hs hf;cases hk:iq g fs d vs [] t.kids {s with fuel:=s.fuel-1}with
   | none=>rw [hk]at h;simp at h
   | some q=>
    rw [hk]at h;cases q with
    | err z=>simp at h
    | ok ks s1=>
     obtain⟨k1,_,k3⟩:=(fI hF g).k d vs [] t.kids _ ks s1 (by cases t;exact ht.2.2.2.2.2.2) hv hp.ok (by simp) hk;have h3:=k3.fl;dsimp only at h3 h;have fin:∀{a:Int}{s2:Ms},some (Re.ok a s2)=some (Re.ok v s')→s2.fuel=s1.fuel→s'.fuel+1≤s.fuel:=fun h hs2=>by
      simp only [Option.some.injEq,Re.ok.injEq]at h;obtain⟨-,rfl⟩:=h;omega
     split at h
     ·exact fin h J
     ·split at h
      ·exact fin h J
      ·split at h
       ·exact fin h J
       ·split at h
        ·split at h
         ·exact fin h J
         ·exact fin h J
        ·split at h
         ·exact fin h J
         ·split at h
          ·exact fin h J
          ·split at h
           ·simp at h
           ·rename_i f hff;have:=((fI hF g).c d f ks s1 v s' (io hff) k1 k3.ok h).2.fl;omega
structure Tot(fs:List Tf)(n:Nat):Prop where
 x:∀d vs t s,VX fs t→okVs vs→okMs s→s.fuel≤(n:Int)→∃g r,fw g fs d vs t s=some r
 k:∀d vs l acc s,VXs fs l→okVs vs→okMs s→s.fuel≤(n:Int)→∃g r,iq g fs d vs acc l s=some r
 b:∀d vs l s,VYs fs l→okVs vs→okMs s→s.fuel≤(n:Int)→∃g r,gW g fs d vs l s=some r
 c:∀d f al s,f∈fs→(∀a∈al,oW a)→okMs s→s.fuel≤(n:Int)→∃g r,lM g fs d f al s=some r
 w:∀d vs e l v s,VX fs e→VYs fs l→okVs vs→okMs s→s.fuel≤(n:Int)→∃g r,kF g fs d vs e l v s=some r
theorem KD{fs:List Tf}(hF:VF fs){n:Nat}(hx:∀d vs t s,VX fs t→okVs vs→okMs s→s.fuel≤(n:Int)→∃g r,fw g fs d vs t s=some r):
  ∀d vs l acc s,VXs fs l→okVs vs→okMs s→s.fuel≤(n:Int)→∃g r,iq g fs d vs acc l s=some r
 | d,vs,[],acc,s,_,_,_,_=>⟨1,.ok acc s,by rw [iq]⟩
 | d,vs,t::l,acc,s,hl,hv,hs,hn=>by
  obtain⟨g1,r1,h1⟩:=hx d vs t s hl.1 hv hs hn;cases r1 with
  | err z=>exact⟨g1+1,.err z,by rw [iq,h1]⟩
  | ok v s1=>
   have hk:=((fI hF g1).x d vs t s v s1 hl.1 hv hs h1).2;obtain⟨g2,r2,h2⟩:=KD hF hx d vs l (acc++ [v]) s1 hl.2 hv hk.ok (Int.le_trans hk.fl hn);refine⟨g1+g2+1,r2,?_⟩;rw [iq,li (by omega:g1≤g1+g2) h1];exact FV (by omega:g2≤g1+g2) h2
theorem KE{fs:List Tf}(hF:VF fs){n:Nat}(hx:∀d vs t s,VY fs t→okVs vs→okMs s→s.fuel≤(n:Int)→∃g r,i_ g fs d vs t s=some r):
  ∀d vs l s,VYs fs l→okVs vs→okMs s→s.fuel≤(n:Int)→∃g r,gW g fs d vs l s=some r
 | d,vs,[],s,_,_,_,_=>⟨1,.ok (vs,none) s,by rw [gW]⟩
 | d,vs,t::l,s,hl,hv,hs,hn=>by
  obtain⟨g1,r1,h1⟩:=hx d vs t s hl.1 hv hs hn;cases r1 with
  | err z=>exact⟨g1+1,.err z,by rw [gW,h1]⟩
  | ok p s1=>
   obtain⟨vs1,ro⟩:=p;obtain⟨k1,_,hk⟩:=(fI hF g1).s d vs t s _ s1 hl.1 hv hs h1;cases ro with
   | some y=>exact⟨g1+1,.ok (vs1,some y) s1,by rw [gW,h1]⟩
   | none=>
    obtain⟨g2,r2,h2⟩:=KE hF hx d vs1 l s1 hl.2 k1 hk.ok (Int.le_trans hk.fl hn);refine⟨g1+g2+1,r2,?_⟩;rw [gW,M0 (by omega:g1≤g1+g2) h1];exact wx (by omega:g2≤g1+g2) h2
theorem KC{fs:List Tf}(hF:VF fs){n:Nat}(hT:∀k,n=k+1→Tot fs k)(d:Nat)(vs:Vs)(t:Tx)(s:Ms)(ht:VX fs t)(hv:okVs vs)(hs:okMs s)(hn:s.fuel≤(n:Int)):∃g r,fw g fs d vs t s=some r:=by
 by_cases hf:s.fuel≤0
 ·exact⟨1,.err 25,by rw [fw,ar hf]⟩
 ·obtain⟨k,rfl⟩:∃k,n=k+1:=⟨n-1,by omega⟩
  have T:=hT k J;have hp:=Kp.pay hs hf;obtain⟨g1,r1,h1⟩:=T.k d vs t.kids [] _ (xg ht) hv hp.ok (by dsimp only;omega);cases r1 with
  | err z=>exact⟨g1+1,.err z,by rw [fw,ae hf,h1]⟩
  | ok ks s1=>
   obtain⟨k1,_,k3⟩:=(fI hF g1).k d vs [] t.kids _ ks s1 (xg ht) hv hp.ok (by simp) h1;have k4:=k3.fl;dsimp only at k4;by_cases q1:t.kind=1
   ·exact⟨g1+1,_,by rw [fw,ae hf,h1];dsimp only;rw [ar q1]⟩
   by_cases q2:t.kind=2
   ·exact⟨g1+1,_,by rw [fw,ae hf,h1];dsimp only;rw [ae q1,ar q2]⟩
   by_cases q4:t.kind=4
   ·exact⟨g1+1,_,by rw [fw,ae hf,h1];dsimp only;rw [ae q1,ae q2,ar q4]⟩
   by_cases q5:t.kind=5
   ·cases hi:s1.inp with
    | nil=>exact⟨g1+1,_,by rw [fw,ae hf,h1];dsimp only;rw [ae q1,ae q2,ae q4,ar q5,hi]⟩
    | cons a r=>exact⟨g1+1,_,by rw [fw,ae hf,h1];dsimp only;rw [ae q1,ae q2,ae q4,ar q5,hi]⟩
   by_cases q6:t.kind=6
   ·exact⟨g1+1,_,by rw [fw,ae hf,h1];dsimp only;rw [ae q1,ae q2,ae q4,ae q5,ar q6]⟩
   by_cases q7:t.kind=7
   ·exact⟨g1+1,_,by rw [fw,ae hf,h1];dsimp only;rw [ae q1,ae q2,ae q4,ae q5,ae q6,ar q7]⟩
   obtain⟨f,hff,_⟩:=CY ht q1 q2 q4 q5 q6 q7;obtain⟨g2,r2,h2⟩:=T.c d f ks s1 (io hff) k1 k3.ok (by omega);refine⟨g1+g2+1,r2,?_⟩;rw [fw,ae hf,FV (by omega:g1≤g1+g2) h1];dsimp only;rw [ae q1,ae q2,ae q4,ae q5,ae q6,ae q7,hff];exact M1 (by omega:g2≤g1+g2) h2
theorem OP{fs:List Tf}(hF:VF fs){n:Nat}(hT:∀k,n=k+1→Tot fs k)(d:Nat)(vs:Vs)(t:Ty)(s:Ms)(ht:VY fs t)(hv:okVs vs)(hs:okMs s)(hn:s.fuel≤(n:Int)):∃g r,i_ g fs d vs t s=some r:=by
 by_cases hf:s.fuel≤0
 ·exact⟨1,.err 25,by rw [i_,ar hf]⟩
 ·obtain⟨k,rfl⟩:∃k,n=k+1:=⟨n-1,by omega⟩
  have T:=hT k J;have hp:=Kp.pay hs hf;obtain⟨v1,v2,v3,v4⟩:=LN ht;cases hes:t.es with
  | nil=>rw [hes]at v1;simp at v1
  | cons e es=>
   rw [hes]at v4 v3;obtain⟨g1,r1,h1⟩:=T.x d vs e _ v4.1 hv hp.ok (by dsimp only;omega);cases r1 with
   | err z=>exact⟨g1+1,.err z,by rw [i_,ae hf,hes];dsimp only;rw [h1]⟩
   | ok v s1=>
    obtain⟨k1,k3⟩:=(fI hF g1).x d vs e _ v s1 v4.1 hv hp.ok h1;have k4:=k3.fl;dsimp only at k4;by_cases q1:t.kind=1∨t.kind=2
    ·exact⟨g1+1,_,by rw [i_,ae hf,hes];dsimp only;rw [h1];dsimp only;rw [ar q1]⟩
    by_cases q3:t.kind=3
    ·cases es with
     | nil=>have:=v3 q3;simp at this
     | cons e2 es=>
      obtain⟨g2,r2,h2⟩:=T.x d vs e2 s1 v4.2.1 hv k3.ok (by omega);cases r2 with
      | err z=>exact⟨g1+g2+1,.err z,by rw [i_,ae hf,hes];dsimp only;rw [li (by omega:g1≤g1+g2) h1];dsimp only;rw [ae q1,ar q3,li (by omega:g2≤g1+g2) h2]⟩
      | ok w s2=>exact⟨g1+g2+1,_,by rw [i_,ae hf,hes];dsimp only;rw [li (by omega:g1≤g1+g2) h1];dsimp only;rw [ae q1,ar q3,li (by omega:g2≤g1+g2) h2]⟩
    by_cases q4:t.kind=4
    ·obtain⟨g2,r2,h2⟩:=T.b d vs (if v=0 then t.els else t.body) s1 (by split;exact(A7 ht).2;exact(lG ht).2) hv k3.ok (by omega);refine⟨g1+g2+1,r2,?_⟩;rw [i_,ae hf,hes];dsimp only;rw [li (by omega:g1≤g1+g2) h1];dsimp only;rw [ae q1,ae q3,ar q4];exact wx (by omega:g2≤g1+g2) h2
    by_cases q5:t.kind=5
    ·obtain⟨g2,r2,h2⟩:=T.w d vs e t.body v s1 v4.1 (lG ht).2 hv k3.ok (by omega);refine⟨g1+g2+1,r2,?_⟩;rw [i_,ae hf,hes];dsimp only;rw [li (by omega:g1≤g1+g2) h1];dsimp only;rw [ae q1,ae q3,ae q4,ar q5];exact FU (by omega:g2≤g1+g2) h2
    by_cases q6:t.kind=6
    ·exact⟨g1+1,_,by rw [i_,ae hf,hes];dsimp only;rw [h1];dsimp only;rw [ae q1,ae q3,ae q4,ae q5,ar q6]⟩
    by_cases q7:t.kind=7
    ·exact⟨g1+1,_,by rw [i_,ae hf,hes];dsimp only;rw [h1];dsimp only;rw [ae q1,ae q3,ae q4,ae q5,ae q6,ar q7]⟩
    exact⟨g1+1,_,by rw [i_,ae hf,hes];dsimp only;rw [h1];dsimp only;rw [ae q1,ae q3,ae q4,ae q5,ae q6,ae q7]⟩
theorem OO{fs:List Tf}(hF:VF fs){n:Nat}(hT:∀k,n=k+1→Tot fs k)(hb:∀d vs l s,VYs fs l→okVs vs→okMs s→s.fuel≤(n:Int)→∃g r,gW g fs d vs l s=some r)(d:Nat)(vs:Vs)(e:Tx)(l:List Ty)(v:Int)(s:Ms)(he:VX fs e)(hl:VYs fs l)(hv:okVs vs)(hs:okMs s)(hn:s.fuel≤(n:Int)):∃g r,kF g fs d vs e l v s=some r:=by
 by_cases q:v=0
 ·exact⟨1,_,by rw [kF,ar q]⟩
 ·obtain⟨g1,r1,h1⟩:=hb d vs l s hl hv hs hn;cases r1 with
  | err z=>exact⟨g1+1,.err z,by rw [kF,ae q,h1]⟩
  | ok p s1=>
   obtain⟨vs1,ro⟩:=p;obtain⟨k1,_,k3⟩:=(fI hF g1).b d vs l s _ s1 hl hv hs h1;cases ro with
   | some y=>exact⟨g1+1,.ok (vs1,some y) s1,by rw [kF,ae q,h1]⟩
   | none=>
    obtain⟨g2,r2,h2⟩:=KC hF hT d vs1 e s1 he k1 k3.ok (Int.le_trans k3.fl hn);cases r2 with
    | err z=>exact⟨g1+g2+1,.err z,by rw [kF,ae q,wx (by omega:g1≤g1+g2) h1];dsimp only;rw [li (by omega:g2≤g1+g2) h2]⟩
    | ok w s2=>
     have hc:=GO hF he k1 k3.ok h2;have k5:=k3.fl;by_cases hz:s2.fuel≤0∧n=0
     ·exfalso;have h3:=hz.2
      -- with no units left the condition would have failed
      cases g2 with
      | zero=>simp [fw]at h2
      | succ g2=>rw [fw,ar (by omega)]at h2;simp at h2
     ·by_cases hn0:n=0
      ·exfalso;cases g2 with
       | zero=>simp [fw]at h2
       | succ g2=>rw [fw,ar (by omega)]at h2;simp at h2
      ·obtain⟨k,rfl⟩:∃k,n=k+1:=⟨n-1,by omega⟩
       obtain⟨g3,r3,h3⟩:=(hT k J).w d vs1 e l w s2 he hl k1 ((fI hF g2).x d vs1 e s1 w s2 he k1 k3.ok h2).2.ok (by omega);refine⟨g1+g2+g3+1,r3,?_⟩;rw [kF,ae q,wx (by omega:g1≤g1+g2+g3) h1];dsimp only;rw [li (by omega:g2≤g1+g2+g3) h2];exact FU (by omega:g3≤g1+g2+g3) h3
theorem EH{fs:List Tf}(hF:VF fs){n:Nat}(hT:∀k,n=k+1→Tot fs k):Tot fs n:=by
 have hx:=KC hF hT;have hb:=KE hF (n:=n) (OP hF hT);refine⟨hx,KD hF hx,hb,fun d f al s hf ha hs hn=> ?_,OO hF hT hb⟩;by_cases hd:d=12
 ·exact⟨1,.err 26,by rw [lM,ar hd]⟩
 ·obtain⟨g1,r1,h1⟩:=hb (d+1) (eG [] f.ps al) f.body s (hF f hf).2.2 (okVs.bind _ _ (fun p hp=>by simp at hp) ha) hs hn;cases r1 with
  | err z=>exact⟨g1+1,.err z,by rw [lM,ae hd,h1]⟩
  | ok p s1=>exact⟨g1+1,_,by rw [lM,ae hd,h1]⟩
theorem TU{fs:List Tf}(hF:VF fs):∀n,Tot fs n
 | 0=>EH hF fun k h=>by omega
 | n+1=>EH hF fun k h=>by
  obtain rfl:k=n:=by omega
  exact TU hF k
section
end
theorem Hx{nm:Ba}(h:il nm=true)(a b:Int):(pF nm a b).isSome=true:=by
 unfold il at h;obtain⟨p,hp⟩:=Option.isSome_iff_exists.1 h;have h1:=List.mem_of_find?_eq_some hp;have h2:=List.find?_some hp;have h2:p.1=nm:=by simpa using h2
 subst h2;simp only [lvL,List.mem_cons,List.not_mem_nil,or_false]at h1;rcases h1 with rfl|rfl|rfl|rfl|rfl|rfl|rfl|rfl|rfl|rfl|rfl|rfl|rfl|rfl|rfl|rfl<;>rfl
theorem Ig{nm:Ba}(h:cn nm tQ=true)(a:Int):(Ec nm a).isSome=true:=by
 unfold cn at h;obtain⟨p,h1,h2⟩:=List.any_eq_true.1 h;have h2:nm=p:=by simpa using h2
 subst h2;simp only [tQ,List.mem_cons,List.not_mem_nil,or_false]at h1;rcases h1 with rfl|rfl|rfl<;>rfl
theorem uL{k:Int}{nm:Ba}{n:Nat}(h:nZ k nm n=true):(k=1∧n=0)∨(k=5∧n=0)∨(k=2∧n=0)∨k=3∨(k=4∧n=1)∨(k=6∧cn nm tQ=true∧n=1)∨(k=7∧il nm=true∧n=2):=by
 unfold nZ at h;split at h
 ·rename_i hk;simp only [Bool.and_eq_true,decide_eq_true_eq]at h;rcases hk with hk|hk
  ·exact .inl ⟨hk,h.2⟩
  ·exact .inr (.inl ⟨hk,h.2⟩)
 ·split at h
  ·rename_i hk;simp only [Bool.and_eq_true,decide_eq_true_eq]at h;exact .inr (.inr (.inl ⟨hk,h.2⟩))
  ·split at h
   ·rename_i hk;exact .inr (.inr (.inr (.inl hk)))
   ·split at h
    ·rename_i hk;simp only [Bool.and_eq_true,decide_eq_true_eq]at h;exact .inr (.inr (.inr (.inr (.inl ⟨hk,h.2⟩))))
    ·split at h
     ·rename_i hk;simp only [Bool.and_eq_true,decide_eq_true_eq]at h;exact .inr (.inr (.inr (.inr (.inr (.inl ⟨hk,h.1,h.2⟩)))))
     ·split at h
      ·rename_i hk;simp only [Bool.and_eq_true,decide_eq_true_eq]at h;exact .inr (.inr (.inr (.inr (.inr (.inr ⟨hk,h.1,h.2⟩)))))
      ·cases h
theorem D8{fs:List Tf}{ns:List Ba}{t:Tx}(h:nE fs ns t=0)(hk:t.kind=3):∃f,cy fs t.name=some f∧f.ps.length=t.kids.length:=by
 cases hf:cy fs t.name with
 | none=>rw [ww hk hf]at h;cases h
 | some f=>
  rw [oD hk hf]at h;refine⟨f,J,?_⟩;split at h
  ·assumption
  ·cases h
mutual
theorem Kz{fs:List Tf}{ns:List Ba}:∀t:Tx,GX t→rX t=true→eX fs ns t=0→VX fs t
 | .mk k n nm v kids,hg,hr,he=>by
  have hr2:(nZ k nm kids.length&&(decide (k=1) || decide (n=0))&&nq kids)=true:=hr;simp only [Bool.and_eq_true]at hr2;obtain⟨⟨h1,_⟩,h3⟩:=hr2;have he2:=CB fs ns (.mk k n nm v kids);rw [he]at he2;obtain⟨e1,e2⟩:=bw.1 he2.symm;have hc:=uL h1;refine⟨hg.1,hg.2.2.1,fun hk=>by omega,fun hk=> ?_,fun hk=> ?_,fun k1 k2 k4 k5 k6 k7=> ?_,zp kids hg.2.2.2 h3 e2⟩
  ·have:cn nm tQ=true∧kids.length=1:=by
    rcases hc with hc|hc|hc|hc|hc|⟨_,hc,hn⟩|hc
    ·omega
    ·omega
    ·omega
    ·omega
    ·omega
    ·exact⟨hc,hn⟩
    ·omega
   exact⟨by omega,Ig this.1⟩
  ·have:il nm=true∧kids.length=2:=by
    rcases hc with hc|hc|hc|hc|hc|hc|⟨_,hc,hn⟩
    ·omega
    ·omega
    ·omega
    ·omega
    ·omega
    ·omega
    ·exact⟨hc,hn⟩
   exact⟨by omega,Hx this.1⟩
  ·have hk:k=3:=by omega
   obtain⟨f,hf1,hf2⟩:=D8 e1 hk;exact⟨f,hf1,by rw [hf2];exact bX _⟩
theorem zp{fs:List Tf}{ns:List Ba}:∀l:List Tx,GXs l→nq l=true→ir fs ns l=0→VXs fs l
 | [],_,_,_=>trivial
 | t::r,hg,hr,he=>by
  have hr2:(rX t&&nq r)=true:=hr;rw [Bool.and_eq_true]at hr2;obtain⟨e1,e2⟩:=bw.1 he;exact⟨Kz t hg.1 hr2.1 e1,zp r hg.2 hr2.2 e2⟩
end
theorem z8{k:Int}{nm:Ba}{ne nb nl:Nat}(h:uf k nm ne nb nl=true):1≤k∧k≤8∧ne=(if k=3 then 2 else 1)∧(k=4∨k=5∨nb=0)∧(k=4∨nl=0):=by
 unfold uf at h;simp only [Bool.and_eq_true,Bool.or_eq_true,decide_eq_true_eq]at h;obtain⟨⟨⟨⟨⟨h1,h2⟩,h3⟩,h4⟩,h5⟩,h6⟩:=h;exact⟨h1,h2,h3,by rcases h5 with(h|h)|h;exact .inl h;exact .inr (.inl h);exact .inr (.inr h),h6⟩
mutual
theorem OK{fs:List Tf}:∀(ns:List Ba)(t:Ty),GY t→rY t=true→(bY fs ns t).2=0→VY fs t
 | ns,.mk k nm ve es vb body vl els,hg,hr,he=>by
  have hr2:(uf k nm es.length body.length els.length&&nq es&&lK body&&lK els)=true:=hr;simp only [Bool.and_eq_true]at hr2;obtain⟨⟨⟨h1,h2⟩,h3⟩,h4⟩:=hr2;have hk:=z8 h1;rw [vB]at he;obtain⟨e1,he⟩:=bw.1 he;obtain⟨e2,he⟩:=bw.1 he;obtain⟨e3,he⟩:=bw.1 he;obtain⟨e4,e5⟩:=bw.1 he;have hes:es.length=if k=3 then 2 else 1:=hk.2.2.1
  exact⟨⟨by rw [hes];split<;>omega,hg.2.1.1,fun h3=>by rw [hes,ar h3];exact bX _,zp es hg.2.1.2 h2 e2⟩,⟨hg.2.2.1.1,vK _ body hg.2.2.1.2 h3 e4⟩,hg.2.2.2.1,vK _ els hg.2.2.2.2 h4 e5⟩
theorem vK{fs:List Tf}:∀(ns:List Ba)(l:List Ty),GYs l→lK l=true→(cV fs ns l).2=0→VYs fs l
 | _,[],_,_,_=>trivial
 | ns,t::r,hg,hr,he=>by
  have hr2:(rY t&&lK r)=true:=hr;rw [Bool.and_eq_true]at hr2;obtain⟨e1,e2⟩:=bw.1 he;exact⟨OK ns t hg.1 hr2.1 e1,vK _ r hg.2 hr2.2 e2⟩
end
theorem vu{fs:List Tf}:∀{l:List Tf},gt fs l=0→∀f∈l,kD fs f=0
 | [],_,f,hf=>by simp at hf
 | g::r,h,f,hf=>by
  obtain⟨h1,h2⟩:=bw.1 h;rcases List.mem_cons.1 hf with rfl|hf
  ·exact h1
  ·exact vu h2 f hf
structure Fine(fs:List Tf)(f:Tf):Prop where
 vf:VF fs
 main:cy fs dM=some f
 noP:f.ps= []
 len:fs.length≤16
 once:∀(i:Nat)(f:Tf),fs[i]?=some f→ti fs f.name=(i:Int)
 each:∀f∈fs,kD fs f=0
theorem kS{fs:List Tf}(hg:GP fs)(h:iA fs=0):∃f,Fine fs f:=by
 unfold iA at h;split at h
 ·cases h
 ·rename_i h1;split at h
  ·cases h
  ·rename_i h2;split at h
   ·cases h
   ·rename_i h3;split at h
    ·cases h
    ·rename_i f hf;split at h
     ·cases h
     ·rename_i h4;have h1:rP fs=true:=by simpa using h1
      have h3:once fs=true:=by simpa using h3
      have hr:=List.all_eq_true.1 h1;have he:=vu h;refine⟨f,fun g hgm=> ?_,hf,List.eq_nil_of_length_eq_zero (by omega),by omega,oz.1 h3,he⟩;obtain⟨g1,g2,g3,g4,g5,g6⟩:=hg.2 g hgm;have hrg:=hr g hgm;unfold rF at hrg;simp only [Bool.and_eq_true]at hrg;have heg:=he g hgm;rw [m4]at heg;have h6:=(bw.1 (bw.1 heg).2).2;exact⟨g3,g4,vK _ g.body g5 hrg.2 h6⟩
def BR(ins:List Int)(fuel:Int):Ms:=⟨ins,[],fun _=>0,fuel⟩
theorem Af{ins:List Int}{fuel:Int}(hi:∀x∈ins,oW x)(hf:fuel≤1000000000000):okMs (BR ins fuel):=⟨hi,fun _=>m_,by show fuel<_;omega,by show((0:Nat):Int)+max fuel 0≤_;omega⟩
structure Ru where
 err:Int
 out:List Int
 mem:List Int
def Dl:Re Int→Ru
 | .ok _ s=>⟨0,s.out,(List.range 256).map s.mem⟩
 | .err z=>⟨z,[],[]⟩
inductive RunIs(fs:List Tf)(ins:List Int)(fuel:Int):Ru→Prop where
 | bad (h:iA fs≠0):RunIs fs ins fuel ⟨iA fs,[],[]⟩
 | run (f:Tf) (g:Nat) (r:Re Int) (h:iA fs=0) (hf:cy fs dM=some f) (he:lM g fs 0 f [] (BR ins fuel)=some r):RunIs fs ins fuel (Dl r)
theorem Fc{fs:List Tf}(hg:GP fs){ins:List Int}{fuel:Int}(hi:∀x∈ins,oW x)(hf:fuel≤1000000000000):∃r,RunIs fs ins fuel r:=by
 by_cases h:iA fs=0
 ·obtain⟨f,hfn⟩:=kS hg h;have ht:=TU hfn.vf fuel.toNat
  obtain⟨g,r,hr⟩:=ht.c 0 f [] (BR ins fuel) (io hfn.main) (by simp) (Af hi hf) (by show fuel≤_;omega);exact⟨_,.run f g r h hfn.main hr⟩
 ·exact⟨_,.bad h⟩
section
end
theorem Cy:∀l:List Int,l.flatMap eU=l.map fun x=>Value.int .u32 x
 | []=>rfl
 | a::r=>by rw [List.flatMap_cons,Cy r];rfl
abbrev qR(n:Int):Tx:= .mk 1 n oNil bk []
abbrev mc(s:Ba):Tx:= .mk 2 0 s bk []
abbrev Up:Tx:= .mk 5 0 oNil bk []
abbrev EK(op:Ba)(v:SV)(a b:Tx):Tx:= .mk 7 0 op v [a,b]
abbrev xl(v:SV)(t:Tx):Ty:= .mk 7 oNil v [t] bk [] bk []
theorem gh{s:Ba}(h:(s.data.toList.all (fun b=>decide (b.toNat<128))&&decide (s.size≤1000000))=true):tS s:=by
 simp only [Bool.and_eq_true,decide_eq_true_eq,List.all_eq_true]at h;refine⟨fun i hi=> ?_,h.2⟩;refine h.1 (s[i]'hi) ?_;have:s[i]'hi=s.data.toList[i]'(by simpa using hi):=by simp [ByteArray.getElem_eq_getElem_data]
 rw [this];exact List.getElem_mem _
section
end
inductive Px where
 | mk (kind n:Int) (name:Ba) (kids:List Px)
inductive Py where
 | mk (kind:Int) (name:Ba) (es:List Px) (body els:List Py)
structure Pf where
 name:Ba
 ps:List Ba
 body:List Py
mutual
def lW:Tx→Px
 | .mk k n nm _ kids=> .mk k n nm (g8 kids)
def g8:List Tx→List Px
 | []=> []
 | t::r=>lW t::g8 r
end
mutual
def GU:Ty→Py
 | .mk k nm _ es _ body _ els=> .mk k nm (g8 es) (eq body) (eq els)
def eq:List Ty→List Py
 | []=> []
 | t::r=>GU t::eq r
end
def rU(f:Tf):Pf:=⟨f.name,f.ps,eq f.body⟩
theorem pb:∀a b:List Tx,g8 (a++b)=g8 a++g8 b
 | [],b=>by simp [g8]
 | t::r,b=>by simp [g8,pb r b]
theorem fD:∀a b:List Ty,eq (a++b)=eq a++eq b
 | [],b=>by simp [eq]
 | t::r,b=>by simp [eq,fD r b]
structure Gc where
 l:List Int
 me:Nat
 fs:List (Ba×List Ba)
structure Gs where
 at_:Nat
 left:Int
 nodes:Int
 vars:Int
 names:List Ba
def Ap(n m:Int):Int:=((n.tmod m)+m).tmod m
def gN(l:List Int)(n:Int)(s:Gs):Int×Gs:=match l[s.at_]? with
 | none=>(0,s)
 | some x=>(Ap x n,{s with at_:=s.at_+1})
def cL:List Int:= [0,1,2,3,5,8,31,32,255,256,65535,131072,2147483647,2147483648,4294967295]
def biL:List Ba:= [fU,dR,gB,kA,lg,ff,j9,fo,gw,gU,lU,nf,ng,n8,nh,na]
def gK(l:List Int)(d:Nat)(s:Gs):Int×Gs:=
 let r:=gN l 16 {s with nodes:=IntKind.i64.wrap (s.nodes-1)}
 (if d=0∨r.2.nodes<1 then r.1%4 else r.1,r.2)
mutual
inductive GXr(c:Gc):Nat→Gs→Px→Gs→Prop
 | nam {d:Nat} {s s1 s2:Gs} {k j:Int} {x:Ba} (hk:gK c.l d s=(k,s1)) (h:k=1∨k=2) (hn:0<s1.names.length) (hj:gN c.l (s1.names.length:Int) s1=(j,s2)) (hx:s1.names[j.toNat]?=some x):GXr c d s (.mk 2 0 x []) s2
 | inp {d:Nat} {s s1:Gs} (hk:gK c.l d s=(3,s1)):GXr c d s (.mk 5 0 oNil []) s1
 | mem {d:Nat} {s s1 s2:Gs} {k:Int} {p:Px} (hk:gK c.l (d+1) s=(k,s1)) (h:k=4∨k=5) (hp:GXr c d s1 p s2):GXr c (d+1) s (.mk 4 0 oNil [p]) s2
 | una {d:Nat} {s s1 s2 s3:Gs} {j:Int} {x:Ba} {p:Px} (hk:gK c.l (d+1) s=(6,s1)) (hj:gN c.l 3 s1=(j,s2)) (hx:tQ[j.toNat]?=some x) (hp:GXr c d s2 p s3):GXr c (d+1) s (.mk 6 0 x [p]) s3
 | call {d:Nat} {s s1 s2 s3:Gs} {j:Int} {f:Ba×List Ba} {ps:List Px} (hk:gK c.l (d+1) s=(7,s1)) (h:c.me+1<c.fs.length) (hj:gN c.l ((c.fs.length:Int)-(c.me:Int)-1) s1=(j,s2)) (hx:c.fs[((c.me:Int)+1+j).toNat]?=some f) (hp:GKr c d f.2.length s2 ps s3):GXr c (d+1) s (.mk 3 0 f.1 ps) s3
 | bin {d:Nat} {s s1 s2 s3 s4:Gs} {k j:Int} {x:Ba} {p q:Px} (hk:gK c.l (d+1) s=(k,s1)) (h:7<k) (hj:gN c.l 16 s1=(j,s2)) (hx:biL[j.toNat]?=some x) (hp:GXr c d s2 p s3) (hq:GXr c d s3 q s4):GXr c (d+1) s (.mk 7 0 x [p,q]) s4
 | con {d:Nat} {s s1 s2:Gs} {k j:Int} {x:Int} (hk:gK c.l d s=(k,s1)) (h1:¬((k=1∨k=2)∧0<s1.names.length)) (h3:k≠3) (h4:k≠4) (h5:k≠5) (h6:k≠6) (h7:¬(k=7∧c.me+1<c.fs.length)) (h8:¬7<k) (hj:gN c.l 15 s1=(j,s2)) (hx:cL[j.toNat]?=some x):GXr c d s (.mk 1 x oNil []) s2
inductive GKr(c:Gc):Nat→Nat→Gs→List Px→Gs→Prop
 | nil {d:Nat} {s:Gs}:GKr c d 0 s [] s
 | cons {d n:Nat} {s s1 s2:Gs} {p:Px} {ps:List Px} (hp:GXr c d s p s1) (hq:GKr c d n s1 ps s2):GKr c d (n+1) s (p::ps) s2
end
theorem GKr.snoc{c:Gc}{d:Nat}:∀{n:Nat}{s s1 s2:Gs}{p:Px}{ps:List Px},GKr c d n s ps s1→GXr c d s1 p s2→GKr c d (n+1) s (ps++ [p]) s2
 | 0,_,_,_,_,_,.nil,h2=> .cons h2 .nil
 | n+1,_,_,_,_,_,.cons hp hq,h2=> .cons hp (GKr.snoc hq h2)
def GCr(c:Gc)(d:Nat)(f:Ba×List Ba)(s:Gs)(p:Px)(s':Gs):Prop:=∃ps,GKr c d f.2.length s ps s'∧p= .mk 3 0 f.1 ps
def freshL:List Ba:= [⟨#[97]⟩,⟨#[98]⟩,⟨#[99]⟩,⟨#[100]⟩,⟨#[101]⟩,⟨#[120,49]⟩,⟨#[121,50]⟩,⟨#[108,111,111,112]⟩]
def ox(n:Int):Px:= .mk 1 n oNil []
def jp(s:Ba):Px:= .mk 2 0 s []
def jq(x:Ba):Py:= .mk 2 x [.mk 7 0 dR [jp x,ox 1]] [] []
mutual
inductive GYr(c:Gc):Nat→Gs→List Py→Gs→Prop
 | mk {e:Nat} {s s1 s2:Gs} {j:Int} {o:List Py} (hj:gN c.l 5 s=(j,s1)) (h:GLr c e (1+j).toNat s1 o s2):GYr c e s o s2
inductive GLr(c:Gc):Nat→Nat→Gs→List Py→Gs→Prop
 | zero {e:Nat} {s:Gs}:GLr c e 0 s [] s
 | stop {e n:Nat} {s:Gs} (h:s.left≤0):GLr c e n s [] s
 | step {e n:Nat} {s s1 s2 s3:Gs} {k:Int} {o r:List Py} (h:0<s.left) (hk:gN c.l 12 {s with left:=s.left-1}=(k,s1)) (h1:G1r c e k s1 o s2) (h2:GLr c e n s2 r s3):GLr c e (n+1) s (o++r) s3
inductive G1r(c:Gc):Nat→Int→Gs→List Py→Gs→Prop
 | var {e:Nat} {s s1:Gs} {k:Int} {x:Ba} {p:Px} (hk:k<3) (hx:freshL[s.vars.toNat]?=some x) (hv:s.vars<8) (hp:GXr c 3 {s with vars:=s.vars+1} p s1):G1r c e k s [.mk 1 x [p] [] []] {s1 with names:=s1.names++ [x]}
 | set {e:Nat} {s s1 s2:Gs} {j:Int} {x:Ba} {p:Px} (hn:0<s.names.length) (hj:gN c.l (s.names.length:Int) s=(j,s1)) (hx:s.names[j.toNat]?=some x) (hp:GXr c 3 s1 p s2):G1r c e 3 s [.mk 2 x [p] [] []] s2
 | put {e:Nat} {s s1 s2:Gs} {k:Int} {p q:Px} (hk:k=4∨k=5) (hp:GXr c 2 s p s1) (hq:GXr c 3 s1 q s2):G1r c e k s [.mk 3 oNil [p,q] [] []] s2
 | iff1 {e:Nat} {s s1 s2 s3 s4:Gs} {p:Px} {a b:List Py} (hp:GXr c 2 s p s1) (ha:GYr c e s1 a s2) (hj:gN c.l 2 s2=(1,s3)) (hb:GYr c e s3 b s4):G1r c (e+1) 6 s [.mk 4 oNil [p] a b] s4
 | iff0 {e:Nat} {s s1 s2 s3:Gs} {j:Int} {p:Px} {a:List Py} (hp:GXr c 2 s p s1) (ha:GYr c e s1 a s2) (hj:gN c.l 2 s2=(j,s3)) (hb:j≠1):G1r c (e+1) 6 s [.mk 4 oNil [p] a []] s3
 | whi {e:Nat} {s s1 s2:Gs} {j:Int} {x:Ba} {a:List Py} (hx:freshL[s.vars.toNat]?=some x) (hv:s.vars<8) (hj:gN c.l 5 {s with vars:=s.vars+1}=(j,s1)) (ha:GYr c (e+1) s1 a s2):G1r c (e+2) 7 s [.mk 1 x [ox j] [] [],.mk 5 oNil [jp x] (a++ [jq x]) []] {s2 with names:=s2.names++ [x]}
 | ret {e:Nat} {s s1 s2:Gs} {p:Px} (hj:gN c.l 3 s=(0,s1)) (hp:GXr c 3 s1 p s2):G1r c e 8 s [.mk 6 oNil [p] [] []] s2
 | dos {e:Nat} {s s1 s2 s3 s4:Gs} {j j2:Int} {f:Ba×List Ba} {p:Px} (h:c.me+1<c.fs.length) (hj:gN c.l ((c.fs.length:Int)-(c.me:Int)-1) s=(j,s1)) (hj2:gN c.l 8 s1=(j2,s2))
   (hf:(j2≠7∧c.fs[((c.me:Int)+1+j).toNat]?=some f∧s3=s2)∨(j2=7∧∃j3,gN c.l ((c.fs.length:Int)-1) s2=(j3,s3)∧c.fs[(1+j3).toNat]?=some f)) (hp:GCr c 1 f s3 p s4):G1r c e 9 s [.mk 8 oNil [p] [] []] s4
 | out {e:Nat} {s s1 s2:Gs} {k:Int} {p:Px} (h3:¬(k<3∧s.vars<8)) (hs:¬(k=3∧0<s.names.length)) (h4:k≠4) (h5:k≠5) (h6:¬(k=6∧1≤e)) (h7:¬(k=7∧2≤e∧s.vars<8)) (h8:(k≠8∧s1=s)∨(k=8∧∃j,j≠0∧gN c.l 3 s=(j,s1))) (h9:¬(k=9∧c.me+1<c.fs.length)) (hp:GXr c 3 s1 p s2):G1r c e k s [.mk 7 oNil [p] [] []] s2
end
theorem BY{x n:Int}(hn:0<n):0≤Ap x n∧Ap x n<n:=by
 unfold Ap;have h1:=Int.tmod_lt_of_pos x hn;have h2:=Int.tmod_lt_of_pos (-x) hn;rw [Int.neg_tmod]at h2;have h3:0≤x.tmod n+n:=by omega
 rw [Int.tmod_eq_emod_of_nonneg h3];exact⟨Int.emod_nonneg _ (by omega),Int.emod_lt_of_pos _ hn⟩
theorem oO{l:List Int}{n j:Int}{s s1:Gs}(hn:0<n)(h:gN l n s=(j,s1)):0≤j∧j<n:=by
 unfold gN at h;split at h
 ·cases h;exact⟨Int.le_refl _,hn⟩
 ·cases h;exact BY hn
theorem B8{l:List Int}{n j:Int}{s s1:Gs}(h:gN l n s=(j,s1)):s1={s with at_:=s1.at_}∧(s.at_≤l.length→s1.at_≤l.length):=by
 unfold gN at h;split at h
 ·cases h;exact⟨J,fun h=>h⟩
 ·rename_i x hx;cases h;exact⟨J,fun _=>(cJ.1 hx).1⟩
def ie(vl:SV)(s:Gs)(vn:SV)(me:Nat)(vf:SV):List Value:= [sv vl,I6 (s.at_:Int),I6 s.left,I6 s.nodes,sv vn,I6 s.vars,I6 (me:Int),sv vf]
theorem JE{l:List Int}{n:Int}{s:Gs}(h:l.length≤s.at_):gN l n s=(0,s):=by
 unfold gN;rw [List.getElem?_eq_none h]
theorem JD{l:List Int}{n x:Int}{s:Gs}(h:l[s.at_]?=some x):gN l n s=(Ap x n,{s with at_:=s.at_+1}):=by
 unfold gN;rw [h]
theorem OR(x:Int){m:Int}(hm:0<m): -m<x.tmod m∧x.tmod m<m:=by
 have h1:=Int.tmod_lt_of_pos x hm;have h2:=Int.tmod_lt_of_pos (-x) hm;rw [Int.neg_tmod]at h2;omega
theorem x_(n m:Int)(hm:0<m∧m≤1000000):
  bi prog 24 [I6 n,I6 m] [] [] (I6 (Ap n m)) []:=by
 refine aI func24 J ntmps24 J fun w0 M H=>ap (ak J (aF J (ad J (ad J (aw J J (jt (by omega) J) (ad J (aw J J (cw (by have:=OR n hm.1;exact bU (by omega))) (ad J (aw J J (jt (by omega) J) (ak J (aa (ax (aH () O J (bQ (aL J)) J [] [] J J J)))))))))))))
theorem cU(g:Nat)(vl vn vf:SV)(c:Gc)(hl:c.l.length≤9223372036854775807)(hlo:∀x∈c.l,KV x)(n:Int)(hn:0<n∧n≤1000000)(s:Gs):
  bi prog 46 [Pt g,I6 n] [bh g 102 (ie vl (s) vn c.me vf)] [sl 1 eI (sv vl) c.l] (I6 (gN c.l n s).1) [bh g 102 (ie vl ((gN c.l n s).2) vn c.me vf)]:=by
 refine aI func46 J ntmps46 J fun w0 M H=>ap (ak J (aa (a_ (a_ (bJ [5,6,7,8,9,10,11,12,13,14] _ J (bl (V:= [(0,5,_),(1,6,_),(2,7,_),(3,8,_),(4,9,_),(5,10,_),(6,11,_),(7,12,_),(8,13,_),(9,14,_)]) [0,1,2,3,4,5,6,7,8,9] J J (aD J J (ac J (au J) (ac J (ag rS J) (ac J (ah t3 J J (ay (k:=0) J J)) (aD J J (ac J (au J) (ac J (ag Cx J) (ac J (ah EL J J (ay (k:=0) J J)) (ac J (aS underlying22 J (aK (k:=0) J)) (ac J (aR J J gI) av)))))))))) J J J (ai J (fun h1=> ?_) (fun h1=> ?_))))))))
 ·(try simp only [bj]at h1);rw [JE (by omega)];refine ap (ak J (aa (ax (aH () O J (bQ (aL J)) J [0] [] J J J))))
 ·(try simp only [bj]at h1);have hlt:s.at_<c.l.length:=by omega
  obtain⟨x,hx⟩:∃x,c.l[s.at_]?=some x:=⟨_,bN hlt⟩
  rw [JD hx];refine az (ap (ad J (bI J (aC rS J (aQ 0 t3 J J J J (aw J J aO (bI J (aC rS J (aA (k:=0) t3 J J J J J J J J (aa (a_ ?_)))))))))));refine bJ [22,23,24,25,26,27,28,29,30,31,32,33,34,4] _ J (aW (V:= [(0,22,_),(1,23,_),(2,24,_),(3,25,_),(4,26,_),(5,27,_),(6,28,_),(7,29,_),(8,30,_),(9,31,_),(10,32,_),(11,33,_)]) [0,1,2,3,4,5,6,7,8,9,10,11] 12 [12,11,10,9,8,7,6,5,4,3,2,1,0] [13] (fun _=> [(13,4,_)]) J J (aD J J (ac J (au J) (ac J (ag Cx J) (ac J (ah EL J J (ay (k:=0) J J)) (aD J J (ac J (au J) (ac J (ag rS J) (ac J (ah t3 J J (ay (k:=0) J J)) (ac J (aR J J (gu (c:=(s.at_:Int)) (by rw [show(s.at_:Int)+1-1=(s.at_:Int) by omega];exact bU (by omega)))) (ac J (aN (j:=s.at_) underlying22 t3 J J (aK (k:=0) J) (by omega) hlt) (ac J (ah t3 J J (bA (aK (k:=0) J) (by intro _;rfl) hx (by rfl))) (aD J J av)))))))))))) J J J J J J J J J J J (fun _ _=>J) J (bB (xs:= [.tmp 32,.tmp 33]) (x_ x n hn) Qh [] [] []) (fun _ _=>bl [13] J J (ac J (cA J) av) J J J ?_));refine ax (aH () O J (bQ (aL J)) J [0] [] J J J)
theorem s7{l:List Int}{α:Type}{L:List α}{n:Int}(hn:0<n)(hL:n=(L.length:Int))(s:Gs):∃x,L[(gN l n s).1.toNat]?=some x∧(gN l n s).1.toNat<L.length∧(gN l n s).1=((gN l n s).1.toNat:Int):=by
 have h:=oO (l:=l) (s:=s) (j:=(gN l n s).1) (s1:=(gN l n s).2) hn J;have h2:(gN l n s).1.toNat<L.length:=by omega
 exact⟨_,bN h2,h2,by omega⟩
theorem yr(g:Nat)(vl vn vf:SV)(c:Gc)(hl:c.l.length≤9223372036854775807)(hlo:∀x∈c.l,KV x)(s:Gs):
  Spec prog 117 [Pt g] [bh g 102 (ie vl (s) vn c.me vf)] [sl 1 eI (sv vl) c.l] (X:=Int) (fun x=>cL[(gN c.l 15 s).1.toNat]?=some x) (fun x=>xV (qR x)) (fun _=> [bh g 102 (ie vl ((gN c.l 15 s).2) vn c.me vf)]) (fun _=> []):=by
 refine aI func117 J ntmps117 J fun w0 M H=>ap (aY cl J J fun b2=>aF J (dv eU cL (parts:= [(0,.const (I3 0)),(1,.const (I3 1)),(2,.const (I3 2)),(3,.const (I3 3)),(4,.const (I3 5)),(5,.const (I3 8)),(6,.const (I3 31)),(7,.const (I3 32)),(8,.const (I3 255)),(9,.const (I3 256)),(10,.const (I3 65535)),(11,.const (I3 131072)),(12,.const (I3 2147483647)),(13,.const (I3 2147483648)),(14,.const (I3 4294967295))]) underlying48 dm J (by decide) (by intro _;rfl) J (by decide) (by decide) J J J J fun v4=>ak J (aF J (ad J (ad J (ad J (aP (aS underlying48 J (be (k:=4) J)) (aj (xs:= [.tmp 6,.tmp 8]) (cU g vl vn vf c hl hlo 15 (by decide) s) kT [0] [(false,0)] [0] (fun _ _=> ?_)))))))))
 obtain⟨x,hx,hj1,hj2⟩:=s7 (l:=c.l) (L:=cL) (n:=15) (by decide) J s;refine aP (aN (j:=(gN c.l 15 s).1.toNat) underlying48 dm J J (be (k:=4) J) hj2 hj1) (aP (ah dm J J (bA (be (k:=4) J) (by intro _;rfl) hx (by rfl))) (aP (aU (parts:= [(0,.const (I6 1)),(1,.tmp 11)]) cl ky J J) (aq (k:=2) cl J J J J J J (aa (ax (aH x hx J (bQ (aV cl J J J (aX (k:=2) J))) J [0] [] J J J))))))
theorem lq(l:List Int)(n:Int)(s:Gs):(gN l n s).2.names=s.names∧(gN l n s).2.left=s.left∧(gN l n s).2.vars=s.vars:=by
 have h:=(B8 (l:=l) (n:=n) (s:=s) (j:=(gN l n s).1) (s1:=(gN l n s).2) (by exact Prod.eta _)).1;rw [h];exact⟨J,J,J⟩
theorem qd(l:List Int){n:Int}(hn:0<n)(s:Gs):0≤(gN l n s).1∧(gN l n s).1<n:=oO (j:=(gN l n s).1) (s1:=(gN l n s).2) hn (by exact Prod.eta _)
theorem bR{l:List Int}{n j:Int}{s s1:Gs}(h:gN l n s=(j,s1)):s1.names=s.names∧s1.left=s.left∧s1.vars=s.vars:=by
 rw [(B8 h).1];exact⟨J,J,J⟩
theorem i9{l:List Int}{d:Nat}{s s1:Gs}{k:Int}(h:gK l d s=(k,s1)):s1.names=s.names∧s1.left=s.left∧s1.vars=s.vars:=by
 unfold gK at h;have h2:(gN l 16 {s with nodes:=IntKind.i64.wrap (s.nodes-1)}).2=s1:=congrArg Prod.snd h;have h3:=lq l 16 {s with nodes:=IntKind.i64.wrap (s.nodes-1)};rw [h2]at h3;exact h3
theorem kJ{w:World}{F G:Nat→Prop}{t:Tx}(h:(ce t.v t.kids).pred w G)(hs:∀b,G b→F b):TxIn w F t:=by
 have h2:TxIn w G t:=by
  cases t;exact h
 exact TxIn.mono hs (fun _ _=>J) t h2
def Ku(l:List Tx):Asn:=⟨fun w F=>TxsIn w F l,fun h hs=>TxsIn.mono (fun _ hb=>hb) hs _ h⟩
theorem Bc{w:World}{F:Nat→Prop}:∀{l:List Tx}{t:Tx},TxsIn w F l→TxIn w F t→TxsIn w F (l++ [t])
 | [],t,_,ht=>⟨ht,trivial⟩
 | a::r,t,h,ht=>⟨h.1,Bc h.2 ht⟩
theorem Kt{w:World}{F G:Nat→Prop}{l:List Tx}(h:(Ku l).pred w G)(hs:∀b,G b→F b):TxsIn w F l:=TxsIn.mono hs (fun _ _=>rfl) l h
theorem kP(w:World)(F:Nat→Prop)(_:AllIn w F []):(ce bk []).pred w F:=⟨iH,trivial⟩
theorem ld{v:SV}{t:Tx}(w:World)(F:Nat→Prop)(h:AllIn w F [own 61 4 dT (sv v) [t],ce t.v t.kids]):(ce v [t]).pred w F:=by
 obtain⟨⟨_,a0,b0⟩,⟨_,a1,b1⟩,_⟩:=h;exact⟨dj a0 b0,kJ a1 b1,O⟩
theorem Bj{v:SV}{t u:Tx}(w:World)(F:Nat→Prop)(h:AllIn w F [own 61 4 dT (sv v) [t,u],ce t.v t.kids,ce u.v u.kids]):(ce v [t,u]).pred w F:=by
 obtain⟨⟨_,a0,b0⟩,⟨_,a1,b1⟩,⟨_,a2,b2⟩,_⟩:=h;exact⟨dj a0 b0,kJ a1 b1,kJ a2 b2,O⟩
theorem BW{l:List Tx}{t:Tx}(w:World)(F:Nat→Prop)(h:AllIn w F [Ku l,ce t.v t.kids]):(Ku (l++ [t])).pred w F:=by
 obtain⟨⟨_,a0,b0⟩,⟨_,a1,b1⟩,_⟩:=h;exact Bc (Kt a0 b0) (kJ a1 b1)
theorem yi{v:SV}{l:List Tx}(w:World)(F:Nat→Prop)(h:AllIn w F [own 61 4 dT (sv v) l,Ku l]):(ce v l).pred w F:=by
 obtain⟨⟨_,a0,b0⟩,⟨_,a1,b1⟩,_⟩:=h;exact⟨dj a0 b0,Kt a1 b1⟩
structure Ge where
 g:Nat
 vl:SV
 vn:SV
 vf:SV
 c:Gc
 F:List Tf
structure Gfine(e:Ge):Prop where
 hl:e.c.l.length≤9223372036854775807
 hlo:∀x∈e.c.l,KV x
 fs:e.c.fs=e.F.map fun f=>(f.name,f.ps)
 fl:e.F.length≤100
 me:e.c.me≤100
 ps:∀f∈e.F,f.ps.length≤100
def RC(e:Ge)(d:Nat):Prop:=∀s:Gs,s.names.length≤1000→Spec prog 79 [Pt e.g,I6 ((d:Int)+1)] [bh e.g 102 (ie e.vl s e.vn e.c.me e.vf)] [sl 1 eI (sv e.vl) e.c.l,sl 1 eS (sv e.vn) s.names,cx e.vf e.F] (X:=Tx×Gs) (fun x=>GXr e.c d s (lW x.1) x.2) (fun x=>xV x.1) (fun x=> [bh e.g 102 (ie e.vl x.2 e.vn e.c.me e.vf),ce x.1.v x.1.kids]) (fun _=> [])
def Ub(e:Ge)(d:Nat):Prop:=∀(s:Gs)(f:Tf),f∈e.F→s.names.length≤1000→Spec prog 80 [Pt e.g,Iq f,I6 ((d:Int)+2)] [bh e.g 102 (ie e.vl s e.vn e.c.me e.vf)] [sl 1 eI (sv e.vl) e.c.l,sl 1 eS (sv e.vn) s.names,cx e.vf e.F] (X:=Tx×Gs) (fun x=>GCr e.c d (f.name,f.ps) s (lW x.1) x.2) (fun x=>xV x.1) (fun x=> [bh e.g 102 (ie e.vl x.2 e.vn e.c.me e.vf),ce x.1.v x.1.kids]) (fun _=> [])
mutual
theorem GXr.keep{c:Gc}:∀{d:Nat}{s s':Gs}{p:Px},GXr c d s p s'→s'.names=s.names∧s'.left=s.left∧s'.vars=s.vars
 | _,s,_,_,.nam (s1:=s1) hk _ _ hj _=>by
  have h1:=i9 hk;have h2:=(B8 hj).1;rw [h2];exact h1
 | _,_,_,_,.inp hk=>i9 hk
 | _,_,_,_,.mem hk _ hp=>by
  have h1:=i9 hk;have h2:=hp.keep;exact⟨h2.1.trans h1.1,h2.2.1.trans h1.2.1,h2.2.2.trans h1.2.2⟩
 | _,_,_,_,.una hk hj _ hp=>by
  have h1:=i9 hk;have h3:=bR hj;have h2:=hp.keep;exact⟨h2.1.trans (h3.1.trans h1.1),h2.2.1.trans (h3.2.1.trans h1.2.1),h2.2.2.trans (h3.2.2.trans h1.2.2)⟩
 | _,_,_,_,.call hk _ hj _ hp=>by
  have h1:=i9 hk;have h3:=bR hj;have h2:=hp.keep;exact⟨h2.1.trans (h3.1.trans h1.1),h2.2.1.trans (h3.2.1.trans h1.2.1),h2.2.2.trans (h3.2.2.trans h1.2.2)⟩
 | _,_,_,_,.bin hk _ hj _ hp hq=>by
  have h1:=i9 hk;have h3:=bR hj;have h2:=hp.keep;have h4:=hq.keep;exact⟨h4.1.trans (h2.1.trans (h3.1.trans h1.1)),h4.2.1.trans (h2.2.1.trans (h3.2.1.trans h1.2.1)),h4.2.2.trans (h2.2.2.trans (h3.2.2.trans h1.2.2))⟩
 | _,_,_,_,.con hk _ _ _ _ _ _ _ hj _=>by
  have h1:=i9 hk;have h3:=bR hj;exact⟨h3.1.trans h1.1,h3.2.1.trans h1.2.1,h3.2.2.trans h1.2.2⟩
theorem GKr.keep{c:Gc}:∀{d n:Nat}{s s':Gs}{ps:List Px},GKr c d n s ps s'→s'.names=s.names∧s'.left=s.left∧s'.vars=s.vars
 | _,_,_,_,_,.nil=>⟨rfl,rfl,rfl⟩
 | _,_,_,_,_,.cons hp hq=>by
  have h1:=hp.keep;have h2:=hq.keep;exact⟨h2.1.trans h1.1,h2.2.1.trans h1.2.1,h2.2.2.trans h1.2.2⟩
end
theorem sW(e:Ge)(he:Gfine e)(d:Nat)(hd:d≤10)(ih:RC e d)(s:Gs)(f:Tf)(hf:f∈e.F)(hn:s.names.length≤1000):
  Spec prog 80 [Pt e.g,Iq f,I6 ((d:Int)+2)] [bh e.g 102 (ie e.vl (s) e.vn e.c.me e.vf)] [sl 1 eI (sv e.vl) e.c.l,sl 1 eS (sv e.vn) s.names,cx e.vf e.F] (X:=Tx×Gs) (fun x=>GCr e.c d (f.name,f.ps) s (lW x.1) x.2) (fun x=>xV x.1) (fun x=> [bh e.g 102 (ie e.vl (x.2) e.vn e.c.me e.vf),ce x.1.v x.1.kids]) (fun _=> []):=by
 refine aI func80 J ntmps80 J fun w0 M H=>aZ 2 4 J (l_ hf) (aZ 4 3 J ma ?_)
 have hpl:=he.ps f hf;refine ap (ck J J fun b4=>aY cl J J fun b6=>aF J (aC kC J (aQ 4 t9 J J J J (aP (aU (parts:= [(0,.const (I6 3)),(2,.tmp 10)]) cl ky J J) (aY cl J J fun b7=>aq (k:=7) cl J J J J J J (aa (aT (ak J (aa (aB (cZ 40 (α:=Tx) (S:=61) (s:=4) (enc:=dT) ?_)))))))))));refine bz 41 [] (L:= []) (C:=Ku []) J (fun _ _ _=>O) (bC (X:=Nat×SV×List Tx×Gs) (fun x=>x.1≤f.ps.length∧x.2.2.1.length=x.1∧GKr e.c d x.1 s (g8 x.2.2.1) x.2.2.2) (fun x=> [(0,Pt e.g),(2,I6 ((d:Int)+2)),(4,Pt b4),(6,Pt b6),(7,Pt b7),(8,I6 (x.1:Int))]) (fun x=> [(0,bh e.g 102 (ie e.vl (x.2.2.2) e.vn e.c.me e.vf)),(4,bh b4 66 (ip f)),(6,bh b6 61 (dT (.mk 0 0 oNil bk []))),(7,bh b7 61 (dT (.mk 3 0 f.name x.2.1 x.2.2.1))),(40,own 61 4 dT (sv x.2.1) x.2.2.1),(41,Ku x.2.2.1)]) (fun x=> [(0,sl 1 eI (sv e.vl) e.c.l),(1,sl 1 eS (sv e.vn) s.names),(2,cx e.vf e.F),(3,sl 1 eS (sv f.vp) f.ps)]) (fun x=>f.ps.length-x.1) (0,bk,[],s) ⟨br _,J,.nil⟩ J J J (fun x hx0=> ?_));obtain⟨i,vk,kids,sx⟩:=x;obtain⟨n1,n2,n3⟩:=hx0;dsimp only at n1 n2 n3 ⊢;have n4:kids=kids:=J;refine aT (ad J (aC d6 J (aQ 4 gO J J J J (aP (aS underlying46 J (aK (k:=3) J)) (aw J J cr (aa (ai J (fun h1=> ?_) (fun h1=> ?_))))))))
 ·(try simp only [bj]at h1);have hi:i<f.ps.length:=by omega
  refine az (a_ (aB ?_));refine bJ [19,20,21,22,23,24,25,26,27] _ J (aW (V:= [(0,19,_),(1,20,_),(2,21,_),(3,22,_),(4,23,_)]) [0,1,2,3,4] 5 [5,4,3,2] [] (fun xt=> []) J J (ac J (ag dx J) (ac J (ah jh J J (ay (k:=7) J J)) (aD J J (aD J J (ac J (aR J J (gu (c:=(d:Int)+1) (by rw [show(d:Int)+2-1=(d:Int)+1 by omega];exact bU (by omega)))) av))))) J J J J J J J J J J J (fun _ _=>J) J (iY (xs:= [.tmp 21,.tmp 23]) (ih sx (by rw [n3.keep.1];exact hn)) nV [0] [(false,0),(false,1),(false,2)] [0,24] J J J J J (by rw [←n3.keep.1];rfl) J J (fun _ _=>J) (fun _ _ _=>J)) (fun xt hxt=>aW [0,1] 6 [6,5,4,3,2] [] (fun v25=> []) J J (ac J (ag dx J) (ac J (ah jh J J (ay (k:=7) J J)) av)) J J J J J J J J J J J (fun _ _=>J) J (dH dT xt.1 underlying59 cl J (by decide) (by decide) J J J) (fun v25 _=>aW [0,1] 7 [7,6,5,4,3,2,1,0] [8] (fun v26=> [(8,27,_)]) J J (ac J (ag dx J) (ac J (ah jh J J (ay (k:=7) J J)) av)) J J J J J J J J J J J (fun _ _=>J) J (gC 40 underlying59 cl J (by decide) (fun _=>J) (fun _=>J) J J J (be (k:=25) J) (by have:=congrArg List.length n4;simp only [cE];omega) (by unfold maxLen;simp only [cE];omega)) (fun v26 _=>bE [8] 9 [9,8,7,6,5,4,3,2,1,0] [] (fun _=> []) J J (ac J (ag dx J) av) J J J J J J J J J (fun _ _=>J) J (c9 (k:=7) jh J J J J J J J J) (fun _ _=>bl [] J J av J J J ?_)))));refine am (ad J (aw J J aO (ak J (aa (bz 41 [41,24] J BW ?_)))));refine aJ (i+1,v26,kids++ [xt.1],xt.2) ⟨⟨by dsimp only;omega,by dsimp only;rw [bG,cE,n2],by dsimp only;rw [pb];exact n3.snoc hxt⟩,by dsimp only;omega⟩ J J J
 ·(try simp only [bj]at h1);have hi:i=f.ps.length:=by omega
  subst hi;refine bF (ap (aP (aM cl J J J (aX (k:=7) J)) (aq (k:=6) cl J J J J J J (aa (ax (bz 50 [40,41] J yi (aH (.mk 3 0 f.name vk kids,sx) ⟨g8 kids,n3,J⟩ J (bQ (aV cl J J J (aX (k:=6) J))) J [0,50] [] J J J)))))))
theorem sU(e:Ge)(he:Gfine e)(d:Nat)(hd:d≤10)(ihX:∀k,d=k+1→RC e k)(ihC:∀k,d=k+1→Ub e k)(s:Gs)(hn:s.names.length≤1000):
  Spec prog 79 [Pt e.g,I6 ((d:Int)+1)] [bh e.g 102 (ie e.vl (s) e.vn e.c.me e.vf)] [sl 1 eI (sv e.vl) e.c.l,sl 1 eS (sv e.vn) s.names,cx e.vf e.F] (X:=Tx×Gs) (fun x=>GXr e.c d s (lW x.1) x.2) (fun x=>xV x.1) (fun x=> [bh e.g 102 (ie e.vl (x.2) e.vn e.c.me e.vf),ce x.1.v x.1.kids]) (fun _=> []):=by
 refine aI func79 J ntmps79 J fun w0 M H=>aZ 2 3 J jG ?_
 have hfl:e.c.fs.length=e.F.length:=by rw [he.fs,List.length_map]
 have hflb:=he.fl;have hmeb:=he.me;obtain⟨k0,s1,hr⟩:∃k0 s1,gN e.c.l 16 {s with nodes:=IntKind.i64.wrap (s.nodes-1)}=(k0,s1):=⟨_,_,J⟩
 have hkb:=oO (by decide) hr;have hst:=bR hr;obtain⟨k,hkk⟩:∃k,(if d=0∨s1.nodes<1 then k0%4 else k0)=k:=⟨_,J⟩
 have hk:gK e.c.l d s=(k,s1):=by
  unfold gK;rw [hr,←hkk]
 have hn1:s1.names=s.names:=hst.1;have hk16:0≤k∧k<16:=by rw [←hkk];split<;>omega
 have hk4:d=0→k<4:=fun h=>by rw [←hkk,ar (.inl h)];omega
 refine ap (aY cl J J fun b4=>aF J (ad J (bI J (aC rO J (aQ 0 t3 J J J J (aw J J (gu J) (bI J (aC rO J (aA (k:=0) t3 J J J J J J J J (aF J (ad J (aj (xs:= [.tmp 17,.const (I6 16)]) (cU e.g e.vl e.vn e.vf e.c he.hl he.hlo (16) (by decide) ({s with nodes:=IntKind.i64.wrap (s.nodes-1)})) kT [0] [(false,0)] [0] (fun _ _=> ?_)))))))))))));rw [hr];refine ak J (aa (bx (X:=Unit) (fun _=>True) (fun _=> [(0,Pt e.g),(1,I6 ((d:Int)+1)),(4,Pt b4),(5,I6 k)]) (fun _=> [(0,bh e.g 102 (ie e.vl (s1) e.vn e.c.me e.vf)),(4,bh b4 61 (dT (.mk 0 0 oNil bk [])))]) (fun _=> [(0,sl 1 eI (sv e.vl) e.c.l),(1,sl 1 eS (sv e.vn) s.names),(2,cx e.vf e.F),(3,sl 3 ip (sv e.vf) e.F)]) ?_ (fun _ _=> ?_)))
 ·refine ap (ad J (aw J J lR (ad J (aG [] J J O (fun hg1=>bc J) J (aG [(22,_)] J J ⟨J,O⟩ (fun hg2=>au J) J (aG [(22,_),(23,_)] J J ⟨J,J,O⟩ (fun hg3=>ag rO J) J (aG [(22,_),(23,_),(24,_)] J J ⟨J,J,J,O⟩ (fun hg4=>ah t3 J J (ay (k:=0) J J)) J (aG [(22,_),(23,_),(24,_),(25,_)] J J ⟨J,J,J,J,O⟩ (fun hg5=>aR J J cr) J (aP (bH J J J) (aa (ai J (fun h6=> ?_) (fun h6=> ?_))))))))))))
  ·(try simp only [bj]at h6);have hsm:d=0∨s1.nodes<1:=by rcases h6 with h|h;exact .inl (by omega);exact .inr h
   refine am (ad J (aw J J (jt (by decide) (Int.tmod_eq_emod_of_nonneg hkb.1)) (ak J (aa (aJ () O (by rw [←hkk,ar hsm];rfl) J J)))))
  ·(try simp only [bj]at h6);have hsm:¬(d=0∨s1.nodes<1):=by rintro (h|h);exact h6.1 (by omega);exact h6.2 h
   refine az (aJ () O (by rw [←hkk,ae hsm];rfl) J J)
 ·refine a_ (aB (ap (ad J (aw J J bn (ad J (aG [] J J O (fun hg7=>bc J) J (aG [(34,_)] J J ⟨J,O⟩ (fun hg8=>au J) J (aG [(34,_),(35,_)] J J ⟨J,J,O⟩ (fun hg9=>ag gm J) J (aG [(34,_),(35,_),(36,_)] J J ⟨J,J,J,O⟩ (fun hg10=>ah gO J J (ay (k:=0) J J)) J (aG [(34,_),(35,_),(36,_),(37,_)] J J ⟨J,J,J,J,O⟩ (fun hg11=>aS underlying46 J (aK (k:=1) J)) J (aG [(34,_),(35,_),(36,_),(37,_),(38,_)] J J ⟨J,J,J,J,J,O⟩ (fun hg12=>aR J J ec) J (aP (bH J J J) (ad J (aG [] J J O (fun hg13=>bc J) J (aG [(42,_)] J J ⟨J,O⟩ (fun hg14=>aR J J bn) J (aG [(42,_),(43,_)] J J ⟨J,J,O⟩ (fun hg15=>bc J) J (cD [] [(42,_),(43,_),(44,_)] J J O ⟨J,J,J,O⟩ (fun hg16 hg16'=>bc J) J (cD [(45,_)] [(42,_),(43,_),(44,_)] J J ⟨J,O⟩ ⟨J,J,J,O⟩ (fun hg17 hg17'=>au J) J ?_))))))))))))))))));refine cD [(45,_),(46,_)] [(42,_),(43,_),(44,_)] J J ⟨J,J,O⟩ ⟨J,J,J,O⟩ (fun hg18 hg18'=>ag gm J) J (cD [(45,_),(46,_),(47,_)] [(42,_),(43,_),(44,_)] J J ⟨J,J,J,O⟩ ⟨J,J,J,O⟩ (fun hg19 hg19'=>ah gO J J (ay (k:=0) J J)) J (cD [(45,_),(46,_),(47,_),(48,_)] [(42,_),(43,_),(44,_)] J J ⟨J,J,J,J,O⟩ ⟨J,J,J,O⟩ (fun hg20 hg20'=>aS underlying46 J (aK (k:=1) J)) J (cD [(45,_),(46,_),(47,_),(48,_),(49,_)] [(42,_),(43,_),(44,_)] J J ⟨J,J,J,J,J,O⟩ ⟨J,J,J,O⟩ (fun hg21 hg21'=>aR J J ec) J (aG [(42,_),(43,_),(44,_)] J J ⟨J,J,J,O⟩ (fun hg22=>eL J J J (by first|exact dL|exact ef|exact dc hg22|exact dA hg22|rfl)) J (aP (bH J J J) (ak J (aa (ai J (fun h23=> ?_) (fun h23=> ?_)))))))))
  ·(try simp only [bj]at h23);have hq:(k=1∨k=2)∧0<s1.names.length:=by rw [hn1];rcases h23 with h|h;exact⟨.inl h.1,by omega⟩;exact⟨.inr h.1,by omega⟩
   have hsl:=hq.2;rw [hn1]at hsl;obtain⟨x6,hx6,hja6,hjb6⟩:=s7 (l:=e.c.l) (L:=s.names) (n:=(s.names.length:Int)) (by omega) J (s1);refine a_ ?_;refine bJ [53,54,55,56,57,58,59,60,61,62,63,64,65,66] _ J (aW (V:= [(0,53,_),(1,54,_),(2,55,_),(3,56,_),(4,57,_),(5,58,_),(6,59,_),(7,60,_),(8,61,_),(9,62,_)]) [0,1,2,3,4,5,6,7,8,9] 10 [10,9,8,7,6,5,4] [11,12,13] (fun _=> [(11,64,_),(12,65,_),(13,66,_)]) J J (aD J J (ac J (au J) (ac J (ag gm J) (ac J (ah gO J J (ay (k:=0) J J)) (aD J J (aD J J (ac J (au J) (ac J (ag gm J) (ac J (ah gO J J (ay (k:=0) J J)) (ac J (aS underlying46 J (aK (k:=1) J)) av)))))))))) J J J J J J J J J J J (fun _ _=>J) J (bB (xs:= [.tmp 57,.tmp 62]) (cU e.g e.vl e.vn e.vf e.c he.hl he.hlo (s.names.length:Int) (by omega) s1) kT [0] [(false,0)] [0]) (fun _ _=>bE [11,12,13,0,1,2,3] 14 [14,13,12,11,10,9,8,7,6,5,4,3,2,1,0] [] (fun _=> []) J J (ac J (aN (j:=(gN e.c.l (s.names.length:Int) s1).1.toNat) underlying46 t9 J J (aK (k:=1) J) hjb6 hja6) (ac J (ah t9 J J (bA (aK (k:=1) J) (by intro _;rfl) hx6 (by rfl))) (ac J (aU (parts:= [(0,.const (I6 2)),(2,.tmp 65)]) cl ky J J) (aD J J (ac J (au J) (ac J (ag gm J) (ac J (ah gO J J (ay (k:=0) J J)) av))))))) J J J J J J J J J (fun _ _=>J) J (bD (k:=4) cl J J J J J J) (fun _ _=>bl [] J J av J J J ?_)));refine ax (bz 50 [] (L:= []) J kP (aH (mc x6,(gN e.c.l (s.names.length:Int) s1).2) (.nam (j:=(gN e.c.l (s.names.length:Int) s1).1) hk hq.1 hq.2 (by rw [hn1]) (by rw [hn1];exact hx6)) J (bQ (aV cl J J J (aX (k:=4) J))) J [0,50] [] J J J))
  ·(try simp only [bj]at h23);have hq:¬((k=1∨k=2)∧0<s1.names.length):=by
    rw [hn1];rintro ⟨h1|h1,h2⟩
    ·rcases h23.1 with h|h
     ·exact h h1
     ·omega
    ·rcases h23.2 with h|h
     ·exact h h1
     ·omega
   refine ap (ad J (aw J J bn (ak J (aa (ai J (fun h24=> ?_) (fun h24=> ?_))))))
   ·(try simp only [bj]at h24);have q3:k=3:=h24;refine ap (aP (aU (parts:= [(0,.const (I6 5))]) cl ky J J) (aq (k:=4) cl J J J J J J (aa (ax (bz 50 [] (L:= []) J kP (aH (Up,s1) (.inp (q3▸hk)) J (bQ (aV cl J J J (aX (k:=4) J))) J [0,50] [] J J J))))))
   ·(try simp only [bj]at h24);have q3:¬k=3:=h24;refine ap (ad J (aw J J bn (ad J (aG [] J J O (fun hg25=>bc J) J (aG [(75,_)] J J ⟨J,O⟩ (fun hg26=>aR J J bn) J (aP (bH J J J) (ak J (aa (ai J (fun h27=> ?_) (fun h27=> ?_))))))))))
    ·(try simp only [bj]at h27);have q4:k=4∨k=5:=h27;obtain⟨d2,rfl⟩:∃d2,d=d2+1:=⟨d-1,by have:=hk4;omega⟩
     refine ap (ad J (ad J ?_));refine sE (aR J J (gu (c:=(d2:Int)+1) (by rw [show(((d2+1:Nat):Int)+1)-1=(d2:Int)+1 by omega];exact bU (by omega)))) J ?_;refine dh (xs:= [.tmp 78,.tmp 80]) (ihX _ J (s1) (by rw [hn1];exact hn)) nV [0] [(false,0),(false,1),(false,2)] [0,81] J J J J J (by rw [←hn1];rfl) J J (fun _ _=>J) (fun _ _ _=>J) J (fun xt hxt=>bq dT xt.1 underlying59 cl J (by decide) (by decide) J J J J fun v82=>aP (aU (parts:= [(0,.const (I6 4)),(3,.tmp 82)]) cl ky J J) (aq (k:=4) cl J J J J J J (aa (ax (bz 50 [82,81] J ld (aH (.mk 4 0 oNil v82 [xt.1],xt.2) (.mem hk q4 hxt) J (bQ (aV cl J J J (aX (k:=4) J))) J [0,50] [] J J J))))))
    ·(try simp only [bj]at h27);have q4:¬(k=4∨k=5):=by rintro (h|h);exact h27.1 h;exact h27.2 h
     refine ap (ad J (aw J J bn (ak J (aa (ai J (fun h28=> ?_) (fun h28=> ?_))))))
     ·(try simp only [bj]at h28);have q6:k=6:=h28;obtain⟨d2,rfl⟩:∃d2,d=d2+1:=⟨d-1,by have:=hk4;omega⟩
      obtain⟨xu,hxu,hjau,hjbu⟩:=s7 (l:=e.c.l) (L:=tQ) (n:=3) (by decide) J (s1);have hn6:(gN e.c.l 3 s1).2.names=s.names:=(lq e.c.l 3 s1).1.trans hn1;refine a_ ?_
      refine bJ [87,88,89,90,91,92,93,94,95,96,97] _ J (fe (V:= [(1,88,_),(5,92,_),(6,93,_),(7,94,_)]) [1,5,6,7] J J (aD J J (aD J J (aD J J (bp (IU J (aR J J (gu (c:=(d2:Int)+1) (by rw [show(((d2+1:Nat):Int)+1)-1=(d2:Int)+1 by omega];exact bU (by omega))))) av)))) J [0,2] J J (df (dQ 0 [0] [] (fun v87=> []) J J J J J J J J J (fun _ _=>J) J (fX eS tQ (parts:= [(0,.const (Sg (ByteArray.mk #[45]))),(1,.const (Sg (ByteArray.mk #[126]))),(2,.const (Sg (ByteArray.mk #[33])))]) underlying46 t9 J (by decide) (by intro _;rfl) J (by decide) (by decide) J J J) (fun v87 _=>aW [1,5,6,7] 2 [2,1,0] [3,4] (fun _=> [(3,90,_),(4,91,_)]) J J (aD J J (aD J J (aD J J (bp (IU J (aR J J (gu (c:=(d2:Int)+1) (by rw [show(((d2+1:Nat):Int)+1)-1=(d2:Int)+1 by omega];exact bU (by omega))))) av)))) J J J J J J J J J J J (fun _ _=>J) J (bB (xs:= [.tmp 88,.const (I6 3)]) (cU e.g e.vl e.vn e.vf e.c he.hl he.hlo (3) (by decide) (s1)) kT [0] [(false,0)] [0]) (fun _ _=>aW [3,4,5,6,7] 8 [8,7,6,5,2,1,0] [] (fun xt=> []) J J (ac J (aN (j:=(gN e.c.l 3 s1).1.toNat) underlying46 t9 J J (be (k:=87) J) hjbu hjau) (ac J (ah t9 J J (bA (be (k:=87) J) (by intro _;rfl) hxu (by rfl))) (aD J J (aD J J (bp (IU J (aR J J (gu (c:=(d2:Int)+1) (by rw [show(((d2+1:Nat):Int)+1)-1=(d2:Int)+1 by omega];exact bU (by omega))))) av))))) J J J J J J J J J J J (fun _ _=>J) J (iY (xs:= [.tmp 92,.tmp 94]) (ihX _ J ((gN e.c.l 3 s1).2) (by rw [hn6];exact hn)) nV [0] [(false,0),(false,1),(false,2)] [0,95] J J J J J (by rw [←hn6];rfl) J J (fun _ _=>J) (fun _ _ _=>J)) (fun xt hxt=>aW [3,4] 9 [9,8,7,6,5,2,1,0] [10] (fun v96=> [(10,97,_)]) J J (ac J (aN (j:=(gN e.c.l 3 s1).1.toNat) underlying46 t9 J J (be (k:=87) J) hjbu hjau) (ac J (ah t9 J J (bA (be (k:=87) J) (by intro _;rfl) hxu (by rfl))) av)) J J J J J J J J J J J (fun _ _=>J) J (dH dT xt.1 underlying59 cl J (by decide) (by decide) J J J) (fun v96 _=>bE [10,3,4] 11 [11,10,9,8,7,6,5,4,3,2,1,0] [] (fun _=> []) J J (ac J (aU (parts:= [(0,.const (I6 6)),(2,.tmp 91),(3,.tmp 96)]) cl ky J J) (ac J (aN (j:=(gN e.c.l 3 s1).1.toNat) underlying46 t9 J J (be (k:=87) J) hjbu hjau) (ac J (ah t9 J J (bA (be (k:=87) J) (by intro _;rfl) hxu (by rfl))) av))) J J J J J J J J J (fun _ _=>J) J (bD (k:=4) cl J J J J J J) (fun _ _=>bl [] J J av J J J ?_)))))) (df (dQ 2 [2,1] [] (fun _=> []) J J J J J J J J J (fun _ _=>J) J (bB (xs:= [.tmp 88,.const (I6 3)]) (cU e.g e.vl e.vn e.vf e.c he.hl he.hlo (3) (by decide) (s1)) kT [0] [(false,0)] [0]) (fun _ _=>fe [5,6,7] J J (aD J J (aD J J (bp (IU J (aR J J (gu (c:=(d2:Int)+1) (by rw [show(((d2+1:Nat):Int)+1)-1=(d2:Int)+1 by omega];exact bU (by omega))))) av))) J [0,8] J J (df (dQ 0 [2,1,0] [3,4] (fun v87=> [(3,90,_),(4,91,_)]) J J J J J J J J J (fun _ _=>J) J (fX eS tQ (parts:= [(0,.const (Sg (ByteArray.mk #[45]))),(1,.const (Sg (ByteArray.mk #[126]))),(2,.const (Sg (ByteArray.mk #[33])))]) underlying46 t9 J (by decide) (by intro _;rfl) J (by decide) (by decide) J J J) (fun v87 _=>aW [3,4,5,6,7] 8 [8,7,6,5,2,1,0] [] (fun xt=> []) J J (ac J (aN (j:=(gN e.c.l 3 s1).1.toNat) underlying46 t9 J J (be (k:=87) J) hjbu hjau) (ac J (ah t9 J J (bA (be (k:=87) J) (by intro _;rfl) hxu (by rfl))) (aD J J (aD J J (bp (IU J (aR J J (gu (c:=(d2:Int)+1) (by rw [show(((d2+1:Nat):Int)+1)-1=(d2:Int)+1 by omega];exact bU (by omega))))) av))))) J J J J J J J J J J J (fun _ _=>J) J (iY (xs:= [.tmp 92,.tmp 94]) (ihX _ J ((gN e.c.l 3 s1).2) (by rw [hn6];exact hn)) nV [0] [(false,0),(false,1),(false,2)] [0,95] J J J J J (by rw [←hn6];rfl) J J (fun _ _=>J) (fun _ _ _=>J)) (fun xt hxt=>aW [3,4] 9 [9,8,7,6,5,2,1,0] [10] (fun v96=> [(10,97,_)]) J J (ac J (aN (j:=(gN e.c.l 3 s1).1.toNat) underlying46 t9 J J (be (k:=87) J) hjbu hjau) (ac J (ah t9 J J (bA (be (k:=87) J) (by intro _;rfl) hxu (by rfl))) av)) J J J J J J J J J J J (fun _ _=>J) J (dH dT xt.1 underlying59 cl J (by decide) (by decide) J J J) (fun v96 _=>bE [10,3,4] 11 [11,10,9,8,7,6,5,4,3,2,1,0] [] (fun _=> []) J J (ac J (aU (parts:= [(0,.const (I6 6)),(2,.tmp 91),(3,.tmp 96)]) cl ky J J) (ac J (aN (j:=(gN e.c.l 3 s1).1.toNat) underlying46 t9 J J (be (k:=87) J) hjbu hjau) (ac J (ah t9 J J (bA (be (k:=87) J) (by intro _;rfl) hxu (by rfl))) av))) J J J J J J J J J (fun _ _=>J) J (bD (k:=4) cl J J J J J J) (fun _ _=>bl [] J J av J J J ?_))))) (df (dQ 8 [8,7,6,5,2,1] [] (fun xt=> []) J J J J J J J J J (fun _ _=>J) J (iY (xs:= [.tmp 92,.tmp 94]) (ihX _ J ((gN e.c.l 3 s1).2) (by rw [hn6];exact hn)) nV [0] [(false,0),(false,1),(false,2)] [0,95] J J J J J (by rw [←hn6];rfl) J J (fun _ _=>J) (fun _ _ _=>J)) (fun xt hxt=>fe [] J J av J [0,9] J J (df (dQ 0 [8,7,6,5,2,1,0] [3,4] (fun v87=> [(3,90,_),(4,91,_)]) J J J J J J J J J (fun _ _=>J) J (fX eS tQ (parts:= [(0,.const (Sg (ByteArray.mk #[45]))),(1,.const (Sg (ByteArray.mk #[126]))),(2,.const (Sg (ByteArray.mk #[33])))]) underlying46 t9 J (by decide) (by intro _;rfl) J (by decide) (by decide) J J J) (fun v87 _=>aW [3,4] 9 [9,8,7,6,5,2,1,0] [10] (fun v96=> [(10,97,_)]) J J (ac J (aN (j:=(gN e.c.l 3 s1).1.toNat) underlying46 t9 J J (be (k:=87) J) hjbu hjau) (ac J (ah t9 J J (bA (be (k:=87) J) (by intro _;rfl) hxu (by rfl))) av)) J J J J J J J J J J J (fun _ _=>J) J (dH dT xt.1 underlying59 cl J (by decide) (by decide) J J J) (fun v96 _=>bE [10,3,4] 11 [11,10,9,8,7,6,5,4,3,2,1,0] [] (fun _=> []) J J (ac J (aU (parts:= [(0,.const (I6 6)),(2,.tmp 91),(3,.tmp 96)]) cl ky J J) (ac J (aN (j:=(gN e.c.l 3 s1).1.toNat) underlying46 t9 J J (be (k:=87) J) hjbu hjau) (ac J (ah t9 J J (bA (be (k:=87) J) (by intro _;rfl) hxu (by rfl))) av))) J J J J J J J J J (fun _ _=>J) J (bD (k:=4) cl J J J J J J) (fun _ _=>bl [] J J av J J J ?_)))) (df (dQ 9 [9,8,7,6,5,2,1] [] (fun v96=> []) J J J J J J J J J (fun _ _=>J) J (dH dT xt.1 underlying59 cl J (by decide) (by decide) J J J) (fun v96 _=>aW [] 0 [9,8,7,6,5,2,1,0] [3,4,10] (fun v87=> [(3,90,_),(4,91,_),(10,97,_)]) J J av J J J J J J J J J J J (fun _ _=>J) J (fX eS tQ (parts:= [(0,.const (Sg (ByteArray.mk #[45]))),(1,.const (Sg (ByteArray.mk #[126]))),(2,.const (Sg (ByteArray.mk #[33])))]) underlying46 t9 J (by decide) (by intro _;rfl) J (by decide) (by decide) J J J) (fun v87 _=>bE [3,4,10] 11 [11,10,9,8,7,6,5,4,3,2,1,0] [] (fun _=> []) J J (ac J (aN (j:=(gN e.c.l 3 s1).1.toNat) underlying46 t9 J J (be (k:=87) J) hjbu hjau) (ac J (ah t9 J J (bA (be (k:=87) J) (by intro _;rfl) hxu (by rfl))) (ac J (aU (parts:= [(0,.const (I6 6)),(2,.tmp 91),(3,.tmp 96)]) cl ky J J) av))) J J J J J J J J J (fun _ _=>J) J (bD (k:=4) cl J J J J J J) (fun _ _=>bl [] J J av J J J ?_)))) ix)))) ix)))) ix)))
      ·refine ax (bz 50 [96,95] J ld (aH (.mk 6 0 xu v96 [xt.1],xt.2) (.una (q6▸hk) J hxu hxt) J (bQ (aV cl J J J (aX (k:=4) J))) J [0,50] [] J J J))
      ·refine ax (bz 50 [96,95] J ld (aH (.mk 6 0 xu v96 [xt.1],xt.2) (.una (q6▸hk) J hxu hxt) J (bQ (aV cl J J J (aX (k:=4) J))) J [0,50] [] J J J))
      ·refine ax (bz 50 [96,95] J ld (aH (.mk 6 0 xu v96 [xt.1],xt.2) (.una (q6▸hk) J hxu hxt) J (bQ (aV cl J J J (aX (k:=4) J))) J [0,50] [] J J J))
      ·refine ax (bz 50 [96,95] J ld (aH (.mk 6 0 xu v96 [xt.1],xt.2) (.una (q6▸hk) J hxu hxt) J (bQ (aV cl J J J (aX (k:=4) J))) J [0,50] [] J J J))
     ·(try simp only [bj]at h28);have q6:¬k=6:=h28;refine a_ ?_;refine bJ [99,100,101,102,103,104,105,106,107,108,109,110,111,112,113,98] _ J (bl (V:= [(0,99,_),(1,100,_),(2,101,_),(3,102,_),(4,103,_),(5,104,_),(6,105,_),(7,106,_),(8,107,_),(9,108,_),(10,109,_),(11,110,_),(12,111,_),(13,112,_),(14,113,_),(15,98,_)]) [0,1,2,3,4,5,6,7,8,9,10,11,12,13,14,15] J J (aD J J (ac J (aR J J bn) (aD J J (bp (bZ [] J J J O (fun hg29=>bc J)) (bp (bZ [(102,_)] J J J ⟨J,O⟩ (fun hg30=>au J)) (bp (bZ [(103,_)] J J J ⟨J,O⟩ (fun hg31=>ag eV J)) (bp (bZ [(104,_)] J J J ⟨J,O⟩ (fun hg32=>ah t3 J J (ay (k:=0) J J))) (bp (bZ [(105,_)] J J J ⟨J,O⟩ (fun hg33=>aR J J aO)) (bp (bZ [] J J J O (fun hg34=>bc J)) (bp (bZ [(107,_)] J J J ⟨J,O⟩ (fun hg35=>au J)) (bp (bZ [(108,_)] J J J ⟨J,O⟩ (fun hg36=>ag du J)) (bp (bZ [(109,_)] J J J ⟨J,O⟩ (fun hg37=>ah iB J J (ay (k:=0) J J))) (bp (bZ [(110,_)] J J J ⟨J,O⟩ (fun hg38=>aS underlying25 J (aK (k:=3) J))) (bp (bZ [(106,_),(111,_)] J J J ⟨J,J,O⟩ (fun hg39=>aR J J cr)) (ac J (bH J J J) (ac J (cA J) av)))))))))))))))) J J J ?_);refine ai J (fun h40=> ?_) (fun h40=> ?_)
      ·(try simp only [bj]at h40);have q7:k=7∧e.c.me+1<e.F.length:=⟨h40.1,by have:=h40.2;omega⟩
       obtain⟨d2,rfl⟩:∃d2,d=d2+1:=⟨d-1,by have:=hk4;omega⟩
       have hjb:=qd e.c.l (n:=(e.F.length:Int)-(e.c.me:Int)-1) (by omega) s1;obtain⟨jf,hjf⟩:∃jf:Nat,(e.c.me:Int)+1+(gN e.c.l ((e.F.length:Int)-(e.c.me:Int)-1) s1).1=(jf:Int):=⟨((e.c.me:Int)+1+(gN e.c.l ((e.F.length:Int)-(e.c.me:Int)-1) s1).1).toNat,by omega⟩
       have hjl:jf<e.F.length:=by omega
       obtain⟨f,hfj⟩:∃f,e.F[jf]?=some f:=⟨_,bN hjl⟩
       refine bx (X:=Tf×Gs×Nat) (fun y=>y.1∈e.F∧∃j,gN e.c.l ((e.c.fs.length:Int)-(e.c.me:Int)-1) s1=(j,y.2.1)∧e.c.fs[((e.c.me:Int)+1+j).toNat]?=some (y.1.name,y.1.ps)) (fun y=> [(0,Pt e.g),(1,I6 (((d2+1:Nat):Int)+1)),(4,Pt b4),(6,Pt y.2.2)]) (fun y=> [(0,bh e.g 102 (ie e.vl (y.2.1) e.vn e.c.me e.vf)),(4,bh b4 61 (dT (.mk 0 0 oNil bk []))),(6,bh y.2.2 66 (ip y.1))]) (fun y=> [(0,sl 1 eI (sv e.vl) e.c.l),(1,sl 1 eS (sv e.vn) s.names),(2,cx e.vf e.F),(3,sl 3 ip (sv e.vf) e.F)]) ?_ (fun y hy=> ?_)
       ·refine bJ [114,115,116,117,118,119,120,121,122,123,124,125,126,127,128,129,130,131,132,133,134,135,136,137,138,6] _ J (fe (V:= [(0,114,_),(1,115,_),(2,116,_),(3,117,_),(4,118,_),(5,119,_),(6,120,_),(7,121,_),(8,122,_),(9,123,_),(10,124,_),(11,125,_),(12,126,_),(13,127,_),(14,128,_),(15,129,_),(16,130,_),(17,131,_),(18,132,_),(19,133,_),(20,134,_)]) [0,1,2,3,4,5,6,7,8,9,10,11,12,13,14,15,16,17,18,19,20] J J (aD J J (ac J (au J) (ac J (ag du J) (ac J (ah iB J J (ay (k:=0) J J)) (aD J J (ac J (au J) (ac J (ag eV J) (ac J (ah t3 J J (ay (k:=0) J J)) (ac J (aR J J aO) (aD J J (aD J J (ac J (au J) (ac J (ag du J) (ac J (ah iB J J (ay (k:=0) J J)) (ac J (aS underlying25 J (aK (k:=3) J)) (aD J J (ac J (au J) (ac J (ag eV J) (ac J (ah t3 J J (ay (k:=0) J J)) (ac J (aR J J ew) (ac J (aR J J ew) av))))))))))))))))))))) J [21,25] J J (df (dQ 21 [21,20,19,18,17,16,15,14,13,12,11,10,9] [22,23,24] (fun _=> [(22,136,_),(23,137,_),(24,138,_)]) J J J J J J J J J (fun _ _=>J) J (bB (xs:= [.tmp 123,.tmp 134]) (cU e.g e.vl e.vn e.vf e.c he.hl he.hlo (((e.F.length:Int)-(e.c.me:Int)-1)) (by omega) (s1)) kT [0] [(false,0)] [0]) (fun _ _=>aW [22,23,24,0,1,2,3,4,5,6,7,8] 25 [25,21,20,19,18,17,16,15,14,13,12,11,10,9] [] (fun b6=> []) J J (ac J (aR J J aO) (ac J (aN (j:=jf) underlying25 fj J J (aK (k:=3) J) hjf hjl) (ac J (aM fj J J J (bA (aK (k:=3) J) (by intro _;rfl) hfj (by rfl))) (aD J J (ac J (au J) (ac J (ag du J) (ac J (ah iB J J (ay (k:=0) J J)) (aD J J (ac J (au J) (ac J (ag eV J) (ac J (ah t3 J J (ay (k:=0) J J)) (ac J (aR J J aO) av)))))))))))) J J J J J J J J J J J (fun _ _=>J) J (dV fj J) (fun b6 _=>bE [22,23,24,0,1,2,3,4,5,6,7,8] 26 [26,25,24,23,22,21,20,19,18,17,16,15,14,13,12,11,10,9,8,7,6,5,4,3,2,1,0] [] (fun _=> []) J J (ac J (aR J J aO) (ac J (aN (j:=jf) underlying25 fj J J (aK (k:=3) J) hjf hjl) (ac J (aM fj J J J (bA (aK (k:=3) J) (by intro _;rfl) hfj (by rfl))) (aD J J (ac J (au J) (ac J (ag du J) (ac J (ah iB J J (ay (k:=0) J J)) (aD J J (ac J (au J) (ac J (ag eV J) (ac J (ah t3 J J (ay (k:=0) J J)) (ac J (aR J J aO) av)))))))))))) J J J J J J J J J (fun _ _=>J) J (bD (k:=6) fj J J J J J J) (fun _ _=>bl [] J J av J J J ?_)))) (df (dQ 25 [25] [] (fun b6=> []) J J J J J J J J J (fun _ _=>J) J (dV fj J) (fun b6 _=>aW [0,1,2,3,4,5,6,7,8,9,10,11,12,13,14,15,16,17,18,19,20] 21 [25,21,20,19,18,17,16,15,14,13,12,11,10,9] [22,23,24] (fun _=> [(22,136,_),(23,137,_),(24,138,_)]) J J (aD J J (ac J (au J) (ac J (ag du J) (ac J (ah iB J J (ay (k:=0) J J)) (aD J J (ac J (au J) (ac J (ag eV J) (ac J (ah t3 J J (ay (k:=0) J J)) (ac J (aR J J aO) (aD J J (aD J J (ac J (au J) (ac J (ag du J) (ac J (ah iB J J (ay (k:=0) J J)) (ac J (aS underlying25 J (aK (k:=3) J)) (aD J J (ac J (au J) (ac J (ag eV J) (ac J (ah t3 J J (ay (k:=0) J J)) (ac J (aR J J ew) (ac J (aR J J ew) av))))))))))))))))))))) J J J J J J J J J J J (fun _ _=>J) J (bB (xs:= [.tmp 123,.tmp 134]) (cU e.g e.vl e.vn e.vf e.c he.hl he.hlo (((e.F.length:Int)-(e.c.me:Int)-1)) (by omega) (s1)) kT [0] [(false,0)] [0]) (fun _ _=>bE [22,23,24,0,1,2,3,4,5,6,7,8] 26 [26,25,24,23,22,21,20,19,18,17,16,15,14,13,12,11,10,9,8,7,6,5,4,3,2,1,0] [] (fun _=> []) J J (ac J (aR J J aO) (ac J (aN (j:=jf) underlying25 fj J J (aK (k:=3) J) hjf hjl) (ac J (aM fj J J J (bA (aK (k:=3) J) (by intro _;rfl) hfj (by rfl))) (aD J J (ac J (au J) (ac J (ag du J) (ac J (ah iB J J (ay (k:=0) J J)) (aD J J (ac J (au J) (ac J (ag eV J) (ac J (ah t3 J J (ay (k:=0) J J)) (ac J (aR J J aO) av)))))))))))) J J J J J J J J J (fun _ _=>J) J (bD (k:=6) fj J J J J J J) (fun _ _=>bl [] J J av J J J ?_)))) ix)))
        ·refine aJ (f,(gN e.c.l ((e.F.length:Int)-(e.c.me:Int)-1) s1).2,b6) ⟨bT hfj,_,by rw [hfl],by rw [he.fs,List.getElem?_map,show((e.c.me:Int)+1+(gN e.c.l ((e.F.length:Int)-(e.c.me:Int)-1) s1).1).toNat=jf by omega,hfj];rfl⟩ J J J
        ·refine aJ (f,(gN e.c.l ((e.F.length:Int)-(e.c.me:Int)-1) s1).2,b6) ⟨bT hfj,_,by rw [hfl],by rw [he.fs,List.getElem?_map,show((e.c.me:Int)+1+(gN e.c.l ((e.F.length:Int)-(e.c.me:Int)-1) s1).1).toNat=jf by omega,hfj];rfl⟩ J J J
       ·obtain⟨f,s2,b6⟩:=y;obtain⟨hfm,jn,hjn,hfx⟩:=hy;dsimp only at hfm hjn hfx ⊢;have hn2:s2.names=s.names:=(bR hjn).1.trans hn1;refine ap (ad J (aP (aM fj J J J (aX (k:=6) J)) (ad J (dh (xs:= [.tmp 139,.tmp 140,.tmp 141]) (ihC _ J s2 f hfm (by rw [hn2];exact hn)) Qe [0] [(false,0),(false,1),(false,2)] [0,142] J J J J J (by rw [←hn2];rfl) J J (fun _ _=>J) (fun _ _ _=>J) J (fun xt hxt=>aq (k:=4) cl J J J J J J (aa (ax ?_)))))));obtain⟨ps,hps,hpe⟩:=hxt;refine aH (xt.1,xt.2) (by rw [hpe];exact .call (q7.1▸hk) (by rw [hfl];exact q7.2) hjn hfx hps) J (bQ (aV cl J J J (aX (k:=4) J))) J [0,142] [] J J J
      ·(try simp only [bj]at h40);have q7:¬(k=7∧e.c.me+1<e.F.length):=by rintro ⟨h1,h2⟩;rcases h40 with h|h;exact h h1;omega
       refine ap (ad J (aw J J ec (ak J (aa (ai J (fun h41=> ?_) (fun h41=> ?_))))))
       ·(try simp only [bj]at h41);have q8:7<k:=h41;obtain⟨d2,rfl⟩:∃d2,d=d2+1:=⟨d-1,by have:=hk4;omega⟩
        refine ap (dv eS biL (parts:= [(0,.const (Sg (ByteArray.mk #[43]))),(1,.const (Sg (ByteArray.mk #[45]))),(2,.const (Sg (ByteArray.mk #[42]))),(3,.const (Sg (ByteArray.mk #[47]))),(4,.const (Sg (ByteArray.mk #[37]))),(5,.const (Sg (ByteArray.mk #[38]))),(6,.const (Sg (ByteArray.mk #[124]))),(7,.const (Sg (ByteArray.mk #[94]))),(8,.const (Sg (ByteArray.mk #[60,60]))),(9,.const (Sg (ByteArray.mk #[62,62]))),(10,.const (Sg (ByteArray.mk #[60]))),(11,.const (Sg (ByteArray.mk #[60,61]))),(12,.const (Sg (ByteArray.mk #[62]))),(13,.const (Sg (ByteArray.mk #[62,61]))),(14,.const (Sg (ByteArray.mk #[61,61]))),(15,.const (Sg (ByteArray.mk #[33,61])))]) underlying46 t9 J (by decide) (by intro _;rfl) J (by decide) (by decide) J J J J fun v146=>ak J (aF J (ad J (ad J (ad J (aP (aS underlying46 J (be (k:=146) J)) (aj (xs:= [.tmp 148,.tmp 150]) (cU e.g e.vl e.vn e.vf e.c he.hl he.hlo (16) (by decide) (s1)) kT [0] [(false,0)] [0] (fun _ _=> ?_))))))));obtain⟨xb,hxb,hjab,hjbb⟩:=s7 (l:=e.c.l) (L:=biL) (n:=16) (by decide) J (s1);have hn7:(gN e.c.l 16 s1).2.names=s.names:=(lq e.c.l 16 s1).1.trans hn1;refine aP (aN (j:=(gN e.c.l 16 s1).1.toNat) underlying46 t9 J J (be (k:=146) J) hjbb hjab) (aP (ah t9 J J (bA (be (k:=146) J) (by intro _;rfl) hxb (by rfl))) (ak J (aF J (ad J (ad J ?_)))));refine sE (aR J J (gu (c:=(d2:Int)+1) (by rw [show(((d2+1:Nat):Int)+1)-1=(d2:Int)+1 by omega];exact bU (by omega)))) J ?_;refine dh (xs:= [.tmp 154,.tmp 156]) (ihX _ J ((gN e.c.l 16 s1).2) (by rw [hn7];exact hn)) nV [0] [(false,0),(false,1),(false,2)] [0,157] J J J J J (by rw [←hn7];rfl) J J (fun _ _=>J) (fun _ _ _=>J) J (fun xt hxt=> ?_);have hn8:xt.2.names=s.names:=hxt.keep.1.trans hn7;refine aY cl J J fun b9=>aq (k:=9) cl J J J J J J (aa (a_ ?_))
        refine bJ [158,159,160,161,162,163,164,165] _ J (aW (V:= [(0,158,_),(1,159,_),(2,160,_),(3,161,_),(4,162,_)]) [0,1,2,3,4] 5 [5,4,3,2] [] (fun xu=> []) J J (aD J J (ac J (aM cl J J J (aX (k:=9) J)) (aD J J (aD J J (bp (IU J (aR J J (gu (c:=(d2:Int)+1) (by rw [show(((d2+1:Nat):Int)+1)-1=(d2:Int)+1 by omega];exact bU (by omega))))) av))))) J J J J J J J J J J J (fun _ _=>J) J (iY (xs:= [.tmp 160,.tmp 162]) (ihX _ J (xt.2) (by rw [hn8];exact hn)) nV [0] [(false,0),(false,1),(false,2)] [0,163] J J J J J (by rw [←hn8];rfl) J J (fun _ _=>J) (fun _ _ _=>J)) (fun xu hxu=>aW [0,1] 6 [6,5,4,3,2,1] [7] (fun v164=> [(7,165,_)]) J J (aD J J (ac J (aM cl J J J (aX (k:=9) J)) av)) J J J J J J J J J J J (fun _ _=>J) J (fX dT [xt.1,xu.1] (parts:= [(0,.tmp 159),(1,.tmp 163)]) underlying59 cl J (by decide) (by intro _;rfl) J (by decide) (by decide) J J J) (fun v164 _=>bE [7,0] 8 [8,7,6,5,4,3,2,1,0] [] (fun _=> []) J J (ac J (aU (parts:= [(0,.const (I6 7)),(2,.tmp 158),(3,.tmp 164)]) cl ky J J) (aD J J av)) J J J J J J J J J (fun _ _=>J) J (bD (k:=4) cl J J J J J J) (fun _ _=>bl [] J J av J J J ?_))));refine ax (bz 50 [164,157,163] J Bj (aH (EK xb v164 xt.1 xu.1,xu.2) (.bin hk q8 J hxb hxt hxu) J (bQ (aV cl J J J (aX (k:=4) J))) J [0,50] [] J J J))
       ·(try simp only [bj]at h41);have q8:¬7<k:=by omega
        refine az (ap (ad J (aj (xs:= [.tmp 166]) (yr e.g e.vl e.vn e.vf e.c he.hl he.hlo s1) Rb [0] [(false,0)] [0] (fun xc hxc=>aq (k:=4) cl J J J J J J (aa (ax (bz 50 [] (L:= []) J kP ?_)))))));refine aH (qR xc,(gN e.c.l 15 s1).2) (.con hk hq q3 (fun h=>q4 (.inl h)) (fun h=>q4 (.inr h)) q6 (fun h=>q7 ⟨h.1,by rw [←hfl];exact h.2⟩) q8 J hxc) J (bQ (aV cl J J J (aX (k:=4) J))) J [0,50] [] J J J
def lI(l:List Ty):Asn:=⟨fun w F=>TysIn w F l,fun h hs=>TysIn.mono (fun _ hb=>hb) hs _ h⟩
theorem ju{w:World}{F:Nat→Prop}:∀{l:List Ty}{t:Ty},TysIn w F l→TyIn w F t→TysIn w F (l++ [t])
 | [],t,_,ht=>⟨ht,trivial⟩
 | a::r,t,h,ht=>⟨h.1,ju h.2 ht⟩
theorem lH{w:World}{F G:Nat→Prop}{l:List Ty}(h:(lI l).pred w G)(hs:∀b,G b→F b):TysIn w F l:=TysIn.mono hs (fun _ _=>rfl) l h
theorem Spec.roAll{P:Program}{n:Nat}{vs:List Value}{L R0 R1:List Asn}{X:Type}{φ:X→Prop}{v:X→Value}{L' R':X→List Asn}(h:Spec P n vs L R0 φ v L' R')(hAB:∀(i:Nat)(A:Asn),R0[i]?=some A→∃B:Asn,R1[i]?=some B∧∀w G,B.pred w G→A.pred w G):Spec P n vs L R1 φ v L' R':=fun w M H ⟨F,hF⟩=>
 h w M H ⟨F,hF.touch,hF.has,hF.lt,hF.mine,hF.apart,fun k C hk=>by
  obtain⟨B,h1,h2⟩:=hAB k C hk;obtain⟨G,g1,g2⟩:=hF.ro k B h1;exact⟨G,h2 _ _ g1,g2⟩⟩
theorem BH{A B C D:Asn}(h:∀w G,D.pred w G→B.pred w G):∀(i:Nat)(X:Asn),([A,B,C]:List Asn)[i]?=some X→∃Y,([A,D,C]:List Asn)[i]?=some Y∧∀w G,Y.pred w G→X.pred w G
 | 0,X,hX=>⟨A,rfl,by cases hX;exact fun _ _ h=>h⟩
 | 1,X,hX=>⟨D,rfl,by cases hX;exact h⟩
 | 2,X,hX=>⟨C,rfl,by cases hX;exact fun _ _ h=>h⟩
 | i+3,X,hX=>by simp at hX
theorem Aq{e:Ge}(he:Gfine e):∀d,d≤10→RC e d∧Ub e d
 | 0,hd=>by
  have hx:RC e 0:=fun s hn=>sU e he 0 hd (fun k h=>by omega) (fun k h=>by omega) s hn
  exact⟨hx,fun s f hf hn=>sW e he 0 hd hx s f hf hn⟩
 | d+1,hd=>by
  have ih:=Aq he d (by omega);have hx:RC e (d+1):=fun s hn=>sU e he (d+1) hd (fun k h=>(show d=k by omega)▸ih.1) (fun k h=>(show d=k by omega)▸ih.2) s hn
  exact⟨hx,fun s f hf hn=>sW e he (d+1) hd hx s f hf hn⟩
def Ge.at(e:Ge)(v:SV):Ge:={e with vn:=v}
theorem Gfine.at{e:Ge}(he:Gfine e)(v:SV):Gfine (e.at v):=⟨he.hl,he.hlo,he.fs,he.fl,he.me,he.ps⟩
theorem mt{e:Ge}(he:Gfine e)(d:Nat)(hd:d≤10)(v:SV)(s:Gs)(hn:s.names.length≤1000):Spec prog 79 [Pt e.g,I6 ((d:Int)+1)] [bh e.g 102 (ie e.vl s v e.c.me e.vf)] [sl 1 eI (sv e.vl) e.c.l,own 9 1 eS (sv v) s.names,cx e.vf e.F] (X:=Tx×Gs) (fun x=>GXr e.c d s (lW x.1) x.2) (fun x=>xV x.1) (fun x=> [bh e.g 102 (ie e.vl x.2 v e.c.me e.vf),ce x.1.v x.1.kids]) (fun _=> []):=
 Spec.roAll ((Aq (he.at v) d hd).1 s hn) (BH bO)
theorem Nl{e:Ge}(he:Gfine e)(d:Nat)(hd:d≤10)(v:SV)(s:Gs)(f:Tf)(hf:f∈e.F)(hn:s.names.length≤1000):Spec prog 80 [Pt e.g,Iq f,I6 ((d:Int)+2)] [bh e.g 102 (ie e.vl s v e.c.me e.vf)] [sl 1 eI (sv e.vl) e.c.l,own 9 1 eS (sv v) s.names,cx e.vf e.F] (X:=Tx×Gs) (fun x=>GCr e.c d (f.name,f.ps) s (lW x.1) x.2) (fun x=>xV x.1) (fun x=> [bh e.g 102 (ie e.vl x.2 v e.c.me e.vf),ce x.1.v x.1.kids]) (fun _=> []):=
 Spec.roAll ((Aq (he.at v) d hd).2 s f hf hn) (BH bO)
structure GInv(s:Gs):Prop where
 v0:0≤s.vars
 v8:s.vars≤8
 nm:(s.names.length:Int)≤100+s.vars
 lf:s.left≤1000
theorem GInv.same{s s':Gs}(h:GInv s)(k:s'.names=s.names∧s'.left=s.left∧s'.vars=s.vars):GInv s':=⟨by rw [k.2.2];exact h.v0,by rw [k.2.2];exact h.v8,by rw [k.1,k.2.2];exact h.nm,by rw [k.2.1];exact h.lf⟩
theorem GInv.n{s:Gs}(h:GInv s):s.names.length≤1000:=by have:=h.nm;have:=h.v8;omega
theorem GCr.keep{c:Gc}{d:Nat}{f:Ba×List Ba}{s s':Gs}{p:Px}(h:GCr c d f s p s'):s'.names=s.names∧s'.left=s.left∧s'.vars=s.vars:=by
 obtain⟨ps,h1,_⟩:=h;exact h1.keep
theorem d8{a b c:Gs}(h:b.names=a.names∧b.left=a.left∧b.vars=a.vars)(k:c.names=b.names∧c.left=b.left∧c.vars=b.vars):c.names=a.names∧c.left=a.left∧c.vars=a.vars:=⟨k.1.trans h.1,k.2.1.trans h.2.1,k.2.2.trans h.2.2⟩
theorem mE{l:List Ty}{k:Int}{nm:Ba}{v:SV}{t:Tx}(w:World)(F:Nat→Prop)(h:AllIn w F [lI l,own 61 4 dT (sv v) [t],ce t.v t.kids]):(lI (l++ [.mk k nm v [t] bk [] bk []])).pred w F:=by
 obtain⟨⟨_,a0,b0⟩,⟨_,a1,b1⟩,⟨_,a2,b2⟩,_⟩:=h;have hny:SlIn' w F 5 eE (sv bk) []∧TysIn w F []:=⟨iH,O⟩
 exact ju (lH a0 b0) ⟨⟨dj a1 b1,kJ a2 b2,O⟩,hny,hny⟩
theorem Iw{l:List Ty}{k:Int}{nm:Ba}{v:SV}{t u:Tx}(w:World)(F:Nat→Prop)(h:AllIn w F [lI l,own 61 4 dT (sv v) [t,u],ce t.v t.kids,ce u.v u.kids]):(lI (l++ [.mk k nm v [t,u] bk [] bk []])).pred w F:=by
 obtain⟨⟨_,a0,b0⟩,⟨_,a1,b1⟩,⟨_,a2,b2⟩,⟨_,a3,b3⟩,_⟩:=h;have hny:SlIn' w F 5 eE (sv bk) []∧TysIn w F []:=⟨iH,O⟩
 exact ju (lH a0 b0) ⟨⟨dj a1 b1,kJ a2 b2,kJ a3 b3,O⟩,hny,hny⟩
theorem EO{l a b:List Ty}{v va vb:SV}{t:Tx}(w:World)(F:Nat→Prop)(h:AllIn w F [lI l,own 61 4 dT (sv v) [t],ce t.v t.kids,own 64 5 eE (sv va) a,lI a,own 64 5 eE (sv vb) b,lI b]):(lI (l++ [.mk 4 oNil v [t] va a vb b])).pred w F:=by
 obtain⟨⟨_,a0,b0⟩,⟨_,a1,b1⟩,⟨_,a2,b2⟩,⟨_,a3,b3⟩,⟨_,a4,b4⟩,⟨_,a5,b5⟩,⟨_,a6,b6⟩,_⟩:=h;exact ju (lH a0 b0) ⟨⟨dj a1 b1,kJ a2 b2,O⟩,⟨dj a3 b3,lH a4 b4⟩,⟨dj a5 b5,lH a6 b6⟩⟩
theorem EP{l a:List Ty}{v va:SV}{t:Tx}(w:World)(F:Nat→Prop)(h:AllIn w F [lI l,own 61 4 dT (sv v) [t],ce t.v t.kids,own 64 5 eE (sv va) a,lI a]):(lI (l++ [.mk 4 oNil v [t] va a bk []])).pred w F:=by
 obtain⟨⟨_,a0,b0⟩,⟨_,a1,b1⟩,⟨_,a2,b2⟩,⟨_,a3,b3⟩,⟨_,a4,b4⟩,_⟩:=h;exact ju (lH a0 b0) ⟨⟨dj a1 b1,kJ a2 b2,O⟩,⟨dj a3 b3,lH a4 b4⟩,⟨iH,O⟩⟩
abbrev vJ(x:Ba)(v:SV)(n:Int):Ty:= .mk 1 x v [qR n] bk [] bk []
abbrev lJ(x:Ba)(v u:SV):Ty:= .mk 2 x v [EK dR u (mc x) (qR 1)] bk [] bk []
abbrev ob(x:Ba)(v vb:SV)(b:List Ty):Ty:= .mk 5 oNil v [mc x] vb b bk []
theorem Iv{l a:List Ty}{x:Ba}{v0 v1 v2 v3 vb:SV}{n:Int}(w:World)(F:Nat→Prop)(h:AllIn w F [lI l,own 61 4 dT (sv v0) [qR n],own 61 4 dT (sv v1) [mc x],lI a,own 61 4 dT (sv v2) [mc x,qR 1],own 61 4 dT (sv v3) [EK dR v2 (mc x) (qR 1)],own 64 5 eE (sv vb) (a++ [lJ x v3 v2])]):
  (lI (l++ [vJ x v0 n,ob x v1 vb (a++ [lJ x v3 v2])])).pred w F:=by
 obtain⟨⟨_,a0,b0⟩,⟨_,a1,b1⟩,⟨_,a2,b2⟩,⟨_,a3,b3⟩,⟨_,a4,b4⟩,⟨_,a5,b5⟩,⟨_,a6,b6⟩,_⟩:=h;have hny:SlIn' w F 5 eE (sv bk) []∧TysIn w F []:=⟨iH,O⟩
 have hx:TxIn w F (mc x):=⟨iH,O⟩
 have hn:∀n,TxIn w F (qR n):=fun _=>⟨iH,O⟩
 have hb:TxIn w F (EK dR v2 (mc x) (qR 1)):=⟨dj a4 b4,hx,hn 1,O⟩
 have h1:TyIn w F (vJ x v0 n):=⟨⟨dj a1 b1,hn n,O⟩,hny,hny⟩
 have h2:TyIn w F (lJ x v3 v2):=⟨⟨dj a5 b5,hb,O⟩,hny,hny⟩
 have h3:TyIn w F (ob x v1 vb (a++ [lJ x v3 v2])):=⟨⟨dj a2 b2,hx,O⟩,⟨dj a6 b6,ju (lH a3 b3) h2⟩,hny⟩
 have:=ju (ju (lH a0 b0) h1) h3;rw [List.append_assoc]at this;exact this
theorem iR{c:Gc}{lev many i:Nat}{s s1 s0 s':Gs}{k:Int}{out o:List Py}(hi:i<many)(hleft:0<s.left)(hk:gN c.l 12 {s with left:=s.left-1}=(k,s1))(h1:G1r c lev k s1 o s')(hinv:∀r s2,GLr c lev (many-i) s r s2→GLr c lev many s0 (out++r) s2):∀r s2,GLr c lev (many-(i+1)) s' r s2→GLr c lev many s0 ((out++o)++r) s2:=fun r s2 h=>by
 rw [List.append_assoc];refine hinv _ _ ?_;rw [show many-i=(many-(i+1))+1 by omega];exact .step hleft hk h1 h
structure GKp(s s':Gs):Prop where
 inv:GInv s'
 left:s'.left≤s.left
 diff:(s'.names.length:Int)-s'.vars=(s.names.length:Int)-s.vars
theorem GKp.of{s s':Gs}(h:GInv s)(k:s'.names=s.names∧s'.left=s.left∧s'.vars=s.vars):GKp s s':=⟨h.same k,by rw [k.2.1];exact Int.le_refl _,by rw [k.1,k.2.2]⟩
theorem GKp.trans{a b c:Gs}(h:GKp a b)(k:GKp b c):GKp a c:=⟨k.inv,Int.le_trans k.left h.left,k.diff.trans h.diff⟩
theorem GInv.var{s:Gs}(h:GInv s)(hv:s.vars<8):GInv {s with vars:=s.vars+1}:=⟨by show 0≤s.vars+1;have:=h.v0;omega,by show s.vars+1≤8;omega,by show(s.names.length:Int)≤100+(s.vars+1);have:=h.nm;omega,h.lf⟩
theorem GKp.more{s s':Gs}{x:Ba}(h:GInv s)(k:GKp {s with vars:=s.vars+1} s'):GKp s {s' with names:=s'.names++ [x]}:=by
 have hd:(s'.names.length:Int)-s'.vars=(s.names.length:Int)-(s.vars+1):=k.diff;have hn:=h.nm;have hl:((s'.names++ [x]).length:Int)=(s'.names.length:Int)+1:=by rw [bG,cE];rfl
 exact⟨⟨k.inv.v0,k.inv.v8,by show((s'.names++ [x]).length:Int)≤100+s'.vars;omega,k.inv.lf⟩,k.left,by show((s'.names++ [x]).length:Int)-s'.vars=_;omega⟩
mutual
theorem GYr.inv{c:Gc}:∀{e:Nat}{s s':Gs}{o:List Py},GYr c e s o s'→GInv s→GKp s s'
 | _,_,_,_,.mk hj h,hi=>(GKp.of hi (bR hj)).trans (h.inv (hi.same (bR hj)))
theorem GLr.inv{c:Gc}:∀{e n:Nat}{s s':Gs}{o:List Py},GLr c e n s o s'→GInv s→GKp s s'
 | _,_,_,_,_,.zero,hi=>GKp.of hi ⟨rfl,rfl,rfl⟩
 | _,_,_,_,_,.stop _,hi=>GKp.of hi ⟨rfl,rfl,rfl⟩
 | _,_,s,_,_,.step hl hk h1 h2,hi=>by
  have hi2:GInv {s with left:=s.left-1}:=⟨hi.v0,hi.v8,hi.nm,by show s.left-1≤1000;have:=hi.lf;omega⟩
  have k0:GKp s {s with left:=s.left-1}:=⟨hi2,by show s.left-1≤s.left;omega,rfl⟩
  have k1:=GKp.of hi2 (bR hk);have k2:=h1.inv k1.inv;exact((k0.trans k1).trans k2).trans (h2.inv k2.inv)
theorem G1r.inv{c:Gc}:∀{e:Nat}{k:Int}{s s':Gs}{o:List Py},G1r c e k s o s'→GInv s→GKp s s'
 | _,_,s,_,_,.var _ _ hv hp,hi=>GKp.more hi (GKp.of (hi.var hv) hp.keep)
 | _,_,_,_,_,.set _ hj _ hp,hi=>GKp.of hi (d8 (bR hj) hp.keep)
 | _,_,_,_,_,.put _ hp hq,hi=>GKp.of hi (d8 hp.keep hq.keep)
 | _,_,_,_,_,.iff1 hp ha hj hb,hi=>by
  have k1:=GKp.of hi hp.keep;have k2:=ha.inv k1.inv;have k3:=GKp.of k2.inv (bR hj);exact((k1.trans k2).trans k3).trans (hb.inv k3.inv)
 | _,_,_,_,_,.iff0 hp ha hj _,hi=>by
  have k1:=GKp.of hi hp.keep;have k2:=ha.inv k1.inv;exact(k1.trans k2).trans (GKp.of k2.inv (bR hj))
 | _,_,s,_,_,.whi _ hv hj ha,hi=>by
  have k1:=GKp.of (hi.var hv) (bR hj);exact GKp.more hi (k1.trans (ha.inv k1.inv))
 | _,_,_,_,_,.ret hj hp,hi=>GKp.of hi (d8 (bR hj) hp.keep)
 | _,_,s,_,_,.dos (s2:=s2) (s3:=s3) _ hj hj2 hf hp,hi=>by
  have k1:s3.names=s2.names∧s3.left=s2.left∧s3.vars=s2.vars:=by
   rcases hf with⟨_,_,h⟩|⟨_,j3,h,_⟩
   ·rw [h];exact⟨J,J,J⟩
   ·exact bR h
  exact GKp.of hi (d8 (d8 (d8 (bR hj) (bR hj2)) k1) hp.keep)
 | _,_,s,_,_,.out (s1:=s1) _ _ _ _ _ _ h8 _ hp,hi=>by
  have k1:s1.names=s.names∧s1.left=s.left∧s1.vars=s.vars:=by
   rcases h8 with⟨_,h⟩|⟨_,j,_,h⟩
   ·rw [h];exact⟨J,J,J⟩
   ·exact bR h
  exact GKp.of hi (d8 k1 hp.keep)
end
def RM(c:Nat)(vp:SV)(fs:List Tf)(v:SV)(l:List Ty):Prop:=∀(vn:SV)(ns:List Ba),ns.length+dg l≤1000000→Spec prog 60 [Pt c,sv v] [bh c 128 [sv vp,sv vn],own 9 1 eS (sv vn) ns] [bV v l,cx vp fs] (X:=SV×List Ba) (fun x=>(cV fs ns l).2=0→x.2=(cV fs ns l).1) (fun _=>I6 (cV fs ns l).2) (fun x=> [bh c 128 [sv vp,sv x.1],own 9 1 eS (sv x.1) x.2]) (fun _=> [])
theorem I8{A B C D D':Asn}(h:∀w G,D.pred w G→D'.pred w G):∀(i:Nat)(X:Asn),([A,D',B,C]:List Asn)[i]?=some X→∃Y,([A,D,B,C]:List Asn)[i]?=some Y∧∀w G,Y.pred w G→X.pred w G
 | 0,X,hX=>⟨A,rfl,by cases hX;exact fun _ _ h=>h⟩
 | 1,X,hX=>⟨D,rfl,by cases hX;exact h⟩
 | 2,X,hX=>⟨B,rfl,by cases hX;exact fun _ _ h=>h⟩
 | 3,X,hX=>⟨C,rfl,by cases hX;exact fun _ _ h=>h⟩
 | i+4,X,hX=>by simp at hX
theorem E1(c:Nat)(vp vn:SV)(fs:List Tf)(ns:List Ba)(hfl:fs.length≤1000000)(hns:ns.length≤1000000)(t:Tx)(ht:GX t):Spec prog 106 [Pt c,xV t] [] [bh c 128 [sv vp,sv vn],own 9 1 eS (sv vn) ns,cx vp fs,ce t.v t.kids] (X:=Unit) (fun _=>True) (fun _=>I6 (eX fs ns t)) (fun _=> []) (fun _=> []):=
 Spec.roAll (ID c vp vn fs ns hfl hns t ht) (I8 bO)
theorem hQ{fs:List Tf}{ns ns2:List Ba}{l:List Ty}{i:Nat}{st:Ty}{z:Int}(hst:l[i]?=some st)(h:cV fs ns (l.take i)=(ns2,0))(hz:(bY fs ns2 st).2=z)(hz0:z≠0):(cV fs ns l).2=z:=by
 have h1:=pi fs ns (l.take (i+1)) (l.drop (i+1));rw [List.take_append_drop,tM hst,h]at h1;rw [h1];show fst (fst 0 (bY fs ns2 st).2) _=z;rw [e_,hz,lr hz0]
theorem NX{fs:List Tf}{ns ns2 ns3:List Ba}{l:List Ty}{i:Nat}{st:Ty}(hst:l[i]?=some st)(h:cV fs ns (l.take i)=(ns2,0))(hz:bY fs ns2 st=(ns3,0)):cV fs ns (l.take (i+1))=(ns3,0):=by
 rw [tM hst,h];show((bY fs ns2 st).1,fst 0 (bY fs ns2 st).2)=_;rw [hz];rfl
theorem Rr{fs:List Tf}{ns:List Ba}{st:Ty}(h2:st.kind=2)(hm:cn st.name ns=false):(bY fs ns st).2=21:=by
 rw [vB];show fst (aE ns st) _=21;have h:aE ns st=21:=by unfold aE;rw [ar h2,hm];rfl
 rw [h];rfl
theorem N6{ns:List Ba}{st:Ty}(h:¬(st.kind=2∧cn st.name ns=false)):aE ns st=0:=by
 unfold aE;by_cases h2:st.kind=2
 ·rw [ar h2];by_cases hm:cn st.name ns=true
  ·rw [ar hm]
  ·exact absurd ⟨h2,by simpa using hm⟩ h
 ·rw [ae h2]
theorem S_{ns:List Ba}{st:Ty}(h:¬(st.kind=1∧cn st.name ns=true)):dE ns st=0:=by
 unfold dE;by_cases h2:st.kind=1
 ·rw [ar h2];by_cases hm:cn st.name ns=true
  ·exact absurd ⟨h2,hm⟩ h
  ·rw [ae hm]
 ·rw [ae h2]
theorem Kk{fs:List Tf}{ns:List Ba}{st:Ty}{e:Tx}(h1:st.kind=1)(hm:cn st.name ns=true)(he:st.es= [e]):(bY fs ns st).2=fst (eX fs ns e) 22:=by
 rw [vB];show fst (aE ns st) (fst (ir fs ns st.es) (fst (dE ns st) _))=_;rw [N6 (fun h=>by rw [h1]at h;exact absurd h.1 (by decide)),he];have h:dE ns st=22:=by unfold dE;rw [ar h1,ar hm]
 rw [h];show fst 0 (fst (fst (eX fs ns e) 0) (fst 22 _))=_;rw [e_,cN];rfl
theorem Rp{fs:List Tf}{ns:List Ba}{st:Ty}(ha:¬(st.kind=2∧cn st.name ns=false)){z:Int}(hz:ir fs ns st.es=z)(h0:z≠0):(bY fs ns st).2=z:=by
 rw [vB];show fst (aE ns st) (fst (ir fs ns st.es) _)=_;rw [N6 ha,e_,hz,lr h0]
theorem N1{fs:List Tf}{ns:List Ba}{st:Ty}(ha:¬(st.kind=2∧cn st.name ns=false))(hd:¬(st.kind=1∧cn st.name ns=true))(hz:ir fs ns st.es=0):bY fs ns st=((cV fs (cV fs (dN ns st) st.body).1 st.els).1,fst (cV fs (dN ns st) st.body).2 (cV fs (cV fs (dN ns st) st.body).1 st.els).2):=by
 rw [vB,N6 ha,S_ hd,hz];rfl
theorem MQ{t:Ty}(h:rY t=true)(hk:t.kind≠3):∃e,t.es= [e]:=by
 rw [ml]at h;simp only [Bool.and_eq_true]at h;have h2:=h.1.1.1;unfold uf at h2;simp only [Bool.and_eq_true,decide_eq_true_eq]at h2;have h3:=h2.1.1.1.2;rw [ae hk]at h3;exact List.length_eq_one_iff.1 h3
structure Xn where
 i:Nat
 vn:SV
 ns:List Ba
theorem Ix(c:Nat)(vp:SV)(fs:List Tf)(hfl:fs.length≤1000000)(v:SV)(l:List Ty)(hl:l.length≤1000000)(hg:GYs l)(hr:l.all rY=true)(ih:∀u∈l,RM c vp fs u.vb u.body∧RM c vp fs u.vl u.els)(vn:SV)(ns:List Ba)(hb:ns.length+dg l≤1000000):
  Spec prog 60 [Pt c,sv v] [bh c 128 [sv vp,sv vn],own 9 1 eS (sv vn) ns] [bV v l,cx vp fs] (X:=SV×List Ba) (fun x=>(cV fs ns l).2=0→x.2=(cV fs ns l).1) (fun _=>I6 (cV fs ns l).2) (fun x=> [bh c 128 [sv vp,sv x.1],own 9 1 eS (sv x.1) x.2]) (fun _=> []):=by
 refine aI func60 J ntmps60 J fun w0 M H=>aZ 0 2 J ic (ap (ak J (aa (aT (ak J (aa (aB (bC (X:=Xn) (fun x=>x.i≤l.length∧cV fs ns (l.take x.i)=(x.ns,0)) (fun x=> [(0,Pt c),(1,sv v),(5,I6 (x.i:Int))]) (fun x=> [(0,bh c 128 [sv vp,sv x.vn]),(1,own 9 1 eS (sv x.vn) x.ns)]) (fun x=> [(0,bV v l),(2,sl 5 eE (sv v) l),(1,cx vp fs)]) (fun x=>l.length-x.i) ⟨0,vn,ns⟩ ⟨br _,J⟩ J J J (fun x hx0=> ?_)))))))))
 obtain⟨i,vn2,ns2⟩:=x;obtain⟨n1,n2⟩:=hx0;dsimp only at n1 n2 ⊢;have hnl2:ns2.length=ns.length+dg (l.take i):=by have h:=lC fs ns (l.take i);rw [n2]at h;exact h
 have hvl2:=kc (l.take i) (l.drop i);rw [List.take_append_drop]at hvl2;refine aT (ad J (ad J (aP (aS underlying62 J (aK (k:=2) J)) (aw J J cr (aa (ai J (fun h1=> ?_) (fun h1=> ?_)))))))
 ·(try simp only [bj]at h1);have hi:i<l.length:=by omega
  obtain⟨st,hst⟩:∃k,l[i]?=some k:=⟨_,bN hi⟩
  have hsm:=bT hst;have hsg:=pn (hg.mem st hsm);have hry:rY st=true:=List.all_eq_true.1 hr st hsm;have hvb:=kc (l.take (i+1)) (l.drop (i+1));rw [List.take_append_drop,kI hst]at hvb;have hvs:=EF st;refine aZ 0 7 J (kZ hsm) (aZ 0 8 J (gS hsm) (aZ 0 9 J (iO hsm) (aZ 7 10 J gd (az (a_ (aB (ap (ad J (ad J (aP (aN (j:=i) underlying62 dK J J (aK (k:=2) J) (by first|rfl|omega) (by first|omega|(simp;done)|(simp;omega))) (aP (aM dK J J J (bA (aK (k:=2) J) (by intro _;rfl) hst (by rfl))) (aY dK J J fun b6=>aq (k:=6) dK J J J J J J (aa (a_ (bJ [22,23,24,25,26,27,28,7] _ J (aW (V:= [(0,22,_),(1,23,_),(2,24,_),(3,25,_),(4,26,_),(5,27,_)]) [0,1,2,3,4,5] 6 [6,5,4,3,2,1,0] [7] (fun _=> [(7,7,_)]) J J (ac J (ag iK J) (ac J (ah t9 J J (ay (k:=6) J J)) (aD J J (ac J (au J) (ac J (ag jz J) (ac J (ah gO J J (ay (k:=0) J J)) av)))))) J J J J J J J J J J J (fun _ _=>J) J (bB (xs:= [.tmp 23,.tmp 27]) (m7 st.name vn2 ns2 (by omega)) A2 [] [(true,1)] []) (fun _ _=>bl [7] J J (ac J (cA J) av) J J J (a_ (a_ ?_)))))))))))))))))));refine am (aC eM J (aQ 6 t3 J J J J (aw J J bn (ad J (aG [] J J O (fun hg2=>bc J) J (aG [(33,_)] J J ⟨J,O⟩ (fun hg3=>cz J) J (aP (bH J J J) (aa (ai J (fun h4=> ?_) (fun h4=> ?_))))))))))
  ·have q2:st.kind=2∧cn st.name ns2=false:=by simpa using h4
   refine ap (ak J (aa (ax (aH (vn2,ns2) (fun h=>absurd h (by rw [hQ hst n2 (Rr q2.1 q2.2) (by decide)];exact(by decide))) J (bQ (aL J)) (by rw [hQ hst n2 (Rr q2.1 q2.2) (by decide)]) [0,1] [] J J J))))
  ·have q2:¬(st.kind=2∧cn st.name ns2=false):=by rintro ⟨a,b⟩;rw [decide_eq_true a,b]at h4;exact absurd h4 (by simp)
   refine az (aT (aC eM J (aQ 6 t3 J J J J (aw J J bn (ad J (aG [] J J O (fun hg5=>bc J) J (aP (bH J J J) (aa (ai J (fun h6=> ?_) (fun h6=> ?_))))))))))
   ·have q3:st.kind=1∧cn st.name ns2=true:=by simpa using h6
    obtain⟨e,hes⟩:=MQ hry (by rw [q3.1];decide);have he0:st.es[0]?=some e:=by rw [hes];rfl
    refine ap (ad J (aC gj J (aQ 6 jh J J J J (aP (aN (j:=0) underlying59 cl J J (aK (k:=10) J) J (by rw [hes];exact Nat.zero_lt_one)) (aP (aM cl J J J (bA (aK (k:=10) J) (by intro _;rfl) he0 (by rfl))) ?_)))));have hum:e∈st.es:=bT he0;refine aZ 7 11 J (dD hum) (aj (xs:= [.tmp 42,.tmp 46]) (E1 c vp vn2 fs ns2 hfl (by omega) e (hsg.2.mem e hum)) Hq [] [(true,0),(true,1),(false,1),(false,11)] [] (fun _ _=>ak J (aa (aT (ad J (aw J J eD (aa (ai J (fun h7=> ?_) (fun h7=> ?_)))))))))
    ·(try simp only [bj]at h7);have q4:eX fs ns2 e≠0:=h7;refine ap (ad J (ak J (aa (ax (aH (vn2,ns2) (fun h=>absurd h (by rw [hQ hst n2 (z:=eX fs ns2 e) (by rw [Kk q3.1 q3.2 hes,lr q4]) q4];exact q4)) J (bQ (aL J)) (by rw [hQ hst n2 (z:=eX fs ns2 e) (by rw [Kk q3.1 q3.2 hes,lr q4]) q4]) [0,1] [] J J J)))))
    ·(try simp only [bj]at h7);have q4:eX fs ns2 e=0:=h7;refine az (ap (ak J (aa (ax (aH (vn2,ns2) (fun h=>absurd h (by rw [hQ hst n2 (z:=22) (by rw [Kk q3.1 q3.2 hes,q4];rfl) (by decide)];exact(by decide))) J (bQ (aL J)) (by rw [hQ hst n2 (z:=22) (by rw [Kk q3.1 q3.2 hes,q4];rfl) (by decide)]) [0,1] [] J J J)))))
   ·have q3:¬(st.kind=1∧cn st.name ns2=true):=by rintro ⟨a,b⟩;rw [decide_eq_true a,b]at h6;exact absurd h6 (by simp)
    refine az (aT (ak J (aa (aB (bC (X:=Nat) (fun j=>j≤st.es.length∧ir fs ns2 (st.es.take j)=0) (fun j=> [(0,Pt c),(1,sv v),(5,I6 (i:Int)),(6,Pt b6),(7,.bool (cn st.name ns2)),(9,I6 (j:Int))]) (fun j=> [(0,bh c 128 [sv vp,sv vn2]),(1,own 9 1 eS (sv vn2) ns2),(6,bh b6 64 (eE st))]) (fun j=> [(0,bV v l),(2,sl 5 eE (sv v) l),(1,cx vp fs),(7,ce st.ve st.es),(8,bV st.vb st.body),(9,bV st.vl st.els),(10,sl 4 dT (sv st.ve) st.es)]) (fun j=>st.es.length-j) 0 ⟨br _,J⟩ J J J (fun j hy0=> ?_))))));obtain⟨n3,n4⟩:=hy0;refine aT (ad J (aC gj J (aQ 6 jh J J J J (aP (aS underlying59 J (aK (k:=10) J)) (aw J J cr (aa (ai J (fun h8=> ?_) (fun h8=> ?_))))))))
    ·(try simp only [bj]at h8);have hj:j<st.es.length:=by omega
     obtain⟨u,hu⟩:∃k,st.es[j]?=some k:=⟨_,bN hj⟩
     have hum:=bT hu;refine az (a_ (aB (ap (ad J (aC gj J (aQ 6 jh J J J J (ad J (aP (aN (j:=j) underlying59 cl J J (aK (k:=10) J) (by first|rfl|omega) (by first|omega|(simp;done)|(simp;omega))) (aP (aM cl J J J (bA (aK (k:=10) J) (by intro _;rfl) hu (by rfl))) (aZ 7 11 J (dD hum) (aj (xs:= [.tmp 58,.tmp 63]) (E1 c vp vn2 fs ns2 hfl (by omega) u (hsg.2.mem u hum)) Hq [] [(true,0),(true,1),(false,1),(false,11)] [] (fun _ _=>ak J (aF J (ad J (aw J J eD (aa ?_))))))))))))))));refine ai J (fun h9=> ?_) (fun h9=> ?_)
     ·(try simp only [bj]at h9);have q6:eX fs ns2 u≠0:=h9;refine ap (ad J (ak J (aa (ax (aH (vn2,ns2) (fun h=>absurd h (by rw [hQ hst n2 (Rp q2 (w4 hu n4 q6) q6) q6];exact q6)) J (bQ (aL J)) (by rw [hQ hst n2 (Rp q2 (w4 hu n4 q6) q6) q6]) [0,1] [] J J J)))))
     ·(try simp only [bj]at h9);have q6:eX fs ns2 u=0:=h9;refine az (am (ad J (aw J J aO (ak J (aa ?_)))));refine aJ (j+1) ⟨⟨by omega,by rw [mz hu,n4,q6];rfl⟩,by omega⟩ J J J
    ·(try simp only [bj]at h8);have hj:j=st.es.length:=by omega
     subst hj;rw [cS]at n4;refine bF (bx (X:=SV) (fun _=>True) (fun y=> [(0,Pt c),(1,sv v),(5,I6 (i:Int)),(6,Pt b6)]) (fun y=> [(0,bh c 128 [sv vp,sv y]),(1,own 9 1 eS (sv y) (dN ns2 st)),(6,bh b6 64 (eE st))]) (fun y=> [(0,bV v l),(2,sl 5 eE (sv v) l),(1,cx vp fs),(7,ce st.ve st.es),(8,bV st.vb st.body),(9,bV st.vl st.els),(10,sl 4 dT (sv st.ve) st.es)]) ?_ (fun vn3 _=> ?_))
     ·refine ap (aC eM J (aQ 6 t3 J J J J (aw J J bn (aa (ai J (fun h10=> ?_) (fun h10=> ?_))))))
      ·have q7:st.kind=1:=bW h10;refine bJ [71,72,73,74,75,76,77,78,79,80,81] _ J (aW (V:= [(0,71,_),(1,72,_),(2,73,_),(3,74,_),(4,75,_),(5,76,_),(6,77,_)]) [0,1,2,3,4,5,6] 7 [7,6,5] [] (fun v78=> []) J J (aD J J (aD J J (ac J (au J) (ac J (ag jz J) (ac J (ah gO J J (ay (k:=0) J J)) (ac J (ag iK J) (ac J (ah t9 J J (ay (k:=6) J J)) av))))))) J J J J J J J J J J J (fun _ _=>J) J (dH eS st.name underlying46 t9 J (by decide) (by decide) J J J) (fun v78 _=>aW [0,1,2,3,4] 8 [8,7,6,5,4,3,2,1] [9,10] (fun v79=> [(9,80,_),(10,81,_)]) J J (aD J J (aD J J (ac J (au J) (ac J (ag jz J) (ac J (ah gO J J (ay (k:=0) J J)) av))))) J J J J J J J J J J J (fun _ _=>J) J (gC 1 underlying46 t9 J (by decide) (fun _=>J) (fun _=>J) J J J (be (k:=78) J) (by simp only [cE];omega) (by unfold maxLen;simp only [cE];omega)) (fun v79 _=>bE [9,10,0] 11 [11,10,9,8,7,6,5,4,3,2,1,0] [] (fun _=> []) J J (ac J (au J) (ac J (ag jz J) (aD J J av))) J J J J J J J J J (fun _ _=>J) J (c9 (k:=0) gO J J J J J J J J) (fun _ _=>bl [] J J av J J J ?_))));refine aJ v79 O J (by rw [show dN ns2 st=ns2++ [st.name]from ar q7];rfl) J
      ·have q7:¬st.kind=1:=cg h10;refine az (aJ vn2 O J (by rw [show dN ns2 st=ns2 from ae q7];rfl) J)
     ·refine ap (ad J (aC ft J (aQ 6 iP J J J J (aj (xs:= [.tmp 82,.tmp 84]) ((ih st hsm).1 vn3 (dN ns2 st) (by rw [w_];omega)) NT [0,1] [(false,8),(false,1)] [0,1] (fun⟨vn4,ns4⟩ h4=> ?_)))));dsimp only at h4 ⊢;refine ak J (aa (bx (X:=SV×List Ba) (fun y=>fst (cV fs (dN ns2 st) st.body).2 (cV fs (cV fs (dN ns2 st) st.body).1 st.els).2=0→y.2=(cV fs (cV fs (dN ns2 st) st.body).1 st.els).1) (fun y=> [(0,Pt c),(1,sv v),(5,I6 (i:Int)),(6,Pt b6),(11,I6 (fst (cV fs (dN ns2 st) st.body).2 (cV fs (cV fs (dN ns2 st) st.body).1 st.els).2))]) (fun y=> [(0,bh c 128 [sv vp,sv y.1]),(1,own 9 1 eS (sv y.1) y.2),(6,bh b6 64 (eE st))]) (fun y=> [(0,bV v l),(2,sl 5 eE (sv v) l),(1,cx vp fs),(7,ce st.ve st.es),(8,bV st.vb st.body),(9,bV st.vl st.els),(10,sl 4 dT (sv st.ve) st.es)]) ?_ (fun y hy=> ?_)))
      ·refine ap (ad J (aw J J bn (aa (ai J (fun h11=> ?_) (fun h11=> ?_)))))
       ·(try simp only [bj]at h11);have q8:(cV fs (dN ns2 st) st.body).2=0:=h11;refine am (ad J (aC fq J (aQ 6 iP J J J J (aj (xs:= [.tmp 88,.tmp 90]) ((ih st hsm).2 vn4 ns4 (by rw [h4 q8,lC,w_];omega)) NT [0,1] [(false,9),(false,1)] [0,1] (fun⟨vn5,ns5⟩ h5=> ?_)))));dsimp only at h5 ⊢;rw [h4 q8]at h5 ⊢;refine ak J (aa (aJ (vn5,ns5) (fun h=>h5 (by rw [q8]at h;exact h)) (by rw [q8,e_];rfl) J J))
       ·(try simp only [bj]at h11);have q8:(cV fs (dN ns2 st) st.body).2≠0:=h11;refine az (aJ (vn4,ns4) (fun h=>absurd h (by rw [lr q8];exact q8)) (by rw [lr q8];rfl) J J)
      ·refine ap (ad J (aw J J eD (aa (ai J (fun h12=> ?_) (fun h12=> ?_)))))
       ·(try simp only [bj]at h12);have q9:fst (cV fs (dN ns2 st) st.body).2 (cV fs (cV fs (dN ns2 st) st.body).1 st.els).2≠0:=h12;refine ap (ad J (ak J (aa (ax (aH y (fun h=>absurd h (by rw [hQ hst n2 (z:=fst (cV fs (dN ns2 st) st.body).2 (cV fs (cV fs (dN ns2 st) st.body).1 st.els).2) (by rw [N1 q2 q3 n4]) q9];exact q9)) J (bQ (aL J)) (by rw [hQ hst n2 (z:=fst (cV fs (dN ns2 st) st.body).2 (cV fs (cV fs (dN ns2 st) st.body).1 st.els).2) (by rw [N1 q2 q3 n4]) q9]) [0,1] [] J J J)))))
       ·(try simp only [bj]at h12);have q9:fst (cV fs (dN ns2 st) st.body).2 (cV fs (cV fs (dN ns2 st) st.body).1 st.els).2=0:=h12;refine az (am (ad J (aw J J aO (ak J (aa ?_)))));refine aJ ⟨i+1,y.1,y.2⟩ ⟨⟨by dsimp only;omega,NX hst n2 (by rw [N1 q2 q3 n4,hy q9,q9])⟩,by dsimp only;omega⟩ J J J
 ·(try simp only [bj]at h1);have hi:i=l.length:=by omega
  subst hi;rw [cS]at n2;refine bF (ap (ak J (aa (ax ?_))));refine aH (vn2,ns2) (fun _=>by rw [n2]) J (bQ (aL J)) (by rw [n2]) [0,1] [] J J J
theorem zB(c:Nat)(vp:SV)(fs:List Tf)(hfl:fs.length≤1000000):∀(n:Nat)(v:SV)(l:List Ty),SizeOf.sizeOf l<n→l.length≤1000000→GYs l→l.all rY=true→RM c vp fs v l
 | 0,_,_,h,_,_,_=>absurd h (Nat.not_lt_zero _)
 | n+1,v,l,h,hl,hg,hr=>fun vn ns hb=>Ix c vp fs hfl v l hl hg hr (fun u hu=>by
  have h1:=List.sizeOf_lt_of_mem hu;have h2:SizeOf.sizeOf u.body<SizeOf.sizeOf u∧SizeOf.sizeOf u.els<SizeOf.sizeOf u:=by
   cases u;simp only [Ty.mk.sizeOf_spec,Ty.body,Ty.els];omega
  have h3:=hg.mem u hu;have h4:=List.all_eq_true.1 hr u hu;rw [ml]at h4;simp only [Bool.and_eq_true]at h4;exact⟨zB c vp fs hfl n u.vb u.body (by omega) (eW h3).1 (eW h3).2 h4.1.2,zB c vp fs hfl n u.vl u.els (by omega) (gk h3).1 (gk h3).2 h4.2⟩) vn ns hb
theorem Iy(c:Nat)(vp:SV)(fs:List Tf)(hfl:fs.length≤1000000)(v:SV)(l:List Ty)(hl:l.length≤1000000)(hg:GYs l)(hr:l.all rY=true):RM c vp fs v l:=zB c vp fs hfl _ v l (Nat.lt_succ_self _) hl hg hr
theorem qs{fs l:List Tf}{i:Nat}{f:Tf}{z:Int}(hf:l[i]?=some f)(h0:gt fs (l.take i)=0)(h:kD fs f=z)(hz:z≠0):gt fs l=z:=by
 have h1:=qt fs (l.take (i+1)) (l.drop (i+1));rw [List.take_append_drop,lz hf,h0,e_,h,lr hz]at h1;exact h1
theorem NN{fs:List Tf}{f:Tf}(h:rW f):kD fs f=2:=by rw [m4,ar h];rfl
theorem J9{l:List Ba}{i:Nat}{x:Ba}(hx:l[i]?=some x)(h0:qU [] (l.take i)=0)(h:cn x (l.take i)=true):qU [] l=22:=by
 have h1:=w9 [] (l.take (i+1)) (l.drop (i+1));rw [List.take_append_drop,tx hx,h0,e_,ar h]at h1;exact h1
theorem NL{fs:List Tf}{f:Tf}(h:¬rW f)(h2:qU [] f.ps=22):kD fs f=22:=by rw [m4,ae h,h2];rfl
theorem Hc{fs:List Tf}{f:Tf}(h:¬rW f)(h2:qU [] f.ps=0):kD fs f=(cV fs f.ps f.body).2:=by rw [m4,ae h,h2];rfl
theorem NK{fs:List Tf}(h:rP fs=false):iA fs=1:=by unfold iA;rw [ar h]
theorem NJ{fs:List Tf}(h:rP fs=true)(h2:fs.length>16):iA fs=2:=by unfold iA;rw [ae (by rw [h];simp),ar h2]
theorem qM(vp:SV)(fs:List Tf)(hg:GP fs):
  bi prog 16 [.agg #[sv vp]] [] [cx vp fs] (I6 (iA fs)) []:=by
 refine aI func16 J ntmps16 J fun w0 M H=>aZ 0 1 J jG ?_
 have hgl:=hg.1;refine ap (ck J J fun b1=>ak J (aF J (aP (aM jB J J J (aX (k:=1) J)) (aj (xs:= [.tmp 13]) (xP vp fs hg) Tp [] [(false,0)] [] (fun _ _=>ak J (aa (aT (ad J (aP (cz J) (aa (ai J (fun h1=> ?_) (fun h1=> ?_))))))))))))
 ·have q1:rP fs=false:=by simpa using h1
  refine ap (ak J (aa (ax (aH () O J (bQ (aL J)) (by rw [NK q1]) [] [] J J J))))
 ·have q1:rP fs=true:=by simpa using h1
  refine az (aT (aC dJ J (aQ 1 iB J J J J (aP (aS underlying25 J (aK (k:=1) J)) (aw J J ec (aa (ai J (fun h2=> ?_) (fun h2=> ?_))))))))
  ·(try simp only [bj]at h2);have q2:fs.length>16:=by omega
   refine ap (ak J (aa (ax (aH () O J (bQ (aL J)) (by rw [NJ q1 q2]) [] [] J J J))))
  ·(try simp only [bj]at h2);have q2:¬fs.length>16:=by omega
   refine az (aT (ak J (aa (aB (bC (X:=Nat) (fun i=>i≤fs.length∧∀j f,j<i→fs[j]?=some f→ti fs f.name=(j:Int)) (fun i=> [(1,Pt b1),(4,I6 (i:Int))]) (fun i=> [(1,bh b1 27 [sv vp])]) (fun i=> [(0,cx vp fs),(1,sl 3 ip (sv vp) fs)]) (fun i=>fs.length-i) 0 ⟨br _,fun j f h=>absurd h (Nat.not_lt_zero _)⟩ J J J (fun i hx0=> ?_))))));obtain⟨n1,n2⟩:=hx0;refine aT (ad J (aC dJ J (aQ 1 iB J J J J (aP (aS underlying25 J (aK (k:=1) J)) (aw J J cr (aa (ai J (fun h3=> ?_) (fun h3=> ?_))))))))
   ·(try simp only [bj]at h3);have hi:i<fs.length:=by omega
    obtain⟨f,hf⟩:∃k,fs[i]?=some k:=⟨_,bN hi⟩
    have hfm:=bT hf;refine az (a_ (aB (a_ (bJ [28,29,30,31,32,33,34,35,36,37] _ J (aW (V:= [(0,28,_),(1,29,_),(2,30,_),(3,31,_),(4,32,_),(5,33,_),(6,34,_),(8,36,_)]) [0,1,2,3,4,5,6,8] 7 [7,6,5,4,3,2,1,0] [9] (fun _=> [(9,37,_)]) J J (ac J (aM jB J J J (aX (k:=1) J)) (ac J (ag dJ J) (ac J (ah iB J J (ay (k:=1) J J)) (aD J J (ac J (aN (j:=i) underlying25 fj J J (aK (k:=1) J) (by first|rfl|omega) (by first|omega|(simp;done)|(simp;omega))) (ac J (ek kC J) (ac J (ah t9 J J (ko (aK (k:=1) J) (by intro _;rfl) hf J)) (aD J J av)))))))) J J J J J J J J J J J (fun _ _=>J) J (bB (xs:= [.tmp 28,.tmp 34]) (jR f.name vp fs hg.1) Hg [] [(false,1)] []) (fun _ _=>bl [9,8] J J (ac J (aR J J eD) (aD J J av)) J J J (ai J (fun h4=> ?_) (fun h4=> ?_))))))))
    ·(try simp only [bj]at h4);have q4:¬ti fs f.name=(i:Int):=h4;refine ap (ak J (aa (ax (aH () O J (bQ (aL J)) (by rw [Ha q1 q2 (BI hf q4)]) [] [] J J J))))
    ·(try simp only [bj]at h4);have q4:ti fs f.name=(i:Int):=h4;refine az (am (ad J (aw J J aO (ak J (aa ?_)))));refine aJ (i+1) ⟨⟨by omega,fun j g hj hgj=>by
      by_cases h:j=i
      ·subst h;rw [hf]at hgj;cases hgj;exact q4
      ·exact n2 j g (by omega) hgj⟩,by omega⟩ rfl rfl rfl
   ·(try simp only [bj]at h3);have hi:i=fs.length:=by omega
    subst hi;have q3:once fs=true:=oz.2 fun j g hgj=>n2 j g (cJ.1 hgj).1 hgj
    refine bF (ap (aP (aM jB J J J (aX (k:=1) J)) (aj (xs:= [.tmp 38,.const (Sg (ByteArray.mk #[109,97,105,110]))]) (jR dM vp fs hg.1) Hg [] [(false,1)] [] (fun _ _=>ak J (aa (aT (ad J (aw J J cr (aa (ai J (fun h5=> ?_) (fun h5=> ?_)))))))))))
    ·have hff:cy fs dM=none:=em.1.1 (bW h5);refine ap (ak J (aa (ax (aH () O J (bQ (aL J)) (by rw [Hb q1 q2 q3 hff]) [] [] J J J))))
    ·have hq1:¬ti fs dM<0:=cg h5;obtain⟨fm,hff⟩:∃f,cy fs dM=some f:=by
      cases hf:cy fs dM with
      | none=>exact absurd (em.1.2 hf) hq1
      | some f=>exact⟨f,rfl⟩
     obtain⟨m,hxm,hfx⟩:=em.2 fm hff;have hfmm:=bT hfx;have hml:m<fs.length:=(cJ.1 hfx).1;rw [hxm];refine aZ 0 11 J (l_ hfmm) (aZ 11 12 J ma (az (aT (aC dJ J (aQ 1 iB J J J J (ad J (aP (aN (j:=m) underlying25 fj J J (aK (k:=1) J) J hml) (aP (ek d6 J) (aP (ah gO J J (ko (aK (k:=1) J) (by intro _;rfl) hfx J)) (aP (aS underlying46 J (aK (k:=12) J)) (aw J J ec (aa (ai J (fun h6=> ?_) (fun h6=> ?_))))))))))))))
     ·(try simp only [bj]at h6);have q6:fm.ps.length>0:=by omega
      refine ap (ak J (aa (ax (aH () O J (bQ (aL J)) (by rw [G_ q1 q2 q3 hff q6]) [] [] J J J))))
     ·(try simp only [bj]at h6);have q6:¬fm.ps.length>0:=by omega
      refine az (aT (ak J (aa (aB (bC (X:=Nat) (fun i=>i≤fs.length∧gt fs (fs.take i)=0) (fun i=> [(1,Pt b1),(6,I6 (i:Int))]) (fun i=> [(1,bh b1 27 [sv vp])]) (fun i=> [(0,cx vp fs),(1,sl 3 ip (sv vp) fs)]) (fun i=>fs.length-i) 0 ⟨br _,J⟩ J J J (fun i hx0=> ?_))))));obtain⟨n1,n2⟩:=hx0;refine aT (ad J (aC dJ J (aQ 1 iB J J J J (aP (aS underlying25 J (aK (k:=1) J)) (aw J J cr (aa (ai J (fun h7=> ?_) (fun h7=> ?_))))))))
      ·(try simp only [bj]at h7);have hi:i<fs.length:=by omega
       obtain⟨f,hf⟩:∃k,fs[i]?=some k:=⟨_,bN hi⟩
       have hfm:=bT hf;have hgf:=hg.2 f hfm;have hpl:=hgf.2.2.1;have hsum:=hgf.2.2.2.2.2;have hvn:=jd f.body;have hdn:=nP f.body;have hbr:f.body.all rY=true:=by
        have h:=List.all_eq_true.1 q1 f hfm;rw [wk]at h;simp only [Bool.and_eq_true]at h;exact h.2
       refine aZ 0 7 J (l_ hfm) (aZ 7 8 J ma (aZ 7 9 J k8 (az (a_ (aB (ap (aC dJ J (aQ 1 iB J J J J (ad J (aP (aN (j:=i) underlying25 fj J J (aK (k:=1) J) (by first|rfl|omega) (by first|omega|(simp;done)|(simp;omega))) (aP (aM fj J J J (bA (aK (k:=1) J) (by intro _;rfl) hf (by rfl))) (aY fj J J fun b7=>aq (k:=7) fj J J J J J J (aF J (aC jl J (aQ 7 iP J J J J ?_)))))))))))))));refine aj (xs:= [.tmp 63]) (tX f.vb f.body hgf.2.2.2.1 hgf.2.2.2.2.1 (by omega)) D6 [] [(false,9)] [] (fun _ _=>aY ge J J fun b8=>aq (k:=8) ge J J J J J J (aa (aT (aC d6 J (aQ 7 gO J J J J (aP (aS underlying46 J (aK (k:=8) J)) (aw J J ec (ad J (aG [] J J O (fun hg8=>ag d6 J) J (aG [(70,_)] J J ⟨J,O⟩ (fun hg9=>ah gO J J (ay (k:=7) J J)) J (aG [(70,_),(71,_)] J J ⟨J,J,O⟩ (fun hg10=>aS underlying46 J (aK (k:=8) J)) J (aG [(70,_),(71,_),(72,_)] J J ⟨J,J,J,O⟩ (fun hg11=>ag oY J) J (aG [(70,_),(71,_),(72,_),(73,_)] J J ⟨J,J,J,J,O⟩ (fun hg12=>ah t3 J J (ay (k:=8) J J)) J (aG [(70,_),(71,_),(72,_),(73,_),(74,_)] J J ⟨J,J,J,J,J,O⟩ (fun hg13=>aR J J aO) J (aG [(70,_),(71,_),(72,_),(73,_),(74,_),(75,_)] J J ⟨J,J,J,J,J,J,O⟩ (fun hg14=>aR J J ec) J (aP (bH J J J) ?_))))))))))))))));refine ad J (aG [] J J O (fun hg15=>ag lx J) J (aG [(79,_)] J J ⟨J,O⟩ (fun hg16=>ah t3 J J (ay (k:=8) J J)) J (aG [(79,_),(80,_)] J J ⟨J,J,O⟩ (fun hg17=>aR J J ec) J (aP (bH J J J) (ad J (aG [] J J O (fun hg18=>ag oX J) J (aG [(84,_)] J J ⟨J,O⟩ (fun hg19=>ah t3 J J (ay (k:=8) J J)) J (aG [(84,_),(85,_)] J J ⟨J,J,O⟩ (fun hg20=>aR J J ec) J (aP (bH J J J) (ad J (aG [] J J O (fun hg21=>ag oV J) J (aG [(89,_)] J J ⟨J,O⟩ (fun hg22=>ah t3 J J (ay (k:=8) J J)) J (aG [(89,_),(90,_)] J J ⟨J,J,O⟩ (fun hg23=>aR J J ec) J (aP (bH J J J) (aa (ai J (fun h24=> ?_) (fun h24=> ?_)))))))))))))))))
       ·(try simp only [bj]at h24);have q8:rW f:=by rw [CT];omega
        refine ap (ak J (aa (ax (aH () O J (bQ (aL J)) (by rw [yL q1 q2 q3 hff q6,qs hf n2 (NN q8) (by decide)]) [] [] J J J))))
       ·(try simp only [bj]at h24);have q8:¬rW f:=by rw [CT];omega
        refine az (ap (aP (aM jB J J J (aX (k:=1) J)) (aP (aU (parts:= [(0,.tmp 93)]) R3 Pi J J) (ck J J fun b95=>ak J (aa (aT (ak J (aa (aB (cZ 20 (α:=Ba) (S:=9) (s:=1) (enc:=eS) (bC (X:=Nat×SV) (fun x=>x.1≤f.ps.length∧qU [] (f.ps.take x.1)=0) (fun x=> [(1,Pt b1),(6,I6 (i:Int)),(7,Pt b7),(9,Pt b95),(10,I6 (x.1:Int))]) (fun x=> [(1,bh b1 27 [sv vp]),(7,bh b7 66 (ip f)),(95,bh b95 128 [sv vp,sv x.2]),(20,own 9 1 eS (sv x.2) (f.ps.take x.1))]) (fun x=> [(0,cx vp fs),(1,sl 3 ip (sv vp) fs),(7,Bn f),(8,sl 1 eS (sv f.vp) f.ps),(9,bV f.vb f.body)]) (fun x=>f.ps.length-x.1) (0,bk) ⟨br _,J⟩ J J J (fun x hy0=> ?_))))))))))));obtain⟨j,vn⟩:=x;obtain⟨n3,n4⟩:=hy0;dsimp only at n3 n4 ⊢;refine aT (ad J (aC d6 J (aQ 7 gO J J J J (aP (aS underlying46 J (aK (k:=8) J)) (aw J J cr (aa (ai J (fun h25=> ?_) (fun h25=> ?_))))))))
        ·(try simp only [bj]at h25);have hj:j<f.ps.length:=by omega
         obtain⟨x,hx⟩:∃k,f.ps[j]?=some k:=⟨_,bN hj⟩
         refine az (a_ (aB (a_ ?_)));refine bJ [103,104,105,106,107,108,109,110,111,112,11] _ J (aW (V:= [(0,103,_),(1,104,_),(2,105,_),(3,106,_),(4,107,_),(5,108,_),(6,109,_),(7,110,_),(8,111,_)]) [0,1,2,3,4,5,6,7,8] 9 [9,8,7,6,5,4,3,2,1,0] [10] (fun _=> [(10,11,_)]) J J (ac J (ag d6 J) (ac J (ah gO J J (ay (k:=7) J J)) (aD J J (ac J (aN (j:=j) underlying46 t9 J J (aK (k:=8) J) (by first|rfl|omega) (by first|omega|(simp;done)|(simp;omega))) (ac J (ah t9 J J (bA (aK (k:=8) J) (by intro _;rfl) hx (by rfl))) (aD J J (ac J (au J) (ac J (ag jz J) (ac J (ah gO J J (ay (k:=95) J J)) av))))))))) J J J J J J J J J J J (fun _ _=>J) J (bB (xs:= [.tmp 107,.tmp 111]) (m7 x vn (f.ps.take j) (by rw [List.length_take];omega)) A2 [] [(true,20)] []) (fun _ _=>bl [10] J J (ac J (cA J) av) J J J ?_));refine aT (ad J (aa (ai J (fun h26=> ?_) (fun h26=> ?_))))
         ·have q10:cn x (f.ps.take j)=true:=h26;refine ap (ak J (aa (ax (aH () O J (bQ (aL J)) (by rw [yL q1 q2 q3 hff q6,qs hf n2 (NL q8 (J9 hx n4 q10)) (by decide)]) [] [] J J J))))
         ·have q10:cn x (f.ps.take j)=false:=h26;refine az ?_;refine bJ [114,115,116,117,118,119,120,121,122,123,124,125,126,127] _ J (aW (V:= [(0,114,_),(1,115,_),(2,116,_),(3,117,_),(4,118,_),(5,119,_),(6,120,_),(7,121,_),(8,122,_),(9,123,_)]) [0,1,2,3,4,5,6,7,8,9] 10 [10,9,8,7,6,5] [] (fun v124=> []) J J (aD J J (aD J J (ac J (au J) (ac J (ag jz J) (ac J (ah gO J J (ay (k:=95) J J)) (ac J (ag d6 J) (ac J (ah gO J J (ay (k:=7) J J)) (aD J J (ac J (aN (j:=j) underlying46 t9 J J (aK (k:=8) J) (by first|rfl|omega) (by first|omega|(simp;done)|(simp;omega))) (ac J (ah t9 J J (bA (aK (k:=8) J) (by intro _;rfl) hx (by rfl))) av)))))))))) J J J J J J J J J J J (fun _ _=>J) J (dH eS x underlying46 t9 J (by decide) (by decide) J J J) (fun v124 _=>aW [0,1,2,3,4] 11 [11,10,9,8,7,6,5,4,3,2,1] [12,13] (fun v125=> [(12,126,_),(13,127,_)]) J J (aD J J (aD J J (ac J (au J) (ac J (ag jz J) (ac J (ah gO J J (ay (k:=95) J J)) av))))) J J J J J J J J J J J (fun _ _=>J) J (gC 20 underlying46 t9 J (by decide) (fun _=>J) (fun _=>J) J J J (be (k:=124) J) (by rw [List.length_take];simp only [cE];omega) (by unfold maxLen;rw [List.length_take];simp only [cE];omega)) (fun v125 _=>bE [12,13,0] 14 [14,13,12,11,10,9,8,7,6,5,4,3,2,1,0] [] (fun _=> []) J J (ac J (au J) (ac J (ag jz J) (aD J J av))) J J J J J J J J J (fun _ _=>J) J (c9 (k:=95) gO J J J J J J J J) (fun _ _=>bl [] J J av J J J ?_))));refine am (ad J (aw J J aO (ak J (aa ?_))));refine aJ (j+1,v125) ⟨⟨by dsimp only;omega,by dsimp only;rw [tx hx,n4,ae (by rw [q10];simp)];rfl⟩,by dsimp only;omega⟩ J (by dsimp only;rw [cj hx];rfl) J
        ·(try simp only [bj]at h25);have hj:j=f.ps.length:=by omega
         subst hj;rw [cS]at n4;rw [cS];refine bF (ap (ad J (aC jl J (aQ 7 iP J J J J (aj (xs:= [.tmp 128,.tmp 130]) (Iy b95 vp fs hg.1 f.vb f.body hgf.2.2.2.1 hgf.2.2.2.2.1 hbr vn f.ps (by omega)) NT [95,20] [(false,9),(false,0)] [95,20] (fun⟨vn2,ns2⟩ _=> ?_))))));dsimp only;refine ak J (aF J (ad J (aw J J eD (aa (ai J (fun h27=> ?_) (fun h27=> ?_))))))
         ·(try simp only [bj]at h27);have q11:(cV fs f.ps f.body).2≠0:=h27;refine ap (ad J (ak J (aa (ax (aH () O J (bQ (aL J)) (by rw [yL q1 q2 q3 hff q6,qs hf n2 (Hc q8 n4) q11]) [] [] J J J)))))
         ·(try simp only [bj]at h27);have q11:(cV fs f.ps f.body).2=0:=h27;refine az (am (ad J (aw J J aO (ak J (aa ?_)))));refine aJ (i+1) ⟨⟨by omega,by rw [lz hf,n2,Hc q8 n4,q11];rfl⟩,by omega⟩ J J J
      ·(try simp only [bj]at h7);have hi:i=fs.length:=by omega
       subst hi;rw [cS]at n2;refine bF (ap (ak J (aa (ax (aH () O J (bQ (aL J)) (by rw [yL q1 q2 q3 hff q6,n2]) [] [] J J J)))))
theorem OC{vp vi vo:SV}{mem:Nat→Int}{fuel used er:Int}:((xC vp vi vo mem fuel used er).drop 3).take (((List.range 256).map mem).flatMap eU).length=((List.range 256).map mem).flatMap eU:=by
 rw [Cy,List.map_map];show List.take _ ((List.range 256).map (fun i=>Value.int .u32 (mem i))++_)=_;rw [List.take_append_of_le_length (by simp),List.take_of_length_le (by simp)];rfl
theorem IN{α:Type}{b o n:Nat}{S:TypeId}{c:List Value}{enc:α→List Value}{s:Nat}{l:List α}(hl:l.length=n)(hn:n≤maxLen)(hc:(c.drop o).take (l.flatMap enc).length=l.flatMap enc):∀w G,(bh b S c).pred w G→(sl s enc (sv ⟨some ⟨b,o,none⟩,n,n⟩) l).pred w G:=fun w G h=>by
 refine⟨n,by omega,hn,.inr ⟨b,o,by rw [hl];rfl,(h.1 b).2 rfl,fun j u hj=> ?_⟩⟩;simp only [World.cell?,h.2];rw [←hc,List.getElem?_take]at hj;split at hj
 ·rw [List.getElem?_drop]at hj;simpa using hj
 ·simp at hj
theorem LT(m:Nat)(vin vp:SV)(ins:List Int)(fs:List Tf)(fuel:Int):lY ⟨⟨m,0,0,0,vin,ins,fs⟩,vp,fuel⟩ (xS ⟨⟨m,0,0,0,vin,ins,fs⟩,vp,fuel⟩ (BR ins fuel) bk)=xC vp vin bk (fun _=>0) fuel 0 0:=by
 unfold lY xS BR;dsimp only;rw [Nat.sub_self,Int.sub_self];rfl
theorem Fd(vp vin:SV)(fs:List Tf)(ins:List Int)(fuel:Int)(hg:GP fs)(hi:∀x∈ins,oW x)(hil:ins.length≤1000000)(hf: -1000000000000000000≤fuel∧fuel≤1000000000000)(hc:iA fs≠0):
  Spec prog 64 [.agg #[sv vp],sv vin,I6 fuel] [] [cx vp fs,sl 1 eU (sv vin) ins] (X:=SV×SV) (fun _=>True) (fun x=> .agg #[sv x.1,sv x.2,I6 (⟨iA fs,[],[]⟩:Ru).err]) (fun x=> [sl 1 eU (sv x.1) (⟨iA fs,[],[]⟩:Ru).out,sl 1 eU (sv x.2) (⟨iA fs,[],[]⟩:Ru).mem]) (fun _=> []):=by
 refine aI func64 J ntmps64 J fun w0 M H=>ap (ck J J fun b3=>aY pJ J J fun b6=>aF J (aP (aM jB J J J (aX (k:=3) J)) (aj (xs:= [.tmp 9]) (qM vp fs hg) QP [] [(false,0)] [] (fun _ _=>ak J (aa (aT (ad J (aw J J eD (aa (ai J (fun h1=> ?_) (fun h1=> ?_)))))))))))
 ·(try simp only [bj]at h1);refine ap (ad J (aP (aU (parts:= [(2,.tmp 13)]) pJ Fq J J) (aq (k:=6) pJ J J J J J J (aa (ax (cZ 20 (α:=Int) (S:=41) (s:=1) (enc:=eU) (cZ 21 (α:=Int) (S:=41) (s:=1) (enc:=eU) (d7 (k:=20) (A':=sl 1 eU (sv bk) []) J bO (d7 (k:=21) (A':=sl 1 eU (sv bk) []) J bO (aH (bk,bk) O J (bQ (aV pJ J J J (aX (k:=6) J))) J [20,21] [] J J J))))))))))
 ·exact absurd (by simpa using h1) hc
theorem IL(vp vin:SV)(fs:List Tf)(ins:List Int)(fuel:Int)(hg:GP fs)(hi:∀x∈ins,oW x)(hil:ins.length≤1000000)(hf: -1000000000000000000≤fuel∧fuel≤1000000000000)(hc:iA fs=0)(f:Tf)(hm:Fine fs f)(g:Nat)(r:Re Int)(hr:lM g fs 0 f [] (BR ins fuel)=some r):
  Spec prog 64 [.agg #[sv vp],sv vin,I6 fuel] [] [cx vp fs,sl 1 eU (sv vin) ins] (X:=SV×SV) (fun _=>True) (fun x=> .agg #[sv x.1,sv x.2,I6 (Dl r).err]) (fun x=> [sl 1 eU (sv x.1) (Dl r).out,sl 1 eU (sv x.2) (Dl r).mem]) (fun _=> []):=by
 refine aI func64 J ntmps64 J fun w0 M H=>ap (ck J J fun b3=>aY pJ J J fun b6=>aF J (aP (aM jB J J J (aX (k:=3) J)) (aj (xs:= [.tmp 9]) (qM vp fs hg) QP [] [(false,0)] [] (fun _ _=>ak J (aa (aT (ad J (aw J J eD (aa (ai J (fun h1=> ?_) (fun h1=> ?_)))))))))))
 ·exact absurd hc (by simpa using h1)
 ·(try simp only [bj]at h1);refine az (ap (aP (aM jB J J J (aX (k:=3) J)) (ad J (ad J (aP (aU (cs:=(xC vp vin bk (fun _=>0) fuel 0 0).toArray) (parts:= [(0,.tmp 15),(1,.tmp 16),(4,.tmp 17)]) RW Pd J (by kernel_rfl)) (ck J J fun b19=>ak J (aF J (ad J (cZ 1 (α:=Int) (S:=41) (s:=1) (enc:=eU) (IQ 3 (α:=Int) (s:=1) (enc:=eU) ?_))))))))));refine d7 (k:=19) (A':=bh b19 204 (lY (⟨⟨b19,0,0,0,vin,ins,fs⟩,vp,fuel⟩:Rn) (xS (⟨⟨b19,0,0,0,vin,ins,fs⟩,vp,fuel⟩:Rn) (BR ins fuel) bk))) J (fun _ _ h=>by rw [LT];exact h) ?_;refine db (xs:= [.tmp 20,.const (Sg (ByteArray.mk #[109,97,105,110])),.const (.slice Option.none 0 0),.const (I6 1)]) (Ju (e:=(⟨⟨b19,0,0,0,vin,ins,fs⟩,vp,fuel⟩:Rn)) hm.vf hf.1 (by show fuel≤_;omega) (by have:=hm.len;show fs.length≤_;omega) g dM f 0 bk [] (BR ins fuel) bk r hm.main (by simp) (by simp) (by omega) ⟨Af hi hf.2,⟨0,br _,J⟩⟩ hr) LH [19,1] [(false,3),(false,0),(false,1)] [19,1] J J J (fun y hy=> ?_);obtain⟨a,x⟩:=y;dsimp only at hy ⊢;refine aa (aT (ad J (bI J (aC gG J (aQ 19 pr J J J lZ (aw J J eD (aa (ai J (fun h2=> ?_) (fun h2=> ?_)))))))))
  ·(try simp only [bj]at h2);have hz:r= .err x.er:=by
    rcases hy with⟨s2,vo2,z1,z2⟩|⟨z1,z2⟩
    ·dsimp only at z2;rw [z2]at h2;exact absurd J h2
    ·exact z2
   subst hz;refine ap (ad J (bI J (aC gG J (aQ 19 pr J J J lZ (aP (aU (parts:= [(2,.tmp 30)]) pJ Fq J J) (aq (k:=6) pJ J J J J J J (aa (ax (cZ 20 (α:=Int) (S:=41) (s:=1) (enc:=eU) (cZ 21 (α:=Int) (S:=41) (s:=1) (enc:=eU) (d7 (k:=20) (A':=sl 1 eU (sv bk) []) J bO (d7 (k:=21) (A':=sl 1 eU (sv bk) []) J bO (aH (bk,bk) O J (bQ (aV pJ J J J (aX (k:=6) J))) J [20,21] [] J J J)))))))))))))
  ·(try simp only [bj]at h2);obtain⟨s2,vo2,hz,hx1⟩:∃s2 vo2,r= .ok a s2∧x=xS (⟨⟨b19,0,0,0,vin,ins,fs⟩,vp,fuel⟩:Rn) s2 vo2:=by
    rcases hy with h|⟨z1,z2⟩
    ·exact h
    ·exact absurd h2 z1
   subst hz hx1;refine az (a_ (bJ [32,33,34,35,36,37,38,39,40] _ J (bE (V:= [(0,32,_),(1,33,_),(2,34,_),(3,35,_),(4,36,_),(5,37,_),(6,38,_),(7,39,_),(8,40,_)]) [0,1,2,3,4,5,6,7,8] 9 [9,8,7,6,5,4,3,2,1,0] [] (fun _=> []) J J (aD J J (ac J (au J) (ac J (ag wR J) (ac J (ah qS J J (ay (k:=19) J J)) (aD J J (ac J (au J) (ac J (ag wQ J) (ac J (qC underlying202 dm J (by decide)) (ac J (aU (parts:= [(0,.tmp 35),(1,.tmp 39)]) pJ Fq J J) av))))))))) J J J J J J J J J (fun _ _=>J) J (bD (k:=6) pJ J J J J J J) (fun _ _=>bl [] J J av J J J (ax (d7 (k:=19) (A':=sl 1 eU (sv ⟨some ⟨b19,3,none⟩,256,256⟩) ((List.range 256).map s2.mem)) J (IN (by simp) (by unfold maxLen;omega) OC) (d7 (k:=1) (A':=sl 1 eU (sv vo2) s2.out) J bO (aH (vo2,⟨some ⟨b19,3,none⟩,256,256⟩) O J (bQ (aV pJ J J J (aX (k:=6) J))) J [1,19] [] J J J))))))))
theorem Dk(vp vin:SV)(fs:List Tf)(ins:List Int)(fuel:Int)(hg:GP fs)(hi:∀x∈ins,oW x)(hil:ins.length≤1000000)(hf: -1000000000000000000≤fuel∧fuel≤1000000000000)(ru:Ru)(hru:RunIs fs ins fuel ru):
  Spec prog 64 [.agg #[sv vp],sv vin,I6 fuel] [] [cx vp fs,sl 1 eU (sv vin) ins] (X:=SV×SV) (fun _=>True) (fun x=> .agg #[sv x.1,sv x.2,I6 ru.err]) (fun x=> [sl 1 eU (sv x.1) ru.out,sl 1 eU (sv x.2) ru.mem]) (fun _=> []):=by
 cases hru with
 | bad h=>exact Fd vp vin fs ins fuel hg hi hil hf h
 | run f g r h hfm he=>
  obtain⟨f2,hf2⟩:=kS hg h;have:f2=f:=by
   have:=hf2.main;rw [hfm]at this;exact(cf this).symm
  subst this;exact IL vp vin fs ins fuel hg hi hil hf h f2 hf2 g r he
end Go.Proofs.YtedmdgbmdplifaaGreat
